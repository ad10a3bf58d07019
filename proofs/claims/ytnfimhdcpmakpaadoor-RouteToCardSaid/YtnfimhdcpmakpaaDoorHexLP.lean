/-
  Bytes in digits of base sixteen, as lists.
-/
import Derived.Test.YtnfimhdcpmakpaaDoorReadsP
import Derived.Laws.BitsLemmas
import Derived.WalkSpells
namespace Go.Proofs.YtnfimhdcpmakpaaDoor.S
open Go.RowKit Go.Proofs.YtnfimhdcpmakpaaDoorW.PrintWords
set_option linter.unusedVariables false
set_option linter.unusedSimpArgs false
def hx (n : Int) : Int := if n < 10 then 48 + n else 87 + n
def hexl (l : List Int) : List Int := l.flatMap fun c => [hx (c / 16), hx (c % 16)]
end Go.Proofs.YtnfimhdcpmakpaaDoor.S
