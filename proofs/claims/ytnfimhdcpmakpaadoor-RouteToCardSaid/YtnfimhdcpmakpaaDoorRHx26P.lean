/-
  The reference's Hex by hand.
-/
import Derived.Test.YtnfimhdcpmakpaaDoorHexLP
import Derived.Test.YtnfimhdcpmakpaaDoorSx1P
import Derived.Deep.QuietTactic
import Derived.BigQuiet
namespace Go.Proofs.YtnfimhdcpmakpaaDoor.S
open Go.RowKit Go.Proofs.YtnfimhdcpmakpaaDoorW.PrintWords
set_option linter.unusedVariables false
set_option linter.unusedSimpArgs false
def xRefHex.f (l : List Int) : Option ByteArray := if l.length ≤ 1048576 ∧ ∀ c ∈ l, 0 ≤ c ∧ c ≤ 255 then some (strOfNums (hexl l)) else none
end Go.Proofs.YtnfimhdcpmakpaaDoor.S
