/-
  Small laws on worlds that the walks by hand use.
-/
import Derived.Test.YtcgpnnbmflacnaaDoorWWords
import Derived.Lib.Hide
namespace Go.Proofs.YtcgpnnbmflacnaaDoor.S
open Go.RowKit Go.Proofs.YtcgpnnbmflacnaaDoorW.PrintWords
set_option linter.unusedVariables false
set_option linter.unusedSimpArgs false

theorem bthen {w w1 w2 : World} (h : Below w.heap.size w w1) (k : Below w1.heap.size w1 w2) : Below w.heap.size w w2 := below_then h h.size k
end Go.Proofs.YtcgpnnbmflacnaaDoor.S
