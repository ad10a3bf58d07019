/-
  RightsReads answers true at every string, in every world where the library's table stands.
-/
import Derived.Test.YtcgpnnbmflacnaaDoorPure13
namespace Go.Proofs.YtcgpnnbmflacnaaDoor.S
set_option linter.unusedVariables false
set_option linter.unusedSimpArgs false
open Go.RowKit Go.Proofs.YtcgpnnbmflacnaaDoorW.PrintWords
theorem rightsReads_walk (a0 : ByteArray) (_h : a0.size ≤ 140737488351232) (w : World) (hT : Tabs w) :
    Calls Tryd.prog 3 #[.string a0] w fun e w' => e = .returned (.bool true) ∧ Below w.heap.size w w' :=
  cofferlaw13_RightsReads.calls 200 a0 true w (RightsReads_pure a0) hT
end Go.Proofs.YtcgpnnbmflacnaaDoor.S
