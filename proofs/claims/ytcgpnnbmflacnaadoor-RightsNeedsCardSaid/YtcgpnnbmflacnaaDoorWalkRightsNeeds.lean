/-
  RightsNeeds answers true at every int, in every world where the library's table stands.
-/
import Derived.Test.YtcgpnnbmflacnaaDoorPure13b
namespace Go.Proofs.YtcgpnnbmflacnaaDoor.S
open Go.RowKit Go.Proofs.YtcgpnnbmflacnaaDoorW.PrintWords
theorem rightsNeeds_walk (a0 : Int) (_h : (Lit.int .i64 a0).wf = true) (w : World) (hT : Tabs w) :
    Calls Tryd.prog 7 #[.int .i64 a0] w fun e w' => e = .returned (.bool true) ∧ Below w.heap.size w w' :=
  cofferlaw13_RightsNeeds.calls 200 a0 true w (RightsNeeds_pure a0) hT
end Go.Proofs.YtcgpnnbmflacnaaDoor.S
