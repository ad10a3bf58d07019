/-
  RightsLattice answers true at every three uint8, in every world where the library's table stands.
-/
import Derived.Test.YtcgpnnbmflacnaaDoorPure13b
import Derived.OpenShut
namespace Go.Proofs.YtcgpnnbmflacnaaDoor.S
open Go.RowKit Go.Proofs.YtcgpnnbmflacnaaDoorW.PrintWords
theorem u8_vec (a : Int) (h : (Lit.int .u8 a).wf = true) : ∃ x, a = c8 x := by
  have hb : 0 ≤ a ∧ a ≤ 255 := by simpa [Lit.wf, IntKind.min, IntKind.max, IntKind.signed, IntKind.bits] using h
  exact c8_of a hb.1 hb.2
theorem rightsLattice_walk (a0 : Int) (h0 : (Lit.int .u8 a0).wf = true) (a1 : Int) (h1 : (Lit.int .u8 a1).wf = true) (a2 : Int) (h2 : (Lit.int .u8 a2).wf = true) (w : World) (hT : Tabs w) :
    Calls Tryd.prog 5 #[.int .u8 a0, .int .u8 a1, .int .u8 a2] w fun e w' => e = .returned (.bool true) ∧ Below w.heap.size w w' := by
  obtain ⟨x, rfl⟩ := u8_vec a0 h0
  obtain ⟨y, rfl⟩ := u8_vec a1 h1
  obtain ⟨z, rfl⟩ := u8_vec a2 h2
  exact cofferlaw13_RightsLattice.calls 200 _ _ _ true w (RightsLattice_pure x y z) hT
end Go.Proofs.YtcgpnnbmflacnaaDoor.S
