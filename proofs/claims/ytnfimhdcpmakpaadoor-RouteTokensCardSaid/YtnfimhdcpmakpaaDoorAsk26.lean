/-
  route.ask, walked at a query of no parameters.
-/
import Derived.Test.YtnfimhdcpmakpaaDoorOp26
namespace Go.Proofs.YtnfimhdcpmakpaaDoor.S
open Go.RowKit Go.Proofs.YtnfimhdcpmakpaaDoorW.PrintWords
set_option linter.unusedVariables false
set_option linter.unusedSimpArgs false
set_option maxHeartbeats 4000000 in
set_option maxRecDepth 100000 in
theorem ask_none (x : S58) (g : Nat) (A : Option Addr) (c : Nat) (w : World) :
    Calls Tryd.prog 23 #[.agg #[.string x.f0, .string x.f1, .int .i64 x.f2, .bool x.f3, .bool x.f4, .bool x.f5], .pointer (some ⟨g, 0, none⟩), .slice A 0 c] w
      fun e w' => e = .returned (.bool (!x.f4 && !x.f5)) ∧ Below w.heap.size w w' := by
  obtain ⟨x0, x1, x2, x3, x4, x5⟩ := x
  have hb0 : Below w.heap.size w (w.alloc (.cells #[.string x0, .string x1, .int .i64 x2, .bool x3, .bool x4, .bool x5] 58)) := below_alloc (Below.refl _ _) _
  obtain ⟨bb, hbb⟩ : ∃ bb, (!x4 && !x5) = bb := ⟨_, rfl⟩
  simp only
  rw [hbb]
  have HBB := Lib.hid hbb
  clear hbb
  cases x4 <;> cases x5
  all_goals
    go_enter Tryd.func23, Tryd.ntmps23
    go_wp2_with fail
    go_loop [7, 17] (fun m i => ∃ n : Int, m = .int .i64 n ∧ i = .int .i64 0 ∧ (n == 0) = bb) (fun _ _ => 0)
    case atStart => exact ⟨_, rfl, rfl, by rw [← HBB.out]; rfl⟩
    case round =>
      obtain ⟨n, rfl, rfl, hn⟩ := hrel
      go_wp2
      go_ret
      exact ⟨rfl, hb0⟩
end Go.Proofs.YtnfimhdcpmakpaaDoor.S
