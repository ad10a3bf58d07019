/-
  '==' of two arrays of 32 bytes that are the same.
-/
import Derived.Test.YtkpgefmmlcpnlaaDoorProg
import Derived.Test.YtkpgefmmlcpnlaaDoorWWords
import Derived.WalkKit
namespace Go.Proofs.YtkpgefmmlcpnlaaDoor.S
open Go.RowKit Go.Proofs.YtkpgefmmlcpnlaaDoorW.PrintWords
set_option linter.unusedVariables false
set_option linter.unusedSimpArgs false
theorem eq_arr (X : Array Value) (w : World) (hX : ∀ i, i < 32 → ∃ a : Int, X[i]? = some (.int .u8 a)) : (Op.equalIn 10000 37 (.agg X) (.agg X)).run Tryd.prog w = .ok true w := by
  rw [show (10000 : Nat) = 9999 + 1 from rfl]
  have hu : Tryd.prog.underlying 37 = some (.array 32 5) := Tryd.underlying37
  have z5 := Tryd.sizeOf5
  have a5 := Tryd.isAgg5
  have part5 : ∀ i, i < 32 → ∀ a, X[i]? = some (.int .u8 a) → (part 5 X i).run Tryd.prog w = .ok (.int .u8 a) w := by
    intro i hi a ha
    unfold part
    rw [Sem.run_bind, a5]
    simp [ha]
  have eq5 : ∀ a : Int, (Op.equalIn 9999 5 (.int .u8 a) (.int .u8 a)).run Tryd.prog w = .ok true w := by
    intro a
    rw [show (9999 : Nat) = 9998 + 1 from rfl]
    unfold Op.equalIn
    rw [Sem.run_bind, run_underlying Tryd.underlying5 w]
    simp
  have key : ∀ l : List Nat, (∀ i ∈ l, i < 32) → (forIn l ((none : Option Bool), ()) fun i __s => (do
              let __do_lift ← part 5 X (i * 1)
              let __do_lift_1 ← part 5 X (i * 1)
              let __do_lift ← Op.equalIn 9999 5 __do_lift __do_lift_1
              if (!__do_lift) = true then pure (ForInStep.done (some false, ())) else pure (ForInStep.yield (none, ())) : Sem _)).run Tryd.prog w = .ok (none, ()) w := by
    intro l
    induction l with
    | nil => intro _; rfl
    | cons i l ih =>
      intro h
      have hi := h i (List.mem_cons_self)
      obtain ⟨a, ha⟩ := hX i hi
      have h1 := part5 i hi a ha
      rw [List.forIn_cons, Sem.run_bind]
      simp only [Sem.run_bind, Nat.mul_one, h1, Result.andThen_ok, eq5]
      simp only [Bool.not_true, Bool.false_eq_true, if_false, Sem.run_pure, Result.andThen_ok]
      simpa only [Nat.mul_one] using ih (fun j hj => h j (List.mem_cons_of_mem _ hj))
  unfold Op.equalIn
  rw [Sem.run_bind, run_underlying hu w]
  simp only [Result.andThen_ok]
  rw [Sem.run_bind, z5]
  simp only [Result.andThen_ok]
  rw [Sem.run_bind]
  simp only [Std.Legacy.Range.forIn_eq_forIn_range']
  rw [key _ (by intro i hi; simpa [Std.Legacy.Range.size] using hi)]
  rfl
theorem eq_id (xs : List Int) (h : xs.length = 32) (w : World) : (Op.equalIn 10000 37 (.agg (nums .u8 xs).toArray) (.agg (nums .u8 xs).toArray)).run Tryd.prog w = .ok true w :=
  eq_arr _ w fun i hi => ⟨xs[i], by simp [nums, h, hi]⟩
end Go.Proofs.YtkpgefmmlcpnlaaDoor.S
