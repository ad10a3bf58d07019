/-
  TargetBack answers true.
-/
import Derived.Test.YtejmolhdmbkfaaaDoorSx9
import Derived.Test.YtejmolhdmbkfaaaDoorPu21l
import Derived.Test.YtejmolhdmbkfaaaDoorSx13
import Derived.Test.YtejmolhdmbkfaaaDoorOpn21
namespace Go.Proofs.YtejmolhdmbkfaaaDoor.S
open Go.RowKit Go.Proofs.YtejmolhdmbkfaaaDoorW.PrintWords
set_option linter.unusedVariables false
set_option linter.unusedSimpArgs false
section
variable (P : List ByteArray) (Q : List S32) (hP : P.length ≤ 1048576) (hQ : Q.length ≤ 1048576)
include hQ in
theorem sameB_l1 : ∀ (d i : Nat), i + d = Q.length → Ev (fun k => cofferref21_Same.l1 k (i : Int) P Q P Q) true
  | 0, i, hi => by
    refine .step ?_
    simp only [cofferref21_Same.l1]
    refine .neg (by omega) ?_
    exact .of rfl
  | d + 1, i, hi => by
    refine .step ?_
    simp only [cofferref21_Same.l1]
    refine .pos (by omega) ?_
    refine .pos (by omega) ?_
    refine .pos (by omega) ?_
    refine .neg (by simp) ?_
    rw [wrap_succ i (by omega)]
    exact sameB_l1 d (i + 1) (by omega)
include hP hQ in
theorem sameB_l0 : ∀ (d i : Nat), i + d = P.length → Ev (fun k => cofferref21_Same.l0 k (i : Int) P Q P Q) true
  | 0, i, hi => by
    refine .step ?_
    simp only [cofferref21_Same.l0]
    refine .neg (by omega) ?_
    exact sameB_l1 P Q hQ Q.length 0 (by omega)
  | d + 1, i, hi => by
    refine .step ?_
    simp only [cofferref21_Same.l0]
    refine .pos (by omega) ?_
    refine .pos (by omega) ?_
    refine .pos (by omega) ?_
    refine .pos (by simp) ?_
    rw [wrap_succ i (by omega)]
    exact sameB_l0 d (i + 1) (by omega)
include hP hQ in
/-- A target is the same as itself. -/
theorem sameB_ev : Ev (fun k => cofferref21_Same.f k P Q P Q) true := by
  unfold cofferref21_Same.f
  refine .pos rfl ?_
  rw [show ((Q.length : Int) != Q.length) = false by simp]
  refine .step ?_
  simp only [cofferref21_Same.j0]
  refine .neg (by simp) ?_
  exact sameB_l0 P Q hP hQ P.length 0 (by omega)
end
theorem targetBack_ev (P : List ByteArray) (Q : List S32) : Ev (fun k => cofferlaw21_TargetBack.f k P Q) true := by
  obtain ⟨r, h1, h2⟩ := light_ev P Q
  unfold cofferlaw21_TargetBack.f
  refine .bind (.of rfl) ?_
  refine .pos rfl ?_
  refine .bind h1 ?_
  by_cases hr : r = true
  · have hL := h2 hr
    refine .pos hr ?_
    refine .bind (.of (light_print hL)) ?_
    by_cases hm : mayB P Q = true
    · rw [if_pos hm]
      refine .pos rfl ?_
      refine .bind (b := (P, Q, 0)) ?_ ?_
      · rw [← parse_print P Q hm]
        exact parse_f _ (by have := printL_len hL; omega)
      · refine .bind (.of (light_print hL)) ?_
        rw [if_pos hm]
        refine .pos rfl ?_
        refine .pos rfl ?_
        refine .bind (sameB_ev P Q (by have := hL.1; omega) (by have := hL.2.1; omega)) ?_
        refine .pos rfl ?_
        exact .of (by simp)
    · rw [if_neg hm]
      refine .neg (by decide) ?_
      refine .pos ((toList_eq_nil _).2 rfl) ?_
      refine .bind (.of (light_may hL)) ?_
      exact .of (by simp [hm])
  · refine .neg hr ?_
    exact .of rfl
theorem targetBack_walk (w : World) (A0 : Option Addr) (c0 : Nat) (P : List ByteArray) (A1 : Option Addr) (c1 : Nat) (Q : List S32) (hP : Kd.C Kd.string w A0 P.length P ∧ P.length ≤ c0) (hQ : Kd.C k32 w A1 Q.length Q ∧ Q.length ≤ c1) :
    Calls Tryd.prog 5 #[.agg #[.slice A0 P.length c0, .slice A1 Q.length c1]] w fun e w' => e = .returned (.bool true) ∧ Below w.heap.size w w' := by
  obtain ⟨k, hk⟩ := (targetBack_ev P Q).at
  exact cofferlaw21_TargetBack.calls k A0 c0 P A1 c1 Q true w hP.1 hP.2 hQ.1 hQ.2 hk
end Go.Proofs.YtejmolhdmbkfaaaDoor.S
