/-
  TargetWrites answers true.
-/
import Derived.Test.YtejmolhdmbkfaaaDoorPu21j
import Derived.Test.YtejmolhdmbkfaaaDoorSx12
import Derived.Test.YtejmolhdmbkfaaaDoorOpn21
namespace Go.Proofs.YtejmolhdmbkfaaaDoor.S
open Go.RowKit Go.Proofs.YtejmolhdmbkfaaaDoorW.PrintWords
set_option linter.unusedVariables false
set_option linter.unusedSimpArgs false
theorem targetWrites_ev (P : List ByteArray) (Q : List S32) (n : ByteArray) : Ev (fun k => cofferlaw21_TargetWrites.f k P Q n) true := by
  have yes : Ev (fun k => cofferlaw21_TargetWrites.j0 k n true P Q) true := .step (by
    simp only [cofferlaw21_TargetWrites.j0]
    refine .pos trivial ?_
    exact .of rfl)
  obtain ⟨r, h1, h2⟩ := light_ev P Q
  unfold cofferlaw21_TargetWrites.f
  refine .bind (.of rfl) ?_
  refine .pos rfl ?_
  refine .bind h1 ?_
  by_cases hr : r = true
  · have hL := h2 hr
    refine .pos hr ?_
    by_cases hn : (n.size : Int) > 200
    · rw [decide_eq_true hn]
      exact yes
    · rw [decide_eq_false hn]
      refine .step ?_
      simp only [cofferlaw21_TargetWrites.j0]
      refine .neg (by simp) ?_
      refine .bind (.of (light_print hL)) ?_
      refine .bind (.of ((light_rp hL).trans (light_print hL))) ?_
      refine .bind (get_ev P n Q (by have := hL.2.1; omega)) ?_
      refine .bind (refget_ev P n Q (by have := hL.2.1; omega)) ?_
      refine .pos rfl ?_
      refine .pos rfl ?_
      refine .pos rfl ?_
      refine .pos (by simp) ?_
      refine .bind (.of (light_may hL)) ?_
      refine .bind (refmay_ev P Q ?_ (by have := hL.1; omega) (by have := hL.2.1; omega) (fun s hs => by have := hL.2.2.1 s hs; omega)) ?_
      · unfold smallQ
        simp only [List.all_eq_true, Bool.and_eq_true, decide_eq_true_eq]
        exact fun q hq => by have := hL.2.2.2 q hq; omega
      · exact .of (by simp)
  · refine .neg hr ?_
    exact yes
theorem targetWrites_walk (w : World) (A0 : Option Addr) (c0 : Nat) (P : List ByteArray) (A1 : Option Addr) (c1 : Nat) (Q : List S32) (hP : Kd.C Kd.string w A0 P.length P ∧ P.length ≤ c0) (hQ : Kd.C k32 w A1 Q.length Q ∧ Q.length ≤ c1)
    (n : ByteArray) (_h : n.size ≤ 140737488351232) :
    Calls Tryd.prog 4 #[.agg #[.slice A0 P.length c0, .slice A1 Q.length c1], .string n] w fun e w' => e = .returned (.bool true) ∧ Below w.heap.size w w' := by
  obtain ⟨k, hk⟩ := (targetWrites_ev P Q n).at
  exact cofferlaw21_TargetWrites.calls k A0 c0 P A1 c1 Q n true w hP.1 hP.2 hQ.1 hQ.2 hk
end Go.Proofs.YtejmolhdmbkfaaaDoor.S
