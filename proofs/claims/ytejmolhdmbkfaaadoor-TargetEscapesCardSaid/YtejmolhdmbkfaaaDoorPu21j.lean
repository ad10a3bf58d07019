/-
  TargetWrites, without Go and memory.
-/
import Derived.Test.YtejmolhdmbkfaaaDoorPu21b
import Derived.Test.YtejmolhdmbkfaaaDoorPu21i
import Derived.Test.YtejmolhdmbkfaaaDoorRPr21
import Derived.Test.YtejmolhdmbkfaaaDoorSx11
namespace Go.Proofs.YtejmolhdmbkfaaaDoor.S
open Go.RowKit Go.Proofs.YtejmolhdmbkfaaaDoorW.PrintWords
set_option linter.unusedVariables false
set_option linter.unusedSimpArgs false
/-- A target is light: few names, few parameters, short texts. -/
def Light (P : List ByteArray) (Q : List S32) : Prop := P.length ≤ 20 ∧ Q.length ≤ 20 ∧ (∀ s ∈ P, s.size ≤ 200) ∧ ∀ q ∈ Q, q.f0.size ≤ 200 ∧ q.f1.size ≤ 200
section
variable (P : List ByteArray) (Q : List S32) (hP : P.length ≤ 20) (hQ : Q.length ≤ 20)
include hQ in
theorem light_l1 : ∀ (d j : Nat) (n : Int), j + d = Q.length → ∃ r, Ev (fun k => cofferlaw21_light.l1 k n (j : Int) P Q) r ∧ (r = true → n ≤ 200 ∧ ∀ q ∈ Q.drop j, q.f0.size ≤ 200 ∧ q.f1.size ≤ 200)
  | 0, j, n, hj => by
    refine ⟨decide (n ≤ 200), .step ?_, fun h => ⟨of_decide_eq_true h, fun q hq => ?_⟩⟩
    · simp only [cofferlaw21_light.l1]
      refine .neg (by omega) ?_
      exact .of rfl
    · rw [List.drop_of_length_le (by omega)] at hq
      cases hq
  | d + 1, j, n, hj => by
    have hlt : j < Q.length := by omega
    obtain ⟨r, h1, h2⟩ := light_l1 d (j + 1) (mx (mx n (((rd_T32 Q (j : Int)).f0).size : Int)) (((rd_T32 Q (j : Int)).f1).size : Int)) (by omega)
    refine ⟨r, .step ?_, fun h => ?_⟩
    · simp only [cofferlaw21_light.l1]
      refine .pos (by omega) ?_
      refine .pos (by omega) ?_
      rw [wrap_succ j (by omega)]
      exact h1
    · obtain ⟨h3, h4⟩ := h2 h
      rw [rd_at Q j hlt] at h3
      have hm : ∀ a b : Int, mx a b ≤ 200 → a ≤ 200 ∧ b ≤ 200 := fun a b h => by unfold mx at h; split at h <;> omega
      obtain ⟨h5, h6⟩ := hm _ _ h3
      obtain ⟨h7, h8⟩ := hm _ _ h5
      refine ⟨h7, fun q hq => ?_⟩
      rw [List.drop_eq_getElem_cons hlt] at hq
      rcases List.mem_cons.1 hq with rfl | hq
      · exact ⟨by omega, by omega⟩
      · exact h4 q hq
include hP hQ in
theorem light_l0 : ∀ (d i : Nat) (n : Int), i + d = P.length → ∃ r, Ev (fun k => cofferlaw21_light.l0 k n (i : Int) P Q) r ∧ (r = true → n ≤ 200 ∧ (∀ s ∈ P.drop i, s.size ≤ 200) ∧ ∀ q ∈ Q, q.f0.size ≤ 200 ∧ q.f1.size ≤ 200)
  | 0, i, n, hi => by
    obtain ⟨r, h1, h2⟩ := light_l1 P Q hQ Q.length 0 n (by omega)
    refine ⟨r, .step ?_, fun h => ?_⟩
    · simp only [cofferlaw21_light.l0]
      refine .neg (by omega) ?_
      exact h1
    · obtain ⟨h3, h4⟩ := h2 h
      refine ⟨h3, fun s hs => ?_, by simpa using h4⟩
      rw [List.drop_of_length_le (by omega)] at hs
      cases hs
  | d + 1, i, n, hi => by
    have hlt : i < P.length := by omega
    obtain ⟨r, h1, h2⟩ := light_l0 d (i + 1) (mx n ((rdOf ByteArray.empty P (i : Int)).size : Int)) (by omega)
    refine ⟨r, .step ?_, fun h => ?_⟩
    · simp only [cofferlaw21_light.l0]
      refine .pos (by omega) ?_
      refine .pos (by omega) ?_
      rw [wrap_succ i (by omega)]
      exact h1
    · obtain ⟨h3, h4, h4'⟩ := h2 h
      rw [rdS_at P i hlt] at h3
      have hm : ∀ a b : Int, mx a b ≤ 200 → a ≤ 200 ∧ b ≤ 200 := fun a b h => by unfold mx at h; split at h <;> omega
      obtain ⟨h5, h6⟩ := hm _ _ h3
      refine ⟨h5, fun q hq => ?_, h4'⟩
      rw [List.drop_eq_getElem_cons hlt] at hq
      rcases List.mem_cons.1 hq with rfl | hq
      · omega
      · exact h4 q hq
end
theorem light_ev (P : List ByteArray) (Q : List S32) : ∃ r, Ev (fun k => cofferlaw21_light.f k P Q) r ∧ (r = true → Light P Q) := by
  have no : Ev (fun k => cofferlaw21_light.j0 k 0 true P Q) false := .step (by
    simp only [cofferlaw21_light.j0]
    refine .pos trivial ?_
    exact .of rfl)
  by_cases hP : (P.length : Int) > 20
  · exact ⟨false, by unfold cofferlaw21_light.f; exact .pos hP no, fun h => by cases h⟩
  · by_cases hQ : (Q.length : Int) > 20
    · refine ⟨false, ?_, fun h => by cases h⟩
      unfold cofferlaw21_light.f
      refine .neg hP ?_
      rw [decide_eq_true hQ]
      exact no
    · obtain ⟨r, h1, h2⟩ := light_l0 P Q (by omega) (by omega) P.length 0 0 (by omega)
      refine ⟨r, ?_, fun h => ?_⟩
      · unfold cofferlaw21_light.f
        refine .neg hP ?_
        rw [decide_eq_false hQ]
        refine .step ?_
        simp only [cofferlaw21_light.j0]
        refine .neg (by simp) ?_
        exact h1
      · obtain ⟨_, h3, h4⟩ := h2 h
        exact ⟨by omega, by omega, by simpa using h3, h4⟩
theorem escL_le : ∀ l : List UInt8, (escL l).length ≤ 3 * l.length
  | [] => by simp [escL]
  | c :: r => by
    have := escL_le r
    have h : (escC c).length ≤ 3 := by unfold escC; split <;> simp
    simp only [escL, List.length_append, List.length_cons]
    omega
theorem pathL_len : ∀ P : List ByteArray, (∀ s ∈ P, s.size ≤ 200) → (pathL P).length ≤ 601 * P.length
  | [], _ => by simp [pathL]
  | s :: r, h => by
    have h1 := pathL_len r fun x hx => h x (List.mem_cons_of_mem _ hx)
    have h2 := escL_le s.data.toList
    have h3 := h s List.mem_cons_self
    have h4 : s.data.toList.length = s.size := Array.length_toList
    simp only [pathL, List.length_append, List.length_cons]
    omega
theorem queryL_len : ∀ (Q : List S32) (m : UInt8), (∀ q ∈ Q, q.f0.size ≤ 200 ∧ q.f1.size ≤ 200) → (queryL m Q).length ≤ 1202 * Q.length
  | [], _, _ => by simp [queryL]
  | q :: r, m, h => by
    have h1 := queryL_len r 38 fun x hx => h x (List.mem_cons_of_mem _ hx)
    have h2 := escL_le q.f0.data.toList
    have h2' := escL_le q.f1.data.toList
    have h3 := h q List.mem_cons_self
    have h4 : q.f0.data.toList.length = q.f0.size := Array.length_toList
    have h5 : q.f1.data.toList.length = q.f1.size := Array.length_toList
    simp only [queryL, parL, List.length_append, List.length_cons]
    omega
section
variable {P : List ByteArray} {Q : List S32} (h : Light P Q)
include h
theorem printL_len : (printL P Q).length ≤ 50000 := by
  obtain ⟨h1, h2, h3, h4⟩ := h
  have a := pathL_len P h3
  have b := queryL_len Q 63 h4
  have c : (pathS P).length ≤ (pathL P).length + 1 := by unfold pathS; rw [List.length_append]; split <;> simp
  unfold printL
  rw [List.length_append]
  omega
theorem light_small : smallS P Q = true := by
  have hl := printL_len h
  obtain ⟨h1, h2, h3, h4⟩ := h
  unfold smallS
  simp only [Bool.and_eq_true, List.all_eq_true, decide_eq_true_eq]
  exact ⟨⟨fun s hs => by have := h3 s hs; omega, fun q hq => by have := h4 q hq; omega⟩, by omega⟩
theorem light_all : (P.all fun s => decide (s.size ≤ 100000)) = true := by
  simp only [List.all_eq_true, decide_eq_true_eq]
  exact fun s hs => by have := h.2.2.1 s hs; omega
theorem light_may : xMay.f P Q = some (mayB P Q) := by
  obtain ⟨h1, h2, h3, h4⟩ := h
  unfold xMay.f
  rw [if_pos]
  refine ⟨?_, by omega, by omega⟩
  unfold smallQ
  simp only [List.all_eq_true, Bool.and_eq_true, decide_eq_true_eq]
  exact fun q hq => by have := h4 q hq; omega
theorem light_print : xPrint.f P Q = some (if mayB P Q = true then (⟨(printL P Q).toArray⟩, 0) else (⟨#[]⟩, 1)) := by
  unfold xPrint.f
  rw [light_may h]
  simp only [Option.bind_some]
  by_cases hm : mayB P Q = true
  · rw [if_pos hm, if_pos (light_small h), if_pos hm]
  · rw [if_neg hm, if_neg hm]
theorem light_rp : xRP.f P Q = xPrint.f P Q := by
  unfold xRP.f
  rw [if_pos (light_all h)]
end
theorem refget_l0 (n : ByteArray) (P : List ByteArray) (l : List S32) (hl : l.length ≤ 1048576) : ∀ (d i : Nat), i + d = l.length → Ev (fun k => cofferref21_Get.l0 k n (i : Int) P l) (getT n (l.drop i))
  | 0, i, hi => by
    refine .step ?_
    simp only [cofferref21_Get.l0]
    refine .neg (by omega) ?_
    rw [List.drop_of_length_le (by omega)]
    exact .of rfl
  | d + 1, i, hi => by
    have hlt : i < l.length := by omega
    refine .step ?_
    simp only [cofferref21_Get.l0]
    refine .pos (by omega) ?_
    refine .pos (by omega) ?_
    rw [rd_at l i hlt, List.drop_eq_getElem_cons hlt, getT]
    by_cases h : l[i].f0.toList = n.toList
    · refine .pos h ?_
      rw [if_pos h]
      exact .of rfl
    · refine .neg h ?_
      rw [if_neg h, wrap_succ i (by omega)]
      exact refget_l0 n P l hl d (i + 1) (by omega)
theorem refget_ev (P : List ByteArray) (n : ByteArray) (l : List S32) (hl : l.length ≤ 1048576) : Ev (fun k => cofferref21_Get.f k P l n) (getT n l) := refget_l0 n P l hl l.length 0 (by omega)
end Go.Proofs.YtejmolhdmbkfaaaDoor.S
