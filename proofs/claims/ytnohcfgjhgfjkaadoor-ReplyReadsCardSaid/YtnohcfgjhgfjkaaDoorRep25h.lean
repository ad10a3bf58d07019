/-
  What Bytes writes, Take reads; and cut off anywhere it is short.
-/
import Derived.Test.YtnohcfgjhgfjkaaDoorRep25g
namespace Go.Proofs.YtnohcfgjhgfjkaaDoor.S
open Go.RowKit Go.Proofs.YtnohcfgjhgfjkaaDoorW.PrintWords
set_option linter.unusedVariables false
set_option linter.unusedSimpArgs false
theorem alld_of (b : Nat → Int) : ∀ (d i : Nat), (∀ j, i ≤ j → j < i + d → 48 ≤ b j ∧ b j ≤ 57) → alld b d i = true
  | 0, i, _ => rfl
  | d + 1, i, h => by
    have h0 := h i (by omega) (by omega)
    rw [alld, alld_of b d (i + 1) (fun j h1 h2 => h j (by omega) (by omega)), show isd (b i) = true from decide_eq_true h0]; rfl
theorem V_val (b : Nat → Int) (l : List UInt8) (hd : ∀ c ∈ l, 48 ≤ c.toNat) (hb : ∀ j, j < l.length → b j = ((l.getD j 0).toNat : Int)) : ∀ k, k ≤ l.length → V b k = (val (l.take k) : Nat)
  | 0, _ => by simp [V, val]
  | k + 1, h => by
    have ih := V_val b l hd hb k (by omega)
    rw [List.take_succ_eq_append_getElem (by omega), val_snoc, V, ih, hb k (by omega), List.getD_eq_getElem?_getD, List.getElem?_eq_getElem (by omega)]
    have := hd _ (List.getElem_mem (show k < l.length by omega))
    simp only [Option.getD_some]
    omega
theorem num_itoa (n : Int) (h1 : n ≤ 9223372036854775807) : numOfL (Lib.itoa n) = if n < 0 then (0, 4) else (n, 0) := by
  have hb := byteAt_list (Lib.itoa n)
  unfold numOfL
  by_cases hn : n < 0
  · rw [if_pos hn]
    rw [itoa_min n hn] at hb ⊢
    have h0 := hb 0 (by simp)
    unfold numS
    rw [if_pos]
    rw [List.length_cons, alld, h0]
    rfl
  · rw [if_neg hn]
    rw [itoa_pos n (by omega)] at hb ⊢
    have hd := dec_digits n.toNat
    have ha : alld (byteAt ⟨(Lib.decDigits n.toNat).toArray⟩) (Lib.decDigits n.toNat).length 0 = true := alld_of _ _ _ fun j _ hj => by
      rw [hb j (by omega), List.getD_eq_getElem?_getD, List.getElem?_eq_getElem (by omega)]
      have := hd _ (List.getElem_mem (show j < (Lib.decDigits n.toNat).length by omega))
      simp only [Option.getD_some]; omega
    have hv := V_val _ _ (fun c hc => (hd c hc).1) (fun j hj => hb j hj) _ (Nat.le_refl (Lib.decDigits n.toNat).length)
    rw [List.take_length, val_dec] at hv
    obtain ⟨c, r, e, hz, hc⟩ := dec_head n.toNat
    have h0 := hb 0 (by rw [e]; simp)
    unfold numS
    rw [if_neg (by rw [ha]; simp), if_neg, hv, if_neg (by unfold maxN; omega)]
    · congr 1; omega
    · rintro (h | ⟨h, h'⟩)
      · rw [e] at h; simp at h
      · rw [h0] at h
        have ec : (Lib.decDigits n.toNat).getD 0 0 = c := by rw [e]; rfl
        rw [ec] at h
        have : c = 48 := by
          apply UInt8.toNat_inj.1
          have : (48 : UInt8).toNat = 48 := rfl
          omega
        rw [e, hz (hc this)] at h'
        simp at h'
theorem behL_app (t x : List UInt8) : behL (t ++ x) t = (x, 0) := by
  unfold behL
  rw [if_pos ⟨by simp, by simp⟩]; simp
theorem behL_zero {s t : List UInt8} (h : (behL s t).2 = 0) : t <+: s := by
  unfold behL at h
  split at h
  · rename_i h2
    exact ⟨s.drop t.length, by have h3 := List.take_append_drop t.length s; rw [h2.2] at h3; exact h3⟩
  · split at h <;> simp at h
theorem behL_short {s t : List UInt8} (h : s <+: t) (hl : s.length < t.length) : behL s t = ([], 3) := by
  unfold behL
  rw [if_neg (by omega), if_pos ⟨by omega, List.prefix_iff_eq_take.1 h |>.symm⟩]
/-- A status of three digits. -/
def Three (st : Int) : Prop := (Lib.itoa st).length = 3
theorem headL_split (st : Int) : ∃ r, headL st = ([72, 84, 84, 80, 47, 49, 46, 49, 32] ++ Lib.itoa st) ++ r := ⟨[32] ++ (rs st ++ ([13, 10] ++ [67, 111, 110, 116, 101, 110, 116, 45, 76, 101, 110, 103, 116, 104, 58, 32])), by unfold headL; simp⟩
theorem head_inj {a b : Int} {x : List UInt8} (ha : Three a) (hb : Three b) (h : headL a <+: headL b ++ x) : a = b := by
  obtain ⟨ra, ea⟩ := headL_split a
  obtain ⟨rb, eb⟩ := headL_split b
  rw [ea, eb] at h
  obtain ⟨z, hz⟩ := h
  have la : ([72, 84, 84, 80, 47, 49, 46, 49, 32] ++ Lib.itoa a).length = 12 := by rw [List.length_append, ha]; rfl
  have lb : ([72, 84, 84, 80, 47, 49, 46, 49, 32] ++ Lib.itoa b).length = 12 := by rw [List.length_append, hb]; rfl
  have h2 := List.append_inj_left ((List.append_assoc _ _ _).symm.trans (hz.trans (List.append_assoc _ _ _))) (la.trans lb.symm)
  exact itoa_inj (List.append_cancel_left h2)
theorem find_app (st : Int) (x : List UInt8) : ∀ (l : List Int) (e : Int), (∀ a ∈ l, Three a) → st ∈ l → find l (headL st ++ x) e = (st, x, 0)
  | [], e, _, h => by simp at h
  | a :: l, e, ht, h => by
    unfold find
    by_cases ha : a = st
    · subst ha; rw [behL_app]; rfl
    · rw [if_neg (fun h0 => ha (head_inj (ht a (by simp)) (ht st h) (behL_zero h0)))]
      exact find_app st x l _ (fun b hb => ht b (by simp [hb])) (by
        rcases List.mem_cons.1 h with h | h
        · exact absurd h.symm ha
        · exact h)
theorem digL_app (l x : List UInt8) (hl : ∀ c ∈ l, 48 ≤ c.toNat ∧ c.toNat ≤ 57) (hx : digL x = 0) : digL (l ++ x) = l.length := by
  induction l with
  | nil => simpa using hx
  | cons c l ih =>
    have := hl c (by simp)
    rw [List.cons_append, digL, if_pos (by omega), ih (fun d hd => hl d (by simp [hd]))]; simp
theorem digL_tail (c : Bool) (y : List UInt8) : digL (tailL c ++ y) = 0 := by cases c <;> rfl
theorem num_app (n : Int) (x : List UInt8) (h0 : 0 ≤ n) (h1 : n ≤ 9223372036854775807) (hx : digL x = 0) : numL (Lib.itoa n ++ x) = (n, x, 0) := by
  have hd : digL (Lib.itoa n ++ x) = (Lib.itoa n).length := digL_app _ _ (by rw [itoa_pos n h0]; exact dec_digits _) hx
  unfold numL
  rw [hd, List.take_left, List.drop_left, num_itoa n h1, if_neg (by omega : ¬ n < 0)]
  rw [if_neg, if_pos rfl]
  intro h
  have h2 := (List.append_eq_nil_iff.1 h).1
  rw [itoa_pos n h0] at h2
  exact dec_ne_nil _ h2
theorem ends_app (c : Bool) (y : List UInt8) : ends (tailL c ++ y) = (y, 0, c) := by
  unfold ends
  cases c with
  | false => rw [behL_app]; rfl
  | true =>
    have hne : (behL (tailL true ++ y) (tailL false)).2 ≠ 0 := fun h => by
      obtain ⟨z, hz⟩ := behL_zero h
      simp [tailL] at hz
    rw [if_neg hne, behL_app, if_pos (Or.inl rfl)]
theorem three11 : ∀ a ∈ nums11, Three a := by
  intro a ha
  simp only [nums11, List.mem_cons, List.not_mem_nil, or_false] at ha
  rcases ha with rfl | rfl | rfl | rfl | rfl | rfl | rfl | rfl | rfl | rfl | rfl <;> simp [Three, Lib.itoa, Lib.decDigits]
/-- What is written is read, whatever stands behind it. -/
theorem take_back (st : Int) (c : Bool) (b r : List UInt8) (hst : st ∈ nums11) (hb : b.length ≤ 9223372036854775807) :
    takeS (wholeL st b.length c ++ (b ++ r)) = (st, b, c, ((wholeL st b.length c).length : Int) + b.length, 0) := by
  have e : wholeL st b.length c ++ (b ++ r) = headL st ++ (Lib.itoa b.length ++ (tailL c ++ (b ++ r))) := by unfold wholeL; simp
  rw [e]
  unfold takeS
  rw [find_app st _ nums11 4 three11 hst]
  simp only []
  rw [num_app _ _ (by omega) (by omega) (digL_tail _ _), ends_app]
  simp only []
  rw [if_neg (by simp), if_neg (by simp), if_neg (by simp), if_neg (by simp; omega)]
  unfold wholeL
  simp
  omega
end Go.Proofs.YtnohcfgjhgfjkaaDoor.S
