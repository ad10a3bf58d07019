/-
  An answer that is cut off anywhere is short.
-/
import Derived.Test.YtnohcfgjhgfjkaaDoorRep25i
namespace Go.Proofs.YtnohcfgjhgfjkaaDoor.S
open Go.RowKit Go.Proofs.YtnohcfgjhgfjkaaDoorW.PrintWords
set_option linter.unusedVariables false
set_option linter.unusedSimpArgs false
theorem find_short (st : Int) (p : List UInt8) (h3 : Three st) (hp : p <+: headL st) (hlen : p.length < (headL st).length) : ∀ (l : List Int) (e : Int), (∀ a ∈ l, Three a) → (st ∈ l ∨ e = 3) → find l p e = (0, p, 3)
  | [], e, _, h => by
    rcases h with h | rfl
    · simp at h
    · rfl
  | a :: l, e, ht, h => by
    have hne : (behL p (headL a)).2 ≠ 0 := fun h0 => by
      have h1 := behL_zero h0
      have h2 : headL a <+: headL st ++ [] := by rw [List.append_nil]; exact h1.trans hp
      have := head_inj (ht a (by simp)) h3 h2
      subst this
      have := h1.length_le
      omega
    unfold find
    rw [if_neg hne]
    refine find_short st p h3 hp hlen l _ (fun b hb => ht b (by simp [hb])) ?_
    by_cases ha : a = st
    · subst ha; right; rw [behL_short hp hlen]; rfl
    · rcases h with h | rfl
      · left
        rcases List.mem_cons.1 h with h | h
        · exact absurd h.symm ha
        · exact h
      · right; split <;> rfl
theorem val_le (l : List UInt8) : ∀ j, val (l.take j) ≤ val l := by
  have key : ∀ b a : List UInt8, val a ≤ val (a ++ b) := by
    intro b
    induction b with
    | nil => intro a; simp
    | cons c b ih =>
      intro a
      have h1 := ih (a ++ [c])
      rw [List.append_assoc, val_snoc] at h1
      have e : a ++ ([c] ++ b) = a ++ c :: b := rfl
      rw [e] at h1
      omega
  intro j
  have := key (l.drop j) (l.take j)
  rwa [List.take_append_drop] at this
theorem digL_all (l : List UInt8) (hl : ∀ c ∈ l, 48 ≤ c.toNat ∧ c.toNat ≤ 57) : digL l = l.length := by
  have := digL_app l [] hl rfl
  rwa [List.append_nil] at this
/-- A numeral's beginning is a number. -/
theorem num_prefix (u : Nat) (hu : u ≤ 9223372036854775807) (j : Nat) (h0 : 0 < j) (hj : j ≤ (Lib.decDigits u).length) : ∃ v, numL ((Lib.decDigits u).take j) = (v, [], 0) := by
  have hd := dec_digits u
  have hl : ((Lib.decDigits u).take j).length = j := by rw [List.length_take]; omega
  have hd2 : ∀ c ∈ (Lib.decDigits u).take j, 48 ≤ c.toNat ∧ c.toNat ≤ 57 := fun c hc => hd c (List.mem_of_mem_take hc)
  have hne : (Lib.decDigits u).take j ≠ [] := fun e => by rw [e] at hl; simp at hl; omega
  refine ⟨(numOfL ((Lib.decDigits u).take j)).1, ?_⟩
  unfold numL
  rw [if_neg hne, digL_all _ hd2, List.take_length, List.drop_length]
  rw [if_pos]
  have hb := byteAt_list ((Lib.decDigits u).take j)
  unfold numOfL numS
  have ha : alld (byteAt ⟨((Lib.decDigits u).take j).toArray⟩) ((Lib.decDigits u).take j).length 0 = true := alld_of _ _ _ fun i _ hi => by
    rw [hb i (by omega), List.getD_eq_getElem?_getD, List.getElem?_eq_getElem (by omega)]
    have := hd2 _ (List.getElem_mem (show i < ((Lib.decDigits u).take j).length by omega))
    simp only [Option.getD_some]; omega
  have hv := V_val _ _ (fun c hc => (hd2 c hc).1) (fun i hi => hb i hi) _ (Nat.le_refl ((Lib.decDigits u).take j).length)
  rw [List.take_length] at hv
  have hle := val_le (Lib.decDigits u) j
  rw [val_dec] at hle
  rw [if_neg (by rw [ha]; simp), if_neg, hv, if_neg (by unfold maxN; omega)]
  rintro (h | ⟨h, h'⟩)
  · omega
  · obtain ⟨c, r, e, hz, hc⟩ := dec_head u
    have h1 := hb 0 (by omega)
    rw [h1] at h
    have ec : ((Lib.decDigits u).take j).getD 0 0 = c := by
      obtain ⟨j, rfl⟩ : ∃ i, j = i + 1 := ⟨j - 1, by omega⟩
      rw [e]; rfl
    rw [ec] at h
    have : c = 48 := by
      apply UInt8.toNat_inj.1
      have : (48 : UInt8).toNat = 48 := rfl
      omega
    rw [e, hz (hc this)] at hj
    simp at hj
    omega
theorem ends_nil : ends [] = ([], 3, false) := by decide
theorem ends_cut (c : Bool) (i : Nat) (h0 : 0 < i) (hi : i < (tailL c).length) : (ends ((tailL c).take i)).2.1 = 3 := by
  cases c with
  | false =>
    have : ∀ i, i < 4 → 0 < i → (ends ((tailL false).take i)).2.1 = 3 := by decide
    exact this i hi h0
  | true =>
    have : ∀ i, i < 23 → 0 < i → (ends ((tailL true).take i)).2.1 = 3 := by decide
    exact this i hi h0
theorem digL_tail_take (c : Bool) (y : List UInt8) (i : Nat) : digL ((tailL c ++ y).take i) = 0 := by
  rcases i with _ | i
  · rfl
  · cases c <;> rfl
theorem take_short (st : Int) (c : Bool) (b : List UInt8) (k : Nat) (hst : st ∈ nums11) (hb : b.length ≤ 9223372036854775807) (hk : k < (wholeL st b.length c).length + b.length) :
    takeS ((wholeL st b.length c ++ b).take k) = (0, [], false, 0, 3) := by
  have h3 := three11 st hst
  have e : wholeL st b.length c ++ b = headL st ++ (Lib.itoa b.length ++ (tailL c ++ b)) := by unfold wholeL; simp
  have el : (wholeL st b.length c).length = (headL st).length + ((Lib.itoa b.length).length + (tailL c).length) := by unfold wholeL; simp
  rw [e]
  by_cases hA : k < (headL st).length
  · have ht : (headL st ++ (Lib.itoa b.length ++ (tailL c ++ b))).take k = (headL st).take k := by rw [List.take_append_of_le_length (by omega)]
    rw [ht]
    unfold takeS
    rw [find_short st _ h3 (List.take_prefix _ _) (by rw [List.length_take]; omega) nums11 4 three11 (.inl hst)]
    rfl
  · have ht : (headL st ++ (Lib.itoa b.length ++ (tailL c ++ b))).take k = headL st ++ (Lib.itoa b.length ++ (tailL c ++ b)).take (k - (headL st).length) := by
      rw [List.take_append, List.take_of_length_le (by omega)]
    rw [ht]
    unfold takeS
    rw [find_app st _ nums11 4 three11 hst]
    simp only []
    rw [if_neg (by simp)]
    generalize hj : k - (headL st).length = j
    by_cases hB : j ≤ (Lib.itoa b.length).length
    · have ht2 : (Lib.itoa b.length ++ (tailL c ++ b)).take j = (Lib.itoa b.length).take j := by rw [List.take_append_of_le_length hB]
      rw [ht2]
      rcases Nat.eq_zero_or_pos j with hz | hz
      · rw [hz]; rfl
      · rw [itoa_pos _ (by omega)] at hB ⊢
        obtain ⟨v, hv⟩ := num_prefix (b.length : Int).toNat (by omega) j hz hB
        rw [hv]
        simp only []
        rw [if_neg (by simp), ends_nil]
        rfl
    · have ht2 : (Lib.itoa b.length ++ (tailL c ++ b)).take j = Lib.itoa b.length ++ (tailL c ++ b).take (j - (Lib.itoa b.length).length) := by
        rw [List.take_append, List.take_of_length_le (by omega)]
      rw [ht2, num_app _ _ (by omega) (by omega) (digL_tail_take _ _ _)]
      simp only []
      rw [if_neg (by simp)]
      generalize hi : j - (Lib.itoa b.length).length = i
      by_cases hC : i < (tailL c).length
      · have ht3 : (tailL c ++ b).take i = (tailL c).take i := by rw [List.take_append_of_le_length (by omega)]
        rw [ht3, ends_cut c i (by omega) hC]
        rfl
      · have ht3 : (tailL c ++ b).take i = tailL c ++ b.take (i - (tailL c).length) := by
          rw [List.take_append, List.take_of_length_le (by omega)]
        rw [ht3, ends_app]
        simp only []
        rw [if_neg (by simp), if_pos]
        rw [List.length_take]
        omega
end Go.Proofs.YtnohcfgjhgfjkaaDoor.S
