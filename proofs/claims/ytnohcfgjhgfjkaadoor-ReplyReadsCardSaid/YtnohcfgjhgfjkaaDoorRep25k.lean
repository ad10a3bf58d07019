/-
  The digits that stand at a place, as the reference reads them; what the reference's Take answers; that it is what Take answers.
-/
import Derived.Test.YtnohcfgjhgfjkaaDoorRep25j
namespace Go.Proofs.YtnohcfgjhgfjkaaDoor.S
open Go.RowKit Go.Proofs.YtnohcfgjhgfjkaaDoorW.PrintWords
set_option linter.unusedVariables false
set_option linter.unusedSimpArgs false
theorem extract_mid (b : List UInt8) (x y : Nat) : (⟨b.toArray⟩ : ByteArray).extract x y = ⟨((b.drop x).take (y - x)).toArray⟩ := by apply ByteArray.ext; simp
/-- The digits at a place. -/
def digW (b : List UInt8) (x : Nat) : List UInt8 := (b.drop x).take (min 20 (digL (b.drop x)))
theorem digits_l0 (b : List UInt8) (hb : b.length ≤ 1048576) (x : Nat) (hx : x ≤ b.length) : ∀ (d k j : Nat), j + d = 20 → d + 1 ≤ k → x + j ≤ b.length → digL (b.drop x) = j + digL ((b.drop x).drop j) →
    cofferref25_digits.l0 k ⟨b.toArray⟩ (x : Int) ((x + j : Nat) : Int) = some ⟨(digW b x).toArray⟩
  | d, k, j, hd, hk, hj, hg => by
    obtain ⟨k, rfl⟩ : ∃ i, k = i + 1 := ⟨k - 1, by omega⟩
    have hend : ∀ m : Nat, m = min 20 (digL (b.drop x)) → m = j → (if ((x : Nat) : Int) > ((x + j : Nat) : Int) then some (⟨#[]⟩ : ByteArray) else (if (0 : Int) ≤ ((x : Nat) : Int) then (if ((x : Nat) : Int) ≤ ((x + j : Nat) : Int) then (if ((x + j : Nat) : Int) ≤ (((⟨b.toArray⟩ : ByteArray).size : Nat) : Int) then some ((⟨b.toArray⟩ : ByteArray).extract ((x : Nat) : Int).toNat ((x + j : Nat) : Int).toNat) else none) else none) else none)) = some ⟨(digW b x).toArray⟩ := fun m hm hmj => by
      rw [if_neg (by omega), if_pos (by omega), if_pos (by omega), if_pos (by rw [size_mk]; omega), Int.toNat_natCast, Int.toNat_natCast, extract_mid]
      unfold digW
      rw [← hm, hmj]
      congr 4
      omega
    have hdl := digL_le (b.drop x)
    rw [List.length_drop] at hdl
    rw [cofferref25_digits.l0]
    by_cases h1 : x + j < b.length
    · rw [if_pos (by rw [size_mk]; omega)]
      have ew : wrap64 (((x + j : Nat) : Int) - (x : Int)) = (j : Int) := by unfold wrap64; omega
      have e1 : wrap64 (((x + j : Nat) : Int) + 1) = ((x + (j + 1) : Nat) : Int) := by unfold wrap64; omega
      rw [ew]
      by_cases h2 : j < 20
      · rw [if_pos (by omega), if_pos (by omega)]
        have hbt : bt ⟨b.toArray⟩ ((x + j : Nat) : Int) = (b[x + j].toNat : Int) := by
          have := byteAt_list b (x + j) h1
          rw [List.getD_eq_getElem?_getD, List.getElem?_eq_getElem h1] at this
          exact this
        rw [hbt]
        have hdr : (b.drop x).drop j = b[x + j] :: b.drop (x + j + 1) := by rw [List.drop_drop, List.drop_eq_getElem_cons h1]
        rw [hdr, digL] at hg
        by_cases a : 48 ≤ (b[x + j].toNat : Int)
        · by_cases c : (b[x + j].toNat : Int) ≤ 57
          · rw [if_pos ⟨a, c⟩] at hg
            rw [if_pos a, if_pos c, e1]
            obtain ⟨d, rfl⟩ : ∃ i, d = i + 1 := ⟨d - 1, by omega⟩
            refine digits_l0 b hb x hx d k (j + 1) (by omega) (by omega) (by omega) ?_
            rw [List.drop_drop, show x + (j + 1) = x + j + 1 by omega]
            omega
          · rw [if_neg (fun h => c h.2)] at hg
            rw [if_pos a, if_neg c]
            exact hend _ rfl (by omega)
        · rw [if_neg (fun h => a h.1)] at hg
          rw [if_neg a]
          exact hend _ rfl (by omega)
      · rw [if_neg (by omega)]
        exact hend _ rfl (by omega)
    · rw [if_neg (by rw [size_mk]; omega)]
      have : (b.drop x).drop j = [] := by rw [List.drop_drop]; exact List.drop_of_length_le (by omega)
      rw [this] at hg
      have h0 : digL [] = 0 := rfl
      exact hend _ rfl (by omega)
theorem digits_f (b : List UInt8) (hb : b.length ≤ 1048576) (x : Nat) (hx : x ≤ b.length) (k : Nat) (hk : 21 ≤ k) : cofferref25_digits.f k ⟨b.toArray⟩ (x : Int) = some ⟨(digW b x).toArray⟩ :=
  digits_l0 b hb x hx 20 k 0 (by omega) (by omega) (by omega) (by simp)
/-- One end is tried: does it turn short; the body, whether it closes, how many bytes. -/
def refEnd (st n : Int) (b : List UInt8) (c : Bool) : Bool × Option (List UInt8 × Bool × Int) :=
  if begL (wholeL st n c) b = false then (false, none)
  else if b.length < (wholeL st n c).length ∨ (b.length : Int) - (wholeL st n c).length < n then (true, none)
  else (false, some ((b.drop (wholeL st n c).length).take n.toNat, c, (wholeL st n c).length + n))
def refBoth (st n : Int) (b : List UInt8) : Bool × Option (List UInt8 × Bool × Int) :=
  match (refEnd st n b false).2 with
  | some r => (false, some r)
  | none => ((refEnd st n b false).1 || (refEnd st n b true).1, (refEnd st n b true).2)
/-- One status is tried. -/
def refRound (st : Int) (b : List UInt8) : Bool × Option (List UInt8 × Bool × Int) :=
  if begL (headL st) b = false then (false, none)
  else if b.length ≤ (headL st).length then (true, none)
  else if (numOfL (digW b (headL st).length)).2 ≠ 0 then (false, none)
  else if b.length = (headL st).length + (digW b (headL st).length).length then (true, none)
  else refBoth st (numOfL (digW b (headL st).length)).1 b
def refFrom : List Int → List UInt8 → Bool → Int × List UInt8 × Bool × Int × Int
  | [], b, short => (0, [], false, 0, if short then 3 else 4)
  | st :: l, b, short =>
    match (refRound st b).2 with
    | some (body, c, m) => (st, body, c, m, 0)
    | none => refFrom l b (short || (refRound st b).1)
theorem begL_iff (x y : List UInt8) : begL x y = true ↔ x <+: y ∨ y <+: x := by
  unfold begL
  rw [beq_iff_eq]
  constructor
  · intro h
    rcases Nat.le_total x.length y.length with hl | hl
    · left
      rw [List.take_of_length_le hl] at h
      exact List.prefix_iff_eq_take.2 h
    · right
      rw [List.take_of_length_le hl] at h
      exact List.prefix_iff_eq_take.2 h.symm
  · rintro (h | h)
    · have := h.length_le
      rw [List.take_of_length_le this]
      exact List.prefix_iff_eq_take.1 h
    · have := h.length_le
      rw [List.take_of_length_le this]
      exact (List.prefix_iff_eq_take.1 h).symm
theorem begL_cancel (p x y : List UInt8) : begL (p ++ x) (p ++ y) = begL x y := by
  rcases hb : begL x y with _ | _
  · rcases hc : begL (p ++ x) (p ++ y) with _ | _
    · rfl
    · exfalso
      rcases (begL_iff _ _).1 hc with h | h
      · have := (begL_iff x y).2 (.inl ((List.prefix_append_right_inj p).1 h)); rw [hb] at this; cases this
      · have := (begL_iff x y).2 (.inr ((List.prefix_append_right_inj p).1 h)); rw [hb] at this; cases this
  · rcases (begL_iff _ _).1 hb with h | h
    · exact (begL_iff _ _).2 (.inl ((List.prefix_append_right_inj p).2 h))
    · exact (begL_iff _ _).2 (.inr ((List.prefix_append_right_inj p).2 h))
/-- The other statuses do not begin. -/
theorem other_no {a st : Int} {x : List UInt8} (ha : Three a) (hs : Three st) (hne : a ≠ st) : begL (headL a) (headL st ++ x) = false := by
  rcases hb : begL (headL a) (headL st ++ x) with _ | _
  · rfl
  · exfalso
    rcases (begL_iff _ _).1 hb with h | h
    · exact hne (head_inj ha hs h)
    · have h2 : headL st <+: headL a ++ [] := by rw [List.append_nil]; exact (List.prefix_append _ _).trans h
      exact hne (head_inj hs ha h2).symm
theorem round_no {a : Int} {b : List UInt8} (h : begL (headL a) b = false) : refRound a b = (false, none) := by unfold refRound; rw [if_pos h]
theorem refFrom_none (b : List UInt8) : ∀ (l : List Int) (short : Bool), (∀ a ∈ l, refRound a b = (false, none)) → refFrom l b short = (0, [], false, 0, if short then 3 else 4)
  | [], short, _ => rfl
  | a :: l, short, h => by
    unfold refFrom
    rw [h a (by simp)]
    simp only [Bool.or_false]
    exact refFrom_none b l short fun c hc => h c (by simp [hc])
/-- A status has been found: it alone speaks. -/
theorem refFrom_found (st : Int) (x : List UInt8) : ∀ (l : List Int) (short : Bool), (∀ a ∈ l, Three a) → l.Nodup → st ∈ l →
    refFrom l (headL st ++ x) short = (match (refRound st (headL st ++ x)).2 with | some (body, c, m) => (st, body, c, m, 0) | none => (0, [], false, 0, if (short || (refRound st (headL st ++ x)).1) then 3 else 4))
  | [], short, _, _, h => by simp at h
  | a :: l, short, ht, hn, h => by
    unfold refFrom
    rw [List.nodup_cons] at hn
    by_cases ha : a = st
    · subst ha
      have hl : ∀ c ∈ l, refRound c (headL a ++ x) = (false, none) := fun c hc => round_no (other_no (ht c (by simp [hc])) (ht a (by simp)) (fun e => hn.1 (e ▸ hc)))
      cases hr : (refRound a (headL a ++ x)).2 with
      | some r => rfl
      | none => exact refFrom_none _ l _ hl
    · have hs : st ∈ l := by
        rcases List.mem_cons.1 h with h | h
        · exact absurd h.symm ha
        · exact h
      rw [round_no (other_no (ht a (by simp)) (ht st h) ha)]
      simp only [Bool.or_false]
      exact refFrom_found st x l short (fun c hc => ht c (by simp [hc])) hn.2 hs
theorem dig_take (x : List UInt8) : ∀ c ∈ x.take (digL x), 48 ≤ c.toNat ∧ c.toNat ≤ 57 := by
  induction x with
  | nil => intro c h; simp at h
  | cons a x ih =>
    intro c h
    unfold digL at h
    split at h
    · rename_i hd
      rw [List.take_succ_cons] at h
      rcases List.mem_cons.1 h with rfl | h
      · omega
      · exact ih c h
    · simp at h
/-- Twenty digits and more are no number. -/
theorem long_bad (v : List UInt8) (hd : ∀ c ∈ v, 48 ≤ c.toNat ∧ c.toNat ≤ 57) (hl : 20 ≤ v.length) : (numOfL v).2 ≠ 0 := by
  have hb := byteAt_list v
  have hbd : ∀ j, j < v.length → 48 ≤ byteAt ⟨v.toArray⟩ j ∧ byteAt ⟨v.toArray⟩ j ≤ 57 := fun j hj => by
    rw [hb j hj, List.getD_eq_getElem?_getD, List.getElem?_eq_getElem hj]
    have := hd _ (List.getElem_mem hj)
    simp only [Option.getD_some]; omega
  have ha : alld (byteAt ⟨v.toArray⟩) v.length 0 = true := alld_of _ _ _ fun j _ hj => hbd j (by omega)
  unfold numOfL numS
  rw [if_neg (by rw [ha]; simp)]
  by_cases hz : v.length = 0 ∨ byteAt ⟨v.toArray⟩ 0 = 48 ∧ 1 < v.length
  · rw [if_pos hz]; simp
  · rw [if_neg hz]
    have h49 : 49 ≤ byteAt ⟨v.toArray⟩ 0 := by
      have := hbd 0 (by omega)
      have : byteAt ⟨v.toArray⟩ 0 ≠ 48 := fun e => hz (.inr ⟨e, by omega⟩)
      omega
    have h1 := V_ge _ h49 (v.length - 1) (fun j hj => (hbd j (by omega)).1)
    rw [show v.length - 1 + 1 = v.length by omega] at h1
    have h2 : (10 : Nat) ^ 19 ≤ 10 ^ (v.length - 1) := Nat.pow_le_pow_right (by omega) (by omega)
    rw [ten19] at h2
    rw [if_pos (by unfold maxN; omega)]
    simp
/-- A numeral without a leading zero is its value's numeral. -/
theorem dec_val : ∀ (n : Nat) (v : List UInt8), v.length = n + 1 → (∀ c ∈ v, 48 ≤ c.toNat ∧ c.toNat ≤ 57) → (∀ r, v = 48 :: r → r = []) → Lib.decDigits (val v) = v ∧ (v = [48] ∨ 0 < val v)
  | 0, v, hl, hd, hz => by
    obtain ⟨c, rfl⟩ : ∃ c, v = [c] := by
      rcases v with _ | ⟨c, _ | ⟨d, v⟩⟩
      · simp at hl
      · exact ⟨c, rfl⟩
      · simp at hl
    have hc := hd c (by simp)
    have hv : val [c] = c.toNat - 48 := by
      simp [val]
    rw [hv]
    constructor
    · rw [Lib.decDigits, dif_pos (by omega)]
      congr 1
      apply UInt8.toNat_inj.1
      rw [dig_toNat _ (by omega)]
      omega
    · by_cases h : c.toNat = 48
      · left
        have : c = 48 := UInt8.toNat_inj.1 h
        rw [this]
      · right; omega
  | n + 1, v, hl, hd, hz => by
    have hne : v ≠ [] := fun e => by rw [e] at hl; simp at hl
    have hv := List.dropLast_concat_getLast hne
    generalize hu : v.dropLast = u at hv
    generalize v.getLast hne = c at hv
    have hul : u.length = n + 1 := by rw [← hu, List.length_dropLast]; omega
    subst hv
    have hc := hd c (by simp)
    have hnz : ∀ r, u ≠ 48 :: r := fun r e => by
      have := hz (r ++ [c]) (by rw [e]; rfl)
      simp at this
    obtain ⟨h1, h2⟩ := dec_val n u hul (fun d hd' => hd d (by simp [hd'])) (fun r e => absurd e (hnz r))
    have hpos : 0 < val u := by
      rcases h2 with h2 | h2
      · exact absurd h2 (hnz [])
      · exact h2
    rw [val_snoc]
    refine ⟨?_, .inr (by omega)⟩
    rw [Lib.decDigits, dif_neg (by omega), show (10 * val u + (c.toNat - 48)) / 10 = val u by omega, h1]
    congr 2
    apply UInt8.toNat_inj.1
    rw [dig_toNat _ (by omega)]
    omega
/-- A number that is read is written as it stood. -/
theorem itoa_of_num (v : List UInt8) (hd : ∀ c ∈ v, 48 ≤ c.toNat ∧ c.toNat ≤ 57) (h : (numOfL v).2 = 0) : Lib.itoa (numOfL v).1 = v ∧ 0 ≤ (numOfL v).1 ∧ (numOfL v).1 ≤ 9223372036854775807 := by
  have hb := byteAt_list v
  have ha : alld (byteAt ⟨v.toArray⟩) v.length 0 = true := alld_of _ _ _ fun j _ hj => by
    rw [hb j (by omega), List.getD_eq_getElem?_getD, List.getElem?_eq_getElem (by omega)]
    have := hd _ (List.getElem_mem (show j < v.length by omega))
    simp only [Option.getD_some]; omega
  have hv := V_val _ _ (fun c hc => (hd c hc).1) (fun j hj => hb j hj) _ (Nat.le_refl v.length)
  rw [List.take_length] at hv
  unfold numOfL numS at h ⊢
  rw [if_neg (by rw [ha]; simp)] at h ⊢
  by_cases hz : v.length = 0 ∨ byteAt ⟨v.toArray⟩ 0 = 48 ∧ 1 < v.length
  · rw [if_pos hz] at h; simp at h
  · rw [if_neg hz] at h ⊢
    rw [hv] at h ⊢
    by_cases hm : maxN < (val v : Int)
    · rw [if_pos hm] at h; simp at h
    · rw [if_neg hm]
      have hm2 : (val v : Int) ≤ 9223372036854775807 := by unfold maxN at hm; omega
      refine ⟨?_, by show (0 : Int) ≤ (val v : Int); omega, hm2⟩
      show Lib.itoa (val v : Int) = v
      rw [itoa_nat]
      refine (dec_val (v.length - 1) v (by omega) hd (fun r e => ?_)).1
      rcases r with _ | ⟨d, r⟩
      · rfl
      · exfalso
        apply hz
        right
        rw [hb 0 (by rw [e]; simp), e]
        exact ⟨rfl, by simp⟩
theorem refEnd_eq (st n : Int) (w s2 : List UInt8) (c : Bool) (hw : Lib.itoa n = w) : refEnd st n (headL st ++ (w ++ s2)) c =
    if begL (tailL c) s2 = false then (false, none) else if s2.length < (tailL c).length ∨ (s2.length : Int) - (tailL c).length < n then (true, none) else (false, some ((s2.drop (tailL c).length).take n.toNat, c, (wholeL st n c).length + n)) := by
  have e : wholeL st n c = headL st ++ (w ++ tailL c) := by unfold wholeL; rw [hw]
  have el : (wholeL st n c).length = (headL st).length + (w.length + (tailL c).length) := by rw [e]; simp
  have eb : (headL st ++ (w ++ s2)).length = (headL st).length + (w.length + s2.length) := by simp
  have ed : (headL st ++ (w ++ s2)).drop (wholeL st n c).length = s2.drop (tailL c).length := by
    rw [el, ← List.drop_drop, List.drop_left, ← List.drop_drop, List.drop_left]
  have ec : begL (wholeL st n c) (headL st ++ (w ++ s2)) = begL (tailL c) s2 := by rw [e, begL_cancel, begL_cancel]
  unfold refEnd
  rw [ec, ed, eb]
  by_cases h : begL (tailL c) s2 = false
  · rw [if_pos h, if_pos h]
  · rw [if_neg h, if_neg h]
    by_cases h2 : s2.length < (tailL c).length ∨ (s2.length : Int) - (tailL c).length < n
    · rw [if_pos h2, if_pos (by rw [el]; omega)]
    · rw [if_neg h2, if_neg (by rw [el]; omega)]
theorem behL_cases (s t : List UInt8) : (t <+: s ∧ behL s t = (s.drop t.length, 0) ∧ begL t s = true ∧ t.length ≤ s.length) ∨ (s <+: t ∧ behL s t = ([], 3) ∧ begL t s = true ∧ s.length < t.length) ∨ (behL s t = ([], 4) ∧ begL t s = false) := by
  by_cases h1 : t <+: s
  · left
    refine ⟨h1, ?_, (begL_iff _ _).2 (.inl h1), h1.length_le⟩
    unfold behL
    rw [if_pos ⟨h1.length_le, (List.prefix_iff_eq_take.1 h1).symm⟩]
  · right
    have hn : ¬ (t.length ≤ s.length ∧ s.take t.length = t) := fun h => h1 (List.prefix_iff_eq_take.2 h.2.symm)
    by_cases h2 : s <+: t
    · left
      have hlt : s.length < t.length := by
        rcases Nat.lt_or_ge s.length t.length with h | h
        · exact h
        · have := h2.eq_of_length (Nat.le_antisymm h2.length_le h)
          subst this
          exact absurd (List.prefix_refl _) h1
      exact ⟨h2, behL_short h2 hlt, (begL_iff _ _).2 (.inr h2), hlt⟩
    · right
      refine ⟨?_, ?_⟩
      · unfold behL
        rw [if_neg hn, if_neg (fun h => h2 (List.prefix_iff_eq_take.2 h.2.symm))]
      · rcases hb : begL t s with _ | _
        · rfl
        · rcases (begL_iff _ _).1 hb with h | h
          · exact absurd h h1
          · exact absurd h h2
theorem tails_part {s : List UInt8} (h : tailL false <+: s) : begL (tailL true) s = false := by
  rcases hb : begL (tailL true) s with _ | _
  · rfl
  · exfalso
    obtain ⟨y, rfl⟩ := h
    rcases (begL_iff _ _).1 hb with ⟨z, hz⟩ | ⟨z, hz⟩
    · simp [tailL] at hz
    · simp [tailL] at hz
/-- What is answered behind a number. -/
def endAns (st n : Int) (m : Int) (s2 : List UInt8) : Int × List UInt8 × Bool × Int × Int :=
  if (ends s2).2.1 ≠ 0 then (0, [], false, 0, (ends s2).2.1) else if ((ends s2).1.length : Int) < n then (0, [], false, 0, 3)
  else (st, (ends s2).1.take n.toNat, (ends s2).2.2, m - (ends s2).1.length + n, 0)
theorem both_eq (st n : Int) (w s2 : List UInt8) (hw : Lib.itoa n = w) :
    (match (refBoth st n (headL st ++ (w ++ s2))).2 with | some (body, c, m) => (st, body, c, m, (0 : Int)) | none => (0, [], false, 0, if (refBoth st n (headL st ++ (w ++ s2))).1 then 3 else 4)) = endAns st n ((headL st ++ (w ++ s2)).length : Int) s2 := by
  have el : ∀ c, (wholeL st n c).length = (headL st).length + (w.length + (tailL c).length) := fun c => by unfold wholeL; rw [hw]; simp
  have eb : (headL st ++ (w ++ s2)).length = (headL st).length + (w.length + s2.length) := by simp
  have e0 := refEnd_eq st n w s2 false hw
  have e1 := refEnd_eq st n w s2 true hw
  have lf : (tailL false).length = 4 := rfl
  have lt : (tailL true).length = 23 := rfl
  rcases behL_cases s2 (tailL false) with ⟨p0, b0, g0, l0⟩ | ⟨p0, b0, g0, l0⟩ | ⟨b0, g0⟩
  · have en : ends s2 = (s2.drop (tailL false).length, 0, false) := by unfold ends; rw [b0]; rfl
    have g1 := tails_part p0
    have ld : (s2.drop (tailL false).length).length = s2.length - (tailL false).length := List.length_drop
    rw [g0, if_neg (by simp)] at e0
    rw [if_pos g1] at e1
    by_cases hn : (s2.length : Int) - (tailL false).length < n
    · rw [if_pos (Or.inr hn)] at e0
      have hb : refBoth st n (headL st ++ (w ++ s2)) = (true, none) := by unfold refBoth; rw [e0, e1]; rfl
      rw [hb]
      unfold endAns
      rw [en]
      simp only [ne_eq, not_true_eq_false, if_false]
      rw [if_pos (show ((s2.drop (tailL false).length).length : Int) < n by rw [ld]; omega)]
      rfl
    · rw [if_neg (by rintro (h | h) <;> omega)] at e0
      have hb : refBoth st n (headL st ++ (w ++ s2)) = (false, some ((s2.drop (tailL false).length).take n.toNat, false, (wholeL st n false).length + n)) := by unfold refBoth; rw [e0]
      rw [hb]
      unfold endAns
      rw [en]
      simp only [ne_eq, not_true_eq_false, if_false]
      rw [if_neg (show ¬ ((s2.drop (tailL false).length).length : Int) < n by rw [ld]; omega), el, eb, ld]
      congr 4
      omega
  · have l1 : s2.length < (tailL true).length := by omega
    have hb1 : (behL s2 (tailL true)).2 ≠ 0 := fun h => by have := (behL_zero h).length_le; omega
    have en : ends s2 = ([], 3, false) := by
      unfold ends
      rw [b0, if_neg (by simp)]
      rw [if_neg (by
        rintro (h | h)
        · exact hb1 h
        · simp at h)]
    rw [g0, if_neg (by simp), if_pos (Or.inl l0)] at e0
    have e1' : (refEnd st n (headL st ++ (w ++ s2)) true).2 = none := by
      rw [e1]
      by_cases g1 : begL (tailL true) s2 = false
      · rw [if_pos g1]
      · rw [if_neg g1, if_pos (Or.inl l1)]
    have hb : refBoth st n (headL st ++ (w ++ s2)) = (true, none) := by unfold refBoth; rw [e0, e1']; rfl
    rw [hb]
    unfold endAns
    rw [en]
    rfl
  · have en : ends s2 = ((behL s2 (tailL true)).1, (behL s2 (tailL true)).2, true) := by
      unfold ends
      rw [b0, if_neg (by simp), if_pos (Or.inr rfl)]
    rw [if_pos g0] at e0
    have hb : refBoth st n (headL st ++ (w ++ s2)) = refEnd st n (headL st ++ (w ++ s2)) true := by unfold refBoth; rw [e0]; simp
    rw [hb]
    unfold endAns
    rw [en]
    rcases behL_cases s2 (tailL true) with ⟨p1, b1, g1, l1⟩ | ⟨p1, b1, g1, l1⟩ | ⟨b1, g1⟩
    · have ld : (s2.drop (tailL true).length).length = s2.length - (tailL true).length := List.length_drop
      rw [g1, if_neg (by simp)] at e1
      rw [b1]
      simp only [ne_eq, not_true_eq_false, if_false]
      by_cases hn : (s2.length : Int) - (tailL true).length < n
      · rw [if_pos (Or.inr hn)] at e1
        rw [e1, if_pos (show ((s2.drop (tailL true).length).length : Int) < n by rw [ld]; omega)]
        rfl
      · rw [if_neg (by rintro (h | h) <;> omega)] at e1
        rw [e1, if_neg (show ¬ ((s2.drop (tailL true).length).length : Int) < n by rw [ld]; omega)]
        simp only []
        rw [el, eb, ld]
        congr 4
        omega
    · rw [g1, if_neg (by simp), if_pos (Or.inl l1)] at e1
      rw [e1, b1]
      rfl
    · rw [if_pos g1] at e1
      rw [e1, b1]
      rfl
theorem agree_found (st : Int) (x : List UInt8) (hst : st ∈ nums11) : refFrom nums11 (headL st ++ x) false = takeS (headL st ++ x) := by
  rw [refFrom_found st x nums11 false three11 (by decide) hst]
  have hf := find_app st x nums11 4 three11 hst
  have htk : takeS (headL st ++ x) = (if (numL x).2.2 ≠ 0 then (0, [], false, 0, (numL x).2.2) else endAns st (numL x).1 ((headL st ++ x).length : Int) (numL x).2.1) := by
    unfold takeS endAns
    rw [hf]
    simp only []
    rw [if_neg (by simp)]
  rw [htk]
  have hbg : begL (headL st) (headL st ++ x) = true := (begL_iff _ _).2 (.inl (List.prefix_append _ _))
  have hdr : (headL st ++ x).drop (headL st).length = x := List.drop_left
  have hdw : digW (headL st ++ x) (headL st).length = x.take (min 20 (digL x)) := by unfold digW; rw [hdr]
  have hlen : (headL st ++ x).length = (headL st).length + x.length := List.length_append
  simp only [Bool.false_or]
  by_cases hx : x = []
  · subst hx
    have hr : refRound st (headL st ++ []) = (true, none) := by
      unfold refRound
      rw [hbg, if_neg (by simp), if_pos (by rw [hlen]; simp)]
    rw [hr]
    rfl
  · have hxl : 0 < x.length := List.length_pos_iff.2 hx
    have hdg := dig_take x
    have hdl := digL_le x
    have hrr : refRound st (headL st ++ x) = (if (numOfL (x.take (min 20 (digL x)))).2 ≠ 0 then (false, none)
        else if (headL st ++ x).length = (headL st).length + (x.take (min 20 (digL x))).length then (true, none)
        else refBoth st (numOfL (x.take (min 20 (digL x)))).1 (headL st ++ x)) := by
      unfold refRound
      rw [hbg, hdw, if_neg (by simp), if_neg (by rw [hlen]; omega)]
    have hnl : numL x = if (numOfL (x.take (digL x))).2 = 0 then ((numOfL (x.take (digL x))).1, x.drop (digL x), 0) else (0, [], 4) := by
      unfold numL; rw [if_neg hx]
    by_cases h20 : digL x ≤ 20
    · have em : min 20 (digL x) = digL x := Nat.min_eq_right h20
      rw [em] at hrr
      by_cases hok : (numOfL (x.take (digL x))).2 = 0
      · rw [if_pos hok] at hnl
        rw [if_neg (by simpa using hok)] at hrr
        rw [hnl]
        simp only []
        by_cases hend : (headL st ++ x).length = (headL st).length + (x.take (digL x)).length
        · have hd0 : x.drop (digL x) = [] := by
            rw [hlen, List.length_take] at hend
            exact List.drop_of_length_le (by omega)
          rw [if_pos hend] at hrr
          rw [hrr, hd0, if_neg (show ¬ (0 : Int) ≠ 0 by simp)]
          unfold endAns
          rw [ends_nil]
          rfl
        · rw [if_neg hend] at hrr
          rw [hrr, if_neg (show ¬ (0 : Int) ≠ 0 by simp)]
          have hit := (itoa_of_num _ hdg hok).1
          have := both_eq st (numOfL (x.take (digL x))).1 (x.take (digL x)) (x.drop (digL x)) hit
          rw [List.take_append_drop] at this
          exact this
      · rw [if_neg hok] at hnl
        rw [if_pos hok] at hrr
        rw [hrr, hnl]
        rfl
    · have em : min 20 (digL x) = 20 := Nat.min_eq_left (by omega)
      rw [em] at hrr
      have hl1 : (x.take 20).length = 20 := by rw [List.length_take]; omega
      have hl2 : (x.take (digL x)).length = digL x := by rw [List.length_take]; omega
      have ht : x.take 20 = (x.take (digL x)).take 20 := by rw [List.take_take, em]
      have hb1 : (numOfL (x.take 20)).2 ≠ 0 := long_bad _ (fun c hc => hdg c (by rw [ht] at hc; exact List.mem_of_mem_take hc)) (by omega)
      have hb2 : (numOfL (x.take (digL x))).2 ≠ 0 := long_bad _ hdg (by omega)
      rw [if_neg hb2] at hnl
      rw [if_pos hb1] at hrr
      rw [hrr, hnl]
      rfl
theorem agree_fold (b : List UInt8) : ∀ (l : List Int) (short : Bool), (∀ a ∈ l, ¬ headL a <+: b) →
    refFrom l b short = (0, [], false, 0, (find l b (if short then 3 else 4)).2.2) ∧ (find l b (if short then 3 else 4)).2.2 ≠ 0
  | [], short, _ => by
    refine ⟨rfl, ?_⟩
    unfold find
    cases short <;> simp
  | a :: l, short, h => by
    have ha := h a (by simp)
    have hne : (behL b (headL a)).2 ≠ 0 := fun h0 => ha (behL_zero h0)
    unfold refFrom find
    rw [if_neg hne]
    rcases behL_cases b (headL a) with ⟨p0, b0, g0, l0⟩ | ⟨p0, b0, g0, l0⟩ | ⟨b0, g0⟩
    · exact absurd p0 ha
    · have hr : refRound a b = (true, none) := by
        unfold refRound
        rw [g0, if_neg (by simp), if_pos (by omega)]
      rw [hr, b0]
      have := agree_fold b l true fun c hc => h c (by simp [hc])
      simpa using this
    · rw [round_no g0, b0]
      have := agree_fold b l short fun c hc => h c (by simp [hc])
      simpa using this
/-- The two Takes agree. -/
theorem agree (b : List UInt8) : refFrom nums11 b false = takeS b := by
  by_cases h : ∃ st ∈ nums11, headL st <+: b
  · obtain ⟨st, hst, x, rfl⟩ := h
    exact agree_found st x hst
  · have h2 : ∀ a ∈ nums11, ¬ headL a <+: b := fun a ha hp => h ⟨a, ha, hp⟩
    obtain ⟨h3, h4⟩ := agree_fold b nums11 false h2
    rw [h3]
    have h5 : (find nums11 b 4).2.2 ≠ 0 := by simpa using h4
    unfold takeS
    rw [if_pos h5]
    rfl
end Go.Proofs.YtnohcfgjhgfjkaaDoor.S
