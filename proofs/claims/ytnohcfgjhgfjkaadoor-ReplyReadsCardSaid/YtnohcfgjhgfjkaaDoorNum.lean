/-
  Which digits are numbers: names.Number and its reference, as the print tells them.
-/
import Derived.Test.YtnohcfgjhgfjkaaDoorSx
import Derived.Test.YtnohcfgjhgfjkaaDoorDec
namespace Go.Proofs.YtnohcfgjhgfjkaaDoor.S
open Go.RowKit Go.Proofs.YtnohcfgjhgfjkaaDoorW.PrintWords Go.Proofs.YtnohcfgjhgfjkaaDoorW.PrintLast Go.Proofs.YtnohcfgjhgfjkaaDoorW.PrintMore
set_option linter.unusedVariables false
set_option linter.unusedSimpArgs false

theorem fuel {k n : Nat} (h : n + 1 ≤ k) : ∃ j, k = j + 1 ∧ n ≤ j := ⟨k - 1, by omega, by omega⟩
def byteAt (s : ByteArray) (j : Nat) : Int := bt s j
def isd (c : Int) : Bool := decide (48 ≤ c ∧ c ≤ 57)
def alld (b : Nat → Int) : Nat → Nat → Bool
  | 0, _ => true
  | d + 1, i => isd (b i) && alld b d (i + 1)
theorem alld_at (b : Nat → Int) : ∀ (d i : Nat), alld b d i = true → ∀ j, i ≤ j → j < i + d → 48 ≤ b j ∧ b j ≤ 57
  | 0, i, _, j, h1, h2 => by omega
  | d + 1, i, h, j, h1, h2 => by
    simp only [alld, Bool.and_eq_true] at h
    by_cases e : j = i
    · subst e; simpa [isd] using h.1
    · exact alld_at b d (i + 1) h.2 j (by omega) (by omega)
/-- The number that the first k digits tell. -/
def V (b : Nat → Int) : Nat → Int
  | 0 => 0
  | k + 1 => 10 * V b k + (b k - 48)
theorem V_nonneg (b : Nat → Int) : ∀ k, (∀ j, j < k → 48 ≤ b j) → 0 ≤ V b k
  | 0, _ => by simp [V]
  | k + 1, h => by
    have := V_nonneg b k (fun j hj => h j (by omega))
    have := h k (by omega)
    unfold V; omega
theorem V_mono (b : Nat → Int) (i : Nat) : ∀ d, (∀ j, j < i + d → 48 ≤ b j) → V b i ≤ V b (i + d)
  | 0, _ => by simp
  | d + 1, h => by
    have h1 := V_mono b i d (fun j hj => h j (by omega))
    have h2 := V_nonneg b (i + d) (fun j hj => h j (by omega))
    have h3 := h (i + d) (by omega)
    show V b i ≤ V b ((i + d) + 1)
    rw [V]; omega
theorem V_lt (b : Nat → Int) : ∀ k, (∀ j, j < k → 48 ≤ b j ∧ b j ≤ 57) → V b k < (10 ^ k : Nat)
  | 0, _ => by simp [V]
  | k + 1, h => by
    have h1 := V_lt b k (fun j hj => h j (by omega))
    have h2 := h k (by omega)
    have e : (10 : Nat) ^ (k + 1) = 10 ^ k * 10 := Nat.pow_succ ..
    unfold V; omega
theorem V_ge (b : Nat → Int) (h0 : 49 ≤ b 0) : ∀ k, (∀ j, j < k + 1 → 48 ≤ b j) → ((10 ^ k : Nat) : Int) ≤ V b (k + 1)
  | 0, _ => by simp [V]; omega
  | k + 1, h => by
    have h1 := V_ge b h0 k (fun j hj => h j (by omega))
    have h2 := h (k + 1) (by omega)
    have e : (10 : Nat) ^ (k + 1) = 10 ^ k * 10 := Nat.pow_succ ..
    rw [V]; omega
def maxN : Int := 9223372036854775807
/-- What Number answers. -/
def numS (b : Nat → Int) (n : Nat) : Int × Int :=
  if alld b n 0 = false then (0, 4) else if n = 0 ∨ b 0 = 48 ∧ 1 < n then (0, 4) else if maxN < V b n then (0, 2) else (V b n, 0)
theorem num_l1 (s : ByteArray) (hs : s.size ≤ 1048576) (ha : alld (byteAt s) s.size 0 = true) : ∀ (d k i : Nat), i + d = s.size → d + 1 ≤ k → V (byteAt s) i ≤ maxN →
    names_Number.l1 k s (V (byteAt s) i) (s.size : Int) (i : Int) = some (if maxN < V (byteAt s) s.size then (0, 2) else (V (byteAt s) s.size, 0))
  | 0, k, i, hd, hk, hv => by
    obtain ⟨k, rfl⟩ : ∃ j, k = j + 1 := ⟨k - 1, by omega⟩
    obtain rfl : i = s.size := by omega
    simp only [names_Number.l1]; rw [if_neg (by omega), if_neg (by omega)]
  | d + 1, k, i, hd, hk, hv => by
    obtain ⟨k, rfl⟩ : ∃ j, k = j + 1 := ⟨k - 1, by omega⟩
    have dig := alld_at (byteAt s) s.size 0 ha
    have hc := dig i (by omega) (by omega)
    have h0 := V_nonneg (byteAt s) i (fun j hj => (dig j (by omega) (by omega)).1)
    have e : wrap64 ((i : Int) + 1) = ((i + 1 : Nat) : Int) := by unfold wrap64; omega
    have hb : byteAt s i = bt s i := rfl
    have hm : (bt s i - 48) % 256 = byteAt s i - 48 := by rw [← hb]; omega
    have hV : V (byteAt s) (i + 1) = 10 * V (byteAt s) i + (byteAt s i - 48) := rfl
    simp only [names_Number.l1]
    rw [if_pos (by omega), if_pos (by omega), if_pos (by omega), hm, e]
    unfold maxN at hv
    by_cases g : V (byteAt s) i > (9223372036854775807 - (byteAt s i - 48)) / 10
    · rw [if_pos g]
      have h1 : maxN < V (byteAt s) (i + 1) := by rw [hV]; unfold maxN; omega
      have h2 := V_mono (byteAt s) (i + 1) d (fun j hj => (dig j (by omega) (by omega)).1)
      rw [show i + 1 + d = s.size by omega] at h2
      rw [if_pos (by omega)]
    · rw [if_neg g]
      have h1 : V (byteAt s) (i + 1) ≤ maxN := by rw [hV]; unfold maxN; omega
      have w1 : wrap64 (10 * V (byteAt s) i) = 10 * V (byteAt s) i := by unfold wrap64; omega
      have w2 : wrap64 (10 * V (byteAt s) i + (byteAt s i - 48)) = V (byteAt s) (i + 1) := by rw [hV]; unfold wrap64; omega
      rw [w1, w2]
      exact num_l1 s hs ha d k (i + 1) (by omega) (by omega) h1
theorem toList_nil (s : ByteArray) : s.toList = ([] : List UInt8) ↔ s.size = 0 := by
  rw [Lib.toList_data]
  constructor
  · intro h; rw [Lib.size_eq, h]; rfl
  · intro h; apply List.eq_nil_of_length_eq_zero; rw [← Lib.size_eq]; exact h
theorem num_tail (s : ByteArray) (hs : s.size ≤ 1048576) (ha : alld (byteAt s) s.size 0 = true) (k : Nat) (hk : s.size + 2 ≤ k) :
    (if s.toList = ([] : List UInt8) then (names_Number.j1 k s true) else (if 0 < (s.size : Int) then (if (bt s 0) = 48 then (names_Number.j1 k s (decide ((s.size : Int) > 1))) else (names_Number.j1 k s false)) else (none))) = some (numS (byteAt s) s.size) := by
  obtain ⟨k, rfl⟩ : ∃ j, k = j + 1 := ⟨k - 1, by omega⟩
  unfold numS
  rw [if_neg (show ¬ alld (byteAt s) s.size 0 = false by rw [ha]; simp)]
  have hb : byteAt s 0 = bt s 0 := rfl
  by_cases h0 : s.size = 0
  · rw [if_pos ((toList_nil s).2 h0), if_pos (.inl h0)]; simp [names_Number.j1]
  rw [if_neg (fun h => h0 ((toList_nil s).1 h)), if_pos (by omega)]
  have main := num_l1 s hs ha s.size k 0 (by omega) (by omega) (by simp [V, maxN])
  simp only [names_Number.j1]
  by_cases h1 : bt s 0 = 48
  · rw [if_pos h1]
    by_cases h2 : (s.size : Int) > 1
    · rw [if_pos (decide_eq_true h2), if_pos (.inr ⟨by rw [hb]; exact h1, by omega⟩)]
    · rw [if_neg (by simpa using h2), if_neg (by omega)]
      exact main
  · rw [if_neg h1, if_neg (by simp), if_neg (by omega)]
    exact main
theorem num_l0 (s : ByteArray) (hs : s.size ≤ 1048576) : ∀ (d k i : Nat), i + d = s.size → d + s.size + 4 ≤ k → (∀ j, j < i → 48 ≤ byteAt s j ∧ byteAt s j ≤ 57) →
    names_Number.l0 k s (s.size : Int) (i : Int) = some (numS (byteAt s) s.size)
  | 0, k, i, hd, hk, hv => by
    obtain ⟨k, rfl⟩ : ∃ j, k = j + 1 := ⟨k - 1, by omega⟩
    simp only [names_Number.l0]; rw [if_neg (by omega)]
    have ha : alld (byteAt s) s.size 0 = true := by
      have key : ∀ (d i : Nat), i + d = s.size → alld (byteAt s) d i = true := by
        intro d
        induction d with
        | zero => intro i _; rfl
        | succ d ih => intro i' h'; simp only [alld, Bool.and_eq_true]; exact ⟨by unfold isd; exact decide_eq_true (hv i' (by omega)), ih (i' + 1) (by omega)⟩
      exact key s.size 0 (by omega)
    exact num_tail s hs ha k (by omega)
  | d + 1, k, i, hd, hk, hv => by
    obtain ⟨k, rfl⟩ : ∃ j, k = j + 1 := ⟨k - 1, by omega⟩
    have e : wrap64 ((i : Int) + 1) = ((i + 1 : Nat) : Int) := by unfold wrap64; omega
    have hb : byteAt s i = bt s i := rfl
    have bad : ¬ (48 ≤ byteAt s i ∧ byteAt s i ≤ 57) → numS (byteAt s) s.size = (0, 4) := by
      intro h
      unfold numS
      rw [if_pos]
      cases ha : alld (byteAt s) s.size 0 with
      | false => rfl
      | true => exact absurd (alld_at _ _ _ ha i (by omega) (by omega)) h
    simp only [names_Number.l0]
    rw [if_pos (by omega), if_pos (by omega), if_pos (by omega), e]
    by_cases g : bt s i < 48
    · rw [if_pos g, bad (by omega)]
    rw [if_neg g]
    by_cases g2 : bt s i > 57
    · rw [if_pos g2, bad (by omega)]
    rw [if_neg g2]
    exact num_l0 s hs d k (i + 1) (by omega) (by omega) (fun j hj => by by_cases ej : j = i; (subst ej; omega); exact hv j (by omega))
theorem number_f (s : ByteArray) (hs : s.size ≤ 1048576) (k : Nat) (hk : 2 * s.size + 4 ≤ k) : names_Number.f k s = some (numS (byteAt s) s.size) := by
  unfold names_Number.f
  exact num_l0 s hs s.size k 0 (by omega) (by omega) (fun j hj => by omega)
theorem wrap_u64 (n : Int) (h0 : 0 ≤ n) (h1 : n < 18446744073709551616) : IntKind.u64.wrap n = n := by
  simp only [IntKind.wrap, IntKind.bits, IntKind.signed]
  simp
  omega
theorem ten19 : (10 : Nat) ^ 19 = 10000000000000000000 := by decide
theorem ref_num_l1 (s : ByteArray) (hs : s.size ≤ 1048576) (ha : alld (byteAt s) s.size 0 = true) (hz : ¬ (byteAt s 0 = 48 ∧ 1 < s.size)) : ∀ (d k i : Nat), i + d = s.size → d + 1 ≤ k → i ≤ 19 → V (byteAt s) i ≤ maxN →
    cofferref4_Number.l1 k s (V (byteAt s) i) (i : Int) = some (if maxN < V (byteAt s) s.size then (0, 2) else (V (byteAt s) s.size, 0))
  | 0, k, i, hd, hk, hi, hv => by
    obtain ⟨k, rfl⟩ : ∃ j, k = j + 1 := ⟨k - 1, by omega⟩
    obtain rfl : i = s.size := by omega
    have dig := alld_at (byteAt s) s.size 0 ha
    have h0 := V_nonneg (byteAt s) s.size (fun j hj => (dig j (by omega) (by omega)).1)
    simp only [cofferref4_Number.l1]; rw [if_neg (by omega), if_neg (by omega)]
    have : wrap64 (V (byteAt s) s.size) = V (byteAt s) s.size := by unfold maxN at hv; unfold wrap64; omega
    rw [this]
  | d + 1, k, i, hd, hk, hi, hv => by
    obtain ⟨k, rfl⟩ : ∃ j, k = j + 1 := ⟨k - 1, by omega⟩
    have dig := alld_at (byteAt s) s.size 0 ha
    have hc := dig i (by omega) (by omega)
    have h0 := V_nonneg (byteAt s) i (fun j hj => (dig j (by omega) (by omega)).1)
    have e : wrap64 ((i : Int) + 1) = ((i + 1 : Nat) : Int) := by unfold wrap64; omega
    have hb : byteAt s i = bt s i := rfl
    have hm : (bt s i - 48) % 256 = byteAt s i - 48 := by rw [← hb]; omega
    have hV : V (byteAt s) (i + 1) = 10 * V (byteAt s) i + (byteAt s i - 48) := rfl
    have hmono := V_mono (byteAt s) (i + 1) d (fun j hj => (dig j (by omega) (by omega)).1)
    rw [show i + 1 + d = s.size by omega] at hmono
    simp only [cofferref4_Number.l1]
    rw [if_pos (by omega)]
    by_cases g0 : (i : Int) > 18
    · rw [if_pos g0]
      have h49 : 49 ≤ byteAt s 0 := by
        have := dig 0 (by omega) (by omega)
        have : byteAt s 0 ≠ 48 := fun h => hz ⟨h, by omega⟩
        omega
      have i19 : i = 19 := by omega
      have := V_ge (byteAt s) h49 i (fun j hj => (dig j (by omega) (by omega)).1)
      rw [i19, ten19] at this
      rw [i19] at hmono
      rw [if_pos (by unfold maxN; omega)]
    rw [if_neg g0, if_pos (by omega), hm, e]
    have hlt := V_lt (byteAt s) (i + 1) (fun j hj => dig j (by omega) (by omega))
    have hp : (10 : Nat) ^ (i + 1) ≤ 10 ^ 19 := Nat.pow_le_pow_right (by omega) (by omega)
    rw [ten19] at hp
    rw [wrap_u64 (V (byteAt s) i * 10) (by omega) (by omega), wrap_u64 (V (byteAt s) i * 10 + (byteAt s i - 48)) (by omega) (by omega)]
    have e2 : V (byteAt s) i * 10 + (byteAt s i - 48) = V (byteAt s) (i + 1) := by omega
    rw [e2]
    by_cases g : V (byteAt s) (i + 1) > 9223372036854775807
    · rw [if_pos g, if_pos (by unfold maxN; omega)]
    · rw [if_neg g]
      exact ref_num_l1 s hs ha hz d k (i + 1) (by omega) (by omega) (by omega) (by unfold maxN; omega)
theorem ref_num_l0 (s : ByteArray) (hs : s.size ≤ 1048576) (hn : s.size ≠ 0) (hz : ¬ (byteAt s 0 = 48 ∧ 1 < s.size)) : ∀ (d k i : Nat), i + d = s.size → d + s.size + 4 ≤ k → (∀ j, j < i → 48 ≤ byteAt s j ∧ byteAt s j ≤ 57) →
    cofferref4_Number.l0 k s (i : Int) = some (numS (byteAt s) s.size)
  | 0, k, i, hd, hk, hv => by
    obtain ⟨k, rfl⟩ : ∃ j, k = j + 1 := ⟨k - 1, by omega⟩
    simp only [cofferref4_Number.l0]; rw [if_neg (by omega)]
    have ha : alld (byteAt s) s.size 0 = true := by
      have key : ∀ (d i : Nat), i + d = s.size → alld (byteAt s) d i = true := by
        intro d
        induction d with
        | zero => intro i _; rfl
        | succ d ih => intro i' h'; simp only [alld, Bool.and_eq_true]; exact ⟨by unfold isd; exact decide_eq_true (hv i' (by omega)), ih (i' + 1) (by omega)⟩
      exact key s.size 0 (by omega)
    unfold numS
    rw [if_neg (show ¬ alld (byteAt s) s.size 0 = false by rw [ha]; simp), if_neg (by omega)]
    exact ref_num_l1 s hs ha hz s.size k 0 (by omega) (by omega) (by omega) (by simp [V, maxN])
  | d + 1, k, i, hd, hk, hv => by
    obtain ⟨k, rfl⟩ : ∃ j, k = j + 1 := ⟨k - 1, by omega⟩
    have e : wrap64 ((i : Int) + 1) = ((i + 1 : Nat) : Int) := by unfold wrap64; omega
    have hb : byteAt s i = bt s i := rfl
    have bad : ¬ (48 ≤ byteAt s i ∧ byteAt s i ≤ 57) → numS (byteAt s) s.size = (0, 4) := by
      intro h
      unfold numS
      rw [if_pos]
      cases ha : alld (byteAt s) s.size 0 with
      | false => rfl
      | true => exact absurd (alld_at _ _ _ ha i (by omega) (by omega)) h
    simp only [cofferref4_Number.l0]
    rw [if_pos (by omega), if_pos (by omega), e]
    by_cases g : bt s i < 48
    · rw [if_pos g, bad (by omega)]
    rw [if_neg g]
    by_cases g2 : bt s i > 57
    · rw [if_pos g2, bad (by omega)]
    rw [if_neg g2]
    exact ref_num_l0 s hs hn hz d k (i + 1) (by omega) (by omega) (fun j hj => by by_cases ej : j = i; (subst ej; omega); exact hv j (by omega))
theorem ref_number_f (s : ByteArray) (hs : s.size ≤ 1048576) (k : Nat) (hk : 2 * s.size + 6 ≤ k) : cofferref4_Number.f k s = some (numS (byteAt s) s.size) := by
  obtain ⟨k, rfl⟩ : ∃ j, k = j + 1 := ⟨k - 1, by omega⟩
  unfold cofferref4_Number.f
  simp only [cofferref4_Number.j0]
  have hb : byteAt s 0 = bt s 0 := rfl
  have bad : (s.size = 0 ∨ byteAt s 0 = 48 ∧ 1 < s.size) → numS (byteAt s) s.size = (0, 4) := by
    intro h
    unfold numS
    by_cases hh : alld (byteAt s) s.size 0 = false
    · rw [if_pos hh]
    · rw [if_neg hh, if_pos h]
  by_cases h0 : s.size = 0
  · rw [if_pos ((toList_nil s).2 h0), if_pos trivial, bad (.inl h0)]
  rw [if_neg (fun h => h0 ((toList_nil s).1 h)), if_pos (by omega)]
  by_cases h1 : bt s 0 = 48
  · rw [if_pos h1]
    by_cases h2 : (s.size : Int) > 1
    · rw [if_pos (decide_eq_true h2), bad (.inr ⟨by rw [hb]; exact h1, by omega⟩)]
    · rw [if_neg (by simpa using h2)]
      exact ref_num_l0 s hs h0 (by omega) s.size k 0 (by omega) (by omega) (fun j hj => by omega)
  · rw [if_neg h1, if_neg (by simp)]
    exact ref_num_l0 s hs h0 (by omega) s.size k 0 (by omega) (by omega) (fun j hj => by omega)

end Go.Proofs.YtnohcfgjhgfjkaaDoor.S
