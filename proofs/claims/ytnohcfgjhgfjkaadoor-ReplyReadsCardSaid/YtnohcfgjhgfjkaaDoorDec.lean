/-
  Decimal numerals as lists of bytes: their digits, their value, that no two numbers have one numeral.
-/
import Derived.Lib.ItoaNum
import Derived.Lib.Strings
namespace Go.Proofs.YtnohcfgjhgfjkaaDoor.S
set_option linter.unusedVariables false
set_option linter.unusedSimpArgs false
open Go

/-- The number that digits tell. -/
def val (l : List UInt8) : Nat := l.foldl (fun a c => 10 * a + (c.toNat - 48)) 0
theorem val_snoc (l : List UInt8) (c : UInt8) : val (l ++ [c]) = 10 * val l + (c.toNat - 48) := by simp [val, List.foldl_append]
theorem dig_toNat (d : Nat) (h : d < 10) : (UInt8.ofNat (48 + d)).toNat = 48 + d := by simp; omega
theorem dec_digits : ∀ (u : Nat), ∀ c ∈ Lib.decDigits u, 48 ≤ c.toNat ∧ c.toNat ≤ 57
  | u => by
    rw [Lib.decDigits]
    split
    · rename_i h
      intro c hc
      obtain rfl := List.mem_singleton.1 hc
      rw [dig_toNat u h]; omega
    · rename_i h
      intro c hc
      rcases List.mem_append.1 hc with hc | hc
      · exact dec_digits (u / 10) c hc
      · obtain rfl := List.mem_singleton.1 hc
        rw [dig_toNat _ (by omega)]; omega
theorem val_dec : ∀ (u : Nat), val (Lib.decDigits u) = u
  | u => by
    rw [Lib.decDigits]
    split
    · rename_i h
      have := val_snoc [] (UInt8.ofNat (48 + u))
      rw [dig_toNat u h] at this
      simpa [val] using this
    · rename_i h
      rw [val_snoc, val_dec (u / 10), dig_toNat _ (by omega)]; omega
theorem dec_ne_nil (u : Nat) : Lib.decDigits u ≠ [] := by
  rw [Lib.decDigits]; split <;> simp
/-- The first digit is 0 for 0 alone. -/
theorem dec_head : ∀ (u : Nat), ∃ c r, Lib.decDigits u = c :: r ∧ (u = 0 → r = []) ∧ (c = 48 → u = 0)
  | u => by
    rw [Lib.decDigits]
    split
    · rename_i h
      refine ⟨_, [], rfl, fun _ => rfl, fun hc => ?_⟩
      have := congrArg UInt8.toNat hc
      rw [dig_toNat u h] at this
      have e : (48 : UInt8).toNat = 48 := rfl
      omega
    · rename_i h
      obtain ⟨c, r, h1, h2, h3⟩ := dec_head (u / 10)
      refine ⟨c, r ++ [UInt8.ofNat (48 + u % 10)], by rw [h1]; rfl, by omega, fun hc => ?_⟩
      have := h3 hc
      omega
theorem itoa_nat (u : Nat) : Lib.itoa (u : Int) = Lib.decDigits u := by unfold Lib.itoa; rw [if_neg (by omega)]; simp
theorem itoa_pos (n : Int) (h : 0 ≤ n) : Lib.itoa n = Lib.decDigits n.toNat := by unfold Lib.itoa; rw [if_neg (by omega)]
theorem itoa_min (n : Int) (h : n < 0) : Lib.itoa n = 45 :: Lib.decDigits n.natAbs := by unfold Lib.itoa; rw [if_pos h]
theorem dec_inj {u v : Nat} (h : Lib.decDigits u = Lib.decDigits v) : u = v := by rw [← val_dec u, h, val_dec v]
theorem itoa_inj {m n : Int} (h : Lib.itoa m = Lib.itoa n) : m = n := by
  by_cases hm : m < 0
  · rw [itoa_min m hm] at h
    by_cases hn : n < 0
    · rw [itoa_min n hn] at h
      have := dec_inj (List.cons.inj h).2
      omega
    · rw [itoa_pos n (by omega)] at h
      have := dec_digits n.toNat 45 (by rw [← h]; simp)
      have e : (45 : UInt8).toNat = 45 := rfl
      omega
  · rw [itoa_pos m (by omega)] at h
    by_cases hn : n < 0
    · rw [itoa_min n hn] at h
      have := dec_digits m.toNat 45 (by rw [h]; simp)
      have e : (45 : UInt8).toNat = 45 := rfl
      omega
    · rw [itoa_pos n (by omega)] at h
      have := dec_inj h
      omega
/-- No letter stands in a numeral. -/
theorem itoa_no_letter (n : Int) (c : UInt8) (hc : 58 ≤ c.toNat) : c ∉ Lib.itoa n := by
  intro h
  by_cases hn : n < 0
  · rw [itoa_min n hn] at h
    rcases List.mem_cons.1 h with rfl | h
    · have e : (45 : UInt8).toNat = 45 := rfl
      omega
    · have := dec_digits _ _ h; omega
  · rw [itoa_pos n (by omega)] at h
    have := dec_digits _ _ h; omega
end Go.Proofs.YtnohcfgjhgfjkaaDoor.S
