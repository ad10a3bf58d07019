/-
  The reference's decimal writer, as the print tells it, writes just what the library's contract says of strconv: an int's numeral.
-/
import Derived.Test.YtnohcfgjhgfjkaaDoorSx
import Derived.Lib.ItoaNum
namespace Go.Proofs.YtnohcfgjhgfjkaaDoor.S
set_option linter.unusedVariables false
set_option linter.unusedSimpArgs false
open Go.RowKit Go.Proofs.YtnohcfgjhgfjkaaDoorW.PrintWords Go.Proofs.YtnohcfgjhgfjkaaDoorW.PrintLast Go.Proofs.YtnohcfgjhgfjkaaDoorW.PrintMore

theorem digit_of (d : Int) (h0 : 0 ≤ d) (h1 : d ≤ 9) :
    (⟨#[48, 49, 50, 51, 52, 53, 54, 55, 56, 57, 97, 98, 99, 100, 101, 102]⟩ : ByteArray).extract (d : Int).toNat ((wrap64 (d + 1)) : Int).toNat = ⟨#[UInt8.ofNat (48 + d.toNat)]⟩ := by
  have hw : wrap64 (d + 1) = d + 1 := by unfold wrap64; omega
  rw [hw]
  obtain ⟨n, rfl⟩ := Int.eq_ofNat_of_zero_le h0
  have hn : n ≤ 9 := by omega
  rcases n with _ | _ | _ | _ | _ | _ | _ | _ | _ | _ | n <;> first | omega | rfl
theorem app_toArray (a b : List UInt8) : (⟨a.toArray⟩ : ByteArray) ++ ⟨b.toArray⟩ = ⟨(a ++ b).toArray⟩ := by
  apply ByteArray.ext; simp
theorem tm10 (x : Int) : (0 ≤ x ∧ x.tmod 10 = x % 10 ∧ x.tdiv 10 = x / 10) ∨ (x < 0 ∧ x.tmod 10 = -((-x) % 10) ∧ x.tdiv 10 = -((-x) / 10)) := by
  by_cases h : 0 ≤ x
  · exact .inl ⟨h, Int.tmod_eq_emod_of_nonneg h, Int.tdiv_eq_ediv_of_nonneg h⟩
  · refine .inr ⟨by omega, ?_, ?_⟩
    · have e : x = -(-x) := by omega
      rw [e, Int.neg_tmod, Int.tmod_eq_emod_of_nonneg (by omega)]
      simp
    · have e : x = -(-x) := by omega
      rw [e, Int.neg_tdiv, Int.tdiv_eq_ediv_of_nonneg (by omega)]
      simp
theorem print_round (k : Nat) (x0 : Int) (s : ByteArray) (neg : Bool) (x5 : Int) (h0 : -9223372036854775808 ≤ x0) (h1 : x0 ≤ 9223372036854775807) (hs : s.size ≤ 1000) (h5 : 0 ≤ x5) (h6 : x5 ≤ 1000) :
    cofferref4_Print.j1 (k + 1) x0 s neg x5 true = cofferref4_Print.l0 k (x0.tdiv 10) (⟨#[UInt8.ofNat (48 + x0.natAbs % 10)]⟩ ++ s) neg (x5 + 1) := by
  have T := tm10 x0
  have e5 : wrap64 (x5 + 1) = x5 + 1 := by unfold wrap64; omega
  have hq : wrap64 (x0.tdiv 10) = x0.tdiv 10 := by unfold wrap64; omega
  simp only [cofferref4_Print.j1]
  rw [if_pos trivial, e5, hq]
  by_cases hn : x0.tmod 10 < 0
  · have hd : wrap64 (-(x0.tmod 10)) = -(x0.tmod 10) := by unfold wrap64; omega
    have hw : wrap64 (-(x0.tmod 10) + 1) = -(x0.tmod 10) + 1 := by unfold wrap64; omega
    rw [if_pos hn, hd, digit_of _ (by omega) (by omega), hw, if_pos (by omega), if_pos (by omega), if_pos (by omega), if_pos (by have : (⟨#[UInt8.ofNat (48 + ((-(x0.tmod 10)).toNat))]⟩ : ByteArray).size = 1 := rfl; omega)]
    have e : (-(x0.tmod 10)).toNat = x0.natAbs % 10 := by omega
    rw [e]
  · have hw : wrap64 (x0.tmod 10 + 1) = x0.tmod 10 + 1 := by unfold wrap64; omega
    rw [if_neg hn, digit_of _ (by omega) (by omega), hw, if_pos (by omega), if_pos (by omega), if_pos (by omega), if_pos (by have : (⟨#[UInt8.ofNat (48 + ((x0.tmod 10).toNat))]⟩ : ByteArray).size = 1 := rfl; omega)]
    have e : (x0.tmod 10).toNat = x0.natAbs % 10 := by omega
    rw [e]
theorem print_end (k : Nat) (s : ByteArray) (neg : Bool) (x5 : Int) (hs : s.size ≤ 1000) (h5 : 1 ≤ x5) :
    cofferref4_Print.l0 (k + 2) 0 s neg x5 = some ((if neg = true then ⟨#[45]⟩ else ⟨#[]⟩) ++ s) := by
  simp only [cofferref4_Print.l0]
  rw [if_neg (by omega)]
  simp only [cofferref4_Print.j1]
  rw [if_neg (by simp)]
  cases neg with
  | true => rw [if_pos rfl, if_pos (by omega), if_pos rfl]
  | false =>
    rw [if_neg (by simp), if_neg (by simp)]
    congr 1
theorem print_digits : ∀ (m k : Nat) (x0 : Int) (s : List UInt8) (neg : Bool) (x5 : Int), 2 * m + 4 ≤ k → x0.natAbs < 10 ^ (m + 1) → -9223372036854775808 ≤ x0 → x0 ≤ 9223372036854775807 → s.length + m ≤ 900 → 0 ≤ x5 → x5 + m ≤ 900 →
    (x5 = 0 ∨ x0 ≠ 0) → cofferref4_Print.l0 k x0 ⟨s.toArray⟩ neg x5 = some ((if neg = true then ⟨#[45]⟩ else ⟨#[]⟩) ++ ⟨(Lib.decDigits x0.natAbs ++ s).toArray⟩) := by
  intro m
  induction m with
  | zero =>
    intro k x0 s neg x5 hk hx h0 h1 hs h5 h6 hor
    obtain ⟨k, rfl⟩ : ∃ j, k = j + 4 := ⟨k - 4, by omega⟩
    have hx' : x0.natAbs < 10 := by simpa using hx
    have T := tm10 x0
    have hsz : (⟨s.toArray⟩ : ByteArray).size ≤ 900 := by simp [ByteArray.size]; omega
    have e1 : cofferref4_Print.l0 (k + 4) x0 ⟨s.toArray⟩ neg x5 = cofferref4_Print.j1 (k + 3) x0 ⟨s.toArray⟩ neg x5 true := by
      simp only [cofferref4_Print.l0]
      by_cases h : x5 = 0
      · rw [if_pos h]
      · rw [if_neg h]
        have : (x0 != 0) = true := by simp; omega
        rw [this]
    rw [e1, print_round _ _ _ _ _ h0 h1 (by omega) h5 (by omega)]
    have hz : x0.tdiv 10 = 0 := by omega
    rw [hz, print_end k _ neg _ (by simp [ByteArray.size]; omega) (by omega), Lib.decDigits, dif_pos hx']
    have hm : x0.natAbs % 10 = x0.natAbs := by omega
    rw [hm]
    congr 2
  | succ m ih =>
    intro k x0 s neg x5 hk hx h0 h1 hs h5 h6 hor
    by_cases hx' : x0.natAbs < 10 ^ (m + 1)
    · exact ih k x0 s neg x5 (by omega) hx' h0 h1 (by omega) h5 (by omega) hor
    · have T := tm10 x0
      obtain ⟨k, rfl⟩ : ∃ j, k = j + 2 := ⟨k - 2, by omega⟩
      have hpos : 10 ≤ x0.natAbs := by
        have : 10 ^ 1 ≤ 10 ^ (m + 1) := Nat.pow_le_pow_right (by omega) (by omega)
        omega
      have e1 : cofferref4_Print.l0 (k + 2) x0 ⟨s.toArray⟩ neg x5 = cofferref4_Print.j1 (k + 1) x0 ⟨s.toArray⟩ neg x5 true := by
        simp only [cofferref4_Print.l0]
        by_cases h : x5 = 0
        · rw [if_pos h]
        · rw [if_neg h]
          have : (x0 != 0) = true := by simp; omega
          rw [this]
      have hsz : (⟨s.toArray⟩ : ByteArray).size ≤ 900 := by simp [ByteArray.size]; omega
      have hq : (x0.tdiv 10).natAbs = x0.natAbs / 10 := by omega
      have hlt : (x0.tdiv 10).natAbs < 10 ^ (m + 1) := by
        rw [hq]
        have : 10 ^ (m + 1 + 1) = 10 ^ (m + 1) * 10 := Nat.pow_succ ..
        omega
      rw [e1, print_round _ _ _ _ _ h0 h1 (by omega) h5 (by omega)]
      have e2 := app_toArray [UInt8.ofNat (48 + x0.natAbs % 10)] s
      rw [show (⟨#[UInt8.ofNat (48 + x0.natAbs % 10)]⟩ : ByteArray) = ⟨([UInt8.ofNat (48 + x0.natAbs % 10)] : List UInt8).toArray⟩ from rfl, e2,
        ih k (x0.tdiv 10) _ neg (x5 + 1) (by omega) hlt (by omega) (by omega) (by simp; omega) (by omega) (by omega) (by right; omega), hq]
      rw [Lib.decDigits.eq_def x0.natAbs, dif_neg (by omega)]
      simp
theorem ref_print (k : Nat) (n : Int) (h0 : -9223372036854775808 ≤ n) (h1 : n ≤ 9223372036854775807) (hk : 100 ≤ k) : cofferref4_Print.f k n = some ⟨(Lib.itoa n).toArray⟩ := by
  unfold cofferref4_Print.f
  have hx : n.natAbs < 10 ^ (19 + 1) := by
    have : (10 : Nat) ^ (19 + 1) = 100000000000000000000 := by decide
    omega
  rw [show (⟨#[]⟩ : ByteArray) = ⟨([] : List UInt8).toArray⟩ from rfl, print_digits 19 k n [] _ 0 (by omega) hx h0 h1 (by simp) (by omega) (by omega) (.inl rfl)]
  congr 1
  unfold Lib.itoa
  by_cases hn : n < 0
  · rw [if_pos hn, if_pos (by simpa using hn)]
    rw [show (⟨#[45]⟩ : ByteArray) = ⟨([45] : List UInt8).toArray⟩ from rfl, app_toArray]
    simp
  · rw [if_neg hn, if_neg (by simpa using hn), show (⟨#[]⟩ : ByteArray) = ⟨([] : List UInt8).toArray⟩ from rfl, app_toArray]
    have : n.natAbs = n.toNat := by omega
    rw [this]
    simp
end Go.Proofs.YtnohcfgjhgfjkaaDoor.S
