/-
 The reference's Unhex says what names.Unhex says.
-/
import Derived.Test.YtnfimhdcpmakpaaDoorUhx26P
import Derived.Test.YtnfimhdcpmakpaaDoorSx8P
namespace Go.Proofs.YtnfimhdcpmakpaaDoor.S
open Go.RowKit Go.Proofs.YtnfimhdcpmakpaaDoorW.PrintWords Go.Proofs.YtnfimhdcpmakpaaDoorW.PrintLast Go.Proofs.YtnfimhdcpmakpaaDoorW.PrintMore
set_option linter.unusedVariables false
set_option linter.unusedSimpArgs false
theorem bt_digits (i : Int) (h0 : 0 ≤ i) (h1 : i < 16) : bt (⟨#[48, 49, 50, 51, 52, 53, 54, 55, 56, 57, 97, 98, 99, 100, 101, 102]⟩ : ByteArray) i = hx i := by
 obtain ⟨m, rfl⟩ := Int.eq_ofNat_of_zero_le h0
 have : m = 0 ∨ m = 1 ∨ m = 2 ∨ m = 3 ∨ m = 4 ∨ m = 5 ∨ m = 6 ∨ m = 7 ∨ m = 8 ∨ m = 9 ∨ m = 10 ∨ m = 11 ∨ m = 12 ∨ m = 13 ∨ m = 14 ∨ m = 15 := by omega
 rcases this with rfl | rfl | rfl | rfl | rfl | rfl | rfl | rfl | rfl | rfl | rfl | rfl | rfl | rfl | rfl | rfl <;> rfl
theorem digit_l0 (c : Int) : ∀ (d k i : Nat), i + d = 16 → d + 1 ≤ k → (∀ n : Int, hv c = some n → (i : Int) ≤ n) → cofferref4_digit.l0 k c (i : Int) = some ((hv c).getD (-1))
 | 0, k, i, hd, hk, hn => by
  obtain ⟨k, rfl⟩ : ∃ j, k = j + 1 := ⟨k - 1, by omega⟩
  simp only [cofferref4_digit.l0]; rw [if_neg (by omega)]
  cases e : hv c with
  | none => rfl
  | some n => have := hn n e; have := hv_range c n e; omega
 | d + 1, k, i, hd, hk, hn => by
  obtain ⟨k, rfl⟩ : ∃ j, k = j + 1 := ⟨k - 1, by omega⟩
  have ew : wrap64 ((i : Int) + 1) = ((i + 1 : Nat) : Int) := by unfold wrap64; omega
  simp only [cofferref4_digit.l0]
  rw [if_pos (by omega), if_pos (by omega), bt_digits _ (by omega) (by omega), ew]
  by_cases g : hx (i : Int) = c
  ·
   rw [if_pos g, (hx_hv _ _ (by omega) (by omega)).1 g]; rfl
  ·
   rw [if_neg g]
   refine digit_l0 c d k (i + 1) (by omega) (by omega) fun n hn' => ?_
   have h1 := hn n hn'
   have : n ≠ (i : Int) := fun e => g ((hx_hv _ _ (by omega) (by omega)).2 (by rw [hn', e]))
   omega
theorem ref_digit_f (c : Int) (k : Nat) (hk : 20 ≤ k) : cofferref4_digit.f k c = some ((hv c).getD (-1)) := by
 unfold cofferref4_digit.f
 exact digit_l0 c 16 k 0 (by omega) (by omega) (fun n hn => by have := hv_range c n hn; omega)
theorem tmod2 (i : Nat) : Int.tmod (i : Int) 2 = ((i % 2 : Nat) : Int) := by rw [Int.tmod_eq_emod_of_nonneg (by omega)]; omega
theorem uh_high (b : Nat → Int) (k : Nat) (h : k % 2 = 1) : (uh b k).2 = 16 * (hv (b (k - 1))).getD 0 := by
 obtain ⟨j, rfl⟩ : ∃ j, k = j + 1 := ⟨k - 1, by omega⟩
 rw [uh_even b j (by omega)]; rfl
theorem ref_unhex_l0 (s : ByteArray) (hs : s.size ≤ 1048576) : ∀ (d k i : Nat), i + d = s.size → d + 30 ≤ k → okd (byteAt s) i → cofferref4_Unhex.l0 k s (uh (byteAt s) i).1 (i : Int) = some (unh s)
 | 0, k, i, hd, hk, ho => by
  obtain ⟨k, rfl⟩ : ∃ j, k = j + 1 := ⟨k - 1, by omega⟩
  obtain rfl : i = s.size := by omega
  simp only [cofferref4_Unhex.l0]; rw [if_neg (by omega)]
  unfold unh
  by_cases g : (s.size : Int) % 2 = 1
  ·
   rw [if_pos g, if_neg (by omega)]
  ·
   rw [if_neg g, if_pos ⟨ho, by omega⟩]
 | d + 1, k, i, hd, hk, ho => by
  obtain ⟨k, rfl⟩ : ∃ j, k = j + 1 := ⟨k - 1, by omega⟩
  have ew : wrap64 ((i : Int) + 1) = ((i + 1 : Nat) : Int) := by unfold wrap64; omega
  have hb : bt s (i : Int) = byteAt s i := rfl
  simp only [cofferref4_Unhex.l0]
  rw [if_pos (by omega), if_pos (by omega), hb, ref_digit_f _ k (by omega)]
  simp only [Option.bind_some]
  cases e : hv (byteAt s i) with
  | none =>
   rw [Option.getD_none, if_pos (by omega)]
   unfold unh
   rw [if_neg]
   rintro ⟨h1, _⟩
   have := h1 i (by omega)
   rw [e] at this; cases this
  | some n =>
   have hn := hv_range _ _ e
   rw [Option.getD_some, if_neg (by omega), tmod2]
   have ho' : okd (byteAt s) (i + 1) := fun j hj => by
    by_cases ej : j = i
    ·
     rw [ej, e]; rfl
    ·
     exact ho j (by omega)
   by_cases g : i % 2 = 1
   ·
    have e1 : wrap64 ((i : Int) - 1) = ((i - 1 : Nat) : Int) := by unfold wrap64; omega
    have hb1 : bt s (((i - 1 : Nat)) : Int) = byteAt s (i - 1) := rfl
    have hok := ho (i - 1) (by omega)
    obtain ⟨m, hm⟩ := Option.isSome_iff_exists.1 hok
    have hmr := hv_range _ _ hm
    rw [if_pos (by rw [g]; rfl), e1, if_pos (by omega), if_pos (by omega), hb1, ref_digit_f _ k (by omega)]
    simp only [Option.bind_some]
    rw [hm, Option.getD_some, if_pos (by rw [uh_len]; omega), ew]
    have hw : wrap64 (wrap64 (16 * m) + n) % 256 = (uh (byteAt s) i).2 + (hv (byteAt s i)).getD 0 := by
     rw [uh_high _ _ g, hm, e, Option.getD_some, Option.getD_some]; unfold wrap64; omega
    rw [hw, ← show (uh (byteAt s) (i + 1)).1 = (uh (byteAt s) i).1 ++ [(uh (byteAt s) i).2 + (hv (byteAt s i)).getD 0] by rw [uh_odd _ _ (by omega)]]
    exact ref_unhex_l0 s hs d k (i + 1) (by omega) (by omega) ho'
   ·
    rw [if_neg (by omega), ew, ← show (uh (byteAt s) (i + 1)).1 = (uh (byteAt s) i).1 by rw [uh_even _ _ (by omega)]]
    exact ref_unhex_l0 s hs d k (i + 1) (by omega) (by omega) ho'
theorem ref_unhex_f (s : ByteArray) (hs : s.size ≤ 1048576) (k : Nat) (hk : s.size + 30 ≤ k) : cofferref4_Unhex.f k s = some (unh s) := by
 unfold cofferref4_Unhex.f
 exact ref_unhex_l0 s hs s.size k 0 (by omega) hk (fun j hj => by omega)
end Go.Proofs.YtnfimhdcpmakpaaDoor.S
