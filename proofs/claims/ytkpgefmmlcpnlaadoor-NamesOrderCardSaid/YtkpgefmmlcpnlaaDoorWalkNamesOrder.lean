/-
  NamesOrder answers true at every two strings, in every world where the library's table stands.
-/
import Derived.Test.YtkpgefmmlcpnlaaDoorPure4
namespace Go.Proofs.YtkpgefmmlcpnlaaDoor.S
open Go.RowKit Go.Proofs.YtkpgefmmlcpnlaaDoorW.PrintWords
set_option linter.unusedVariables false
set_option linter.unusedSimpArgs false
/-- The one text stands ahead of the other, from byte i on. -/
def lessF (b c : Nat → Int) : Nat → Nat → Bool
  | 0, _ => false
  | d + 1, i => decide (b i < c i) || (decide (b i = c i) && lessF b c d (i + 1))
theorem drop_cons (s : ByteArray) (i : Nat) (h : i < s.size) : s.data.toList.drop i = s[i] :: s.data.toList.drop (i + 1) := by
  rw [List.drop_eq_getElem_cons (by rw [← Lib.size_eq]; exact h)]; rfl
theorem less_eq (s t : ByteArray) (he : s.size = t.size) : ∀ (d i : Nat), i + d = s.size → Op.bytesLess (s.data.toList.drop i) (t.data.toList.drop i) = lessF (byteAt s) (byteAt t) d i
  | 0, i, h => by
    have e1 : s.data.toList.drop i = [] := List.drop_eq_nil_of_le (by rw [← Lib.size_eq]; omega)
    have e2 : t.data.toList.drop i = [] := List.drop_eq_nil_of_le (by rw [← Lib.size_eq]; omega)
    rw [e1, e2]; rfl
  | d + 1, i, h => by
    have h1 : i < s.size := by omega
    have h2 : i < t.size := by omega
    rw [drop_cons s i h1, drop_cons t i h2]
    simp only [Op.bytesLess, lessF]
    rw [less_eq s t he d (i + 1) (by omega)]
    have e1 := byteAt_eq s i h1
    have e2 := byteAt_eq t i h2
    rw [← e1, ← e2]
    congr 1
    · rw [Bool.eq_iff_iff, decide_eq_true_eq, decide_eq_true_eq, UInt8.lt_iff_toNat_lt]; omega
    · congr 1
      rw [Bool.eq_iff_iff, beq_iff_eq, decide_eq_true_eq, ← UInt8.toNat_inj]; omega
theorem V_strict (b c : Nat → Int) (i : Nat) : ∀ d, (∀ j, j < i + d → 48 ≤ c j) → (∀ j, j < i + d → b j ≤ 57) → V b i < V c i → V b (i + d) < V c (i + d)
  | 0, _, _, h => h
  | d + 1, h1, h2, h => by
    have := V_strict b c i d (fun j hj => h1 j (by omega)) (fun j hj => h2 j (by omega)) h
    have a := h1 (i + d) (by omega)
    have a' := h2 (i + d) (by omega)
    show V b ((i + d) + 1) < V c ((i + d) + 1)
    rw [V, V]; omega
theorem V_less (b c : Nat → Int) : ∀ (d i : Nat), (∀ j, j < i + d → 48 ≤ b j ∧ b j ≤ 57) → (∀ j, j < i + d → 48 ≤ c j ∧ c j ≤ 57) → V b i = V c i → decide (V b (i + d) < V c (i + d)) = lessF b c d i
  | 0, i, _, _, h => by simp only [lessF]; rw [decide_eq_false_iff_not]; simp; omega
  | d + 1, i, h1, h2, h => by
    simp only [lessF]
    have e : i + (d + 1) = (i + 1) + d := by omega
    have vb : V b (i + 1) = 10 * V b i + (b i - 48) := rfl
    have vc : V c (i + 1) = 10 * V c i + (c i - 48) := rfl
    rw [e]
    by_cases g : b i < c i
    · have := V_strict b c (i + 1) d (fun j hj => (h2 j (by omega)).1) (fun j hj => (h1 j (by omega)).2) (by omega)
      rw [decide_eq_true this, decide_eq_true g]; rfl
    · by_cases g2 : b i = c i
      · rw [V_less b c d (i + 1) (fun j hj => h1 j (by omega)) (fun j hj => h2 j (by omega)) (by omega), decide_eq_false g, decide_eq_true g2]; rfl
      · have := V_strict c b (i + 1) d (fun j hj => (h1 j (by omega)).1) (fun j hj => (h2 j (by omega)).2) (by omega)
        rw [decide_eq_false (show ¬ V b (i + 1 + d) < V c (i + 1 + d) by omega), decide_eq_false g, decide_eq_false g2]; rfl
/-- What it says that a number was read. -/
theorem numS_ok (b : Nat → Int) (n : Nat) (h : (numS b n).2 = 0) : (∀ j, j < n → 48 ≤ b j ∧ b j ≤ 57) ∧ n ≠ 0 ∧ ¬ (b 0 = 48 ∧ 1 < n) ∧ (numS b n).1 = V b n := by
  unfold numS at h ⊢
  by_cases ha : alld b n 0 = false
  · rw [if_pos ha] at h; simp at h
  rw [if_neg ha] at h ⊢
  by_cases hz : n = 0 ∨ b 0 = 48 ∧ 1 < n
  · rw [if_pos hz] at h; simp at h
  rw [if_neg hz] at h ⊢
  by_cases hm : maxN < V b n
  · rw [if_pos hm] at h; simp at h
  rw [if_neg hm]
  exact ⟨fun j hj => alld_at b n 0 (by simpa using ha) j (by omega) (by omega), by omega, by omega, rfl⟩
theorem V_shorter (b c : Nat → Int) (m n : Nat) (hb : ∀ j, j < m → 48 ≤ b j ∧ b j ≤ 57) (hc : ∀ j, j < n → 48 ≤ c j ∧ c j ≤ 57) (hm : m ≠ 0) (hz : ¬ (c 0 = 48 ∧ 1 < n)) (h : m < n) : V b m < V c n := by
  have h1 := V_lt b m hb
  have h49 : 49 ≤ c 0 := by
    have := hc 0 (by omega)
    have : c 0 ≠ 48 := fun e => hz ⟨e, by omega⟩
    omega
  have h2 := V_ge c h49 (n - 1) (fun j hj => (hc j (by omega)).1)
  rw [show n - 1 + 1 = n by omega] at h2
  have h3 : (10 : Nat) ^ m ≤ 10 ^ (n - 1) := Nat.pow_le_pow_right (by omega) (by omega)
  omega
theorem NamesOrder_pure (s t : ByteArray) : cofferlaw4_NamesOrder.f 400 s t = some true := by
  unfold cofferlaw4_NamesOrder.f
  rw [begun_f 400 (by omega)]
  simp only [Option.bind_some, if_true, cofferlaw4_NamesOrder.j0]
  by_cases h1 : (s.size : Int) > 64
  · rw [if_pos h1]
  rw [if_neg h1]
  by_cases h2 : (t.size : Int) > 64
  · rw [if_pos (decide_eq_true h2)]
  rw [if_neg (by simpa using h2), number_f s (by omega) _ (by omega), number_f t (by omega) _ (by omega)]
  simp only [Option.bind_some]
  by_cases e1 : (numS (byteAt s) s.size).2 = 0
  · rw [if_pos e1]
    by_cases e2 : (numS (byteAt t) t.size).2 = 0
    · rw [if_pos e2]
      obtain ⟨d1, n1, z1, v1⟩ := numS_ok _ _ e1
      obtain ⟨d2, n2, z2, v2⟩ := numS_ok _ _ e2
      rw [v1, v2]
      by_cases g : (s.size : Int) < t.size
      · rw [if_pos g, decide_eq_true (V_shorter _ _ _ _ d1 d2 n1 z2 (by omega))]; rfl
      rw [if_neg g]
      by_cases g2 : (s.size : Int) = t.size
      · rw [if_pos g2]
        have hst : s.size = t.size := by omega
        have a := V_less (byteAt s) (byteAt t) s.size 0 (fun j hj => d1 j (by omega)) (fun j hj => d2 j (by omega)) rfl
        have b := less_eq s t hst s.size 0 (by omega)
        rw [List.drop_zero, List.drop_zero] at b
        rw [Nat.zero_add] at a
        rw [Lib.toList_data, Lib.toList_data, b, ← a, hst]
        simp
      · rw [if_neg g2]
        have := V_shorter _ _ _ _ d2 d1 n2 z1 (by omega)
        rw [decide_eq_false (by omega)]; rfl
    · rw [if_neg e2]
  · rw [if_neg e1]
theorem namesOrder_walk (a0 : ByteArray) (_h : a0.size ≤ 140737488351232) (a1 : ByteArray) (_h1 : a1.size ≤ 140737488351232) (w : World) (hT : Tabs w) :
    Calls Tryd.prog 5 #[.string a0, .string a1] w fun e w' => e = .returned (.bool true) ∧ Below w.heap.size w w' :=
  cofferlaw4_NamesOrder.calls 400 a0 a1 true w (NamesOrder_pure a0 a1) hT
end Go.Proofs.YtkpgefmmlcpnlaaDoor.S
