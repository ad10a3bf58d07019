/-
  What names.Unhex says of bytes in digits.
-/
import Derived.Test.YtnfimhdcpmakpaaDoorUnh26
import Derived.Test.YtnfimhdcpmakpaaDoorRHx26
namespace Go.Proofs.YtnfimhdcpmakpaaDoor.S
open Go.RowKit Go.Proofs.YtnfimhdcpmakpaaDoorW.PrintWords
set_option linter.unusedVariables false
set_option linter.unusedSimpArgs false
theorem hx_hv (i c : Int) (h0 : 0 ≤ i) (h1 : i < 16) : hx i = c ↔ hv c = some i := by
  unfold hx hv
  constructor
  · rintro rfl
    by_cases g : i < 10
    · rw [if_pos g, if_pos (by omega)]; congr 1; omega
    · rw [if_neg g, if_neg (by omega), if_pos (by omega)]; congr 1; omega
  · intro h
    by_cases a : 48 ≤ c ∧ c ≤ 57
    · rw [if_pos a] at h; have := Option.some.inj h; rw [if_pos (by omega)]; omega
    · rw [if_neg a] at h
      by_cases b : 97 ≤ c ∧ c ≤ 102
      · rw [if_pos b] at h; have := Option.some.inj h; rw [if_neg (by omega)]; omega
      · rw [if_neg b] at h; cases h
theorem byteAt_list (l : List UInt8) (j : Nat) (h : j < l.length) : byteAt ⟨l.toArray⟩ j = ((l.getD j 0).toNat : Int) := by
  unfold byteAt bt
  rw [dif_pos (show ((j : Int)).toNat < (⟨l.toArray⟩ : ByteArray).size by simpa [ByteArray.size] using h)]
  rw [List.getD_eq_getElem?_getD, List.getElem?_eq_getElem h]
  rfl
theorem byteAt_nums (l : List Int) (hl : ∀ c ∈ l, 0 ≤ c ∧ c ≤ 255) (j : Nat) (h : j < l.length) : byteAt (strOfNums l) j = l.getD j 0 := by
  have e := byteAt_list (l.map fun x => UInt8.ofNat x.toNat) j (by simpa using h)
  have e2 : (⟨(l.map fun x => UInt8.ofNat x.toNat).toArray⟩ : ByteArray) = strOfNums l := by
    unfold strOfNums; apply ByteArray.ext; simp
  rw [e2] at e
  rw [e, List.getD_eq_getElem?_getD, List.getD_eq_getElem?_getD, List.getElem?_map, List.getElem?_eq_getElem h]
  have := hl _ (List.getElem_mem h)
  simp
  omega
theorem hexl_at : ∀ (l : List Int) (k : Nat), k < l.length → (hexl l).getD (2 * k) 0 = hx (l.getD k 0 / 16) ∧ (hexl l).getD (2 * k + 1) 0 = hx (l.getD k 0 % 16)
  | [], k, h => by simp at h
  | c :: l, 0, h => by simp [hexl]
  | c :: l, k + 1, h => by
    have := hexl_at l k (by simpa using h)
    have e : hexl (c :: l) = hx (c / 16) :: hx (c % 16) :: hexl l := rfl
    rw [e, show 2 * (k + 1) = 2 * k + 1 + 1 by omega]
    simpa using this
theorem uh_hex (b : Nat → Int) (l : List Int) (hl : ∀ c ∈ l, 0 ≤ c ∧ c ≤ 255) (hb : ∀ k, k < l.length → b (2 * k) = hx (l.getD k 0 / 16) ∧ b (2 * k + 1) = hx (l.getD k 0 % 16)) : ∀ k, k ≤ l.length → (uh b (2 * k)).1 = l.take k
  | 0, _ => by simp [uh]
  | k + 1, h => by
    have ih := uh_hex b l hl hb k (by omega)
    obtain ⟨h1, h2⟩ := hb k (by omega)
    have hc := hl _ (getD_mem l k (by omega))
    have e1 := (hx_hv (l.getD k 0 / 16) (b (2 * k)) (by omega) (by omega)).1 h1.symm
    have e2 := (hx_hv (l.getD k 0 % 16) (b (2 * k + 1)) (by omega) (by omega)).1 h2.symm
    rw [show 2 * (k + 1) = (2 * k + 1) + 1 by omega, uh_odd _ _ (by omega), uh_even _ _ (by omega), ih, e1, e2, take_getD l k (by omega)]
    simp only [Option.getD_some]
    congr 2
    omega
theorem ok_hex (b : Nat → Int) (l : List Int) (hl : ∀ c ∈ l, 0 ≤ c ∧ c ≤ 255) (hb : ∀ k, k < l.length → b (2 * k) = hx (l.getD k 0 / 16) ∧ b (2 * k + 1) = hx (l.getD k 0 % 16)) : okd b (2 * l.length) := by
  intro j hj
  obtain ⟨h1, h2⟩ := hb (j / 2) (by omega)
  have hc := hl _ (getD_mem l (j / 2) (by omega))
  by_cases h : j % 2 = 0
  · rw [show j = 2 * (j / 2) by omega, (hx_hv _ _ (by omega) (by omega)).1 h1.symm]; rfl
  · rw [show j = 2 * (j / 2) + 1 by omega, (hx_hv _ _ (by omega) (by omega)).1 h2.symm]; rfl
theorem hx_range (n : Int) (h0 : 0 ≤ n) (h1 : n < 16) : 0 ≤ hx n ∧ hx n ≤ 255 := by unfold hx; split <;> omega
theorem hexl_wf (l : List Int) (hl : ∀ c ∈ l, 0 ≤ c ∧ c ≤ 255) : ∀ c ∈ hexl l, 0 ≤ c ∧ c ≤ 255 := by
  intro c hc
  obtain ⟨d, hd, h⟩ := List.mem_flatMap.1 hc
  have := hl d hd
  simp only [List.mem_cons, List.not_mem_nil, or_false] at h
  rcases h with rfl | rfl
  · exact hx_range _ (by omega) (by omega)
  · exact hx_range _ (by omega) (by omega)
theorem hex_size (l : List Int) : (strOfNums (hexl l)).size = 2 * l.length := by
  rw [← hexl_length]; simp [strOfNums, ByteArray.size]
/-- What Hex writes, Unhex reads. -/
theorem unh_hex (l : List Int) (hl : ∀ c ∈ l, 0 ≤ c ∧ c ≤ 255) : unh (strOfNums (hexl l)) = (l, 0) := by
  have hb : ∀ k, k < l.length → byteAt (strOfNums (hexl l)) (2 * k) = hx (l.getD k 0 / 16) ∧ byteAt (strOfNums (hexl l)) (2 * k + 1) = hx (l.getD k 0 % 16) := fun k hk => by
    have := hexl_at l k hk
    have e := hexl_length l
    exact ⟨(byteAt_nums _ (hexl_wf l hl) _ (by omega)).trans this.1, (byteAt_nums _ (hexl_wf l hl) _ (by omega)).trans this.2⟩
  unfold unh
  rw [hex_size, if_pos ⟨ok_hex _ l hl hb, by omega⟩, uh_hex _ l hl hb l.length (Nat.le_refl _), List.take_length]
end Go.Proofs.YtnfimhdcpmakpaaDoor.S
