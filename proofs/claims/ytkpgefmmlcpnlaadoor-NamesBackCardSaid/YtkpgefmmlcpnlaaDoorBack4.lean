/-
  Pure facts under NamesBack: what Hex writes Unhex reads; what Print writes Number reads.
-/
import Derived.Test.YtkpgefmmlcpnlaaDoorPure4b
import Derived.Lib.ItoaLen
namespace Go.Proofs.YtkpgefmmlcpnlaaDoor.S
open Go.RowKit Go.Proofs.YtkpgefmmlcpnlaaDoorW.PrintWords
set_option linter.unusedVariables false
set_option linter.unusedSimpArgs false
theorem byteAt_list (l : List UInt8) (j : Nat) (h : j < l.length) : byteAt ⟨l.toArray⟩ j = ((l.getD j 0).toNat : Int) := by
  unfold byteAt bt
  rw [dif_pos (show ((j : Int)).toNat < (⟨l.toArray⟩ : ByteArray).size by simpa [ByteArray.size] using h)]
  rw [List.getD_eq_getElem?_getD, List.getElem?_eq_getElem h]
  rfl
theorem byteAt_nums (l : List Int) (hl : ∀ c ∈ l, 0 ≤ c ∧ c ≤ 255) (j : Nat) (h : j < l.length) : byteAt (strOfNums l) j = l.getD j 0 := by
  have e := byteAt_list (l.map fun x => UInt8.ofNat x.toNat) j (by simpa using h)
  have e2 : (⟨(l.map fun x => UInt8.ofNat x.toNat).toArray⟩ : ByteArray) = strOfNums l := by
    unfold strOfNums; apply ByteArray.ext; simp
  rw [e2] at e
  rw [e, List.getD_eq_getElem?_getD, List.getD_eq_getElem?_getD, List.getElem?_map, List.getElem?_eq_getElem h]
  have := hl _ (List.getElem_mem h)
  simp
  omega
theorem hexl_at : ∀ (l : List Int) (k : Nat), k < l.length → (hexl l).getD (2 * k) 0 = hx (l.getD k 0 / 16) ∧ (hexl l).getD (2 * k + 1) 0 = hx (l.getD k 0 % 16)
  | [], k, h => by simp at h
  | c :: l, 0, h => by simp [hexl]
  | c :: l, k + 1, h => by
    have := hexl_at l k (by simpa using h)
    have e : hexl (c :: l) = hx (c / 16) :: hx (c % 16) :: hexl l := rfl
    rw [e, show 2 * (k + 1) = 2 * k + 1 + 1 by omega]
    simpa using this
theorem uh_hex (b : Nat → Int) (l : List Int) (hl : ∀ c ∈ l, 0 ≤ c ∧ c ≤ 255) (hb : ∀ k, k < l.length → b (2 * k) = hx (l.getD k 0 / 16) ∧ b (2 * k + 1) = hx (l.getD k 0 % 16)) : ∀ k, k ≤ l.length → (uh b (2 * k)).1 = l.take k
  | 0, _ => by simp [uh]
  | k + 1, h => by
    have ih := uh_hex b l hl hb k (by omega)
    obtain ⟨h1, h2⟩ := hb k (by omega)
    have hc := hl _ (getD_mem l k (by omega))
    have e1 := (hx_hv (l.getD k 0 / 16) (b (2 * k)) (by omega) (by omega)).1 h1.symm
    have e2 := (hx_hv (l.getD k 0 % 16) (b (2 * k + 1)) (by omega) (by omega)).1 h2.symm
    rw [show 2 * (k + 1) = (2 * k + 1) + 1 by omega, uh_odd _ _ (by omega), uh_even _ _ (by omega), ih, e1, e2, take_getD l k (by omega)]
    simp only [Option.getD_some]
    congr 2
    omega
theorem ok_hex (b : Nat → Int) (l : List Int) (hl : ∀ c ∈ l, 0 ≤ c ∧ c ≤ 255) (hb : ∀ k, k < l.length → b (2 * k) = hx (l.getD k 0 / 16) ∧ b (2 * k + 1) = hx (l.getD k 0 % 16)) : okd b (2 * l.length) := by
  intro j hj
  obtain ⟨h1, h2⟩ := hb (j / 2) (by omega)
  have hc := hl _ (getD_mem l (j / 2) (by omega))
  by_cases h : j % 2 = 0
  · rw [show j = 2 * (j / 2) by omega, (hx_hv _ _ (by omega) (by omega)).1 h1.symm]; rfl
  · rw [show j = 2 * (j / 2) + 1 by omega, (hx_hv _ _ (by omega) (by omega)).1 h2.symm]; rfl
theorem hx_range (n : Int) (h0 : 0 ≤ n) (h1 : n < 16) : 0 ≤ hx n ∧ hx n ≤ 255 := by unfold hx; split <;> omega
theorem hexl_wf (l : List Int) (hl : ∀ c ∈ l, 0 ≤ c ∧ c ≤ 255) : ∀ c ∈ hexl l, 0 ≤ c ∧ c ≤ 255 := by
  intro c hc
  obtain ⟨d, hd, h⟩ := List.mem_flatMap.1 hc
  have := hl d hd
  simp only [List.mem_cons, List.not_mem_nil, or_false] at h
  rcases h with rfl | rfl
  · exact hx_range _ (by omega) (by omega)
  · exact hx_range _ (by omega) (by omega)
theorem hex_size (l : List Int) : (strOfNums (hexl l)).size = 2 * l.length := by
  rw [← hexl_length]; simp [strOfNums, ByteArray.size]
/-- What Hex writes, Unhex reads. -/
theorem unh_hex (l : List Int) (hl : ∀ c ∈ l, 0 ≤ c ∧ c ≤ 255) : unh (strOfNums (hexl l)) = (l, 0) := by
  have hb : ∀ k, k < l.length → byteAt (strOfNums (hexl l)) (2 * k) = hx (l.getD k 0 / 16) ∧ byteAt (strOfNums (hexl l)) (2 * k + 1) = hx (l.getD k 0 % 16) := fun k hk => by
    have := hexl_at l k hk
    have e := hexl_length l
    exact ⟨(byteAt_nums _ (hexl_wf l hl) _ (by omega)).trans this.1, (byteAt_nums _ (hexl_wf l hl) _ (by omega)).trans this.2⟩
  unfold unh
  rw [hex_size, if_pos ⟨ok_hex _ l hl hb, by omega⟩, uh_hex _ l hl hb l.length (Nat.le_refl _), List.take_length]
theorem alld_of (b : Nat → Int) : ∀ (d i : Nat), (∀ j, i ≤ j → j < i + d → 48 ≤ b j ∧ b j ≤ 57) → alld b d i = true
  | 0, i, _ => rfl
  | d + 1, i, h => by
    have h0 := h i (by omega) (by omega)
    rw [alld, alld_of b d (i + 1) (fun j h1 h2 => h j (by omega) (by omega)), show isd (b i) = true from decide_eq_true h0]; rfl
theorem V_val (b : Nat → Int) (l : List UInt8) (hd : ∀ c ∈ l, 48 ≤ c.toNat) (hb : ∀ j, j < l.length → b j = ((l.getD j 0).toNat : Int)) : ∀ k, k ≤ l.length → V b k = (val (l.take k) : Nat)
  | 0, _ => by simp [V, val]
  | k + 1, h => by
    have ih := V_val b l hd hb k (by omega)
    rw [List.take_succ_eq_append_getElem (by omega), val_snoc, V, ih, hb k (by omega), List.getD_eq_getElem?_getD, List.getElem?_eq_getElem (by omega)]
    have := hd _ (List.getElem_mem (show k < l.length by omega))
    simp only [Option.getD_some]
    omega
/-- What Print writes, Number reads: but for a minus. -/
theorem num_itoa (n : Int) (h1 : n ≤ 9223372036854775807) : numS (byteAt ⟨(Lib.itoa n).toArray⟩) (⟨(Lib.itoa n).toArray⟩ : ByteArray).size = if n < 0 then (0, 4) else (n, 0) := by
  have hs : (⟨(Lib.itoa n).toArray⟩ : ByteArray).size = (Lib.itoa n).length := by simp [ByteArray.size]
  rw [hs]
  have hb := byteAt_list (Lib.itoa n)
  by_cases hn : n < 0
  · rw [if_pos hn]
    rw [itoa_min n hn] at hb ⊢
    have h0 := hb 0 (by simp)
    unfold numS
    rw [if_pos]
    rw [List.length_cons, alld, h0]
    rfl
  · rw [if_neg hn]
    rw [itoa_pos n (by omega)] at hb ⊢
    have hd := dec_digits n.toNat
    have ha : alld (byteAt ⟨(Lib.decDigits n.toNat).toArray⟩) (Lib.decDigits n.toNat).length 0 = true := alld_of _ _ _ fun j _ hj => by
      rw [hb j (by omega), List.getD_eq_getElem?_getD, List.getElem?_eq_getElem (by omega)]
      have := hd _ (List.getElem_mem (show j < (Lib.decDigits n.toNat).length by omega))
      simp only [Option.getD_some]; omega
    have hv := V_val _ _ (fun c hc => (hd c hc).1) (fun j hj => hb j hj) _ (Nat.le_refl (Lib.decDigits n.toNat).length)
    rw [List.take_length, val_dec] at hv
    obtain ⟨c, r, e, hz, hc⟩ := dec_head n.toNat
    have h0 := hb 0 (by rw [e]; simp)
    unfold numS
    rw [if_neg (by rw [ha]; simp), if_neg, hv, if_neg (by unfold maxN; omega)]
    · congr 1; omega
    · rintro (h | ⟨h, h'⟩)
      · rw [e] at h; simp at h
      · rw [h0] at h
        have ec : (Lib.decDigits n.toNat).getD 0 0 = c := by rw [e]; rfl
        rw [ec] at h
        have : c = 48 := by
          apply UInt8.toNat_inj.1
          have : (48 : UInt8).toNat = 48 := rfl
          omega
        rw [e, hz (hc this)] at h'
        simp at h'
theorem itoa_size (n : Int) (h0 : -9223372036854775808 ≤ n) (h1 : n ≤ 9223372036854775807) : (⟨(Lib.itoa n).toArray⟩ : ByteArray).size ≤ 1048576 := by
  have := Lib.itoa_length_le n h0 h1
  simp [ByteArray.size]; omega
end Go.Proofs.YtkpgefmmlcpnlaaDoor.S
