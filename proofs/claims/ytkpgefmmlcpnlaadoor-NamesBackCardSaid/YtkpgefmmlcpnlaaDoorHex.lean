/-
  names.Hex and names.Unhex by hand: both make their rows with a capacity.
-/
import Derived.Test.YtkpgefmmlcpnlaaDoorS0x1
import Derived.Test.YtkpgefmmlcpnlaaDoorThen
import Derived.Laws.BitsLemmas
import Derived.WalkSpells
import Derived.Test.YtkpgefmmlcpnlaaDoorDec
namespace Go.Proofs.YtkpgefmmlcpnlaaDoor.S
open Go.RowKit Go.Proofs.YtkpgefmmlcpnlaaDoorW.PrintWords Go.Proofs.YtkpgefmmlcpnlaaDoor.S0
set_option linter.unusedVariables false
set_option linter.unusedSimpArgs false

theorem reads_of_C {w : World} {k : IntKind} {A : Option Addr} {n : Nat} {xs : List Int} (h : Kd.C (Kd.int k) w A n xs) : ReadsInt w k A n xs := by
  refine ⟨h.1, h.2.1, fun hn => ?_⟩
  obtain ⟨ad, hA, hc⟩ := h.2.2 hn
  refine ⟨ad, hA, fun j hj => ?_⟩
  have hl : j < xs.length := by have := h.1; omega
  obtain ⟨c, _, hk, hcell⟩ := hc j _ (List.getElem?_eq_getElem hl)
  have hk' : c = [.int k xs[j]] := hk
  subst hk'
  have := hcell 0 _ rfl
  rw [List.getD_eq_getElem?_getD, List.getElem?_eq_getElem hl]
  simpa [Kd.int, Kd.scalar] using this
theorem C_of_reads {w : World} {k : IntKind} {A : Option Addr} {n : Nat} {xs : List Int} (h : ReadsInt w k A n xs) : Kd.C (Kd.int k) w A n xs := by
  refine ⟨h.1, h.2.1, fun hn => ?_⟩
  obtain ⟨ad, hA, hc⟩ := h.2.2 hn
  refine ⟨ad, hA, fun j p hj => ⟨[.int k p], rfl, rfl, fun i u hu => ?_⟩⟩
  have hl : j < xs.length := by
    rcases Nat.lt_or_ge j xs.length with h' | h'
    · exact h'
    · rw [List.getElem?_eq_none h'] at hj; cases hj
  rcases i with _ | i
  · have : u = .int k p := by simpa using hu.symm
    subst this
    have e := hc j (by have := h.1; omega)
    rw [List.getD_eq_getElem?_getD, hj] at e
    simpa [Kd.int, Kd.scalar] using e
  · simp at hu
/-- A digit of base sixteen. -/
def hx (n : Int) : Int := if n < 10 then 48 + n else 87 + n
def hexl (l : List Int) : List Int := l.flatMap fun c => [hx (c / 16), hx (c % 16)]
theorem digit_f (n : Int) (h0 : 0 ≤ n) (h1 : n < 16) : names_digit.f n = some (hx n) := by
  unfold names_digit.f hx
  by_cases h : n < 10
  · rw [if_pos h, if_pos h]; congr 1; omega
  · rw [if_neg h, if_neg h]; congr 1; omega
theorem hexl_snoc (l : List Int) (c : Int) : hexl (l ++ [c]) = hexl l ++ [hx (c / 16), hx (c % 16)] := by simp [hexl]
theorem hexl_length (l : List Int) : (hexl l).length = 2 * l.length := by
  induction l with
  | nil => rfl
  | cons c l ih => simp [hexl] at ih ⊢; omega
theorem take_getD (l : List Int) (k : Nat) (h : k < l.length) : l.take (k + 1) = l.take k ++ [l.getD k 0] := by
  rw [List.take_succ_eq_append_getElem h, List.getD_eq_getElem?_getD, List.getElem?_eq_getElem h]; rfl
theorem getD_mem (l : List Int) (k : Nat) (h : k < l.length) : l.getD k 0 ∈ l := by
  rw [List.getD_eq_getElem?_getD, List.getElem?_eq_getElem h]; exact List.getElem_mem h
set_option maxHeartbeats 1000000 in
set_option maxRecDepth 100000 in
theorem hex_none (A0 : Option Addr) (c0 : Nat) (w : World) : Calls Tryd.prog 12 #[.slice A0 0 c0] w fun e w' => e = .returned (.string (strOfNums [])) ∧ Below w.heap.size w w' := by
  obtain ⟨i0, hi, hz0, hz1, hz2⟩ := info_parts (show (Tryd.prog.info? 5).map (fun i => (i.zero, i.size, i.bytes)) = some (some (.int .u8 0), 1, 1) by kernel_rfl)
  go_enter Tryd.func12, Tryd.ntmps12
  go_wp2_with (at_make; refine wpList_make_own _ rfl _ _ 24 rfl w.heap.size 5 i0 (.int .u8 0) 1 Tryd.underlying24 hi hz0 hz1 .i64 .i64 _ 0 rfl rfl (by omega) (by rw [hz2]; omega) (by unfold maxLen; omega) (Nat.le_refl _) ?_; intro w1 hown1 hg1; refine Hid.out ?_)
  refine Lib.hid ?_
  have hb1 : Below w.heap.size w w1 := (Below.refl _ _).grown hg1 (Nat.le_refl _) (fun k h => by cases h)
  have hcv := own_string (P := Tryd.prog) (src := 24) (e := 5) (dst := 9) Tryd.underlying24 Tryd.underlying5 Tryd.underlying9 (xs := []) (by simpa [nums] using hown1)
  clear hown1 hg1
  go_wp2_with fail
  refine wp_loop_rounds 1 ?_
  rw [rounds_succ]
  go_wp2
  go_ret
  exact ⟨rfl, hb1⟩
set_option maxHeartbeats 1000000 in
set_option maxRecDepth 100000 in
theorem hex_some (ad : Addr) (c0 : Nat) (l0 : List Int) (w : World) (n : Nat) (hn : n = l0.length) (hc0 : n ≤ c0) (hlen : n ≤ 1048576) (hwf : ∀ c ∈ l0, 0 ≤ c ∧ c ≤ 255) (hcell : ∀ j, j < n → w.cell? (ad.add j) = some (.int .u8 (l0.getD j 0))) :
    Calls Tryd.prog 12 #[.slice (some ad) n c0] w fun e w' => e = .returned (.string (strOfNums (hexl l0))) ∧ Below w.heap.size w w' := by
  have HW := Lib.hid hwf
  have HC := Lib.hid hcell
  have HN := Lib.hid hn
  clear hwf hcell hn
  obtain ⟨i0, hi, hz0, hz1, hz2⟩ := info_parts (show (Tryd.prog.info? 5).map (fun i => (i.zero, i.size, i.bytes)) = some (some (.int .u8 0), 1, 1) by kernel_rfl)
  go_enter Tryd.func12, Tryd.ntmps12
  go_wp2_with (at_make; refine wpList_make_own _ rfl _ _ 24 rfl w.heap.size 5 i0 (.int .u8 0) 1 Tryd.underlying24 hi hz0 hz1 .i64 .i64 _ (2 * n) rfl rfl (by omega) (by rw [hz2]; omega) (by unfold maxLen; omega) (Nat.le_refl _) ?_; intro w1 hown1 hg1; refine Hid.out ?_)
  refine Lib.hid ?_
  have hb1 : Below w.heap.size w w1 := (Below.refl _ _).grown hg1 (Nat.le_refl _) (fun k h => by cases h)
  have HO := Lib.hid hown1
  clear hown1 hg1
  go_wp2_with fail
  go_loopw [3, 12] (fun v i wr => ∃ k : Nat, k ≤ n ∧ i = .int .i64 k ∧ RowAt w wr v (hexl (l0.take k))) (fun _ i _ => n - (intOf i).toNat)
  case atStart => exact ⟨0, by omega, rfl, ⟨by simpa [hexl, nums] using HO.out, hb1⟩⟩
  case round =>
    obtain ⟨k, hk, rfl, H⟩ := hrel
    rename_i v0 wr
    by_cases hlt : k < n
    · have hkl : k < l0.length := by rw [← HN.out]; exact hlt
      have hcell := pw_cell_below H.below (HC.out k hlt)
      have hcb := HW.out _ (getD_mem l0 k hkl)
      have HT := Lib.hid (take_getD l0 k hkl)
      generalize l0.getD k 0 = c at hcell hcb HT
      obtain ⟨hc1, hc2⟩ := hcb
      have d1 : Hid (∀ w, Calls Tryd.prog 24 #[.int .u8 (c / 16)] w fun e w' => e = .returned (.int .u8 (hx (c / 16))) ∧ Drawn0 w w') := Lib.hid fun w => names_digit.calls _ _ w (digit_f (c / 16) (by omega) (by omega))
      have d2 : Hid (∀ w, Calls Tryd.prog 24 #[.int .u8 (c % 16)] w fun e w' => e = .returned (.int .u8 (hx (c % 16))) ∧ Drawn0 w w') := Lib.hid fun w => names_digit.calls _ _ w (digit_f (c % 16) (by omega) (by omega))
      go_wp2_with fail
      refine (d1.out _).mono ?_
      rintro e w2 ⟨rfl, hd2⟩
      go_wp2_with fail
      refine (d2.out _).mono ?_
      rintro e w3 ⟨rfl, hd3⟩
      have H3 := (H.step hd2.below).step hd3.below
      clear hd2 hd3 d1 d2 hcell H hc1 hc2
      have hsz : (hexl (l0.take k)).length + 2 ≤ 140737488355328 := by rw [hexl_length]; have := List.length_take_le k l0; omega
      go_wp2_with (at_builtin; refine row_app rfl _ _ 24 rfl Tryd.underlying24 (by kernel_rfl) [hx (c / 16), hx (c % 16)] _ rfl rfl rfl H3 hsz ?_; intro v1 w4 H4; refine Hid.out ?_)
      refine Lib.hid ?_
      clear H3 hsz
      go_wp2
      go_roundw
      case rel => exact ⟨k + 1, by omega, by go_num, by rw [HT.out, hexl_snoc]; exact H4⟩
      case measure => simp [intOf]; omega
    · have hkn : k = n := by omega
      have e : hexl (l0.take k) = hexl l0 := by rw [List.take_of_length_le (by rw [← HN.out]; omega)]
      rw [e] at H
      have hcv := own_string (P := Tryd.prog) (src := 24) (e := 5) (dst := 9) Tryd.underlying24 Tryd.underlying5 Tryd.underlying9 H.own
      have HB := Lib.hid H.below
      clear H e hkn
      go_wp2
      go_ret
      exact ⟨rfl, HB.out⟩
def xHex.f (l : List Int) : Option ByteArray := if l.length ≤ 1048576 ∧ ∀ c ∈ l, 0 ≤ c ∧ c ≤ 255 then some (strOfNums (hexl l)) else none
theorem xHex.calls (A0 : Option Addr) (c0 : Nat) (l0 : List Int) (r : ByteArray) (w : World) (hr0 : Kd.C (Kd.int .u8) w A0 l0.length l0) (hc0 : l0.length ≤ c0) (h : xHex.f l0 = some r) :
    Calls Tryd.prog 12 #[.slice A0 l0.length c0] w fun e w' => e = .returned (.string r) ∧ Below w.heap.size w w' := by
  unfold xHex.f at h
  split at h
  case isFalse => cases h
  rename_i hg
  obtain ⟨hlen, hwf⟩ := hg
  obtain rfl := Option.some.inj h
  have hR := reads_of_C hr0
  rcases Nat.eq_zero_or_pos l0.length with hz | hz
  · obtain rfl := List.eq_nil_of_length_eq_zero hz
    exact hex_none A0 c0 w
  · obtain ⟨ad, rfl, hc⟩ := hR.2.2 hz
    exact hex_some ad c0 l0 w l0.length rfl hc0 hlen hwf hc
end Go.Proofs.YtkpgefmmlcpnlaaDoor.S
