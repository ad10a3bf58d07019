/-
  The reference's Hex by hand.
-/
import Derived.Test.YtnfimhdcpmakpaaDoorHexL
import Derived.Test.YtnfimhdcpmakpaaDoorSx1
import Derived.Deep.QuietTactic
import Derived.BigQuiet
namespace Go.Proofs.YtnfimhdcpmakpaaDoor.S
open Go.RowKit Go.Proofs.YtnfimhdcpmakpaaDoorW.PrintWords
set_option linter.unusedVariables false
set_option linter.unusedSimpArgs false

theorem strOfNums_app (a b : List Int) : strOfNums (a ++ b) = strOfNums a ++ strOfNums b := by
  unfold strOfNums; apply ByteArray.ext; simp
theorem piece (n : Int) (h0 : 0 ≤ n) (h1 : n ≤ 15) : (⟨#[48, 49, 50, 51, 52, 53, 54, 55, 56, 57, 97, 98, 99, 100, 101, 102]⟩ : ByteArray).extract n.toNat (n + 1).toNat = strOfNums [hx n] := by
  obtain ⟨m, rfl⟩ := Int.eq_ofNat_of_zero_le h0
  have hm : m ≤ 15 := by omega
  have : m = 0 ∨ m = 1 ∨ m = 2 ∨ m = 3 ∨ m = 4 ∨ m = 5 ∨ m = 6 ∨ m = 7 ∨ m = 8 ∨ m = 9 ∨ m = 10 ∨ m = 11 ∨ m = 12 ∨ m = 13 ∨ m = 14 ∨ m = 15 := by omega
  rcases this with rfl | rfl | rfl | rfl | rfl | rfl | rfl | rfl | rfl | rfl | rfl | rfl | rfl | rfl | rfl | rfl <;> rfl
set_option maxHeartbeats 1000000 in
set_option maxRecDepth 100000 in
theorem ref_hex_some (ad : Addr) (c0 : Nat) (l0 : List Int) (w : World) (n : Nat) (hn : n = l0.length) (hlen : n ≤ 1048576) (hwf : ∀ c ∈ l0, 0 ≤ c ∧ c ≤ 255) (hcell : ∀ j, j < n → w.cell? (ad.add j) = some (.int .u8 (l0.getD j 0))) :
    Calls Tryd.prog 16 #[.slice (some ad) n c0] w fun e w' => e = .returned (.string (strOfNums (hexl l0))) ∧ Drawn0 w w' := by
  have HW := Lib.hid hwf
  have HC := Lib.hid hcell
  have HN := Lib.hid hn
  clear hwf hcell hn
  go_enter Tryd.func16, Tryd.ntmps16
  go_wp2_with fail
  go_loopw [3, 4] (fun v i wr => ∃ k : Nat, k ≤ n ∧ i = .int .i64 k ∧ v = .string (strOfNums (hexl (l0.take k))) ∧ Drawn0 w wr) (fun _ i _ => n - (intOf i).toNat)
  case atStart => exact ⟨0, by omega, rfl, rfl, Drawn0.refl _⟩
  case round =>
    obtain ⟨k, hk, rfl, rfl, H⟩ := hrel
    rename_i wr
    by_cases hlt : k < n
    · have hkl : k < l0.length := by rw [← HN.out]; exact hlt
      have hcell := pw_cell_below H.below (HC.out k hlt)
      have hcb := HW.out _ (getD_mem l0 k hkl)
      have HT := Lib.hid (take_getD l0 k hkl)
      generalize l0.getD k 0 = c at hcell hcb HT
      obtain ⟨hc1, hc2⟩ := hcb
      have q1 : 0 ≤ c / 16 ∧ c / 16 ≤ 15 := by omega
      have q2 : 0 ≤ c % 16 ∧ c % 16 ≤ 15 := by omega
      obtain ⟨q10, q11⟩ := q1
      obtain ⟨q20, q21⟩ := q2
      have e1 : IntKind.u8.wrap (c / 16 + 1) = c / 16 + 1 := by rw [IntKind.wrap_u8]; omega
      have e2 : IntKind.u8.wrap (c % 16 + 1) = c % 16 + 1 := by rw [IntKind.wrap_u8]; omega
      have hsz : (strOfNums (hexl (l0.take k))).size ≤ 2097152 := by
        have := hexl_length (l0.take k)
        have h2 := List.length_take_le k l0
        simp [strOfNums, ByteArray.size]; omega
      go_wp2_with fail
      go_quiet (fail)
      clear hsz
      go_wp2
      go_roundw
      case rel => exact ⟨k + 1, by omega, by go_num, by rw [piece _ q10 q11, piece _ q20 q21, HT.out, hexl_snoc, ← strOfNums_app, ← strOfNums_app]; simp, H.step _⟩
      case measure => simp [intOf]; omega
    · have hkn : k = n := by omega
      have e : hexl (l0.take k) = hexl l0 := by rw [List.take_of_length_le (by rw [← HN.out]; omega)]
      rw [e]
      clear e hkn
      go_wp2
      go_ret
      exact ⟨rfl, H⟩
set_option maxHeartbeats 1000000 in
set_option maxRecDepth 100000 in
theorem ref_hex_none (A0 : Option Addr) (c0 : Nat) (w : World) : Calls Tryd.prog 16 #[.slice A0 0 c0] w fun e w' => e = .returned (.string (strOfNums [])) ∧ Drawn0 w w' := by
  go_enter Tryd.func16, Tryd.ntmps16
  go_wp2_with fail
  refine wp_loop_rounds 1 ?_
  rw [rounds_succ]
  go_wp2
  go_ret
  exact ⟨rfl, Drawn0.refl _⟩
def xRefHex.f (l : List Int) : Option ByteArray := if l.length ≤ 1048576 ∧ ∀ c ∈ l, 0 ≤ c ∧ c ≤ 255 then some (strOfNums (hexl l)) else none
theorem xRefHex.calls (A0 : Option Addr) (c0 : Nat) (l0 : List Int) (r : ByteArray) (w : World) (hr0 : Kd.C (Kd.int .u8) w A0 l0.length l0) (hc0 : l0.length ≤ c0) (h : xRefHex.f l0 = some r) :
    Calls Tryd.prog 16 #[.slice A0 l0.length c0] w fun e w' => e = .returned (.string r) ∧ Drawn0 w w' := by
  unfold xRefHex.f at h
  split at h
  case isFalse => cases h
  rename_i hg
  obtain ⟨hlen, hwf⟩ := hg
  obtain rfl := Option.some.inj h
  have hR := reads_of_C hr0
  rcases Nat.eq_zero_or_pos l0.length with hz | hz
  · obtain rfl := List.eq_nil_of_length_eq_zero hz
    exact ref_hex_none A0 c0 w
  · obtain ⟨ad, rfl, hc⟩ := hR.2.2 hz
    exact ref_hex_some ad c0 l0 w l0.length rfl hlen hwf hc
end Go.Proofs.YtnfimhdcpmakpaaDoor.S
