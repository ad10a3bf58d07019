/-
  target.write, walked: a part's bytes, escaped.
-/
import Derived.Test.YtejmolhdmbkfaaaDoorBld21
import Derived.Test.YtejmolhdmbkfaaaDoorSx2
namespace Go.Proofs.YtejmolhdmbkfaaaDoor.S
open Go.RowKit Go.Proofs.YtejmolhdmbkfaaaDoorW.PrintWords
set_option linter.unusedVariables false
set_option linter.unusedSimpArgs false
def plainB (c : UInt8) : Bool := (97 ≤ c && c ≤ 122) || (65 ≤ c && c ≤ 90) || (48 ≤ c && c ≤ 57) || c == 45 || c == 46 || c == 95 || c == 126
def hexU (n : Nat) : UInt8 := if n < 10 then UInt8.ofNat (48 + n) else UInt8.ofNat (55 + n)
def escC (c : UInt8) : List UInt8 := if plainB c then [c] else [37, hexU (c.toNat / 16), hexU (c.toNat % 16)]
def escL : List UInt8 → List UInt8
  | [] => []
  | c :: r => escC c ++ escL r
theorem escL_app (a b : List UInt8) : escL (a ++ b) = escL a ++ escL b := by
  induction a with
  | nil => rfl
  | cons c a ih => simp [escL, ih]
theorem escL_snoc (a : List UInt8) (c : UInt8) : escL (a ++ [c]) = escL a ++ escC c := by rw [escL_app]; simp [escL]
theorem escC_len (c : UInt8) : (escC c).length ≤ 3 := by unfold escC; split <;> simp
theorem escL_len (l : List UInt8) : (escL l).length ≤ 3 * l.length := by
  induction l with
  | nil => simp [escL]
  | cons c l ih => have := escC_len c; simp [escL]; omega
theorem plain_all : ∀ n : Fin 256, target_plain.f (n.val : Int) = some (plainB (UInt8.ofNat n.val)) := by decide +kernel
theorem plain_f (c : UInt8) : target_plain.f (c.toNat : Int) = some (plainB c) := by
  have := plain_all ⟨c.toNat, c.toNat_lt⟩
  simpa using this
theorem take_snoc (s : ByteArray) (k : Nat) (h : k < s.size) : s.data.toList.take (k + 1) = s.data.toList.take k ++ [s[k]] := by
  rw [List.take_succ_eq_append_getElem (by simpa using h)]; rfl
theorem bb_drewN {b : Nat} {l : List UInt8} {w : World} (h : BB b l w) (n : Nat) : BB b l (w.drewN n) := h
theorem kb_drawn {b : Nat} {w w1 w2 : World} (h : KeptB b w w1) (hd : Drawn0 w1 w2) (hb : b ≤ w.heap.size) : KeptB b w w2 := by
  obtain ⟨n, rfl⟩ := hd
  exact ⟨h.1.trans (Drawn0.below ⟨n, rfl⟩ |>.mono (Nat.le_trans hb h.1.size)), fun k o hk hb ho => h.2 k o hk hb ho⟩
theorem hex_get (n : Nat) (h : n < (⟨#[48, 49, 50, 51, 52, 53, 54, 55, 56, 57, 65, 66, 67, 68, 69, 70]⟩ : ByteArray).size) : (⟨#[48, 49, 50, 51, 52, 53, 54, 55, 56, 57, 65, 66, 67, 68, 69, 70]⟩ : ByteArray)[n] = hexU n := by
  have hn : n < 16 := h
  rcases (show n = 0 ∨ n = 1 ∨ n = 2 ∨ n = 3 ∨ n = 4 ∨ n = 5 ∨ n = 6 ∨ n = 7 ∨ n = 8 ∨ n = 9 ∨ n = 10 ∨ n = 11 ∨ n = 12 ∨ n = 13 ∨ n = 14 ∨ n = 15 by omega) with rfl | rfl | rfl | rfl | rfl | rfl | rfl | rfl | rfl | rfl | rfl | rfl | rfl | rfl | rfl | rfl <;> rfl
set_option maxHeartbeats 2000000 in
set_option maxRecDepth 100000 in
theorem write_any (b : Nat) (l : List UInt8) (s : ByteArray) (w : World) (h : BB b l w) (hb : b < w.heap.size) (hs : s.size ≤ 100000) (hl : l.length ≤ 500000) :
    Calls Tryd.prog 25 #[.pointer (some ⟨b, 0, none⟩), .string s] w fun e w' => e = .returned (.tuple #[]) ∧ BB b (l ++ escL s.data.toList) w' ∧ KeptB b w w' := by
  have cW := Lib.hid (byte_any b)
  have cP : Hid (∀ c w, Calls Tryd.prog 36 #[.int .u8 c.toNat] w fun e w' => e = .returned (.bool (plainB c)) ∧ Drawn0 w w') := Lib.hid fun c w => target_plain.calls _ _ w (plain_f c)
  have HH := Lib.hid h
  clear h
  go_enter Tryd.func25, Tryd.ntmps25
  go_wp2_with fail
  go_loopw [8] (fun i wr => ∃ k : Nat, k ≤ s.size ∧ i = .int .i64 k ∧ BB b (l ++ escL (s.data.toList.take k)) wr ∧ KeptB b w wr) (fun i _ => s.size - (intOf i).toNat)
  case atStart => exact ⟨0, by omega, rfl, by simpa [escL] using HH.out, KeptB.refl _ _⟩
  case round =>
    obtain ⟨k, hk, rfl, HB, HK⟩ := hrel
    rename_i wr
    have HBh := Lib.hid HB
    have HKh := Lib.hid HK
    clear HB HK
    by_cases hlt : k < s.size
    · have hsn := take_snoc s k hlt
      have hel := escL_len (s.data.toList.take k)
      have htl : (s.data.toList.take k).length ≤ k := List.length_take_le _ _
      have HSN := Lib.hid hsn
      have hcb : (s[k].toNat : Int) ≤ 255 := by have := s[k].toNat_lt; omega
      clear hsn
      go_wp2_with fail
      generalize s[k] = c at *
      generalize s.data.toList.take k = pre at *
      refine (cP.out c _).mono ?_
      rintro e w1 ⟨rfl, hd⟩
      have h0 : Hid (BB b (l ++ escL pre) w1 ∧ KeptB b w w1) := Lib.hid (by
        have hk2 := kb_drawn HKh.out hd (Nat.le_of_lt hb)
        obtain ⟨n, rfl⟩ := hd
        exact ⟨bb_drewN HBh.out n, hk2⟩)
      clear hd HBh HKh
      by_cases hp : plainB c = true
      · rw [hp]
        have HP := Lib.hid hp
        clear hp
        go_wp2_with fail
        refine (cW.out _ c _ h0.out.1 (by simp; omega)).mono ?_
        rintro e w2 ⟨rfl, hb2, hk2⟩
        have HB2 := Lib.hid hb2
        have HK2 := Lib.hid (h0.out.2.trans hk2)
        clear hb2 hk2 h0
        go_wp2
        go_roundw
        case rel => exact ⟨k + 1, by omega, by go_num, by rw [HSN.out, escL_snoc, escC, if_pos HP.out, ← List.append_assoc]; exact HB2.out, HK2.out⟩
        case measure => simp [intOf]; omega
      · have hp2 : plainB c = false := by simpa using hp
        rw [hp2]
        have HP := Lib.hid hp2
        clear hp hp2
        go_wp2_with fail
        refine (cW.out _ 37 _ h0.out.1 (by simp; omega)).mono ?_
        rintro e w2 ⟨rfl, hb2, hk2⟩
        have HB2 := Lib.hid hb2
        have HK2 := Lib.hid (h0.out.2.trans hk2)
        clear hb2 hk2 h0
        have h16 : c.toNat / 16 < 16 := by omega
        go_wp2_with fail
        refine (cW.out _ _ _ HB2.out (by simp; omega)).mono ?_
        rintro e w3 ⟨rfl, hb3, hk3⟩
        have HB3 := Lib.hid hb3
        have HK3 := Lib.hid (HK2.out.trans hk3)
        clear hb3 hk3 HB2 HK2
        go_wp2_with fail
        refine (cW.out _ _ _ HB3.out (by simp; omega)).mono ?_
        rintro e w4 ⟨rfl, hb4, hk4⟩
        rw [hex_get, hex_get] at hb4
        have HB4 := Lib.hid hb4
        have HK4 := Lib.hid (HK3.out.trans hk4)
        clear hb4 hk4 HB3 HK3
        go_wp2
        go_roundw
        case rel => exact ⟨k + 1, by omega, by go_num, by rw [HSN.out, escL_snoc, escC, if_neg (by rw [HP.out]; simp)]; have := HB4.out; simpa using this, HK4.out⟩
        case measure => simp [intOf]; omega
    · obtain rfl : k = s.size := by omega
      go_wp2
      go_end0
      exact ⟨rfl, by have := HBh.out; rwa [List.take_of_length_le (by rw [Array.length_toList]; exact Nat.le_refl _)] at this, HKh.out⟩
end Go.Proofs.YtejmolhdmbkfaaaDoor.S
