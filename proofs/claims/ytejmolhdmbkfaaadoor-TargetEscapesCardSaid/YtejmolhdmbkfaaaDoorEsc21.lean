/-
  The reference's Escape, walked.
-/
import Derived.Test.YtejmolhdmbkfaaaDoorWr21
import Derived.Test.YtejmolhdmbkfaaaDoorSx6
import Derived.Deep.QuietTactic
import Derived.BigQuiet
namespace Go.Proofs.YtejmolhdmbkfaaaDoor.S
open Go.RowKit Go.Proofs.YtejmolhdmbkfaaaDoorW.PrintWords
set_option linter.unusedVariables false
set_option linter.unusedSimpArgs false
theorem refplain_all : ∀ n : Fin 256, cofferref21_Plain.f (n.val : Int) = some (plainB (UInt8.ofNat n.val)) := by decide +kernel
theorem refplain_f (c : UInt8) : cofferref21_Plain.f (c.toNat : Int) = some (plainB c) := by
  have := refplain_all ⟨c.toNat, c.toNat_lt⟩
  simpa using this
theorem app_one (a : List UInt8) (x : UInt8) : (⟨a.toArray⟩ : ByteArray) ++ ⟨#[x]⟩ = ⟨(a ++ [x]).toArray⟩ := by
  apply ByteArray.ext
  simp
theorem drawn_trans {w w1 w2 : World} (h : Drawn0 w w1) (k : Drawn0 w1 w2) : Drawn0 w w2 := by
  obtain ⟨n, rfl⟩ := h
  obtain ⟨m, rfl⟩ := k
  exact ⟨_, World.drewN_drewN _ _ _⟩
theorem piece (n : Nat) (h : n < 16) : (⟨#[48, 49, 50, 51, 52, 53, 54, 55, 56, 57, 65, 66, 67, 68, 69, 70]⟩ : ByteArray).extract n (n + 1) = ⟨#[hexU n]⟩ := by
  rcases (show n = 0 ∨ n = 1 ∨ n = 2 ∨ n = 3 ∨ n = 4 ∨ n = 5 ∨ n = 6 ∨ n = 7 ∨ n = 8 ∨ n = 9 ∨ n = 10 ∨ n = 11 ∨ n = 12 ∨ n = 13 ∨ n = 14 ∨ n = 15 by omega) with rfl | rfl | rfl | rfl | rfl | rfl | rfl | rfl | rfl | rfl | rfl | rfl | rfl | rfl | rfl | rfl <;> rfl
def xEsc.f (s : ByteArray) : Option ByteArray := if s.size ≤ 100000 then some ⟨(escL s.data.toList).toArray⟩ else none
set_option maxHeartbeats 2000000 in
set_option maxRecDepth 100000 in
theorem xEsc.calls (s r : ByteArray) (w : World) (h : xEsc.f s = some r) :
    Calls Tryd.prog 19 #[.string s] w fun e w' => e = .returned (.string r) ∧ Drawn0 w w' := by
  unfold xEsc.f at h
  by_cases hs : s.size ≤ 100000
  · rw [if_pos hs] at h
    obtain rfl := Option.some.inj h
    clear h
    have cP : Hid (∀ c w, Calls Tryd.prog 29 #[.int .u8 c.toNat] w fun e w' => e = .returned (.bool (plainB c)) ∧ Drawn0 w w') := Lib.hid fun c w => cofferref21_Plain.calls _ _ w (refplain_f c)
    go_enter Tryd.func19, Tryd.ntmps19
    go_wp2_with fail
    go_loopw [3, 4] (fun v i wr => ∃ k : Nat, k ≤ s.size ∧ i = .int .i64 k ∧ v = .string ⟨(escL (s.data.toList.take k)).toArray⟩ ∧ Drawn0 w wr) (fun _ i _ => s.size - (intOf i).toNat)
    case atStart => exact ⟨0, by omega, rfl, rfl, Drawn0.refl _⟩
    case round =>
      obtain ⟨k, hk, rfl, rfl, H⟩ := hrel
      have HD := Lib.hid H
      clear H
      by_cases hlt : k < s.size
      · have hsn := take_snoc s k hlt
        have hel := escL_len (s.data.toList.take k)
        have htl : (s.data.toList.take k).length ≤ k := List.length_take_le _ _
        have HSN := Lib.hid hsn
        have hcb : (s[k].toNat : Int) ≤ 255 := by have := s[k].toNat_lt; omega
        have hsz : (⟨(escL (s.data.toList.take k)).toArray⟩ : ByteArray).size ≤ 300000 := by rw [show (⟨(escL (s.data.toList.take k)).toArray⟩ : ByteArray).size = (escL (s.data.toList.take k)).length by simp [ByteArray.size]]; omega
        have hone : s.extract k (k + 1) = ⟨#[s[k]]⟩ := by
          apply ByteArray.ext
          apply Array.toList_inj.1
          rw [ByteArray.data_extract, Array.toList_extract]
          simp only [List.extract]
          rw [show k + 1 - k = 1 by omega, List.drop_eq_getElem_cons (by simpa using hlt)]
          rfl
        have HONE := Lib.hid hone
        clear hsn hone hel htl
        generalize hPP : (⟨(escL (s.data.toList.take k)).toArray⟩ : ByteArray) = pre at *
        have HPP := Lib.hid hPP
        clear hPP
        go_wp2_with fail
        refine (cP.out s[k] _).mono ?_
        rintro e w1 ⟨rfl, hd⟩
        have HD1 := Lib.hid (drawn_trans HD.out hd)
        clear HD hd
        by_cases hp : plainB s[k] = true
        · rw [hp]
          have HP := Lib.hid hp
          clear hp
          have hk1 : (k : Int) + 1 ≤ (s.size : Int) := by omega
          go_wp2_with fail
          go_roundw
          case rel => exact ⟨k + 1, by omega, by go_num, by rw [HSN.out, escL_snoc, escC, if_pos HP.out, ← HPP.out]; rw [HONE.out, app_one], HD1.out⟩
          case measure => simp [intOf]; omega
        · have hp2 : plainB s[k] = false := by simpa using hp
          rw [hp2]
          have HP := Lib.hid hp2
          clear hp hp2
          generalize hcc : s[k] = c at *
          have q1 : 0 ≤ (c.toNat : Int) / 16 ∧ (c.toNat : Int) / 16 ≤ 15 := by omega
          have q2 : 0 ≤ (c.toNat : Int) % 16 ∧ (c.toNat : Int) % 16 ≤ 15 := by omega
          obtain ⟨q10, q11⟩ := q1
          obtain ⟨q20, q21⟩ := q2
          have e1 : IntKind.u8.wrap ((c.toNat : Int) / 16 + 1) = (c.toNat : Int) / 16 + 1 := by rw [IntKind.wrap_u8]; omega
          have e2 : IntKind.u8.wrap ((c.toNat : Int) % 16 + 1) = (c.toNat : Int) % 16 + 1 := by rw [IntKind.wrap_u8]; omega
          go_wp2_with fail
          go_quiet (fail)
          clear hsz
          go_wp2
          go_roundw
          case rel => exact ⟨k + 1, by omega, by go_num, by rw [HSN.out, escL_snoc, escC, if_neg (by rw [HP.out]; simp), piece _ (by omega), piece _ (by omega), ← HPP.out, app_one, app_one, app_one]; simp, drawn_trans HD1.out ⟨_, rfl⟩⟩
          case measure => simp [intOf]; omega
      · obtain rfl : k = s.size := by omega
        rw [List.take_of_length_le (show s.data.toList.length ≤ s.size by rw [Array.length_toList]; exact Nat.le_refl _)]
        go_wp2
        go_ret
        exact ⟨rfl, HD.out⟩
  · rw [if_neg hs] at h; cases h
end Go.Proofs.YtejmolhdmbkfaaaDoor.S
