-- By wip/hook.py.
import Derived.Test.YtnfimhdcpmakpaaDoorSx0P
namespace Go.Proofs.YtnfimhdcpmakpaaDoor.S
open Go.RowKit Go.Proofs.YtnfimhdcpmakpaaDoorW.PrintWords Go.Proofs.YtnfimhdcpmakpaaDoorW.PrintLast Go.Proofs.YtnfimhdcpmakpaaDoorW.PrintMore
attribute [local go_sem] max2_int min2_int max_two min_two max_three min_three max_four min_four
set_option linter.unusedVariables false
set_option linter.unusedSimpArgs false
mutual
def cofferref4_May.j0 : Nat → ByteArray → Bool → Option (Bool)
 | 0, _, _ => none
 | k + 1, x0, x22 => if x22 = true then (some false) else (cofferref4_May.l0 k x0 0)
def cofferref4_May.l0 : Nat → ByteArray → Int → Option (Bool)
 | 0, _, _ => none
 | k + 1, x0, x3 => if x3 < (x0.size : Int) then (if 0 ≤ x3 then (if (bt x0 x3) ≥ 97 then (if (bt x0 x3) ≤ 122 then (cofferref4_May.l0 k x0 (wrap64 (x3 + 1))) else (if (bt x0 x3) ≥ 48 then (if (bt x0 x3) ≤ 57 then (cofferref4_May.l0 k x0 (wrap64 (x3 + 1))) else (if ((bt x0 x3) = 45) then (cofferref4_May.l0 k x0 (wrap64 (x3 + 1))) else (some false))) else (if ((bt x0 x3) = 45) then (cofferref4_May.l0 k x0 (wrap64 (x3 + 1))) else (some false)))) else (if (bt x0 x3) ≥ 48 then (if (bt x0 x3) ≤ 57 then (cofferref4_May.l0 k x0 (wrap64 (x3 + 1))) else (if ((bt x0 x3) = 45) then (cofferref4_May.l0 k x0 (wrap64 (x3 + 1))) else (some false))) else (if ((bt x0 x3) = 45) then (cofferref4_May.l0 k x0 (wrap64 (x3 + 1))) else (some false)))) else (none)) else (some true)
end
def cofferref4_May.f (k : Nat) (a0 : ByteArray) : Option (Bool) := if (a0.size : Int) < 1 then (cofferref4_May.j0 k a0 true) else (if (a0.size : Int) > 16 then (cofferref4_May.j0 k a0 true) else (if 0 < (a0.size : Int) then (if (bt a0 0) < 97 then (cofferref4_May.j0 k a0 true) else (cofferref4_May.j0 k a0 (decide ((bt a0 0) > 122)))) else (none)))
set_option maxHeartbeats 8000000 in
set_option maxRecDepth 100000 in
theorem cofferref4_May.calls (k : Nat) (a0 : ByteArray) (r : Bool) (w : World) (h : cofferref4_May.f k a0 = some r) :
  Calls Tryd.prog 49 #[.string a0] w fun e w' => e = .returned (.bool r) ∧ Drawn0 w w' := by
 have H : (if (a0.size : Int) < 1 then (cofferref4_May.j0 k a0 true) else (if (a0.size : Int) > 16 then (cofferref4_May.j0 k a0 true) else (if 0 < (a0.size : Int) then (if (bt a0 0) < 97 then (cofferref4_May.j0 k a0 true) else (cofferref4_May.j0 k a0 (decide ((bt a0 0) > 122)))) else (none)))) = some r := h
 clear h
 have HC2 := Aside0.mk H
 clear H
 go_enter Tryd.func49, Tryd.ntmps49
 go_upto_region 1 with (fail)
 go_cut [22] (fun v22 wc => ∃ (kq : Nat) (x22_1 : Bool), v22 = .bool x22_1 ∧ Aside0 (cofferref4_May.j0 kq a0 x22_1 = some r) ∧ Aside0 (kq ≤ k) ∧ Drawn0 w wc)
 case first =>
  have H := HC2.out
  clear HC2
  by_cases c3 : (a0.size : Int) < 1
  ·
   rw [if_pos c3] at H
   have c3b0 : decide ((a0.size : Int) < 1) = true := decide_eq_true c3
   have c3b1 : decide (a0.size < 1) = true := decide_eq_true (by omega)
   clear c3
   (first | rw [c3b0] | (simp only [i64_w, i32_w]; rw [c3b0]) | skip)
   have H' := Aside0.mk H
   clear H
   go_wp2
   go_meet
   case rel => exact ⟨_, (true), (by qr_), H', ⟨by first | omega | exact Nat.le_refl _⟩, by qd_⟩
  ·
   rw [if_neg c3] at H
   have c3b0 : decide ((a0.size : Int) < 1) = false := decide_eq_false c3
   have c3b1 : decide (a0.size < 1) = false := decide_eq_false (by omega)
   clear c3
   (first | rw [c3b0] | (simp only [i64_w, i32_w]; rw [c3b0]) | skip)
   by_cases c4 : (a0.size : Int) > 16
   ·
    rw [if_pos c4] at H
    have c4b0 : decide (16 < (a0.size : Int)) = true := decide_eq_true c4
    have c4b1 : decide (16 < a0.size) = true := decide_eq_true (by omega)
    clear c4
    have H' := Aside0.mk H
    clear H
    go_wp2
    go_meet
    case rel => exact ⟨_, (true), (by qr_), H', ⟨by first | omega | exact Nat.le_refl _⟩, by qd_⟩
   ·
    rw [if_neg c4] at H
    have c4b0 : decide (16 < (a0.size : Int)) = false := decide_eq_false c4
    have c4b1 : decide (16 < a0.size) = false := decide_eq_false (by omega)
    clear c4
    by_cases c5 : 0 < (a0.size : Int)
    ·
     rw [if_pos c5] at H
     have c5b0 : decide (0 < (a0.size : Int)) = true := decide_eq_true c5
     have c5b1 : decide (0 < a0.size) = true := decide_eq_true (by omega)
     clear c5
     by_cases c7 : (bt a0 0) < 97
     ·
      rw [if_pos c7] at H
      have c7b0 : decide ((bt a0 0) < 97) = true := decide_eq_true c7
      clear c7
      have H' := Aside0.mk H
      clear H
      have p6 : 0 ≤ (0 : Int) := (by omega)
      have q6 : 0 < a0.size := (by have : (0 : Int) < (a0.size : Int) := of_decide_eq_true (by qa_); omega)
      have hx6 : ∀ h : 0 < a0.size, ((a0[0]'h).toNat : Int) = bt a0 0 := bt_at a0 0
      clear p6
      have qi6 : (0 < (a0.size : Int)) = True := eq_true (of_decide_eq_true (by qa_))
      replace q6 := eq_true q6
      go_wp2
      go_meet
      case rel => exact ⟨_, (true), (by qr_), H', ⟨by first | omega | exact Nat.le_refl _⟩, by qd_⟩
     ·
      rw [if_neg c7] at H
      have c7b0 : decide ((bt a0 0) < 97) = false := decide_eq_false c7
      clear c7
      have H' := Aside0.mk H
      clear H
      have p6 : 0 ≤ (0 : Int) := (by omega)
      have q6 : 0 < a0.size := (by have : (0 : Int) < (a0.size : Int) := of_decide_eq_true (by qa_); omega)
      have hx6 : ∀ h : 0 < a0.size, ((a0[0]'h).toNat : Int) = bt a0 0 := bt_at a0 0
      clear p6
      have qi6 : (0 < (a0.size : Int)) = True := eq_true (of_decide_eq_true (by qa_))
      replace q6 := eq_true q6
      have p8 : 0 ≤ (0 : Int) := (by omega)
      have q8 : 0 < a0.size := (by have : (0 : Int) < (a0.size : Int) := of_decide_eq_true (by qa_); omega)
      have hx8 : ∀ h : 0 < a0.size, ((a0[0]'h).toNat : Int) = bt a0 0 := bt_at a0 0
      clear p8
      have qi8 : (0 < (a0.size : Int)) = True := eq_true (of_decide_eq_true (by qa_))
      replace q8 := eq_true q8
      go_wp2
      go_meet
      case rel => exact ⟨_, (decide ((bt a0 0) > 122)), (by qr_), H', ⟨by first | omega | exact Nat.le_refl _⟩, by qd_⟩
    ·
     rw [if_neg c5] at H
     exact absurd H (by simp)
 case rest =>
  clear HC2
  try clear p2
  try clear c3
  try clear c3b0
  try clear c3b1
  try clear c4
  try clear c4b0
  try clear c4b1
  try clear c5
  try clear c5b0
  try clear c5b1
  try clear p6
  try clear q6
  try clear hx6
  try clear qi6
  try clear c7
  try clear c7b0
  try clear p8
  try clear q8
  try clear hx8
  try clear qi8
  try clear p6
  try clear p8
  try clear q6
  try clear q8
  obtain ⟨kq, x22_1, rfl, HA, HJ1, ⟨mc1, rfl⟩⟩ := hcut
  cases kq with
  | zero => exact absurd HA.out (by simp [cofferref4_May.j0])
  | succ kj1 =>
   have H := HA.out
   clear HA
   simp only [cofferref4_May.j0] at H
   by_cases c9 : x22_1 = true
   ·
    subst c9
    have H1 : (some false) = some r := by rw [if_pos rfl] at H; exact H
    clear H
    have H := H1
    clear H1
    obtain rfl := Option.some.inj H
    go_wp2
    go_ret
    exact ⟨by qr_, by qd_⟩
   ·
    replace c9 := Bool.eq_false_iff.mpr c9
    subst c9
    have H1 : (cofferref4_May.l0 kj1 a0 0) = some r := by rw [if_neg (show ¬ (false = true) by decide)] at H; exact H
    clear H
    have H := H1
    clear H1
    have H' := Aside0.mk H
    clear H
    go_wp2
    go_loopg [3] kj1 (fun kq v3 w' => ∃ (x3_2 : Int), v3 = .int .i64 x3_2 ∧ Aside0 (cofferref4_May.l0 kq a0 x3_2 = some r) ∧ Aside0 (kq ≤ kj1) ∧ Drawn0 w w')
    case atStart => exact ⟨(0), (by qr_), H', ⟨Nat.le_refl _⟩, by qd_⟩
    case round =>
     clear H'
     try clear c1
     try clear p2
     try clear c3
     try clear c3b0
     try clear c3b1
     try clear c4
     try clear c4b0
     try clear c4b1
     try clear c5
     try clear c5b0
     try clear c5b1
     try clear p6
     try clear q6
     try clear hx6
     try clear qi6
     try clear c7
     try clear c7b0
     try clear p8
     try clear q8
     try clear hx8
     try clear qi8
     try clear c9
     try clear p2
     try clear p6
     try clear p8
     try clear q6
     try clear q8
     obtain ⟨x3_2, rfl, HA, HK2, ⟨m2, rfl⟩⟩ := hrel
     cases gk with
     | zero => exact absurd HA.out (by simp [cofferref4_May.l0])
     | succ k2 =>
      have H := HA.out
      clear HA
      simp only [cofferref4_May.l0] at H
      by_cases c10 : x3_2 < (a0.size : Int)
      ·
       rw [if_pos c10] at H
       have c10b0 : decide (x3_2 < (a0.size : Int)) = true := decide_eq_true c10
       clear c10
       by_cases c11 : 0 ≤ x3_2
       ·
        rw [if_pos c11] at H
        have c11b0 : decide (0 ≤ x3_2) = true := decide_eq_true c11
        clear c11
        by_cases c13 : (bt a0 x3_2) ≥ 97
        ·
         rw [if_pos c13] at H
         have c13b0 : decide (97 ≤ (bt a0 x3_2)) = true := decide_eq_true c13
         clear c13
         by_cases c14 : (bt a0 x3_2) ≤ 122
         ·
          rw [if_pos c14] at H
          have c14b0 : decide ((bt a0 x3_2) ≤ 122) = true := decide_eq_true c14
          clear c14
          have H' := Aside0.mk H
          clear H
          have p12 : 0 ≤ (x3_2 : Int) := of_decide_eq_true (by qa_)
          have q12 : x3_2 < (a0.size : Int) := of_decide_eq_true (by qa_)
          have hx12 := bt_at a0 x3_2
          replace p12 := eq_true p12
          replace q12 := eq_true q12
          go_wp2
          go_roundg k2
          case measure => have := HJ1.out; have := HK2.out; omega
          case rel => exact ⟨(wrap64 (x3_2 + 1)), (by qr_), H', ⟨by have := HJ1.out; have := HK2.out; omega⟩, by qd_⟩
         ·
          rw [if_neg c14] at H
          have c14b0 : decide ((bt a0 x3_2) ≤ 122) = false := decide_eq_false c14
          clear c14
          by_cases c15 : (bt a0 x3_2) ≥ 48
          ·
           rw [if_pos c15] at H
           have c15b0 : decide (48 ≤ (bt a0 x3_2)) = true := decide_eq_true c15
           clear c15
           by_cases c16 : (bt a0 x3_2) ≤ 57
           ·
            rw [if_pos c16] at H
            have c16b0 : decide ((bt a0 x3_2) ≤ 57) = true := decide_eq_true c16
            clear c16
            have H' := Aside0.mk H
            clear H
            have p12 : 0 ≤ (x3_2 : Int) := of_decide_eq_true (by qa_)
            have q12 : x3_2 < (a0.size : Int) := of_decide_eq_true (by qa_)
            have hx12 := bt_at a0 x3_2
            replace p12 := eq_true p12
            replace q12 := eq_true q12
            go_wp2
            go_roundg k2
            case measure => have := HJ1.out; have := HK2.out; omega
            case rel => exact ⟨(wrap64 (x3_2 + 1)), (by qr_), H', ⟨by have := HJ1.out; have := HK2.out; omega⟩, by qd_⟩
           ·
            rw [if_neg c16] at H
            have c16b0 : decide ((bt a0 x3_2) ≤ 57) = false := decide_eq_false c16
            clear c16
            by_cases c17 : ((bt a0 x3_2) = 45)
            ·
             rw [if_pos c17] at H
             have c17b0 : ((bt a0 x3_2) == 45) = true := beq_iff_eq.mpr c17
             have c17b1 : ((bt a0 x3_2) != 45) = false := bne_eq_false_iff_eq.mpr c17
             clear c17
             have H' := Aside0.mk H
             clear H
             have p12 : 0 ≤ (x3_2 : Int) := of_decide_eq_true (by qa_)
             have q12 : x3_2 < (a0.size : Int) := of_decide_eq_true (by qa_)
             have hx12 := bt_at a0 x3_2
             replace p12 := eq_true p12
             replace q12 := eq_true q12
             go_wp2
             go_roundg k2
             case measure => have := HJ1.out; have := HK2.out; omega
             case rel => exact ⟨(wrap64 (x3_2 + 1)), (by qr_), H', ⟨by have := HJ1.out; have := HK2.out; omega⟩, by qd_⟩
            ·
             rw [if_neg c17] at H
             have c17b0 : ((bt a0 x3_2) == 45) = false := beq_eq_false_iff_ne.mpr c17
             have c17b1 : ((bt a0 x3_2) != 45) = true := bne_iff_ne.mpr c17
             obtain rfl := Option.some.inj H
             have p12 : 0 ≤ (x3_2 : Int) := of_decide_eq_true (by qa_)
             have q12 : x3_2 < (a0.size : Int) := of_decide_eq_true (by qa_)
             have hx12 := bt_at a0 x3_2
             replace p12 := eq_true p12
             replace q12 := eq_true q12
             go_wp2
             go_ret
             exact ⟨by qr_, by qd_⟩
          ·
           rw [if_neg c15] at H
           have c15b0 : decide (48 ≤ (bt a0 x3_2)) = false := decide_eq_false c15
           clear c15
           by_cases c18 : ((bt a0 x3_2) = 45)
           ·
            rw [if_pos c18] at H
            have c18b0 : ((bt a0 x3_2) == 45) = true := beq_iff_eq.mpr c18
            have c18b1 : ((bt a0 x3_2) != 45) = false := bne_eq_false_iff_eq.mpr c18
            clear c18
            have H' := Aside0.mk H
            clear H
            have p12 : 0 ≤ (x3_2 : Int) := of_decide_eq_true (by qa_)
            have q12 : x3_2 < (a0.size : Int) := of_decide_eq_true (by qa_)
            have hx12 := bt_at a0 x3_2
            replace p12 := eq_true p12
            replace q12 := eq_true q12
            go_wp2
            go_roundg k2
            case measure => have := HJ1.out; have := HK2.out; omega
            case rel => exact ⟨(wrap64 (x3_2 + 1)), (by qr_), H', ⟨by have := HJ1.out; have := HK2.out; omega⟩, by qd_⟩
           ·
            rw [if_neg c18] at H
            have c18b0 : ((bt a0 x3_2) == 45) = false := beq_eq_false_iff_ne.mpr c18
            have c18b1 : ((bt a0 x3_2) != 45) = true := bne_iff_ne.mpr c18
            obtain rfl := Option.some.inj H
            have p12 : 0 ≤ (x3_2 : Int) := of_decide_eq_true (by qa_)
            have q12 : x3_2 < (a0.size : Int) := of_decide_eq_true (by qa_)
            have hx12 := bt_at a0 x3_2
            replace p12 := eq_true p12
            replace q12 := eq_true q12
            go_wp2
            go_ret
            exact ⟨by qr_, by qd_⟩
        ·
         rw [if_neg c13] at H
         have c13b0 : decide (97 ≤ (bt a0 x3_2)) = false := decide_eq_false c13
         clear c13
         by_cases c19 : (bt a0 x3_2) ≥ 48
         ·
          rw [if_pos c19] at H
          have c19b0 : decide (48 ≤ (bt a0 x3_2)) = true := decide_eq_true c19
          clear c19
          by_cases c20 : (bt a0 x3_2) ≤ 57
          ·
           rw [if_pos c20] at H
           have c20b0 : decide ((bt a0 x3_2) ≤ 57) = true := decide_eq_true c20
           clear c20
           have H' := Aside0.mk H
           clear H
           have p12 : 0 ≤ (x3_2 : Int) := of_decide_eq_true (by qa_)
           have q12 : x3_2 < (a0.size : Int) := of_decide_eq_true (by qa_)
           have hx12 := bt_at a0 x3_2
           replace p12 := eq_true p12
           replace q12 := eq_true q12
           go_wp2
           go_roundg k2
           case measure => have := HJ1.out; have := HK2.out; omega
           case rel => exact ⟨(wrap64 (x3_2 + 1)), (by qr_), H', ⟨by have := HJ1.out; have := HK2.out; omega⟩, by qd_⟩
          ·
           rw [if_neg c20] at H
           have c20b0 : decide ((bt a0 x3_2) ≤ 57) = false := decide_eq_false c20
           clear c20
           by_cases c21 : ((bt a0 x3_2) = 45)
           ·
            rw [if_pos c21] at H
            have c21b0 : ((bt a0 x3_2) == 45) = true := beq_iff_eq.mpr c21
            have c21b1 : ((bt a0 x3_2) != 45) = false := bne_eq_false_iff_eq.mpr c21
            clear c21
            have H' := Aside0.mk H
            clear H
            have p12 : 0 ≤ (x3_2 : Int) := of_decide_eq_true (by qa_)
            have q12 : x3_2 < (a0.size : Int) := of_decide_eq_true (by qa_)
            have hx12 := bt_at a0 x3_2
            replace p12 := eq_true p12
            replace q12 := eq_true q12
            go_wp2
            go_roundg k2
            case measure => have := HJ1.out; have := HK2.out; omega
            case rel => exact ⟨(wrap64 (x3_2 + 1)), (by qr_), H', ⟨by have := HJ1.out; have := HK2.out; omega⟩, by qd_⟩
           ·
            rw [if_neg c21] at H
            have c21b0 : ((bt a0 x3_2) == 45) = false := beq_eq_false_iff_ne.mpr c21
            have c21b1 : ((bt a0 x3_2) != 45) = true := bne_iff_ne.mpr c21
            obtain rfl := Option.some.inj H
            have p12 : 0 ≤ (x3_2 : Int) := of_decide_eq_true (by qa_)
            have q12 : x3_2 < (a0.size : Int) := of_decide_eq_true (by qa_)
            have hx12 := bt_at a0 x3_2
            replace p12 := eq_true p12
            replace q12 := eq_true q12
            go_wp2
            go_ret
            exact ⟨by qr_, by qd_⟩
         ·
          rw [if_neg c19] at H
          have c19b0 : decide (48 ≤ (bt a0 x3_2)) = false := decide_eq_false c19
          clear c19
          by_cases c22 : ((bt a0 x3_2) = 45)
          ·
           rw [if_pos c22] at H
           have c22b0 : ((bt a0 x3_2) == 45) = true := beq_iff_eq.mpr c22
           have c22b1 : ((bt a0 x3_2) != 45) = false := bne_eq_false_iff_eq.mpr c22
           clear c22
           have H' := Aside0.mk H
           clear H
           have p12 : 0 ≤ (x3_2 : Int) := of_decide_eq_true (by qa_)
           have q12 : x3_2 < (a0.size : Int) := of_decide_eq_true (by qa_)
           have hx12 := bt_at a0 x3_2
           replace p12 := eq_true p12
           replace q12 := eq_true q12
           go_wp2
           go_roundg k2
           case measure => have := HJ1.out; have := HK2.out; omega
           case rel => exact ⟨(wrap64 (x3_2 + 1)), (by qr_), H', ⟨by have := HJ1.out; have := HK2.out; omega⟩, by qd_⟩
          ·
           rw [if_neg c22] at H
           have c22b0 : ((bt a0 x3_2) == 45) = false := beq_eq_false_iff_ne.mpr c22
           have c22b1 : ((bt a0 x3_2) != 45) = true := bne_iff_ne.mpr c22
           obtain rfl := Option.some.inj H
           have p12 : 0 ≤ (x3_2 : Int) := of_decide_eq_true (by qa_)
           have q12 : x3_2 < (a0.size : Int) := of_decide_eq_true (by qa_)
           have hx12 := bt_at a0 x3_2
           replace p12 := eq_true p12
           replace q12 := eq_true q12
           go_wp2
           go_ret
           exact ⟨by qr_, by qd_⟩
       ·
        rw [if_neg c11] at H
        exact absurd H (by simp)
      ·
       rw [if_neg c10] at H
       have c10b0 : decide (x3_2 < (a0.size : Int)) = false := decide_eq_false c10
       clear c10
       obtain rfl := Option.some.inj H
       go_wp2
       go_ret
       exact ⟨by qr_, by qd_⟩
-- NOT PRINTED: function 50 (cofferref4_ID)
mutual
def cofferref4_Number.j0 : Nat → ByteArray → Bool → Option (Int × Int)
 | 0, _, _ => none
 | k + 1, x0, x18 => if x18 = true then (some (0, 4)) else (cofferref4_Number.l0 k x0 0)
def cofferref4_Number.l0 : Nat → ByteArray → Int → Option (Int × Int)
 | 0, _, _ => none
 | k + 1, x0, x4 => if x4 < (x0.size : Int) then (if 0 ≤ x4 then (if (bt x0 x4) < 48 then (some (0, 4)) else (if (bt x0 x4) > 57 then (some (0, 4)) else (cofferref4_Number.l0 k x0 (wrap64 (x4 + 1))))) else (none)) else (cofferref4_Number.l1 k x0 0 0)
def cofferref4_Number.l1 : Nat → ByteArray → Int → Int → Option (Int × Int)
 | 0, _, _, _ => none
 | k + 1, x0, x5, x6 => if x6 < (x0.size : Int) then (if x6 > 18 then (some (0, 2)) else (if 0 ≤ x6 then (if (IntKind.u64.wrap ((IntKind.u64.wrap (x5 * 10)) + (((bt x0 x6) - 48) % 256))) > 9223372036854775807 then (some (0, 2)) else (cofferref4_Number.l1 k x0 (IntKind.u64.wrap ((IntKind.u64.wrap (x5 * 10)) + (((bt x0 x6) - 48) % 256))) (wrap64 (x6 + 1)))) else (none))) else (some (wrap64 (x5), 0))
end
def cofferref4_Number.f (k : Nat) (a0 : ByteArray) : Option (Int × Int) := if a0.toList = ([] : List UInt8) then (cofferref4_Number.j0 k a0 true) else (if 0 < (a0.size : Int) then (if (bt a0 0) = 48 then (cofferref4_Number.j0 k a0 (decide ((a0.size : Int) > 1))) else (cofferref4_Number.j0 k a0 false)) else (none))
set_option maxHeartbeats 8000000 in
set_option maxRecDepth 100000 in
theorem cofferref4_Number.calls (k : Nat) (a0 : ByteArray) (r1 : Int) (r2 : Int) (w : World) (h : cofferref4_Number.f k a0 = some (r1, r2)) :
  Calls Tryd.prog 51 #[.string a0] w fun e w' => e = .returned (.tuple #[.int .i64 r1, .int .i64 r2]) ∧ Drawn0 w w' := by
 have H : (if a0.toList = ([] : List UInt8) then (cofferref4_Number.j0 k a0 true) else (if 0 < (a0.size : Int) then (if (bt a0 0) = 48 then (cofferref4_Number.j0 k a0 (decide ((a0.size : Int) > 1))) else (cofferref4_Number.j0 k a0 false)) else (none))) = some (r1, r2) := h
 clear h
 have HC2 := Aside0.mk H
 clear H
 go_enter Tryd.func51, Tryd.ntmps51
 go_upto_region 1 with (fail)
 go_cut [18] (fun v18 wc => ∃ (kq : Nat) (x18_1 : Bool), v18 = .bool x18_1 ∧ Aside0 (cofferref4_Number.j0 kq a0 x18_1 = some (r1, r2)) ∧ Aside0 (kq ≤ k) ∧ Drawn0 w wc)
 case first =>
  have H := HC2.out
  clear HC2
  by_cases c3 : a0.toList = ([] : List UInt8)
  ·
   rw [if_pos c3] at H
   have c3b0 : (a0.toList == ([] : List UInt8)) = true := beq_iff_eq.mpr c3
   have c3b1 : (a0.toList != ([] : List UInt8)) = false := bne_eq_false_iff_eq.mpr c3
   clear c3
   (first | rw [c3b0] | (simp only [i64_w, i32_w]; rw [c3b0]) | skip)
   have H' := Aside0.mk H
   clear H
   go_wp2
   go_meet
   case rel => exact ⟨_, (true), (by qr_), H', ⟨by first | omega | exact Nat.le_refl _⟩, by qd_⟩
  ·
   rw [if_neg c3] at H
   have c3b0 : (a0.toList == ([] : List UInt8)) = false := beq_eq_false_iff_ne.mpr c3
   have c3b1 : (a0.toList != ([] : List UInt8)) = true := bne_iff_ne.mpr c3
   (first | rw [c3b0] | (simp only [i64_w, i32_w]; rw [c3b0]) | skip)
   by_cases c4 : 0 < (a0.size : Int)
   ·
    rw [if_pos c4] at H
    have c4b0 : decide (0 < (a0.size : Int)) = true := decide_eq_true c4
    have c4b1 : decide (0 < a0.size) = true := decide_eq_true (by omega)
    clear c4
    by_cases c6 : (bt a0 0) = 48
    ·
     rw [if_pos c6] at H
     have c6b0 : ((bt a0 0) == 48) = true := beq_iff_eq.mpr c6
     have c6b1 : ((bt a0 0) != 48) = false := bne_eq_false_iff_eq.mpr c6
     clear c6
     have H' := Aside0.mk H
     clear H
     have p5 : 0 ≤ (0 : Int) := (by omega)
     have q5 : 0 < a0.size := (by have : (0 : Int) < (a0.size : Int) := of_decide_eq_true (by qa_); omega)
     have hx5 : ∀ h : 0 < a0.size, ((a0[0]'h).toNat : Int) = bt a0 0 := bt_at a0 0
     clear p5
     have qi5 : (0 < (a0.size : Int)) = True := eq_true (of_decide_eq_true (by qa_))
     replace q5 := eq_true q5
     go_wp2
     go_meet
     case rel => exact ⟨_, (decide ((a0.size : Int) > 1)), (by qr_), H', ⟨by first | omega | exact Nat.le_refl _⟩, by qd_⟩
    ·
     rw [if_neg c6] at H
     have c6b0 : ((bt a0 0) == 48) = false := beq_eq_false_iff_ne.mpr c6
     have c6b1 : ((bt a0 0) != 48) = true := bne_iff_ne.mpr c6
     have H' := Aside0.mk H
     clear H
     have p5 : 0 ≤ (0 : Int) := (by omega)
     have q5 : 0 < a0.size := (by have : (0 : Int) < (a0.size : Int) := of_decide_eq_true (by qa_); omega)
     have hx5 : ∀ h : 0 < a0.size, ((a0[0]'h).toNat : Int) = bt a0 0 := bt_at a0 0
     clear p5
     have qi5 : (0 < (a0.size : Int)) = True := eq_true (of_decide_eq_true (by qa_))
     replace q5 := eq_true q5
     go_wp2
     go_meet
     case rel => exact ⟨_, (false), (by qr_), H', ⟨by first | omega | exact Nat.le_refl _⟩, by qd_⟩
   ·
    rw [if_neg c4] at H
    exact absurd H (by simp)
 case rest =>
  clear HC2
  try clear p2
  try clear c3
  try clear c3b0
  try clear c3b1
  try clear c4
  try clear c4b0
  try clear c4b1
  try clear c5
  try clear p5
  try clear q5
  try clear hx5
  try clear qi5
  try clear c6
  try clear c6b0
  try clear c6b1
  try clear p5
  try clear q5
  obtain ⟨kq, x18_1, rfl, HA, HJ1, ⟨mc1, rfl⟩⟩ := hcut
  cases kq with
  | zero => exact absurd HA.out (by simp [cofferref4_Number.j0])
  | succ kj1 =>
   have H := HA.out
   clear HA
   simp only [cofferref4_Number.j0] at H
   by_cases c7 : x18_1 = true
   ·
    subst c7
    have H1 : (some (0, 4)) = some (r1, r2) := by rw [if_pos rfl] at H; exact H
    clear H
    have H := H1
    clear H1
    simp only [Option.some.injEq, Prod.mk.injEq] at H
    obtain ⟨rfl, rfl⟩ := H
    go_wp2
    go_ret2
    exact ⟨by qr_, by qd_⟩
   ·
    replace c7 := Bool.eq_false_iff.mpr c7
    subst c7
    have H1 : (cofferref4_Number.l0 kj1 a0 0) = some (r1, r2) := by rw [if_neg (show ¬ (false = true) by decide)] at H; exact H
    clear H
    have H := H1
    clear H1
    have H' := Aside0.mk H
    clear H
    go_wp2
    go_loopg [4] kj1 (fun kq v4 w' => ∃ (x4_2 : Int), v4 = .int .i64 x4_2 ∧ Aside0 (cofferref4_Number.l0 kq a0 x4_2 = some (r1, r2)) ∧ Aside0 (kq ≤ kj1) ∧ Drawn0 w w')
    case atStart => exact ⟨(0), (by qr_), H', ⟨Nat.le_refl _⟩, by qd_⟩
    case round =>
     clear H'
     try clear c1
     try clear p2
     try clear c3
     try clear c3b0
     try clear c3b1
     try clear c4
     try clear c4b0
     try clear c4b1
     try clear c5
     try clear p5
     try clear q5
     try clear hx5
     try clear qi5
     try clear c6
     try clear c6b0
     try clear c6b1
     try clear c7
     try clear p2
     try clear p5
     try clear q5
     obtain ⟨x4_2, rfl, HA, HK2, ⟨m2, rfl⟩⟩ := hrel
     cases gk with
     | zero => exact absurd HA.out (by simp [cofferref4_Number.l0])
     | succ k2 =>
      have H := HA.out
      clear HA
      simp only [cofferref4_Number.l0] at H
      by_cases c8 : x4_2 < (a0.size : Int)
      ·
       rw [if_pos c8] at H
       have c8b0 : decide (x4_2 < (a0.size : Int)) = true := decide_eq_true c8
       clear c8
       by_cases c9 : 0 ≤ x4_2
       ·
        rw [if_pos c9] at H
        have c9b0 : decide (0 ≤ x4_2) = true := decide_eq_true c9
        clear c9
        by_cases c11 : (bt a0 x4_2) < 48
        ·
         rw [if_pos c11] at H
         have c11b0 : decide ((bt a0 x4_2) < 48) = true := decide_eq_true c11
         clear c11
         simp only [Option.some.injEq, Prod.mk.injEq] at H
         obtain ⟨rfl, rfl⟩ := H
         have p10 : 0 ≤ (x4_2 : Int) := of_decide_eq_true (by qa_)
         have q10 : x4_2 < (a0.size : Int) := of_decide_eq_true (by qa_)
         have hx10 := bt_at a0 x4_2
         replace p10 := eq_true p10
         replace q10 := eq_true q10
         go_wp2
         go_ret2
         exact ⟨by qr_, by qd_⟩
        ·
         rw [if_neg c11] at H
         have c11b0 : decide ((bt a0 x4_2) < 48) = false := decide_eq_false c11
         clear c11
         by_cases c13 : (bt a0 x4_2) > 57
         ·
          rw [if_pos c13] at H
          have c13b0 : decide (57 < (bt a0 x4_2)) = true := decide_eq_true c13
          clear c13
          simp only [Option.some.injEq, Prod.mk.injEq] at H
          obtain ⟨rfl, rfl⟩ := H
          have p10 : 0 ≤ (x4_2 : Int) := of_decide_eq_true (by qa_)
          have q10 : x4_2 < (a0.size : Int) := of_decide_eq_true (by qa_)
          have hx10 := bt_at a0 x4_2
          replace p10 := eq_true p10
          replace q10 := eq_true q10
          have p12 : 0 ≤ (x4_2 : Int) := of_decide_eq_true (by qa_)
          have q12 : x4_2 < (a0.size : Int) := of_decide_eq_true (by qa_)
          have hx12 := bt_at a0 x4_2
          replace p12 := eq_true p12
          replace q12 := eq_true q12
          go_wp2
          go_ret2
          exact ⟨by qr_, by qd_⟩
         ·
          rw [if_neg c13] at H
          have c13b0 : decide (57 < (bt a0 x4_2)) = false := decide_eq_false c13
          clear c13
          have H' := Aside0.mk H
          clear H
          have p10 : 0 ≤ (x4_2 : Int) := of_decide_eq_true (by qa_)
          have q10 : x4_2 < (a0.size : Int) := of_decide_eq_true (by qa_)
          have hx10 := bt_at a0 x4_2
          replace p10 := eq_true p10
          replace q10 := eq_true q10
          have p12 : 0 ≤ (x4_2 : Int) := of_decide_eq_true (by qa_)
          have q12 : x4_2 < (a0.size : Int) := of_decide_eq_true (by qa_)
          have hx12 := bt_at a0 x4_2
          replace p12 := eq_true p12
          replace q12 := eq_true q12
          go_wp2
          go_roundg k2
          case measure => have := HJ1.out; have := HK2.out; omega
          case rel => exact ⟨(wrap64 (x4_2 + 1)), (by qr_), H', ⟨by have := HJ1.out; have := HK2.out; omega⟩, by qd_⟩
       ·
        rw [if_neg c9] at H
        exact absurd H (by simp)
      ·
       rw [if_neg c8] at H
       have c8b0 : decide (x4_2 < (a0.size : Int)) = false := decide_eq_false c8
       clear c8
       have H' := Aside0.mk H
       clear H
       go_wp2
       go_loopg [5, 6] k2 (fun kq v5 v6 w' => ∃ (x5_3 : Int) (x6_3 : Int), v5 = .int .u64 x5_3 ∧ v6 = .int .i64 x6_3 ∧ Aside0 (cofferref4_Number.l1 kq a0 x5_3 x6_3 = some (r1, r2)) ∧ Aside0 (kq ≤ k2) ∧ Drawn0 w w')
       case atStart => exact ⟨(0), (0), (by qr_), (by qr_), H', ⟨Nat.le_refl _⟩, by qd_⟩
       case round =>
        clear H'
        try clear c1
        try clear p1
        try clear q1
        try clear hx1
        try clear p2
        try clear c3
        try clear c3b0
        try clear c3b1
        try clear c4
        try clear c4b0
        try clear c4b1
        try clear c5
        try clear p5
        try clear q5
        try clear hx5
        try clear qi5
        try clear c6
        try clear c6b0
        try clear c6b1
        try clear p6
        try clear c7
        try clear c8
        try clear c8b0
        try clear c9
        try clear c9b0
        try clear p10
        try clear q10
        try clear hx10
        try clear c11
        try clear c11b0
        try clear p12
        try clear q12
        try clear hx12
        try clear c13
        try clear c13b0
        try clear p10
        try clear p12
        try clear p2
        try clear p5
        try clear q10
        try clear q12
        try clear q5
        obtain ⟨x5_3, x6_3, rfl, rfl, HA, HK3, ⟨m3, rfl⟩⟩ := hrel
        cases gk with
        | zero => exact absurd HA.out (by simp [cofferref4_Number.l1])
        | succ k3 =>
         have H := HA.out
         clear HA
         simp only [cofferref4_Number.l1] at H
         by_cases c14 : x6_3 < (a0.size : Int)
         ·
          rw [if_pos c14] at H
          have c14b0 : decide (x6_3 < (a0.size : Int)) = true := decide_eq_true c14
          clear c14
          by_cases c15 : x6_3 > 18
          ·
           rw [if_pos c15] at H
           have c15b0 : decide (18 < x6_3) = true := decide_eq_true c15
           clear c15
           simp only [Option.some.injEq, Prod.mk.injEq] at H
           obtain ⟨rfl, rfl⟩ := H
           go_wp2
           go_ret2
           exact ⟨by qr_, by qd_⟩
          ·
           rw [if_neg c15] at H
           have c15b0 : decide (18 < x6_3) = false := decide_eq_false c15
           clear c15
           by_cases c16 : 0 ≤ x6_3
           ·
            rw [if_pos c16] at H
            have c16b0 : decide (0 ≤ x6_3) = true := decide_eq_true c16
            clear c16
            by_cases c18 : (IntKind.u64.wrap ((IntKind.u64.wrap (x5_3 * 10)) + (((bt a0 x6_3) - 48) % 256))) > 9223372036854775807
            ·
             rw [if_pos c18] at H
             have c18b0 : decide (9223372036854775807 < (IntKind.u64.wrap ((IntKind.u64.wrap (x5_3 * 10)) + (((bt a0 x6_3) - 48) % 256)))) = true := decide_eq_true c18
             clear c18
             simp only [Option.some.injEq, Prod.mk.injEq] at H
             obtain ⟨rfl, rfl⟩ := H
             have p17 : 0 ≤ (x6_3 : Int) := of_decide_eq_true (by qa_)
             have q17 : x6_3 < (a0.size : Int) := of_decide_eq_true (by qa_)
             have hx17 := bt_at a0 x6_3
             replace p17 := eq_true p17
             replace q17 := eq_true q17
             go_wp2
             go_ret2
             exact ⟨by qr_, by qd_⟩
            ·
             rw [if_neg c18] at H
             have c18b0 : decide (9223372036854775807 < (IntKind.u64.wrap ((IntKind.u64.wrap (x5_3 * 10)) + (((bt a0 x6_3) - 48) % 256)))) = false := decide_eq_false c18
             clear c18
             have H' := Aside0.mk H
             clear H
             have p17 : 0 ≤ (x6_3 : Int) := of_decide_eq_true (by qa_)
             have q17 : x6_3 < (a0.size : Int) := of_decide_eq_true (by qa_)
             have hx17 := bt_at a0 x6_3
             replace p17 := eq_true p17
             replace q17 := eq_true q17
             have p19 : 0 ≤ (x6_3 : Int) := of_decide_eq_true (by qa_)
             have q19 : x6_3 < (a0.size : Int) := of_decide_eq_true (by qa_)
             have hx19 := bt_at a0 x6_3
             replace p19 := eq_true p19
             replace q19 := eq_true q19
             go_wp2
             go_roundg k3
             case measure => have := HJ1.out; have := HK2.out; have := HK3.out; omega
             case rel => exact ⟨(IntKind.u64.wrap ((IntKind.u64.wrap (x5_3 * 10)) + (((bt a0 x6_3) - 48) % 256))), (wrap64 (x6_3 + 1)), (by qr_), (by qr_), H', ⟨by have := HJ1.out; have := HK2.out; have := HK3.out; omega⟩, by qd_⟩
           ·
            rw [if_neg c16] at H
            exact absurd H (by simp)
         ·
          rw [if_neg c14] at H
          have c14b0 : decide (x6_3 < (a0.size : Int)) = false := decide_eq_false c14
          clear c14
          simp only [Option.some.injEq, Prod.mk.injEq] at H
          obtain ⟨rfl, rfl⟩ := H
          go_wp2
          go_ret2
          exact ⟨by qr_, by qd_⟩
-- NOT PRINTED: function 29 (cofferref26_names)
end Go.Proofs.YtnfimhdcpmakpaaDoor.S
