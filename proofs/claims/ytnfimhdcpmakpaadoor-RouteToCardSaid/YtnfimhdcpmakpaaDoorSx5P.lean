-- By wip/hook.py.
import Derived.Test.YtnfimhdcpmakpaaDoorSx0P
namespace Go.Proofs.YtnfimhdcpmakpaaDoor.S
open Go.RowKit Go.Proofs.YtnfimhdcpmakpaaDoorW.PrintWords Go.Proofs.YtnfimhdcpmakpaaDoorW.PrintLast Go.Proofs.YtnfimhdcpmakpaaDoorW.PrintMore
attribute [local go_sem] max2_int min2_int max_two min_two max_three min_three max_four min_four
set_option linter.unusedVariables false
set_option linter.unusedSimpArgs false
mutual
def names_May.j0 : Nat → ByteArray → Bool → Option (Bool)
 | 0, _, _ => none
 | k + 1, x0, x22 => if x22 = true then (some false) else (names_May.l0 k x0 (x0.size : Int) 0)
def names_May.l0 : Nat → ByteArray → Int → Int → Option (Bool)
 | 0, _, _, _ => none
 | k + 1, x0, x24, x25 => if x25 < x24 then (if 0 ≤ x25 then (if x25 < (x0.size : Int) then (if (bt x0 x25) ≥ 97 then (names_May.j2 k x0 (bt x0 x25) x24 x25 (decide ((bt x0 x25) ≤ 122))) else (names_May.j2 k x0 (bt x0 x25) x24 x25 false)) else (none)) else (none)) else (some true)
def names_May.j2 : Nat → ByteArray → Int → Int → Int → Bool → Option (Bool)
 | 0, _, _, _, _, _ => none
 | k + 1, x0, x4, x24, x25, x31 => if x31 = true then (names_May.l0 k x0 x24 (wrap64 (x25 + 1))) else (if x4 ≥ 48 then (names_May.j3 k x0 x4 x24 x25 (decide (x4 ≤ 57))) else (names_May.j3 k x0 x4 x24 x25 false))
def names_May.j3 : Nat → ByteArray → Int → Int → Int → Bool → Option (Bool)
 | 0, _, _, _, _, _ => none
 | k + 1, x0, x4, x24, x25, x31 => if x31 = true then (names_May.l0 k x0 x24 (wrap64 (x25 + 1))) else (if x4 = 45 then (names_May.l0 k x0 x24 (wrap64 (x25 + 1))) else (some false))
end
def names_May.f (k : Nat) (a0 : ByteArray) : Option (Bool) := if (a0.size : Int) < 1 then (names_May.j0 k a0 true) else (if (a0.size : Int) > 16 then (names_May.j0 k a0 true) else (if 0 < (a0.size : Int) then (if (bt a0 0) < 97 then (names_May.j0 k a0 true) else (names_May.j0 k a0 (decide ((bt a0 0) > 122)))) else (none)))
set_option maxHeartbeats 8000000 in
set_option maxRecDepth 100000 in
theorem names_May.calls (k : Nat) (a0 : ByteArray) (r : Bool) (w : World) (h : names_May.f k a0 = some r) :
  Calls Tryd.prog 42 #[.string a0] w fun e w' => e = .returned (.bool r) ∧ Drawn0 w w' := by
 have H : (if (a0.size : Int) < 1 then (names_May.j0 k a0 true) else (if (a0.size : Int) > 16 then (names_May.j0 k a0 true) else (if 0 < (a0.size : Int) then (if (bt a0 0) < 97 then (names_May.j0 k a0 true) else (names_May.j0 k a0 (decide ((bt a0 0) > 122)))) else (none)))) = some r := h
 clear h
 have HC2 := Aside0.mk H
 clear H
 go_enter Tryd.func42, Tryd.ntmps42
 go_upto_region 1 with (fail)
 go_cut [22] (fun v22 wc => ∃ (kq : Nat) (x22_1 : Bool), v22 = .bool x22_1 ∧ Aside0 (names_May.j0 kq a0 x22_1 = some r) ∧ Aside0 (kq ≤ k) ∧ Drawn0 w wc)
 case first =>
  have H := HC2.out
  clear HC2
  by_cases c3 : (a0.size : Int) < 1
  ·
   rw [if_pos c3] at H
   have c3b0 : decide ((a0.size : Int) < 1) = true := decide_eq_true c3
   have c3b1 : decide (a0.size < 1) = true := decide_eq_true (by omega)
   clear c3
   (first | rw [c3b0] | (simp only [i64_w, i32_w]; rw [c3b0]) | skip)
   have H' := Aside0.mk H
   clear H
   go_wp2
   go_meet
   case rel => exact ⟨_, (true), (by qr_), H', ⟨by first | omega | exact Nat.le_refl _⟩, by qd_⟩
  ·
   rw [if_neg c3] at H
   have c3b0 : decide ((a0.size : Int) < 1) = false := decide_eq_false c3
   have c3b1 : decide (a0.size < 1) = false := decide_eq_false (by omega)
   clear c3
   (first | rw [c3b0] | (simp only [i64_w, i32_w]; rw [c3b0]) | skip)
   by_cases c4 : (a0.size : Int) > 16
   ·
    rw [if_pos c4] at H
    have c4b0 : decide (16 < (a0.size : Int)) = true := decide_eq_true c4
    have c4b1 : decide (16 < a0.size) = true := decide_eq_true (by omega)
    clear c4
    have H' := Aside0.mk H
    clear H
    go_wp2
    go_meet
    case rel => exact ⟨_, (true), (by qr_), H', ⟨by first | omega | exact Nat.le_refl _⟩, by qd_⟩
   ·
    rw [if_neg c4] at H
    have c4b0 : decide (16 < (a0.size : Int)) = false := decide_eq_false c4
    have c4b1 : decide (16 < a0.size) = false := decide_eq_false (by omega)
    clear c4
    by_cases c5 : 0 < (a0.size : Int)
    ·
     rw [if_pos c5] at H
     have c5b0 : decide (0 < (a0.size : Int)) = true := decide_eq_true c5
     have c5b1 : decide (0 < a0.size) = true := decide_eq_true (by omega)
     clear c5
     by_cases c7 : (bt a0 0) < 97
     ·
      rw [if_pos c7] at H
      have c7b0 : decide ((bt a0 0) < 97) = true := decide_eq_true c7
      clear c7
      have H' := Aside0.mk H
      clear H
      have p6 : 0 ≤ (0 : Int) := (by omega)
      have q6 : 0 < a0.size := (by have : (0 : Int) < (a0.size : Int) := of_decide_eq_true (by qa_); omega)
      have hx6 : ∀ h : 0 < a0.size, ((a0[0]'h).toNat : Int) = bt a0 0 := bt_at a0 0
      clear p6
      have qi6 : (0 < (a0.size : Int)) = True := eq_true (of_decide_eq_true (by qa_))
      replace q6 := eq_true q6
      go_wp2
      go_meet
      case rel => exact ⟨_, (true), (by qr_), H', ⟨by first | omega | exact Nat.le_refl _⟩, by qd_⟩
     ·
      rw [if_neg c7] at H
      have c7b0 : decide ((bt a0 0) < 97) = false := decide_eq_false c7
      clear c7
      have H' := Aside0.mk H
      clear H
      have p6 : 0 ≤ (0 : Int) := (by omega)
      have q6 : 0 < a0.size := (by have : (0 : Int) < (a0.size : Int) := of_decide_eq_true (by qa_); omega)
      have hx6 : ∀ h : 0 < a0.size, ((a0[0]'h).toNat : Int) = bt a0 0 := bt_at a0 0
      clear p6
      have qi6 : (0 < (a0.size : Int)) = True := eq_true (of_decide_eq_true (by qa_))
      replace q6 := eq_true q6
      have p8 : 0 ≤ (0 : Int) := (by omega)
      have q8 : 0 < a0.size := (by have : (0 : Int) < (a0.size : Int) := of_decide_eq_true (by qa_); omega)
      have hx8 : ∀ h : 0 < a0.size, ((a0[0]'h).toNat : Int) = bt a0 0 := bt_at a0 0
      clear p8
      have qi8 : (0 < (a0.size : Int)) = True := eq_true (of_decide_eq_true (by qa_))
      replace q8 := eq_true q8
      go_wp2
      go_meet
      case rel => exact ⟨_, (decide ((bt a0 0) > 122)), (by qr_), H', ⟨by first | omega | exact Nat.le_refl _⟩, by qd_⟩
    ·
     rw [if_neg c5] at H
     exact absurd H (by simp)
 case rest =>
  clear HC2
  try clear p2
  try clear c3
  try clear c3b0
  try clear c3b1
  try clear c4
  try clear c4b0
  try clear c4b1
  try clear c5
  try clear c5b0
  try clear c5b1
  try clear p6
  try clear q6
  try clear hx6
  try clear qi6
  try clear c7
  try clear c7b0
  try clear p8
  try clear q8
  try clear hx8
  try clear qi8
  try clear p6
  try clear p8
  try clear q6
  try clear q8
  obtain ⟨kq, x22_1, rfl, HA, HJ1, ⟨mc1, rfl⟩⟩ := hcut
  cases kq with
  | zero => exact absurd HA.out (by simp [names_May.j0])
  | succ kj1 =>
   have H := HA.out
   clear HA
   simp only [names_May.j0] at H
   by_cases c9 : x22_1 = true
   ·
    subst c9
    have H1 : (some false) = some r := by rw [if_pos rfl] at H; exact H
    clear H
    have H := H1
    clear H1
    obtain rfl := Option.some.inj H
    go_wp2
    go_ret
    exact ⟨by qr_, by qd_⟩
   ·
    replace c9 := Bool.eq_false_iff.mpr c9
    subst c9
    have H1 : (names_May.l0 kj1 a0 (a0.size : Int) 0) = some r := by rw [if_neg (show ¬ (false = true) by decide)] at H; exact H
    clear H
    have H := H1
    clear H1
    have H' := Aside0.mk H
    clear H
    go_wp2
    go_loopg [25] kj1 (fun kq v25 w' => ∃ (x25_2 : Int), v25 = .int .i64 x25_2 ∧ Aside0 (names_May.l0 kq a0 (a0.size : Int) x25_2 = some r) ∧ Aside0 (kq ≤ kj1) ∧ Drawn0 w w')
    case atStart => exact ⟨(0), (by qr_), H', ⟨Nat.le_refl _⟩, by qd_⟩
    case round =>
     clear H'
     try clear c1
     try clear p2
     try clear c3
     try clear c3b0
     try clear c3b1
     try clear c4
     try clear c4b0
     try clear c4b1
     try clear c5
     try clear c5b0
     try clear c5b1
     try clear p6
     try clear q6
     try clear hx6
     try clear qi6
     try clear c7
     try clear c7b0
     try clear p8
     try clear q8
     try clear hx8
     try clear qi8
     try clear c9
     try clear p2
     try clear p6
     try clear p8
     try clear q6
     try clear q8
     obtain ⟨x25_2, rfl, HA, HK2, ⟨m2, rfl⟩⟩ := hrel
     cases gk with
     | zero => exact absurd HA.out (by simp [names_May.l0])
     | succ k2 =>
      have H := HA.out
      clear HA
      simp only [names_May.l0] at H
      by_cases c10 : x25_2 < (a0.size : Int)
      ·
       rw [if_pos c10] at H
       have c10b0 : decide (x25_2 < (a0.size : Int)) = true := decide_eq_true c10
       clear c10
       by_cases c11 : 0 ≤ x25_2
       ·
        rw [if_pos c11] at H
        have c11b0 : decide (0 ≤ x25_2) = true := decide_eq_true c11
        clear c11
        by_cases c12 : x25_2 < (a0.size : Int)
        ·
         rw [if_pos c12] at H
         have c12b0 : decide (x25_2 < (a0.size : Int)) = true := decide_eq_true c12
         clear c12
         have HC14 := Aside0.mk H
         clear H
         have p13 : 0 ≤ (x25_2 : Int) := of_decide_eq_true (by qa_)
         have q13 : x25_2 < (a0.size : Int) := of_decide_eq_true (by qa_)
         have hx13 := bt_at a0 x25_2
         replace p13 := eq_true p13
         replace q13 := eq_true q13
         go_upto_region 8 with (fail)
         go_cut [31] (fun v31 wc => ∃ (kq : Nat) (x31_13 : Bool), v31 = .bool x31_13 ∧ Aside0 (names_May.j2 kq a0 (bt a0 x25_2) (a0.size : Int) x25_2 x31_13 = some r) ∧ Aside0 (kq ≤ k2) ∧ Drawn0 w wc)
         case first =>
          have H := HC14.out
          clear HC14
          by_cases c15 : (bt a0 x25_2) ≥ 97
          ·
           rw [if_pos c15] at H
           have c15b0 : decide (97 ≤ (bt a0 x25_2)) = true := decide_eq_true c15
           clear c15
           (first | rw [c15b0] | (simp only [i64_w, i32_w]; rw [c15b0]) | skip)
           have H' := Aside0.mk H
           clear H
           go_wp2
           go_meet
           case rel => exact ⟨_, (decide ((bt a0 x25_2) ≤ 122)), (by qr_), H', ⟨by have := HJ1.out; have := HK2.out; first | omega | exact Nat.le_refl _⟩, by qd_⟩
          ·
           rw [if_neg c15] at H
           have c15b0 : decide (97 ≤ (bt a0 x25_2)) = false := decide_eq_false c15
           clear c15
           (first | rw [c15b0] | (simp only [i64_w, i32_w]; rw [c15b0]) | skip)
           have H' := Aside0.mk H
           clear H
           go_wp2
           go_meet
           case rel => exact ⟨_, (false), (by qr_), H', ⟨by have := HJ1.out; have := HK2.out; first | omega | exact Nat.le_refl _⟩, by qd_⟩
         case rest =>
          clear HC14
          try clear c1
          try clear p1
          try clear q1
          try clear hx1
          try clear p2
          try clear c3
          try clear c3b0
          try clear c3b1
          try clear c4
          try clear c4b0
          try clear c4b1
          try clear c5
          try clear c5b0
          try clear c5b1
          try clear p6
          try clear q6
          try clear hx6
          try clear qi6
          try clear c7
          try clear c7b0
          try clear p8
          try clear q8
          try clear hx8
          try clear qi8
          try clear c9
          try clear c10
          try clear c10b0
          try clear c11
          try clear c11b0
          try clear c12
          try clear c12b0
          try clear p13
          try clear q13
          try clear hx13
          try clear c15
          try clear c15b0
          try clear p13
          try clear p2
          try clear p6
          try clear p8
          try clear q13
          try clear q6
          try clear q8
          obtain ⟨kq, x31_13, rfl, HA, HJ13, ⟨mc13, rfl⟩⟩ := hcut
          cases kq with
          | zero => exact absurd HA.out (by simp [names_May.j2])
          | succ kj13 =>
           have H := HA.out
           clear HA
           simp only [names_May.j2] at H
           by_cases c16 : x31_13 = true
           ·
            subst c16
            have H1 : (names_May.l0 kj13 a0 (a0.size : Int) (wrap64 (x25_2 + 1))) = some r := by rw [if_pos rfl] at H; exact H
            clear H
            have H := H1
            clear H1
            have H' := Aside0.mk H
            clear H
            go_wp2
            go_roundg kj13
            case measure => have := HJ1.out; have := HK2.out; have := HJ13.out; omega
            case rel => exact ⟨(wrap64 (x25_2 + 1)), (by qr_), H', ⟨by have := HJ1.out; have := HK2.out; have := HJ13.out; omega⟩, by qd_⟩
           ·
            replace c16 := Bool.eq_false_iff.mpr c16
            subst c16
            have H1 : (if (bt a0 x25_2) ≥ 48 then (names_May.j3 kj13 a0 (bt a0 x25_2) (a0.size : Int) x25_2 (decide ((bt a0 x25_2) ≤ 57))) else (names_May.j3 kj13 a0 (bt a0 x25_2) (a0.size : Int) x25_2 false)) = some r := by rw [if_neg (show ¬ (false = true) by decide)] at H; exact H
            clear H
            have H := H1
            clear H1
            have HC17 := Aside0.mk H
            clear H
            go_upto_region 9 with (fail)
            go_cut [31] (fun v31 wc => ∃ (kq : Nat) (x31_16 : Bool), v31 = .bool x31_16 ∧ Aside0 (names_May.j3 kq a0 (bt a0 x25_2) (a0.size : Int) x25_2 x31_16 = some r) ∧ Aside0 (kq ≤ kj13) ∧ Drawn0 w wc)
            case first =>
             have H := HC17.out
             clear HC17
             by_cases c18 : (bt a0 x25_2) ≥ 48
             ·
              rw [if_pos c18] at H
              have c18b0 : decide (48 ≤ (bt a0 x25_2)) = true := decide_eq_true c18
              clear c18
              (first | rw [c18b0] | (simp only [i64_w, i32_w]; rw [c18b0]) | skip)
              have H' := Aside0.mk H
              clear H
              go_wp2
              go_meet
              case rel => exact ⟨_, (decide ((bt a0 x25_2) ≤ 57)), (by qr_), H', ⟨by have := HJ1.out; have := HK2.out; have := HJ13.out; first | omega | exact Nat.le_refl _⟩, by qd_⟩
             ·
              rw [if_neg c18] at H
              have c18b0 : decide (48 ≤ (bt a0 x25_2)) = false := decide_eq_false c18
              clear c18
              (first | rw [c18b0] | (simp only [i64_w, i32_w]; rw [c18b0]) | skip)
              have H' := Aside0.mk H
              clear H
              go_wp2
              go_meet
              case rel => exact ⟨_, (false), (by qr_), H', ⟨by have := HJ1.out; have := HK2.out; have := HJ13.out; first | omega | exact Nat.le_refl _⟩, by qd_⟩
            case rest =>
             clear HC17
             try clear c1
             try clear p1
             try clear q1
             try clear hx1
             try clear p2
             try clear c3
             try clear c3b0
             try clear c3b1
             try clear c4
             try clear c4b0
             try clear c4b1
             try clear c5
             try clear c5b0
             try clear c5b1
             try clear p6
             try clear q6
             try clear hx6
             try clear qi6
             try clear c7
             try clear c7b0
             try clear p8
             try clear q8
             try clear hx8
             try clear qi8
             try clear c9
             try clear c10
             try clear c10b0
             try clear c11
             try clear c11b0
             try clear c12
             try clear c12b0
             try clear c13
             try clear p13
             try clear q13
             try clear hx13
             try clear c15
             try clear c15b0
             try clear c16
             try clear c18
             try clear c18b0
             try clear p1
             try clear p13
             try clear p2
             try clear p6
             try clear p8
             try clear q1
             try clear q13
             try clear q6
             try clear q8
             obtain ⟨kq, x31_16, rfl, HA, HJ16, ⟨mc16, rfl⟩⟩ := hcut
             cases kq with
             | zero => exact absurd HA.out (by simp [names_May.j3])
             | succ kj16 =>
              have H := HA.out
              clear HA
              simp only [names_May.j3] at H
              by_cases c19 : x31_16 = true
              ·
               subst c19
               have H1 : (names_May.l0 kj16 a0 (a0.size : Int) (wrap64 (x25_2 + 1))) = some r := by rw [if_pos rfl] at H; exact H
               clear H
               have H := H1
               clear H1
               have H' := Aside0.mk H
               clear H
               go_wp2
               go_roundg kj16
               case measure => have := HJ1.out; have := HK2.out; have := HJ13.out; have := HJ16.out; omega
               case rel => exact ⟨(wrap64 (x25_2 + 1)), (by qr_), H', ⟨by have := HJ1.out; have := HK2.out; have := HJ13.out; have := HJ16.out; omega⟩, by qd_⟩
              ·
               replace c19 := Bool.eq_false_iff.mpr c19
               subst c19
               have H1 : (if (bt a0 x25_2) = 45 then (names_May.l0 kj16 a0 (a0.size : Int) (wrap64 (x25_2 + 1))) else (some false)) = some r := by rw [if_neg (show ¬ (false = true) by decide)] at H; exact H
               clear H
               have H := H1
               clear H1
               by_cases c20 : (bt a0 x25_2) = 45
               ·
                rw [if_pos c20] at H
                have c20b0 : ((bt a0 x25_2) == 45) = true := beq_iff_eq.mpr c20
                have c20b1 : ((bt a0 x25_2) != 45) = false := bne_eq_false_iff_eq.mpr c20
                clear c20
                have H' := Aside0.mk H
                clear H
                go_wp2
                go_roundg kj16
                case measure => have := HJ1.out; have := HK2.out; have := HJ13.out; have := HJ16.out; omega
                case rel => exact ⟨(wrap64 (x25_2 + 1)), (by qr_), H', ⟨by have := HJ1.out; have := HK2.out; have := HJ13.out; have := HJ16.out; omega⟩, by qd_⟩
               ·
                rw [if_neg c20] at H
                have c20b0 : ((bt a0 x25_2) == 45) = false := beq_eq_false_iff_ne.mpr c20
                have c20b1 : ((bt a0 x25_2) != 45) = true := bne_iff_ne.mpr c20
                obtain rfl := Option.some.inj H
                go_wp2
                go_ret
                exact ⟨by qr_, by qd_⟩
        ·
         rw [if_neg c12] at H
         exact absurd H (by simp)
       ·
        rw [if_neg c11] at H
        exact absurd H (by simp)
      ·
       rw [if_neg c10] at H
       have c10b0 : decide (x25_2 < (a0.size : Int)) = false := decide_eq_false c10
       clear c10
       obtain rfl := Option.some.inj H
       go_wp2
       go_ret
       exact ⟨by qr_, by qd_⟩
-- NOT PRINTED: function 43 (names_ID)
end Go.Proofs.YtnfimhdcpmakpaaDoor.S
