-- By wip/hook.py.
import Derived.Test.YtnfimhdcpmakpaaDoorSx0P
namespace Go.Proofs.YtnfimhdcpmakpaaDoor.S
open Go.RowKit Go.Proofs.YtnfimhdcpmakpaaDoorW.PrintWords Go.Proofs.YtnfimhdcpmakpaaDoorW.PrintLast Go.Proofs.YtnfimhdcpmakpaaDoorW.PrintMore
attribute [local go_sem] max2_int min2_int max_two min_two max_three min_three max_four min_four
set_option linter.unusedVariables false
set_option linter.unusedSimpArgs false
mutual
def names_Number.l0 : Nat → ByteArray → Int → Int → Option (Int × Int)
 | 0, _, _, _ => none
 | k + 1, x0, x9, x10 => if x10 < x9 then (if 0 ≤ x10 then (if x10 < (x0.size : Int) then (if (bt x0 x10) < 48 then (some (0, 4)) else (if (bt x0 x10) > 57 then (some (0, 4)) else (names_Number.l0 k x0 x9 (wrap64 (x10 + 1))))) else (none)) else (none)) else (if x0.toList = ([] : List UInt8) then (names_Number.j1 k x0 true) else (if 0 < (x0.size : Int) then (if (bt x0 0) = 48 then (names_Number.j1 k x0 (decide ((x0.size : Int) > 1))) else (names_Number.j1 k x0 false)) else (none)))
def names_Number.j1 : Nat → ByteArray → Bool → Option (Int × Int)
 | 0, _, _ => none
 | k + 1, x0, x35 => if x35 = true then (some (0, 4)) else (names_Number.l1 k x0 0 (x0.size : Int) 0)
def names_Number.l1 : Nat → ByteArray → Int → Int → Int → Option (Int × Int)
 | 0, _, _, _, _ => none
 | k + 1, x0, x5, x37, x38 => if x38 < x37 then (if 0 ≤ x38 then (if x38 < (x0.size : Int) then (if x5 > ((9223372036854775807 - (((bt x0 x38) - 48) % 256)) / 10) then (some (0, 2)) else (names_Number.l1 k x0 (wrap64 ((wrap64 (10 * x5)) + (((bt x0 x38) - 48) % 256))) x37 (wrap64 (x38 + 1)))) else (none)) else (none)) else (some (x5, 0))
end
def names_Number.f (k : Nat) (a0 : ByteArray) : Option (Int × Int) := names_Number.l0 k a0 (a0.size : Int) 0
set_option maxHeartbeats 8000000 in
set_option maxRecDepth 100000 in
theorem names_Number.calls (k : Nat) (a0 : ByteArray) (r1 : Int) (r2 : Int) (w : World) (h : names_Number.f k a0 = some (r1, r2)) :
  Calls Tryd.prog 44 #[.string a0] w fun e w' => e = .returned (.tuple #[.int .i64 r1, .int .i64 r2]) ∧ Drawn0 w w' := by
 have H : (names_Number.l0 k a0 (a0.size : Int) 0) = some (r1, r2) := h
 clear h
 have H' := Aside0.mk H
 clear H
 go_enter Tryd.func44, Tryd.ntmps44
 go_wp2
 go_loopg [10] k (fun kq v10 w' => ∃ (x10_1 : Int), v10 = .int .i64 x10_1 ∧ Aside0 (names_Number.l0 kq a0 (a0.size : Int) x10_1 = some (r1, r2)) ∧ Aside0 (kq ≤ k) ∧ Drawn0 w w')
 case atStart => exact ⟨(0), (by qr_), H', ⟨Nat.le_refl _⟩, by qd_⟩
 case round =>
  clear H'
  obtain ⟨x10_1, rfl, HA, HK1, ⟨m1, rfl⟩⟩ := hrel
  cases gk with
  | zero => exact absurd HA.out (by simp [names_Number.l0])
  | succ k1 =>
   have H := HA.out
   clear HA
   simp only [names_Number.l0] at H
   by_cases c2 : x10_1 < (a0.size : Int)
   ·
    rw [if_pos c2] at H
    have c2b0 : decide (x10_1 < (a0.size : Int)) = true := decide_eq_true c2
    clear c2
    by_cases c3 : 0 ≤ x10_1
    ·
     rw [if_pos c3] at H
     have c3b0 : decide (0 ≤ x10_1) = true := decide_eq_true c3
     clear c3
     by_cases c4 : x10_1 < (a0.size : Int)
     ·
      rw [if_pos c4] at H
      have c4b0 : decide (x10_1 < (a0.size : Int)) = true := decide_eq_true c4
      clear c4
      by_cases c6 : (bt a0 x10_1) < 48
      ·
       rw [if_pos c6] at H
       have c6b0 : decide ((bt a0 x10_1) < 48) = true := decide_eq_true c6
       clear c6
       simp only [Option.some.injEq, Prod.mk.injEq] at H
       obtain ⟨rfl, rfl⟩ := H
       have p5 : 0 ≤ (x10_1 : Int) := of_decide_eq_true (by qa_)
       have q5 : x10_1 < (a0.size : Int) := of_decide_eq_true (by qa_)
       have hx5 := bt_at a0 x10_1
       replace p5 := eq_true p5
       replace q5 := eq_true q5
       go_wp2
       go_ret2
       exact ⟨by qr_, by qd_⟩
      ·
       rw [if_neg c6] at H
       have c6b0 : decide ((bt a0 x10_1) < 48) = false := decide_eq_false c6
       clear c6
       by_cases c8 : (bt a0 x10_1) > 57
       ·
        rw [if_pos c8] at H
        have c8b0 : decide (57 < (bt a0 x10_1)) = true := decide_eq_true c8
        clear c8
        simp only [Option.some.injEq, Prod.mk.injEq] at H
        obtain ⟨rfl, rfl⟩ := H
        have p5 : 0 ≤ (x10_1 : Int) := of_decide_eq_true (by qa_)
        have q5 : x10_1 < (a0.size : Int) := of_decide_eq_true (by qa_)
        have hx5 := bt_at a0 x10_1
        replace p5 := eq_true p5
        replace q5 := eq_true q5
        have p7 : 0 ≤ (x10_1 : Int) := of_decide_eq_true (by qa_)
        have q7 : x10_1 < (a0.size : Int) := of_decide_eq_true (by qa_)
        have hx7 := bt_at a0 x10_1
        replace p7 := eq_true p7
        replace q7 := eq_true q7
        go_wp2
        go_ret2
        exact ⟨by qr_, by qd_⟩
       ·
        rw [if_neg c8] at H
        have c8b0 : decide (57 < (bt a0 x10_1)) = false := decide_eq_false c8
        clear c8
        have H' := Aside0.mk H
        clear H
        have p5 : 0 ≤ (x10_1 : Int) := of_decide_eq_true (by qa_)
        have q5 : x10_1 < (a0.size : Int) := of_decide_eq_true (by qa_)
        have hx5 := bt_at a0 x10_1
        replace p5 := eq_true p5
        replace q5 := eq_true q5
        have p7 : 0 ≤ (x10_1 : Int) := of_decide_eq_true (by qa_)
        have q7 : x10_1 < (a0.size : Int) := of_decide_eq_true (by qa_)
        have hx7 := bt_at a0 x10_1
        replace p7 := eq_true p7
        replace q7 := eq_true q7
        go_wp2
        go_roundg k1
        case measure => have := HK1.out; omega
        case rel => exact ⟨(wrap64 (x10_1 + 1)), (by qr_), H', ⟨by have := HK1.out; omega⟩, by qd_⟩
     ·
      rw [if_neg c4] at H
      exact absurd H (by simp)
    ·
     rw [if_neg c3] at H
     exact absurd H (by simp)
   ·
    rw [if_neg c2] at H
    have c2b0 : decide (x10_1 < (a0.size : Int)) = false := decide_eq_false c2
    clear c2
    have HC9 := Aside0.mk H
    clear H
    go_upto_region 7 with (fail)
    go_cut [35] (fun v35 wc => ∃ (kq : Nat) (x35_8 : Bool), v35 = .bool x35_8 ∧ Aside0 (names_Number.j1 kq a0 x35_8 = some (r1, r2)) ∧ Aside0 (kq ≤ k1) ∧ Drawn0 w wc)
    case first =>
     have H := HC9.out
     clear HC9
     by_cases c10 : a0.toList = ([] : List UInt8)
     ·
      rw [if_pos c10] at H
      have c10b0 : (a0.toList == ([] : List UInt8)) = true := beq_iff_eq.mpr c10
      have c10b1 : (a0.toList != ([] : List UInt8)) = false := bne_eq_false_iff_eq.mpr c10
      clear c10
      (first | rw [c10b0] | (simp only [i64_w, i32_w]; rw [c10b0]) | skip)
      have H' := Aside0.mk H
      clear H
      go_wp2
      go_meet
      case rel => exact ⟨_, (true), (by qr_), H', ⟨by have := HK1.out; first | omega | exact Nat.le_refl _⟩, by qd_⟩
     ·
      rw [if_neg c10] at H
      have c10b0 : (a0.toList == ([] : List UInt8)) = false := beq_eq_false_iff_ne.mpr c10
      have c10b1 : (a0.toList != ([] : List UInt8)) = true := bne_iff_ne.mpr c10
      (first | rw [c10b0] | (simp only [i64_w, i32_w]; rw [c10b0]) | skip)
      by_cases c11 : 0 < (a0.size : Int)
      ·
       rw [if_pos c11] at H
       have c11b0 : decide (0 < (a0.size : Int)) = true := decide_eq_true c11
       have c11b1 : decide (0 < a0.size) = true := decide_eq_true (by omega)
       clear c11
       by_cases c13 : (bt a0 0) = 48
       ·
        rw [if_pos c13] at H
        have c13b0 : ((bt a0 0) == 48) = true := beq_iff_eq.mpr c13
        have c13b1 : ((bt a0 0) != 48) = false := bne_eq_false_iff_eq.mpr c13
        clear c13
        have H' := Aside0.mk H
        clear H
        have p12 : 0 ≤ (0 : Int) := (by omega)
        have q12 : 0 < a0.size := (by have : (0 : Int) < (a0.size : Int) := of_decide_eq_true (by qa_); omega)
        have hx12 : ∀ h : 0 < a0.size, ((a0[0]'h).toNat : Int) = bt a0 0 := bt_at a0 0
        clear p12
        have qi12 : (0 < (a0.size : Int)) = True := eq_true (of_decide_eq_true (by qa_))
        replace q12 := eq_true q12
        go_wp2
        go_meet
        case rel => exact ⟨_, (decide ((a0.size : Int) > 1)), (by qr_), H', ⟨by have := HK1.out; first | omega | exact Nat.le_refl _⟩, by qd_⟩
       ·
        rw [if_neg c13] at H
        have c13b0 : ((bt a0 0) == 48) = false := beq_eq_false_iff_ne.mpr c13
        have c13b1 : ((bt a0 0) != 48) = true := bne_iff_ne.mpr c13
        have H' := Aside0.mk H
        clear H
        have p12 : 0 ≤ (0 : Int) := (by omega)
        have q12 : 0 < a0.size := (by have : (0 : Int) < (a0.size : Int) := of_decide_eq_true (by qa_); omega)
        have hx12 : ∀ h : 0 < a0.size, ((a0[0]'h).toNat : Int) = bt a0 0 := bt_at a0 0
        clear p12
        have qi12 : (0 < (a0.size : Int)) = True := eq_true (of_decide_eq_true (by qa_))
        replace q12 := eq_true q12
        go_wp2
        go_meet
        case rel => exact ⟨_, (false), (by qr_), H', ⟨by have := HK1.out; first | omega | exact Nat.le_refl _⟩, by qd_⟩
      ·
       rw [if_neg c11] at H
       exact absurd H (by simp)
    case rest =>
     clear HC9
     try clear c1
     try clear p1
     try clear q1
     try clear hx1
     try clear qi1
     try clear c2
     try clear c2b0
     try clear p2
     try clear c3
     try clear c3b0
     try clear c4
     try clear c4b0
     try clear p5
     try clear q5
     try clear hx5
     try clear c6
     try clear c6b0
     try clear p6
     try clear p7
     try clear q7
     try clear hx7
     try clear c8
     try clear c8b0
     try clear c10
     try clear c10b0
     try clear c10b1
     try clear c11
     try clear c11b0
     try clear c11b1
     try clear p12
     try clear q12
     try clear hx12
     try clear qi12
     try clear c13
     try clear c13b0
     try clear c13b1
     try clear p12
     try clear p5
     try clear p7
     try clear q12
     try clear q5
     try clear q7
     obtain ⟨kq, x35_8, rfl, HA, HJ8, ⟨mc8, rfl⟩⟩ := hcut
     cases kq with
     | zero => exact absurd HA.out (by simp [names_Number.j1])
     | succ kj8 =>
      have H := HA.out
      clear HA
      simp only [names_Number.j1] at H
      by_cases c14 : x35_8 = true
      ·
       subst c14
       have H1 : (some (0, 4)) = some (r1, r2) := by rw [if_pos rfl] at H; exact H
       clear H
       have H := H1
       clear H1
       simp only [Option.some.injEq, Prod.mk.injEq] at H
       obtain ⟨rfl, rfl⟩ := H
       go_wp2
       go_ret2
       exact ⟨by qr_, by qd_⟩
      ·
       replace c14 := Bool.eq_false_iff.mpr c14
       subst c14
       have H1 : (names_Number.l1 kj8 a0 0 (a0.size : Int) 0) = some (r1, r2) := by rw [if_neg (show ¬ (false = true) by decide)] at H; exact H
       clear H
       have H := H1
       clear H1
       have H' := Aside0.mk H
       clear H
       go_wp2
       go_loopg [5, 38] kj8 (fun kq v5 v38 w' => ∃ (x5_3 : Int) (x38_3 : Int), v5 = .int .i64 x5_3 ∧ v38 = .int .i64 x38_3 ∧ Aside0 (names_Number.l1 kq a0 x5_3 (a0.size : Int) x38_3 = some (r1, r2)) ∧ Aside0 (kq ≤ kj8) ∧ Drawn0 w w')
       case atStart => exact ⟨(0), (0), (by qr_), (by qr_), H', ⟨Nat.le_refl _⟩, by qd_⟩
       case round =>
        clear H'
        try clear c1
        try clear p1
        try clear q1
        try clear hx1
        try clear qi1
        try clear c2
        try clear c2b0
        try clear p2
        try clear c3
        try clear c3b0
        try clear c4
        try clear c4b0
        try clear p5
        try clear q5
        try clear hx5
        try clear c6
        try clear c6b0
        try clear p6
        try clear p7
        try clear q7
        try clear hx7
        try clear c8
        try clear c8b0
        try clear c10
        try clear c10b0
        try clear c10b1
        try clear c11
        try clear c11b0
        try clear c11b1
        try clear p12
        try clear q12
        try clear hx12
        try clear qi12
        try clear c13
        try clear c13b0
        try clear c13b1
        try clear c14
        try clear p1
        try clear p12
        try clear p2
        try clear p5
        try clear p6
        try clear p7
        try clear q1
        try clear q12
        try clear q5
        try clear q7
        obtain ⟨x5_3, x38_3, rfl, rfl, HA, HK3, ⟨m3, rfl⟩⟩ := hrel
        cases gk with
        | zero => exact absurd HA.out (by simp [names_Number.l1])
        | succ k3 =>
         have H := HA.out
         clear HA
         simp only [names_Number.l1] at H
         by_cases c15 : x38_3 < (a0.size : Int)
         ·
          rw [if_pos c15] at H
          have c15b0 : decide (x38_3 < (a0.size : Int)) = true := decide_eq_true c15
          clear c15
          by_cases c16 : 0 ≤ x38_3
          ·
           rw [if_pos c16] at H
           have c16b0 : decide (0 ≤ x38_3) = true := decide_eq_true c16
           clear c16
           by_cases c17 : x38_3 < (a0.size : Int)
           ·
            rw [if_pos c17] at H
            have c17b0 : decide (x38_3 < (a0.size : Int)) = true := decide_eq_true c17
            clear c17
            by_cases c19 : x5_3 > ((9223372036854775807 - (((bt a0 x38_3) - 48) % 256)) / 10)
            ·
             rw [if_pos c19] at H
             have c19b0 : decide (((9223372036854775807 - (((bt a0 x38_3) - 48) % 256)) / 10) < x5_3) = true := decide_eq_true c19
             clear c19
             simp only [Option.some.injEq, Prod.mk.injEq] at H
             obtain ⟨rfl, rfl⟩ := H
             have p18 : 0 ≤ (x38_3 : Int) := of_decide_eq_true (by qa_)
             have q18 : x38_3 < (a0.size : Int) := of_decide_eq_true (by qa_)
             have hx18 := bt_at a0 x38_3
             replace p18 := eq_true p18
             replace q18 := eq_true q18
             go_wp2
             go_ret2
             exact ⟨by qr_, by qd_⟩
            ·
             rw [if_neg c19] at H
             have c19b0 : decide (((9223372036854775807 - (((bt a0 x38_3) - 48) % 256)) / 10) < x5_3) = false := decide_eq_false c19
             clear c19
             have H' := Aside0.mk H
             clear H
             have p18 : 0 ≤ (x38_3 : Int) := of_decide_eq_true (by qa_)
             have q18 : x38_3 < (a0.size : Int) := of_decide_eq_true (by qa_)
             have hx18 := bt_at a0 x38_3
             replace p18 := eq_true p18
             replace q18 := eq_true q18
             go_wp2
             go_roundg k3
             case measure => have := HK1.out; have := HJ8.out; have := HK3.out; omega
             case rel => exact ⟨(wrap64 ((wrap64 (10 * x5_3)) + (((bt a0 x38_3) - 48) % 256))), (wrap64 (x38_3 + 1)), (by qr_), (by qr_), H', ⟨by have := HK1.out; have := HJ8.out; have := HK3.out; omega⟩, by qd_⟩
           ·
            rw [if_neg c17] at H
            exact absurd H (by simp)
          ·
           rw [if_neg c16] at H
           exact absurd H (by simp)
         ·
          rw [if_neg c15] at H
          have c15b0 : decide (x38_3 < (a0.size : Int)) = false := decide_eq_false c15
          clear c15
          simp only [Option.some.injEq, Prod.mk.injEq] at H
          obtain ⟨rfl, rfl⟩ := H
          go_wp2
          go_ret2
          exact ⟨by qr_, by qd_⟩
-- NOT PRINTED: function 22 (route_road_fill)
def rights_Word.f (a0 : Int) : Option (ByteArray) := if a0 = 1 then (some (⟨#[114, 101, 97, 100]⟩ : ByteArray)) else (if a0 = 3 then (some (⟨#[97, 100, 100]⟩ : ByteArray)) else (if a0 = 7 then (some (⟨#[102, 117, 108, 108]⟩ : ByteArray)) else (if a0 = 15 then (some (⟨#[114, 117, 108, 101]⟩ : ByteArray)) else ((xItoa.f (wrap64 (a0))).bind fun t205 => (some t205)))))
set_option maxHeartbeats 8000000 in
set_option maxRecDepth 100000 in
theorem rights_Word.calls (a0 : Int) (r : ByteArray) (w : World) (h : rights_Word.f a0 = some r) (hT : Tabs w) :
  Calls Tryd.prog 64 #[.int .u8 a0] w fun e w' => e = .returned (.string r) ∧ Below w.heap.size w w' := by
 have HB := Aside0.mk (Below.refl w.heap.size w)
 have H : (if a0 = 1 then (some (⟨#[114, 101, 97, 100]⟩ : ByteArray)) else (if a0 = 3 then (some (⟨#[97, 100, 100]⟩ : ByteArray)) else (if a0 = 7 then (some (⟨#[102, 117, 108, 108]⟩ : ByteArray)) else (if a0 = 15 then (some (⟨#[114, 117, 108, 101]⟩ : ByteArray)) else ((xItoa.f (wrap64 (a0))).bind fun t205 => (some t205)))))) = some r := h
 clear h
 by_cases c2 : a0 = 1
 ·
  rw [if_pos c2] at H
  have c2b0 : (a0 == 1) = true := beq_iff_eq.mpr c2
  have c2b1 : (a0 != 1) = false := bne_eq_false_iff_eq.mpr c2
  clear c2
  obtain rfl := Option.some.inj H
  go_enter Tryd.func64, Tryd.ntmps64
  go_wp2
  go_ret
  exact ⟨by first | rfl | (simp [errW_none, errW_some] <;> rfl) | (simp [*, errW_none, errW_some] <;> rfl), by qh_⟩
 ·
  rw [if_neg c2] at H
  have c2b0 : (a0 == 1) = false := beq_eq_false_iff_ne.mpr c2
  have c2b1 : (a0 != 1) = true := bne_iff_ne.mpr c2
  by_cases c3 : a0 = 3
  ·
   rw [if_pos c3] at H
   have c3b0 : (a0 == 3) = true := beq_iff_eq.mpr c3
   have c3b1 : (a0 != 3) = false := bne_eq_false_iff_eq.mpr c3
   clear c3
   obtain rfl := Option.some.inj H
   go_enter Tryd.func64, Tryd.ntmps64
   go_wp2
   go_ret
   exact ⟨by first | rfl | (simp [errW_none, errW_some] <;> rfl) | (simp [*, errW_none, errW_some] <;> rfl), by qh_⟩
  ·
   rw [if_neg c3] at H
   have c3b0 : (a0 == 3) = false := beq_eq_false_iff_ne.mpr c3
   have c3b1 : (a0 != 3) = true := bne_iff_ne.mpr c3
   by_cases c4 : a0 = 7
   ·
    rw [if_pos c4] at H
    have c4b0 : (a0 == 7) = true := beq_iff_eq.mpr c4
    have c4b1 : (a0 != 7) = false := bne_eq_false_iff_eq.mpr c4
    clear c4
    obtain rfl := Option.some.inj H
    go_enter Tryd.func64, Tryd.ntmps64
    go_wp2
    go_ret
    exact ⟨by first | rfl | (simp [errW_none, errW_some] <;> rfl) | (simp [*, errW_none, errW_some] <;> rfl), by qh_⟩
   ·
    rw [if_neg c4] at H
    have c4b0 : (a0 == 7) = false := beq_eq_false_iff_ne.mpr c4
    have c4b1 : (a0 != 7) = true := bne_iff_ne.mpr c4
    by_cases c5 : a0 = 15
    ·
     rw [if_pos c5] at H
     have c5b0 : (a0 == 15) = true := beq_iff_eq.mpr c5
     have c5b1 : (a0 != 15) = false := bne_eq_false_iff_eq.mpr c5
     clear c5
     obtain rfl := Option.some.inj H
     go_enter Tryd.func64, Tryd.ntmps64
     go_wp2
     go_ret
     exact ⟨by first | rfl | (simp [errW_none, errW_some] <;> rfl) | (simp [*, errW_none, errW_some] <;> rfl), by qh_⟩
    ·
     rw [if_neg c5] at H
     have c5b0 : (a0 == 15) = false := beq_eq_false_iff_ne.mpr c5
     have c5b1 : (a0 != 15) = true := bne_iff_ne.mpr c5
     replace H := Option.bind_eq_some_iff.mp H
     obtain ⟨t205, A60, H⟩ := H
     replace H : (some t205) = some r := H
     have A6 := Aside0.mk A60
     clear A60
     obtain rfl := Option.some.inj H
     go_enter Tryd.func64, Tryd.ntmps64
     go_wp2_with (first | ((with_reducible refine gate_callee (f := 65) rfl ?_); refine goesL_ (some 14) rfl rfl Tryd.func65 (by kernel_rfl) rfl #[.int .i64 (wrap64 (a0))] rfl (by qm_) ?_; (with_reducible refine (xItoa.calls (wrap64 (a0)) t205 _ A6.out (by first | exact hT | exact Tabs.below hT (by repeat (first | (with_reducible first | exact HB.out | exact Below.refl _ _ | apply below_alloc | apply pw_below_drewN | apply below_drew1) | exact HB.out)) | exact Tabs.drawn hT (by qd_))).mono ?_); rintro e w7 ⟨rfl, hb⟩; refine ⟨_, rfl, ?_⟩; have n0_ := Aside0.mk (below_step (by qh_) hb); clear HB; have HB := n0_; clear n0_; (try clear hb); (try clear hb2); (try clear hk); (try clear hi)))
     go_ret
     exact ⟨by first | rfl | (simp [errW_none, errW_some] <;> rfl) | (simp [*, errW_none, errW_some] <;> rfl), by qh_⟩
def rights_Parse.l0 : Nat → ByteArray → Int → Option (Int × Int)
 | 0, _, _ => none
 | k + 1, x0, x5 => if x5 < 16 then ((rights_Word.f x5).bind fun t206 => (if x0.toList = t206.toList then (some (x5, 0)) else ((xItoa.f (wrap64 (x5))).bind fun t207 => (if x0.toList = t207.toList then (some (x5, 0)) else (rights_Parse.l0 k x0 ((x5 + 1) % 256)))))) else (some (0, 4))
def rights_Parse.f (k : Nat) (a0 : ByteArray) : Option (Int × Int) := rights_Parse.l0 k a0 0
set_option maxHeartbeats 8000000 in
set_option maxRecDepth 100000 in
theorem rights_Parse.calls (k : Nat) (a0 : ByteArray) (r1 : Int) (r2 : Int) (w : World) (h : rights_Parse.f k a0 = some (r1, r2)) (hT : Tabs w) :
  Calls Tryd.prog 45 #[.string a0] w fun e w' => e = .returned (.tuple #[.int .u8 r1, .int .i64 r2]) ∧ Below w.heap.size w w' := by
 have HB := Aside0.mk (Below.refl w.heap.size w)
 have H : (rights_Parse.l0 k a0 0) = some (r1, r2) := h
 clear h
 have H' := Aside0.mk H
 clear H
 go_enter Tryd.func45, Tryd.ntmps45
 go_wp2
 go_loopg [5] k (fun kq v5 w' => ∃ (x5_1 : Int), v5 = .int .u8 x5_1 ∧ Aside0 (rights_Parse.l0 kq a0 x5_1 = some (r1, r2)) ∧ Aside0 (kq ≤ k) ∧ Aside0 (Below w.heap.size w w'))
 case atStart => exact ⟨(0), (by qr_), H', ⟨Nat.le_refl _⟩, ⟨by qh_⟩⟩
 case round =>
  clear H'
  obtain ⟨x5_1, rfl, HA, HK1, HB⟩ := hrel
  cases gk with
  | zero => exact absurd HA.out (by simp [rights_Parse.l0])
  | succ k1 =>
   have H := HA.out
   clear HA
   simp only [rights_Parse.l0] at H
   by_cases c2 : x5_1 < 16
   ·
    rw [if_pos c2] at H
    have c2b0 : decide (x5_1 < 16) = true := decide_eq_true c2
    clear c2
    replace H := Option.bind_eq_some_iff.mp H
    obtain ⟨t206, A30, H⟩ := H
    replace H : (if a0.toList = t206.toList then (some (x5_1, 0)) else ((xItoa.f (wrap64 (x5_1))).bind fun t207 => (if a0.toList = t207.toList then (some (x5_1, 0)) else (rights_Parse.l0 k1 a0 ((x5_1 + 1) % 256))))) = some (r1, r2) := H
    have A3 := Aside0.mk A30
    clear A30
    by_cases c4 : a0.toList = t206.toList
    ·
     rw [if_pos c4] at H
     have c4b0 : (a0.toList == t206.toList) = true := beq_iff_eq.mpr c4
     have c4b1 : (a0.toList != t206.toList) = false := bne_eq_false_iff_eq.mpr c4
     clear c4
     simp only [Option.some.injEq, Prod.mk.injEq] at H
     obtain ⟨rfl, rfl⟩ := H
     go_wp2_with (first | ((with_reducible refine gate_callee (f := 64) rfl ?_); refine goesL_ (some 10) rfl rfl Tryd.func64 (by kernel_rfl) rfl #[.int .u8 x5_1] rfl (by qm_) ?_; (with_reducible refine (rights_Word.calls x5_1 t206 _ A3.out (by first | exact hT | exact Tabs.below hT (by repeat (first | (with_reducible first | exact HB.out | exact Below.refl _ _ | apply below_alloc | apply pw_below_drewN | apply below_drew1) | exact HB.out)) | exact Tabs.drawn hT (by qd_))).mono ?_); rintro e w5 ⟨rfl, hb⟩; refine ⟨_, rfl, ?_⟩; have n0_ := Aside0.mk (below_step (by qh_) hb); clear HB; have HB := n0_; clear n0_; (try clear hb); (try clear hb2); (try clear hk); (try clear hi)))
     go_ret2
     exact ⟨by first | rfl | (simp [errW_none, errW_some] <;> rfl) | (simp [*, errW_none, errW_some] <;> rfl), by qh_⟩
    ·
     rw [if_neg c4] at H
     have c4b0 : (a0.toList == t206.toList) = false := beq_eq_false_iff_ne.mpr c4
     have c4b1 : (a0.toList != t206.toList) = true := bne_iff_ne.mpr c4
     replace H := Option.bind_eq_some_iff.mp H
     obtain ⟨t207, A60, H⟩ := H
     replace H : (if a0.toList = t207.toList then (some (x5_1, 0)) else (rights_Parse.l0 k1 a0 ((x5_1 + 1) % 256))) = some (r1, r2) := H
     have A6 := Aside0.mk A60
     clear A60
     by_cases c7 : a0.toList = t207.toList
     ·
      rw [if_pos c7] at H
      have c7b0 : (a0.toList == t207.toList) = true := beq_iff_eq.mpr c7
      have c7b1 : (a0.toList != t207.toList) = false := bne_eq_false_iff_eq.mpr c7
      clear c7
      simp only [Option.some.injEq, Prod.mk.injEq] at H
      obtain ⟨rfl, rfl⟩ := H
      go_wp2_with (first | ((with_reducible refine gate_callee (f := 64) rfl ?_); refine goesL_ (some 10) rfl rfl Tryd.func64 (by kernel_rfl) rfl #[.int .u8 x5_1] rfl (by qm_) ?_; (with_reducible refine (rights_Word.calls x5_1 t206 _ A3.out (by first | exact hT | exact Tabs.below hT (by repeat (first | (with_reducible first | exact HB.out | exact Below.refl _ _ | apply below_alloc | apply pw_below_drewN | apply below_drew1) | exact HB.out)) | exact Tabs.drawn hT (by qd_))).mono ?_); rintro e w8 ⟨rfl, hb⟩; refine ⟨_, rfl, ?_⟩; have n0_ := Aside0.mk (below_step (by qh_) hb); clear HB; have HB := n0_; clear n0_; (try clear hb); (try clear hb2); (try clear hk); (try clear hi)) | (go_at_call 65; (with_reducible refine (xItoa.calls (wrap64 (x5_1)) t207 _ A6.out (by first | exact hT | exact Tabs.below hT (by repeat (first | (with_reducible first | exact HB.out | exact Below.refl _ _ | apply below_alloc | apply pw_below_drewN | apply below_drew1) | exact HB.out)) | exact Tabs.drawn hT (by qd_))).mono ?_); rintro e w9 ⟨rfl, hb⟩; have n0_ := Aside0.mk (below_step (by qh_) hb); clear HB; have HB := n0_; clear n0_; (try clear hb); (try clear hb2); (try clear hk); (try clear hi)))
      go_ret2
      exact ⟨by first | rfl | (simp [errW_none, errW_some] <;> rfl) | (simp [*, errW_none, errW_some] <;> rfl), by qh_⟩
     ·
      rw [if_neg c7] at H
      have c7b0 : (a0.toList == t207.toList) = false := beq_eq_false_iff_ne.mpr c7
      have c7b1 : (a0.toList != t207.toList) = true := bne_iff_ne.mpr c7
      have H' := Aside0.mk H
      clear H
      go_wp2_with (first | ((with_reducible refine gate_callee (f := 64) rfl ?_); refine goesL_ (some 10) rfl rfl Tryd.func64 (by kernel_rfl) rfl #[.int .u8 x5_1] rfl (by qm_) ?_; (with_reducible refine (rights_Word.calls x5_1 t206 _ A3.out (by first | exact hT | exact Tabs.below hT (by repeat (first | (with_reducible first | exact HB.out | exact Below.refl _ _ | apply below_alloc | apply pw_below_drewN | apply below_drew1) | exact HB.out)) | exact Tabs.drawn hT (by qd_))).mono ?_); rintro e w10 ⟨rfl, hb⟩; refine ⟨_, rfl, ?_⟩; have n0_ := Aside0.mk (below_step (by qh_) hb); clear HB; have HB := n0_; clear n0_; (try clear hb); (try clear hb2); (try clear hk); (try clear hi)) | (go_at_call 65; (with_reducible refine (xItoa.calls (wrap64 (x5_1)) t207 _ A6.out (by first | exact hT | exact Tabs.below hT (by repeat (first | (with_reducible first | exact HB.out | exact Below.refl _ _ | apply below_alloc | apply pw_below_drewN | apply below_drew1) | exact HB.out)) | exact Tabs.drawn hT (by qd_))).mono ?_); rintro e w11 ⟨rfl, hb⟩; have n0_ := Aside0.mk (below_step (by qh_) hb); clear HB; have HB := n0_; clear n0_; (try clear hb); (try clear hb2); (try clear hk); (try clear hi)))
      go_roundg k1
      case measure => have := HK1.out; omega
      case rel => exact ⟨((x5_1 + 1) % 256), (by qr_), H', ⟨by have := HK1.out; omega⟩, ⟨by qh_⟩⟩
   ·
    rw [if_neg c2] at H
    have c2b0 : decide (x5_1 < 16) = false := decide_eq_false c2
    clear c2
    simp only [Option.some.injEq, Prod.mk.injEq] at H
    obtain ⟨rfl, rfl⟩ := H
    go_wp2
    go_ret2
    exact ⟨by first | rfl | (simp [errW_none, errW_some] <;> rfl) | (simp [*, errW_none, errW_some] <;> rfl), by qh_⟩
-- NOT PRINTED: function 23 (route_road_ask)
-- NOT PRINTED: function 24 (bytes_Clone)
-- NOT PRINTED: function 10 (route_To)
-- NOT PRINTED: function 7 (cofferlaw26_begun)
end Go.Proofs.YtnfimhdcpmakpaaDoor.S
