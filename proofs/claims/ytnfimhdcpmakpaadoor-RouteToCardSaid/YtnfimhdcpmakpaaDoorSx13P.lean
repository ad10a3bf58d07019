-- By wip/hook.py.
import Derived.Test.YtnfimhdcpmakpaaDoorSx0P
namespace Go.Proofs.YtnfimhdcpmakpaaDoor.S
open Go.RowKit Go.Proofs.YtnfimhdcpmakpaaDoorW.PrintWords Go.Proofs.YtnfimhdcpmakpaaDoorW.PrintLast Go.Proofs.YtnfimhdcpmakpaaDoorW.PrintMore
attribute [local go_sem] max2_int min2_int max_two min_two max_three min_three max_four min_four
set_option linter.unusedVariables false
set_option linter.unusedSimpArgs false
def cofferref21_Get.l0 : Nat → ByteArray → Int → List ByteArray → List (S91) → Option (ByteArray × Bool)
 | 0, _, _, _, _ => none
 | k + 1, x1, x6, x277000, x277001 => if x6 < (x277001.length : Int) then (if 0 ≤ x6 then (if ((rd_T91 x277001 x6).f0).toList = x1.toList then (some ((rd_T91 x277001 x6).f1, true)) else (cofferref21_Get.l0 k x1 (wrap64 (x6 + 1)) x277000 x277001)) else (none)) else (some ((⟨#[]⟩ : ByteArray), false))
def cofferref21_Get.f (k : Nat) (l0_0 : List ByteArray) (l0_1 : List (S91)) (a1 : ByteArray) : Option (ByteArray × Bool) := cofferref21_Get.l0 k a1 0 l0_0 l0_1
set_option maxHeartbeats 8000000 in
set_option maxRecDepth 100000 in
theorem cofferref21_Get.calls (k : Nat) (A0_0 : Option Addr) (c0_0 : Nat) (l0_0 : List ByteArray) (A0_1 : Option Addr) (c0_1 : Nat) (l0_1 : List (S91)) (a1 : ByteArray) (r1 : ByteArray) (r2 : Bool) (w : World) (hr0_0 : Kd.C Kd.string w A0_0 l0_0.length l0_0) (hc0_0 : l0_0.length ≤ c0_0) (hr0_1 : Kd.C k91 w A0_1 l0_1.length l0_1) (hc0_1 : l0_1.length ≤ c0_1) (h : cofferref21_Get.f k l0_0 l0_1 a1 = some (r1, r2)) :
  Calls Tryd.prog 52 #[.agg #[.slice A0_0 l0_0.length c0_0, .slice A0_1 l0_1.length c0_1], .string a1] w fun e w' => e = .returned (.tuple #[.string r1, .bool r2]) ∧ Below w.heap.size w w' := by
 have hu51 := Tryd.underlying51
 have HR0_0 := Aside0.mk hr0_0
 have HC0_0 := Aside0.mk hc0_0
 clear hr0_0 hc0_0
 have HR0_1 := Aside0.mk hr0_1
 have HC0_1 := Aside0.mk hc0_1
 clear hr0_1 hc0_1
 have HB := Aside0.mk (Below.refl w.heap.size w)
 have H : (cofferref21_Get.l0 k a1 0 l0_0 l0_1) = some (r1, r2) := h
 clear h
 have H' := Aside0.mk H
 clear H
 go_enter Tryd.func52, Tryd.ntmps52
 go_wp2_with (first | ((with_reducible refine gate_dst (N := 2) rfl ?_); refine box_event ?hg (N := 2) ?hd (cs := #[.slice A0_0 l0_0.length c0_0, .slice A0_1 l0_1.length c0_1]) (t := 51) ?hr ?_; (case hd => rfl); (case hg => rfl); (case hr => first | (go_simp; done) | (go_simp; rfl)); intro gb276 hg w3 hbox hb; have n0_ := Aside0.mk (below_step (by qh_) hb); have n1_ := Aside0.mk (hbox); have n2_ := Aside0.mk ((by rw [hg]; exact (below_size (by qh_)) : w.heap.size ≤ gb276)); have n3_ := Aside0.mk ((by rw [hg]; exact (below_size (by qh_)) : w.heap.size ≤ gb276)); clear HB; have HB := n0_; have BK276 := n1_; have GW276 := n2_; have GE276 := n3_; clear n0_ n1_ n2_ n3_; clear hb hbox hg))
 go_loopg [6] k (fun kq v6 w' => ∃ (x6_1 : Int), v6 = .int .i64 x6_1 ∧ Aside0 (cofferref21_Get.l0 kq a1 x6_1 l0_0 l0_1 = some (r1, r2)) ∧ Aside0 (kq ≤ k) ∧ Aside0 (w'.heap[gb276]? = some (.cells #[(.slice A0_0 l0_0.length c0_0), (.slice A0_1 l0_1.length c0_1)] 51 (0, 0))) ∧ Aside0 (Below w.heap.size w w'))
 case atStart => exact ⟨(0), (by qr_), H', ⟨Nat.le_refl _⟩, ⟨by qb_; exact BK276.out⟩, ⟨by repeat (first | (with_reducible first | qp_ | refine below_set ?_ GE276.out) | exact HB.out)⟩⟩
 case round =>
  clear H'
  try clear p2
  obtain ⟨x6_1, rfl, HA, HK1, BK276, HB⟩ := hrel
  cases gk with
  | zero => exact absurd HA.out (by simp [cofferref21_Get.l0])
  | succ k1 =>
   have H := HA.out
   clear HA
   simp only [cofferref21_Get.l0] at H
   by_cases c4 : x6_1 < (l0_1.length : Int)
   ·
    rw [if_pos c4] at H
    have c4b0 : decide (x6_1 < (l0_1.length : Int)) = true := decide_eq_true c4
    clear c4
    by_cases c5 : 0 ≤ x6_1
    ·
     rw [if_pos c5] at H
     have c5b0 : decide (0 ≤ x6_1) = true := decide_eq_true c5
     clear c5
     by_cases c6 : ((rd_T91 l0_1 x6_1).f0).toList = a1.toList
     ·
      rw [if_pos c6] at H
      have c6b0 : (((rd_T91 l0_1 x6_1).f0).toList == a1.toList) = true := beq_iff_eq.mpr c6
      have c6b1 : (((rd_T91 l0_1 x6_1).f0).toList != a1.toList) = false := bne_eq_false_iff_eq.mpr c6
      clear c6
      simp only [Option.some.injEq, Prod.mk.injEq] at H
      obtain ⟨rfl, rfl⟩ := H
      have hcz7_0 : wr.cell? ⟨gb276, 0, none⟩ = some (.slice A0_0 l0_0.length c0_0) := (blk_cell BK276.out 0).trans rfl
      have hcz7_1 : wr.cell? ⟨gb276, 1, none⟩ = some (.slice A0_1 l0_1.length c0_1) := (blk_cell BK276.out 1).trans rfl
      have hfz7_0 := blk_frozen BK276.out 0
      have hfz7_1 := blk_frozen BK276.out 1
      have p277 : 0 ≤ (x6_1 : Int) := of_decide_eq_true (by qa_)
      have q277 : x6_1 < (l0_1.length : Int) := of_decide_eq_true (by qa_)
      obtain ⟨ad277, e277, hx277_0, hx277_1⟩ := at_T91 HR0_1.out x6_1 p277 q277
      cases e277
      replace hx277_0 := (HB.out.cell (World.block_lt_of_cell? w _ hx277_0)).trans hx277_0
      replace hx277_1 := (HB.out.cell (World.block_lt_of_cell? w _ hx277_1)).trans hx277_1
      replace p277 := eq_true p277
      replace q277 := eq_true q277
      have p278 : 0 ≤ (x6_1 : Int) := of_decide_eq_true (by qa_)
      have q278 : x6_1 < (l0_1.length : Int) := of_decide_eq_true (by qa_)
      obtain ⟨ad278, e278, hx278_0, hx278_1⟩ := at_T91 HR0_1.out x6_1 p278 q278
      obtain rfl : ad277 = ad278 := (by injection e278)
      replace hx278_0 := (HB.out.cell (World.block_lt_of_cell? w _ hx278_0)).trans hx278_0
      replace hx278_1 := (HB.out.cell (World.block_lt_of_cell? w _ hx278_1)).trans hx278_1
      replace p278 := eq_true p278
      replace q278 := eq_true q278
      go_wp2
      go_ret2
      exact ⟨by first | rfl | (simp [errW_none, errW_some] <;> rfl) | (simp [*, errW_none, errW_some] <;> rfl), by repeat (first | (with_reducible first | qp_ | refine below_set ?_ GE276.out) | exact HB.out)⟩
     ·
      rw [if_neg c6] at H
      have c6b0 : (((rd_T91 l0_1 x6_1).f0).toList == a1.toList) = false := beq_eq_false_iff_ne.mpr c6
      have c6b1 : (((rd_T91 l0_1 x6_1).f0).toList != a1.toList) = true := bne_iff_ne.mpr c6
      have H' := Aside0.mk H
      clear H
      have hcz8_0 : wr.cell? ⟨gb276, 0, none⟩ = some (.slice A0_0 l0_0.length c0_0) := (blk_cell BK276.out 0).trans rfl
      have hcz8_1 : wr.cell? ⟨gb276, 1, none⟩ = some (.slice A0_1 l0_1.length c0_1) := (blk_cell BK276.out 1).trans rfl
      have hfz8_0 := blk_frozen BK276.out 0
      have hfz8_1 := blk_frozen BK276.out 1
      have p277 : 0 ≤ (x6_1 : Int) := of_decide_eq_true (by qa_)
      have q277 : x6_1 < (l0_1.length : Int) := of_decide_eq_true (by qa_)
      obtain ⟨ad277, e277, hx277_0, hx277_1⟩ := at_T91 HR0_1.out x6_1 p277 q277
      cases e277
      replace hx277_0 := (HB.out.cell (World.block_lt_of_cell? w _ hx277_0)).trans hx277_0
      replace hx277_1 := (HB.out.cell (World.block_lt_of_cell? w _ hx277_1)).trans hx277_1
      replace p277 := eq_true p277
      replace q277 := eq_true q277
      go_wp2
      go_roundg k1
      case measure => have := HK1.out; omega
      case rel => exact ⟨(wrap64 (x6_1 + 1)), (by qr_), H', ⟨by have := HK1.out; omega⟩, ⟨by qb_; exact BK276.out⟩, ⟨by repeat (first | (with_reducible first | qp_ | refine below_set ?_ GE276.out) | exact HB.out)⟩⟩
    ·
     rw [if_neg c5] at H
     exact absurd H (by simp)
   ·
    rw [if_neg c4] at H
    have c4b0 : decide (x6_1 < (l0_1.length : Int)) = false := decide_eq_false c4
    clear c4
    simp only [Option.some.injEq, Prod.mk.injEq] at H
    obtain ⟨rfl, rfl⟩ := H
    have hcz9_0 : wr.cell? ⟨gb276, 0, none⟩ = some (.slice A0_0 l0_0.length c0_0) := (blk_cell BK276.out 0).trans rfl
    have hcz9_1 : wr.cell? ⟨gb276, 1, none⟩ = some (.slice A0_1 l0_1.length c0_1) := (blk_cell BK276.out 1).trans rfl
    have hfz9_0 := blk_frozen BK276.out 0
    have hfz9_1 := blk_frozen BK276.out 1
    go_wp2
    go_ret2
    exact ⟨by first | rfl | (simp [errW_none, errW_some] <;> rfl) | (simp [*, errW_none, errW_some] <;> rfl), by repeat (first | (with_reducible first | qp_ | refine below_set ?_ GE276.out) | exact HB.out)⟩
def cofferref26_has.l0 : Nat → List ByteArray → ByteArray → Int → Option (Bool)
 | 0, _, _, _ => none
 | k + 1, x0, x1, x5 => if x5 < (x0.length : Int) then (if 0 ≤ x5 then (if (rdOf ByteArray.empty x0 x5).toList = x1.toList then (some true) else (cofferref26_has.l0 k x0 x1 (wrap64 (x5 + 1)))) else (none)) else (some false)
def cofferref26_has.f (k : Nat) (l0 : List ByteArray) (a1 : ByteArray) : Option (Bool) := cofferref26_has.l0 k l0 a1 0
set_option maxHeartbeats 8000000 in
set_option maxRecDepth 100000 in
theorem cofferref26_has.calls (k : Nat) (A0 : Option Addr) (c0 : Nat) (l0 : List ByteArray) (a1 : ByteArray) (r : Bool) (w : World) (hr0 : Kd.C Kd.string w A0 l0.length l0) (hc0 : l0.length ≤ c0) (h : cofferref26_has.f k l0 a1 = some r) :
  Calls Tryd.prog 53 #[.slice A0 l0.length c0, .string a1] w fun e w' => e = .returned (.bool r) ∧ Drawn0 w w' := by
 have HR0 := Aside0.mk hr0
 have HC0 := Aside0.mk hc0
 clear hr0 hc0
 have H : (cofferref26_has.l0 k l0 a1 0) = some r := h
 clear h
 have H' := Aside0.mk H
 clear H
 go_enter Tryd.func53, Tryd.ntmps53
 go_wp2
 go_loopg [5] k (fun kq v5 w' => ∃ (x5_1 : Int), v5 = .int .i64 x5_1 ∧ Aside0 (cofferref26_has.l0 kq l0 a1 x5_1 = some r) ∧ Aside0 (kq ≤ k) ∧ Drawn0 w w')
 case atStart => exact ⟨(0), (by qr_), H', ⟨Nat.le_refl _⟩, by qd_⟩
 case round =>
  clear H'
  try clear p2
  obtain ⟨x5_1, rfl, HA, HK1, ⟨m1, rfl⟩⟩ := hrel
  cases gk with
  | zero => exact absurd HA.out (by simp [cofferref26_has.l0])
  | succ k1 =>
   have H := HA.out
   clear HA
   simp only [cofferref26_has.l0] at H
   by_cases c3 : x5_1 < (l0.length : Int)
   ·
    rw [if_pos c3] at H
    have c3b0 : decide (x5_1 < (l0.length : Int)) = true := decide_eq_true c3
    clear c3
    by_cases c4 : 0 ≤ x5_1
    ·
     rw [if_pos c4] at H
     have c4b0 : decide (0 ≤ x5_1) = true := decide_eq_true c4
     clear c4
     by_cases c5 : (rdOf ByteArray.empty l0 x5_1).toList = a1.toList
     ·
      rw [if_pos c5] at H
      have c5b0 : ((rdOf ByteArray.empty l0 x5_1).toList == a1.toList) = true := beq_iff_eq.mpr c5
      have c5b1 : ((rdOf ByteArray.empty l0 x5_1).toList != a1.toList) = false := bne_eq_false_iff_eq.mpr c5
      clear c5
      obtain rfl := Option.some.inj H
      have p279 : 0 ≤ (x5_1 : Int) := of_decide_eq_true (by qa_)
      have q279 : x5_1 < (l0.length : Int) := of_decide_eq_true (by qa_)
      obtain ⟨ad279, e279, hx279_0⟩ := Kd.at_string HR0.out x5_1 p279 q279
      cases e279
      replace p279 := eq_true p279
      replace q279 := eq_true q279
      go_wp2
      go_ret
      exact ⟨by qr_, by qd_⟩
     ·
      rw [if_neg c5] at H
      have c5b0 : ((rdOf ByteArray.empty l0 x5_1).toList == a1.toList) = false := beq_eq_false_iff_ne.mpr c5
      have c5b1 : ((rdOf ByteArray.empty l0 x5_1).toList != a1.toList) = true := bne_iff_ne.mpr c5
      have H' := Aside0.mk H
      clear H
      have p279 : 0 ≤ (x5_1 : Int) := of_decide_eq_true (by qa_)
      have q279 : x5_1 < (l0.length : Int) := of_decide_eq_true (by qa_)
      obtain ⟨ad279, e279, hx279_0⟩ := Kd.at_string HR0.out x5_1 p279 q279
      cases e279
      replace p279 := eq_true p279
      replace q279 := eq_true q279
      go_wp2
      go_roundg k1
      case measure => have := HK1.out; omega
      case rel => exact ⟨(wrap64 (x5_1 + 1)), (by qr_), H', ⟨by have := HK1.out; omega⟩, by qd_⟩
    ·
     rw [if_neg c4] at H
     exact absurd H (by simp)
   ·
    rw [if_neg c3] at H
    have c3b0 : decide (x5_1 < (l0.length : Int)) = false := decide_eq_false c3
    clear c3
    obtain rfl := Option.some.inj H
    go_wp2
    go_ret
    exact ⟨by qr_, by qd_⟩
mutual
def cofferref4_Print.l0 : Nat → Int → ByteArray → Bool → Int → Option (ByteArray)
 | 0, _, _, _, _ => none
 | k + 1, x0, x3, x4, x5 => if x5 = 0 then (cofferref4_Print.j1 k x0 x3 x4 x5 true) else (cofferref4_Print.j1 k x0 x3 x4 x5 (x0 != 0))
def cofferref4_Print.j1 : Nat → Int → ByteArray → Bool → Int → Bool → Option (ByteArray)
 | 0, _, _, _, _, _ => none
 | k + 1, x0, x3, x4, x5, x14 => if x14 = true then (if (Int.tmod x0 10) < 0 then (if 0 ≤ (wrap64 (-(Int.tmod x0 10))) then (if (wrap64 (-(Int.tmod x0 10))) ≤ (wrap64 ((wrap64 (-(Int.tmod x0 10))) + 1)) then (if (wrap64 ((wrap64 (-(Int.tmod x0 10))) + 1)) ≤ 16 then (if ((⟨#[48, 49, 50, 51, 52, 53, 54, 55, 56, 57, 97, 98, 99, 100, 101, 102]⟩ : ByteArray).extract ((wrap64 (-(Int.tmod x0 10))) : Int).toNat ((wrap64 ((wrap64 (-(Int.tmod x0 10))) + 1)) : Int).toNat).size + x3.size ≤ 9223372036854775807 then (cofferref4_Print.l0 k (wrap64 (Int.tdiv x0 10)) (((⟨#[48, 49, 50, 51, 52, 53, 54, 55, 56, 57, 97, 98, 99, 100, 101, 102]⟩ : ByteArray).extract ((wrap64 (-(Int.tmod x0 10))) : Int).toNat ((wrap64 ((wrap64 (-(Int.tmod x0 10))) + 1)) : Int).toNat) ++ x3) x4 (wrap64 (x5 + 1))) else (none)) else (none)) else (none)) else (none)) else (if 0 ≤ (Int.tmod x0 10) then (if (Int.tmod x0 10) ≤ (wrap64 ((Int.tmod x0 10) + 1)) then (if (wrap64 ((Int.tmod x0 10) + 1)) ≤ 16 then (if ((⟨#[48, 49, 50, 51, 52, 53, 54, 55, 56, 57, 97, 98, 99, 100, 101, 102]⟩ : ByteArray).extract ((Int.tmod x0 10) : Int).toNat ((wrap64 ((Int.tmod x0 10) + 1)) : Int).toNat).size + x3.size ≤ 9223372036854775807 then (cofferref4_Print.l0 k (wrap64 (Int.tdiv x0 10)) (((⟨#[48, 49, 50, 51, 52, 53, 54, 55, 56, 57, 97, 98, 99, 100, 101, 102]⟩ : ByteArray).extract ((Int.tmod x0 10) : Int).toNat ((wrap64 ((Int.tmod x0 10) + 1)) : Int).toNat) ++ x3) x4 (wrap64 (x5 + 1))) else (none)) else (none)) else (none)) else (none))) else (if x4 = true then (if 1 + x3.size ≤ 9223372036854775807 then (some ((⟨#[45]⟩ : ByteArray) ++ x3)) else (none)) else (some x3))
end
def cofferref4_Print.f (k : Nat) (a0 : Int) : Option (ByteArray) := cofferref4_Print.l0 k a0 (⟨#[]⟩ : ByteArray) (decide (a0 < 0)) 0
set_option maxHeartbeats 8000000 in
set_option maxRecDepth 100000 in
theorem cofferref4_Print.calls (k : Nat) (a0 : Int) (r : ByteArray) (w : World) (h : cofferref4_Print.f k a0 = some r) :
  Calls Tryd.prog 77 #[.int .i64 a0] w fun e w' => e = .returned (.string r) ∧ Drawn0 w w' := by
 have H : (cofferref4_Print.l0 k a0 (⟨#[]⟩ : ByteArray) (decide (a0 < 0)) 0) = some r := h
 clear h
 have H' := Aside0.mk H
 clear H
 go_enter Tryd.func77, Tryd.ntmps77
 go_wp2
 go_loopg [0, 3, 5] k (fun kq v0 v3 v5 w' => ∃ (x0_1 : Int) (x3_1 : ByteArray) (x5_1 : Int), v0 = .int .i64 x0_1 ∧ v3 = .string x3_1 ∧ v5 = .int .i64 x5_1 ∧ Aside0 (cofferref4_Print.l0 kq x0_1 x3_1 (decide (a0 < 0)) x5_1 = some r) ∧ Aside0 (kq ≤ k) ∧ Drawn0 w w')
 case atStart => exact ⟨(a0), ((⟨#[]⟩ : ByteArray)), (0), (by qr_), (by qr_), (by qr_), H', ⟨Nat.le_refl _⟩, by qd_⟩
 case round =>
  clear H'
  obtain ⟨x0_1, x3_1, x5_1, rfl, rfl, rfl, HA, HK1, ⟨m1, rfl⟩⟩ := hrel
  cases gk with
  | zero => exact absurd HA.out (by simp [cofferref4_Print.l0])
  | succ k1 =>
   have H := HA.out
   clear HA
   simp only [cofferref4_Print.l0] at H
   have HC2 := Aside0.mk H
   clear H
   go_upto_region 3 with (fail)
   go_cut [14] (fun v14 wc => ∃ (kq : Nat) (x14_1 : Bool), v14 = .bool x14_1 ∧ Aside0 (cofferref4_Print.j1 kq x0_1 x3_1 (decide (a0 < 0)) x5_1 x14_1 = some r) ∧ Aside0 (kq ≤ k1) ∧ Drawn0 w wc)
   case first =>
    have H := HC2.out
    clear HC2
    by_cases c3 : x5_1 = 0
    ·
     rw [if_pos c3] at H
     have c3b0 : (x5_1 == 0) = true := beq_iff_eq.mpr c3
     have c3b1 : (x5_1 != 0) = false := bne_eq_false_iff_eq.mpr c3
     clear c3
     (first | rw [c3b0] | (simp only [i64_w, i32_w]; rw [c3b0]) | skip)
     have H' := Aside0.mk H
     clear H
     go_wp2
     go_meet
     case rel => exact ⟨_, (true), (by qr_), H', ⟨by have := HK1.out; first | omega | exact Nat.le_refl _⟩, by qd_⟩
    ·
     rw [if_neg c3] at H
     have c3b0 : (x5_1 == 0) = false := beq_eq_false_iff_ne.mpr c3
     have c3b1 : (x5_1 != 0) = true := bne_iff_ne.mpr c3
     (first | rw [c3b0] | (simp only [i64_w, i32_w]; rw [c3b0]) | skip)
     have H' := Aside0.mk H
     clear H
     go_wp2
     go_meet
     case rel => exact ⟨_, ((x0_1 != 0)), (by qr_), H', ⟨by have := HK1.out; first | omega | exact Nat.le_refl _⟩, by qd_⟩
   case rest =>
    clear HC2
    try clear p2
    try clear c3
    try clear c3b0
    try clear c3b1
    obtain ⟨kq, x14_1, rfl, HA, HJ1, ⟨mc1, rfl⟩⟩ := hcut
    cases kq with
    | zero => exact absurd HA.out (by simp [cofferref4_Print.j1])
    | succ kj1 =>
     have H := HA.out
     clear HA
     simp only [cofferref4_Print.j1] at H
     by_cases c4 : x14_1 = true
     ·
      subst c4
      have H1 : (if (Int.tmod x0_1 10) < 0 then (if 0 ≤ (wrap64 (-(Int.tmod x0_1 10))) then (if (wrap64 (-(Int.tmod x0_1 10))) ≤ (wrap64 ((wrap64 (-(Int.tmod x0_1 10))) + 1)) then (if (wrap64 ((wrap64 (-(Int.tmod x0_1 10))) + 1)) ≤ 16 then (if ((⟨#[48, 49, 50, 51, 52, 53, 54, 55, 56, 57, 97, 98, 99, 100, 101, 102]⟩ : ByteArray).extract ((wrap64 (-(Int.tmod x0_1 10))) : Int).toNat ((wrap64 ((wrap64 (-(Int.tmod x0_1 10))) + 1)) : Int).toNat).size + x3_1.size ≤ 9223372036854775807 then (cofferref4_Print.l0 kj1 (wrap64 (Int.tdiv x0_1 10)) (((⟨#[48, 49, 50, 51, 52, 53, 54, 55, 56, 57, 97, 98, 99, 100, 101, 102]⟩ : ByteArray).extract ((wrap64 (-(Int.tmod x0_1 10))) : Int).toNat ((wrap64 ((wrap64 (-(Int.tmod x0_1 10))) + 1)) : Int).toNat) ++ x3_1) (decide (a0 < 0)) (wrap64 (x5_1 + 1))) else (none)) else (none)) else (none)) else (none)) else (if 0 ≤ (Int.tmod x0_1 10) then (if (Int.tmod x0_1 10) ≤ (wrap64 ((Int.tmod x0_1 10) + 1)) then (if (wrap64 ((Int.tmod x0_1 10) + 1)) ≤ 16 then (if ((⟨#[48, 49, 50, 51, 52, 53, 54, 55, 56, 57, 97, 98, 99, 100, 101, 102]⟩ : ByteArray).extract ((Int.tmod x0_1 10) : Int).toNat ((wrap64 ((Int.tmod x0_1 10) + 1)) : Int).toNat).size + x3_1.size ≤ 9223372036854775807 then (cofferref4_Print.l0 kj1 (wrap64 (Int.tdiv x0_1 10)) (((⟨#[48, 49, 50, 51, 52, 53, 54, 55, 56, 57, 97, 98, 99, 100, 101, 102]⟩ : ByteArray).extract ((Int.tmod x0_1 10) : Int).toNat ((wrap64 ((Int.tmod x0_1 10) + 1)) : Int).toNat) ++ x3_1) (decide (a0 < 0)) (wrap64 (x5_1 + 1))) else (none)) else (none)) else (none)) else (none))) = some r := by rw [if_pos rfl] at H; exact H
      clear H
      have H := H1
      clear H1
      by_cases c5 : (Int.tmod x0_1 10) < 0
      ·
       rw [if_pos c5] at H
       have c5b0 : decide ((Int.tmod x0_1 10) < 0) = true := decide_eq_true c5
       clear c5
       obtain ⟨ji6, hji6⟩ : ∃ j_ : Int, (wrap64 (-(Int.tmod x0_1 10))) = j_ := ⟨_, rfl⟩
       replace H : (if 0 ≤ (ji6) then (if (ji6) ≤ (wrap64 ((ji6) + 1)) then (if (wrap64 ((ji6) + 1)) ≤ 16 then (if ((⟨#[48, 49, 50, 51, 52, 53, 54, 55, 56, 57, 97, 98, 99, 100, 101, 102]⟩ : ByteArray).extract ((ji6) : Int).toNat ((wrap64 ((ji6) + 1)) : Int).toNat).size + x3_1.size ≤ 9223372036854775807 then (cofferref4_Print.l0 kj1 (wrap64 (Int.tdiv x0_1 10)) (((⟨#[48, 49, 50, 51, 52, 53, 54, 55, 56, 57, 97, 98, 99, 100, 101, 102]⟩ : ByteArray).extract ((ji6) : Int).toNat ((wrap64 ((ji6) + 1)) : Int).toNat) ++ x3_1) (decide (a0 < 0)) (wrap64 (x5_1 + 1))) else (none)) else (none)) else (none)) else (none)) = some r := by first | (rw [hji6] at H; exact H) | (simp only [hji6] at H ⊢; exact H)
       have hji6w : (IntKind.i64.wrap (-(Int.tmod x0_1 10))) = ji6 := (i64_w _).trans hji6
       by_cases c7 : 0 ≤ (ji6)
       ·
        rw [if_pos c7] at H
        have c7b0 := eq_true c7
        have c7b1 : decide (0 ≤ (ji6)) = true := decide_eq_true c7
        clear c7
        by_cases c8 : (ji6) ≤ (wrap64 ((ji6) + 1))
        ·
         rw [if_pos c8] at H
         have c8b0 := eq_true c8
         have c8b1 : decide ((ji6) ≤ (wrap64 ((ji6) + 1))) = true := decide_eq_true c8
         by_cases c9 : (wrap64 ((ji6) + 1)) ≤ 16
         ·
          rw [if_pos c9] at H
          have c9b0 := eq_true c9
          have c9b1 : decide ((wrap64 ((ji6) + 1)) ≤ 16) = true := decide_eq_true c9
          by_cases c10 : ((⟨#[48, 49, 50, 51, 52, 53, 54, 55, 56, 57, 97, 98, 99, 100, 101, 102]⟩ : ByteArray).extract ((ji6) : Int).toNat ((wrap64 ((ji6) + 1)) : Int).toNat).size + x3_1.size ≤ 9223372036854775807
          ·
           rw [if_pos c10] at H
           have c10b0 := eq_true c10
           have c10b1 : decide (((⟨#[48, 49, 50, 51, 52, 53, 54, 55, 56, 57, 97, 98, 99, 100, 101, 102]⟩ : ByteArray).extract ((ji6) : Int).toNat ((wrap64 ((ji6) + 1)) : Int).toNat).size + x3_1.size ≤ 9223372036854775807) = true := decide_eq_true c10
           try have c10b2 : (9223372036854775807 < ((⟨#[48, 49, 50, 51, 52, 53, 54, 55, 56, 57, 97, 98, 99, 100, 101, 102]⟩ : ByteArray).extract ((ji6) : Int).toNat ((wrap64 ((ji6) + 1)) : Int).toNat).size + x3_1.size) = False := eq_false (Nat.not_lt.2 c10)
           have H' := Aside0.mk H
           clear H
           go_wp2
           go_roundg kj1
           case measure => have := HK1.out; have := HJ1.out; omega
           case rel => exact ⟨(wrap64 (Int.tdiv x0_1 10)), (((⟨#[48, 49, 50, 51, 52, 53, 54, 55, 56, 57, 97, 98, 99, 100, 101, 102]⟩ : ByteArray).extract ((ji6) : Int).toNat ((wrap64 ((ji6) + 1)) : Int).toNat) ++ x3_1), (wrap64 (x5_1 + 1)), (by qr_), (by first | rfl | (simp; done) | (simp only [← hji6] <;> (first | rfl | simp)) | (simp [*]; done)), (by qr_), H', ⟨by have := HK1.out; have := HJ1.out; omega⟩, by qd_⟩
          ·
           rw [if_neg c10] at H
           exact absurd H (by simp)
         ·
          rw [if_neg c9] at H
          exact absurd H (by simp)
        ·
         rw [if_neg c8] at H
         exact absurd H (by simp)
       ·
        rw [if_neg c7] at H
        exact absurd H (by simp)
      ·
       rw [if_neg c5] at H
       have c5b0 : decide ((Int.tmod x0_1 10) < 0) = false := decide_eq_false c5
       clear c5
       obtain ⟨ji11, hji11⟩ : ∃ j_ : Int, (Int.tmod x0_1 10) = j_ := ⟨_, rfl⟩
       replace H : (if 0 ≤ (ji11) then (if (ji11) ≤ (wrap64 ((ji11) + 1)) then (if (wrap64 ((ji11) + 1)) ≤ 16 then (if ((⟨#[48, 49, 50, 51, 52, 53, 54, 55, 56, 57, 97, 98, 99, 100, 101, 102]⟩ : ByteArray).extract ((ji11) : Int).toNat ((wrap64 ((ji11) + 1)) : Int).toNat).size + x3_1.size ≤ 9223372036854775807 then (cofferref4_Print.l0 kj1 (wrap64 (Int.tdiv x0_1 10)) (((⟨#[48, 49, 50, 51, 52, 53, 54, 55, 56, 57, 97, 98, 99, 100, 101, 102]⟩ : ByteArray).extract ((ji11) : Int).toNat ((wrap64 ((ji11) + 1)) : Int).toNat) ++ x3_1) (decide (a0 < 0)) (wrap64 (x5_1 + 1))) else (none)) else (none)) else (none)) else (none)) = some r := by first | (rw [hji11] at H; exact H) | (simp only [hji11] at H ⊢; exact H)
       (try rw [hji11] at c5b0)
       by_cases c12 : 0 ≤ (ji11)
       ·
        rw [if_pos c12] at H
        have c12b0 := eq_true c12
        have c12b1 : decide (0 ≤ (ji11)) = true := decide_eq_true c12
        clear c12
        by_cases c13 : (ji11) ≤ (wrap64 ((ji11) + 1))
        ·
         rw [if_pos c13] at H
         have c13b0 := eq_true c13
         have c13b1 : decide ((ji11) ≤ (wrap64 ((ji11) + 1))) = true := decide_eq_true c13
         by_cases c14 : (wrap64 ((ji11) + 1)) ≤ 16
         ·
          rw [if_pos c14] at H
          have c14b0 := eq_true c14
          have c14b1 : decide ((wrap64 ((ji11) + 1)) ≤ 16) = true := decide_eq_true c14
          by_cases c15 : ((⟨#[48, 49, 50, 51, 52, 53, 54, 55, 56, 57, 97, 98, 99, 100, 101, 102]⟩ : ByteArray).extract ((ji11) : Int).toNat ((wrap64 ((ji11) + 1)) : Int).toNat).size + x3_1.size ≤ 9223372036854775807
          ·
           rw [if_pos c15] at H
           have c15b0 := eq_true c15
           have c15b1 : decide (((⟨#[48, 49, 50, 51, 52, 53, 54, 55, 56, 57, 97, 98, 99, 100, 101, 102]⟩ : ByteArray).extract ((ji11) : Int).toNat ((wrap64 ((ji11) + 1)) : Int).toNat).size + x3_1.size ≤ 9223372036854775807) = true := decide_eq_true c15
           try have c15b2 : (9223372036854775807 < ((⟨#[48, 49, 50, 51, 52, 53, 54, 55, 56, 57, 97, 98, 99, 100, 101, 102]⟩ : ByteArray).extract ((ji11) : Int).toNat ((wrap64 ((ji11) + 1)) : Int).toNat).size + x3_1.size) = False := eq_false (Nat.not_lt.2 c15)
           have H' := Aside0.mk H
           clear H
           go_wp2
           go_roundg kj1
           case measure => have := HK1.out; have := HJ1.out; omega
           case rel => exact ⟨(wrap64 (Int.tdiv x0_1 10)), (((⟨#[48, 49, 50, 51, 52, 53, 54, 55, 56, 57, 97, 98, 99, 100, 101, 102]⟩ : ByteArray).extract ((ji11) : Int).toNat ((wrap64 ((ji11) + 1)) : Int).toNat) ++ x3_1), (wrap64 (x5_1 + 1)), (by qr_), (by first | rfl | (simp; done) | (simp only [← hji11] <;> (first | rfl | simp)) | (simp [*]; done)), (by qr_), H', ⟨by have := HK1.out; have := HJ1.out; omega⟩, by qd_⟩
          ·
           rw [if_neg c15] at H
           exact absurd H (by simp)
         ·
          rw [if_neg c14] at H
          exact absurd H (by simp)
        ·
         rw [if_neg c13] at H
         exact absurd H (by simp)
       ·
        rw [if_neg c12] at H
        exact absurd H (by simp)
     ·
      replace c4 := Bool.eq_false_iff.mpr c4
      subst c4
      have H1 : (if (decide (a0 < 0)) = true then (if 1 + x3_1.size ≤ 9223372036854775807 then (some ((⟨#[45]⟩ : ByteArray) ++ x3_1)) else (none)) else (some x3_1)) = some r := by rw [if_neg (show ¬ (false = true) by decide)] at H; exact H
      clear H
      have H := H1
      clear H1
      by_cases c16 : (decide (a0 < 0)) = true
      ·
       rw [if_pos c16] at H
       have c16b0 : (decide (a0 < 0)) = true := c16
       have c16q : a0 < 0 := of_decide_eq_true c16b0
       clear c16
       by_cases c17 : 1 + x3_1.size ≤ 9223372036854775807
       ·
        rw [if_pos c17] at H
        have c17b0 := eq_true c17
        have c17b1 : decide (1 + x3_1.size ≤ 9223372036854775807) = true := decide_eq_true c17
        try have c17b2 : (9223372036854775807 < 1 + x3_1.size) = False := eq_false (Nat.not_lt.2 c17)
        obtain rfl := Option.some.inj H
        go_wp2
        go_ret
        exact ⟨by qr_, by qd_⟩
       ·
        rw [if_neg c17] at H
        exact absurd H (by simp)
      ·
       rw [if_neg c16] at H
       have c16b0 : (decide (a0 < 0)) = false := by simpa using c16
       have c16q : ¬ (a0 < 0) := of_decide_eq_false c16b0
       clear c16
       obtain rfl := Option.some.inj H
       go_wp2
       go_ret
       exact ⟨by qr_, by qd_⟩
def cofferref13_Word.f (k : Nat) (a0 : Int) : Option (ByteArray) := if a0 = 1 then (some (⟨#[114, 101, 97, 100]⟩ : ByteArray)) else (if a0 = 3 then (some (⟨#[97, 100, 100]⟩ : ByteArray)) else (if a0 = 7 then (some (⟨#[102, 117, 108, 108]⟩ : ByteArray)) else (if a0 = 15 then (some (⟨#[114, 117, 108, 101]⟩ : ByteArray)) else ((cofferref4_Print.f k (wrap64 (a0))).bind fun t280 => (some t280)))))
set_option maxHeartbeats 8000000 in
set_option maxRecDepth 100000 in
theorem cofferref13_Word.calls (k : Nat) (a0 : Int) (r : ByteArray) (w : World) (h : cofferref13_Word.f k a0 = some r) :
  Calls Tryd.prog 78 #[.int .u8 a0] w fun e w' => e = .returned (.string r) ∧ Drawn0 w w' := by
 have H : (if a0 = 1 then (some (⟨#[114, 101, 97, 100]⟩ : ByteArray)) else (if a0 = 3 then (some (⟨#[97, 100, 100]⟩ : ByteArray)) else (if a0 = 7 then (some (⟨#[102, 117, 108, 108]⟩ : ByteArray)) else (if a0 = 15 then (some (⟨#[114, 117, 108, 101]⟩ : ByteArray)) else ((cofferref4_Print.f k (wrap64 (a0))).bind fun t280 => (some t280)))))) = some r := h
 clear h
 by_cases c2 : a0 = 1
 ·
  rw [if_pos c2] at H
  have c2b0 : (a0 == 1) = true := beq_iff_eq.mpr c2
  have c2b1 : (a0 != 1) = false := bne_eq_false_iff_eq.mpr c2
  clear c2
  obtain rfl := Option.some.inj H
  go_enter Tryd.func78, Tryd.ntmps78
  go_wp2
  go_ret
  exact ⟨by qr_, by qd_⟩
 ·
  rw [if_neg c2] at H
  have c2b0 : (a0 == 1) = false := beq_eq_false_iff_ne.mpr c2
  have c2b1 : (a0 != 1) = true := bne_iff_ne.mpr c2
  by_cases c3 : a0 = 3
  ·
   rw [if_pos c3] at H
   have c3b0 : (a0 == 3) = true := beq_iff_eq.mpr c3
   have c3b1 : (a0 != 3) = false := bne_eq_false_iff_eq.mpr c3
   clear c3
   obtain rfl := Option.some.inj H
   go_enter Tryd.func78, Tryd.ntmps78
   go_wp2
   go_ret
   exact ⟨by qr_, by qd_⟩
  ·
   rw [if_neg c3] at H
   have c3b0 : (a0 == 3) = false := beq_eq_false_iff_ne.mpr c3
   have c3b1 : (a0 != 3) = true := bne_iff_ne.mpr c3
   by_cases c4 : a0 = 7
   ·
    rw [if_pos c4] at H
    have c4b0 : (a0 == 7) = true := beq_iff_eq.mpr c4
    have c4b1 : (a0 != 7) = false := bne_eq_false_iff_eq.mpr c4
    clear c4
    obtain rfl := Option.some.inj H
    go_enter Tryd.func78, Tryd.ntmps78
    go_wp2
    go_ret
    exact ⟨by qr_, by qd_⟩
   ·
    rw [if_neg c4] at H
    have c4b0 : (a0 == 7) = false := beq_eq_false_iff_ne.mpr c4
    have c4b1 : (a0 != 7) = true := bne_iff_ne.mpr c4
    by_cases c5 : a0 = 15
    ·
     rw [if_pos c5] at H
     have c5b0 : (a0 == 15) = true := beq_iff_eq.mpr c5
     have c5b1 : (a0 != 15) = false := bne_eq_false_iff_eq.mpr c5
     clear c5
     obtain rfl := Option.some.inj H
     go_enter Tryd.func78, Tryd.ntmps78
     go_wp2
     go_ret
     exact ⟨by qr_, by qd_⟩
    ·
     rw [if_neg c5] at H
     have c5b0 : (a0 == 15) = false := beq_eq_false_iff_ne.mpr c5
     have c5b1 : (a0 != 15) = true := bne_iff_ne.mpr c5
     replace H := Option.bind_eq_some_iff.mp H
     obtain ⟨t280, A60, H⟩ := H
     replace H : (some t280) = some r := H
     have A6 := Aside0.mk A60
     clear A60
     obtain rfl := Option.some.inj H
     go_enter Tryd.func78, Tryd.ntmps78
     go_wp2_with (first | ((with_reducible refine gate_callee (f := 77) rfl ?_); refine goesL_ (some 14) rfl rfl Tryd.func77 (by kernel_rfl) rfl #[.int .i64 (wrap64 (a0))] rfl (by qm_) ?_; (with_reducible refine (cofferref4_Print.calls k (wrap64 (a0)) t280 _ A6.out).mono ?_); rintro e w' ⟨rfl, ⟨nd, rfl⟩⟩; refine ⟨_, rfl, ?_⟩))
     go_ret
     exact ⟨by qr_, by qd_⟩
def cofferref13_Parse.l0 : Nat → ByteArray → Int → Option (Int × Int)
 | 0, _, _ => none
 | k + 1, x0, x4 => if x4 < 16 then ((cofferref4_Print.f k x4).bind fun t281 => (if x0.toList = t281.toList then (some ((x4) % 256, 0)) else ((cofferref13_Word.f k ((x4) % 256)).bind fun t282 => (if x0.toList = t282.toList then (some ((x4) % 256, 0)) else (cofferref13_Parse.l0 k x0 (wrap64 (x4 + 1))))))) else (some (0, 4))
def cofferref13_Parse.f (k : Nat) (a0 : ByteArray) : Option (Int × Int) := cofferref13_Parse.l0 k a0 0
set_option maxHeartbeats 8000000 in
set_option maxRecDepth 100000 in
theorem cofferref13_Parse.calls (k : Nat) (a0 : ByteArray) (r1 : Int) (r2 : Int) (w : World) (h : cofferref13_Parse.f k a0 = some (r1, r2)) :
  Calls Tryd.prog 69 #[.string a0] w fun e w' => e = .returned (.tuple #[.int .u8 r1, .int .i64 r2]) ∧ Drawn0 w w' := by
 have H : (cofferref13_Parse.l0 k a0 0) = some (r1, r2) := h
 clear h
 have H' := Aside0.mk H
 clear H
 go_enter Tryd.func69, Tryd.ntmps69
 go_wp2
 go_loopg [4] k (fun kq v4 w' => ∃ (x4_1 : Int), v4 = .int .i64 x4_1 ∧ Aside0 (cofferref13_Parse.l0 kq a0 x4_1 = some (r1, r2)) ∧ Aside0 (kq ≤ k) ∧ Drawn0 w w')
 case atStart => exact ⟨(0), (by qr_), H', ⟨Nat.le_refl _⟩, by qd_⟩
 case round =>
  clear H'
  obtain ⟨x4_1, rfl, HA, HK1, ⟨m1, rfl⟩⟩ := hrel
  cases gk with
  | zero => exact absurd HA.out (by simp [cofferref13_Parse.l0])
  | succ k1 =>
   have H := HA.out
   clear HA
   simp only [cofferref13_Parse.l0] at H
   by_cases c2 : x4_1 < 16
   ·
    rw [if_pos c2] at H
    have c2b0 : decide (x4_1 < 16) = true := decide_eq_true c2
    clear c2
    replace H := Option.bind_eq_some_iff.mp H
    obtain ⟨t281, A30, H⟩ := H
    replace H : (if a0.toList = t281.toList then (some ((x4_1) % 256, 0)) else ((cofferref13_Word.f k1 ((x4_1) % 256)).bind fun t282 => (if a0.toList = t282.toList then (some ((x4_1) % 256, 0)) else (cofferref13_Parse.l0 k1 a0 (wrap64 (x4_1 + 1)))))) = some (r1, r2) := H
    have A3 := Aside0.mk A30
    clear A30
    by_cases c4 : a0.toList = t281.toList
    ·
     rw [if_pos c4] at H
     have c4b0 : (a0.toList == t281.toList) = true := beq_iff_eq.mpr c4
     have c4b1 : (a0.toList != t281.toList) = false := bne_eq_false_iff_eq.mpr c4
     clear c4
     simp only [Option.some.injEq, Prod.mk.injEq] at H
     obtain ⟨rfl, rfl⟩ := H
     go_wp2_with (first | ((with_reducible refine gate_callee (f := 77) rfl ?_); refine goesL_ (some 11) rfl rfl Tryd.func77 (by kernel_rfl) rfl #[.int .i64 x4_1] rfl (by qm_) ?_; (with_reducible refine (cofferref4_Print.calls k1 x4_1 t281 _ A3.out).mono ?_); rintro e w' ⟨rfl, ⟨nd, rfl⟩⟩; refine ⟨_, rfl, ?_⟩))
     go_ret2
     exact ⟨by qr_, by qd_⟩
    ·
     rw [if_neg c4] at H
     have c4b0 : (a0.toList == t281.toList) = false := beq_eq_false_iff_ne.mpr c4
     have c4b1 : (a0.toList != t281.toList) = true := bne_iff_ne.mpr c4
     replace H := Option.bind_eq_some_iff.mp H
     obtain ⟨t282, A50, H⟩ := H
     replace H : (if a0.toList = t282.toList then (some ((x4_1) % 256, 0)) else (cofferref13_Parse.l0 k1 a0 (wrap64 (x4_1 + 1)))) = some (r1, r2) := H
     have A5 := Aside0.mk A50
     clear A50
     by_cases c6 : a0.toList = t282.toList
     ·
      rw [if_pos c6] at H
      have c6b0 : (a0.toList == t282.toList) = true := beq_iff_eq.mpr c6
      have c6b1 : (a0.toList != t282.toList) = false := bne_eq_false_iff_eq.mpr c6
      clear c6
      simp only [Option.some.injEq, Prod.mk.injEq] at H
      obtain ⟨rfl, rfl⟩ := H
      go_wp2_with (first | ((with_reducible refine gate_callee (f := 77) rfl ?_); refine goesL_ (some 11) rfl rfl Tryd.func77 (by kernel_rfl) rfl #[.int .i64 x4_1] rfl (by qm_) ?_; (with_reducible refine (cofferref4_Print.calls k1 x4_1 t281 _ A3.out).mono ?_); rintro e w' ⟨rfl, ⟨nd, rfl⟩⟩; refine ⟨_, rfl, ?_⟩) | (go_at_call 78; (with_reducible refine (cofferref13_Word.calls k1 ((x4_1) % 256) t282 _ A5.out).mono ?_); rintro e w' ⟨rfl, ⟨nd, rfl⟩⟩))
      go_ret2
      exact ⟨by qr_, by qd_⟩
     ·
      rw [if_neg c6] at H
      have c6b0 : (a0.toList == t282.toList) = false := beq_eq_false_iff_ne.mpr c6
      have c6b1 : (a0.toList != t282.toList) = true := bne_iff_ne.mpr c6
      have H' := Aside0.mk H
      clear H
      go_wp2_with (first | ((with_reducible refine gate_callee (f := 77) rfl ?_); refine goesL_ (some 11) rfl rfl Tryd.func77 (by kernel_rfl) rfl #[.int .i64 x4_1] rfl (by qm_) ?_; (with_reducible refine (cofferref4_Print.calls k1 x4_1 t281 _ A3.out).mono ?_); rintro e w' ⟨rfl, ⟨nd, rfl⟩⟩; refine ⟨_, rfl, ?_⟩) | (go_at_call 78; (with_reducible refine (cofferref13_Word.calls k1 ((x4_1) % 256) t282 _ A5.out).mono ?_); rintro e w' ⟨rfl, ⟨nd, rfl⟩⟩))
      go_roundg k1
      case measure => have := HK1.out; omega
      case rel => exact ⟨(wrap64 (x4_1 + 1)), (by qr_), H', ⟨by have := HK1.out; omega⟩, by qd_⟩
   ·
    rw [if_neg c2] at H
    have c2b0 : decide (x4_1 < 16) = false := decide_eq_false c2
    clear c2
    simp only [Option.some.injEq, Prod.mk.injEq] at H
    obtain ⟨rfl, rfl⟩ := H
    go_wp2
    go_ret2
    exact ⟨by qr_, by qd_⟩
-- NOT PRINTED: function 54 (cofferref26_value)
-- NOT PRINTED: function 30 (cofferref26_params)
-- NOT PRINTED: function 11 (cofferref26_To)
-- NOT PRINTED: function 12 (cofferlaw0_Kept)
-- NOT PRINTED: function 13 (cofferlaw0_Spoil)
-- NOT PRINTED: function 14 (cofferref26_Same)
-- NOT PRINTED: function 3 (cofferlaw26_RouteTo)
-- NOT PRINTED: function 4 (cofferlaw26_RouteTokens)
-- NOT PRINTED: function 5 (cofferlaw26_RouteBare)
def cofferlaw0_Place.f (a0 : Int) (a1 : Int) : Option (Int) := if a1 < 1 then (some 0) else (if a1 = 0 then (none) else (if (Int.tmod a0 a1) < 0 then (some (wrap64 ((Int.tmod a0 a1) + a1))) else (some (Int.tmod a0 a1))))
-- NOT PRINTED: function 6 (cofferlaw26_RouteRoads)
end Go.Proofs.YtnfimhdcpmakpaaDoor.S
