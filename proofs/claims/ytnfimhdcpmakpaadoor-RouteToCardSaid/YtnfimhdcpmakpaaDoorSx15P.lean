-- By wip/hook.py.
import Derived.Test.YtnfimhdcpmakpaaDoorSx0P
import Derived.Test.YtnfimhdcpmakpaaDoorSx14P
import Derived.Test.YtnfimhdcpmakpaaDoorSx10P
namespace Go.Proofs.YtnfimhdcpmakpaaDoor.S
open Go.RowKit Go.Proofs.YtnfimhdcpmakpaaDoorW.PrintWords Go.Proofs.YtnfimhdcpmakpaaDoorW.PrintLast Go.Proofs.YtnfimhdcpmakpaaDoorW.PrintMore
attribute [local go_sem] max2_int min2_int max_two min_two max_three min_three max_four min_four
set_option linter.unusedVariables false
set_option linter.unusedSimpArgs false
mutual
def cofferref21_Parse.j0 : Nat → ByteArray → Bool → Option (List ByteArray × (List (S91)) × Int)
 | 0, _, _ => none
 | k + 1, x0, x20 => if x20 = true then (some (([] : List ByteArray), ([] : List (S91)), 4)) else (if (x0.size : Int) = 1 then (cofferref21_Parse.j1 k x0 0 true) else (if 1 < (x0.size : Int) then (cofferref21_Parse.j1 k x0 0 ((bt x0 1) == 63)) else (none)))
def cofferref21_Parse.j1 : Nat → ByteArray → Int → Bool → Option (List ByteArray × (List (S91)) × Int)
 | 0, _, _, _ => none
 | k + 1, x0, x5, x29 => if x29 = true then (cofferref21_Parse.j2 k x0 1) else (cofferref21_Parse.j2 k x0 x5)
def cofferref21_Parse.j2 : Nat → ByteArray → Int → Option (List ByteArray × (List (S91)) × Int)
 | 0, _, _ => none
 | k + 1, x0, x5 => cofferref21_Parse.l0 k x0 x5 ([] : List ByteArray)
def cofferref21_Parse.l0 : Nat → ByteArray → Int → List ByteArray → Option (List ByteArray × (List (S91)) × Int)
 | 0, _, _, _ => none
 | k + 1, x0, x5, x263000 => if x5 < (x0.size : Int) then (if 0 ≤ x5 then (cofferref21_Parse.j4 k x0 x5 ((bt x0 x5) == 47) x263000) else (none)) else (cofferref21_Parse.j4 k x0 x5 false x263000)
def cofferref21_Parse.j4 : Nat → ByteArray → Int → Bool → List ByteArray → Option (List ByteArray × (List (S91)) × Int)
 | 0, _, _, _, _ => none
 | k + 1, x0, x5, x39, x263000 => if x39 = true then ((cofferref21_part.f k x0 (wrap64 (x5 + 1))).bind fun bt263 => (if bt263.2.2 = true then (if bt263.1.toList = ([] : List UInt8) then (some (([] : List ByteArray), ([] : List (S91)), 4)) else (if x263000.length < 8796093022208 then (cofferref21_Parse.l0 k x0 bt263.2.1 (x263000 ++ [bt263.1])) else (none))) else (some (([] : List ByteArray), ([] : List (S91)), 4)))) else (if x5 = (x0.size : Int) then (some (x263000, ([] : List (S91)), 0)) else (if 0 ≤ x5 then (if x5 < (x0.size : Int) then (if (bt x0 x5) = 63 then (cofferref21_Parse.l1 k x0 x5 x263000 ([] : List (S91))) else (some (([] : List ByteArray), ([] : List (S91)), 4))) else (none)) else (none)))
def cofferref21_Parse.l1 : Nat → ByteArray → Int → List ByteArray → List (S91) → Option (List ByteArray × (List (S91)) × Int)
 | 0, _, _, _, _ => none
 | k + 1, x0, x5, x263000, x263001 => (cofferref21_part.f k x0 (wrap64 (x5 + 1))).bind fun bt269 => (if bt269.2.2 = true then (if bt269.1.toList = ([] : List UInt8) then (cofferref21_Parse.j6 k x0 bt269.1 bt269.2.1 true x263000 x263001) else (if bt269.2.1 ≥ (x0.size : Int) then (cofferref21_Parse.j6 k x0 bt269.1 bt269.2.1 true x263000 x263001) else (if 0 ≤ bt269.2.1 then (if bt269.2.1 < (x0.size : Int) then (cofferref21_Parse.j6 k x0 bt269.1 bt269.2.1 ((bt x0 bt269.2.1) != 61) x263000 x263001) else (none)) else (none)))) else (cofferref21_Parse.j6 k x0 bt269.1 bt269.2.1 true x263000 x263001))
def cofferref21_Parse.j6 : Nat → ByteArray → ByteArray → Int → Bool → List ByteArray → List (S91) → Option (List ByteArray × (List (S91)) × Int)
 | 0, _, _, _, _, _, _ => none
 | k + 1, x0, x9, x10, x97, x263000, x263001 => if x97 = true then (some (([] : List ByteArray), ([] : List (S91)), 4)) else ((cofferref21_part.f k x0 (wrap64 (x10 + 1))).bind fun bt272 => (if bt272.2.2 = true then (if x263001.length < 4398046511104 then ((some (x263001 ++ [(⟨x9, bt272.1⟩ : S91)] : List (S91))).bind fun y275 => (if bt272.2.1 = (x0.size : Int) then ((cofferref21_May.f k x263000 y275).bind fun t278 => (if t278 = true then (some (x263000, y275, 0)) else (some (([] : List ByteArray), ([] : List (S91)), 6)))) else (if 0 ≤ bt272.2.1 then (if bt272.2.1 < (x0.size : Int) then (if (bt x0 bt272.2.1) = 38 then (cofferref21_Parse.l1 k x0 bt272.2.1 x263000 y275) else (some (([] : List ByteArray), ([] : List (S91)), 4))) else (none)) else (none)))) else (none)) else (some (([] : List ByteArray), ([] : List (S91)), 4))))
end
def cofferref21_Parse.f (k : Nat) (a0 : ByteArray) : Option (List ByteArray × (List (S91)) × Int) := if a0.toList = ([] : List UInt8) then (cofferref21_Parse.j0 k a0 true) else (if 0 < (a0.size : Int) then (cofferref21_Parse.j0 k a0 ((bt a0 0) != 47)) else (none))
set_option maxHeartbeats 8000000 in
set_option maxRecDepth 100000 in
theorem cofferref21_Parse.calls (k : Nat) (a0 : ByteArray) (r1 : List ByteArray) (r2 : List (S91)) (r3 : Int) (w : World) (h : cofferref21_Parse.f k a0 = some (r1, r2, r3)) :
  Calls Tryd.prog 25 #[.string a0] w fun e w' => ∃ v0_ v1_ : Value, e = .returned (.tuple #[.agg #[v0_, v1_], .int .i64 r3]) ∧ Kd.R Kd.string 9 w' w.heap.size (fun _ => True) v0_ r1 ∧ Kd.R k91 91 w' w.heap.size (fun _ => True) v1_ r2 ∧ Below w.heap.size w w' := by
 have hu51 := Tryd.underlying51
 have hu91 := Tryd.underlying91
 have HB := Aside0.mk (Below.refl w.heap.size w)
 have H : (if a0.toList = ([] : List UInt8) then (cofferref21_Parse.j0 k a0 true) else (if 0 < (a0.size : Int) then (cofferref21_Parse.j0 k a0 ((bt a0 0) != 47)) else (none))) = some (r1, r2, r3) := h
 clear h
 have HC2 := Aside0.mk H
 clear H
 go_enter Tryd.func25, Tryd.ntmps25
 go_upto_region 2 with (first | ((with_reducible refine gate_dst (N := 2) rfl ?_); (try (refine gate_guard (by rfl) ?_; dsimp only)); refine box_event ?hg (N := 2) ?hd (cs := #[.slice none 0 0, .slice none 0 0]) (t := 51) ?hr ?_; (case hd => rfl); (case hg => rfl); (case hr => first | (go_simp; done) | (go_simp; rfl)); intro gb261 hg w3 hbox hb; have n0_ := Aside0.mk (below_step (by qh_) hb); have n1_ := Aside0.mk (hbox); have n2_ := Aside0.mk ((by rw [hg]; exact (below_size (by qh_)) : w.heap.size ≤ gb261)); have n3_ := Aside0.mk ((by rw [hg]; exact (below_size (by qh_)) : w.heap.size ≤ gb261)); clear HB; have HB := n0_; have BK261 := n1_; have GW261 := n2_; have GE261 := n3_; clear n0_ n1_ n2_ n3_; clear hb hbox hg) | ((with_reducible refine gate_dst (N := 4) rfl ?_); (try (refine gate_guard (by rfl) ?_; dsimp only)); refine box_event ?hg (N := 4) ?hd (cs := #[.slice none 0 0, .slice none 0 0]) (t := 51) ?hr ?_; (case hd => rfl); (case hg => rfl); (case hr => first | (go_simp; done) | (go_simp; rfl)); intro gb262 hg w4 hbox hb; have n0_ := Aside0.mk (blk_below (g := gb261) (o := .cells #[.slice none 0 0, .slice none 0 0] 51 (0, 0)) (by qb_; exact BK261.out) hb); have n1_ := Aside0.mk (below_step (by repeat (first | (with_reducible first | qp_ | refine below_set ?_ GE261.out) | exact HB.out)) hb); have n2_ := Aside0.mk (hbox); have n3_ := Aside0.mk ((by rw [hg]; exact (below_size (by repeat (first | (with_reducible first | qp_ | refine below_set ?_ GE261.out) | exact HB.out))) : w.heap.size ≤ gb262)); have n4_ := Aside0.mk ((by rw [hg]; exact (below_size (by repeat (first | (with_reducible first | qp_ | refine below_set ?_ GE261.out) | exact HB.out))) : w.heap.size ≤ gb262)); have n5_ := Aside0.mk ((by rw [hg]; exact Nat.ne_of_lt (blk_lt (g := gb261) (o := .cells #[.slice none 0 0, .slice none 0 0] 51 (0, 0)) (by qb_; exact BK261.out)) : gb261 ≠ gb262)); have n6_ := Aside0.mk ((by rw [hg]; exact Nat.ne_of_gt (blk_lt (g := gb261) (o := .cells #[.slice none 0 0, .slice none 0 0] 51 (0, 0)) (by qb_; exact BK261.out)) : gb262 ≠ gb261)); clear BK261; clear HB; have BK261 := n0_; have HB := n1_; have BK262 := n2_; have GW262 := n3_; have GE262 := n4_; have NB261_262 := n5_; have NB262_261 := n6_; clear n0_ n1_ n2_ n3_ n4_ n5_ n6_; clear hb hbox hg))
 (try simp only [Act.put, List.setIfInBounds_toArray, List.set_cons_zero, List.set_cons_succ])
 go_cut [20] (fun v20 wc => ∃ (kq : Nat) (x20_1 : Bool), v20 = .bool x20_1 ∧ Aside0 (cofferref21_Parse.j0 kq a0 x20_1 = some (r1, r2, r3)) ∧ Aside0 (kq ≤ k) ∧ Aside0 (wc.heap[gb261]? = some (.cells #[(.slice none 0 0), (.slice none 0 0)] 51 (0, 0))) ∧ Aside0 (wc.heap[gb262]? = some (.cells #[(.slice none 0 0), (.slice none 0 0)] 51 (0, 0))) ∧ Aside0 (Below w.heap.size w wc))
 case first =>
  have H := HC2.out
  clear HC2
  by_cases c5 : a0.toList = ([] : List UInt8)
  ·
   rw [if_pos c5] at H
   have c5b0 : (a0.toList == ([] : List UInt8)) = true := beq_iff_eq.mpr c5
   have c5b1 : (a0.toList != ([] : List UInt8)) = false := bne_eq_false_iff_eq.mpr c5
   clear c5
   (first | rw [c5b0] | (simp only [i64_w, i32_w]; rw [c5b0]) | skip)
   have H' := Aside0.mk H
   clear H
   go_wp2
   go_meet
   case rel => exact ⟨_, (true), (by qr_), H', ⟨by first | omega | exact Nat.le_refl _⟩, ⟨by qb_; exact BK261.out⟩, ⟨by qb_; exact BK262.out⟩, ⟨by repeat (first | (with_reducible first | qp_ | refine below_set ?_ GE261.out | refine below_set ?_ GE262.out) | exact HB.out)⟩⟩
  ·
   rw [if_neg c5] at H
   have c5b0 : (a0.toList == ([] : List UInt8)) = false := beq_eq_false_iff_ne.mpr c5
   have c5b1 : (a0.toList != ([] : List UInt8)) = true := bne_iff_ne.mpr c5
   (first | rw [c5b0] | (simp only [i64_w, i32_w]; rw [c5b0]) | skip)
   by_cases c6 : 0 < (a0.size : Int)
   ·
    rw [if_pos c6] at H
    have c6b0 : decide (0 < (a0.size : Int)) = true := decide_eq_true c6
    have c6b1 : decide (0 < a0.size) = true := decide_eq_true (by omega)
    clear c6
    have H' := Aside0.mk H
    clear H
    have p7 : 0 ≤ (0 : Int) := (by omega)
    have q7 : 0 < a0.size := (by have : (0 : Int) < (a0.size : Int) := of_decide_eq_true (by qa_); omega)
    have hx7 : ∀ h : 0 < a0.size, ((a0[0]'h).toNat : Int) = bt a0 0 := bt_at a0 0
    clear p7
    have qi7 : (0 < (a0.size : Int)) = True := eq_true (of_decide_eq_true (by qa_))
    replace q7 := eq_true q7
    go_wp2
    go_meet
    case rel => exact ⟨_, (((bt a0 0) != 47)), (by qr_), H', ⟨by first | omega | exact Nat.le_refl _⟩, ⟨by qb_; exact BK261.out⟩, ⟨by qb_; exact BK262.out⟩, ⟨by repeat (first | (with_reducible first | qp_ | refine below_set ?_ GE261.out | refine below_set ?_ GE262.out) | exact HB.out)⟩⟩
   ·
    rw [if_neg c6] at H
    exact absurd H (by simp)
 case rest =>
  clear HC2
  try clear c2
  try clear p2
  try clear c5
  try clear c5b0
  try clear c5b1
  try clear c6
  try clear c6b0
  try clear c6b1
  try clear p7
  try clear q7
  try clear hx7
  try clear qi7
  try clear p7
  try clear q7
  obtain ⟨kq, x20_1, rfl, HA, HJ1, BK261, BK262, HB⟩ := hcut
  cases kq with
  | zero => exact absurd HA.out (by simp [cofferref21_Parse.j0])
  | succ kj1 =>
   have H := HA.out
   clear HA
   simp only [cofferref21_Parse.j0] at H
   by_cases c8 : x20_1 = true
   ·
    subst c8
    have H1 : (some (([] : List ByteArray), ([] : List (S91)), 4)) = some (r1, r2, r3) := by rw [if_pos rfl] at H; exact H
    clear H
    have H := H1
    clear H1
    simp only [Option.some.injEq, Prod.mk.injEq] at H
    obtain ⟨rfl, rfl, rfl⟩ := H
    have hnb9 := NB262_261.out
    have hnc9 := NB261_262.out
    have hcz10_0 : wc.cell? ⟨gb262, 0, none⟩ = some (.slice none 0 0) := (blk_cell BK262.out 0).trans rfl
    have hcz10_1 : wc.cell? ⟨gb262, 1, none⟩ = some (.slice none 0 0) := (blk_cell BK262.out 1).trans rfl
    have hfz10_0 := blk_frozen BK262.out 0
    have hfz10_1 := blk_frozen BK262.out 1
    have hcz11_0 : wc.cell? ⟨gb261, 0, none⟩ = some (.slice none 0 0) := (blk_cell BK261.out 0).trans rfl
    have hcz11_1 : wc.cell? ⟨gb261, 1, none⟩ = some (.slice none 0 0) := (blk_cell BK261.out 1).trans rfl
    have hfz11_0 := blk_frozen BK261.out 0
    have hfz11_1 := blk_frozen BK261.out 1
    go_wp2
    refine bodyPost_ret (results_ct rfl _ _ gb261 51 #[.slice none 0 0, .slice none 0 0] (0, 0) _ rfl (by qb_; refine blk_put (cs := #[.slice none 0 0, .slice none 0 0]) ?_ 1 _ rfl; qb_; refine blk_put (cs := #[.slice none 0 0, .slice none 0 0]) ?_ 0 _ rfl; qb_; exact BK261.out) Tryd.underlying51 rfl (by kernel_rfl)) rfl ?_
    exact ⟨_, _, by first | rfl | (simp [errW_none, errW_some] <;> rfl) | (simp [*, errW_none, errW_some] <;> rfl), by first | exact Kd.R_nil _ _ _ _ _ | exact Kd.N_nil _ _ _ _ _ | exact Kd.V_nil _ _ _ _ _ | exact Kd.Q_nil _ _ _ _ _ | exact Kd.S_nil _ _ _ _ _, by first | exact Kd.R_nil _ _ _ _ _ | exact Kd.N_nil _ _ _ _ _ | exact Kd.V_nil _ _ _ _ _ | exact Kd.Q_nil _ _ _ _ _ | exact Kd.S_nil _ _ _ _ _, by repeat (first | (with_reducible first | qp_ | refine below_set ?_ GE261.out | refine below_set ?_ GE262.out) | exact HB.out)⟩
   ·
    replace c8 := Bool.eq_false_iff.mpr c8
    subst c8
    have H1 : (if (a0.size : Int) = 1 then (cofferref21_Parse.j1 kj1 a0 0 true) else (if 1 < (a0.size : Int) then (cofferref21_Parse.j1 kj1 a0 0 ((bt a0 1) == 63)) else (none))) = some (r1, r2, r3) := by rw [if_neg (show ¬ (false = true) by decide)] at H; exact H
    clear H
    have H := H1
    clear H1
    have HC12 := Aside0.mk H
    clear H
    go_upto_region 5 with (fail)
    go_cut [29] (fun v29 wc => ∃ (kq : Nat) (x29_11 : Bool), v29 = .bool x29_11 ∧ Aside0 (cofferref21_Parse.j1 kq a0 0 x29_11 = some (r1, r2, r3)) ∧ Aside0 (kq ≤ kj1) ∧ Aside0 (wc.heap[gb261]? = some (.cells #[(.slice none 0 0), (.slice none 0 0)] 51 (0, 0))) ∧ Aside0 (wc.heap[gb262]? = some (.cells #[(.slice none 0 0), (.slice none 0 0)] 51 (0, 0))) ∧ Aside0 (Below w.heap.size w wc))
    case first =>
     have H := HC12.out
     clear HC12
     by_cases c13 : (a0.size : Int) = 1
     ·
      rw [if_pos c13] at H
      have c13b0 : ((a0.size : Int) == 1) = true := beq_iff_eq.mpr c13
      have c13b1 : ((a0.size : Int) != 1) = false := bne_eq_false_iff_eq.mpr c13
      clear c13
      (first | rw [c13b0] | (simp only [i64_w, i32_w]; rw [c13b0]) | skip)
      have H' := Aside0.mk H
      clear H
      go_wp2
      go_meet
      case rel => exact ⟨_, (true), (by qr_), H', ⟨by have := HJ1.out; first | omega | exact Nat.le_refl _⟩, ⟨by qb_; exact BK261.out⟩, ⟨by qb_; exact BK262.out⟩, ⟨by repeat (first | (with_reducible first | qp_ | refine below_set ?_ GE261.out | refine below_set ?_ GE262.out) | exact HB.out)⟩⟩
     ·
      rw [if_neg c13] at H
      have c13b0 : ((a0.size : Int) == 1) = false := beq_eq_false_iff_ne.mpr c13
      have c13b1 : ((a0.size : Int) != 1) = true := bne_iff_ne.mpr c13
      (first | rw [c13b0] | (simp only [i64_w, i32_w]; rw [c13b0]) | skip)
      by_cases c14 : 1 < (a0.size : Int)
      ·
       rw [if_pos c14] at H
       have c14b0 : decide (1 < (a0.size : Int)) = true := decide_eq_true c14
       have c14b1 : decide (1 < a0.size) = true := decide_eq_true (by omega)
       clear c14
       have H' := Aside0.mk H
       clear H
       have p15 : 0 ≤ (1 : Int) := (by omega)
       have q15 : 1 < a0.size := (by have : (1 : Int) < (a0.size : Int) := of_decide_eq_true (by qa_); omega)
       have hx15 : ∀ h : 1 < a0.size, ((a0[1]'h).toNat : Int) = bt a0 1 := bt_at a0 1
       clear p15
       have qi15 : (1 < (a0.size : Int)) = True := eq_true (of_decide_eq_true (by qa_))
       replace q15 := eq_true q15
       go_wp2
       go_meet
       case rel => exact ⟨_, (((bt a0 1) == 63)), (by qr_), H', ⟨by have := HJ1.out; first | omega | exact Nat.le_refl _⟩, ⟨by qb_; exact BK261.out⟩, ⟨by qb_; exact BK262.out⟩, ⟨by repeat (first | (with_reducible first | qp_ | refine below_set ?_ GE261.out | refine below_set ?_ GE262.out) | exact HB.out)⟩⟩
      ·
       rw [if_neg c14] at H
       exact absurd H (by simp)
    case rest =>
     clear HC12
     try clear c1
     try clear p1
     try clear q1
     try clear hx1
     try clear qi1
     try clear c2
     try clear p2
     try clear c5
     try clear c5b0
     try clear c5b1
     try clear c6
     try clear c6b0
     try clear c6b1
     try clear p7
     try clear q7
     try clear hx7
     try clear qi7
     try clear c8
     try clear c9
     try clear c13
     try clear c13b0
     try clear c13b1
     try clear c14
     try clear c14b0
     try clear c14b1
     try clear p15
     try clear q15
     try clear hx15
     try clear qi15
     try clear hcz10_0
     try clear hcz10_1
     try clear hcz11_0
     try clear hcz11_1
     try clear hfz10_0
     try clear hfz10_1
     try clear hfz11_0
     try clear hfz11_1
     try clear p15
     try clear p2
     try clear p7
     try clear q15
     try clear q7
     obtain ⟨kq, x29_11, rfl, HA, HJ11, BK261, BK262, HB⟩ := hcut
     cases kq with
     | zero => exact absurd HA.out (by simp [cofferref21_Parse.j1])
     | succ kj11 =>
      have H := HA.out
      clear HA
      simp only [cofferref21_Parse.j1] at H
      have HC16 := Aside0.mk H
      clear H
      go_upto_if 29 with (fail)
      go_cut [5] (fun v5 wc => ∃ (kq : Nat) (x5_15 : Int), v5 = .int .i64 x5_15 ∧ Aside0 (cofferref21_Parse.j2 kq a0 x5_15 = some (r1, r2, r3)) ∧ Aside0 (kq ≤ kj11) ∧ Aside0 (wc.heap[gb261]? = some (.cells #[(.slice none 0 0), (.slice none 0 0)] 51 (0, 0))) ∧ Aside0 (wc.heap[gb262]? = some (.cells #[(.slice none 0 0), (.slice none 0 0)] 51 (0, 0))) ∧ Aside0 (Below w.heap.size w wc))
      case first =>
       have H := HC16.out
       clear HC16
       by_cases c17 : x29_11 = true
       ·
        subst c17
        have H1 : (cofferref21_Parse.j2 kj11 a0 1) = some (r1, r2, r3) := by rw [if_pos rfl] at H; exact H
        clear H
        have H := H1
        clear H1
        have H' := Aside0.mk H
        clear H
        go_wp2
        go_meet
        case rel => exact ⟨_, (1), (by qr_), H', ⟨by have := HJ1.out; have := HJ11.out; first | omega | exact Nat.le_refl _⟩, ⟨by qb_; exact BK261.out⟩, ⟨by qb_; exact BK262.out⟩, ⟨by repeat (first | (with_reducible first | qp_ | refine below_set ?_ GE261.out | refine below_set ?_ GE262.out) | exact HB.out)⟩⟩
       ·
        replace c17 := Bool.eq_false_iff.mpr c17
        subst c17
        have H1 : (cofferref21_Parse.j2 kj11 a0 0) = some (r1, r2, r3) := by rw [if_neg (show ¬ (false = true) by decide)] at H; exact H
        clear H
        have H := H1
        clear H1
        have H' := Aside0.mk H
        clear H
        go_wp2
        go_meet
        case rel => exact ⟨_, (0), (by qr_), H', ⟨by have := HJ1.out; have := HJ11.out; first | omega | exact Nat.le_refl _⟩, ⟨by qb_; exact BK261.out⟩, ⟨by qb_; exact BK262.out⟩, ⟨by repeat (first | (with_reducible first | qp_ | refine below_set ?_ GE261.out | refine below_set ?_ GE262.out) | exact HB.out)⟩⟩
      case rest =>
       clear HC16
       try clear c1
       try clear p1
       try clear q1
       try clear hx1
       try clear qi1
       try clear c2
       try clear p2
       try clear c5
       try clear c5b0
       try clear c5b1
       try clear c6
       try clear c6b0
       try clear c6b1
       try clear p7
       try clear q7
       try clear hx7
       try clear qi7
       try clear c8
       try clear c9
       try clear c13
       try clear c13b0
       try clear c13b1
       try clear c14
       try clear c14b0
       try clear c14b1
       try clear p15
       try clear q15
       try clear hx15
       try clear qi15
       try clear c17
       try clear hcz10_0
       try clear hcz10_1
       try clear hcz11_0
       try clear hcz11_1
       try clear hfz10_0
       try clear hfz10_1
       try clear hfz11_0
       try clear hfz11_1
       try clear p1
       try clear p15
       try clear p2
       try clear p7
       try clear q1
       try clear q15
       try clear q7
       obtain ⟨kq, x5_15, rfl, HA, HJ15, BK261, BK262, HB⟩ := hcut
       cases kq with
       | zero => exact absurd HA.out (by simp [cofferref21_Parse.j2])
       | succ kj15 =>
        have H := HA.out
        clear HA
        simp only [cofferref21_Parse.j2] at H
        have H' := Aside0.mk H
        clear H
        go_wp2
        go_loopg [5] kj15 (fun kq v5 w' => ∃ (x5_4 : Int) (x263000_4 : List ByteArray) (u263000 : Value), v5 = .int .i64 x5_4 ∧ Aside0 (cofferref21_Parse.l0 kq a0 x5_4 x263000_4 = some (r1, r2, r3)) ∧ Aside0 (kq ≤ kj15) ∧ Aside0 (Kd.R Kd.string 9 w' w.heap.size (fun _ => True) u263000 x263000_4) ∧ Aside0 (w'.heap[gb261]? = some (.cells #[(.slice none 0 0), (.slice none 0 0)] 51 (0, 0))) ∧ Aside0 (w'.heap[gb262]? = some (.cells #[u263000, (.slice none 0 0)] 51 (0, 0))) ∧ Aside0 (Below w.heap.size w w'))
        case atStart => exact ⟨(x5_15), (([] : List ByteArray)), (.slice none 0 0), (by qr_), H', ⟨Nat.le_refl _⟩, ⟨by first | exact Kd.R_nil _ _ _ _ _ | exact Kd.N_nil _ _ _ _ _ | exact Kd.V_nil _ _ _ _ _ | exact Kd.Q_nil _ _ _ _ _ | exact Kd.S_nil _ _ _ _ _⟩, ⟨by qb_; exact BK261.out⟩, ⟨by qb_; exact BK262.out⟩, ⟨by repeat (first | (with_reducible first | qp_ | refine below_set ?_ GE261.out | refine below_set ?_ GE262.out) | exact HB.out)⟩⟩
        case round =>
         clear H'
         try clear c1
         try clear p1
         try clear q1
         try clear hx1
         try clear qi1
         try clear c2
         try clear p2
         try clear c5
         try clear c5b0
         try clear c5b1
         try clear c6
         try clear c6b0
         try clear c6b1
         try clear p7
         try clear q7
         try clear hx7
         try clear qi7
         try clear c8
         try clear c9
         try clear c13
         try clear c13b0
         try clear c13b1
         try clear c14
         try clear c14b0
         try clear c14b1
         try clear p15
         try clear q15
         try clear hx15
         try clear qi15
         try clear c17
         try clear hcz10_0
         try clear hcz10_1
         try clear hcz11_0
         try clear hcz11_1
         try clear hfz10_0
         try clear hfz10_1
         try clear hfz11_0
         try clear hfz11_1
         try clear p1
         try clear p15
         try clear p2
         try clear p7
         try clear q1
         try clear q15
         try clear q7
         obtain ⟨x5_4, x263000_4, u263000, rfl, HA, HK4, HO_263000, BK261, BK262, HB⟩ := hrel
         cases gk with
         | zero => exact absurd HA.out (by simp [cofferref21_Parse.l0])
         | succ k4 =>
          have H := HA.out
          clear HA
          simp only [cofferref21_Parse.l0] at H
          have HC18 := Aside0.mk H
          clear H
          go_upto_region 7 with (fail)
          go_cut [39] (fun v39 wc => ∃ (kq : Nat) (x39_17 : Bool), v39 = .bool x39_17 ∧ Aside0 (cofferref21_Parse.j4 kq a0 x5_4 x39_17 x263000_4 = some (r1, r2, r3)) ∧ Aside0 (kq ≤ k4) ∧ Aside0 (Kd.R Kd.string 9 wc w.heap.size (fun _ => True) u263000 x263000_4) ∧ Aside0 (wc.heap[gb261]? = some (.cells #[(.slice none 0 0), (.slice none 0 0)] 51 (0, 0))) ∧ Aside0 (wc.heap[gb262]? = some (.cells #[u263000, (.slice none 0 0)] 51 (0, 0))) ∧ Aside0 (Below w.heap.size w wc))
          case first =>
           have H := HC18.out
           clear HC18
           by_cases c19 : x5_4 < (a0.size : Int)
           ·
            rw [if_pos c19] at H
            have c19b0 : decide (x5_4 < (a0.size : Int)) = true := decide_eq_true c19
            clear c19
            (first | rw [c19b0] | (simp only [i64_w, i32_w]; rw [c19b0]) | skip)
            by_cases c20 : 0 ≤ x5_4
            ·
             rw [if_pos c20] at H
             have c20b0 : decide (0 ≤ x5_4) = true := decide_eq_true c20
             clear c20
             have H' := Aside0.mk H
             clear H
             have p21 : 0 ≤ (x5_4 : Int) := of_decide_eq_true (by qa_)
             have q21 : x5_4 < (a0.size : Int) := of_decide_eq_true (by qa_)
             have hx21 := bt_at a0 x5_4
             replace p21 := eq_true p21
             replace q21 := eq_true q21
             go_wp2
             go_meet
             case rel => exact ⟨_, (((bt a0 x5_4) == 47)), (by qr_), H', ⟨by have := HJ1.out; have := HJ11.out; have := HJ15.out; have := HK4.out; first | omega | exact Nat.le_refl _⟩, ⟨by qk_; exact HO_263000.out⟩, ⟨by qb_; exact BK261.out⟩, ⟨by qb_; exact BK262.out⟩, ⟨by repeat (first | (with_reducible first | qp_ | refine below_set ?_ GE261.out | refine below_set ?_ GE262.out) | exact HB.out)⟩⟩
            ·
             rw [if_neg c20] at H
             exact absurd H (by simp)
           ·
            rw [if_neg c19] at H
            have c19b0 : decide (x5_4 < (a0.size : Int)) = false := decide_eq_false c19
            clear c19
            (first | rw [c19b0] | (simp only [i64_w, i32_w]; rw [c19b0]) | skip)
            have H' := Aside0.mk H
            clear H
            go_wp2
            go_meet
            case rel => exact ⟨_, (false), (by qr_), H', ⟨by have := HJ1.out; have := HJ11.out; have := HJ15.out; have := HK4.out; first | omega | exact Nat.le_refl _⟩, ⟨by qk_; exact HO_263000.out⟩, ⟨by qb_; exact BK261.out⟩, ⟨by qb_; exact BK262.out⟩, ⟨by repeat (first | (with_reducible first | qp_ | refine below_set ?_ GE261.out | refine below_set ?_ GE262.out) | exact HB.out)⟩⟩
          case rest =>
           clear HC18
           try clear c1
           try clear p1
           try clear q1
           try clear hx1
           try clear qi1
           try clear c2
           try clear p2
           try clear q2
           try clear hx2
           try clear c5
           try clear c5b0
           try clear c5b1
           try clear c6
           try clear c6b0
           try clear c6b1
           try clear p7
           try clear q7
           try clear hx7
           try clear qi7
           try clear c8
           try clear c9
           try clear c13
           try clear c13b0
           try clear c13b1
           try clear c14
           try clear c14b0
           try clear c14b1
           try clear p15
           try clear q15
           try clear hx15
           try clear qi15
           try clear c17
           try clear c19
           try clear c19b0
           try clear c20
           try clear c20b0
           try clear p21
           try clear q21
           try clear hx21
           try clear hcz10_0
           try clear hcz10_1
           try clear hcz11_0
           try clear hcz11_1
           try clear hfz10_0
           try clear hfz10_1
           try clear hfz11_0
           try clear hfz11_1
           try clear p1
           try clear p15
           try clear p2
           try clear p21
           try clear p7
           try clear q1
           try clear q15
           try clear q21
           try clear q7
           obtain ⟨kq, x39_17, rfl, HA, HJ17, HO_263000, BK261, BK262, HB⟩ := hcut
           cases kq with
           | zero => exact absurd HA.out (by simp [cofferref21_Parse.j4])
           | succ kj17 =>
            have H := HA.out
            clear HA
            simp only [cofferref21_Parse.j4] at H
            by_cases c22 : x39_17 = true
            ·
             subst c22
             have H1 : ((cofferref21_part.f kj17 a0 (wrap64 (x5_4 + 1))).bind fun bt263 => (if bt263.2.2 = true then (if bt263.1.toList = ([] : List UInt8) then (some (([] : List ByteArray), ([] : List (S91)), 4)) else (if x263000_4.length < 8796093022208 then (cofferref21_Parse.l0 kj17 a0 bt263.2.1 (x263000_4 ++ [bt263.1])) else (none))) else (some (([] : List ByteArray), ([] : List (S91)), 4)))) = some (r1, r2, r3) := by rw [if_pos rfl] at H; exact H
             clear H
             have H := H1
             clear H1
             replace H := Option.bind_eq_some_iff.mp H
             obtain ⟨⟨t263, t264, t265⟩, A230, H⟩ := H
             replace H : (if t265 = true then (if t263.toList = ([] : List UInt8) then (some (([] : List ByteArray), ([] : List (S91)), 4)) else (if x263000_4.length < 8796093022208 then (cofferref21_Parse.l0 kj17 a0 t264 (x263000_4 ++ [t263])) else (none))) else (some (([] : List ByteArray), ([] : List (S91)), 4))) = some (r1, r2, r3) := H
             have A23 := Aside0.mk A230
             clear A230
             by_cases c24 : t265 = true
             ·
              subst c24
              have H1 : (if t263.toList = ([] : List UInt8) then (some (([] : List ByteArray), ([] : List (S91)), 4)) else (if x263000_4.length < 8796093022208 then (cofferref21_Parse.l0 kj17 a0 t264 (x263000_4 ++ [t263])) else (none))) = some (r1, r2, r3) := by rw [if_pos rfl] at H; exact H
              clear H
              have H := H1
              clear H1
              by_cases c25 : t263.toList = ([] : List UInt8)
              ·
               rw [if_pos c25] at H
               have c25b0 : (t263.toList == ([] : List UInt8)) = true := beq_iff_eq.mpr c25
               have c25b1 : (t263.toList != ([] : List UInt8)) = false := bne_eq_false_iff_eq.mpr c25
               clear c25
               simp only [Option.some.injEq, Prod.mk.injEq] at H
               obtain ⟨rfl, rfl, rfl⟩ := H
               go_wp2_with (first | ((with_reducible refine gate_callee (f := 46) rfl ?_); refine goesL_ (some 44) rfl rfl Tryd.func46 (by kernel_rfl) rfl #[.string a0, .int .i64 (wrap64 (x5_4 + 1))] rfl (by qm_) ?_; (with_reducible refine (cofferref21_part.calls kj17 a0 (wrap64 (x5_4 + 1)) t263 t264 true _ A23.out).mono ?_); rintro e w26 ⟨rfl, hb⟩; refine ⟨_, rfl, ?_⟩; have n0_ := Aside0.mk (Kd.R_below (by qk_; exact HO_263000.out) hb); have n1_ := Aside0.mk (blk_below (g := gb261) (o := .cells #[.slice none 0 0, .slice none 0 0] 51 (0, 0)) (by qb_; exact BK261.out) hb); have n2_ := Aside0.mk (blk_below (g := gb262) (o := .cells #[u263000, .slice none 0 0] 51 (0, 0)) (by qb_; exact BK262.out) hb); have n3_ := Aside0.mk (below_step (by repeat (first | (with_reducible first | qp_ | refine below_set ?_ GE261.out | refine below_set ?_ GE262.out) | exact HB.out)) hb); clear HO_263000; clear BK261; clear BK262; clear HB; have HO_263000 := n0_; have BK261 := n1_; have BK262 := n2_; have HB := n3_; clear n0_ n1_ n2_ n3_; (try clear hb); (try clear hb2); (try clear hk); (try clear hi); have hnb27 := NB261_262.out; have hnc27 := NB262_261.out; have hcz28_0 : w26.cell? ⟨gb261, 0, none⟩ = some (.slice none 0 0) := (blk_cell BK261.out 0).trans rfl; have hcz28_1 : w26.cell? ⟨gb261, 1, none⟩ = some (.slice none 0 0) := (blk_cell BK261.out 1).trans rfl; have hfz28_0 := blk_frozen BK261.out 0; have hfz28_1 := blk_frozen BK261.out 1))
               refine bodyPost_ret (results_ct rfl _ _ gb261 51 #[.slice none 0 0, .slice none 0 0] (0, 0) _ rfl (by qb_; refine blk_put (cs := #[.slice none 0 0, .slice none 0 0]) ?_ 1 _ rfl; qb_; refine blk_put (cs := #[.slice none 0 0, .slice none 0 0]) ?_ 0 _ rfl; qb_; exact BK261.out) Tryd.underlying51 rfl (by kernel_rfl)) rfl ?_
               exact ⟨_, _, by first | rfl | (simp [errW_none, errW_some] <;> rfl) | (simp [*, errW_none, errW_some] <;> rfl), by first | exact Kd.R_nil _ _ _ _ _ | exact Kd.N_nil _ _ _ _ _ | exact Kd.V_nil _ _ _ _ _ | exact Kd.Q_nil _ _ _ _ _ | exact Kd.S_nil _ _ _ _ _, by first | exact Kd.R_nil _ _ _ _ _ | exact Kd.N_nil _ _ _ _ _ | exact Kd.V_nil _ _ _ _ _ | exact Kd.Q_nil _ _ _ _ _ | exact Kd.S_nil _ _ _ _ _, by repeat (first | (with_reducible first | qp_ | refine below_set ?_ GE261.out | refine below_set ?_ GE262.out) | exact HB.out)⟩
              ·
               rw [if_neg c25] at H
               have c25b0 : (t263.toList == ([] : List UInt8)) = false := beq_eq_false_iff_ne.mpr c25
               have c25b1 : (t263.toList != ([] : List UInt8)) = true := bne_iff_ne.mpr c25
               by_cases c29 : x263000_4.length < 8796093022208
               ·
                rw [if_pos c29] at H
                have LMc29 := Aside0.mk c29
                clear c29
                obtain ⟨y266, hy266⟩ : ∃ y_ : List ByteArray, y_ = (x263000_4 ++ [t263]) := ⟨_, rfl⟩
                replace H : (cofferref21_Parse.l0 kj17 a0 t264 y266) = some (r1, r2, r3) := by first | (rw [hy266]; with_reducible exact H) | (have H2_ := (Option.bind_some _ _).symm.trans H; rw [hy266]; with_reducible exact H2_) | (have H2_ := (Option.bind_some _ _).symm.trans H; with_reducible exact H2_) | with_reducible exact H | (rw [hy266]; exact H) | exact H
                have Ny266 := Aside0.mk hy266
                clear hy266
                have H' := Aside0.mk H
                clear H
                go_wp2_with (first | ((with_reducible refine gate_callee (f := 46) rfl ?_); refine goesL_ (some 44) rfl rfl Tryd.func46 (by kernel_rfl) rfl #[.string a0, .int .i64 (wrap64 (x5_4 + 1))] rfl (by qm_) ?_; (with_reducible refine (cofferref21_part.calls kj17 a0 (wrap64 (x5_4 + 1)) t263 t264 true _ A23.out).mono ?_); rintro e w30 ⟨rfl, hb⟩; refine ⟨_, rfl, ?_⟩; have n0_ := Aside0.mk (Kd.R_below (by qk_; exact HO_263000.out) hb); have n1_ := Aside0.mk (blk_below (g := gb261) (o := .cells #[.slice none 0 0, .slice none 0 0] 51 (0, 0)) (by qb_; exact BK261.out) hb); have n2_ := Aside0.mk (blk_below (g := gb262) (o := .cells #[u263000, .slice none 0 0] 51 (0, 0)) (by qb_; exact BK262.out) hb); have n3_ := Aside0.mk (below_step (by repeat (first | (with_reducible first | qp_ | refine below_set ?_ GE261.out | refine below_set ?_ GE262.out) | exact HB.out)) hb); clear HO_263000; clear BK261; clear BK262; clear HB; have HO_263000 := n0_; have BK261 := n1_; have BK262 := n2_; have HB := n3_; clear n0_ n1_ n2_ n3_; (try clear hb); (try clear hb2); (try clear hk); (try clear hi); have hnb31 := NB262_261.out; have hnc31 := NB261_262.out; have hcz32_0 : w30.cell? ⟨gb262, 0, none⟩ = some (u263000) := (blk_cell BK262.out 0).trans rfl; have hcz32_1 : w30.cell? ⟨gb262, 1, none⟩ = some (.slice none 0 0) := (blk_cell BK262.out 1).trans rfl; have hfz32_0 := blk_frozen BK262.out 0; have hfz32_1 := blk_frozen BK262.out 1) | ((with_reducible refine gate_builtin (b := .append) (xs := #[.tmp 56, .tmp 58]) rfl ?_); (try (refine gate_guard (by rfl) ?_; dsimp only)); at_builtin; refine Kd.R_append Kd.string (w0 := w) w.heap.size rfl (.tmp 56) (.tmp 58) 39 9 (.string ⟨#[]⟩) 16 rfl Tryd.underlying39 info9 rfl (by decide) (by omega) u263000 x263000_4 t263 [.string t263] (fun _ => True) (fun _ => False) rfl rfl ?aP (fun _ hk => hk.elim) ?aF ?aO ?aB ?aS ?aL ?_; (case aP => exact rfl); (case aB => exact (by repeat (first | (with_reducible first | qp_ | refine below_set ?_ GE261.out | refine below_set ?_ GE262.out) | exact HB.out))); (case aF => exact (fun _ _ => trivial)); (case aO => exact (by qk_; exact HO_263000.out)); (case aS => exact (below_size (by repeat (first | (with_reducible first | qp_ | refine below_set ?_ GE261.out | refine below_set ?_ GE262.out) | exact HB.out)))); (case aL => have := LMc29.out; omega); intro v267 w33 ho hb hg hat; rw [← Ny266.out] at ho; have n0_ := Aside0.mk (blk_grown (g := gb261) (o := .cells #[.slice none 0 0, .slice none 0 0] 51 (0, 0)) (by qb_; exact BK261.out) hg (Kd.R_ne HO_263000.out BK261.out (by decide))); have n1_ := Aside0.mk (blk_grown (g := gb262) (o := .cells #[u263000, .slice none 0 0] 51 (0, 0)) (by qb_; exact BK262.out) hg (Kd.R_ne HO_263000.out BK262.out (by decide))); have n2_ := Aside0.mk (hb); have n3_ := Aside0.mk (ho); clear BK261; clear BK262; clear HB; clear HO_263000; have BK261 := n0_; have BK262 := n1_; have HB := n2_; have HO268 := n3_; clear n0_ n1_ n2_ n3_; clear ho hb hg hat; obtain ⟨Ao34, co34, eo34⟩ := Kd.R_slice HO268.out; subst eo34; have hcz35_0 : w33.cell? ⟨gb262, 0, none⟩ = some (u263000) := (blk_cell BK262.out 0).trans rfl; have hcz35_1 : w33.cell? ⟨gb262, 1, none⟩ = some (.slice none 0 0) := (blk_cell BK262.out 1).trans rfl; have hfz35_0 := blk_frozen BK262.out 0; have hfz35_1 := blk_frozen BK262.out 1))
                go_roundg kj17
                case measure => have := HJ1.out; have := HJ11.out; have := HJ15.out; have := HK4.out; have := HJ17.out; omega
                case rel => exact ⟨(t264), (y266), (.slice Ao34 y266.length co34), (by qr_), H', ⟨by have := HJ1.out; have := HJ11.out; have := HJ15.out; have := HK4.out; have := HJ17.out; omega⟩, ⟨by qk_; exact Kd.R_mono (Kd.R_far (p := ⟨gb262, 0, none⟩) (Kd.R_types HO268.out BK262.out (by decide)) (fun _ hk => hk.2) (.slice Ao34 y266.length co34)) (fun _ hk => trivial)⟩, ⟨by qb_; refine blk_far ?_ NB261_262.out _; qb_; exact BK261.out⟩, ⟨by qb_; refine blk_put (cs := #[u263000, .slice none 0 0]) ?_ 0 _ rfl; qb_; exact BK262.out⟩, ⟨by repeat (first | (with_reducible first | qp_ | refine below_set ?_ GE261.out | refine below_set ?_ GE262.out) | exact HB.out)⟩⟩
               ·
                rw [if_neg c29] at H
                exact absurd H (by simp)
             ·
              replace c24 := Bool.eq_false_iff.mpr c24
              subst c24
              have H1 : (some (([] : List ByteArray), ([] : List (S91)), 4)) = some (r1, r2, r3) := by rw [if_neg (show ¬ (false = true) by decide)] at H; exact H
              clear H
              have H := H1
              clear H1
              simp only [Option.some.injEq, Prod.mk.injEq] at H
              obtain ⟨rfl, rfl, rfl⟩ := H
              go_wp2_with (first | ((with_reducible refine gate_callee (f := 46) rfl ?_); refine goesL_ (some 44) rfl rfl Tryd.func46 (by kernel_rfl) rfl #[.string a0, .int .i64 (wrap64 (x5_4 + 1))] rfl (by qm_) ?_; (with_reducible refine (cofferref21_part.calls kj17 a0 (wrap64 (x5_4 + 1)) t263 t264 false _ A23.out).mono ?_); rintro e w36 ⟨rfl, hb⟩; refine ⟨_, rfl, ?_⟩; have n0_ := Aside0.mk (Kd.R_below (by qk_; exact HO_263000.out) hb); have n1_ := Aside0.mk (blk_below (g := gb261) (o := .cells #[.slice none 0 0, .slice none 0 0] 51 (0, 0)) (by qb_; exact BK261.out) hb); have n2_ := Aside0.mk (blk_below (g := gb262) (o := .cells #[u263000, .slice none 0 0] 51 (0, 0)) (by qb_; exact BK262.out) hb); have n3_ := Aside0.mk (below_step (by repeat (first | (with_reducible first | qp_ | refine below_set ?_ GE261.out | refine below_set ?_ GE262.out) | exact HB.out)) hb); clear HO_263000; clear BK261; clear BK262; clear HB; have HO_263000 := n0_; have BK261 := n1_; have BK262 := n2_; have HB := n3_; clear n0_ n1_ n2_ n3_; (try clear hb); (try clear hb2); (try clear hk); (try clear hi); have hnb37 := NB261_262.out; have hnc37 := NB262_261.out; have hcz38_0 : w36.cell? ⟨gb261, 0, none⟩ = some (.slice none 0 0) := (blk_cell BK261.out 0).trans rfl; have hcz38_1 : w36.cell? ⟨gb261, 1, none⟩ = some (.slice none 0 0) := (blk_cell BK261.out 1).trans rfl; have hfz38_0 := blk_frozen BK261.out 0; have hfz38_1 := blk_frozen BK261.out 1))
              refine bodyPost_ret (results_ct rfl _ _ gb261 51 #[.slice none 0 0, .slice none 0 0] (0, 0) _ rfl (by qb_; refine blk_put (cs := #[.slice none 0 0, .slice none 0 0]) ?_ 1 _ rfl; qb_; refine blk_put (cs := #[.slice none 0 0, .slice none 0 0]) ?_ 0 _ rfl; qb_; exact BK261.out) Tryd.underlying51 rfl (by kernel_rfl)) rfl ?_
              exact ⟨_, _, by first | rfl | (simp [errW_none, errW_some] <;> rfl) | (simp [*, errW_none, errW_some] <;> rfl), by first | exact Kd.R_nil _ _ _ _ _ | exact Kd.N_nil _ _ _ _ _ | exact Kd.V_nil _ _ _ _ _ | exact Kd.Q_nil _ _ _ _ _ | exact Kd.S_nil _ _ _ _ _, by first | exact Kd.R_nil _ _ _ _ _ | exact Kd.N_nil _ _ _ _ _ | exact Kd.V_nil _ _ _ _ _ | exact Kd.Q_nil _ _ _ _ _ | exact Kd.S_nil _ _ _ _ _, by repeat (first | (with_reducible first | qp_ | refine below_set ?_ GE261.out | refine below_set ?_ GE262.out) | exact HB.out)⟩
            ·
             replace c22 := Bool.eq_false_iff.mpr c22
             subst c22
             have H1 : (if x5_4 = (a0.size : Int) then (some (x263000_4, ([] : List (S91)), 0)) else (if 0 ≤ x5_4 then (if x5_4 < (a0.size : Int) then (if (bt a0 x5_4) = 63 then (cofferref21_Parse.l1 kj17 a0 x5_4 x263000_4 ([] : List (S91))) else (some (([] : List ByteArray), ([] : List (S91)), 4))) else (none)) else (none))) = some (r1, r2, r3) := by rw [if_neg (show ¬ (false = true) by decide)] at H; exact H
             clear H
             have H := H1
             clear H1
             by_cases c39 : x5_4 = (a0.size : Int)
             ·
              rw [if_pos c39] at H
              have c39b0 : (x5_4 == (a0.size : Int)) = true := beq_iff_eq.mpr c39
              have c39b1 : (x5_4 != (a0.size : Int)) = false := bne_eq_false_iff_eq.mpr c39
              clear c39
              simp only [Option.some.injEq, Prod.mk.injEq] at H
              obtain ⟨rfl, rfl, rfl⟩ := H
              have hnb40 := NB262_261.out
              have hnc40 := NB261_262.out
              have hcz41_0 : wc.cell? ⟨gb262, 0, none⟩ = some (u263000) := (blk_cell BK262.out 0).trans rfl
              have hcz41_1 : wc.cell? ⟨gb262, 1, none⟩ = some (.slice none 0 0) := (blk_cell BK262.out 1).trans rfl
              have hfz41_0 := blk_frozen BK262.out 0
              have hfz41_1 := blk_frozen BK262.out 1
              obtain ⟨Ao42, co42, eo42⟩ := Kd.R_slice HO_263000.out
              subst eo42
              have hcz43_0 : wc.cell? ⟨gb261, 0, none⟩ = some (.slice none 0 0) := (blk_cell BK261.out 0).trans rfl
              have hcz43_1 : wc.cell? ⟨gb261, 1, none⟩ = some (.slice none 0 0) := (blk_cell BK261.out 1).trans rfl
              have hfz43_0 := blk_frozen BK261.out 0
              have hfz43_1 := blk_frozen BK261.out 1
              go_wp2
              refine bodyPost_ret (results_ct rfl _ _ gb261 51 #[.slice Ao42 x263000_4.length co42, .slice none 0 0] (0, 0) _ rfl (by qb_; refine blk_put (cs := #[.slice Ao42 x263000_4.length co42, .slice none 0 0]) ?_ 1 _ rfl; qb_; refine blk_put (cs := #[.slice none 0 0, .slice none 0 0]) ?_ 0 _ rfl; qb_; exact BK261.out) Tryd.underlying51 rfl (by kernel_rfl)) rfl ?_
              exact ⟨_, _, by first | rfl | (simp [errW_none, errW_some] <;> rfl) | (simp [*, errW_none, errW_some] <;> rfl), by qk_; exact Kd.R_mono (Kd.R_far (p := ⟨gb261, 1, none⟩) (Kd.R_far (p := ⟨gb261, 0, none⟩) (Kd.R_types HO_263000.out BK261.out (by decide)) (fun _ hk => hk.2) (.slice Ao42 x263000_4.length co42)) (fun _ hk => hk.2) (.slice none 0 0)) (fun _ hk => trivial), by first | exact Kd.R_nil _ _ _ _ _ | exact Kd.N_nil _ _ _ _ _ | exact Kd.V_nil _ _ _ _ _ | exact Kd.Q_nil _ _ _ _ _ | exact Kd.S_nil _ _ _ _ _, by repeat (first | (with_reducible first | qp_ | refine below_set ?_ GE261.out | refine below_set ?_ GE262.out) | exact HB.out)⟩
             ·
              rw [if_neg c39] at H
              have c39b0 : (x5_4 == (a0.size : Int)) = false := beq_eq_false_iff_ne.mpr c39
              have c39b1 : (x5_4 != (a0.size : Int)) = true := bne_iff_ne.mpr c39
              by_cases c44 : 0 ≤ x5_4
              ·
               rw [if_pos c44] at H
               have c44b0 : decide (0 ≤ x5_4) = true := decide_eq_true c44
               clear c44
               by_cases c45 : x5_4 < (a0.size : Int)
               ·
                rw [if_pos c45] at H
                have c45b0 : decide (x5_4 < (a0.size : Int)) = true := decide_eq_true c45
                clear c45
                by_cases c47 : (bt a0 x5_4) = 63
                ·
                 rw [if_pos c47] at H
                 have c47b0 : ((bt a0 x5_4) == 63) = true := beq_iff_eq.mpr c47
                 have c47b1 : ((bt a0 x5_4) != 63) = false := bne_eq_false_iff_eq.mpr c47
                 clear c47
                 have H' := Aside0.mk H
                 clear H
                 have p46 : 0 ≤ (x5_4 : Int) := of_decide_eq_true (by qa_)
                 have q46 : x5_4 < (a0.size : Int) := of_decide_eq_true (by qa_)
                 have hx46 := bt_at a0 x5_4
                 replace p46 := eq_true p46
                 replace q46 := eq_true q46
                 go_wp2
                 go_loopg [5] kj17 (fun kq v5 w' => ∃ (x5_6 : Int) (x263001_6 : List (S91)) (u263001 : Value), v5 = .int .i64 x5_6 ∧ Aside0 (cofferref21_Parse.l1 kq a0 x5_6 x263000_4 x263001_6 = some (r1, r2, r3)) ∧ Aside0 (kq ≤ kj17) ∧ Aside0 (Kd.R Kd.string 9 w' w.heap.size (fun _ => True) u263000 x263000_4) ∧ Aside0 (Kd.R k91 91 w' w.heap.size (fun _ => True) u263001 x263001_6) ∧ Aside0 (w'.heap[gb261]? = some (.cells #[(.slice none 0 0), (.slice none 0 0)] 51 (0, 0))) ∧ Aside0 (w'.heap[gb262]? = some (.cells #[u263000, u263001] 51 (0, 0))) ∧ Aside0 (Below w.heap.size w w'))
                 case atStart => exact ⟨(x5_4), (([] : List (S91))), (.slice none 0 0), (by qr_), H', ⟨Nat.le_refl _⟩, ⟨by qk_; exact HO_263000.out⟩, ⟨by first | exact Kd.R_nil _ _ _ _ _ | exact Kd.N_nil _ _ _ _ _ | exact Kd.V_nil _ _ _ _ _ | exact Kd.Q_nil _ _ _ _ _ | exact Kd.S_nil _ _ _ _ _⟩, ⟨by qb_; exact BK261.out⟩, ⟨by qb_; exact BK262.out⟩, ⟨by repeat (first | (with_reducible first | qp_ | refine below_set ?_ GE261.out | refine below_set ?_ GE262.out) | exact HB.out)⟩⟩
                 case round =>
                  clear H'
                  try clear c1
                  try clear p1
                  try clear q1
                  try clear hx1
                  try clear qi1
                  try clear c2
                  try clear p2
                  try clear q2
                  try clear hx2
                  try clear c3
                  try clear c4
                  try clear p4
                  try clear q4
                  try clear hx4
                  try clear c5
                  try clear c5b0
                  try clear c5b1
                  try clear c6
                  try clear c6b0
                  try clear c6b1
                  try clear p6
                  try clear p7
                  try clear q7
                  try clear hx7
                  try clear qi7
                  try clear c8
                  try clear c9
                  try clear c13
                  try clear c13b0
                  try clear c13b1
                  try clear c14
                  try clear c14b0
                  try clear c14b1
                  try clear p15
                  try clear q15
                  try clear hx15
                  try clear qi15
                  try clear c17
                  try clear c19
                  try clear c19b0
                  try clear c20
                  try clear c20b0
                  try clear p21
                  try clear q21
                  try clear hx21
                  try clear c22
                  try clear c24
                  try clear c25
                  try clear c25b0
                  try clear c25b1
                  try clear c27
                  try clear c29
                  try clear c31
                  try clear c37
                  try clear c39
                  try clear c39b0
                  try clear c39b1
                  try clear c40
                  try clear c44
                  try clear c44b0
                  try clear c45
                  try clear c45b0
                  try clear c46
                  try clear p46
                  try clear q46
                  try clear hx46
                  try clear c47
                  try clear c47b0
                  try clear c47b1
                  try clear hcz10_0
                  try clear hcz10_1
                  try clear hcz11_0
                  try clear hcz11_1
                  try clear hcz28_0
                  try clear hcz28_1
                  try clear hcz32_0
                  try clear hcz32_1
                  try clear hcz35_0
                  try clear hcz35_1
                  try clear hcz38_0
                  try clear hcz38_1
                  try clear hcz41_0
                  try clear hcz41_1
                  try clear hcz43_0
                  try clear hcz43_1
                  try clear hfz10_0
                  try clear hfz10_1
                  try clear hfz11_0
                  try clear hfz11_1
                  try clear hfz28_0
                  try clear hfz28_1
                  try clear hfz32_0
                  try clear hfz32_1
                  try clear hfz35_0
                  try clear hfz35_1
                  try clear hfz38_0
                  try clear hfz38_1
                  try clear hfz41_0
                  try clear hfz41_1
                  try clear hfz43_0
                  try clear hfz43_1
                  try clear p1
                  try clear p15
                  try clear p2
                  try clear p21
                  try clear p46
                  try clear p7
                  try clear q1
                  try clear q15
                  try clear q2
                  try clear q21
                  try clear q46
                  try clear q7
                  obtain ⟨x5_6, x263001_6, u263001, rfl, HA, HK6, HO_263000, HO_263001, BK261, BK262, HB⟩ := hrel
                  cases gk with
                  | zero => exact absurd HA.out (by simp [cofferref21_Parse.l1])
                  | succ k6 =>
                   have H := HA.out
                   clear HA
                   simp only [cofferref21_Parse.l1] at H
                   replace H := Option.bind_eq_some_iff.mp H
                   obtain ⟨⟨t269, t270, t271⟩, A480, H⟩ := H
                   replace H : (if t271 = true then (if t269.toList = ([] : List UInt8) then (cofferref21_Parse.j6 k6 a0 t269 t270 true x263000_4 x263001_6) else (if t270 ≥ (a0.size : Int) then (cofferref21_Parse.j6 k6 a0 t269 t270 true x263000_4 x263001_6) else (if 0 ≤ t270 then (if t270 < (a0.size : Int) then (cofferref21_Parse.j6 k6 a0 t269 t270 ((bt a0 t270) != 61) x263000_4 x263001_6) else (none)) else (none)))) else (cofferref21_Parse.j6 k6 a0 t269 t270 true x263000_4 x263001_6)) = some (r1, r2, r3) := H
                   have A48 := Aside0.mk A480
                   clear A480
                   have HC49 := Aside0.mk H
                   clear H
                   go_upto_region 18 with (first | ((with_reducible refine gate_callee (f := 46) rfl ?_); refine goesL_ (some 76) rfl rfl Tryd.func46 (by kernel_rfl) rfl #[.string a0, .int .i64 (wrap64 (x5_6 + 1))] rfl (by qm_) ?_; (with_reducible refine (cofferref21_part.calls k6 a0 (wrap64 (x5_6 + 1)) t269 t270 t271 _ A48.out).mono ?_); rintro e w50 ⟨rfl, hb⟩; refine ⟨_, rfl, ?_⟩; have n0_ := Aside0.mk (Kd.R_below (by qk_; exact HO_263000.out) hb); have n1_ := Aside0.mk (Kd.R_below (by qk_; exact HO_263001.out) hb); have n2_ := Aside0.mk (blk_below (g := gb261) (o := .cells #[.slice none 0 0, .slice none 0 0] 51 (0, 0)) (by qb_; exact BK261.out) hb); have n3_ := Aside0.mk (blk_below (g := gb262) (o := .cells #[u263000, u263001] 51 (0, 0)) (by qb_; exact BK262.out) hb); have n4_ := Aside0.mk (below_step (by repeat (first | (with_reducible first | qp_ | refine below_set ?_ GE261.out | refine below_set ?_ GE262.out) | exact HB.out)) hb); clear HO_263000; clear HO_263001; clear BK261; clear BK262; clear HB; have HO_263000 := n0_; have HO_263001 := n1_; have BK261 := n2_; have BK262 := n3_; have HB := n4_; clear n0_ n1_ n2_ n3_ n4_; (try clear hb); (try clear hb2); (try clear hk); (try clear hi)))
                   (try simp only [Act.put, List.setIfInBounds_toArray, List.set_cons_zero, List.set_cons_succ])
                   go_cut [97] (fun v97 wc => ∃ (kq : Nat) (x97_48 : Bool), v97 = .bool x97_48 ∧ Aside0 (cofferref21_Parse.j6 kq a0 t269 t270 x97_48 x263000_4 x263001_6 = some (r1, r2, r3)) ∧ Aside0 (kq ≤ k6) ∧ Aside0 (Kd.R Kd.string 9 wc w.heap.size (fun _ => True) u263000 x263000_4) ∧ Aside0 (Kd.R k91 91 wc w.heap.size (fun _ => True) u263001 x263001_6) ∧ Aside0 (wc.heap[gb261]? = some (.cells #[(.slice none 0 0), (.slice none 0 0)] 51 (0, 0))) ∧ Aside0 (wc.heap[gb262]? = some (.cells #[u263000, u263001] 51 (0, 0))) ∧ Aside0 (Below w.heap.size w wc))
                   case first =>
                    have H := HC49.out
                    clear HC49
                    by_cases c51 : t271 = true
                    ·
                     subst c51
                     have H1 : (if t269.toList = ([] : List UInt8) then (cofferref21_Parse.j6 k6 a0 t269 t270 true x263000_4 x263001_6) else (if t270 ≥ (a0.size : Int) then (cofferref21_Parse.j6 k6 a0 t269 t270 true x263000_4 x263001_6) else (if 0 ≤ t270 then (if t270 < (a0.size : Int) then (cofferref21_Parse.j6 k6 a0 t269 t270 ((bt a0 t270) != 61) x263000_4 x263001_6) else (none)) else (none)))) = some (r1, r2, r3) := by rw [if_pos rfl] at H; exact H
                     clear H
                     have H := H1
                     clear H1
                     by_cases c52 : t269.toList = ([] : List UInt8)
                     ·
                      rw [if_pos c52] at H
                      have c52b0 : (t269.toList == ([] : List UInt8)) = true := beq_iff_eq.mpr c52
                      have c52b1 : (t269.toList != ([] : List UInt8)) = false := bne_eq_false_iff_eq.mpr c52
                      clear c52
                      (first | rw [c52b0] | (simp only [i64_w, i32_w]; rw [c52b0]) | skip)
                      have H' := Aside0.mk H
                      clear H
                      go_wp2
                      go_meet
                      case rel => exact ⟨_, (true), (by qr_), H', ⟨by have := HJ1.out; have := HJ11.out; have := HJ15.out; have := HK4.out; have := HJ17.out; have := HK6.out; first | omega | exact Nat.le_refl _⟩, ⟨by qk_; exact HO_263000.out⟩, ⟨by qk_; exact HO_263001.out⟩, ⟨by qb_; exact BK261.out⟩, ⟨by qb_; exact BK262.out⟩, ⟨by repeat (first | (with_reducible first | qp_ | refine below_set ?_ GE261.out | refine below_set ?_ GE262.out) | exact HB.out)⟩⟩
                     ·
                      rw [if_neg c52] at H
                      have c52b0 : (t269.toList == ([] : List UInt8)) = false := beq_eq_false_iff_ne.mpr c52
                      have c52b1 : (t269.toList != ([] : List UInt8)) = true := bne_iff_ne.mpr c52
                      (first | rw [c52b0] | (simp only [i64_w, i32_w]; rw [c52b0]) | skip)
                      by_cases c53 : t270 ≥ (a0.size : Int)
                      ·
                       rw [if_pos c53] at H
                       have c53b0 : decide ((a0.size : Int) ≤ t270) = true := decide_eq_true c53
                       clear c53
                       have H' := Aside0.mk H
                       clear H
                       go_wp2
                       go_meet
                       case rel => exact ⟨_, (true), (by qr_), H', ⟨by have := HJ1.out; have := HJ11.out; have := HJ15.out; have := HK4.out; have := HJ17.out; have := HK6.out; first | omega | exact Nat.le_refl _⟩, ⟨by qk_; exact HO_263000.out⟩, ⟨by qk_; exact HO_263001.out⟩, ⟨by qb_; exact BK261.out⟩, ⟨by qb_; exact BK262.out⟩, ⟨by repeat (first | (with_reducible first | qp_ | refine below_set ?_ GE261.out | refine below_set ?_ GE262.out) | exact HB.out)⟩⟩
                      ·
                       rw [if_neg c53] at H
                       have c53b0 : decide ((a0.size : Int) ≤ t270) = false := decide_eq_false c53
                       clear c53
                       by_cases c54 : 0 ≤ t270
                       ·
                        rw [if_pos c54] at H
                        have c54b0 : decide (0 ≤ t270) = true := decide_eq_true c54
                        clear c54
                        by_cases c55 : t270 < (a0.size : Int)
                        ·
                         rw [if_pos c55] at H
                         have c55b0 : decide (t270 < (a0.size : Int)) = true := decide_eq_true c55
                         clear c55
                         have H' := Aside0.mk H
                         clear H
                         have p56 : 0 ≤ (t270 : Int) := of_decide_eq_true (by qa_)
                         have q56 : t270 < (a0.size : Int) := of_decide_eq_true (by qa_)
                         have hx56 := bt_at a0 t270
                         replace p56 := eq_true p56
                         replace q56 := eq_true q56
                         go_wp2
                         go_meet
                         case rel => exact ⟨_, (((bt a0 t270) != 61)), (by qr_), H', ⟨by have := HJ1.out; have := HJ11.out; have := HJ15.out; have := HK4.out; have := HJ17.out; have := HK6.out; first | omega | exact Nat.le_refl _⟩, ⟨by qk_; exact HO_263000.out⟩, ⟨by qk_; exact HO_263001.out⟩, ⟨by qb_; exact BK261.out⟩, ⟨by qb_; exact BK262.out⟩, ⟨by repeat (first | (with_reducible first | qp_ | refine below_set ?_ GE261.out | refine below_set ?_ GE262.out) | exact HB.out)⟩⟩
                        ·
                         rw [if_neg c55] at H
                         exact absurd H (by simp)
                       ·
                        rw [if_neg c54] at H
                        exact absurd H (by simp)
                    ·
                     replace c51 := Bool.eq_false_iff.mpr c51
                     subst c51
                     have H1 : (cofferref21_Parse.j6 k6 a0 t269 t270 true x263000_4 x263001_6) = some (r1, r2, r3) := by rw [if_neg (show ¬ (false = true) by decide)] at H; exact H
                     clear H
                     have H := H1
                     clear H1
                     have H' := Aside0.mk H
                     clear H
                     go_wp2
                     go_meet
                     case rel => exact ⟨_, (true), (by qr_), H', ⟨by have := HJ1.out; have := HJ11.out; have := HJ15.out; have := HK4.out; have := HJ17.out; have := HK6.out; first | omega | exact Nat.le_refl _⟩, ⟨by qk_; exact HO_263000.out⟩, ⟨by qk_; exact HO_263001.out⟩, ⟨by qb_; exact BK261.out⟩, ⟨by qb_; exact BK262.out⟩, ⟨by repeat (first | (with_reducible first | qp_ | refine below_set ?_ GE261.out | refine below_set ?_ GE262.out) | exact HB.out)⟩⟩
                   case rest =>
                    clear HC49
                    try clear c1
                    try clear p1
                    try clear q1
                    try clear hx1
                    try clear qi1
                    try clear c2
                    try clear p2
                    try clear q2
                    try clear hx2
                    try clear c3
                    try clear c4
                    try clear p4
                    try clear q4
                    try clear hx4
                    try clear c5
                    try clear c5b0
                    try clear c5b1
                    try clear p5
                    try clear q5
                    try clear hx5
                    try clear c6
                    try clear c6b0
                    try clear c6b1
                    try clear p6
                    try clear p7
                    try clear q7
                    try clear hx7
                    try clear qi7
                    try clear c8
                    try clear c9
                    try clear c13
                    try clear c13b0
                    try clear c13b1
                    try clear c14
                    try clear c14b0
                    try clear c14b1
                    try clear p15
                    try clear q15
                    try clear hx15
                    try clear qi15
                    try clear c17
                    try clear c19
                    try clear c19b0
                    try clear c20
                    try clear c20b0
                    try clear p21
                    try clear q21
                    try clear hx21
                    try clear c22
                    try clear c24
                    try clear c25
                    try clear c25b0
                    try clear c25b1
                    try clear c27
                    try clear c29
                    try clear c31
                    try clear c37
                    try clear c39
                    try clear c39b0
                    try clear c39b1
                    try clear c40
                    try clear c44
                    try clear c44b0
                    try clear c45
                    try clear c45b0
                    try clear c46
                    try clear p46
                    try clear q46
                    try clear hx46
                    try clear c47
                    try clear c47b0
                    try clear c47b1
                    try clear c51
                    try clear c52
                    try clear c52b0
                    try clear c52b1
                    try clear c53
                    try clear c53b0
                    try clear c54
                    try clear c54b0
                    try clear c55
                    try clear c55b0
                    try clear p56
                    try clear q56
                    try clear hx56
                    try clear hcz10_0
                    try clear hcz10_1
                    try clear hcz11_0
                    try clear hcz11_1
                    try clear hcz28_0
                    try clear hcz28_1
                    try clear hcz32_0
                    try clear hcz32_1
                    try clear hcz35_0
                    try clear hcz35_1
                    try clear hcz38_0
                    try clear hcz38_1
                    try clear hcz41_0
                    try clear hcz41_1
                    try clear hcz43_0
                    try clear hcz43_1
                    try clear hfz10_0
                    try clear hfz10_1
                    try clear hfz11_0
                    try clear hfz11_1
                    try clear hfz28_0
                    try clear hfz28_1
                    try clear hfz32_0
                    try clear hfz32_1
                    try clear hfz35_0
                    try clear hfz35_1
                    try clear hfz38_0
                    try clear hfz38_1
                    try clear hfz41_0
                    try clear hfz41_1
                    try clear hfz43_0
                    try clear hfz43_1
                    try clear p1
                    try clear p15
                    try clear p2
                    try clear p21
                    try clear p4
                    try clear p46
                    try clear p56
                    try clear p6
                    try clear p7
                    try clear q1
                    try clear q15
                    try clear q2
                    try clear q21
                    try clear q4
                    try clear q46
                    try clear q56
                    try clear q7
                    obtain ⟨kq, x97_48, rfl, HA, HJ48, HO_263000, HO_263001, BK261, BK262, HB⟩ := hcut
                    cases kq with
                    | zero => exact absurd HA.out (by simp [cofferref21_Parse.j6])
                    | succ kj48 =>
                     have H := HA.out
                     clear HA
                     simp only [cofferref21_Parse.j6] at H
                     by_cases c57 : x97_48 = true
                     ·
                      subst c57
                      have H1 : (some (([] : List ByteArray), ([] : List (S91)), 4)) = some (r1, r2, r3) := by rw [if_pos rfl] at H; exact H
                      clear H
                      have H := H1
                      clear H1
                      simp only [Option.some.injEq, Prod.mk.injEq] at H
                      obtain ⟨rfl, rfl, rfl⟩ := H
                      have hnb58 := NB261_262.out
                      have hnc58 := NB262_261.out
                      have hcz59_0 : wc.cell? ⟨gb261, 0, none⟩ = some (.slice none 0 0) := (blk_cell BK261.out 0).trans rfl
                      have hcz59_1 : wc.cell? ⟨gb261, 1, none⟩ = some (.slice none 0 0) := (blk_cell BK261.out 1).trans rfl
                      have hfz59_0 := blk_frozen BK261.out 0
                      have hfz59_1 := blk_frozen BK261.out 1
                      go_wp2
                      refine bodyPost_ret (results_ct rfl _ _ gb261 51 #[.slice none 0 0, .slice none 0 0] (0, 0) _ rfl (by qb_; refine blk_put (cs := #[.slice none 0 0, .slice none 0 0]) ?_ 1 _ rfl; qb_; refine blk_put (cs := #[.slice none 0 0, .slice none 0 0]) ?_ 0 _ rfl; qb_; exact BK261.out) Tryd.underlying51 rfl (by kernel_rfl)) rfl ?_
                      exact ⟨_, _, by first | rfl | (simp [errW_none, errW_some] <;> rfl) | (simp [*, errW_none, errW_some] <;> rfl), by first | exact Kd.R_nil _ _ _ _ _ | exact Kd.N_nil _ _ _ _ _ | exact Kd.V_nil _ _ _ _ _ | exact Kd.Q_nil _ _ _ _ _ | exact Kd.S_nil _ _ _ _ _, by first | exact Kd.R_nil _ _ _ _ _ | exact Kd.N_nil _ _ _ _ _ | exact Kd.V_nil _ _ _ _ _ | exact Kd.Q_nil _ _ _ _ _ | exact Kd.S_nil _ _ _ _ _, by repeat (first | (with_reducible first | qp_ | refine below_set ?_ GE261.out | refine below_set ?_ GE262.out) | exact HB.out)⟩
                     ·
                      replace c57 := Bool.eq_false_iff.mpr c57
                      subst c57
                      have H1 : ((cofferref21_part.f kj48 a0 (wrap64 (t270 + 1))).bind fun bt272 => (if bt272.2.2 = true then (if x263001_6.length < 4398046511104 then ((some (x263001_6 ++ [(⟨t269, bt272.1⟩ : S91)] : List (S91))).bind fun y275 => (if bt272.2.1 = (a0.size : Int) then ((cofferref21_May.f kj48 x263000_4 y275).bind fun t278 => (if t278 = true then (some (x263000_4, y275, 0)) else (some (([] : List ByteArray), ([] : List (S91)), 6)))) else (if 0 ≤ bt272.2.1 then (if bt272.2.1 < (a0.size : Int) then (if (bt a0 bt272.2.1) = 38 then (cofferref21_Parse.l1 kj48 a0 bt272.2.1 x263000_4 y275) else (some (([] : List ByteArray), ([] : List (S91)), 4))) else (none)) else (none)))) else (none)) else (some (([] : List ByteArray), ([] : List (S91)), 4)))) = some (r1, r2, r3) := by rw [if_neg (show ¬ (false = true) by decide)] at H; exact H
                      clear H
                      have H := H1
                      clear H1
                      replace H := Option.bind_eq_some_iff.mp H
                      obtain ⟨⟨t272, t273, t274⟩, A600, H⟩ := H
                      replace H : (if t274 = true then (if x263001_6.length < 4398046511104 then ((some (x263001_6 ++ [(⟨t269, t272⟩ : S91)] : List (S91))).bind fun y275 => (if t273 = (a0.size : Int) then ((cofferref21_May.f kj48 x263000_4 y275).bind fun t278 => (if t278 = true then (some (x263000_4, y275, 0)) else (some (([] : List ByteArray), ([] : List (S91)), 6)))) else (if 0 ≤ t273 then (if t273 < (a0.size : Int) then (if (bt a0 t273) = 38 then (cofferref21_Parse.l1 kj48 a0 t273 x263000_4 y275) else (some (([] : List ByteArray), ([] : List (S91)), 4))) else (none)) else (none)))) else (none)) else (some (([] : List ByteArray), ([] : List (S91)), 4))) = some (r1, r2, r3) := H
                      have A60 := Aside0.mk A600
                      clear A600
                      by_cases c61 : t274 = true
                      ·
                       subst c61
                       have H1 : (if x263001_6.length < 4398046511104 then ((some (x263001_6 ++ [(⟨t269, t272⟩ : S91)] : List (S91))).bind fun y275 => (if t273 = (a0.size : Int) then ((cofferref21_May.f kj48 x263000_4 y275).bind fun t278 => (if t278 = true then (some (x263000_4, y275, 0)) else (some (([] : List ByteArray), ([] : List (S91)), 6)))) else (if 0 ≤ t273 then (if t273 < (a0.size : Int) then (if (bt a0 t273) = 38 then (cofferref21_Parse.l1 kj48 a0 t273 x263000_4 y275) else (some (([] : List ByteArray), ([] : List (S91)), 4))) else (none)) else (none)))) else (none)) = some (r1, r2, r3) := by rw [if_pos rfl] at H; exact H
                       clear H
                       have H := H1
                       clear H1
                       by_cases c62 : x263001_6.length < 4398046511104
                       ·
                        rw [if_pos c62] at H
                        have LMc62 := Aside0.mk c62
                        clear c62
                        obtain ⟨y275, hy275⟩ : ∃ y_ : List (S91), y_ = (x263001_6 ++ [(⟨t269, t272⟩ : S91)]) := ⟨_, rfl⟩
                        replace H : (if t273 = (a0.size : Int) then ((cofferref21_May.f kj48 x263000_4 y275).bind fun t278 => (if t278 = true then (some (x263000_4, y275, 0)) else (some (([] : List ByteArray), ([] : List (S91)), 6)))) else (if 0 ≤ t273 then (if t273 < (a0.size : Int) then (if (bt a0 t273) = 38 then (cofferref21_Parse.l1 kj48 a0 t273 x263000_4 y275) else (some (([] : List ByteArray), ([] : List (S91)), 4))) else (none)) else (none))) = some (r1, r2, r3) := by first | (rw [hy275]; with_reducible exact H) | (have H2_ := (Option.bind_some _ _).symm.trans H; rw [hy275]; with_reducible exact H2_) | (have H2_ := (Option.bind_some _ _).symm.trans H; with_reducible exact H2_) | with_reducible exact H | (rw [hy275]; exact H) | exact H
                        have Ny275 := Aside0.mk hy275
                        clear hy275
                        by_cases c63 : t273 = (a0.size : Int)
                        ·
                         rw [if_pos c63] at H
                         have c63b0 : (t273 == (a0.size : Int)) = true := beq_iff_eq.mpr c63
                         have c63b1 : (t273 != (a0.size : Int)) = false := bne_eq_false_iff_eq.mpr c63
                         clear c63
                         replace H := Option.bind_eq_some_iff.mp H
                         obtain ⟨t278, A640, H⟩ := H
                         replace H : (if t278 = true then (some (x263000_4, y275, 0)) else (some (([] : List ByteArray), ([] : List (S91)), 6))) = some (r1, r2, r3) := H
                         have A64 := Aside0.mk A640
                         clear A640
                         by_cases c65 : t278 = true
                         ·
                          subst c65
                          have H1 : (some (x263000_4, y275, 0)) = some (r1, r2, r3) := by rw [if_pos rfl] at H; exact H
                          clear H
                          have H := H1
                          clear H1
                          simp only [Option.some.injEq, Prod.mk.injEq] at H
                          obtain ⟨rfl, rfl, rfl⟩ := H
                          go_wp2_with (first | ((with_reducible refine gate_callee (f := 46) rfl ?_); refine goesL_ (some 103) rfl rfl Tryd.func46 (by kernel_rfl) rfl #[.string a0, .int .i64 (wrap64 (t270 + 1))] rfl (by qm_) ?_; (with_reducible refine (cofferref21_part.calls kj48 a0 (wrap64 (t270 + 1)) t272 t273 true _ A60.out).mono ?_); rintro e w66 ⟨rfl, hb⟩; refine ⟨_, rfl, ?_⟩; have n0_ := Aside0.mk (Kd.R_below (by qk_; exact HO_263000.out) hb); have n1_ := Aside0.mk (Kd.R_below (by qk_; exact HO_263001.out) hb); have n2_ := Aside0.mk (blk_below (g := gb261) (o := .cells #[.slice none 0 0, .slice none 0 0] 51 (0, 0)) (by qb_; exact BK261.out) hb); have n3_ := Aside0.mk (blk_below (g := gb262) (o := .cells #[u263000, u263001] 51 (0, 0)) (by qb_; exact BK262.out) hb); have n4_ := Aside0.mk (below_step (by repeat (first | (with_reducible first | qp_ | refine below_set ?_ GE261.out | refine below_set ?_ GE262.out) | exact HB.out)) hb); clear HO_263000; clear HO_263001; clear BK261; clear BK262; clear HB; have HO_263000 := n0_; have HO_263001 := n1_; have BK261 := n2_; have BK262 := n3_; have HB := n4_; clear n0_ n1_ n2_ n3_ n4_; (try clear hb); (try clear hb2); (try clear hk); (try clear hi); have hnb67 := NB262_261.out; have hnc67 := NB261_262.out; have hcz68_0 : w66.cell? ⟨gb262, 0, none⟩ = some (u263000) := (blk_cell BK262.out 0).trans rfl; have hcz68_1 : w66.cell? ⟨gb262, 1, none⟩ = some (u263001) := (blk_cell BK262.out 1).trans rfl; have hfz68_0 := blk_frozen BK262.out 0; have hfz68_1 := blk_frozen BK262.out 1) | ((with_reducible refine gate_builtin (b := .append) (xs := #[.tmp 111, .tmp 115]) rfl ?_); (try (refine gate_guard (by rfl) ?_; dsimp only)); at_builtin; refine Kd.R_append k91 (w0 := w) w.heap.size rfl (.tmp 111) (.tmp 115) 49 91 (.agg #[(.string ⟨#[]⟩), (.string ⟨#[]⟩)]) 32 rfl Tryd.underlying49 info91 rfl (by decide) (by omega) u263001 x263001_6 (⟨t269, t272⟩ : S91) [.string t269, .string t272] (fun _ => True) (fun _ => False) rfl rfl ?aP (fun _ hk => hk.elim) ?aF ?aO ?aB ?aS ?aL ?_; (case aP => exact k91_mkM _ _ _ (⟨t269, t272⟩ : S91)); (case aB => exact (by repeat (first | (with_reducible first | qp_ | refine below_set ?_ GE261.out | refine below_set ?_ GE262.out) | exact HB.out))); (case aF => exact (fun _ _ => trivial)); (case aO => exact (by qk_; exact HO_263001.out)); (case aS => exact (below_size (by repeat (first | (with_reducible first | qp_ | refine below_set ?_ GE261.out | refine below_set ?_ GE262.out) | exact HB.out)))); (case aL => have := LMc62.out; omega); intro v276 w69 ho hb hg hat; rw [← Ny275.out] at ho; have n0_ := Aside0.mk (Kd.R_over' (by qk_; exact HO_263000.out) (Kd.R_typed (by qk_; exact HO_263001.out)) (by decide) hg); have n1_ := Aside0.mk (blk_grown (g := gb261) (o := .cells #[.slice none 0 0, .slice none 0 0] 51 (0, 0)) (by qb_; exact BK261.out) hg (Kd.R_ne HO_263001.out BK261.out (by decide))); have n2_ := Aside0.mk (blk_grown (g := gb262) (o := .cells #[u263000, u263001] 51 (0, 0)) (by qb_; exact BK262.out) hg (Kd.R_ne HO_263001.out BK262.out (by decide))); have n3_ := Aside0.mk (hb); have n4_ := Aside0.mk (ho); clear HO_263000; clear BK261; clear BK262; clear HB; clear HO_263001; have HO_263000 := n0_; have BK261 := n1_; have BK262 := n2_; have HB := n3_; have HO277 := n4_; clear n0_ n1_ n2_ n3_ n4_; clear ho hb hg hat; obtain ⟨Ao70, co70, eo70⟩ := Kd.R_slice HO277.out; subst eo70; have hcz71_0 : w69.cell? ⟨gb262, 0, none⟩ = some (u263000) := (blk_cell BK262.out 0).trans rfl; have hcz71_1 : w69.cell? ⟨gb262, 1, none⟩ = some (u263001) := (blk_cell BK262.out 1).trans rfl; have hfz71_0 := blk_frozen BK262.out 0; have hfz71_1 := blk_frozen BK262.out 1; obtain ⟨Ao72, co72, eo72⟩ := Kd.R_slice HO_263000.out; subst eo72) | ((with_reducible refine gate_callee (f := 47) rfl ?_); refine goesL_ (some 129) rfl rfl Tryd.func47 (by kernel_rfl) rfl #[.agg #[.slice Ao72 x263000_4.length co72, .slice Ao70 y275.length co70]] rfl (by qm_) ?_; (with_reducible refine (cofferref21_May.calls kj48 _ _ x263000_4 _ _ y275 true _ ?side1 ?side2 ?side3 ?side4 A64.out).mono ?_); (case side1 => refine (Kd.R_reads' (e := 9) (base := w.heap.size) (ok := fun k_ => True) (n := x263000_4.length) (c := co72) ?_).2.2; exact (by qk_; exact (Kd.R_mono (Kd.R_far (p := ⟨gb262, 1, none⟩) (Kd.R_types HO_263000.out BK262.out (by decide)) (fun _ hk => hk.2) (.slice Ao70 y275.length co70)) (fun _ h_ => h_.1)))); (case side2 => exact (Kd.R_reads' HO_263000.out).2.1); (case side3 => refine (Kd.R_reads' (e := 91) (base := w.heap.size) (ok := fun k_ => True) (n := y275.length) (c := co70) ?_).2.2; exact (by qk_; exact (Kd.R_mono (Kd.R_far (p := ⟨gb262, 1, none⟩) (Kd.R_types HO277.out BK262.out (by decide)) (fun _ hk => hk.2) (.slice Ao70 y275.length co70)) (fun _ h_ => h_.1)))); (case side4 => exact (Kd.R_reads' HO277.out).2.1); rintro e w73 ⟨rfl, hb⟩; refine ⟨_, rfl, ?_⟩; have n0_ := Aside0.mk (Kd.R_below (by qk_; exact (Kd.R_mono (Kd.R_far (p := ⟨gb262, 1, none⟩) (Kd.R_types HO_263000.out BK262.out (by decide)) (fun _ hk => hk.2) (.slice Ao70 y275.length co70)) (fun _ h_ => h_.1))) hb); have n1_ := Aside0.mk (Kd.R_below (by qk_; exact (Kd.R_mono (Kd.R_far (p := ⟨gb262, 1, none⟩) (Kd.R_types HO277.out BK262.out (by decide)) (fun _ hk => hk.2) (.slice Ao70 y275.length co70)) (fun _ h_ => h_.1))) hb); have n2_ := Aside0.mk (blk_below (g := gb261) (o := .cells #[.slice none 0 0, .slice none 0 0] 51 (0, 0)) (by qb_; refine blk_far ?_ NB261_262.out _; qb_; exact BK261.out) hb); have n3_ := Aside0.mk (blk_below (g := gb262) (o := .cells #[.slice Ao72 x263000_4.length co72, .slice Ao70 y275.length co70] 51 (0, 0)) (by qb_; refine blk_put (cs := #[.slice Ao72 x263000_4.length co72, u263001]) ?_ 1 _ rfl; qb_; exact BK262.out) hb); have n4_ := Aside0.mk (below_step (by repeat (first | (with_reducible first | qp_ | refine below_set ?_ GE261.out | refine below_set ?_ GE262.out) | exact HB.out)) hb); clear HO_263000; clear HO277; clear BK261; clear BK262; clear HB; have HO_263000 := n0_; have HO277 := n1_; have BK261 := n2_; have BK262 := n3_; have HB := n4_; clear n0_ n1_ n2_ n3_ n4_; (try clear hb); (try clear hb2); (try clear hk); (try clear hi); have hcz74_0 : w73.cell? ⟨gb262, 0, none⟩ = some (.slice Ao72 x263000_4.length co72) := (blk_cell BK262.out 0).trans rfl; have hcz74_1 : w73.cell? ⟨gb262, 1, none⟩ = some (.slice Ao70 y275.length co70) := (blk_cell BK262.out 1).trans rfl; have hfz74_0 := blk_frozen BK262.out 0; have hfz74_1 := blk_frozen BK262.out 1; have hcz75_0 : w73.cell? ⟨gb261, 0, none⟩ = some (.slice none 0 0) := (blk_cell BK261.out 0).trans rfl; have hcz75_1 : w73.cell? ⟨gb261, 1, none⟩ = some (.slice none 0 0) := (blk_cell BK261.out 1).trans rfl; have hfz75_0 := blk_frozen BK261.out 0; have hfz75_1 := blk_frozen BK261.out 1))
                          refine bodyPost_ret (results_ct rfl _ _ gb261 51 #[.slice Ao72 x263000_4.length co72, .slice Ao70 y275.length co70] (0, 0) _ rfl (by qb_; refine blk_put (cs := #[.slice Ao72 x263000_4.length co72, .slice none 0 0]) ?_ 1 _ rfl; qb_; refine blk_put (cs := #[.slice none 0 0, .slice none 0 0]) ?_ 0 _ rfl; qb_; exact BK261.out) Tryd.underlying51 rfl (by kernel_rfl)) rfl ?_
                          exact ⟨_, _, by first | rfl | (simp [errW_none, errW_some] <;> rfl) | (simp [*, errW_none, errW_some] <;> rfl), by qk_; exact Kd.R_mono (Kd.R_far (p := ⟨gb261, 1, none⟩) (Kd.R_far (p := ⟨gb261, 0, none⟩) (Kd.R_types HO_263000.out BK261.out (by decide)) (fun _ hk => hk.2) (.slice Ao72 x263000_4.length co72)) (fun _ hk => hk.2) (.slice Ao70 y275.length co70)) (fun _ hk => trivial), by qk_; exact Kd.R_mono (Kd.R_far (p := ⟨gb261, 1, none⟩) (Kd.R_far (p := ⟨gb261, 0, none⟩) (Kd.R_types HO277.out BK261.out (by decide)) (fun _ hk => hk.2) (.slice Ao72 x263000_4.length co72)) (fun _ hk => hk.2) (.slice Ao70 y275.length co70)) (fun _ hk => trivial), by repeat (first | (with_reducible first | qp_ | refine below_set ?_ GE261.out | refine below_set ?_ GE262.out) | exact HB.out)⟩
                         ·
                          replace c65 := Bool.eq_false_iff.mpr c65
                          subst c65
                          have H1 : (some (([] : List ByteArray), ([] : List (S91)), 6)) = some (r1, r2, r3) := by rw [if_neg (show ¬ (false = true) by decide)] at H; exact H
                          clear H
                          have H := H1
                          clear H1
                          simp only [Option.some.injEq, Prod.mk.injEq] at H
                          obtain ⟨rfl, rfl, rfl⟩ := H
                          go_wp2_with (first | ((with_reducible refine gate_callee (f := 46) rfl ?_); refine goesL_ (some 103) rfl rfl Tryd.func46 (by kernel_rfl) rfl #[.string a0, .int .i64 (wrap64 (t270 + 1))] rfl (by qm_) ?_; (with_reducible refine (cofferref21_part.calls kj48 a0 (wrap64 (t270 + 1)) t272 t273 true _ A60.out).mono ?_); rintro e w76 ⟨rfl, hb⟩; refine ⟨_, rfl, ?_⟩; have n0_ := Aside0.mk (Kd.R_below (by qk_; exact HO_263000.out) hb); have n1_ := Aside0.mk (Kd.R_below (by qk_; exact HO_263001.out) hb); have n2_ := Aside0.mk (blk_below (g := gb261) (o := .cells #[.slice none 0 0, .slice none 0 0] 51 (0, 0)) (by qb_; exact BK261.out) hb); have n3_ := Aside0.mk (blk_below (g := gb262) (o := .cells #[u263000, u263001] 51 (0, 0)) (by qb_; exact BK262.out) hb); have n4_ := Aside0.mk (below_step (by repeat (first | (with_reducible first | qp_ | refine below_set ?_ GE261.out | refine below_set ?_ GE262.out) | exact HB.out)) hb); clear HO_263000; clear HO_263001; clear BK261; clear BK262; clear HB; have HO_263000 := n0_; have HO_263001 := n1_; have BK261 := n2_; have BK262 := n3_; have HB := n4_; clear n0_ n1_ n2_ n3_ n4_; (try clear hb); (try clear hb2); (try clear hk); (try clear hi); have hnb77 := NB262_261.out; have hnc77 := NB261_262.out; have hcz78_0 : w76.cell? ⟨gb262, 0, none⟩ = some (u263000) := (blk_cell BK262.out 0).trans rfl; have hcz78_1 : w76.cell? ⟨gb262, 1, none⟩ = some (u263001) := (blk_cell BK262.out 1).trans rfl; have hfz78_0 := blk_frozen BK262.out 0; have hfz78_1 := blk_frozen BK262.out 1) | ((with_reducible refine gate_builtin (b := .append) (xs := #[.tmp 111, .tmp 115]) rfl ?_); (try (refine gate_guard (by rfl) ?_; dsimp only)); at_builtin; refine Kd.R_append k91 (w0 := w) w.heap.size rfl (.tmp 111) (.tmp 115) 49 91 (.agg #[(.string ⟨#[]⟩), (.string ⟨#[]⟩)]) 32 rfl Tryd.underlying49 info91 rfl (by decide) (by omega) u263001 x263001_6 (⟨t269, t272⟩ : S91) [.string t269, .string t272] (fun _ => True) (fun _ => False) rfl rfl ?aP (fun _ hk => hk.elim) ?aF ?aO ?aB ?aS ?aL ?_; (case aP => exact k91_mkM _ _ _ (⟨t269, t272⟩ : S91)); (case aB => exact (by repeat (first | (with_reducible first | qp_ | refine below_set ?_ GE261.out | refine below_set ?_ GE262.out) | exact HB.out))); (case aF => exact (fun _ _ => trivial)); (case aO => exact (by qk_; exact HO_263001.out)); (case aS => exact (below_size (by repeat (first | (with_reducible first | qp_ | refine below_set ?_ GE261.out | refine below_set ?_ GE262.out) | exact HB.out)))); (case aL => have := LMc62.out; omega); intro v276 w79 ho hb hg hat; rw [← Ny275.out] at ho; have n0_ := Aside0.mk (Kd.R_over' (by qk_; exact HO_263000.out) (Kd.R_typed (by qk_; exact HO_263001.out)) (by decide) hg); have n1_ := Aside0.mk (blk_grown (g := gb261) (o := .cells #[.slice none 0 0, .slice none 0 0] 51 (0, 0)) (by qb_; exact BK261.out) hg (Kd.R_ne HO_263001.out BK261.out (by decide))); have n2_ := Aside0.mk (blk_grown (g := gb262) (o := .cells #[u263000, u263001] 51 (0, 0)) (by qb_; exact BK262.out) hg (Kd.R_ne HO_263001.out BK262.out (by decide))); have n3_ := Aside0.mk (hb); have n4_ := Aside0.mk (ho); clear HO_263000; clear BK261; clear BK262; clear HB; clear HO_263001; have HO_263000 := n0_; have BK261 := n1_; have BK262 := n2_; have HB := n3_; have HO277 := n4_; clear n0_ n1_ n2_ n3_ n4_; clear ho hb hg hat; obtain ⟨Ao80, co80, eo80⟩ := Kd.R_slice HO277.out; subst eo80; have hcz81_0 : w79.cell? ⟨gb262, 0, none⟩ = some (u263000) := (blk_cell BK262.out 0).trans rfl; have hcz81_1 : w79.cell? ⟨gb262, 1, none⟩ = some (u263001) := (blk_cell BK262.out 1).trans rfl; have hfz81_0 := blk_frozen BK262.out 0; have hfz81_1 := blk_frozen BK262.out 1; obtain ⟨Ao82, co82, eo82⟩ := Kd.R_slice HO_263000.out; subst eo82) | ((with_reducible refine gate_callee (f := 47) rfl ?_); refine goesL_ (some 129) rfl rfl Tryd.func47 (by kernel_rfl) rfl #[.agg #[.slice Ao82 x263000_4.length co82, .slice Ao80 y275.length co80]] rfl (by qm_) ?_; (with_reducible refine (cofferref21_May.calls kj48 _ _ x263000_4 _ _ y275 false _ ?side1 ?side2 ?side3 ?side4 A64.out).mono ?_); (case side1 => refine (Kd.R_reads' (e := 9) (base := w.heap.size) (ok := fun k_ => True) (n := x263000_4.length) (c := co82) ?_).2.2; exact (by qk_; exact (Kd.R_mono (Kd.R_far (p := ⟨gb262, 1, none⟩) (Kd.R_types HO_263000.out BK262.out (by decide)) (fun _ hk => hk.2) (.slice Ao80 y275.length co80)) (fun _ h_ => h_.1)))); (case side2 => exact (Kd.R_reads' HO_263000.out).2.1); (case side3 => refine (Kd.R_reads' (e := 91) (base := w.heap.size) (ok := fun k_ => True) (n := y275.length) (c := co80) ?_).2.2; exact (by qk_; exact (Kd.R_mono (Kd.R_far (p := ⟨gb262, 1, none⟩) (Kd.R_types HO277.out BK262.out (by decide)) (fun _ hk => hk.2) (.slice Ao80 y275.length co80)) (fun _ h_ => h_.1)))); (case side4 => exact (Kd.R_reads' HO277.out).2.1); rintro e w83 ⟨rfl, hb⟩; refine ⟨_, rfl, ?_⟩; have n0_ := Aside0.mk (Kd.R_below (by qk_; exact (Kd.R_mono (Kd.R_far (p := ⟨gb262, 1, none⟩) (Kd.R_types HO_263000.out BK262.out (by decide)) (fun _ hk => hk.2) (.slice Ao80 y275.length co80)) (fun _ h_ => h_.1))) hb); have n1_ := Aside0.mk (Kd.R_below (by qk_; exact (Kd.R_mono (Kd.R_far (p := ⟨gb262, 1, none⟩) (Kd.R_types HO277.out BK262.out (by decide)) (fun _ hk => hk.2) (.slice Ao80 y275.length co80)) (fun _ h_ => h_.1))) hb); have n2_ := Aside0.mk (blk_below (g := gb261) (o := .cells #[.slice none 0 0, .slice none 0 0] 51 (0, 0)) (by qb_; refine blk_far ?_ NB261_262.out _; qb_; exact BK261.out) hb); have n3_ := Aside0.mk (blk_below (g := gb262) (o := .cells #[.slice Ao82 x263000_4.length co82, .slice Ao80 y275.length co80] 51 (0, 0)) (by qb_; refine blk_put (cs := #[.slice Ao82 x263000_4.length co82, u263001]) ?_ 1 _ rfl; qb_; exact BK262.out) hb); have n4_ := Aside0.mk (below_step (by repeat (first | (with_reducible first | qp_ | refine below_set ?_ GE261.out | refine below_set ?_ GE262.out) | exact HB.out)) hb); clear HO_263000; clear HO277; clear BK261; clear BK262; clear HB; have HO_263000 := n0_; have HO277 := n1_; have BK261 := n2_; have BK262 := n3_; have HB := n4_; clear n0_ n1_ n2_ n3_ n4_; (try clear hb); (try clear hb2); (try clear hk); (try clear hi); have hcz84_0 : w83.cell? ⟨gb261, 0, none⟩ = some (.slice none 0 0) := (blk_cell BK261.out 0).trans rfl; have hcz84_1 : w83.cell? ⟨gb261, 1, none⟩ = some (.slice none 0 0) := (blk_cell BK261.out 1).trans rfl; have hfz84_0 := blk_frozen BK261.out 0; have hfz84_1 := blk_frozen BK261.out 1))
                          refine bodyPost_ret (results_ct rfl _ _ gb261 51 #[.slice none 0 0, .slice none 0 0] (0, 0) _ rfl (by qb_; refine blk_put (cs := #[.slice none 0 0, .slice none 0 0]) ?_ 1 _ rfl; qb_; refine blk_put (cs := #[.slice none 0 0, .slice none 0 0]) ?_ 0 _ rfl; qb_; exact BK261.out) Tryd.underlying51 rfl (by kernel_rfl)) rfl ?_
                          exact ⟨_, _, by first | rfl | (simp [errW_none, errW_some] <;> rfl) | (simp [*, errW_none, errW_some] <;> rfl), by first | exact Kd.R_nil _ _ _ _ _ | exact Kd.N_nil _ _ _ _ _ | exact Kd.V_nil _ _ _ _ _ | exact Kd.Q_nil _ _ _ _ _ | exact Kd.S_nil _ _ _ _ _, by first | exact Kd.R_nil _ _ _ _ _ | exact Kd.N_nil _ _ _ _ _ | exact Kd.V_nil _ _ _ _ _ | exact Kd.Q_nil _ _ _ _ _ | exact Kd.S_nil _ _ _ _ _, by repeat (first | (with_reducible first | qp_ | refine below_set ?_ GE261.out | refine below_set ?_ GE262.out) | exact HB.out)⟩
                        ·
                         rw [if_neg c63] at H
                         have c63b0 : (t273 == (a0.size : Int)) = false := beq_eq_false_iff_ne.mpr c63
                         have c63b1 : (t273 != (a0.size : Int)) = true := bne_iff_ne.mpr c63
                         by_cases c85 : 0 ≤ t273
                         ·
                          rw [if_pos c85] at H
                          have c85b0 : decide (0 ≤ t273) = true := decide_eq_true c85
                          clear c85
                          by_cases c86 : t273 < (a0.size : Int)
                          ·
                           rw [if_pos c86] at H
                           have c86b0 : decide (t273 < (a0.size : Int)) = true := decide_eq_true c86
                           clear c86
                           by_cases c88 : (bt a0 t273) = 38
                           ·
                            rw [if_pos c88] at H
                            have c88b0 : ((bt a0 t273) == 38) = true := beq_iff_eq.mpr c88
                            have c88b1 : ((bt a0 t273) != 38) = false := bne_eq_false_iff_eq.mpr c88
                            clear c88
                            have H' := Aside0.mk H
                            clear H
                            go_wp2_with (first | ((with_reducible refine gate_callee (f := 46) rfl ?_); refine goesL_ (some 103) rfl rfl Tryd.func46 (by kernel_rfl) rfl #[.string a0, .int .i64 (wrap64 (t270 + 1))] rfl (by qm_) ?_; (with_reducible refine (cofferref21_part.calls kj48 a0 (wrap64 (t270 + 1)) t272 t273 true _ A60.out).mono ?_); rintro e w89 ⟨rfl, hb⟩; refine ⟨_, rfl, ?_⟩; have n0_ := Aside0.mk (Kd.R_below (by qk_; exact HO_263000.out) hb); have n1_ := Aside0.mk (Kd.R_below (by qk_; exact HO_263001.out) hb); have n2_ := Aside0.mk (blk_below (g := gb261) (o := .cells #[.slice none 0 0, .slice none 0 0] 51 (0, 0)) (by qb_; exact BK261.out) hb); have n3_ := Aside0.mk (blk_below (g := gb262) (o := .cells #[u263000, u263001] 51 (0, 0)) (by qb_; exact BK262.out) hb); have n4_ := Aside0.mk (below_step (by repeat (first | (with_reducible first | qp_ | refine below_set ?_ GE261.out | refine below_set ?_ GE262.out) | exact HB.out)) hb); clear HO_263000; clear HO_263001; clear BK261; clear BK262; clear HB; have HO_263000 := n0_; have HO_263001 := n1_; have BK261 := n2_; have BK262 := n3_; have HB := n4_; clear n0_ n1_ n2_ n3_ n4_; (try clear hb); (try clear hb2); (try clear hk); (try clear hi); have hnb90 := NB262_261.out; have hnc90 := NB261_262.out; have hcz91_0 : w89.cell? ⟨gb262, 0, none⟩ = some (u263000) := (blk_cell BK262.out 0).trans rfl; have hcz91_1 : w89.cell? ⟨gb262, 1, none⟩ = some (u263001) := (blk_cell BK262.out 1).trans rfl; have hfz91_0 := blk_frozen BK262.out 0; have hfz91_1 := blk_frozen BK262.out 1) | ((with_reducible refine gate_builtin (b := .append) (xs := #[.tmp 111, .tmp 115]) rfl ?_); (try (refine gate_guard (by rfl) ?_; dsimp only)); at_builtin; refine Kd.R_append k91 (w0 := w) w.heap.size rfl (.tmp 111) (.tmp 115) 49 91 (.agg #[(.string ⟨#[]⟩), (.string ⟨#[]⟩)]) 32 rfl Tryd.underlying49 info91 rfl (by decide) (by omega) u263001 x263001_6 (⟨t269, t272⟩ : S91) [.string t269, .string t272] (fun _ => True) (fun _ => False) rfl rfl ?aP (fun _ hk => hk.elim) ?aF ?aO ?aB ?aS ?aL ?_; (case aP => exact k91_mkM _ _ _ (⟨t269, t272⟩ : S91)); (case aB => exact (by repeat (first | (with_reducible first | qp_ | refine below_set ?_ GE261.out | refine below_set ?_ GE262.out) | exact HB.out))); (case aF => exact (fun _ _ => trivial)); (case aO => exact (by qk_; exact HO_263001.out)); (case aS => exact (below_size (by repeat (first | (with_reducible first | qp_ | refine below_set ?_ GE261.out | refine below_set ?_ GE262.out) | exact HB.out)))); (case aL => have := LMc62.out; omega); intro v276 w92 ho hb hg hat; rw [← Ny275.out] at ho; have n0_ := Aside0.mk (Kd.R_over' (by qk_; exact HO_263000.out) (Kd.R_typed (by qk_; exact HO_263001.out)) (by decide) hg); have n1_ := Aside0.mk (blk_grown (g := gb261) (o := .cells #[.slice none 0 0, .slice none 0 0] 51 (0, 0)) (by qb_; exact BK261.out) hg (Kd.R_ne HO_263001.out BK261.out (by decide))); have n2_ := Aside0.mk (blk_grown (g := gb262) (o := .cells #[u263000, u263001] 51 (0, 0)) (by qb_; exact BK262.out) hg (Kd.R_ne HO_263001.out BK262.out (by decide))); have n3_ := Aside0.mk (hb); have n4_ := Aside0.mk (ho); clear HO_263000; clear BK261; clear BK262; clear HB; clear HO_263001; have HO_263000 := n0_; have BK261 := n1_; have BK262 := n2_; have HB := n3_; have HO277 := n4_; clear n0_ n1_ n2_ n3_ n4_; clear ho hb hg hat; obtain ⟨Ao93, co93, eo93⟩ := Kd.R_slice HO277.out; subst eo93; have hcz94_0 : w92.cell? ⟨gb262, 0, none⟩ = some (u263000) := (blk_cell BK262.out 0).trans rfl; have hcz94_1 : w92.cell? ⟨gb262, 1, none⟩ = some (u263001) := (blk_cell BK262.out 1).trans rfl; have hfz94_0 := blk_frozen BK262.out 0; have hfz94_1 := blk_frozen BK262.out 1; have p87 : 0 ≤ (t273 : Int) := of_decide_eq_true (by qa_); have q87 : t273 < (a0.size : Int) := of_decide_eq_true (by qa_); have hx87 := bt_at a0 t273; replace p87 := eq_true p87; replace q87 := eq_true q87))
                            go_roundg kj48
                            case measure => have := HJ1.out; have := HJ11.out; have := HJ15.out; have := HK4.out; have := HJ17.out; have := HK6.out; have := HJ48.out; omega
                            case rel => exact ⟨(t273), (y275), (.slice Ao93 y275.length co93), (by qr_), H', ⟨by have := HJ1.out; have := HJ11.out; have := HJ15.out; have := HK4.out; have := HJ17.out; have := HK6.out; have := HJ48.out; omega⟩, ⟨by qk_; exact Kd.R_mono (Kd.R_far (p := ⟨gb262, 1, none⟩) (Kd.R_types HO_263000.out BK262.out (by decide)) (fun _ hk => hk.2) (.slice Ao93 y275.length co93)) (fun _ hk => trivial)⟩, ⟨by qk_; exact Kd.R_mono (Kd.R_far (p := ⟨gb262, 1, none⟩) (Kd.R_types HO277.out BK262.out (by decide)) (fun _ hk => hk.2) (.slice Ao93 y275.length co93)) (fun _ hk => trivial)⟩, ⟨by qb_; refine blk_far ?_ NB261_262.out _; qb_; exact BK261.out⟩, ⟨by qb_; refine blk_put (cs := #[u263000, u263001]) ?_ 1 _ rfl; qb_; exact BK262.out⟩, ⟨by repeat (first | (with_reducible first | qp_ | refine below_set ?_ GE261.out | refine below_set ?_ GE262.out) | exact HB.out)⟩⟩
                           ·
                            rw [if_neg c88] at H
                            have c88b0 : ((bt a0 t273) == 38) = false := beq_eq_false_iff_ne.mpr c88
                            have c88b1 : ((bt a0 t273) != 38) = true := bne_iff_ne.mpr c88
                            simp only [Option.some.injEq, Prod.mk.injEq] at H
                            obtain ⟨rfl, rfl, rfl⟩ := H
                            go_wp2_with (first | ((with_reducible refine gate_callee (f := 46) rfl ?_); refine goesL_ (some 103) rfl rfl Tryd.func46 (by kernel_rfl) rfl #[.string a0, .int .i64 (wrap64 (t270 + 1))] rfl (by qm_) ?_; (with_reducible refine (cofferref21_part.calls kj48 a0 (wrap64 (t270 + 1)) t272 t273 true _ A60.out).mono ?_); rintro e w95 ⟨rfl, hb⟩; refine ⟨_, rfl, ?_⟩; have n0_ := Aside0.mk (Kd.R_below (by qk_; exact HO_263000.out) hb); have n1_ := Aside0.mk (Kd.R_below (by qk_; exact HO_263001.out) hb); have n2_ := Aside0.mk (blk_below (g := gb261) (o := .cells #[.slice none 0 0, .slice none 0 0] 51 (0, 0)) (by qb_; exact BK261.out) hb); have n3_ := Aside0.mk (blk_below (g := gb262) (o := .cells #[u263000, u263001] 51 (0, 0)) (by qb_; exact BK262.out) hb); have n4_ := Aside0.mk (below_step (by repeat (first | (with_reducible first | qp_ | refine below_set ?_ GE261.out | refine below_set ?_ GE262.out) | exact HB.out)) hb); clear HO_263000; clear HO_263001; clear BK261; clear BK262; clear HB; have HO_263000 := n0_; have HO_263001 := n1_; have BK261 := n2_; have BK262 := n3_; have HB := n4_; clear n0_ n1_ n2_ n3_ n4_; (try clear hb); (try clear hb2); (try clear hk); (try clear hi); have hnb96 := NB262_261.out; have hnc96 := NB261_262.out; have hcz97_0 : w95.cell? ⟨gb262, 0, none⟩ = some (u263000) := (blk_cell BK262.out 0).trans rfl; have hcz97_1 : w95.cell? ⟨gb262, 1, none⟩ = some (u263001) := (blk_cell BK262.out 1).trans rfl; have hfz97_0 := blk_frozen BK262.out 0; have hfz97_1 := blk_frozen BK262.out 1) | ((with_reducible refine gate_builtin (b := .append) (xs := #[.tmp 111, .tmp 115]) rfl ?_); (try (refine gate_guard (by rfl) ?_; dsimp only)); at_builtin; refine Kd.R_append k91 (w0 := w) w.heap.size rfl (.tmp 111) (.tmp 115) 49 91 (.agg #[(.string ⟨#[]⟩), (.string ⟨#[]⟩)]) 32 rfl Tryd.underlying49 info91 rfl (by decide) (by omega) u263001 x263001_6 (⟨t269, t272⟩ : S91) [.string t269, .string t272] (fun _ => True) (fun _ => False) rfl rfl ?aP (fun _ hk => hk.elim) ?aF ?aO ?aB ?aS ?aL ?_; (case aP => exact k91_mkM _ _ _ (⟨t269, t272⟩ : S91)); (case aB => exact (by repeat (first | (with_reducible first | qp_ | refine below_set ?_ GE261.out | refine below_set ?_ GE262.out) | exact HB.out))); (case aF => exact (fun _ _ => trivial)); (case aO => exact (by qk_; exact HO_263001.out)); (case aS => exact (below_size (by repeat (first | (with_reducible first | qp_ | refine below_set ?_ GE261.out | refine below_set ?_ GE262.out) | exact HB.out)))); (case aL => have := LMc62.out; omega); intro v276 w98 ho hb hg hat; rw [← Ny275.out] at ho; have n0_ := Aside0.mk (Kd.R_over' (by qk_; exact HO_263000.out) (Kd.R_typed (by qk_; exact HO_263001.out)) (by decide) hg); have n1_ := Aside0.mk (blk_grown (g := gb261) (o := .cells #[.slice none 0 0, .slice none 0 0] 51 (0, 0)) (by qb_; exact BK261.out) hg (Kd.R_ne HO_263001.out BK261.out (by decide))); have n2_ := Aside0.mk (blk_grown (g := gb262) (o := .cells #[u263000, u263001] 51 (0, 0)) (by qb_; exact BK262.out) hg (Kd.R_ne HO_263001.out BK262.out (by decide))); have n3_ := Aside0.mk (hb); have n4_ := Aside0.mk (ho); clear HO_263000; clear BK261; clear BK262; clear HB; clear HO_263001; have HO_263000 := n0_; have BK261 := n1_; have BK262 := n2_; have HB := n3_; have HO277 := n4_; clear n0_ n1_ n2_ n3_ n4_; clear ho hb hg hat; obtain ⟨Ao99, co99, eo99⟩ := Kd.R_slice HO277.out; subst eo99; have hcz100_0 : w98.cell? ⟨gb262, 0, none⟩ = some (u263000) := (blk_cell BK262.out 0).trans rfl; have hcz100_1 : w98.cell? ⟨gb262, 1, none⟩ = some (u263001) := (blk_cell BK262.out 1).trans rfl; have hfz100_0 := blk_frozen BK262.out 0; have hfz100_1 := blk_frozen BK262.out 1; have p87 : 0 ≤ (t273 : Int) := of_decide_eq_true (by qa_); have q87 : t273 < (a0.size : Int) := of_decide_eq_true (by qa_); have hx87 := bt_at a0 t273; replace p87 := eq_true p87; replace q87 := eq_true q87; have hcz101_0 : w98.cell? ⟨gb261, 0, none⟩ = some (.slice none 0 0) := (blk_cell BK261.out 0).trans rfl; have hcz101_1 : w98.cell? ⟨gb261, 1, none⟩ = some (.slice none 0 0) := (blk_cell BK261.out 1).trans rfl; have hfz101_0 := blk_frozen BK261.out 0; have hfz101_1 := blk_frozen BK261.out 1))
                            refine bodyPost_ret (results_ct rfl _ _ gb261 51 #[.slice none 0 0, .slice none 0 0] (0, 0) _ rfl (by qb_; refine blk_put (cs := #[.slice none 0 0, .slice none 0 0]) ?_ 1 _ rfl; qb_; refine blk_put (cs := #[.slice none 0 0, .slice none 0 0]) ?_ 0 _ rfl; qb_; refine blk_far ?_ NB261_262.out _; qb_; exact BK261.out) Tryd.underlying51 rfl (by kernel_rfl)) rfl ?_
                            exact ⟨_, _, by first | rfl | (simp [errW_none, errW_some] <;> rfl) | (simp [*, errW_none, errW_some] <;> rfl), by first | exact Kd.R_nil _ _ _ _ _ | exact Kd.N_nil _ _ _ _ _ | exact Kd.V_nil _ _ _ _ _ | exact Kd.Q_nil _ _ _ _ _ | exact Kd.S_nil _ _ _ _ _, by first | exact Kd.R_nil _ _ _ _ _ | exact Kd.N_nil _ _ _ _ _ | exact Kd.V_nil _ _ _ _ _ | exact Kd.Q_nil _ _ _ _ _ | exact Kd.S_nil _ _ _ _ _, by repeat (first | (with_reducible first | qp_ | refine below_set ?_ GE261.out | refine below_set ?_ GE262.out) | exact HB.out)⟩
                          ·
                           rw [if_neg c86] at H
                           exact absurd H (by simp)
                         ·
                          rw [if_neg c85] at H
                          exact absurd H (by simp)
                       ·
                        rw [if_neg c62] at H
                        exact absurd H (by simp)
                      ·
                       replace c61 := Bool.eq_false_iff.mpr c61
                       subst c61
                       have H1 : (some (([] : List ByteArray), ([] : List (S91)), 4)) = some (r1, r2, r3) := by rw [if_neg (show ¬ (false = true) by decide)] at H; exact H
                       clear H
                       have H := H1
                       clear H1
                       simp only [Option.some.injEq, Prod.mk.injEq] at H
                       obtain ⟨rfl, rfl, rfl⟩ := H
                       go_wp2_with (first | ((with_reducible refine gate_callee (f := 46) rfl ?_); refine goesL_ (some 103) rfl rfl Tryd.func46 (by kernel_rfl) rfl #[.string a0, .int .i64 (wrap64 (t270 + 1))] rfl (by qm_) ?_; (with_reducible refine (cofferref21_part.calls kj48 a0 (wrap64 (t270 + 1)) t272 t273 false _ A60.out).mono ?_); rintro e w102 ⟨rfl, hb⟩; refine ⟨_, rfl, ?_⟩; have n0_ := Aside0.mk (Kd.R_below (by qk_; exact HO_263000.out) hb); have n1_ := Aside0.mk (Kd.R_below (by qk_; exact HO_263001.out) hb); have n2_ := Aside0.mk (blk_below (g := gb261) (o := .cells #[.slice none 0 0, .slice none 0 0] 51 (0, 0)) (by qb_; exact BK261.out) hb); have n3_ := Aside0.mk (blk_below (g := gb262) (o := .cells #[u263000, u263001] 51 (0, 0)) (by qb_; exact BK262.out) hb); have n4_ := Aside0.mk (below_step (by repeat (first | (with_reducible first | qp_ | refine below_set ?_ GE261.out | refine below_set ?_ GE262.out) | exact HB.out)) hb); clear HO_263000; clear HO_263001; clear BK261; clear BK262; clear HB; have HO_263000 := n0_; have HO_263001 := n1_; have BK261 := n2_; have BK262 := n3_; have HB := n4_; clear n0_ n1_ n2_ n3_ n4_; (try clear hb); (try clear hb2); (try clear hk); (try clear hi); have hnb103 := NB261_262.out; have hnc103 := NB262_261.out; have hcz104_0 : w102.cell? ⟨gb261, 0, none⟩ = some (.slice none 0 0) := (blk_cell BK261.out 0).trans rfl; have hcz104_1 : w102.cell? ⟨gb261, 1, none⟩ = some (.slice none 0 0) := (blk_cell BK261.out 1).trans rfl; have hfz104_0 := blk_frozen BK261.out 0; have hfz104_1 := blk_frozen BK261.out 1))
                       refine bodyPost_ret (results_ct rfl _ _ gb261 51 #[.slice none 0 0, .slice none 0 0] (0, 0) _ rfl (by qb_; refine blk_put (cs := #[.slice none 0 0, .slice none 0 0]) ?_ 1 _ rfl; qb_; refine blk_put (cs := #[.slice none 0 0, .slice none 0 0]) ?_ 0 _ rfl; qb_; exact BK261.out) Tryd.underlying51 rfl (by kernel_rfl)) rfl ?_
                       exact ⟨_, _, by first | rfl | (simp [errW_none, errW_some] <;> rfl) | (simp [*, errW_none, errW_some] <;> rfl), by first | exact Kd.R_nil _ _ _ _ _ | exact Kd.N_nil _ _ _ _ _ | exact Kd.V_nil _ _ _ _ _ | exact Kd.Q_nil _ _ _ _ _ | exact Kd.S_nil _ _ _ _ _, by first | exact Kd.R_nil _ _ _ _ _ | exact Kd.N_nil _ _ _ _ _ | exact Kd.V_nil _ _ _ _ _ | exact Kd.Q_nil _ _ _ _ _ | exact Kd.S_nil _ _ _ _ _, by repeat (first | (with_reducible first | qp_ | refine below_set ?_ GE261.out | refine below_set ?_ GE262.out) | exact HB.out)⟩
                ·
                 rw [if_neg c47] at H
                 have c47b0 : ((bt a0 x5_4) == 63) = false := beq_eq_false_iff_ne.mpr c47
                 have c47b1 : ((bt a0 x5_4) != 63) = true := bne_iff_ne.mpr c47
                 simp only [Option.some.injEq, Prod.mk.injEq] at H
                 obtain ⟨rfl, rfl, rfl⟩ := H
                 have p46 : 0 ≤ (x5_4 : Int) := of_decide_eq_true (by qa_)
                 have q46 : x5_4 < (a0.size : Int) := of_decide_eq_true (by qa_)
                 have hx46 := bt_at a0 x5_4
                 replace p46 := eq_true p46
                 replace q46 := eq_true q46
                 have hnb105 := NB261_262.out
                 have hnc105 := NB262_261.out
                 have hcz106_0 : wc.cell? ⟨gb261, 0, none⟩ = some (.slice none 0 0) := (blk_cell BK261.out 0).trans rfl
                 have hcz106_1 : wc.cell? ⟨gb261, 1, none⟩ = some (.slice none 0 0) := (blk_cell BK261.out 1).trans rfl
                 have hfz106_0 := blk_frozen BK261.out 0
                 have hfz106_1 := blk_frozen BK261.out 1
                 go_wp2
                 refine bodyPost_ret (results_ct rfl _ _ gb261 51 #[.slice none 0 0, .slice none 0 0] (0, 0) _ rfl (by qb_; refine blk_put (cs := #[.slice none 0 0, .slice none 0 0]) ?_ 1 _ rfl; qb_; refine blk_put (cs := #[.slice none 0 0, .slice none 0 0]) ?_ 0 _ rfl; qb_; exact BK261.out) Tryd.underlying51 rfl (by kernel_rfl)) rfl ?_
                 exact ⟨_, _, by first | rfl | (simp [errW_none, errW_some] <;> rfl) | (simp [*, errW_none, errW_some] <;> rfl), by first | exact Kd.R_nil _ _ _ _ _ | exact Kd.N_nil _ _ _ _ _ | exact Kd.V_nil _ _ _ _ _ | exact Kd.Q_nil _ _ _ _ _ | exact Kd.S_nil _ _ _ _ _, by first | exact Kd.R_nil _ _ _ _ _ | exact Kd.N_nil _ _ _ _ _ | exact Kd.V_nil _ _ _ _ _ | exact Kd.Q_nil _ _ _ _ _ | exact Kd.S_nil _ _ _ _ _, by repeat (first | (with_reducible first | qp_ | refine below_set ?_ GE261.out | refine below_set ?_ GE262.out) | exact HB.out)⟩
               ·
                rw [if_neg c45] at H
                exact absurd H (by simp)
              ·
               rw [if_neg c44] at H
               exact absurd H (by simp)
end Go.Proofs.YtnfimhdcpmakpaaDoor.S
