-- By wip/hook.py.
import Derived.Test.YtnfimhdcpmakpaaDoorSx0P
namespace Go.Proofs.YtnfimhdcpmakpaaDoor.S
open Go.RowKit Go.Proofs.YtnfimhdcpmakpaaDoorW.PrintWords Go.Proofs.YtnfimhdcpmakpaaDoorW.PrintLast Go.Proofs.YtnfimhdcpmakpaaDoorW.PrintMore
attribute [local go_sem] max2_int min2_int max_two min_two max_three min_three max_four min_four
set_option linter.unusedVariables false
set_option linter.unusedSimpArgs false
mutual
def cofferlaw26_light.j0 : Nat → Bool → ByteArray → ByteArray → List (S41) → List Int → Bool → Option (Bool)
 | 0, _, _, _, _, _, _ => none
 | k + 1, x25, x209000, x209001, x209002, x209003, x209004 => if x25 = true then (some false) else (cofferlaw26_light.l0 k 0 x209000 x209001 x209002 x209003 x209004)
def cofferlaw26_light.l0 : Nat → Int → ByteArray → ByteArray → List (S41) → List Int → Bool → Option (Bool)
 | 0, _, _, _, _, _, _ => none
 | k + 1, x3, x209000, x209001, x209002, x209003, x209004 => if x3 < (x209002.length : Int) then (if 0 ≤ x3 then (if (((rd_T41 x209002 x3).f0).size : Int) > 200 then (some false) else (if (((rd_T41 x209002 x3).f1).size : Int) > 2048 then (some false) else (cofferlaw26_light.l0 k (wrap64 (x3 + 1)) x209000 x209001 x209002 x209003 x209004))) else (none)) else (some true)
end
def cofferlaw26_light.f (k : Nat) (a0_0 : ByteArray) (a0_1 : ByteArray) (l0_2 : List (S41)) (l0_3 : List Int) (a0_4 : Bool) : Option (Bool) := if (a0_0.size : Int) > 20 then (cofferlaw26_light.j0 k true a0_0 a0_1 l0_2 l0_3 a0_4) else (if (a0_1.size : Int) > 2048 then (cofferlaw26_light.j0 k true a0_0 a0_1 l0_2 l0_3 a0_4) else (if (l0_2.length : Int) > 40 then (cofferlaw26_light.j0 k true a0_0 a0_1 l0_2 l0_3 a0_4) else (cofferlaw26_light.j0 k (decide ((l0_3.length : Int) > 8192)) a0_0 a0_1 l0_2 l0_3 a0_4)))
set_option maxHeartbeats 8000000 in
set_option maxRecDepth 100000 in
theorem cofferlaw26_light.calls (k : Nat) (a0_0 : ByteArray) (a0_1 : ByteArray) (A0_2 : Option Addr) (c0_2 : Nat) (l0_2 : List (S41)) (A0_3 : Option Addr) (c0_3 : Nat) (l0_3 : List Int) (a0_4 : Bool) (r : Bool) (w : World) (hr0_2 : Kd.C k41 w A0_2 l0_2.length l0_2) (hc0_2 : l0_2.length ≤ c0_2) (hr0_3 : Kd.C (Kd.int .u8) w A0_3 l0_3.length l0_3) (hc0_3 : l0_3.length ≤ c0_3) (h : cofferlaw26_light.f k a0_0 a0_1 l0_2 l0_3 a0_4 = some r) :
  Calls Tryd.prog 8 #[.agg #[.string a0_0, .string a0_1, .slice A0_2 l0_2.length c0_2, .slice A0_3 l0_3.length c0_3, .bool a0_4]] w fun e w' => e = .returned (.bool r) ∧ Below w.heap.size w w' := by
 have hu25 := Tryd.underlying25
 have HR0_2 := Aside0.mk hr0_2
 have HC0_2 := Aside0.mk hc0_2
 clear hr0_2 hc0_2
 have HR0_3 := Aside0.mk hr0_3
 have HC0_3 := Aside0.mk hc0_3
 clear hr0_3 hc0_3
 have HB := Aside0.mk (Below.refl w.heap.size w)
 have H : (if (a0_0.size : Int) > 20 then (cofferlaw26_light.j0 k true a0_0 a0_1 l0_2 l0_3 a0_4) else (if (a0_1.size : Int) > 2048 then (cofferlaw26_light.j0 k true a0_0 a0_1 l0_2 l0_3 a0_4) else (if (l0_2.length : Int) > 40 then (cofferlaw26_light.j0 k true a0_0 a0_1 l0_2 l0_3 a0_4) else (cofferlaw26_light.j0 k (decide ((l0_3.length : Int) > 8192)) a0_0 a0_1 l0_2 l0_3 a0_4)))) = some r := h
 clear h
 have HC2 := Aside0.mk H
 clear H
 go_enter Tryd.func8, Tryd.ntmps8
 go_upto_region 1 with (first | ((with_reducible refine gate_dst (N := 1) rfl ?_); (try (refine gate_guard (by rfl) ?_; dsimp only)); refine box_event ?hg (N := 1) ?hd (cs := #[.string a0_0, .string a0_1, .slice A0_2 l0_2.length c0_2, .slice A0_3 l0_3.length c0_3, .bool a0_4]) (t := 25) ?hr ?_; (case hd => rfl); (case hg => rfl); (case hr => first | (go_simp; done) | (go_simp; rfl)); intro gb208 hg w3 hbox hb; have n0_ := Aside0.mk (below_step (by qh_) hb); have n1_ := Aside0.mk (hbox); have n2_ := Aside0.mk ((by rw [hg]; exact (below_size (by qh_)) : w.heap.size ≤ gb208)); have n3_ := Aside0.mk ((by rw [hg]; exact (below_size (by qh_)) : w.heap.size ≤ gb208)); clear HB; have HB := n0_; have BK208 := n1_; have GW208 := n2_; have GE208 := n3_; clear n0_ n1_ n2_ n3_; clear hb hbox hg))
 (try simp only [Act.put, List.setIfInBounds_toArray, List.set_cons_zero, List.set_cons_succ])
 go_cut [25] (fun v25 wc => ∃ (kq : Nat) (x25_1 : Bool), v25 = .bool x25_1 ∧ Aside0 (cofferlaw26_light.j0 kq x25_1 a0_0 a0_1 l0_2 l0_3 a0_4 = some r) ∧ Aside0 (kq ≤ k) ∧ Aside0 (wc.heap[gb208]? = some (.cells #[.string a0_0, .string a0_1, (.slice A0_2 l0_2.length c0_2), (.slice A0_3 l0_3.length c0_3), .bool a0_4] 25 (0, 0))) ∧ Aside0 (Below w.heap.size w wc))
 case first =>
  have H := HC2.out
  clear HC2
  by_cases c4 : (a0_0.size : Int) > 20
  ·
   rw [if_pos c4] at H
   have c4b0 : decide (20 < (a0_0.size : Int)) = true := decide_eq_true c4
   have c4b1 : decide (20 < a0_0.size) = true := decide_eq_true (by omega)
   clear c4
   (first | rw [c4b0] | (simp only [i64_w, i32_w]; rw [c4b0]) | skip)
   have H' := Aside0.mk H
   clear H
   have hcz5_0 : w3.cell? ⟨gb208, 0, none⟩ = some (.string a0_0) := (blk_cell BK208.out 0).trans rfl
   have hcz5_1 : w3.cell? ⟨gb208, 1, none⟩ = some (.string a0_1) := (blk_cell BK208.out 1).trans rfl
   have hcz5_2 : w3.cell? ⟨gb208, 2, none⟩ = some (.slice A0_2 l0_2.length c0_2) := (blk_cell BK208.out 2).trans rfl
   have hcz5_3 : w3.cell? ⟨gb208, 3, none⟩ = some (.slice A0_3 l0_3.length c0_3) := (blk_cell BK208.out 3).trans rfl
   have hcz5_4 : w3.cell? ⟨gb208, 4, none⟩ = some (.bool a0_4) := (blk_cell BK208.out 4).trans rfl
   have hfz5_0 := blk_frozen BK208.out 0
   have hfz5_1 := blk_frozen BK208.out 1
   have hfz5_2 := blk_frozen BK208.out 2
   have hfz5_3 := blk_frozen BK208.out 3
   have hfz5_4 := blk_frozen BK208.out 4
   go_wp2
   go_meet
   case rel => exact ⟨_, (true), (by qr_), H', ⟨by first | omega | exact Nat.le_refl _⟩, ⟨by qb_; exact BK208.out⟩, ⟨by repeat (first | (with_reducible first | qp_ | refine below_set ?_ GE208.out) | exact HB.out)⟩⟩
  ·
   rw [if_neg c4] at H
   have c4b0 : decide (20 < (a0_0.size : Int)) = false := decide_eq_false c4
   have c4b1 : decide (20 < a0_0.size) = false := decide_eq_false (by omega)
   clear c4
   (first | rw [c4b0] | (simp only [i64_w, i32_w]; rw [c4b0]) | skip)
   by_cases c6 : (a0_1.size : Int) > 2048
   ·
    rw [if_pos c6] at H
    have c6b0 : decide (2048 < (a0_1.size : Int)) = true := decide_eq_true c6
    have c6b1 : decide (2048 < a0_1.size) = true := decide_eq_true (by omega)
    clear c6
    have H' := Aside0.mk H
    clear H
    have hcz7_0 : w3.cell? ⟨gb208, 0, none⟩ = some (.string a0_0) := (blk_cell BK208.out 0).trans rfl
    have hcz7_1 : w3.cell? ⟨gb208, 1, none⟩ = some (.string a0_1) := (blk_cell BK208.out 1).trans rfl
    have hcz7_2 : w3.cell? ⟨gb208, 2, none⟩ = some (.slice A0_2 l0_2.length c0_2) := (blk_cell BK208.out 2).trans rfl
    have hcz7_3 : w3.cell? ⟨gb208, 3, none⟩ = some (.slice A0_3 l0_3.length c0_3) := (blk_cell BK208.out 3).trans rfl
    have hcz7_4 : w3.cell? ⟨gb208, 4, none⟩ = some (.bool a0_4) := (blk_cell BK208.out 4).trans rfl
    have hfz7_0 := blk_frozen BK208.out 0
    have hfz7_1 := blk_frozen BK208.out 1
    have hfz7_2 := blk_frozen BK208.out 2
    have hfz7_3 := blk_frozen BK208.out 3
    have hfz7_4 := blk_frozen BK208.out 4
    go_wp2
    go_meet
    case rel => exact ⟨_, (true), (by qr_), H', ⟨by first | omega | exact Nat.le_refl _⟩, ⟨by qb_; exact BK208.out⟩, ⟨by repeat (first | (with_reducible first | qp_ | refine below_set ?_ GE208.out) | exact HB.out)⟩⟩
   ·
    rw [if_neg c6] at H
    have c6b0 : decide (2048 < (a0_1.size : Int)) = false := decide_eq_false c6
    have c6b1 : decide (2048 < a0_1.size) = false := decide_eq_false (by omega)
    clear c6
    by_cases c8 : (l0_2.length : Int) > 40
    ·
     rw [if_pos c8] at H
     have c8b0 : decide (40 < (l0_2.length : Int)) = true := decide_eq_true c8
     have c8b1 : decide (40 < l0_2.length) = true := decide_eq_true (by omega)
     clear c8
     have H' := Aside0.mk H
     clear H
     have hcz9_0 : w3.cell? ⟨gb208, 0, none⟩ = some (.string a0_0) := (blk_cell BK208.out 0).trans rfl
     have hcz9_1 : w3.cell? ⟨gb208, 1, none⟩ = some (.string a0_1) := (blk_cell BK208.out 1).trans rfl
     have hcz9_2 : w3.cell? ⟨gb208, 2, none⟩ = some (.slice A0_2 l0_2.length c0_2) := (blk_cell BK208.out 2).trans rfl
     have hcz9_3 : w3.cell? ⟨gb208, 3, none⟩ = some (.slice A0_3 l0_3.length c0_3) := (blk_cell BK208.out 3).trans rfl
     have hcz9_4 : w3.cell? ⟨gb208, 4, none⟩ = some (.bool a0_4) := (blk_cell BK208.out 4).trans rfl
     have hfz9_0 := blk_frozen BK208.out 0
     have hfz9_1 := blk_frozen BK208.out 1
     have hfz9_2 := blk_frozen BK208.out 2
     have hfz9_3 := blk_frozen BK208.out 3
     have hfz9_4 := blk_frozen BK208.out 4
     go_wp2
     go_meet
     case rel => exact ⟨_, (true), (by qr_), H', ⟨by first | omega | exact Nat.le_refl _⟩, ⟨by qb_; exact BK208.out⟩, ⟨by repeat (first | (with_reducible first | qp_ | refine below_set ?_ GE208.out) | exact HB.out)⟩⟩
    ·
     rw [if_neg c8] at H
     have c8b0 : decide (40 < (l0_2.length : Int)) = false := decide_eq_false c8
     have c8b1 : decide (40 < l0_2.length) = false := decide_eq_false (by omega)
     clear c8
     have H' := Aside0.mk H
     clear H
     have hcz10_0 : w3.cell? ⟨gb208, 0, none⟩ = some (.string a0_0) := (blk_cell BK208.out 0).trans rfl
     have hcz10_1 : w3.cell? ⟨gb208, 1, none⟩ = some (.string a0_1) := (blk_cell BK208.out 1).trans rfl
     have hcz10_2 : w3.cell? ⟨gb208, 2, none⟩ = some (.slice A0_2 l0_2.length c0_2) := (blk_cell BK208.out 2).trans rfl
     have hcz10_3 : w3.cell? ⟨gb208, 3, none⟩ = some (.slice A0_3 l0_3.length c0_3) := (blk_cell BK208.out 3).trans rfl
     have hcz10_4 : w3.cell? ⟨gb208, 4, none⟩ = some (.bool a0_4) := (blk_cell BK208.out 4).trans rfl
     have hfz10_0 := blk_frozen BK208.out 0
     have hfz10_1 := blk_frozen BK208.out 1
     have hfz10_2 := blk_frozen BK208.out 2
     have hfz10_3 := blk_frozen BK208.out 3
     have hfz10_4 := blk_frozen BK208.out 4
     go_wp2
     go_meet
     case rel => exact ⟨_, (decide ((l0_3.length : Int) > 8192)), (by qr_), H', ⟨by first | omega | exact Nat.le_refl _⟩, ⟨by qb_; exact BK208.out⟩, ⟨by repeat (first | (with_reducible first | qp_ | refine below_set ?_ GE208.out) | exact HB.out)⟩⟩
 case rest =>
  clear HC2
  try clear p2
  try clear c4
  try clear c4b0
  try clear c4b1
  try clear c6
  try clear c6b0
  try clear c6b1
  try clear c8
  try clear c8b0
  try clear c8b1
  try clear hcz10_0
  try clear hcz10_1
  try clear hcz10_2
  try clear hcz10_3
  try clear hcz10_4
  try clear hcz5_0
  try clear hcz5_1
  try clear hcz5_2
  try clear hcz5_3
  try clear hcz5_4
  try clear hcz7_0
  try clear hcz7_1
  try clear hcz7_2
  try clear hcz7_3
  try clear hcz7_4
  try clear hcz9_0
  try clear hcz9_1
  try clear hcz9_2
  try clear hcz9_3
  try clear hcz9_4
  try clear hfz10_0
  try clear hfz10_1
  try clear hfz10_2
  try clear hfz10_3
  try clear hfz10_4
  try clear hfz5_0
  try clear hfz5_1
  try clear hfz5_2
  try clear hfz5_3
  try clear hfz5_4
  try clear hfz7_0
  try clear hfz7_1
  try clear hfz7_2
  try clear hfz7_3
  try clear hfz7_4
  try clear hfz9_0
  try clear hfz9_1
  try clear hfz9_2
  try clear hfz9_3
  try clear hfz9_4
  obtain ⟨kq, x25_1, rfl, HA, HJ1, BK208, HB⟩ := hcut
  cases kq with
  | zero => exact absurd HA.out (by simp [cofferlaw26_light.j0])
  | succ kj1 =>
   have H := HA.out
   clear HA
   simp only [cofferlaw26_light.j0] at H
   by_cases c11 : x25_1 = true
   ·
    subst c11
    have H1 : (some false) = some r := by rw [if_pos rfl] at H; exact H
    clear H
    have H := H1
    clear H1
    obtain rfl := Option.some.inj H
    go_wp2
    go_ret
    exact ⟨by first | rfl | (simp [errW_none, errW_some] <;> rfl) | (simp [*, errW_none, errW_some] <;> rfl), by repeat (first | (with_reducible first | qp_ | refine below_set ?_ GE208.out) | exact HB.out)⟩
   ·
    replace c11 := Bool.eq_false_iff.mpr c11
    subst c11
    have H1 : (cofferlaw26_light.l0 kj1 0 a0_0 a0_1 l0_2 l0_3 a0_4) = some r := by rw [if_neg (show ¬ (false = true) by decide)] at H; exact H
    clear H
    have H := H1
    clear H1
    have H' := Aside0.mk H
    clear H
    go_wp2
    go_loopg [3] kj1 (fun kq v3 w' => ∃ (x3_2 : Int), v3 = .int .i64 x3_2 ∧ Aside0 (cofferlaw26_light.l0 kq x3_2 a0_0 a0_1 l0_2 l0_3 a0_4 = some r) ∧ Aside0 (kq ≤ kj1) ∧ Aside0 (w'.heap[gb208]? = some (.cells #[.string a0_0, .string a0_1, (.slice A0_2 l0_2.length c0_2), (.slice A0_3 l0_3.length c0_3), .bool a0_4] 25 (0, 0))) ∧ Aside0 (Below w.heap.size w w'))
    case atStart => exact ⟨(0), (by qr_), H', ⟨Nat.le_refl _⟩, ⟨by qb_; exact BK208.out⟩, ⟨by repeat (first | (with_reducible first | qp_ | refine below_set ?_ GE208.out) | exact HB.out)⟩⟩
    case round =>
     clear H'
     try clear c1
     try clear p2
     try clear c4
     try clear c4b0
     try clear c4b1
     try clear c6
     try clear c6b0
     try clear c6b1
     try clear c8
     try clear c8b0
     try clear c8b1
     try clear c11
     try clear hcz10_0
     try clear hcz10_1
     try clear hcz10_2
     try clear hcz10_3
     try clear hcz10_4
     try clear hcz5_0
     try clear hcz5_1
     try clear hcz5_2
     try clear hcz5_3
     try clear hcz5_4
     try clear hcz7_0
     try clear hcz7_1
     try clear hcz7_2
     try clear hcz7_3
     try clear hcz7_4
     try clear hcz9_0
     try clear hcz9_1
     try clear hcz9_2
     try clear hcz9_3
     try clear hcz9_4
     try clear hfz10_0
     try clear hfz10_1
     try clear hfz10_2
     try clear hfz10_3
     try clear hfz10_4
     try clear hfz5_0
     try clear hfz5_1
     try clear hfz5_2
     try clear hfz5_3
     try clear hfz5_4
     try clear hfz7_0
     try clear hfz7_1
     try clear hfz7_2
     try clear hfz7_3
     try clear hfz7_4
     try clear hfz9_0
     try clear hfz9_1
     try clear hfz9_2
     try clear hfz9_3
     try clear hfz9_4
     try clear p2
     obtain ⟨x3_2, rfl, HA, HK2, BK208, HB⟩ := hrel
     cases gk with
     | zero => exact absurd HA.out (by simp [cofferlaw26_light.l0])
     | succ k2 =>
      have H := HA.out
      clear HA
      simp only [cofferlaw26_light.l0] at H
      by_cases c12 : x3_2 < (l0_2.length : Int)
      ·
       rw [if_pos c12] at H
       have c12b0 : decide (x3_2 < (l0_2.length : Int)) = true := decide_eq_true c12
       clear c12
       by_cases c13 : 0 ≤ x3_2
       ·
        rw [if_pos c13] at H
        have c13b0 : decide (0 ≤ x3_2) = true := decide_eq_true c13
        clear c13
        by_cases c14 : (((rd_T41 l0_2 x3_2).f0).size : Int) > 200
        ·
         rw [if_pos c14] at H
         have c14b0 : decide (200 < (((rd_T41 l0_2 x3_2).f0).size : Int)) = true := decide_eq_true c14
         have c14b1 : decide (200 < ((rd_T41 l0_2 x3_2).f0).size) = true := decide_eq_true (by omega)
         clear c14
         obtain rfl := Option.some.inj H
         have hcz15_0 : wr.cell? ⟨gb208, 0, none⟩ = some (.string a0_0) := (blk_cell BK208.out 0).trans rfl
         have hcz15_1 : wr.cell? ⟨gb208, 1, none⟩ = some (.string a0_1) := (blk_cell BK208.out 1).trans rfl
         have hcz15_2 : wr.cell? ⟨gb208, 2, none⟩ = some (.slice A0_2 l0_2.length c0_2) := (blk_cell BK208.out 2).trans rfl
         have hcz15_3 : wr.cell? ⟨gb208, 3, none⟩ = some (.slice A0_3 l0_3.length c0_3) := (blk_cell BK208.out 3).trans rfl
         have hcz15_4 : wr.cell? ⟨gb208, 4, none⟩ = some (.bool a0_4) := (blk_cell BK208.out 4).trans rfl
         have hfz15_0 := blk_frozen BK208.out 0
         have hfz15_1 := blk_frozen BK208.out 1
         have hfz15_2 := blk_frozen BK208.out 2
         have hfz15_3 := blk_frozen BK208.out 3
         have hfz15_4 := blk_frozen BK208.out 4
         have p209 : 0 ≤ (x3_2 : Int) := of_decide_eq_true (by qa_)
         have q209 : x3_2 < (l0_2.length : Int) := of_decide_eq_true (by qa_)
         obtain ⟨ad209, e209, hx209_0, hx209_1⟩ := at_T41 HR0_2.out x3_2 p209 q209
         cases e209
         replace hx209_0 := (HB.out.cell (World.block_lt_of_cell? w _ hx209_0)).trans hx209_0
         replace hx209_1 := (HB.out.cell (World.block_lt_of_cell? w _ hx209_1)).trans hx209_1
         replace p209 := eq_true p209
         replace q209 := eq_true q209
         go_wp2
         go_ret
         exact ⟨by first | rfl | (simp [errW_none, errW_some] <;> rfl) | (simp [*, errW_none, errW_some] <;> rfl), by repeat (first | (with_reducible first | qp_ | refine below_set ?_ GE208.out) | exact HB.out)⟩
        ·
         rw [if_neg c14] at H
         have c14b0 : decide (200 < (((rd_T41 l0_2 x3_2).f0).size : Int)) = false := decide_eq_false c14
         have c14b1 : decide (200 < ((rd_T41 l0_2 x3_2).f0).size) = false := decide_eq_false (by omega)
         clear c14
         by_cases c16 : (((rd_T41 l0_2 x3_2).f1).size : Int) > 2048
         ·
          rw [if_pos c16] at H
          have c16b0 : decide (2048 < (((rd_T41 l0_2 x3_2).f1).size : Int)) = true := decide_eq_true c16
          have c16b1 : decide (2048 < ((rd_T41 l0_2 x3_2).f1).size) = true := decide_eq_true (by omega)
          clear c16
          obtain rfl := Option.some.inj H
          have hcz17_0 : wr.cell? ⟨gb208, 0, none⟩ = some (.string a0_0) := (blk_cell BK208.out 0).trans rfl
          have hcz17_1 : wr.cell? ⟨gb208, 1, none⟩ = some (.string a0_1) := (blk_cell BK208.out 1).trans rfl
          have hcz17_2 : wr.cell? ⟨gb208, 2, none⟩ = some (.slice A0_2 l0_2.length c0_2) := (blk_cell BK208.out 2).trans rfl
          have hcz17_3 : wr.cell? ⟨gb208, 3, none⟩ = some (.slice A0_3 l0_3.length c0_3) := (blk_cell BK208.out 3).trans rfl
          have hcz17_4 : wr.cell? ⟨gb208, 4, none⟩ = some (.bool a0_4) := (blk_cell BK208.out 4).trans rfl
          have hfz17_0 := blk_frozen BK208.out 0
          have hfz17_1 := blk_frozen BK208.out 1
          have hfz17_2 := blk_frozen BK208.out 2
          have hfz17_3 := blk_frozen BK208.out 3
          have hfz17_4 := blk_frozen BK208.out 4
          have p209 : 0 ≤ (x3_2 : Int) := of_decide_eq_true (by qa_)
          have q209 : x3_2 < (l0_2.length : Int) := of_decide_eq_true (by qa_)
          obtain ⟨ad209, e209, hx209_0, hx209_1⟩ := at_T41 HR0_2.out x3_2 p209 q209
          cases e209
          replace hx209_0 := (HB.out.cell (World.block_lt_of_cell? w _ hx209_0)).trans hx209_0
          replace hx209_1 := (HB.out.cell (World.block_lt_of_cell? w _ hx209_1)).trans hx209_1
          replace p209 := eq_true p209
          replace q209 := eq_true q209
          have p210 : 0 ≤ (x3_2 : Int) := of_decide_eq_true (by qa_)
          have q210 : x3_2 < (l0_2.length : Int) := of_decide_eq_true (by qa_)
          obtain ⟨ad210, e210, hx210_0, hx210_1⟩ := at_T41 HR0_2.out x3_2 p210 q210
          obtain rfl : ad209 = ad210 := (by injection e210)
          replace hx210_0 := (HB.out.cell (World.block_lt_of_cell? w _ hx210_0)).trans hx210_0
          replace hx210_1 := (HB.out.cell (World.block_lt_of_cell? w _ hx210_1)).trans hx210_1
          replace p210 := eq_true p210
          replace q210 := eq_true q210
          go_wp2
          go_ret
          exact ⟨by first | rfl | (simp [errW_none, errW_some] <;> rfl) | (simp [*, errW_none, errW_some] <;> rfl), by repeat (first | (with_reducible first | qp_ | refine below_set ?_ GE208.out) | exact HB.out)⟩
         ·
          rw [if_neg c16] at H
          have c16b0 : decide (2048 < (((rd_T41 l0_2 x3_2).f1).size : Int)) = false := decide_eq_false c16
          have c16b1 : decide (2048 < ((rd_T41 l0_2 x3_2).f1).size) = false := decide_eq_false (by omega)
          clear c16
          have H' := Aside0.mk H
          clear H
          have hcz18_0 : wr.cell? ⟨gb208, 0, none⟩ = some (.string a0_0) := (blk_cell BK208.out 0).trans rfl
          have hcz18_1 : wr.cell? ⟨gb208, 1, none⟩ = some (.string a0_1) := (blk_cell BK208.out 1).trans rfl
          have hcz18_2 : wr.cell? ⟨gb208, 2, none⟩ = some (.slice A0_2 l0_2.length c0_2) := (blk_cell BK208.out 2).trans rfl
          have hcz18_3 : wr.cell? ⟨gb208, 3, none⟩ = some (.slice A0_3 l0_3.length c0_3) := (blk_cell BK208.out 3).trans rfl
          have hcz18_4 : wr.cell? ⟨gb208, 4, none⟩ = some (.bool a0_4) := (blk_cell BK208.out 4).trans rfl
          have hfz18_0 := blk_frozen BK208.out 0
          have hfz18_1 := blk_frozen BK208.out 1
          have hfz18_2 := blk_frozen BK208.out 2
          have hfz18_3 := blk_frozen BK208.out 3
          have hfz18_4 := blk_frozen BK208.out 4
          have p209 : 0 ≤ (x3_2 : Int) := of_decide_eq_true (by qa_)
          have q209 : x3_2 < (l0_2.length : Int) := of_decide_eq_true (by qa_)
          obtain ⟨ad209, e209, hx209_0, hx209_1⟩ := at_T41 HR0_2.out x3_2 p209 q209
          cases e209
          replace hx209_0 := (HB.out.cell (World.block_lt_of_cell? w _ hx209_0)).trans hx209_0
          replace hx209_1 := (HB.out.cell (World.block_lt_of_cell? w _ hx209_1)).trans hx209_1
          replace p209 := eq_true p209
          replace q209 := eq_true q209
          have p210 : 0 ≤ (x3_2 : Int) := of_decide_eq_true (by qa_)
          have q210 : x3_2 < (l0_2.length : Int) := of_decide_eq_true (by qa_)
          obtain ⟨ad210, e210, hx210_0, hx210_1⟩ := at_T41 HR0_2.out x3_2 p210 q210
          obtain rfl : ad209 = ad210 := (by injection e210)
          replace hx210_0 := (HB.out.cell (World.block_lt_of_cell? w _ hx210_0)).trans hx210_0
          replace hx210_1 := (HB.out.cell (World.block_lt_of_cell? w _ hx210_1)).trans hx210_1
          replace p210 := eq_true p210
          replace q210 := eq_true q210
          go_wp2
          go_roundg k2
          case measure => have := HJ1.out; have := HK2.out; omega
          case rel => exact ⟨(wrap64 (x3_2 + 1)), (by qr_), H', ⟨by have := HJ1.out; have := HK2.out; omega⟩, ⟨by qb_; exact BK208.out⟩, ⟨by repeat (first | (with_reducible first | qp_ | refine below_set ?_ GE208.out) | exact HB.out)⟩⟩
       ·
        rw [if_neg c13] at H
        exact absurd H (by simp)
      ·
       rw [if_neg c12] at H
       have c12b0 : decide (x3_2 < (l0_2.length : Int)) = false := decide_eq_false c12
       clear c12
       obtain rfl := Option.some.inj H
       have hcz19_0 : wr.cell? ⟨gb208, 0, none⟩ = some (.string a0_0) := (blk_cell BK208.out 0).trans rfl
       have hcz19_1 : wr.cell? ⟨gb208, 1, none⟩ = some (.string a0_1) := (blk_cell BK208.out 1).trans rfl
       have hcz19_2 : wr.cell? ⟨gb208, 2, none⟩ = some (.slice A0_2 l0_2.length c0_2) := (blk_cell BK208.out 2).trans rfl
       have hcz19_3 : wr.cell? ⟨gb208, 3, none⟩ = some (.slice A0_3 l0_3.length c0_3) := (blk_cell BK208.out 3).trans rfl
       have hcz19_4 : wr.cell? ⟨gb208, 4, none⟩ = some (.bool a0_4) := (blk_cell BK208.out 4).trans rfl
       have hfz19_0 := blk_frozen BK208.out 0
       have hfz19_1 := blk_frozen BK208.out 1
       have hfz19_2 := blk_frozen BK208.out 2
       have hfz19_3 := blk_frozen BK208.out 3
       have hfz19_4 := blk_frozen BK208.out 4
       go_wp2
       go_ret
       exact ⟨by first | rfl | (simp [errW_none, errW_some] <;> rfl) | (simp [*, errW_none, errW_some] <;> rfl), by repeat (first | (with_reducible first | qp_ | refine below_set ?_ GE208.out) | exact HB.out)⟩
-- NOT PRINTED: function 9 (cofferlaw0_Twin)
def cofferref22_Count.l0 : Nat → List (S41) → ByteArray → Int → Int → Option (Int)
 | 0, _, _, _, _ => none
 | k + 1, x0, x1, x5, x6 => if x6 < (x0.length : Int) then (if 0 ≤ x6 then (if ((rd_T41 x0 x6).f0).toList = x1.toList then (cofferref22_Count.l0 k x0 x1 (wrap64 (x5 + 1)) (wrap64 (x6 + 1))) else (cofferref22_Count.l0 k x0 x1 x5 (wrap64 (x6 + 1)))) else (none)) else (some x5)
def cofferref22_Count.f (k : Nat) (l0 : List (S41)) (a1 : ByteArray) : Option (Int) := cofferref22_Count.l0 k l0 a1 0 0
set_option maxHeartbeats 8000000 in
set_option maxRecDepth 100000 in
theorem cofferref22_Count.calls (k : Nat) (A0 : Option Addr) (c0 : Nat) (l0 : List (S41)) (a1 : ByteArray) (r : Int) (w : World) (hr0 : Kd.C k41 w A0 l0.length l0) (hc0 : l0.length ≤ c0) (h : cofferref22_Count.f k l0 a1 = some r) :
  Calls Tryd.prog 31 #[.slice A0 l0.length c0, .string a1] w fun e w' => e = .returned (.int .i64 r) ∧ Drawn0 w w' := by
 have HR0 := Aside0.mk hr0
 have HC0 := Aside0.mk hc0
 clear hr0 hc0
 have H : (cofferref22_Count.l0 k l0 a1 0 0) = some r := h
 clear h
 have H' := Aside0.mk H
 clear H
 go_enter Tryd.func31, Tryd.ntmps31
 go_wp2
 go_loopg [5, 6] k (fun kq v5 v6 w' => ∃ (x5_1 : Int) (x6_1 : Int), v5 = .int .i64 x5_1 ∧ v6 = .int .i64 x6_1 ∧ Aside0 (cofferref22_Count.l0 kq l0 a1 x5_1 x6_1 = some r) ∧ Aside0 (kq ≤ k) ∧ Drawn0 w w')
 case atStart => exact ⟨(0), (0), (by qr_), (by qr_), H', ⟨Nat.le_refl _⟩, by qd_⟩
 case round =>
  clear H'
  try clear p2
  obtain ⟨x5_1, x6_1, rfl, rfl, HA, HK1, ⟨m1, rfl⟩⟩ := hrel
  cases gk with
  | zero => exact absurd HA.out (by simp [cofferref22_Count.l0])
  | succ k1 =>
   have H := HA.out
   clear HA
   simp only [cofferref22_Count.l0] at H
   by_cases c3 : x6_1 < (l0.length : Int)
   ·
    rw [if_pos c3] at H
    have c3b0 : decide (x6_1 < (l0.length : Int)) = true := decide_eq_true c3
    clear c3
    by_cases c4 : 0 ≤ x6_1
    ·
     rw [if_pos c4] at H
     have c4b0 : decide (0 ≤ x6_1) = true := decide_eq_true c4
     clear c4
     by_cases c5 : ((rd_T41 l0 x6_1).f0).toList = a1.toList
     ·
      rw [if_pos c5] at H
      have c5b0 : (((rd_T41 l0 x6_1).f0).toList == a1.toList) = true := beq_iff_eq.mpr c5
      have c5b1 : (((rd_T41 l0 x6_1).f0).toList != a1.toList) = false := bne_eq_false_iff_eq.mpr c5
      clear c5
      have H' := Aside0.mk H
      clear H
      have p214 : 0 ≤ (x6_1 : Int) := of_decide_eq_true (by qa_)
      have q214 : x6_1 < (l0.length : Int) := of_decide_eq_true (by qa_)
      obtain ⟨ad214, e214, hx214_0, hx214_1⟩ := at_T41 HR0.out x6_1 p214 q214
      cases e214
      replace p214 := eq_true p214
      replace q214 := eq_true q214
      go_wp2
      go_roundg k1
      case measure => have := HK1.out; omega
      case rel => exact ⟨(wrap64 (x5_1 + 1)), (wrap64 (x6_1 + 1)), (by qr_), (by qr_), H', ⟨by have := HK1.out; omega⟩, by qd_⟩
     ·
      rw [if_neg c5] at H
      have c5b0 : (((rd_T41 l0 x6_1).f0).toList == a1.toList) = false := beq_eq_false_iff_ne.mpr c5
      have c5b1 : (((rd_T41 l0 x6_1).f0).toList != a1.toList) = true := bne_iff_ne.mpr c5
      have H' := Aside0.mk H
      clear H
      have p214 : 0 ≤ (x6_1 : Int) := of_decide_eq_true (by qa_)
      have q214 : x6_1 < (l0.length : Int) := of_decide_eq_true (by qa_)
      obtain ⟨ad214, e214, hx214_0, hx214_1⟩ := at_T41 HR0.out x6_1 p214 q214
      cases e214
      replace p214 := eq_true p214
      replace q214 := eq_true q214
      go_wp2
      go_roundg k1
      case measure => have := HK1.out; omega
      case rel => exact ⟨(x5_1), (wrap64 (x6_1 + 1)), (by qr_), (by qr_), H', ⟨by have := HK1.out; omega⟩, by qd_⟩
    ·
     rw [if_neg c4] at H
     exact absurd H (by simp)
   ·
    rw [if_neg c3] at H
    have c3b0 : decide (x6_1 < (l0.length : Int)) = false := decide_eq_false c3
    clear c3
    obtain rfl := Option.some.inj H
    go_wp2
    go_ret
    exact ⟨by qr_, by qd_⟩
def cofferref22_Get.l0 : Nat → List (S41) → ByteArray → Int → Option (ByteArray × Int)
 | 0, _, _, _ => none
 | k + 1, x0, x1, x6 => if x6 < (x0.length : Int) then (if 0 ≤ x6 then (if ((rd_T41 x0 x6).f0).toList = x1.toList then (some ((rd_T41 x0 x6).f1, 0)) else (cofferref22_Get.l0 k x0 x1 (wrap64 (x6 + 1)))) else (none)) else (some ((⟨#[]⟩ : ByteArray), 6))
def cofferref22_Get.f (k : Nat) (l0 : List (S41)) (a1 : ByteArray) : Option (ByteArray × Int) := (cofferref22_Count.f k l0 a1).bind fun t215 => (if t215 = 0 then (some ((⟨#[]⟩ : ByteArray), 5)) else (if t215 = 1 then (cofferref22_Get.l0 k l0 a1 0) else (some ((⟨#[]⟩ : ByteArray), 6))))
set_option maxHeartbeats 8000000 in
set_option maxRecDepth 100000 in
theorem cofferref22_Get.calls (k : Nat) (A0 : Option Addr) (c0 : Nat) (l0 : List (S41)) (a1 : ByteArray) (r1 : ByteArray) (r2 : Int) (w : World) (hr0 : Kd.C k41 w A0 l0.length l0) (hc0 : l0.length ≤ c0) (h : cofferref22_Get.f k l0 a1 = some (r1, r2)) :
  Calls Tryd.prog 32 #[.slice A0 l0.length c0, .string a1] w fun e w' => e = .returned (.tuple #[.string r1, .int .i64 r2]) ∧ Drawn0 w w' := by
 have HR0 := Aside0.mk hr0
 have HC0 := Aside0.mk hc0
 clear hr0 hc0
 have H : ((cofferref22_Count.f k l0 a1).bind fun t215 => (if t215 = 0 then (some ((⟨#[]⟩ : ByteArray), 5)) else (if t215 = 1 then (cofferref22_Get.l0 k l0 a1 0) else (some ((⟨#[]⟩ : ByteArray), 6))))) = some (r1, r2) := h
 clear h
 replace H := Option.bind_eq_some_iff.mp H
 obtain ⟨t215, A30, H⟩ := H
 replace H : (if t215 = 0 then (some ((⟨#[]⟩ : ByteArray), 5)) else (if t215 = 1 then (cofferref22_Get.l0 k l0 a1 0) else (some ((⟨#[]⟩ : ByteArray), 6)))) = some (r1, r2) := H
 have A3 := Aside0.mk A30
 clear A30
 by_cases c4 : t215 = 0
 ·
  rw [if_pos c4] at H
  have c4b0 : (t215 == 0) = true := beq_iff_eq.mpr c4
  have c4b1 : (t215 != 0) = false := bne_eq_false_iff_eq.mpr c4
  clear c4
  simp only [Option.some.injEq, Prod.mk.injEq] at H
  obtain ⟨rfl, rfl⟩ := H
  go_enter Tryd.func32, Tryd.ntmps32
  go_wp2_with (first | ((with_reducible refine gate_callee (f := 31) rfl ?_); refine goesL_ (some 9) rfl rfl Tryd.func31 (by kernel_rfl) rfl #[.slice A0 l0.length c0, .string a1] rfl (by qm_) ?_; (with_reducible refine (cofferref22_Count.calls k _ _ l0 a1 t215 _ ?side1 ?side2 A3.out).mono ?_); (case side1 => repeat (first | exact HR0.out | (with_reducible refine Kd.C_alloc ?_ _) | (with_reducible refine Kd.C_drewN ?_ _) | (with_reducible refine Kd.C_drew ?_))); (case side2 => exact HC0.out); rintro e w' ⟨rfl, ⟨nd, rfl⟩⟩; refine ⟨_, rfl, ?_⟩))
  go_ret2
  exact ⟨by qr_, by qd_⟩
 ·
  rw [if_neg c4] at H
  have c4b0 : (t215 == 0) = false := beq_eq_false_iff_ne.mpr c4
  have c4b1 : (t215 != 0) = true := bne_iff_ne.mpr c4
  by_cases c5 : t215 = 1
  ·
   rw [if_pos c5] at H
   have c5b0 : (t215 == 1) = true := beq_iff_eq.mpr c5
   have c5b1 : (t215 != 1) = false := bne_eq_false_iff_eq.mpr c5
   clear c5
   have H' := Aside0.mk H
   clear H
   go_enter Tryd.func32, Tryd.ntmps32
   go_wp2_with (first | ((with_reducible refine gate_callee (f := 31) rfl ?_); refine goesL_ (some 9) rfl rfl Tryd.func31 (by kernel_rfl) rfl #[.slice A0 l0.length c0, .string a1] rfl (by qm_) ?_; (with_reducible refine (cofferref22_Count.calls k _ _ l0 a1 t215 _ ?side1 ?side2 A3.out).mono ?_); (case side1 => repeat (first | exact HR0.out | (with_reducible refine Kd.C_alloc ?_ _) | (with_reducible refine Kd.C_drewN ?_ _) | (with_reducible refine Kd.C_drew ?_))); (case side2 => exact HC0.out); rintro e w' ⟨rfl, ⟨nd, rfl⟩⟩; refine ⟨_, rfl, ?_⟩))
   go_loopg [6] k (fun kq v6 w' => ∃ (x6_1 : Int), v6 = .int .i64 x6_1 ∧ Aside0 (cofferref22_Get.l0 kq l0 a1 x6_1 = some (r1, r2)) ∧ Aside0 (kq ≤ k) ∧ Drawn0 w w')
   case atStart => exact ⟨(0), (by qr_), H', ⟨Nat.le_refl _⟩, by qd_⟩
   case round =>
    clear H'
    try clear p2
    try clear c3
    try clear c4
    try clear c4b0
    try clear c4b1
    try clear c5
    try clear c5b0
    try clear c5b1
    obtain ⟨x6_1, rfl, HA, HK1, ⟨m1, rfl⟩⟩ := hrel
    cases gk with
    | zero => exact absurd HA.out (by simp [cofferref22_Get.l0])
    | succ k1 =>
     have H := HA.out
     clear HA
     simp only [cofferref22_Get.l0] at H
     by_cases c6 : x6_1 < (l0.length : Int)
     ·
      rw [if_pos c6] at H
      have c6b0 : decide (x6_1 < (l0.length : Int)) = true := decide_eq_true c6
      clear c6
      by_cases c7 : 0 ≤ x6_1
      ·
       rw [if_pos c7] at H
       have c7b0 : decide (0 ≤ x6_1) = true := decide_eq_true c7
       clear c7
       by_cases c8 : ((rd_T41 l0 x6_1).f0).toList = a1.toList
       ·
        rw [if_pos c8] at H
        have c8b0 : (((rd_T41 l0 x6_1).f0).toList == a1.toList) = true := beq_iff_eq.mpr c8
        have c8b1 : (((rd_T41 l0 x6_1).f0).toList != a1.toList) = false := bne_eq_false_iff_eq.mpr c8
        clear c8
        simp only [Option.some.injEq, Prod.mk.injEq] at H
        obtain ⟨rfl, rfl⟩ := H
        have p216 : 0 ≤ (x6_1 : Int) := of_decide_eq_true (by qa_)
        have q216 : x6_1 < (l0.length : Int) := of_decide_eq_true (by qa_)
        obtain ⟨ad216, e216, hx216_0, hx216_1⟩ := at_T41 HR0.out x6_1 p216 q216
        cases e216
        replace p216 := eq_true p216
        replace q216 := eq_true q216
        have p217 : 0 ≤ (x6_1 : Int) := of_decide_eq_true (by qa_)
        have q217 : x6_1 < (l0.length : Int) := of_decide_eq_true (by qa_)
        obtain ⟨ad217, e217, hx217_0, hx217_1⟩ := at_T41 HR0.out x6_1 p217 q217
        obtain rfl : ad216 = ad217 := (by injection e217)
        replace p217 := eq_true p217
        replace q217 := eq_true q217
        go_wp2
        go_ret2
        exact ⟨by qr_, by qd_⟩
       ·
        rw [if_neg c8] at H
        have c8b0 : (((rd_T41 l0 x6_1).f0).toList == a1.toList) = false := beq_eq_false_iff_ne.mpr c8
        have c8b1 : (((rd_T41 l0 x6_1).f0).toList != a1.toList) = true := bne_iff_ne.mpr c8
        have H' := Aside0.mk H
        clear H
        have p216 : 0 ≤ (x6_1 : Int) := of_decide_eq_true (by qa_)
        have q216 : x6_1 < (l0.length : Int) := of_decide_eq_true (by qa_)
        obtain ⟨ad216, e216, hx216_0, hx216_1⟩ := at_T41 HR0.out x6_1 p216 q216
        cases e216
        replace p216 := eq_true p216
        replace q216 := eq_true q216
        go_wp2
        go_roundg k1
        case measure => have := HK1.out; omega
        case rel => exact ⟨(wrap64 (x6_1 + 1)), (by qr_), H', ⟨by have := HK1.out; omega⟩, by qd_⟩
      ·
       rw [if_neg c7] at H
       exact absurd H (by simp)
     ·
      rw [if_neg c6] at H
      have c6b0 : decide (x6_1 < (l0.length : Int)) = false := decide_eq_false c6
      clear c6
      simp only [Option.some.injEq, Prod.mk.injEq] at H
      obtain ⟨rfl, rfl⟩ := H
      go_wp2
      go_ret2
      exact ⟨by qr_, by qd_⟩
  ·
   rw [if_neg c5] at H
   have c5b0 : (t215 == 1) = false := beq_eq_false_iff_ne.mpr c5
   have c5b1 : (t215 != 1) = true := bne_iff_ne.mpr c5
   simp only [Option.some.injEq, Prod.mk.injEq] at H
   obtain ⟨rfl, rfl⟩ := H
   go_enter Tryd.func32, Tryd.ntmps32
   go_wp2_with (first | ((with_reducible refine gate_callee (f := 31) rfl ?_); refine goesL_ (some 9) rfl rfl Tryd.func31 (by kernel_rfl) rfl #[.slice A0 l0.length c0, .string a1] rfl (by qm_) ?_; (with_reducible refine (cofferref22_Count.calls k _ _ l0 a1 t215 _ ?side1 ?side2 A3.out).mono ?_); (case side1 => repeat (first | exact HR0.out | (with_reducible refine Kd.C_alloc ?_ _) | (with_reducible refine Kd.C_drewN ?_ _) | (with_reducible refine Kd.C_drew ?_))); (case side2 => exact HC0.out); rintro e w' ⟨rfl, ⟨nd, rfl⟩⟩; refine ⟨_, rfl, ?_⟩))
   go_ret2
   exact ⟨by qr_, by qd_⟩
def cofferref4_digit.l0 : Nat → Int → Int → Option (Int)
 | 0, _, _ => none
 | k + 1, x0, x3 => if x3 < 16 then (if 0 ≤ x3 then (if (bt (⟨#[48, 49, 50, 51, 52, 53, 54, 55, 56, 57, 97, 98, 99, 100, 101, 102]⟩ : ByteArray) x3) = x0 then (some x3) else (cofferref4_digit.l0 k x0 (wrap64 (x3 + 1)))) else (none)) else (some (-1))
def cofferref4_digit.f (k : Nat) (a0 : Int) : Option (Int) := cofferref4_digit.l0 k a0 0
set_option maxHeartbeats 8000000 in
set_option maxRecDepth 100000 in
theorem cofferref4_digit.calls (k : Nat) (a0 : Int) (r : Int) (w : World) (h : cofferref4_digit.f k a0 = some r) :
  Calls Tryd.prog 55 #[.int .u8 a0] w fun e w' => e = .returned (.int .i64 r) ∧ Drawn0 w w' := by
 have H : (cofferref4_digit.l0 k a0 0) = some r := h
 clear h
 have H' := Aside0.mk H
 clear H
 go_enter Tryd.func55, Tryd.ntmps55
 go_wp2
 go_loopg [3] k (fun kq v3 w' => ∃ (x3_1 : Int), v3 = .int .i64 x3_1 ∧ Aside0 (cofferref4_digit.l0 kq a0 x3_1 = some r) ∧ Aside0 (kq ≤ k) ∧ Drawn0 w w')
 case atStart => exact ⟨(0), (by qr_), H', ⟨Nat.le_refl _⟩, by qd_⟩
 case round =>
  clear H'
  obtain ⟨x3_1, rfl, HA, HK1, ⟨m1, rfl⟩⟩ := hrel
  cases gk with
  | zero => exact absurd HA.out (by simp [cofferref4_digit.l0])
  | succ k1 =>
   have H := HA.out
   clear HA
   simp only [cofferref4_digit.l0] at H
   by_cases c2 : x3_1 < 16
   ·
    rw [if_pos c2] at H
    have c2b0 : decide (x3_1 < 16) = true := decide_eq_true c2
    clear c2
    by_cases c3 : 0 ≤ x3_1
    ·
     rw [if_pos c3] at H
     have c3b0 : decide (0 ≤ x3_1) = true := decide_eq_true c3
     clear c3
     by_cases c5 : (bt (⟨#[48, 49, 50, 51, 52, 53, 54, 55, 56, 57, 97, 98, 99, 100, 101, 102]⟩ : ByteArray) x3_1) = a0
     ·
      rw [if_pos c5] at H
      have c5b0 : ((bt (⟨#[48, 49, 50, 51, 52, 53, 54, 55, 56, 57, 97, 98, 99, 100, 101, 102]⟩ : ByteArray) x3_1) == a0) = true := beq_iff_eq.mpr c5
      have c5b1 : ((bt (⟨#[48, 49, 50, 51, 52, 53, 54, 55, 56, 57, 97, 98, 99, 100, 101, 102]⟩ : ByteArray) x3_1) != a0) = false := bne_eq_false_iff_eq.mpr c5
      clear c5
      obtain rfl := Option.some.inj H
      have p4 : 0 ≤ (x3_1 : Int) := of_decide_eq_true (by qa_)
      have q4 : x3_1 < (16 : Int) := of_decide_eq_true (by qa_)
      have hx4 := bt_at (⟨#[48, 49, 50, 51, 52, 53, 54, 55, 56, 57, 97, 98, 99, 100, 101, 102]⟩ : ByteArray) x3_1
      replace p4 := eq_true p4
      replace q4 := eq_true q4
      go_wp2
      go_ret
      exact ⟨by qr_, by qd_⟩
     ·
      rw [if_neg c5] at H
      have c5b0 : ((bt (⟨#[48, 49, 50, 51, 52, 53, 54, 55, 56, 57, 97, 98, 99, 100, 101, 102]⟩ : ByteArray) x3_1) == a0) = false := beq_eq_false_iff_ne.mpr c5
      have c5b1 : ((bt (⟨#[48, 49, 50, 51, 52, 53, 54, 55, 56, 57, 97, 98, 99, 100, 101, 102]⟩ : ByteArray) x3_1) != a0) = true := bne_iff_ne.mpr c5
      have H' := Aside0.mk H
      clear H
      have p4 : 0 ≤ (x3_1 : Int) := of_decide_eq_true (by qa_)
      have q4 : x3_1 < (16 : Int) := of_decide_eq_true (by qa_)
      have hx4 := bt_at (⟨#[48, 49, 50, 51, 52, 53, 54, 55, 56, 57, 97, 98, 99, 100, 101, 102]⟩ : ByteArray) x3_1
      replace p4 := eq_true p4
      replace q4 := eq_true q4
      go_wp2
      go_roundg k1
      case measure => have := HK1.out; omega
      case rel => exact ⟨(wrap64 (x3_1 + 1)), (by qr_), H', ⟨by have := HK1.out; omega⟩, by qd_⟩
    ·
     rw [if_neg c3] at H
     exact absurd H (by simp)
   ·
    rw [if_neg c2] at H
    have c2b0 : decide (x3_1 < 16) = false := decide_eq_false c2
    clear c2
    obtain rfl := Option.some.inj H
    go_wp2
    go_ret
    exact ⟨by qr_, by qd_⟩
end Go.Proofs.YtnfimhdcpmakpaaDoor.S
