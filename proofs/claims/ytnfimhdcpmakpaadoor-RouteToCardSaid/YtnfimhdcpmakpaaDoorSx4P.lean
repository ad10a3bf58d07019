-- By wip/hook.py.
import Derived.Test.YtnfimhdcpmakpaaDoorUnh26P
import Derived.Test.YtnfimhdcpmakpaaDoorSx0P
import Derived.Test.YtnfimhdcpmakpaaDoorSx1P
import Derived.Test.YtnfimhdcpmakpaaDoorSx3P
namespace Go.Proofs.YtnfimhdcpmakpaaDoor.S
open Go.RowKit Go.Proofs.YtnfimhdcpmakpaaDoorW.PrintWords Go.Proofs.YtnfimhdcpmakpaaDoorW.PrintLast Go.Proofs.YtnfimhdcpmakpaaDoorW.PrintMore
attribute [local go_sem] max2_int min2_int max_two min_two max_three min_three max_four min_four
set_option linter.unusedVariables false
set_option linter.unusedSimpArgs false
def route_road_fits.l0 : Nat → List ByteArray → List ByteArray → Int → Int → Option (Bool)
 | 0, _, _, _, _ => none
 | k + 1, x1, x15, x16, x17 => if x17 < x16 then (if 0 ≤ x17 then (if x17 < (x15.length : Int) then (if (rdOf ByteArray.empty x15 x17).toList = ([78, 65, 77, 69] : List UInt8) then (route_road_fits.l0 k x1 x15 x16 (wrap64 (x17 + 1))) else (if (rdOf ByteArray.empty x15 x17).toList = ([72, 69, 88] : List UInt8) then (route_road_fits.l0 k x1 x15 x16 (wrap64 (x17 + 1))) else (if (rdOf ByteArray.empty x15 x17).toList = ([78] : List UInt8) then (route_road_fits.l0 k x1 x15 x16 (wrap64 (x17 + 1))) else (if x17 < (x1.length : Int) then (if (rdOf ByteArray.empty x15 x17).toList = (rdOf ByteArray.empty x1 x17).toList then (route_road_fits.l0 k x1 x15 x16 (wrap64 (x17 + 1))) else (some false)) else (none))))) else (none)) else (none)) else (some true)
def route_road_fits.f (k : Nat) (a0_0 : ByteArray) (a0_1 : ByteArray) (a0_2 : Int) (a0_3 : Bool) (a0_4 : Bool) (a0_5 : Bool) (l1 : List ByteArray) : Option (Bool) := (route_road_parts.f a0_0 a0_1 a0_2 a0_3 a0_4 a0_5).bind fun t172 => (if (t172.length : Int) = (l1.length : Int) then (route_road_fits.l0 k l1 t172 (t172.length : Int) 0) else (some false))
set_option maxHeartbeats 8000000 in
set_option maxRecDepth 100000 in
theorem route_road_fits.calls (k : Nat) (a0_0 : ByteArray) (a0_1 : ByteArray) (a0_2 : Int) (a0_3 : Bool) (a0_4 : Bool) (a0_5 : Bool) (A1 : Option Addr) (c1 : Nat) (l1 : List ByteArray) (r : Bool) (w : World) (hr1 : Kd.C Kd.string w A1 l1.length l1) (hc1 : l1.length ≤ c1) (h : route_road_fits.f k a0_0 a0_1 a0_2 a0_3 a0_4 a0_5 l1 = some r) :
  Calls Tryd.prog 20 #[.agg #[.string a0_0, .string a0_1, .int .i64 a0_2, .bool a0_3, .bool a0_4, .bool a0_5], .slice A1 l1.length c1] w fun e w' => e = .returned (.bool r) ∧ Below w.heap.size w w' := by
 have hu58 := Tryd.underlying58
 have HR1 := Aside0.mk hr1
 have HC1 := Aside0.mk hc1
 clear hr1 hc1
 have HB := Aside0.mk (Below.refl w.heap.size w)
 have H : ((route_road_parts.f a0_0 a0_1 a0_2 a0_3 a0_4 a0_5).bind fun t172 => (if (t172.length : Int) = (l1.length : Int) then (route_road_fits.l0 k l1 t172 (t172.length : Int) 0) else (some false))) = some r := h
 clear h
 replace H := Option.bind_eq_some_iff.mp H
 obtain ⟨t172, A30, H⟩ := H
 replace H : (if (t172.length : Int) = (l1.length : Int) then (route_road_fits.l0 k l1 t172 (t172.length : Int) 0) else (some false)) = some r := H
 have A3 := Aside0.mk A30
 clear A30
 by_cases c4 : (t172.length : Int) = (l1.length : Int)
 ·
  rw [if_pos c4] at H
  have c4b0 : ((t172.length : Int) == (l1.length : Int)) = true := beq_iff_eq.mpr c4
  have c4b1 : ((t172.length : Int) != (l1.length : Int)) = false := bne_eq_false_iff_eq.mpr c4
  have c4b2 : (t172.length == l1.length) = true := by first | simpa using c4 | (simp at c4 ⊢; omega)
  clear c4
  have H' := Aside0.mk H
  clear H
  go_enter Tryd.func20, Tryd.ntmps20
  go_wp2_with (first | ((with_reducible refine gate_dst (N := 2) rfl ?_); refine box_event ?hg (N := 2) ?hd (cs := #[.string a0_0, .string a0_1, .int .i64 a0_2, .bool a0_3, .bool a0_4, .bool a0_5]) (t := 58) ?hr ?_; (case hd => rfl); (case hg => rfl); (case hr => first | (go_simp; done) | (go_simp; rfl)); intro gb171 hg w5 hbox hb; have n0_ := Aside0.mk (below_step (by qh_) hb); have n1_ := Aside0.mk (hbox); have n2_ := Aside0.mk ((by rw [hg]; exact (below_size (by qh_)) : w.heap.size ≤ gb171)); have n3_ := Aside0.mk ((by rw [hg]; exact (below_size (by qh_)) : w.heap.size ≤ gb171)); clear HB; have HB := n0_; have BK171 := n1_; have GW171 := n2_; have GE171 := n3_; clear n0_ n1_ n2_ n3_; clear hb hbox hg; have hcz6_0 : w5.cell? ⟨gb171, 0, none⟩ = some (.string a0_0) := (blk_cell BK171.out 0).trans rfl; have hcz6_1 : w5.cell? ⟨gb171, 1, none⟩ = some (.string a0_1) := (blk_cell BK171.out 1).trans rfl; have hcz6_2 : w5.cell? ⟨gb171, 2, none⟩ = some (.int .i64 a0_2) := (blk_cell BK171.out 2).trans rfl; have hcz6_3 : w5.cell? ⟨gb171, 3, none⟩ = some (.bool a0_3) := (blk_cell BK171.out 3).trans rfl; have hcz6_4 : w5.cell? ⟨gb171, 4, none⟩ = some (.bool a0_4) := (blk_cell BK171.out 4).trans rfl; have hcz6_5 : w5.cell? ⟨gb171, 5, none⟩ = some (.bool a0_5) := (blk_cell BK171.out 5).trans rfl; have hfz6_0 := blk_frozen BK171.out 0; have hfz6_1 := blk_frozen BK171.out 1; have hfz6_2 := blk_frozen BK171.out 2; have hfz6_3 := blk_frozen BK171.out 3; have hfz6_4 := blk_frozen BK171.out 4; have hfz6_5 := blk_frozen BK171.out 5) | ((with_reducible refine gate_callee (f := 38) rfl ?_); refine goesL_ (some 9) rfl rfl Tryd.func38 (by kernel_rfl) rfl #[.agg #[.string a0_0, .string a0_1, .int .i64 a0_2, .bool a0_3, .bool a0_4, .bool a0_5]] rfl (by qm_) ?_; (with_reducible refine (route_road_parts.calls a0_0 a0_1 a0_2 a0_3 a0_4 a0_5 t172 _ A3.out).mono ?_); rintro e w7 ⟨v173, rfl, ho0, hb⟩; refine ⟨_, rfl, ?_⟩; have n0_ := Aside0.mk (Kd.R_lower ho0 (below_size (by repeat (first | (with_reducible first | qp_ | refine below_set ?_ GE171.out) | exact HB.out)))); have n1_ := Aside0.mk (blk_below (g := gb171) (o := .cells #[.string a0_0, .string a0_1, .int .i64 a0_2, .bool a0_3, .bool a0_4, .bool a0_5] 58 (0, 0)) (by qb_; exact BK171.out) hb); have n2_ := Aside0.mk (below_step (by repeat (first | (with_reducible first | qp_ | refine below_set ?_ GE171.out) | exact HB.out)) hb); clear BK171; clear HB; have HO174 := n0_; have BK171 := n1_; have HB := n2_; clear n0_ n1_ n2_; (try clear hb); (try clear hb2); (try clear hk); (try clear hi); (try clear ho0); obtain ⟨Ao8, co8, eo8⟩ := Kd.R_slice HO174.out; subst eo8))
  go_loopg [17] k (fun kq v17 w' => ∃ (x17_1 : Int), v17 = .int .i64 x17_1 ∧ Aside0 (route_road_fits.l0 kq l1 t172 (t172.length : Int) x17_1 = some r) ∧ Aside0 (kq ≤ k) ∧ Aside0 (Kd.R Kd.string 9 w' w.heap.size (fun _ => True) (.slice Ao8 t172.length co8) t172) ∧ Aside0 (w'.heap[gb171]? = some (.cells #[.string a0_0, .string a0_1, .int .i64 a0_2, .bool a0_3, .bool a0_4, .bool a0_5] 58 (0, 0))) ∧ Aside0 (Below w.heap.size w w'))
  case atStart => exact ⟨(0), (by qr_), H', ⟨Nat.le_refl _⟩, ⟨by qk_; exact HO174.out⟩, ⟨by qb_; exact BK171.out⟩, ⟨by repeat (first | (with_reducible first | qp_ | refine below_set ?_ GE171.out) | exact HB.out)⟩⟩
  case round =>
   clear H'
   try clear c1
   try clear c2
   try clear p2
   try clear c3
   try clear c4
   try clear c4b0
   try clear c4b1
   try clear c4b2
   try clear hcz6_0
   try clear hcz6_1
   try clear hcz6_2
   try clear hcz6_3
   try clear hcz6_4
   try clear hcz6_5
   try clear hfz6_0
   try clear hfz6_1
   try clear hfz6_2
   try clear hfz6_3
   try clear hfz6_4
   try clear hfz6_5
   obtain ⟨x17_1, rfl, HA, HK1, HO_15, BK171, HB⟩ := hrel
   cases gk with
   | zero => exact absurd HA.out (by simp [route_road_fits.l0])
   | succ k1 =>
    have H := HA.out
    clear HA
    simp only [route_road_fits.l0] at H
    by_cases c9 : x17_1 < (t172.length : Int)
    ·
     rw [if_pos c9] at H
     have c9b0 : decide (x17_1 < (t172.length : Int)) = true := decide_eq_true c9
     clear c9
     by_cases c10 : 0 ≤ x17_1
     ·
      rw [if_pos c10] at H
      have c10b0 : decide (0 ≤ x17_1) = true := decide_eq_true c10
      clear c10
      by_cases c11 : x17_1 < (t172.length : Int)
      ·
       rw [if_pos c11] at H
       have c11b0 : decide (x17_1 < (t172.length : Int)) = true := decide_eq_true c11
       clear c11
       by_cases c12 : (rdOf ByteArray.empty t172 x17_1).toList = ([78, 65, 77, 69] : List UInt8)
       ·
        rw [if_pos c12] at H
        have c12b0 : ((rdOf ByteArray.empty t172 x17_1).toList == ([78, 65, 77, 69] : List UInt8)) = true := beq_iff_eq.mpr c12
        have c12b1 : ((rdOf ByteArray.empty t172 x17_1).toList != ([78, 65, 77, 69] : List UInt8)) = false := bne_eq_false_iff_eq.mpr c12
        clear c12
        have H' := Aside0.mk H
        clear H
        have p175 : 0 ≤ (x17_1 : Int) := of_decide_eq_true (by qa_)
        have q175 : x17_1 < (t172.length : Int) := of_decide_eq_true (by qa_)
        obtain ⟨ad175, e175, hx175_0⟩ := Kd.at_string (Kd.R_reads' HO_15.out).2.2 x17_1 p175 q175
        cases e175
        replace p175 := eq_true p175
        replace q175 := eq_true q175
        go_wp2
        go_roundg k1
        case measure => have := HK1.out; omega
        case rel => exact ⟨(wrap64 (x17_1 + 1)), (by qr_), H', ⟨by have := HK1.out; omega⟩, ⟨by qk_; exact HO_15.out⟩, ⟨by qb_; exact BK171.out⟩, ⟨by repeat (first | (with_reducible first | qp_ | refine below_set ?_ GE171.out) | exact HB.out)⟩⟩
       ·
        rw [if_neg c12] at H
        have c12b0 : ((rdOf ByteArray.empty t172 x17_1).toList == ([78, 65, 77, 69] : List UInt8)) = false := beq_eq_false_iff_ne.mpr c12
        have c12b1 : ((rdOf ByteArray.empty t172 x17_1).toList != ([78, 65, 77, 69] : List UInt8)) = true := bne_iff_ne.mpr c12
        by_cases c13 : (rdOf ByteArray.empty t172 x17_1).toList = ([72, 69, 88] : List UInt8)
        ·
         rw [if_pos c13] at H
         have c13b0 : ((rdOf ByteArray.empty t172 x17_1).toList == ([72, 69, 88] : List UInt8)) = true := beq_iff_eq.mpr c13
         have c13b1 : ((rdOf ByteArray.empty t172 x17_1).toList != ([72, 69, 88] : List UInt8)) = false := bne_eq_false_iff_eq.mpr c13
         clear c13
         have H' := Aside0.mk H
         clear H
         have p175 : 0 ≤ (x17_1 : Int) := of_decide_eq_true (by qa_)
         have q175 : x17_1 < (t172.length : Int) := of_decide_eq_true (by qa_)
         obtain ⟨ad175, e175, hx175_0⟩ := Kd.at_string (Kd.R_reads' HO_15.out).2.2 x17_1 p175 q175
         cases e175
         replace p175 := eq_true p175
         replace q175 := eq_true q175
         go_wp2
         go_roundg k1
         case measure => have := HK1.out; omega
         case rel => exact ⟨(wrap64 (x17_1 + 1)), (by qr_), H', ⟨by have := HK1.out; omega⟩, ⟨by qk_; exact HO_15.out⟩, ⟨by qb_; exact BK171.out⟩, ⟨by repeat (first | (with_reducible first | qp_ | refine below_set ?_ GE171.out) | exact HB.out)⟩⟩
        ·
         rw [if_neg c13] at H
         have c13b0 : ((rdOf ByteArray.empty t172 x17_1).toList == ([72, 69, 88] : List UInt8)) = false := beq_eq_false_iff_ne.mpr c13
         have c13b1 : ((rdOf ByteArray.empty t172 x17_1).toList != ([72, 69, 88] : List UInt8)) = true := bne_iff_ne.mpr c13
         by_cases c14 : (rdOf ByteArray.empty t172 x17_1).toList = ([78] : List UInt8)
         ·
          rw [if_pos c14] at H
          have c14b0 : ((rdOf ByteArray.empty t172 x17_1).toList == ([78] : List UInt8)) = true := beq_iff_eq.mpr c14
          have c14b1 : ((rdOf ByteArray.empty t172 x17_1).toList != ([78] : List UInt8)) = false := bne_eq_false_iff_eq.mpr c14
          clear c14
          have H' := Aside0.mk H
          clear H
          have p175 : 0 ≤ (x17_1 : Int) := of_decide_eq_true (by qa_)
          have q175 : x17_1 < (t172.length : Int) := of_decide_eq_true (by qa_)
          obtain ⟨ad175, e175, hx175_0⟩ := Kd.at_string (Kd.R_reads' HO_15.out).2.2 x17_1 p175 q175
          cases e175
          replace p175 := eq_true p175
          replace q175 := eq_true q175
          go_wp2
          go_roundg k1
          case measure => have := HK1.out; omega
          case rel => exact ⟨(wrap64 (x17_1 + 1)), (by qr_), H', ⟨by have := HK1.out; omega⟩, ⟨by qk_; exact HO_15.out⟩, ⟨by qb_; exact BK171.out⟩, ⟨by repeat (first | (with_reducible first | qp_ | refine below_set ?_ GE171.out) | exact HB.out)⟩⟩
         ·
          rw [if_neg c14] at H
          have c14b0 : ((rdOf ByteArray.empty t172 x17_1).toList == ([78] : List UInt8)) = false := beq_eq_false_iff_ne.mpr c14
          have c14b1 : ((rdOf ByteArray.empty t172 x17_1).toList != ([78] : List UInt8)) = true := bne_iff_ne.mpr c14
          by_cases c15 : x17_1 < (l1.length : Int)
          ·
           rw [if_pos c15] at H
           have c15b0 : decide (x17_1 < (l1.length : Int)) = true := decide_eq_true c15
           clear c15
           by_cases c16 : (rdOf ByteArray.empty t172 x17_1).toList = (rdOf ByteArray.empty l1 x17_1).toList
           ·
            rw [if_pos c16] at H
            have c16b0 : ((rdOf ByteArray.empty t172 x17_1).toList == (rdOf ByteArray.empty l1 x17_1).toList) = true := beq_iff_eq.mpr c16
            have c16b1 : ((rdOf ByteArray.empty t172 x17_1).toList != (rdOf ByteArray.empty l1 x17_1).toList) = false := bne_eq_false_iff_eq.mpr c16
            clear c16
            have H' := Aside0.mk H
            clear H
            have p175 : 0 ≤ (x17_1 : Int) := of_decide_eq_true (by qa_)
            have q175 : x17_1 < (t172.length : Int) := of_decide_eq_true (by qa_)
            obtain ⟨ad175, e175, hx175_0⟩ := Kd.at_string (Kd.R_reads' HO_15.out).2.2 x17_1 p175 q175
            cases e175
            replace p175 := eq_true p175
            replace q175 := eq_true q175
            have p176 : 0 ≤ (x17_1 : Int) := of_decide_eq_true (by qa_)
            have q176 : x17_1 < (l1.length : Int) := of_decide_eq_true (by qa_)
            obtain ⟨ad176, e176, hx176_0⟩ := Kd.at_string HR1.out x17_1 p176 q176
            cases e176
            replace hx176_0 := (HB.out.cell (World.block_lt_of_cell? w _ hx176_0)).trans hx176_0
            replace p176 := eq_true p176
            replace q176 := eq_true q176
            go_wp2
            go_roundg k1
            case measure => have := HK1.out; omega
            case rel => exact ⟨(wrap64 (x17_1 + 1)), (by qr_), H', ⟨by have := HK1.out; omega⟩, ⟨by qk_; exact HO_15.out⟩, ⟨by qb_; exact BK171.out⟩, ⟨by repeat (first | (with_reducible first | qp_ | refine below_set ?_ GE171.out) | exact HB.out)⟩⟩
           ·
            rw [if_neg c16] at H
            have c16b0 : ((rdOf ByteArray.empty t172 x17_1).toList == (rdOf ByteArray.empty l1 x17_1).toList) = false := beq_eq_false_iff_ne.mpr c16
            have c16b1 : ((rdOf ByteArray.empty t172 x17_1).toList != (rdOf ByteArray.empty l1 x17_1).toList) = true := bne_iff_ne.mpr c16
            obtain rfl := Option.some.inj H
            have p175 : 0 ≤ (x17_1 : Int) := of_decide_eq_true (by qa_)
            have q175 : x17_1 < (t172.length : Int) := of_decide_eq_true (by qa_)
            obtain ⟨ad175, e175, hx175_0⟩ := Kd.at_string (Kd.R_reads' HO_15.out).2.2 x17_1 p175 q175
            cases e175
            replace p175 := eq_true p175
            replace q175 := eq_true q175
            have p176 : 0 ≤ (x17_1 : Int) := of_decide_eq_true (by qa_)
            have q176 : x17_1 < (l1.length : Int) := of_decide_eq_true (by qa_)
            obtain ⟨ad176, e176, hx176_0⟩ := Kd.at_string HR1.out x17_1 p176 q176
            cases e176
            replace hx176_0 := (HB.out.cell (World.block_lt_of_cell? w _ hx176_0)).trans hx176_0
            replace p176 := eq_true p176
            replace q176 := eq_true q176
            go_wp2
            go_ret
            exact ⟨by first | rfl | (simp [errW_none, errW_some] <;> rfl) | (simp [*, errW_none, errW_some] <;> rfl), by repeat (first | (with_reducible first | qp_ | refine below_set ?_ GE171.out) | exact HB.out)⟩
          ·
           rw [if_neg c15] at H
           exact absurd H (by simp)
      ·
       rw [if_neg c11] at H
       exact absurd H (by simp)
     ·
      rw [if_neg c10] at H
      exact absurd H (by simp)
    ·
     rw [if_neg c9] at H
     have c9b0 : decide (x17_1 < (t172.length : Int)) = false := decide_eq_false c9
     clear c9
     obtain rfl := Option.some.inj H
     go_wp2
     go_ret
     exact ⟨by first | rfl | (simp [errW_none, errW_some] <;> rfl) | (simp [*, errW_none, errW_some] <;> rfl), by repeat (first | (with_reducible first | qp_ | refine below_set ?_ GE171.out) | exact HB.out)⟩
 ·
  rw [if_neg c4] at H
  have c4b0 : ((t172.length : Int) == (l1.length : Int)) = false := beq_eq_false_iff_ne.mpr c4
  have c4b1 : ((t172.length : Int) != (l1.length : Int)) = true := bne_iff_ne.mpr c4
  have c4b2 : (t172.length == l1.length) = false := by first | simpa using c4 | (simp at c4 ⊢; omega)
  obtain rfl := Option.some.inj H
  go_enter Tryd.func20, Tryd.ntmps20
  go_wp2_with (first | ((with_reducible refine gate_dst (N := 2) rfl ?_); refine box_event ?hg (N := 2) ?hd (cs := #[.string a0_0, .string a0_1, .int .i64 a0_2, .bool a0_3, .bool a0_4, .bool a0_5]) (t := 58) ?hr ?_; (case hd => rfl); (case hg => rfl); (case hr => first | (go_simp; done) | (go_simp; rfl)); intro gb171 hg w17 hbox hb; have n0_ := Aside0.mk (below_step (by qh_) hb); have n1_ := Aside0.mk (hbox); have n2_ := Aside0.mk ((by rw [hg]; exact (below_size (by qh_)) : w.heap.size ≤ gb171)); have n3_ := Aside0.mk ((by rw [hg]; exact (below_size (by qh_)) : w.heap.size ≤ gb171)); clear HB; have HB := n0_; have BK171 := n1_; have GW171 := n2_; have GE171 := n3_; clear n0_ n1_ n2_ n3_; clear hb hbox hg; have hcz18_0 : w17.cell? ⟨gb171, 0, none⟩ = some (.string a0_0) := (blk_cell BK171.out 0).trans rfl; have hcz18_1 : w17.cell? ⟨gb171, 1, none⟩ = some (.string a0_1) := (blk_cell BK171.out 1).trans rfl; have hcz18_2 : w17.cell? ⟨gb171, 2, none⟩ = some (.int .i64 a0_2) := (blk_cell BK171.out 2).trans rfl; have hcz18_3 : w17.cell? ⟨gb171, 3, none⟩ = some (.bool a0_3) := (blk_cell BK171.out 3).trans rfl; have hcz18_4 : w17.cell? ⟨gb171, 4, none⟩ = some (.bool a0_4) := (blk_cell BK171.out 4).trans rfl; have hcz18_5 : w17.cell? ⟨gb171, 5, none⟩ = some (.bool a0_5) := (blk_cell BK171.out 5).trans rfl; have hfz18_0 := blk_frozen BK171.out 0; have hfz18_1 := blk_frozen BK171.out 1; have hfz18_2 := blk_frozen BK171.out 2; have hfz18_3 := blk_frozen BK171.out 3; have hfz18_4 := blk_frozen BK171.out 4; have hfz18_5 := blk_frozen BK171.out 5) | ((with_reducible refine gate_callee (f := 38) rfl ?_); refine goesL_ (some 9) rfl rfl Tryd.func38 (by kernel_rfl) rfl #[.agg #[.string a0_0, .string a0_1, .int .i64 a0_2, .bool a0_3, .bool a0_4, .bool a0_5]] rfl (by qm_) ?_; (with_reducible refine (route_road_parts.calls a0_0 a0_1 a0_2 a0_3 a0_4 a0_5 t172 _ A3.out).mono ?_); rintro e w19 ⟨v173, rfl, ho0, hb⟩; refine ⟨_, rfl, ?_⟩; have n0_ := Aside0.mk (Kd.R_lower ho0 (below_size (by repeat (first | (with_reducible first | qp_ | refine below_set ?_ GE171.out) | exact HB.out)))); have n1_ := Aside0.mk (blk_below (g := gb171) (o := .cells #[.string a0_0, .string a0_1, .int .i64 a0_2, .bool a0_3, .bool a0_4, .bool a0_5] 58 (0, 0)) (by qb_; exact BK171.out) hb); have n2_ := Aside0.mk (below_step (by repeat (first | (with_reducible first | qp_ | refine below_set ?_ GE171.out) | exact HB.out)) hb); clear BK171; clear HB; have HO174 := n0_; have BK171 := n1_; have HB := n2_; clear n0_ n1_ n2_; (try clear hb); (try clear hb2); (try clear hk); (try clear hi); (try clear ho0); obtain ⟨Ao20, co20, eo20⟩ := Kd.R_slice HO174.out; subst eo20))
  go_ret
  exact ⟨by first | rfl | (simp [errW_none, errW_some] <;> rfl) | (simp [*, errW_none, errW_some] <;> rfl), by repeat (first | (with_reducible first | qp_ | refine below_set ?_ GE171.out) | exact HB.out)⟩
def field_Count.l0 : Nat → ByteArray → Int → List (S41) → Int → Int → Option (Int)
 | 0, _, _, _, _, _ => none
 | k + 1, x1, x5, x8, x9, x10 => if x10 < x9 then (if 0 ≤ x10 then (if x10 < (x8.length : Int) then (if ((rd_T41 x8 x10).f0).toList = x1.toList then (field_Count.l0 k x1 (wrap64 (x5 + 1)) x8 x9 (wrap64 (x10 + 1))) else (field_Count.l0 k x1 x5 x8 x9 (wrap64 (x10 + 1)))) else (none)) else (none)) else (some x5)
def field_Count.f (k : Nat) (l0 : List (S41)) (a1 : ByteArray) : Option (Int) := field_Count.l0 k a1 0 l0 (l0.length : Int) 0
set_option maxHeartbeats 8000000 in
set_option maxRecDepth 100000 in
theorem field_Count.calls (k : Nat) (A0 : Option Addr) (c0 : Nat) (l0 : List (S41)) (a1 : ByteArray) (r : Int) (w : World) (hr0 : Kd.C k41 w A0 l0.length l0) (hc0 : l0.length ≤ c0) (h : field_Count.f k l0 a1 = some r) :
  Calls Tryd.prog 61 #[.slice A0 l0.length c0, .string a1] w fun e w' => e = .returned (.int .i64 r) ∧ Below w.heap.size w w' := by
 have hu41 := Tryd.underlying41
 have HR0 := Aside0.mk hr0
 have HC0 := Aside0.mk hc0
 clear hr0 hc0
 have HB := Aside0.mk (Below.refl w.heap.size w)
 have H : (field_Count.l0 k a1 0 l0 (l0.length : Int) 0) = some r := h
 clear h
 have H' := Aside0.mk H
 clear H
 go_enter Tryd.func61, Tryd.ntmps61
 go_wp2
 go_loopg [5, 10] k (fun kq v5 v10 w' => ∃ (x5_1 : Int) (x10_1 : Int), v5 = .int .i64 x5_1 ∧ v10 = .int .i64 x10_1 ∧ Aside0 (field_Count.l0 kq a1 x5_1 l0 (l0.length : Int) x10_1 = some r) ∧ Aside0 (kq ≤ k) ∧ Aside0 (Below w.heap.size w w'))
 case atStart => exact ⟨(0), (0), (by qr_), (by qr_), H', ⟨Nat.le_refl _⟩, ⟨by qh_⟩⟩
 case round =>
  clear H'
  try clear p2
  obtain ⟨x5_1, x10_1, rfl, rfl, HA, HK1, HB⟩ := hrel
  cases gk with
  | zero => exact absurd HA.out (by simp [field_Count.l0])
  | succ k1 =>
   have H := HA.out
   clear HA
   simp only [field_Count.l0] at H
   by_cases c3 : x10_1 < (l0.length : Int)
   ·
    rw [if_pos c3] at H
    have c3b0 : decide (x10_1 < (l0.length : Int)) = true := decide_eq_true c3
    clear c3
    by_cases c4 : 0 ≤ x10_1
    ·
     rw [if_pos c4] at H
     have c4b0 : decide (0 ≤ x10_1) = true := decide_eq_true c4
     clear c4
     by_cases c5 : x10_1 < (l0.length : Int)
     ·
      rw [if_pos c5] at H
      have c5b0 : decide (x10_1 < (l0.length : Int)) = true := decide_eq_true c5
      clear c5
      by_cases c6 : ((rd_T41 l0 x10_1).f0).toList = a1.toList
      ·
       rw [if_pos c6] at H
       have c6b0 : (((rd_T41 l0 x10_1).f0).toList == a1.toList) = true := beq_iff_eq.mpr c6
       have c6b1 : (((rd_T41 l0 x10_1).f0).toList != a1.toList) = false := bne_eq_false_iff_eq.mpr c6
       clear c6
       have H' := Aside0.mk H
       clear H
       have p177 : 0 ≤ (x10_1 : Int) := of_decide_eq_true (by qa_)
       have q177 : x10_1 < (l0.length : Int) := of_decide_eq_true (by qa_)
       obtain ⟨ad177, e177, hx177_0, hx177_1⟩ := at_T41 HR0.out x10_1 p177 q177
       cases e177
       replace hx177_0 := (HB.out.cell (World.block_lt_of_cell? w _ hx177_0)).trans hx177_0
       replace hx177_1 := (HB.out.cell (World.block_lt_of_cell? w _ hx177_1)).trans hx177_1
       replace p177 := eq_true p177
       replace q177 := eq_true q177
       go_wp2_with (first | ((with_reducible refine gate_dst (N := 7) rfl ?_); refine box_event ?hg (N := 7) ?hd (cs := #[.string (⟨#[]⟩ : ByteArray), .string (⟨#[]⟩ : ByteArray)]) (t := 41) ?hr ?_; (case hd => rfl); (case hg => rfl); (case hr => first | (go_simp; done) | (go_simp; rfl)); intro gb178 hg w7 hbox hb; have n0_ := Aside0.mk (below_step (by qh_) hb); have n1_ := Aside0.mk (hbox); have n2_ := Aside0.mk ((by rw [hg]; exact (below_size (by qh_)) : w.heap.size ≤ gb178)); have n3_ := Aside0.mk ((by rw [hg]; exact (below_size (by qh_)) : w.heap.size ≤ gb178)); clear HB; have HB := n0_; have BK178 := n1_; have GW178 := n2_; have GE178 := n3_; clear n0_ n1_ n2_ n3_; clear hb hbox hg; have hcz8_0 : w7.cell? ⟨gb178, 0, none⟩ = some (.string (⟨#[]⟩ : ByteArray)) := (blk_cell BK178.out 0).trans rfl; have hcz8_1 : w7.cell? ⟨gb178, 1, none⟩ = some (.string (⟨#[]⟩ : ByteArray)) := (blk_cell BK178.out 1).trans rfl; have hfz8_0 := blk_frozen BK178.out 0; have hfz8_1 := blk_frozen BK178.out 1))
       go_roundg k1
       case measure => have := HK1.out; omega
       case rel => exact ⟨(wrap64 (x5_1 + 1)), (wrap64 (x10_1 + 1)), (by qr_), (by qr_), H', ⟨by have := HK1.out; omega⟩, ⟨by repeat (first | (with_reducible first | qp_ | refine below_set ?_ GE178.out) | exact HB.out)⟩⟩
      ·
       rw [if_neg c6] at H
       have c6b0 : (((rd_T41 l0 x10_1).f0).toList == a1.toList) = false := beq_eq_false_iff_ne.mpr c6
       have c6b1 : (((rd_T41 l0 x10_1).f0).toList != a1.toList) = true := bne_iff_ne.mpr c6
       have H' := Aside0.mk H
       clear H
       have p177 : 0 ≤ (x10_1 : Int) := of_decide_eq_true (by qa_)
       have q177 : x10_1 < (l0.length : Int) := of_decide_eq_true (by qa_)
       obtain ⟨ad177, e177, hx177_0, hx177_1⟩ := at_T41 HR0.out x10_1 p177 q177
       cases e177
       replace hx177_0 := (HB.out.cell (World.block_lt_of_cell? w _ hx177_0)).trans hx177_0
       replace hx177_1 := (HB.out.cell (World.block_lt_of_cell? w _ hx177_1)).trans hx177_1
       replace p177 := eq_true p177
       replace q177 := eq_true q177
       go_wp2_with (first | ((with_reducible refine gate_dst (N := 7) rfl ?_); refine box_event ?hg (N := 7) ?hd (cs := #[.string (⟨#[]⟩ : ByteArray), .string (⟨#[]⟩ : ByteArray)]) (t := 41) ?hr ?_; (case hd => rfl); (case hg => rfl); (case hr => first | (go_simp; done) | (go_simp; rfl)); intro gb178 hg w9 hbox hb; have n0_ := Aside0.mk (below_step (by qh_) hb); have n1_ := Aside0.mk (hbox); have n2_ := Aside0.mk ((by rw [hg]; exact (below_size (by qh_)) : w.heap.size ≤ gb178)); have n3_ := Aside0.mk ((by rw [hg]; exact (below_size (by qh_)) : w.heap.size ≤ gb178)); clear HB; have HB := n0_; have BK178 := n1_; have GW178 := n2_; have GE178 := n3_; clear n0_ n1_ n2_ n3_; clear hb hbox hg; have hcz10_0 : w9.cell? ⟨gb178, 0, none⟩ = some (.string (⟨#[]⟩ : ByteArray)) := (blk_cell BK178.out 0).trans rfl; have hcz10_1 : w9.cell? ⟨gb178, 1, none⟩ = some (.string (⟨#[]⟩ : ByteArray)) := (blk_cell BK178.out 1).trans rfl; have hfz10_0 := blk_frozen BK178.out 0; have hfz10_1 := blk_frozen BK178.out 1))
       go_roundg k1
       case measure => have := HK1.out; omega
       case rel => exact ⟨(x5_1), (wrap64 (x10_1 + 1)), (by qr_), (by qr_), H', ⟨by have := HK1.out; omega⟩, ⟨by repeat (first | (with_reducible first | qp_ | refine below_set ?_ GE178.out) | exact HB.out)⟩⟩
     ·
      rw [if_neg c5] at H
      exact absurd H (by simp)
    ·
     rw [if_neg c4] at H
     exact absurd H (by simp)
   ·
    rw [if_neg c3] at H
    have c3b0 : decide (x10_1 < (l0.length : Int)) = false := decide_eq_false c3
    clear c3
    obtain rfl := Option.some.inj H
    go_wp2
    go_ret
    exact ⟨by first | rfl | (simp [errW_none, errW_some] <;> rfl) | (simp [*, errW_none, errW_some] <;> rfl), by qh_⟩
def field_Get.l0 : Nat → ByteArray → List (S41) → Int → Int → Option (ByteArray × Int)
 | 0, _, _, _, _ => none
 | k + 1, x1, x15, x16, x17 => if x17 < x16 then (if 0 ≤ x17 then (if x17 < (x15.length : Int) then (if ((rd_T41 x15 x17).f0).toList = x1.toList then (some ((rd_T41 x15 x17).f1, 0)) else (field_Get.l0 k x1 x15 x16 (wrap64 (x17 + 1)))) else (none)) else (none)) else (some ((⟨#[]⟩ : ByteArray), 5))
def field_Get.f (k : Nat) (l0 : List (S41)) (a1 : ByteArray) : Option (ByteArray × Int) := (field_Count.f k l0 a1).bind fun t179 => (if t179 = 0 then (some ((⟨#[]⟩ : ByteArray), 5)) else (if t179 = 1 then (field_Get.l0 k a1 l0 (l0.length : Int) 0) else (some ((⟨#[]⟩ : ByteArray), 6))))
set_option maxHeartbeats 8000000 in
set_option maxRecDepth 100000 in
theorem field_Get.calls (k : Nat) (A0 : Option Addr) (c0 : Nat) (l0 : List (S41)) (a1 : ByteArray) (r1 : ByteArray) (r2 : Int) (w : World) (hr0 : Kd.C k41 w A0 l0.length l0) (hc0 : l0.length ≤ c0) (h : field_Get.f k l0 a1 = some (r1, r2)) :
  Calls Tryd.prog 39 #[.slice A0 l0.length c0, .string a1] w fun e w' => e = .returned (.tuple #[.string r1, .int .i64 r2]) ∧ Below w.heap.size w w' := by
 have hu41 := Tryd.underlying41
 have HR0 := Aside0.mk hr0
 have HC0 := Aside0.mk hc0
 clear hr0 hc0
 have HB := Aside0.mk (Below.refl w.heap.size w)
 have H : ((field_Count.f k l0 a1).bind fun t179 => (if t179 = 0 then (some ((⟨#[]⟩ : ByteArray), 5)) else (if t179 = 1 then (field_Get.l0 k a1 l0 (l0.length : Int) 0) else (some ((⟨#[]⟩ : ByteArray), 6))))) = some (r1, r2) := h
 clear h
 replace H := Option.bind_eq_some_iff.mp H
 obtain ⟨t179, A30, H⟩ := H
 replace H : (if t179 = 0 then (some ((⟨#[]⟩ : ByteArray), 5)) else (if t179 = 1 then (field_Get.l0 k a1 l0 (l0.length : Int) 0) else (some ((⟨#[]⟩ : ByteArray), 6)))) = some (r1, r2) := H
 have A3 := Aside0.mk A30
 clear A30
 by_cases c4 : t179 = 0
 ·
  rw [if_pos c4] at H
  have c4b0 : (t179 == 0) = true := beq_iff_eq.mpr c4
  have c4b1 : (t179 != 0) = false := bne_eq_false_iff_eq.mpr c4
  clear c4
  simp only [Option.some.injEq, Prod.mk.injEq] at H
  obtain ⟨rfl, rfl⟩ := H
  go_enter Tryd.func39, Tryd.ntmps39
  go_wp2_with (first | ((with_reducible refine gate_callee (f := 61) rfl ?_); refine goesL_ (some 10) rfl rfl Tryd.func61 (by kernel_rfl) rfl #[.slice A0 l0.length c0, .string a1] rfl (by qm_) ?_; (with_reducible refine (field_Count.calls k _ _ l0 a1 t179 _ ?side1 ?side2 A3.out).mono ?_); (case side1 => repeat (first | exact HR0.out | (with_reducible refine Kd.C_alloc ?_ _) | (with_reducible refine Kd.C_drewN ?_ _) | (with_reducible refine Kd.C_drew ?_))); (case side2 => exact HC0.out); rintro e w5 ⟨rfl, hb⟩; refine ⟨_, rfl, ?_⟩; have n0_ := Aside0.mk (below_step (by qh_) hb); clear HB; have HB := n0_; clear n0_; (try clear hb); (try clear hb2); (try clear hk); (try clear hi)))
  go_ret2
  exact ⟨by first | rfl | (simp [errW_none, errW_some] <;> rfl) | (simp [*, errW_none, errW_some] <;> rfl), by qh_⟩
 ·
  rw [if_neg c4] at H
  have c4b0 : (t179 == 0) = false := beq_eq_false_iff_ne.mpr c4
  have c4b1 : (t179 != 0) = true := bne_iff_ne.mpr c4
  by_cases c6 : t179 = 1
  ·
   rw [if_pos c6] at H
   have c6b0 : (t179 == 1) = true := beq_iff_eq.mpr c6
   have c6b1 : (t179 != 1) = false := bne_eq_false_iff_eq.mpr c6
   clear c6
   have H' := Aside0.mk H
   clear H
   go_enter Tryd.func39, Tryd.ntmps39
   go_wp2_with (first | ((with_reducible refine gate_callee (f := 61) rfl ?_); refine goesL_ (some 10) rfl rfl Tryd.func61 (by kernel_rfl) rfl #[.slice A0 l0.length c0, .string a1] rfl (by qm_) ?_; (with_reducible refine (field_Count.calls k _ _ l0 a1 t179 _ ?side1 ?side2 A3.out).mono ?_); (case side1 => repeat (first | exact HR0.out | (with_reducible refine Kd.C_alloc ?_ _) | (with_reducible refine Kd.C_drewN ?_ _) | (with_reducible refine Kd.C_drew ?_))); (case side2 => exact HC0.out); rintro e w7 ⟨rfl, hb⟩; refine ⟨_, rfl, ?_⟩; have n0_ := Aside0.mk (below_step (by qh_) hb); clear HB; have HB := n0_; clear n0_; (try clear hb); (try clear hb2); (try clear hk); (try clear hi)))
   go_loopg [17] k (fun kq v17 w' => ∃ (x17_1 : Int), v17 = .int .i64 x17_1 ∧ Aside0 (field_Get.l0 kq a1 l0 (l0.length : Int) x17_1 = some (r1, r2)) ∧ Aside0 (kq ≤ k) ∧ Aside0 (Below w.heap.size w w'))
   case atStart => exact ⟨(0), (by qr_), H', ⟨Nat.le_refl _⟩, ⟨by qh_⟩⟩
   case round =>
    clear H'
    try clear p2
    try clear c3
    try clear c4
    try clear c4b0
    try clear c4b1
    try clear c6
    try clear c6b0
    try clear c6b1
    obtain ⟨x17_1, rfl, HA, HK1, HB⟩ := hrel
    cases gk with
    | zero => exact absurd HA.out (by simp [field_Get.l0])
    | succ k1 =>
     have H := HA.out
     clear HA
     simp only [field_Get.l0] at H
     by_cases c8 : x17_1 < (l0.length : Int)
     ·
      rw [if_pos c8] at H
      have c8b0 : decide (x17_1 < (l0.length : Int)) = true := decide_eq_true c8
      clear c8
      by_cases c9 : 0 ≤ x17_1
      ·
       rw [if_pos c9] at H
       have c9b0 : decide (0 ≤ x17_1) = true := decide_eq_true c9
       clear c9
       by_cases c10 : x17_1 < (l0.length : Int)
       ·
        rw [if_pos c10] at H
        have c10b0 : decide (x17_1 < (l0.length : Int)) = true := decide_eq_true c10
        clear c10
        by_cases c11 : ((rd_T41 l0 x17_1).f0).toList = a1.toList
        ·
         rw [if_pos c11] at H
         have c11b0 : (((rd_T41 l0 x17_1).f0).toList == a1.toList) = true := beq_iff_eq.mpr c11
         have c11b1 : (((rd_T41 l0 x17_1).f0).toList != a1.toList) = false := bne_eq_false_iff_eq.mpr c11
         clear c11
         simp only [Option.some.injEq, Prod.mk.injEq] at H
         obtain ⟨rfl, rfl⟩ := H
         have p180 : 0 ≤ (x17_1 : Int) := of_decide_eq_true (by qa_)
         have q180 : x17_1 < (l0.length : Int) := of_decide_eq_true (by qa_)
         obtain ⟨ad180, e180, hx180_0, hx180_1⟩ := at_T41 HR0.out x17_1 p180 q180
         cases e180
         replace hx180_0 := (HB.out.cell (World.block_lt_of_cell? w _ hx180_0)).trans hx180_0
         replace hx180_1 := (HB.out.cell (World.block_lt_of_cell? w _ hx180_1)).trans hx180_1
         replace p180 := eq_true p180
         replace q180 := eq_true q180
         go_wp2_with (first | ((with_reducible refine gate_dst (N := 7) rfl ?_); refine box_event ?hg (N := 7) ?hd (cs := #[.string (⟨#[]⟩ : ByteArray), .string (⟨#[]⟩ : ByteArray)]) (t := 41) ?hr ?_; (case hd => rfl); (case hg => rfl); (case hr => first | (go_simp; done) | (go_simp; rfl)); intro gb181 hg w12 hbox hb; have n0_ := Aside0.mk (below_step (by qh_) hb); have n1_ := Aside0.mk (hbox); have n2_ := Aside0.mk ((by rw [hg]; exact (below_size (by qh_)) : w.heap.size ≤ gb181)); have n3_ := Aside0.mk ((by rw [hg]; exact (below_size (by qh_)) : w.heap.size ≤ gb181)); clear HB; have HB := n0_; have BK181 := n1_; have GW181 := n2_; have GE181 := n3_; clear n0_ n1_ n2_ n3_; clear hb hbox hg; have hcz13_0 : w12.cell? ⟨gb181, 0, none⟩ = some (.string (⟨#[]⟩ : ByteArray)) := (blk_cell BK181.out 0).trans rfl; have hcz13_1 : w12.cell? ⟨gb181, 1, none⟩ = some (.string (⟨#[]⟩ : ByteArray)) := (blk_cell BK181.out 1).trans rfl; have hfz13_0 := blk_frozen BK181.out 0; have hfz13_1 := blk_frozen BK181.out 1))
         go_ret2
         exact ⟨by first | rfl | (simp [errW_none, errW_some] <;> rfl) | (simp [*, errW_none, errW_some] <;> rfl), by repeat (first | (with_reducible first | qp_ | refine below_set ?_ GE181.out) | exact HB.out)⟩
        ·
         rw [if_neg c11] at H
         have c11b0 : (((rd_T41 l0 x17_1).f0).toList == a1.toList) = false := beq_eq_false_iff_ne.mpr c11
         have c11b1 : (((rd_T41 l0 x17_1).f0).toList != a1.toList) = true := bne_iff_ne.mpr c11
         have H' := Aside0.mk H
         clear H
         have p180 : 0 ≤ (x17_1 : Int) := of_decide_eq_true (by qa_)
         have q180 : x17_1 < (l0.length : Int) := of_decide_eq_true (by qa_)
         obtain ⟨ad180, e180, hx180_0, hx180_1⟩ := at_T41 HR0.out x17_1 p180 q180
         cases e180
         replace hx180_0 := (HB.out.cell (World.block_lt_of_cell? w _ hx180_0)).trans hx180_0
         replace hx180_1 := (HB.out.cell (World.block_lt_of_cell? w _ hx180_1)).trans hx180_1
         replace p180 := eq_true p180
         replace q180 := eq_true q180
         go_wp2_with (first | ((with_reducible refine gate_dst (N := 7) rfl ?_); refine box_event ?hg (N := 7) ?hd (cs := #[.string (⟨#[]⟩ : ByteArray), .string (⟨#[]⟩ : ByteArray)]) (t := 41) ?hr ?_; (case hd => rfl); (case hg => rfl); (case hr => first | (go_simp; done) | (go_simp; rfl)); intro gb181 hg w14 hbox hb; have n0_ := Aside0.mk (below_step (by qh_) hb); have n1_ := Aside0.mk (hbox); have n2_ := Aside0.mk ((by rw [hg]; exact (below_size (by qh_)) : w.heap.size ≤ gb181)); have n3_ := Aside0.mk ((by rw [hg]; exact (below_size (by qh_)) : w.heap.size ≤ gb181)); clear HB; have HB := n0_; have BK181 := n1_; have GW181 := n2_; have GE181 := n3_; clear n0_ n1_ n2_ n3_; clear hb hbox hg; have hcz15_0 : w14.cell? ⟨gb181, 0, none⟩ = some (.string (⟨#[]⟩ : ByteArray)) := (blk_cell BK181.out 0).trans rfl; have hcz15_1 : w14.cell? ⟨gb181, 1, none⟩ = some (.string (⟨#[]⟩ : ByteArray)) := (blk_cell BK181.out 1).trans rfl; have hfz15_0 := blk_frozen BK181.out 0; have hfz15_1 := blk_frozen BK181.out 1))
         go_roundg k1
         case measure => have := HK1.out; omega
         case rel => exact ⟨(wrap64 (x17_1 + 1)), (by qr_), H', ⟨by have := HK1.out; omega⟩, ⟨by repeat (first | (with_reducible first | qp_ | refine below_set ?_ GE181.out) | exact HB.out)⟩⟩
       ·
        rw [if_neg c10] at H
        exact absurd H (by simp)
      ·
       rw [if_neg c9] at H
       exact absurd H (by simp)
     ·
      rw [if_neg c8] at H
      have c8b0 : decide (x17_1 < (l0.length : Int)) = false := decide_eq_false c8
      clear c8
      simp only [Option.some.injEq, Prod.mk.injEq] at H
      obtain ⟨rfl, rfl⟩ := H
      go_wp2
      go_ret2
      exact ⟨by first | rfl | (simp [errW_none, errW_some] <;> rfl) | (simp [*, errW_none, errW_some] <;> rfl), by qh_⟩
  ·
   rw [if_neg c6] at H
   have c6b0 : (t179 == 1) = false := beq_eq_false_iff_ne.mpr c6
   have c6b1 : (t179 != 1) = true := bne_iff_ne.mpr c6
   simp only [Option.some.injEq, Prod.mk.injEq] at H
   obtain ⟨rfl, rfl⟩ := H
   go_enter Tryd.func39, Tryd.ntmps39
   go_wp2_with (first | ((with_reducible refine gate_callee (f := 61) rfl ?_); refine goesL_ (some 10) rfl rfl Tryd.func61 (by kernel_rfl) rfl #[.slice A0 l0.length c0, .string a1] rfl (by qm_) ?_; (with_reducible refine (field_Count.calls k _ _ l0 a1 t179 _ ?side1 ?side2 A3.out).mono ?_); (case side1 => repeat (first | exact HR0.out | (with_reducible refine Kd.C_alloc ?_ _) | (with_reducible refine Kd.C_drewN ?_ _) | (with_reducible refine Kd.C_drew ?_))); (case side2 => exact HC0.out); rintro e w16 ⟨rfl, hb⟩; refine ⟨_, rfl, ?_⟩; have n0_ := Aside0.mk (below_step (by qh_) hb); clear HB; have HB := n0_; clear n0_; (try clear hb); (try clear hb2); (try clear hk); (try clear hi)))
   go_ret2
   exact ⟨by first | rfl | (simp [errW_none, errW_some] <;> rfl) | (simp [*, errW_none, errW_some] <;> rfl), by qh_⟩
def stringslite_CutPrefix.f (a0 : ByteArray) (a1 : ByteArray) : Option (ByteArray × Bool) := (stringslite_HasPrefix.f a0 a1).bind fun t182 => (if t182 = true then (if 0 ≤ (a1.size : Int) then (if (a1.size : Int) ≤ (a0.size : Int) then (some (a0.extract ((a1.size : Int) : Int).toNat a0.size, true)) else (none)) else (none)) else (some (a0, false)))
set_option maxHeartbeats 8000000 in
set_option maxRecDepth 100000 in
theorem stringslite_CutPrefix.calls (a0 : ByteArray) (a1 : ByteArray) (r1 : ByteArray) (r2 : Bool) (w : World) (h : stringslite_CutPrefix.f a0 a1 = some (r1, r2)) :
  Calls Tryd.prog 62 #[.string a0, .string a1] w fun e w' => e = .returned (.tuple #[.string r1, .bool r2]) ∧ Drawn0 w w' := by
 have H : ((stringslite_HasPrefix.f a0 a1).bind fun t182 => (if t182 = true then (if 0 ≤ (a1.size : Int) then (if (a1.size : Int) ≤ (a0.size : Int) then (some (a0.extract ((a1.size : Int) : Int).toNat a0.size, true)) else (none)) else (none)) else (some (a0, false)))) = some (r1, r2) := h
 clear h
 replace H := Option.bind_eq_some_iff.mp H
 obtain ⟨t182, A30, H⟩ := H
 replace H : (if t182 = true then (if 0 ≤ (a1.size : Int) then (if (a1.size : Int) ≤ (a0.size : Int) then (some (a0.extract ((a1.size : Int) : Int).toNat a0.size, true)) else (none)) else (none)) else (some (a0, false))) = some (r1, r2) := H
 have A3 := Aside0.mk A30
 clear A30
 by_cases c4 : t182 = true
 ·
  subst c4
  have H1 : (if 0 ≤ (a1.size : Int) then (if (a1.size : Int) ≤ (a0.size : Int) then (some (a0.extract ((a1.size : Int) : Int).toNat a0.size, true)) else (none)) else (none)) = some (r1, r2) := by rw [if_pos rfl] at H; exact H
  clear H
  have H := H1
  clear H1
  by_cases c5 : 0 ≤ (a1.size : Int)
  ·
   rw [if_pos c5] at H
   have c5b0 := eq_true c5
   have c5b1 : decide (0 ≤ (a1.size : Int)) = true := decide_eq_true c5
   clear c5
   by_cases c6 : (a1.size : Int) ≤ (a0.size : Int)
   ·
    rw [if_pos c6] at H
    have c6b0 := eq_true c6
    have c6b1 : decide ((a1.size : Int) ≤ (a0.size : Int)) = true := decide_eq_true c6
    clear c6
    simp only [Option.some.injEq, Prod.mk.injEq] at H
    obtain ⟨rfl, rfl⟩ := H
    go_enter Tryd.func62, Tryd.ntmps62
    go_wp2_with (first | ((with_reducible refine gate_callee (f := 71) rfl ?_); refine goesL_ (some 8) rfl rfl Tryd.func71 (by kernel_rfl) rfl #[.string a0, .string a1] rfl (by qm_) ?_; (with_reducible refine (stringslite_HasPrefix.calls a0 a1 true _ A3.out).mono ?_); rintro e w' ⟨rfl, ⟨nd, rfl⟩⟩; refine ⟨_, rfl, ?_⟩))
    go_ret2
    exact ⟨by qr_, by qd_⟩
   ·
    rw [if_neg c6] at H
    exact absurd H (by simp)
  ·
   rw [if_neg c5] at H
   exact absurd H (by simp)
 ·
  replace c4 := Bool.eq_false_iff.mpr c4
  subst c4
  have H1 : (some (a0, false)) = some (r1, r2) := by rw [if_neg (show ¬ (false = true) by decide)] at H; exact H
  clear H
  have H := H1
  clear H1
  simp only [Option.some.injEq, Prod.mk.injEq] at H
  obtain ⟨rfl, rfl⟩ := H
  go_enter Tryd.func62, Tryd.ntmps62
  go_wp2_with (first | ((with_reducible refine gate_callee (f := 71) rfl ?_); refine goesL_ (some 8) rfl rfl Tryd.func71 (by kernel_rfl) rfl #[.string a0, .string a1] rfl (by qm_) ?_; (with_reducible refine (stringslite_HasPrefix.calls a0 a1 false _ A3.out).mono ?_); rintro e w' ⟨rfl, ⟨nd, rfl⟩⟩; refine ⟨_, rfl, ?_⟩))
  go_ret2
  exact ⟨by qr_, by qd_⟩
def strings_CutPrefix.f (a0 : ByteArray) (a1 : ByteArray) : Option (ByteArray × Bool) := (stringslite_CutPrefix.f a0 a1).bind fun bt183 => (some (bt183.1, bt183.2))
set_option maxHeartbeats 8000000 in
set_option maxRecDepth 100000 in
theorem strings_CutPrefix.calls (a0 : ByteArray) (a1 : ByteArray) (r1 : ByteArray) (r2 : Bool) (w : World) (h : strings_CutPrefix.f a0 a1 = some (r1, r2)) :
  Calls Tryd.prog 40 #[.string a0, .string a1] w fun e w' => e = .returned (.tuple #[.string r1, .bool r2]) ∧ Drawn0 w w' := by
 have H : ((stringslite_CutPrefix.f a0 a1).bind fun bt183 => (some (bt183.1, bt183.2))) = some (r1, r2) := h
 clear h
 replace H := Option.bind_eq_some_iff.mp H
 obtain ⟨⟨t183, t184⟩, A30, H⟩ := H
 replace H : (some (t183, t184)) = some (r1, r2) := H
 have A3 := Aside0.mk A30
 clear A30
 simp only [Option.some.injEq, Prod.mk.injEq] at H
 obtain ⟨rfl, rfl⟩ := H
 go_enter Tryd.func40, Tryd.ntmps40
 go_wp2_with (first | ((with_reducible refine gate_callee (f := 62) rfl ?_); refine goesL_ (some 8) rfl rfl Tryd.func62 (by kernel_rfl) rfl #[.string a0, .string a1] rfl (by qm_) ?_; (with_reducible refine (stringslite_CutPrefix.calls a0 a1 t183 t184 _ A3.out).mono ?_); rintro e w' ⟨rfl, ⟨nd, rfl⟩⟩; refine ⟨_, rfl, ?_⟩))
 go_ret2
 exact ⟨by qr_, by qd_⟩
def route_token.f (k : Nat) (l0 : List (S41)) : Option (List Int) := (field_Get.f k l0 (⟨#[97, 117, 116, 104, 111, 114, 105, 122, 97, 116, 105, 111, 110]⟩ : ByteArray)).bind fun bt185 => (if bt185.2 = 5 then (some ([] : List Int)) else ((strings_CutPrefix.f bt185.1 (⟨#[66, 101, 97, 114, 101, 114, 32]⟩ : ByteArray)).bind fun bt187 => ((xUnhex.f bt187.1).bind fun bt189 => (if bt185.2 = 0 then (if bt187.2 = true then (if bt189.2 = 0 then (if (bt189.1.length : Int) = 0 then (some (([0] : List Int))) else (some bt189.1)) else (some (([0] : List Int)))) else (some (([0] : List Int)))) else (some (([0] : List Int)))))))
set_option maxHeartbeats 8000000 in
set_option maxRecDepth 100000 in
theorem route_token.calls (k : Nat) (A0 : Option Addr) (c0 : Nat) (l0 : List (S41)) (r : List Int) (w : World) (hr0 : Kd.C k41 w A0 l0.length l0) (hc0 : l0.length ≤ c0) (h : route_token.f k l0 = some r) :
  Calls Tryd.prog 21 #[.slice A0 l0.length c0] w fun e w' => ∃ v0_ : Value, e = .returned (v0_) ∧ Kd.R (Kd.int .u8) 5 w' w.heap.size (fun _ => True) v0_ r ∧ Below w.heap.size w w' := by
 have HR0 := Aside0.mk hr0
 have HC0 := Aside0.mk hc0
 clear hr0 hc0
 have HB := Aside0.mk (Below.refl w.heap.size w)
 have H : ((field_Get.f k l0 (⟨#[97, 117, 116, 104, 111, 114, 105, 122, 97, 116, 105, 111, 110]⟩ : ByteArray)).bind fun bt185 => (if bt185.2 = 5 then (some ([] : List Int)) else ((strings_CutPrefix.f bt185.1 (⟨#[66, 101, 97, 114, 101, 114, 32]⟩ : ByteArray)).bind fun bt187 => ((xUnhex.f bt187.1).bind fun bt189 => (if bt185.2 = 0 then (if bt187.2 = true then (if bt189.2 = 0 then (if (bt189.1.length : Int) = 0 then (some (([0] : List Int))) else (some bt189.1)) else (some (([0] : List Int)))) else (some (([0] : List Int)))) else (some (([0] : List Int)))))))) = some r := h
 clear h
 replace H := Option.bind_eq_some_iff.mp H
 obtain ⟨⟨t185, t186⟩, A20, H⟩ := H
 replace H : (if t186 = 5 then (some ([] : List Int)) else ((strings_CutPrefix.f t185 (⟨#[66, 101, 97, 114, 101, 114, 32]⟩ : ByteArray)).bind fun bt187 => ((xUnhex.f bt187.1).bind fun bt189 => (if t186 = 0 then (if bt187.2 = true then (if bt189.2 = 0 then (if (bt189.1.length : Int) = 0 then (some (([0] : List Int))) else (some bt189.1)) else (some (([0] : List Int)))) else (some (([0] : List Int)))) else (some (([0] : List Int))))))) = some r := H
 have A2 := Aside0.mk A20
 clear A20
 by_cases c3 : t186 = 5
 ·
  rw [if_pos c3] at H
  have c3b0 : (t186 == 5) = true := beq_iff_eq.mpr c3
  have c3b1 : (t186 != 5) = false := bne_eq_false_iff_eq.mpr c3
  clear c3
  obtain rfl := Option.some.inj H
  go_enter Tryd.func21, Tryd.ntmps21
  go_wp2_with (first | ((with_reducible refine gate_callee (f := 39) rfl ?_); refine goesL_ (some 11) rfl rfl Tryd.func39 (by kernel_rfl) rfl #[.slice A0 l0.length c0, .string (⟨#[97, 117, 116, 104, 111, 114, 105, 122, 97, 116, 105, 111, 110]⟩ : ByteArray)] rfl (by qm_) ?_; (with_reducible refine (field_Get.calls k _ _ l0 (⟨#[97, 117, 116, 104, 111, 114, 105, 122, 97, 116, 105, 111, 110]⟩ : ByteArray) t185 t186 _ ?side1 ?side2 A2.out).mono ?_); (case side1 => repeat (first | exact HR0.out | (with_reducible refine Kd.C_alloc ?_ _) | (with_reducible refine Kd.C_drewN ?_ _) | (with_reducible refine Kd.C_drew ?_))); (case side2 => exact HC0.out); rintro e w4 ⟨rfl, hb⟩; refine ⟨_, rfl, ?_⟩; have n0_ := Aside0.mk (below_step (by qh_) hb); clear HB; have HB := n0_; clear n0_; (try clear hb); (try clear hb2); (try clear hk); (try clear hi)))
  go_ret
  exact ⟨_, by first | rfl | (simp [errW_none, errW_some] <;> rfl) | (simp [*, errW_none, errW_some] <;> rfl), by first | exact Kd.R_nil _ _ _ _ _ | exact Kd.N_nil _ _ _ _ _ | exact Kd.V_nil _ _ _ _ _ | exact Kd.Q_nil _ _ _ _ _ | exact Kd.S_nil _ _ _ _ _, by qh_⟩
 ·
  rw [if_neg c3] at H
  have c3b0 : (t186 == 5) = false := beq_eq_false_iff_ne.mpr c3
  have c3b1 : (t186 != 5) = true := bne_iff_ne.mpr c3
  replace H := Option.bind_eq_some_iff.mp H
  obtain ⟨⟨t187, t188⟩, A50, H⟩ := H
  replace H : ((xUnhex.f t187).bind fun bt189 => (if t186 = 0 then (if t188 = true then (if bt189.2 = 0 then (if (bt189.1.length : Int) = 0 then (some (([0] : List Int))) else (some bt189.1)) else (some (([0] : List Int)))) else (some (([0] : List Int)))) else (some (([0] : List Int))))) = some r := H
  have A5 := Aside0.mk A50
  clear A50
  replace H := Option.bind_eq_some_iff.mp H
  obtain ⟨⟨t189, t190⟩, A60, H⟩ := H
  replace H : (if t186 = 0 then (if t188 = true then (if t190 = 0 then (if (t189.length : Int) = 0 then (some (([0] : List Int))) else (some t189)) else (some (([0] : List Int)))) else (some (([0] : List Int)))) else (some (([0] : List Int)))) = some r := H
  have A6 := Aside0.mk A60
  clear A60
  by_cases c7 : t186 = 0
  ·
   rw [if_pos c7] at H
   have c7b0 : (t186 == 0) = true := beq_iff_eq.mpr c7
   have c7b1 : (t186 != 0) = false := bne_eq_false_iff_eq.mpr c7
   clear c7
   by_cases c8 : t188 = true
   ·
    subst c8
    have H1 : (if t190 = 0 then (if (t189.length : Int) = 0 then (some (([0] : List Int))) else (some t189)) else (some (([0] : List Int)))) = some r := by rw [if_pos rfl] at H; exact H
    clear H
    have H := H1
    clear H1
    by_cases c9 : t190 = 0
    ·
     rw [if_pos c9] at H
     have c9b0 : (t190 == 0) = true := beq_iff_eq.mpr c9
     have c9b1 : (t190 != 0) = false := bne_eq_false_iff_eq.mpr c9
     clear c9
     by_cases c10 : (t189.length : Int) = 0
     ·
      rw [if_pos c10] at H
      have c10b0 : ((t189.length : Int) == 0) = true := beq_iff_eq.mpr c10
      have c10b1 : ((t189.length : Int) != 0) = false := bne_eq_false_iff_eq.mpr c10
      clear c10
      obtain ⟨y193, hy193⟩ : ∃ y_ : List Int, y_ = (([0] : List Int)) := ⟨_, rfl⟩
      replace H : (some y193) = some r := by first | (rw [hy193]; with_reducible exact H) | (have H2_ := (Option.bind_some _ _).symm.trans H; rw [hy193]; with_reducible exact H2_) | (have H2_ := (Option.bind_some _ _).symm.trans H; with_reducible exact H2_) | with_reducible exact H | (rw [hy193]; exact H) | exact H
      have Ny193 := Aside0.mk hy193
      clear hy193
      obtain rfl := Option.some.inj H
      go_enter Tryd.func21, Tryd.ntmps21
      go_wp2_with (first | ((with_reducible refine gate_callee (f := 39) rfl ?_); refine goesL_ (some 11) rfl rfl Tryd.func39 (by kernel_rfl) rfl #[.slice A0 l0.length c0, .string (⟨#[97, 117, 116, 104, 111, 114, 105, 122, 97, 116, 105, 111, 110]⟩ : ByteArray)] rfl (by qm_) ?_; (with_reducible refine (field_Get.calls k _ _ l0 (⟨#[97, 117, 116, 104, 111, 114, 105, 122, 97, 116, 105, 111, 110]⟩ : ByteArray) t185 t186 _ ?side1 ?side2 A2.out).mono ?_); (case side1 => repeat (first | exact HR0.out | (with_reducible refine Kd.C_alloc ?_ _) | (with_reducible refine Kd.C_drewN ?_ _) | (with_reducible refine Kd.C_drew ?_))); (case side2 => exact HC0.out); rintro e w11 ⟨rfl, hb⟩; refine ⟨_, rfl, ?_⟩; have n0_ := Aside0.mk (below_step (by qh_) hb); clear HB; have HB := n0_; clear n0_; (try clear hb); (try clear hb2); (try clear hk); (try clear hi)) | ((with_reducible refine gate_callee (f := 40) rfl ?_); refine goesL_ (some 18) rfl rfl Tryd.func40 (by kernel_rfl) rfl #[.string t185, .string (⟨#[66, 101, 97, 114, 101, 114, 32]⟩ : ByteArray)] rfl (by qm_) ?_; (with_reducible refine (strings_CutPrefix.calls t185 (⟨#[66, 101, 97, 114, 101, 114, 32]⟩ : ByteArray) t187 true _ A5.out).mono ?_); rintro e w' ⟨rfl, ⟨nd, rfl⟩⟩; refine ⟨_, rfl, ?_⟩) | ((with_reducible refine gate_callee (f := 41) rfl ?_); refine goesL_ (some 23) rfl rfl Tryd.func41 (by kernel_rfl) rfl #[.string t187] rfl (by qm_) ?_; (with_reducible refine (xUnhex.calls t187 t189 t190 _ A6.out).mono ?_); rintro e w12 ⟨v191, rfl, ho0, hb⟩; refine ⟨_, rfl, ?_⟩; have n0_ := Aside0.mk (Kd.R_lower ho0 (below_size (by qh_))); have n1_ := Aside0.mk (below_step (by qh_) hb); clear HB; have HO192 := n0_; have HB := n1_; clear n0_ n1_; (try clear hb); (try clear hb2); (try clear hk); (try clear hi); (try clear ho0); obtain ⟨Ao13, co13, eo13⟩ := Kd.R_slice HO192.out; subst eo13) | ((with_reducible refine gate_dst (N := 41) rfl ?_); (try (refine gate_guard (by rfl) ?_; dsimp only)); refine Kd.R_lit (Kd.int .u8) _ 5 ?hg (N := 41) ?hd (xs := ([0] : List Int)) (inner := [.int .u8 0]) (ok := fun _ => True) (okp := fun _ => True) ?hr ?hp (fun _ hk => hk) trivial (Below.refl _ _) (Nat.le_refl _) (by simp) ?_; (case hd => rfl); (case hg => rfl); (case hr => first | (go_simp; done) | (go_simp; rfl)); (case hp => exact (Reps.one (show Kd.M (Kd.int .u8) _ _ _ 0 [.int .u8 0] from rfl) (Reps.none _ _))); intro v194 w14 ho15 hb hg_ hnew_; clear hg_ hnew_; (first | rw [← Ny193.out] at ho15 | (simp only [Int.reduceToNat] at ho15; rw [← Ny193.out] at ho15)); have n0_ := Aside0.mk (Kd.R_elder' (by qk_; exact HO192.out) (Kd.R_base ho15) hb); have n1_ := Aside0.mk (Kd.R_lower (Kd.R_new' ho15 (Kd.R_lt (by qk_; exact HO192.out))) (below_size (by qh_))); have n2_ := Aside0.mk (below_step (by qh_) hb); clear HO192; clear HB; have HO192 := n0_; have HO195 := n1_; have HB := n2_; clear n0_ n1_ n2_; clear hb ho15))
      go_ret
      exact ⟨_, by first | rfl | (simp [errW_none, errW_some] <;> rfl) | (simp [*, errW_none, errW_some] <;> rfl), by qk_; exact Kd.R_mono HO195.out (fun _ hk => trivial), by qh_⟩
     ·
      rw [if_neg c10] at H
      have c10b0 : ((t189.length : Int) == 0) = false := beq_eq_false_iff_ne.mpr c10
      have c10b1 : ((t189.length : Int) != 0) = true := bne_iff_ne.mpr c10
      have c10b2 : ¬ (t189 = []) := fun h_ => c10 (by rw [h_]; rfl)
      obtain rfl := Option.some.inj H
      go_enter Tryd.func21, Tryd.ntmps21
      go_wp2_with (first | ((with_reducible refine gate_callee (f := 39) rfl ?_); refine goesL_ (some 11) rfl rfl Tryd.func39 (by kernel_rfl) rfl #[.slice A0 l0.length c0, .string (⟨#[97, 117, 116, 104, 111, 114, 105, 122, 97, 116, 105, 111, 110]⟩ : ByteArray)] rfl (by qm_) ?_; (with_reducible refine (field_Get.calls k _ _ l0 (⟨#[97, 117, 116, 104, 111, 114, 105, 122, 97, 116, 105, 111, 110]⟩ : ByteArray) t185 t186 _ ?side1 ?side2 A2.out).mono ?_); (case side1 => repeat (first | exact HR0.out | (with_reducible refine Kd.C_alloc ?_ _) | (with_reducible refine Kd.C_drewN ?_ _) | (with_reducible refine Kd.C_drew ?_))); (case side2 => exact HC0.out); rintro e w16 ⟨rfl, hb⟩; refine ⟨_, rfl, ?_⟩; have n0_ := Aside0.mk (below_step (by qh_) hb); clear HB; have HB := n0_; clear n0_; (try clear hb); (try clear hb2); (try clear hk); (try clear hi)) | ((with_reducible refine gate_callee (f := 40) rfl ?_); refine goesL_ (some 18) rfl rfl Tryd.func40 (by kernel_rfl) rfl #[.string t185, .string (⟨#[66, 101, 97, 114, 101, 114, 32]⟩ : ByteArray)] rfl (by qm_) ?_; (with_reducible refine (strings_CutPrefix.calls t185 (⟨#[66, 101, 97, 114, 101, 114, 32]⟩ : ByteArray) t187 true _ A5.out).mono ?_); rintro e w' ⟨rfl, ⟨nd, rfl⟩⟩; refine ⟨_, rfl, ?_⟩) | ((with_reducible refine gate_callee (f := 41) rfl ?_); refine goesL_ (some 23) rfl rfl Tryd.func41 (by kernel_rfl) rfl #[.string t187] rfl (by qm_) ?_; (with_reducible refine (xUnhex.calls t187 t189 t190 _ A6.out).mono ?_); rintro e w17 ⟨v191, rfl, ho0, hb⟩; refine ⟨_, rfl, ?_⟩; have n0_ := Aside0.mk (Kd.R_lower ho0 (below_size (by qh_))); have n1_ := Aside0.mk (below_step (by qh_) hb); clear HB; have HO192 := n0_; have HB := n1_; clear n0_ n1_; (try clear hb); (try clear hb2); (try clear hk); (try clear hi); (try clear ho0); obtain ⟨Ao18, co18, eo18⟩ := Kd.R_slice HO192.out; subst eo18))
      go_ret
      exact ⟨_, by first | rfl | (simp [errW_none, errW_some] <;> rfl) | (simp [*, errW_none, errW_some] <;> rfl), by qk_; exact HO192.out, by qh_⟩
    ·
     rw [if_neg c9] at H
     have c9b0 : (t190 == 0) = false := beq_eq_false_iff_ne.mpr c9
     have c9b1 : (t190 != 0) = true := bne_iff_ne.mpr c9
     obtain ⟨y196, hy196⟩ : ∃ y_ : List Int, y_ = (([0] : List Int)) := ⟨_, rfl⟩
     replace H : (some y196) = some r := by first | (rw [hy196]; with_reducible exact H) | (have H2_ := (Option.bind_some _ _).symm.trans H; rw [hy196]; with_reducible exact H2_) | (have H2_ := (Option.bind_some _ _).symm.trans H; with_reducible exact H2_) | with_reducible exact H | (rw [hy196]; exact H) | exact H
     have Ny196 := Aside0.mk hy196
     clear hy196
     obtain rfl := Option.some.inj H
     go_enter Tryd.func21, Tryd.ntmps21
     go_wp2_with (first | ((with_reducible refine gate_callee (f := 39) rfl ?_); refine goesL_ (some 11) rfl rfl Tryd.func39 (by kernel_rfl) rfl #[.slice A0 l0.length c0, .string (⟨#[97, 117, 116, 104, 111, 114, 105, 122, 97, 116, 105, 111, 110]⟩ : ByteArray)] rfl (by qm_) ?_; (with_reducible refine (field_Get.calls k _ _ l0 (⟨#[97, 117, 116, 104, 111, 114, 105, 122, 97, 116, 105, 111, 110]⟩ : ByteArray) t185 t186 _ ?side1 ?side2 A2.out).mono ?_); (case side1 => repeat (first | exact HR0.out | (with_reducible refine Kd.C_alloc ?_ _) | (with_reducible refine Kd.C_drewN ?_ _) | (with_reducible refine Kd.C_drew ?_))); (case side2 => exact HC0.out); rintro e w19 ⟨rfl, hb⟩; refine ⟨_, rfl, ?_⟩; have n0_ := Aside0.mk (below_step (by qh_) hb); clear HB; have HB := n0_; clear n0_; (try clear hb); (try clear hb2); (try clear hk); (try clear hi)) | ((with_reducible refine gate_callee (f := 40) rfl ?_); refine goesL_ (some 18) rfl rfl Tryd.func40 (by kernel_rfl) rfl #[.string t185, .string (⟨#[66, 101, 97, 114, 101, 114, 32]⟩ : ByteArray)] rfl (by qm_) ?_; (with_reducible refine (strings_CutPrefix.calls t185 (⟨#[66, 101, 97, 114, 101, 114, 32]⟩ : ByteArray) t187 true _ A5.out).mono ?_); rintro e w' ⟨rfl, ⟨nd, rfl⟩⟩; refine ⟨_, rfl, ?_⟩) | ((with_reducible refine gate_callee (f := 41) rfl ?_); refine goesL_ (some 23) rfl rfl Tryd.func41 (by kernel_rfl) rfl #[.string t187] rfl (by qm_) ?_; (with_reducible refine (xUnhex.calls t187 t189 t190 _ A6.out).mono ?_); rintro e w20 ⟨v191, rfl, ho0, hb⟩; refine ⟨_, rfl, ?_⟩; have n0_ := Aside0.mk (Kd.R_lower ho0 (below_size (by qh_))); have n1_ := Aside0.mk (below_step (by qh_) hb); clear HB; have HO192 := n0_; have HB := n1_; clear n0_ n1_; (try clear hb); (try clear hb2); (try clear hk); (try clear hi); (try clear ho0)) | ((with_reducible refine gate_dst (N := 41) rfl ?_); (try (refine gate_guard (by rfl) ?_; dsimp only)); refine Kd.R_lit (Kd.int .u8) _ 5 ?hg (N := 41) ?hd (xs := ([0] : List Int)) (inner := [.int .u8 0]) (ok := fun _ => True) (okp := fun _ => True) ?hr ?hp (fun _ hk => hk) trivial (Below.refl _ _) (Nat.le_refl _) (by simp) ?_; (case hd => rfl); (case hg => rfl); (case hr => first | (go_simp; done) | (go_simp; rfl)); (case hp => exact (Reps.one (show Kd.M (Kd.int .u8) _ _ _ 0 [.int .u8 0] from rfl) (Reps.none _ _))); intro v197 w21 ho22 hb hg_ hnew_; clear hg_ hnew_; (first | rw [← Ny196.out] at ho22 | (simp only [Int.reduceToNat] at ho22; rw [← Ny196.out] at ho22)); have n0_ := Aside0.mk (Kd.R_elder' (by qk_; exact HO192.out) (Kd.R_base ho22) hb); have n1_ := Aside0.mk (Kd.R_lower (Kd.R_new' ho22 (Kd.R_lt (by qk_; exact HO192.out))) (below_size (by qh_))); have n2_ := Aside0.mk (below_step (by qh_) hb); clear HO192; clear HB; have HO192 := n0_; have HO198 := n1_; have HB := n2_; clear n0_ n1_ n2_; clear hb ho22))
     go_ret
     exact ⟨_, by first | rfl | (simp [errW_none, errW_some] <;> rfl) | (simp [*, errW_none, errW_some] <;> rfl), by qk_; exact Kd.R_mono HO198.out (fun _ hk => trivial), by qh_⟩
   ·
    replace c8 := Bool.eq_false_iff.mpr c8
    subst c8
    have H1 : (some (([0] : List Int))) = some r := by rw [if_neg (show ¬ (false = true) by decide)] at H; exact H
    clear H
    have H := H1
    clear H1
    obtain ⟨y199, hy199⟩ : ∃ y_ : List Int, y_ = (([0] : List Int)) := ⟨_, rfl⟩
    replace H : (some y199) = some r := by first | (rw [hy199]; with_reducible exact H) | (have H2_ := (Option.bind_some _ _).symm.trans H; rw [hy199]; with_reducible exact H2_) | (have H2_ := (Option.bind_some _ _).symm.trans H; with_reducible exact H2_) | with_reducible exact H | (rw [hy199]; exact H) | exact H
    have Ny199 := Aside0.mk hy199
    clear hy199
    obtain rfl := Option.some.inj H
    go_enter Tryd.func21, Tryd.ntmps21
    go_wp2_with (first | ((with_reducible refine gate_callee (f := 39) rfl ?_); refine goesL_ (some 11) rfl rfl Tryd.func39 (by kernel_rfl) rfl #[.slice A0 l0.length c0, .string (⟨#[97, 117, 116, 104, 111, 114, 105, 122, 97, 116, 105, 111, 110]⟩ : ByteArray)] rfl (by qm_) ?_; (with_reducible refine (field_Get.calls k _ _ l0 (⟨#[97, 117, 116, 104, 111, 114, 105, 122, 97, 116, 105, 111, 110]⟩ : ByteArray) t185 t186 _ ?side1 ?side2 A2.out).mono ?_); (case side1 => repeat (first | exact HR0.out | (with_reducible refine Kd.C_alloc ?_ _) | (with_reducible refine Kd.C_drewN ?_ _) | (with_reducible refine Kd.C_drew ?_))); (case side2 => exact HC0.out); rintro e w23 ⟨rfl, hb⟩; refine ⟨_, rfl, ?_⟩; have n0_ := Aside0.mk (below_step (by qh_) hb); clear HB; have HB := n0_; clear n0_; (try clear hb); (try clear hb2); (try clear hk); (try clear hi)) | ((with_reducible refine gate_callee (f := 40) rfl ?_); refine goesL_ (some 18) rfl rfl Tryd.func40 (by kernel_rfl) rfl #[.string t185, .string (⟨#[66, 101, 97, 114, 101, 114, 32]⟩ : ByteArray)] rfl (by qm_) ?_; (with_reducible refine (strings_CutPrefix.calls t185 (⟨#[66, 101, 97, 114, 101, 114, 32]⟩ : ByteArray) t187 false _ A5.out).mono ?_); rintro e w' ⟨rfl, ⟨nd, rfl⟩⟩; refine ⟨_, rfl, ?_⟩) | ((with_reducible refine gate_callee (f := 41) rfl ?_); refine goesL_ (some 23) rfl rfl Tryd.func41 (by kernel_rfl) rfl #[.string t187] rfl (by qm_) ?_; (with_reducible refine (xUnhex.calls t187 t189 t190 _ A6.out).mono ?_); rintro e w24 ⟨v191, rfl, ho0, hb⟩; refine ⟨_, rfl, ?_⟩; have n0_ := Aside0.mk (Kd.R_lower ho0 (below_size (by qh_))); have n1_ := Aside0.mk (below_step (by qh_) hb); clear HB; have HO192 := n0_; have HB := n1_; clear n0_ n1_; (try clear hb); (try clear hb2); (try clear hk); (try clear hi); (try clear ho0)) | ((with_reducible refine gate_dst (N := 41) rfl ?_); (try (refine gate_guard (by rfl) ?_; dsimp only)); refine Kd.R_lit (Kd.int .u8) _ 5 ?hg (N := 41) ?hd (xs := ([0] : List Int)) (inner := [.int .u8 0]) (ok := fun _ => True) (okp := fun _ => True) ?hr ?hp (fun _ hk => hk) trivial (Below.refl _ _) (Nat.le_refl _) (by simp) ?_; (case hd => rfl); (case hg => rfl); (case hr => first | (go_simp; done) | (go_simp; rfl)); (case hp => exact (Reps.one (show Kd.M (Kd.int .u8) _ _ _ 0 [.int .u8 0] from rfl) (Reps.none _ _))); intro v200 w25 ho26 hb hg_ hnew_; clear hg_ hnew_; (first | rw [← Ny199.out] at ho26 | (simp only [Int.reduceToNat] at ho26; rw [← Ny199.out] at ho26)); have n0_ := Aside0.mk (Kd.R_elder' (by qk_; exact HO192.out) (Kd.R_base ho26) hb); have n1_ := Aside0.mk (Kd.R_lower (Kd.R_new' ho26 (Kd.R_lt (by qk_; exact HO192.out))) (below_size (by qh_))); have n2_ := Aside0.mk (below_step (by qh_) hb); clear HO192; clear HB; have HO192 := n0_; have HO201 := n1_; have HB := n2_; clear n0_ n1_ n2_; clear hb ho26))
    go_ret
    exact ⟨_, by first | rfl | (simp [errW_none, errW_some] <;> rfl) | (simp [*, errW_none, errW_some] <;> rfl), by qk_; exact Kd.R_mono HO201.out (fun _ hk => trivial), by qh_⟩
  ·
   rw [if_neg c7] at H
   have c7b0 : (t186 == 0) = false := beq_eq_false_iff_ne.mpr c7
   have c7b1 : (t186 != 0) = true := bne_iff_ne.mpr c7
   obtain ⟨y202, hy202⟩ : ∃ y_ : List Int, y_ = (([0] : List Int)) := ⟨_, rfl⟩
   replace H : (some y202) = some r := by first | (rw [hy202]; with_reducible exact H) | (have H2_ := (Option.bind_some _ _).symm.trans H; rw [hy202]; with_reducible exact H2_) | (have H2_ := (Option.bind_some _ _).symm.trans H; with_reducible exact H2_) | with_reducible exact H | (rw [hy202]; exact H) | exact H
   have Ny202 := Aside0.mk hy202
   clear hy202
   obtain rfl := Option.some.inj H
   go_enter Tryd.func21, Tryd.ntmps21
   go_wp2_with (first | ((with_reducible refine gate_callee (f := 39) rfl ?_); refine goesL_ (some 11) rfl rfl Tryd.func39 (by kernel_rfl) rfl #[.slice A0 l0.length c0, .string (⟨#[97, 117, 116, 104, 111, 114, 105, 122, 97, 116, 105, 111, 110]⟩ : ByteArray)] rfl (by qm_) ?_; (with_reducible refine (field_Get.calls k _ _ l0 (⟨#[97, 117, 116, 104, 111, 114, 105, 122, 97, 116, 105, 111, 110]⟩ : ByteArray) t185 t186 _ ?side1 ?side2 A2.out).mono ?_); (case side1 => repeat (first | exact HR0.out | (with_reducible refine Kd.C_alloc ?_ _) | (with_reducible refine Kd.C_drewN ?_ _) | (with_reducible refine Kd.C_drew ?_))); (case side2 => exact HC0.out); rintro e w27 ⟨rfl, hb⟩; refine ⟨_, rfl, ?_⟩; have n0_ := Aside0.mk (below_step (by qh_) hb); clear HB; have HB := n0_; clear n0_; (try clear hb); (try clear hb2); (try clear hk); (try clear hi)) | ((with_reducible refine gate_callee (f := 40) rfl ?_); refine goesL_ (some 18) rfl rfl Tryd.func40 (by kernel_rfl) rfl #[.string t185, .string (⟨#[66, 101, 97, 114, 101, 114, 32]⟩ : ByteArray)] rfl (by qm_) ?_; (with_reducible refine (strings_CutPrefix.calls t185 (⟨#[66, 101, 97, 114, 101, 114, 32]⟩ : ByteArray) t187 t188 _ A5.out).mono ?_); rintro e w' ⟨rfl, ⟨nd, rfl⟩⟩; refine ⟨_, rfl, ?_⟩) | ((with_reducible refine gate_callee (f := 41) rfl ?_); refine goesL_ (some 23) rfl rfl Tryd.func41 (by kernel_rfl) rfl #[.string t187] rfl (by qm_) ?_; (with_reducible refine (xUnhex.calls t187 t189 t190 _ A6.out).mono ?_); rintro e w28 ⟨v191, rfl, ho0, hb⟩; refine ⟨_, rfl, ?_⟩; have n0_ := Aside0.mk (Kd.R_lower ho0 (below_size (by qh_))); have n1_ := Aside0.mk (below_step (by qh_) hb); clear HB; have HO192 := n0_; have HB := n1_; clear n0_ n1_; (try clear hb); (try clear hb2); (try clear hk); (try clear hi); (try clear ho0)) | ((with_reducible refine gate_dst (N := 41) rfl ?_); (try (refine gate_guard (by rfl) ?_; dsimp only)); refine Kd.R_lit (Kd.int .u8) _ 5 ?hg (N := 41) ?hd (xs := ([0] : List Int)) (inner := [.int .u8 0]) (ok := fun _ => True) (okp := fun _ => True) ?hr ?hp (fun _ hk => hk) trivial (Below.refl _ _) (Nat.le_refl _) (by simp) ?_; (case hd => rfl); (case hg => rfl); (case hr => first | (go_simp; done) | (go_simp; rfl)); (case hp => exact (Reps.one (show Kd.M (Kd.int .u8) _ _ _ 0 [.int .u8 0] from rfl) (Reps.none _ _))); intro v203 w29 ho30 hb hg_ hnew_; clear hg_ hnew_; (first | rw [← Ny202.out] at ho30 | (simp only [Int.reduceToNat] at ho30; rw [← Ny202.out] at ho30)); have n0_ := Aside0.mk (Kd.R_elder' (by qk_; exact HO192.out) (Kd.R_base ho30) hb); have n1_ := Aside0.mk (Kd.R_lower (Kd.R_new' ho30 (Kd.R_lt (by qk_; exact HO192.out))) (below_size (by qh_))); have n2_ := Aside0.mk (below_step (by qh_) hb); clear HO192; clear HB; have HO192 := n0_; have HO204 := n1_; have HB := n2_; clear n0_ n1_ n2_; clear hb ho30))
   go_ret
   exact ⟨_, by first | rfl | (simp [errW_none, errW_some] <;> rfl) | (simp [*, errW_none, errW_some] <;> rfl), by qk_; exact Kd.R_mono HO204.out (fun _ hk => trivial), by qh_⟩
end Go.Proofs.YtnfimhdcpmakpaaDoor.S
