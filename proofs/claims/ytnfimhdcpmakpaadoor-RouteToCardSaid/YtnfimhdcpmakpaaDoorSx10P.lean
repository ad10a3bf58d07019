-- By wip/hook.py.
import Derived.Test.YtnfimhdcpmakpaaDoorSx0P
import Derived.Test.YtnfimhdcpmakpaaDoorSx9P
namespace Go.Proofs.YtnfimhdcpmakpaaDoor.S
open Go.RowKit Go.Proofs.YtnfimhdcpmakpaaDoorW.PrintWords Go.Proofs.YtnfimhdcpmakpaaDoorW.PrintLast Go.Proofs.YtnfimhdcpmakpaaDoorW.PrintMore
attribute [local go_sem] max2_int min2_int max_two min_two max_three min_three max_four min_four
set_option linter.unusedVariables false
set_option linter.unusedSimpArgs false
mutual
def cofferref21_May.l0 : Nat → Int → List ByteArray → List (S91) → Option (Bool)
 | 0, _, _, _ => none
 | k + 1, x3, x251000, x251001 => if x3 < (x251000.length : Int) then (if 0 ≤ x3 then (if (rdOf ByteArray.empty x251000 x3).toList = ([] : List UInt8) then (some false) else ((cofferref21_zero.f k (rdOf ByteArray.empty x251000 x3)).bind fun t253 => (if t253 = true then (some false) else (cofferref21_May.l0 k (wrap64 (x3 + 1)) x251000 x251001)))) else (none)) else (cofferref21_May.l1 k 0 x251000 x251001)
def cofferref21_May.l1 : Nat → Int → List ByteArray → List (S91) → Option (Bool)
 | 0, _, _, _ => none
 | k + 1, x4, x251000, x251001 => if x4 < (x251001.length : Int) then (if 0 ≤ x4 then (if ((rd_T91 x251001 x4).f0).toList = ([] : List UInt8) then (cofferref21_May.j2 k x4 true x251000 x251001) else ((cofferref21_zero.f k ((rd_T91 x251001 x4).f0)).bind fun t256 => (if t256 = true then (cofferref21_May.j2 k x4 true x251000 x251001) else ((cofferref21_zero.f k ((rd_T91 x251001 x4).f1)).bind fun t258 => (cofferref21_May.j2 k x4 t258 x251000 x251001))))) else (none)) else (some true)
def cofferref21_May.j2 : Nat → Int → Bool → List ByteArray → List (S91) → Option (Bool)
 | 0, _, _, _, _ => none
 | k + 1, x4, x58, x251000, x251001 => if x58 = true then (some false) else (cofferref21_May.l2 k x4 0 x251000 x251001)
def cofferref21_May.l2 : Nat → Int → Int → List ByteArray → List (S91) → Option (Bool)
 | 0, _, _, _, _ => none
 | k + 1, x4, x5, x251000, x251001 => if x5 < x4 then (if 0 ≤ x5 then (if x5 < (x251001.length : Int) then (if 0 ≤ x4 then (if x4 < (x251001.length : Int) then (if ((rd_T91 x251001 x5).f0).toList = ((rd_T91 x251001 x4).f0).toList then (some false) else (cofferref21_May.l2 k x4 (wrap64 (x5 + 1)) x251000 x251001)) else (none)) else (none)) else (none)) else (none)) else (cofferref21_May.l1 k (wrap64 (x4 + 1)) x251000 x251001)
end
def cofferref21_May.f (k : Nat) (l0_0 : List ByteArray) (l0_1 : List (S91)) : Option (Bool) := cofferref21_May.l0 k 0 l0_0 l0_1
set_option maxHeartbeats 8000000 in
set_option maxRecDepth 100000 in
theorem cofferref21_May.calls (k : Nat) (A0_0 : Option Addr) (c0_0 : Nat) (l0_0 : List ByteArray) (A0_1 : Option Addr) (c0_1 : Nat) (l0_1 : List (S91)) (r : Bool) (w : World) (hr0_0 : Kd.C Kd.string w A0_0 l0_0.length l0_0) (hc0_0 : l0_0.length ≤ c0_0) (hr0_1 : Kd.C k91 w A0_1 l0_1.length l0_1) (hc0_1 : l0_1.length ≤ c0_1) (h : cofferref21_May.f k l0_0 l0_1 = some r) :
  Calls Tryd.prog 47 #[.agg #[.slice A0_0 l0_0.length c0_0, .slice A0_1 l0_1.length c0_1]] w fun e w' => e = .returned (.bool r) ∧ Below w.heap.size w w' := by
 have hu51 := Tryd.underlying51
 have HR0_0 := Aside0.mk hr0_0
 have HC0_0 := Aside0.mk hc0_0
 clear hr0_0 hc0_0
 have HR0_1 := Aside0.mk hr0_1
 have HC0_1 := Aside0.mk hc0_1
 clear hr0_1 hc0_1
 have HB := Aside0.mk (Below.refl w.heap.size w)
 have H : (cofferref21_May.l0 k 0 l0_0 l0_1) = some r := h
 clear h
 have H' := Aside0.mk H
 clear H
 go_enter Tryd.func47, Tryd.ntmps47
 go_wp2_with (first | ((with_reducible refine gate_dst (N := 1) rfl ?_); refine box_event ?hg (N := 1) ?hd (cs := #[.slice A0_0 l0_0.length c0_0, .slice A0_1 l0_1.length c0_1]) (t := 51) ?hr ?_; (case hd => rfl); (case hg => rfl); (case hr => first | (go_simp; done) | (go_simp; rfl)); intro gb250 hg w2 hbox hb; have n0_ := Aside0.mk (below_step (by qh_) hb); have n1_ := Aside0.mk (hbox); have n2_ := Aside0.mk ((by rw [hg]; exact (below_size (by qh_)) : w.heap.size ≤ gb250)); have n3_ := Aside0.mk ((by rw [hg]; exact (below_size (by qh_)) : w.heap.size ≤ gb250)); clear HB; have HB := n0_; have BK250 := n1_; have GW250 := n2_; have GE250 := n3_; clear n0_ n1_ n2_ n3_; clear hb hbox hg))
 repeat (go_quiet (first | ((with_reducible refine gate_dst (N := 1) rfl ?_); refine box_event ?hg (N := 1) ?hd (cs := #[.slice A0_0 l0_0.length c0_0, .slice A0_1 l0_1.length c0_1]) (t := 51) ?hr ?_; (case hd => rfl); (case hg => rfl); (case hr => first | (go_simp; done) | (go_simp; rfl)); intro gb250 hg w2 hbox hb; have n0_ := Aside0.mk (below_step (by qh_) hb); have n1_ := Aside0.mk (hbox); have n2_ := Aside0.mk ((by rw [hg]; exact (below_size (by qh_)) : w.heap.size ≤ gb250)); have n3_ := Aside0.mk ((by rw [hg]; exact (below_size (by qh_)) : w.heap.size ≤ gb250)); clear HB; have HB := n0_; have BK250 := n1_; have GW250 := n2_; have GE250 := n3_; clear n0_ n1_ n2_ n3_; clear hb hbox hg)); try go_wp2_with (first | ((with_reducible refine gate_dst (N := 1) rfl ?_); refine box_event ?hg (N := 1) ?hd (cs := #[.slice A0_0 l0_0.length c0_0, .slice A0_1 l0_1.length c0_1]) (t := 51) ?hr ?_; (case hd => rfl); (case hg => rfl); (case hr => first | (go_simp; done) | (go_simp; rfl)); intro gb250 hg w2 hbox hb; have n0_ := Aside0.mk (below_step (by qh_) hb); have n1_ := Aside0.mk (hbox); have n2_ := Aside0.mk ((by rw [hg]; exact (below_size (by qh_)) : w.heap.size ≤ gb250)); have n3_ := Aside0.mk ((by rw [hg]; exact (below_size (by qh_)) : w.heap.size ≤ gb250)); clear HB; have HB := n0_; have BK250 := n1_; have GW250 := n2_; have GE250 := n3_; clear n0_ n1_ n2_ n3_; clear hb hbox hg)))
 go_loopg [3] k (fun kq v3 w' => ∃ (x3_1 : Int), v3 = .int .i64 x3_1 ∧ Aside0 (cofferref21_May.l0 kq x3_1 l0_0 l0_1 = some r) ∧ Aside0 (kq ≤ k) ∧ Aside0 (w'.heap[gb250]? = some (.cells #[(.slice A0_0 l0_0.length c0_0), (.slice A0_1 l0_1.length c0_1)] 51 (0, 0))) ∧ Aside0 (Below w.heap.size w w'))
 case atStart => exact ⟨(0), (by qr_), H', ⟨Nat.le_refl _⟩, ⟨by qb_; exact BK250.out⟩, ⟨by repeat (first | (with_reducible first | qp_ | refine below_set ?_ GE250.out) | exact HB.out)⟩⟩
 case round =>
  clear H'
  try clear p2
  obtain ⟨x3_1, rfl, HA, HK1, BK250, HB⟩ := hrel
  cases gk with
  | zero => exact absurd HA.out (by simp [cofferref21_May.l0])
  | succ k1 =>
   have H := HA.out
   clear HA
   simp only [cofferref21_May.l0] at H
   by_cases c3 : x3_1 < (l0_0.length : Int)
   ·
    rw [if_pos c3] at H
    have c3b0 : decide (x3_1 < (l0_0.length : Int)) = true := decide_eq_true c3
    clear c3
    by_cases c4 : 0 ≤ x3_1
    ·
     rw [if_pos c4] at H
     have c4b0 : decide (0 ≤ x3_1) = true := decide_eq_true c4
     clear c4
     by_cases c5 : (rdOf ByteArray.empty l0_0 x3_1).toList = ([] : List UInt8)
     ·
      rw [if_pos c5] at H
      have c5b0 : ((rdOf ByteArray.empty l0_0 x3_1).toList == ([] : List UInt8)) = true := beq_iff_eq.mpr c5
      have c5b1 : ((rdOf ByteArray.empty l0_0 x3_1).toList != ([] : List UInt8)) = false := bne_eq_false_iff_eq.mpr c5
      clear c5
      obtain rfl := Option.some.inj H
      have hcz6_0 : wr.cell? ⟨gb250, 0, none⟩ = some (.slice A0_0 l0_0.length c0_0) := (blk_cell BK250.out 0).trans rfl
      have hcz6_1 : wr.cell? ⟨gb250, 1, none⟩ = some (.slice A0_1 l0_1.length c0_1) := (blk_cell BK250.out 1).trans rfl
      have hfz6_0 := blk_frozen BK250.out 0
      have hfz6_1 := blk_frozen BK250.out 1
      have p251 : 0 ≤ (x3_1 : Int) := of_decide_eq_true (by qa_)
      have q251 : x3_1 < (l0_0.length : Int) := of_decide_eq_true (by qa_)
      obtain ⟨ad251, e251, hx251_0⟩ := Kd.at_string HR0_0.out x3_1 p251 q251
      cases e251
      replace hx251_0 := (HB.out.cell (World.block_lt_of_cell? w _ hx251_0)).trans hx251_0
      replace p251 := eq_true p251
      replace q251 := eq_true q251
      go_wp2
      repeat (go_quiet (fail); try go_wp2)
      go_ret
      exact ⟨by first | rfl | (simp [errW_none, errW_some] <;> rfl) | (simp [*, errW_none, errW_some] <;> rfl), by repeat (first | (with_reducible first | qp_ | refine below_set ?_ GE250.out) | exact HB.out)⟩
     ·
      rw [if_neg c5] at H
      have c5b0 : ((rdOf ByteArray.empty l0_0 x3_1).toList == ([] : List UInt8)) = false := beq_eq_false_iff_ne.mpr c5
      have c5b1 : ((rdOf ByteArray.empty l0_0 x3_1).toList != ([] : List UInt8)) = true := bne_iff_ne.mpr c5
      replace H := Option.bind_eq_some_iff.mp H
      obtain ⟨t253, A70, H⟩ := H
      replace H : (if t253 = true then (some false) else (cofferref21_May.l0 k1 (wrap64 (x3_1 + 1)) l0_0 l0_1)) = some r := H
      have A7 := Aside0.mk A70
      clear A70
      by_cases c8 : t253 = true
      ·
       subst c8
       have H1 : (some false) = some r := by rw [if_pos rfl] at H; exact H
       clear H
       have H := H1
       clear H1
       obtain rfl := Option.some.inj H
       have hcz9_0 : wr.cell? ⟨gb250, 0, none⟩ = some (.slice A0_0 l0_0.length c0_0) := (blk_cell BK250.out 0).trans rfl
       have hcz9_1 : wr.cell? ⟨gb250, 1, none⟩ = some (.slice A0_1 l0_1.length c0_1) := (blk_cell BK250.out 1).trans rfl
       have hfz9_0 := blk_frozen BK250.out 0
       have hfz9_1 := blk_frozen BK250.out 1
       have p251 : 0 ≤ (x3_1 : Int) := of_decide_eq_true (by qa_)
       have q251 : x3_1 < (l0_0.length : Int) := of_decide_eq_true (by qa_)
       obtain ⟨ad251, e251, hx251_0⟩ := Kd.at_string HR0_0.out x3_1 p251 q251
       cases e251
       replace hx251_0 := (HB.out.cell (World.block_lt_of_cell? w _ hx251_0)).trans hx251_0
       replace p251 := eq_true p251
       replace q251 := eq_true q251
       have p252 : 0 ≤ (x3_1 : Int) := of_decide_eq_true (by qa_)
       have q252 : x3_1 < (l0_0.length : Int) := of_decide_eq_true (by qa_)
       obtain ⟨ad252, e252, hx252_0⟩ := Kd.at_string HR0_0.out x3_1 p252 q252
       obtain rfl : ad251 = ad252 := (by injection e252)
       replace hx252_0 := (HB.out.cell (World.block_lt_of_cell? w _ hx252_0)).trans hx252_0
       replace p252 := eq_true p252
       replace q252 := eq_true q252
       go_wp2_with (first | (go_at_call 68; (with_reducible refine (cofferref21_zero.calls k1 (rdOf ByteArray.empty l0_0 x3_1) true _ A7.out).mono ?_); rintro e w' ⟨rfl, ⟨nd, rfl⟩⟩; (try first | exact ⟨rfl, _, World.drewN_drewN _ _ _⟩ | exact ⟨rfl, _, Eq.trans (World.drewN_drewN _ _ _) (congrArg (World.drewN _) (Nat.add_assoc _ _ _))⟩)))
       repeat (go_quiet (first | (go_at_call 68; (with_reducible refine (cofferref21_zero.calls k1 (rdOf ByteArray.empty l0_0 x3_1) true _ A7.out).mono ?_); rintro e w' ⟨rfl, ⟨nd, rfl⟩⟩; (try first | exact ⟨rfl, _, World.drewN_drewN _ _ _⟩ | exact ⟨rfl, _, Eq.trans (World.drewN_drewN _ _ _) (congrArg (World.drewN _) (Nat.add_assoc _ _ _))⟩))); try go_wp2_with (first | (go_at_call 68; (with_reducible refine (cofferref21_zero.calls k1 (rdOf ByteArray.empty l0_0 x3_1) true _ A7.out).mono ?_); rintro e w' ⟨rfl, ⟨nd, rfl⟩⟩; (try first | exact ⟨rfl, _, World.drewN_drewN _ _ _⟩ | exact ⟨rfl, _, Eq.trans (World.drewN_drewN _ _ _) (congrArg (World.drewN _) (Nat.add_assoc _ _ _))⟩))))
       go_ret
       exact ⟨by first | rfl | (simp [errW_none, errW_some] <;> rfl) | (simp [*, errW_none, errW_some] <;> rfl), by repeat (first | (with_reducible first | qp_ | refine below_set ?_ GE250.out) | exact HB.out)⟩
      ·
       replace c8 := Bool.eq_false_iff.mpr c8
       subst c8
       have H1 : (cofferref21_May.l0 k1 (wrap64 (x3_1 + 1)) l0_0 l0_1) = some r := by rw [if_neg (show ¬ (false = true) by decide)] at H; exact H
       clear H
       have H := H1
       clear H1
       have H' := Aside0.mk H
       clear H
       have hcz10_0 : wr.cell? ⟨gb250, 0, none⟩ = some (.slice A0_0 l0_0.length c0_0) := (blk_cell BK250.out 0).trans rfl
       have hcz10_1 : wr.cell? ⟨gb250, 1, none⟩ = some (.slice A0_1 l0_1.length c0_1) := (blk_cell BK250.out 1).trans rfl
       have hfz10_0 := blk_frozen BK250.out 0
       have hfz10_1 := blk_frozen BK250.out 1
       have p251 : 0 ≤ (x3_1 : Int) := of_decide_eq_true (by qa_)
       have q251 : x3_1 < (l0_0.length : Int) := of_decide_eq_true (by qa_)
       obtain ⟨ad251, e251, hx251_0⟩ := Kd.at_string HR0_0.out x3_1 p251 q251
       cases e251
       replace hx251_0 := (HB.out.cell (World.block_lt_of_cell? w _ hx251_0)).trans hx251_0
       replace p251 := eq_true p251
       replace q251 := eq_true q251
       have p252 : 0 ≤ (x3_1 : Int) := of_decide_eq_true (by qa_)
       have q252 : x3_1 < (l0_0.length : Int) := of_decide_eq_true (by qa_)
       obtain ⟨ad252, e252, hx252_0⟩ := Kd.at_string HR0_0.out x3_1 p252 q252
       obtain rfl : ad251 = ad252 := (by injection e252)
       replace hx252_0 := (HB.out.cell (World.block_lt_of_cell? w _ hx252_0)).trans hx252_0
       replace p252 := eq_true p252
       replace q252 := eq_true q252
       go_wp2_with (first | (go_at_call 68; (with_reducible refine (cofferref21_zero.calls k1 (rdOf ByteArray.empty l0_0 x3_1) false _ A7.out).mono ?_); rintro e w' ⟨rfl, ⟨nd, rfl⟩⟩; (try first | exact ⟨rfl, _, World.drewN_drewN _ _ _⟩ | exact ⟨rfl, _, Eq.trans (World.drewN_drewN _ _ _) (congrArg (World.drewN _) (Nat.add_assoc _ _ _))⟩)))
       repeat (go_quiet (first | (go_at_call 68; (with_reducible refine (cofferref21_zero.calls k1 (rdOf ByteArray.empty l0_0 x3_1) false _ A7.out).mono ?_); rintro e w' ⟨rfl, ⟨nd, rfl⟩⟩; (try first | exact ⟨rfl, _, World.drewN_drewN _ _ _⟩ | exact ⟨rfl, _, Eq.trans (World.drewN_drewN _ _ _) (congrArg (World.drewN _) (Nat.add_assoc _ _ _))⟩))); try go_wp2_with (first | (go_at_call 68; (with_reducible refine (cofferref21_zero.calls k1 (rdOf ByteArray.empty l0_0 x3_1) false _ A7.out).mono ?_); rintro e w' ⟨rfl, ⟨nd, rfl⟩⟩; (try first | exact ⟨rfl, _, World.drewN_drewN _ _ _⟩ | exact ⟨rfl, _, Eq.trans (World.drewN_drewN _ _ _) (congrArg (World.drewN _) (Nat.add_assoc _ _ _))⟩))))
       go_roundg k1
       case measure => have := HK1.out; omega
       case rel => exact ⟨(wrap64 (x3_1 + 1)), (by qr_), H', ⟨by have := HK1.out; omega⟩, ⟨by qb_; exact BK250.out⟩, ⟨by repeat (first | (with_reducible first | qp_ | refine below_set ?_ GE250.out) | exact HB.out)⟩⟩
    ·
     rw [if_neg c4] at H
     exact absurd H (by simp)
   ·
    rw [if_neg c3] at H
    have c3b0 : decide (x3_1 < (l0_0.length : Int)) = false := decide_eq_false c3
    clear c3
    have H' := Aside0.mk H
    clear H
    have hcz11_0 : wr.cell? ⟨gb250, 0, none⟩ = some (.slice A0_0 l0_0.length c0_0) := (blk_cell BK250.out 0).trans rfl
    have hcz11_1 : wr.cell? ⟨gb250, 1, none⟩ = some (.slice A0_1 l0_1.length c0_1) := (blk_cell BK250.out 1).trans rfl
    have hfz11_0 := blk_frozen BK250.out 0
    have hfz11_1 := blk_frozen BK250.out 1
    go_wp2
    repeat (go_quiet (fail); try go_wp2)
    go_loopg [4] k1 (fun kq v4 w' => ∃ (x4_2 : Int), v4 = .int .i64 x4_2 ∧ Aside0 (cofferref21_May.l1 kq x4_2 l0_0 l0_1 = some r) ∧ Aside0 (kq ≤ k1) ∧ Aside0 (w'.heap[gb250]? = some (.cells #[(.slice A0_0 l0_0.length c0_0), (.slice A0_1 l0_1.length c0_1)] 51 (0, 0))) ∧ Aside0 (Below w.heap.size w w'))
    case atStart => exact ⟨(0), (by qr_), H', ⟨Nat.le_refl _⟩, ⟨by qb_; exact BK250.out⟩, ⟨by repeat (first | (with_reducible first | qp_ | refine below_set ?_ GE250.out) | exact HB.out)⟩⟩
    case round =>
     clear H'
     try clear p2
     try clear q2
     try clear hx2
     try clear c3
     try clear c3b0
     try clear c4
     try clear c4b0
     try clear c5
     try clear c5b0
     try clear c5b1
     try clear p6
     try clear c8
     try clear hcz10_0
     try clear hcz10_1
     try clear hcz11_0
     try clear hcz11_1
     try clear hcz6_0
     try clear hcz6_1
     try clear hcz9_0
     try clear hcz9_1
     try clear hfz10_0
     try clear hfz10_1
     try clear hfz11_0
     try clear hfz11_1
     try clear hfz6_0
     try clear hfz6_1
     try clear hfz9_0
     try clear hfz9_1
     try clear hx251_0
     try clear hx252_0
     try clear p2
     try clear p251
     try clear p252
     try clear q251
     try clear q252
     obtain ⟨x4_2, rfl, HA, HK2, BK250, HB⟩ := hrel
     cases gk with
     | zero => exact absurd HA.out (by simp [cofferref21_May.l1])
     | succ k2 =>
      have H := HA.out
      clear HA
      simp only [cofferref21_May.l1] at H
      by_cases c12 : x4_2 < (l0_1.length : Int)
      ·
       rw [if_pos c12] at H
       have c12b0 : decide (x4_2 < (l0_1.length : Int)) = true := decide_eq_true c12
       clear c12
       have HC13 := Aside0.mk H
       clear H
       have hcz14_0 : wr.cell? ⟨gb250, 0, none⟩ = some (.slice A0_0 l0_0.length c0_0) := (blk_cell BK250.out 0).trans rfl
       have hcz14_1 : wr.cell? ⟨gb250, 1, none⟩ = some (.slice A0_1 l0_1.length c0_1) := (blk_cell BK250.out 1).trans rfl
       have hfz14_0 := blk_frozen BK250.out 0
       have hfz14_1 := blk_frozen BK250.out 1
       go_upto_region 9 with (fail)
       repeat (go_quiet (fail); go_upto_region 9 with (fail))
       go_cut [58] (fun v58 wc => ∃ (kq : Nat) (x58_12 : Bool), v58 = .bool x58_12 ∧ Aside0 (cofferref21_May.j2 kq x4_2 x58_12 l0_0 l0_1 = some r) ∧ Aside0 (kq ≤ k2) ∧ Aside0 (wc.heap[gb250]? = some (.cells #[(.slice A0_0 l0_0.length c0_0), (.slice A0_1 l0_1.length c0_1)] 51 (0, 0))) ∧ Aside0 (Below w.heap.size w wc))
       case first =>
        have H := HC13.out
        clear HC13
        by_cases c15 : 0 ≤ x4_2
        ·
         rw [if_pos c15] at H
         have c15b0 : decide (0 ≤ x4_2) = true := decide_eq_true c15
         clear c15
         (first | rw [c15b0] | (simp only [i64_w, i32_w]; rw [c15b0]) | skip)
         by_cases c16 : ((rd_T91 l0_1 x4_2).f0).toList = ([] : List UInt8)
         ·
          rw [if_pos c16] at H
          have c16b0 : (((rd_T91 l0_1 x4_2).f0).toList == ([] : List UInt8)) = true := beq_iff_eq.mpr c16
          have c16b1 : (((rd_T91 l0_1 x4_2).f0).toList != ([] : List UInt8)) = false := bne_eq_false_iff_eq.mpr c16
          clear c16
          have H' := Aside0.mk H
          clear H
          have hcz17_0 : wr.cell? ⟨gb250, 0, none⟩ = some (.slice A0_0 l0_0.length c0_0) := (blk_cell BK250.out 0).trans rfl
          have hcz17_1 : wr.cell? ⟨gb250, 1, none⟩ = some (.slice A0_1 l0_1.length c0_1) := (blk_cell BK250.out 1).trans rfl
          have hfz17_0 := blk_frozen BK250.out 0
          have hfz17_1 := blk_frozen BK250.out 1
          have p254 : 0 ≤ (x4_2 : Int) := of_decide_eq_true (by qa_)
          have q254 : x4_2 < (l0_1.length : Int) := of_decide_eq_true (by qa_)
          obtain ⟨ad254, e254, hx254_0, hx254_1⟩ := at_T91 HR0_1.out x4_2 p254 q254
          cases e254
          replace hx254_0 := (HB.out.cell (World.block_lt_of_cell? w _ hx254_0)).trans hx254_0
          replace hx254_1 := (HB.out.cell (World.block_lt_of_cell? w _ hx254_1)).trans hx254_1
          replace p254 := eq_true p254
          replace q254 := eq_true q254
          go_wp2
          repeat (go_quiet (fail); try go_wp2)
          go_meet
          case rel => exact ⟨_, (true), (by qr_), H', ⟨by have := HK1.out; have := HK2.out; first | omega | exact Nat.le_refl _⟩, ⟨by qb_; exact BK250.out⟩, ⟨by repeat (first | (with_reducible first | qp_ | refine below_set ?_ GE250.out) | exact HB.out)⟩⟩
         ·
          rw [if_neg c16] at H
          have c16b0 : (((rd_T91 l0_1 x4_2).f0).toList == ([] : List UInt8)) = false := beq_eq_false_iff_ne.mpr c16
          have c16b1 : (((rd_T91 l0_1 x4_2).f0).toList != ([] : List UInt8)) = true := bne_iff_ne.mpr c16
          replace H := Option.bind_eq_some_iff.mp H
          obtain ⟨t256, A180, H⟩ := H
          replace H : (if t256 = true then (cofferref21_May.j2 k2 x4_2 true l0_0 l0_1) else ((cofferref21_zero.f k2 ((rd_T91 l0_1 x4_2).f1)).bind fun t258 => (cofferref21_May.j2 k2 x4_2 t258 l0_0 l0_1))) = some r := H
          have A18 := Aside0.mk A180
          clear A180
          by_cases c19 : t256 = true
          ·
           subst c19
           have H1 : (cofferref21_May.j2 k2 x4_2 true l0_0 l0_1) = some r := by rw [if_pos rfl] at H; exact H
           clear H
           have H := H1
           clear H1
           have H' := Aside0.mk H
           clear H
           have hcz20_0 : wr.cell? ⟨gb250, 0, none⟩ = some (.slice A0_0 l0_0.length c0_0) := (blk_cell BK250.out 0).trans rfl
           have hcz20_1 : wr.cell? ⟨gb250, 1, none⟩ = some (.slice A0_1 l0_1.length c0_1) := (blk_cell BK250.out 1).trans rfl
           have hfz20_0 := blk_frozen BK250.out 0
           have hfz20_1 := blk_frozen BK250.out 1
           have p254 : 0 ≤ (x4_2 : Int) := of_decide_eq_true (by qa_)
           have q254 : x4_2 < (l0_1.length : Int) := of_decide_eq_true (by qa_)
           obtain ⟨ad254, e254, hx254_0, hx254_1⟩ := at_T91 HR0_1.out x4_2 p254 q254
           cases e254
           replace hx254_0 := (HB.out.cell (World.block_lt_of_cell? w _ hx254_0)).trans hx254_0
           replace hx254_1 := (HB.out.cell (World.block_lt_of_cell? w _ hx254_1)).trans hx254_1
           replace p254 := eq_true p254
           replace q254 := eq_true q254
           have p255 : 0 ≤ (x4_2 : Int) := of_decide_eq_true (by qa_)
           have q255 : x4_2 < (l0_1.length : Int) := of_decide_eq_true (by qa_)
           obtain ⟨ad255, e255, hx255_0, hx255_1⟩ := at_T91 HR0_1.out x4_2 p255 q255
           obtain rfl : ad254 = ad255 := (by injection e255)
           replace hx255_0 := (HB.out.cell (World.block_lt_of_cell? w _ hx255_0)).trans hx255_0
           replace hx255_1 := (HB.out.cell (World.block_lt_of_cell? w _ hx255_1)).trans hx255_1
           replace p255 := eq_true p255
           replace q255 := eq_true q255
           go_wp2_with (first | (go_at_call 68; (with_reducible refine (cofferref21_zero.calls k2 ((rd_T91 l0_1 x4_2).f0) true _ A18.out).mono ?_); rintro e w' ⟨rfl, ⟨nd, rfl⟩⟩; (try first | exact ⟨rfl, _, World.drewN_drewN _ _ _⟩ | exact ⟨rfl, _, Eq.trans (World.drewN_drewN _ _ _) (congrArg (World.drewN _) (Nat.add_assoc _ _ _))⟩)))
           repeat (go_quiet (first | (go_at_call 68; (with_reducible refine (cofferref21_zero.calls k2 ((rd_T91 l0_1 x4_2).f0) true _ A18.out).mono ?_); rintro e w' ⟨rfl, ⟨nd, rfl⟩⟩; (try first | exact ⟨rfl, _, World.drewN_drewN _ _ _⟩ | exact ⟨rfl, _, Eq.trans (World.drewN_drewN _ _ _) (congrArg (World.drewN _) (Nat.add_assoc _ _ _))⟩))); try go_wp2_with (first | (go_at_call 68; (with_reducible refine (cofferref21_zero.calls k2 ((rd_T91 l0_1 x4_2).f0) true _ A18.out).mono ?_); rintro e w' ⟨rfl, ⟨nd, rfl⟩⟩; (try first | exact ⟨rfl, _, World.drewN_drewN _ _ _⟩ | exact ⟨rfl, _, Eq.trans (World.drewN_drewN _ _ _) (congrArg (World.drewN _) (Nat.add_assoc _ _ _))⟩))))
           go_meet
           case rel => exact ⟨_, (true), (by qr_), H', ⟨by have := HK1.out; have := HK2.out; first | omega | exact Nat.le_refl _⟩, ⟨by qb_; exact BK250.out⟩, ⟨by repeat (first | (with_reducible first | qp_ | refine below_set ?_ GE250.out) | exact HB.out)⟩⟩
          ·
           replace c19 := Bool.eq_false_iff.mpr c19
           subst c19
           have H1 : ((cofferref21_zero.f k2 ((rd_T91 l0_1 x4_2).f1)).bind fun t258 => (cofferref21_May.j2 k2 x4_2 t258 l0_0 l0_1)) = some r := by rw [if_neg (show ¬ (false = true) by decide)] at H; exact H
           clear H
           have H := H1
           clear H1
           replace H := Option.bind_eq_some_iff.mp H
           obtain ⟨t258, A210, H⟩ := H
           replace H : (cofferref21_May.j2 k2 x4_2 t258 l0_0 l0_1) = some r := H
           have A21 := Aside0.mk A210
           clear A210
           have H' := Aside0.mk H
           clear H
           have hcz22_0 : wr.cell? ⟨gb250, 0, none⟩ = some (.slice A0_0 l0_0.length c0_0) := (blk_cell BK250.out 0).trans rfl
           have hcz22_1 : wr.cell? ⟨gb250, 1, none⟩ = some (.slice A0_1 l0_1.length c0_1) := (blk_cell BK250.out 1).trans rfl
           have hfz22_0 := blk_frozen BK250.out 0
           have hfz22_1 := blk_frozen BK250.out 1
           have p254 : 0 ≤ (x4_2 : Int) := of_decide_eq_true (by qa_)
           have q254 : x4_2 < (l0_1.length : Int) := of_decide_eq_true (by qa_)
           obtain ⟨ad254, e254, hx254_0, hx254_1⟩ := at_T91 HR0_1.out x4_2 p254 q254
           cases e254
           replace hx254_0 := (HB.out.cell (World.block_lt_of_cell? w _ hx254_0)).trans hx254_0
           replace hx254_1 := (HB.out.cell (World.block_lt_of_cell? w _ hx254_1)).trans hx254_1
           replace p254 := eq_true p254
           replace q254 := eq_true q254
           have p255 : 0 ≤ (x4_2 : Int) := of_decide_eq_true (by qa_)
           have q255 : x4_2 < (l0_1.length : Int) := of_decide_eq_true (by qa_)
           obtain ⟨ad255, e255, hx255_0, hx255_1⟩ := at_T91 HR0_1.out x4_2 p255 q255
           obtain rfl : ad254 = ad255 := (by injection e255)
           replace hx255_0 := (HB.out.cell (World.block_lt_of_cell? w _ hx255_0)).trans hx255_0
           replace hx255_1 := (HB.out.cell (World.block_lt_of_cell? w _ hx255_1)).trans hx255_1
           replace p255 := eq_true p255
           replace q255 := eq_true q255
           go_wp2_with (first | (go_at_call 68; (with_reducible refine (cofferref21_zero.calls k2 ((rd_T91 l0_1 x4_2).f0) false _ A18.out).mono ?_); rintro e w' ⟨rfl, ⟨nd, rfl⟩⟩; (try first | exact ⟨rfl, _, World.drewN_drewN _ _ _⟩ | exact ⟨rfl, _, Eq.trans (World.drewN_drewN _ _ _) (congrArg (World.drewN _) (Nat.add_assoc _ _ _))⟩); have p257 : 0 ≤ (x4_2 : Int) := of_decide_eq_true (by qa_); have q257 : x4_2 < (l0_1.length : Int) := of_decide_eq_true (by qa_); obtain ⟨ad257, e257, hx257_0, hx257_1⟩ := at_T91 HR0_1.out x4_2 p257 q257; obtain rfl : ad254 = ad257 := (by injection e257); replace hx257_0 := (HB.out.cell (World.block_lt_of_cell? w _ hx257_0)).trans hx257_0; replace hx257_1 := (HB.out.cell (World.block_lt_of_cell? w _ hx257_1)).trans hx257_1; replace p257 := eq_true p257; replace q257 := eq_true q257) | (go_at_call 68; (with_reducible refine (cofferref21_zero.calls k2 ((rd_T91 l0_1 x4_2).f1) t258 _ A21.out).mono ?_); rintro e w' ⟨rfl, ⟨nd, rfl⟩⟩; (try first | exact ⟨rfl, _, World.drewN_drewN _ _ _⟩ | exact ⟨rfl, _, Eq.trans (World.drewN_drewN _ _ _) (congrArg (World.drewN _) (Nat.add_assoc _ _ _))⟩)))
           repeat (go_quiet (first | (go_at_call 68; (with_reducible refine (cofferref21_zero.calls k2 ((rd_T91 l0_1 x4_2).f0) false _ A18.out).mono ?_); rintro e w' ⟨rfl, ⟨nd, rfl⟩⟩; (try first | exact ⟨rfl, _, World.drewN_drewN _ _ _⟩ | exact ⟨rfl, _, Eq.trans (World.drewN_drewN _ _ _) (congrArg (World.drewN _) (Nat.add_assoc _ _ _))⟩); have p257 : 0 ≤ (x4_2 : Int) := of_decide_eq_true (by qa_); have q257 : x4_2 < (l0_1.length : Int) := of_decide_eq_true (by qa_); obtain ⟨ad257, e257, hx257_0, hx257_1⟩ := at_T91 HR0_1.out x4_2 p257 q257; obtain rfl : ad254 = ad257 := (by injection e257); replace hx257_0 := (HB.out.cell (World.block_lt_of_cell? w _ hx257_0)).trans hx257_0; replace hx257_1 := (HB.out.cell (World.block_lt_of_cell? w _ hx257_1)).trans hx257_1; replace p257 := eq_true p257; replace q257 := eq_true q257) | (go_at_call 68; (with_reducible refine (cofferref21_zero.calls k2 ((rd_T91 l0_1 x4_2).f1) t258 _ A21.out).mono ?_); rintro e w' ⟨rfl, ⟨nd, rfl⟩⟩; (try first | exact ⟨rfl, _, World.drewN_drewN _ _ _⟩ | exact ⟨rfl, _, Eq.trans (World.drewN_drewN _ _ _) (congrArg (World.drewN _) (Nat.add_assoc _ _ _))⟩))); try go_wp2_with (first | (go_at_call 68; (with_reducible refine (cofferref21_zero.calls k2 ((rd_T91 l0_1 x4_2).f0) false _ A18.out).mono ?_); rintro e w' ⟨rfl, ⟨nd, rfl⟩⟩; (try first | exact ⟨rfl, _, World.drewN_drewN _ _ _⟩ | exact ⟨rfl, _, Eq.trans (World.drewN_drewN _ _ _) (congrArg (World.drewN _) (Nat.add_assoc _ _ _))⟩); have p257 : 0 ≤ (x4_2 : Int) := of_decide_eq_true (by qa_); have q257 : x4_2 < (l0_1.length : Int) := of_decide_eq_true (by qa_); obtain ⟨ad257, e257, hx257_0, hx257_1⟩ := at_T91 HR0_1.out x4_2 p257 q257; obtain rfl : ad254 = ad257 := (by injection e257); replace hx257_0 := (HB.out.cell (World.block_lt_of_cell? w _ hx257_0)).trans hx257_0; replace hx257_1 := (HB.out.cell (World.block_lt_of_cell? w _ hx257_1)).trans hx257_1; replace p257 := eq_true p257; replace q257 := eq_true q257) | (go_at_call 68; (with_reducible refine (cofferref21_zero.calls k2 ((rd_T91 l0_1 x4_2).f1) t258 _ A21.out).mono ?_); rintro e w' ⟨rfl, ⟨nd, rfl⟩⟩; (try first | exact ⟨rfl, _, World.drewN_drewN _ _ _⟩ | exact ⟨rfl, _, Eq.trans (World.drewN_drewN _ _ _) (congrArg (World.drewN _) (Nat.add_assoc _ _ _))⟩))))
           go_meet
           case rel => exact ⟨_, (t258), (by qr_), H', ⟨by have := HK1.out; have := HK2.out; first | omega | exact Nat.le_refl _⟩, ⟨by qb_; exact BK250.out⟩, ⟨by repeat (first | (with_reducible first | qp_ | refine below_set ?_ GE250.out) | exact HB.out)⟩⟩
        ·
         rw [if_neg c15] at H
         exact absurd H (by simp)
       case rest =>
        clear HC13
        try clear c1
        try clear p2
        try clear q2
        try clear hx2
        try clear c3
        try clear c3b0
        try clear c4
        try clear c4b0
        try clear c5
        try clear c5b0
        try clear c5b1
        try clear p6
        try clear c8
        try clear c12
        try clear c12b0
        try clear c15
        try clear c15b0
        try clear c16
        try clear c16b0
        try clear c16b1
        try clear c19
        try clear hcz10_0
        try clear hcz10_1
        try clear hcz11_0
        try clear hcz11_1
        try clear hcz14_0
        try clear hcz14_1
        try clear hcz17_0
        try clear hcz17_1
        try clear hcz20_0
        try clear hcz20_1
        try clear hcz22_0
        try clear hcz22_1
        try clear hcz6_0
        try clear hcz6_1
        try clear hcz9_0
        try clear hcz9_1
        try clear hfz10_0
        try clear hfz10_1
        try clear hfz11_0
        try clear hfz11_1
        try clear hfz14_0
        try clear hfz14_1
        try clear hfz17_0
        try clear hfz17_1
        try clear hfz20_0
        try clear hfz20_1
        try clear hfz22_0
        try clear hfz22_1
        try clear hfz6_0
        try clear hfz6_1
        try clear hfz9_0
        try clear hfz9_1
        try clear hx251_0
        try clear hx252_0
        try clear hx254_0
        try clear hx254_1
        try clear hx255_0
        try clear hx255_1
        try clear hx257_0
        try clear hx257_1
        try clear p2
        try clear p251
        try clear p252
        try clear p254
        try clear p255
        try clear p257
        try clear p6
        try clear q2
        try clear q251
        try clear q252
        try clear q254
        try clear q255
        try clear q257
        obtain ⟨kq, x58_12, rfl, HA, HJ12, BK250, HB⟩ := hcut
        cases kq with
        | zero => exact absurd HA.out (by simp [cofferref21_May.j2])
        | succ kj12 =>
         have H := HA.out
         clear HA
         simp only [cofferref21_May.j2] at H
         by_cases c23 : x58_12 = true
         ·
          subst c23
          have H1 : (some false) = some r := by rw [if_pos rfl] at H; exact H
          clear H
          have H := H1
          clear H1
          obtain rfl := Option.some.inj H
          go_wp2
          repeat (go_quiet (fail); try go_wp2)
          go_ret
          exact ⟨by first | rfl | (simp [errW_none, errW_some] <;> rfl) | (simp [*, errW_none, errW_some] <;> rfl), by repeat (first | (with_reducible first | qp_ | refine below_set ?_ GE250.out) | exact HB.out)⟩
         ·
          replace c23 := Bool.eq_false_iff.mpr c23
          subst c23
          have H1 : (cofferref21_May.l2 kj12 x4_2 0 l0_0 l0_1) = some r := by rw [if_neg (show ¬ (false = true) by decide)] at H; exact H
          clear H
          have H := H1
          clear H1
          have H' := Aside0.mk H
          clear H
          go_wp2
          repeat (go_quiet (fail); try go_wp2)
          go_loopg [5] kj12 (fun kq v5 w' => ∃ (x5_4 : Int), v5 = .int .i64 x5_4 ∧ Aside0 (cofferref21_May.l2 kq x4_2 x5_4 l0_0 l0_1 = some r) ∧ Aside0 (kq ≤ kj12) ∧ Aside0 (w'.heap[gb250]? = some (.cells #[(.slice A0_0 l0_0.length c0_0), (.slice A0_1 l0_1.length c0_1)] 51 (0, 0))) ∧ Aside0 (Below w.heap.size w w'))
          case atStart => exact ⟨(0), (by qr_), H', ⟨Nat.le_refl _⟩, ⟨by qb_; exact BK250.out⟩, ⟨by repeat (first | (with_reducible first | qp_ | refine below_set ?_ GE250.out) | exact HB.out)⟩⟩
          case round =>
           clear H'
           try clear c1
           try clear c2
           try clear p2
           try clear q2
           try clear hx2
           try clear c3
           try clear c3b0
           try clear c4
           try clear c4b0
           try clear c5
           try clear c5b0
           try clear c5b1
           try clear p6
           try clear c8
           try clear c12
           try clear c12b0
           try clear c15
           try clear c15b0
           try clear c16
           try clear c16b0
           try clear c16b1
           try clear c19
           try clear c23
           try clear hcz10_0
           try clear hcz10_1
           try clear hcz11_0
           try clear hcz11_1
           try clear hcz14_0
           try clear hcz14_1
           try clear hcz17_0
           try clear hcz17_1
           try clear hcz20_0
           try clear hcz20_1
           try clear hcz22_0
           try clear hcz22_1
           try clear hcz6_0
           try clear hcz6_1
           try clear hcz9_0
           try clear hcz9_1
           try clear hfz10_0
           try clear hfz10_1
           try clear hfz11_0
           try clear hfz11_1
           try clear hfz14_0
           try clear hfz14_1
           try clear hfz17_0
           try clear hfz17_1
           try clear hfz20_0
           try clear hfz20_1
           try clear hfz22_0
           try clear hfz22_1
           try clear hfz6_0
           try clear hfz6_1
           try clear hfz9_0
           try clear hfz9_1
           try clear hx251_0
           try clear hx252_0
           try clear hx254_0
           try clear hx254_1
           try clear hx255_0
           try clear hx255_1
           try clear hx257_0
           try clear hx257_1
           try clear p2
           try clear p251
           try clear p252
           try clear p254
           try clear p255
           try clear p257
           try clear p6
           try clear q2
           try clear q251
           try clear q252
           try clear q254
           try clear q255
           try clear q257
           obtain ⟨x5_4, rfl, HA, HK4, BK250, HB⟩ := hrel
           cases gk with
           | zero => exact absurd HA.out (by simp [cofferref21_May.l2])
           | succ k4 =>
            have H := HA.out
            clear HA
            simp only [cofferref21_May.l2] at H
            by_cases c24 : x5_4 < x4_2
            ·
             rw [if_pos c24] at H
             have c24b0 : decide (x5_4 < x4_2) = true := decide_eq_true c24
             clear c24
             by_cases c25 : 0 ≤ x5_4
             ·
              rw [if_pos c25] at H
              have c25b0 : decide (0 ≤ x5_4) = true := decide_eq_true c25
              clear c25
              by_cases c26 : x5_4 < (l0_1.length : Int)
              ·
               rw [if_pos c26] at H
               have c26b0 : decide (x5_4 < (l0_1.length : Int)) = true := decide_eq_true c26
               clear c26
               by_cases c27 : 0 ≤ x4_2
               ·
                rw [if_pos c27] at H
                have c27b0 : decide (0 ≤ x4_2) = true := decide_eq_true c27
                clear c27
                by_cases c28 : x4_2 < (l0_1.length : Int)
                ·
                 rw [if_pos c28] at H
                 have c28b0 : decide (x4_2 < (l0_1.length : Int)) = true := decide_eq_true c28
                 clear c28
                 by_cases c29 : ((rd_T91 l0_1 x5_4).f0).toList = ((rd_T91 l0_1 x4_2).f0).toList
                 ·
                  rw [if_pos c29] at H
                  have c29b0 : (((rd_T91 l0_1 x5_4).f0).toList == ((rd_T91 l0_1 x4_2).f0).toList) = true := beq_iff_eq.mpr c29
                  have c29b1 : (((rd_T91 l0_1 x5_4).f0).toList != ((rd_T91 l0_1 x4_2).f0).toList) = false := bne_eq_false_iff_eq.mpr c29
                  clear c29
                  obtain rfl := Option.some.inj H
                  have hcz30_0 : wr.cell? ⟨gb250, 0, none⟩ = some (.slice A0_0 l0_0.length c0_0) := (blk_cell BK250.out 0).trans rfl
                  have hcz30_1 : wr.cell? ⟨gb250, 1, none⟩ = some (.slice A0_1 l0_1.length c0_1) := (blk_cell BK250.out 1).trans rfl
                  have hfz30_0 := blk_frozen BK250.out 0
                  have hfz30_1 := blk_frozen BK250.out 1
                  have p259 : 0 ≤ (x5_4 : Int) := of_decide_eq_true (by qa_)
                  have q259 : x5_4 < (l0_1.length : Int) := of_decide_eq_true (by qa_)
                  obtain ⟨ad259, e259, hx259_0, hx259_1⟩ := at_T91 HR0_1.out x5_4 p259 q259
                  cases e259
                  replace hx259_0 := (HB.out.cell (World.block_lt_of_cell? w _ hx259_0)).trans hx259_0
                  replace hx259_1 := (HB.out.cell (World.block_lt_of_cell? w _ hx259_1)).trans hx259_1
                  replace p259 := eq_true p259
                  replace q259 := eq_true q259
                  have p260 : 0 ≤ (x4_2 : Int) := of_decide_eq_true (by qa_)
                  have q260 : x4_2 < (l0_1.length : Int) := of_decide_eq_true (by qa_)
                  obtain ⟨ad260, e260, hx260_0, hx260_1⟩ := at_T91 HR0_1.out x4_2 p260 q260
                  obtain rfl : ad259 = ad260 := (by injection e260)
                  replace hx260_0 := (HB.out.cell (World.block_lt_of_cell? w _ hx260_0)).trans hx260_0
                  replace hx260_1 := (HB.out.cell (World.block_lt_of_cell? w _ hx260_1)).trans hx260_1
                  replace p260 := eq_true p260
                  replace q260 := eq_true q260
                  go_wp2
                  repeat (go_quiet (fail); try go_wp2)
                  go_ret
                  exact ⟨by first | rfl | (simp [errW_none, errW_some] <;> rfl) | (simp [*, errW_none, errW_some] <;> rfl), by repeat (first | (with_reducible first | qp_ | refine below_set ?_ GE250.out) | exact HB.out)⟩
                 ·
                  rw [if_neg c29] at H
                  have c29b0 : (((rd_T91 l0_1 x5_4).f0).toList == ((rd_T91 l0_1 x4_2).f0).toList) = false := beq_eq_false_iff_ne.mpr c29
                  have c29b1 : (((rd_T91 l0_1 x5_4).f0).toList != ((rd_T91 l0_1 x4_2).f0).toList) = true := bne_iff_ne.mpr c29
                  have H' := Aside0.mk H
                  clear H
                  have hcz31_0 : wr.cell? ⟨gb250, 0, none⟩ = some (.slice A0_0 l0_0.length c0_0) := (blk_cell BK250.out 0).trans rfl
                  have hcz31_1 : wr.cell? ⟨gb250, 1, none⟩ = some (.slice A0_1 l0_1.length c0_1) := (blk_cell BK250.out 1).trans rfl
                  have hfz31_0 := blk_frozen BK250.out 0
                  have hfz31_1 := blk_frozen BK250.out 1
                  have p259 : 0 ≤ (x5_4 : Int) := of_decide_eq_true (by qa_)
                  have q259 : x5_4 < (l0_1.length : Int) := of_decide_eq_true (by qa_)
                  obtain ⟨ad259, e259, hx259_0, hx259_1⟩ := at_T91 HR0_1.out x5_4 p259 q259
                  cases e259
                  replace hx259_0 := (HB.out.cell (World.block_lt_of_cell? w _ hx259_0)).trans hx259_0
                  replace hx259_1 := (HB.out.cell (World.block_lt_of_cell? w _ hx259_1)).trans hx259_1
                  replace p259 := eq_true p259
                  replace q259 := eq_true q259
                  have p260 : 0 ≤ (x4_2 : Int) := of_decide_eq_true (by qa_)
                  have q260 : x4_2 < (l0_1.length : Int) := of_decide_eq_true (by qa_)
                  obtain ⟨ad260, e260, hx260_0, hx260_1⟩ := at_T91 HR0_1.out x4_2 p260 q260
                  obtain rfl : ad259 = ad260 := (by injection e260)
                  replace hx260_0 := (HB.out.cell (World.block_lt_of_cell? w _ hx260_0)).trans hx260_0
                  replace hx260_1 := (HB.out.cell (World.block_lt_of_cell? w _ hx260_1)).trans hx260_1
                  replace p260 := eq_true p260
                  replace q260 := eq_true q260
                  go_wp2
                  repeat (go_quiet (fail); try go_wp2)
                  go_roundg k4
                  case measure => have := HK1.out; have := HK2.out; have := HJ12.out; have := HK4.out; omega
                  case rel => exact ⟨(wrap64 (x5_4 + 1)), (by qr_), H', ⟨by have := HK1.out; have := HK2.out; have := HJ12.out; have := HK4.out; omega⟩, ⟨by qb_; exact BK250.out⟩, ⟨by repeat (first | (with_reducible first | qp_ | refine below_set ?_ GE250.out) | exact HB.out)⟩⟩
                ·
                 rw [if_neg c28] at H
                 exact absurd H (by simp)
               ·
                rw [if_neg c27] at H
                exact absurd H (by simp)
              ·
               rw [if_neg c26] at H
               exact absurd H (by simp)
             ·
              rw [if_neg c25] at H
              exact absurd H (by simp)
            ·
             rw [if_neg c24] at H
             have c24b0 : decide (x5_4 < x4_2) = false := decide_eq_false c24
             clear c24
             have H' := Aside0.mk H
             clear H
             go_wp2
             repeat (go_quiet (fail); try go_wp2)
             go_roundg k4
             case measure => have := HK1.out; have := HK2.out; have := HJ12.out; have := HK4.out; omega
             case rel => exact ⟨(wrap64 (x4_2 + 1)), (by qr_), H', ⟨by have := HK1.out; have := HK2.out; have := HJ12.out; have := HK4.out; omega⟩, ⟨by qb_; exact BK250.out⟩, ⟨by repeat (first | (with_reducible first | qp_ | refine below_set ?_ GE250.out) | exact HB.out)⟩⟩
      ·
       rw [if_neg c12] at H
       have c12b0 : decide (x4_2 < (l0_1.length : Int)) = false := decide_eq_false c12
       clear c12
       obtain rfl := Option.some.inj H
       have hcz32_0 : wr.cell? ⟨gb250, 0, none⟩ = some (.slice A0_0 l0_0.length c0_0) := (blk_cell BK250.out 0).trans rfl
       have hcz32_1 : wr.cell? ⟨gb250, 1, none⟩ = some (.slice A0_1 l0_1.length c0_1) := (blk_cell BK250.out 1).trans rfl
       have hfz32_0 := blk_frozen BK250.out 0
       have hfz32_1 := blk_frozen BK250.out 1
       go_wp2
       repeat (go_quiet (fail); try go_wp2)
       go_ret
       exact ⟨by first | rfl | (simp [errW_none, errW_some] <;> rfl) | (simp [*, errW_none, errW_some] <;> rfl), by repeat (first | (with_reducible first | qp_ | refine below_set ?_ GE250.out) | exact HB.out)⟩
-- NOT PRINTED: function 25 (cofferref21_Parse)
def cofferref26_roads.f  : Option ((List (S67))) := some (([(⟨(⟨#[80, 85, 84]⟩ : ByteArray), (⟨#[116, 47, 78, 65, 77, 69, 47, 98, 47, 72, 69, 88]⟩ : ByteArray), (⟨#[]⟩ : ByteArray), (⟨#[]⟩ : ByteArray), 1⟩ : S67), (⟨(⟨#[71, 69, 84]⟩ : ByteArray), (⟨#[116, 47, 78, 65, 77, 69, 47, 98, 47, 72, 69, 88]⟩ : ByteArray), (⟨#[]⟩ : ByteArray), (⟨#[]⟩ : ByteArray), 2⟩ : S67), (⟨(⟨#[80, 79, 83, 84]⟩ : ByteArray), (⟨#[116, 47, 78, 65, 77, 69, 47, 115]⟩ : ByteArray), (⟨#[]⟩ : ByteArray), (⟨#[]⟩ : ByteArray), 3⟩ : S67), (⟨(⟨#[71, 69, 84]⟩ : ByteArray), (⟨#[116, 47, 78, 65, 77, 69, 47, 115]⟩ : ByteArray), (⟨#[]⟩ : ByteArray), (⟨#[]⟩ : ByteArray), 4⟩ : S67), (⟨(⟨#[71, 69, 84]⟩ : ByteArray), (⟨#[116, 47, 78, 65, 77, 69, 47, 115, 47, 78]⟩ : ByteArray), (⟨#[]⟩ : ByteArray), (⟨#[]⟩ : ByteArray), 5⟩ : S67), (⟨(⟨#[71, 69, 84]⟩ : ByteArray), (⟨#[116, 47, 78, 65, 77, 69, 47, 115, 47, 78, 47, 102, 105, 108, 101, 115]⟩ : ByteArray), (⟨#[]⟩ : ByteArray), (⟨#[]⟩ : ByteArray), 6⟩ : S67), (⟨(⟨#[68, 69, 76, 69, 84, 69]⟩ : ByteArray), (⟨#[116, 47, 78, 65, 77, 69, 47, 115, 47, 78]⟩ : ByteArray), (⟨#[]⟩ : ByteArray), (⟨#[]⟩ : ByteArray), 7⟩ : S67), (⟨(⟨#[80, 79, 83, 84]⟩ : ByteArray), (⟨#[116, 47, 78, 65, 77, 69, 47, 115, 47, 78, 47, 115, 112, 97, 114, 101]⟩ : ByteArray), (⟨#[]⟩ : ByteArray), (⟨#[]⟩ : ByteArray), 8⟩ : S67), (⟨(⟨#[71, 69, 84]⟩ : ByteArray), (⟨#[116, 47, 78, 65, 77, 69, 47, 107, 101, 121]⟩ : ByteArray), (⟨#[]⟩ : ByteArray), (⟨#[]⟩ : ByteArray), 9⟩ : S67), (⟨(⟨#[80, 85, 84]⟩ : ByteArray), (⟨#[97, 47, 116, 47, 78, 65, 77, 69]⟩ : ByteArray), (⟨#[113, 117, 111, 116, 97]⟩ : ByteArray), (⟨#[]⟩ : ByteArray), 10⟩ : S67), (⟨(⟨#[80, 79, 83, 84]⟩ : ByteArray), (⟨#[97, 47, 116, 47, 78, 65, 77, 69]⟩ : ByteArray), (⟨#[113, 117, 111, 116, 97]⟩ : ByteArray), (⟨#[]⟩ : ByteArray), 11⟩ : S67), (⟨(⟨#[80, 79, 83, 84]⟩ : ByteArray), (⟨#[97, 47, 116, 47, 78, 65, 77, 69, 47, 109, 97, 114, 107]⟩ : ByteArray), (⟨#[]⟩ : ByteArray), (⟨#[]⟩ : ByteArray), 14⟩ : S67), (⟨(⟨#[80, 79, 83, 84]⟩ : ByteArray), (⟨#[97, 47, 116, 47, 78, 65, 77, 69, 47, 115, 119, 101, 101, 112]⟩ : ByteArray), (⟨#[]⟩ : ByteArray), (⟨#[]⟩ : ByteArray), 15⟩ : S67), (⟨(⟨#[80, 79, 83, 84]⟩ : ByteArray), (⟨#[97, 47, 116, 111, 107, 101, 110]⟩ : ByteArray), (⟨#[114, 105, 103, 104, 116, 115, 44, 117, 110, 116, 105, 108]⟩ : ByteArray), (⟨#[116, 101, 110, 97, 110, 116]⟩ : ByteArray), 12⟩ : S67), (⟨(⟨#[68, 69, 76, 69, 84, 69]⟩ : ByteArray), (⟨#[97, 47, 116, 111, 107, 101, 110, 47, 78]⟩ : ByteArray), (⟨#[]⟩ : ByteArray), (⟨#[]⟩ : ByteArray), 13⟩ : S67), (⟨(⟨#[71, 69, 84]⟩ : ByteArray), (⟨#[97, 47, 108, 111, 103]⟩ : ByteArray), (⟨#[]⟩ : ByteArray), (⟨#[]⟩ : ByteArray), 16⟩ : S67), (⟨(⟨#[71, 69, 84]⟩ : ByteArray), (⟨#[97, 47, 104, 101, 97, 100]⟩ : ByteArray), (⟨#[]⟩ : ByteArray), (⟨#[]⟩ : ByteArray), 17⟩ : S67)] : List (S67)))
set_option maxHeartbeats 8000000 in
set_option maxRecDepth 100000 in
theorem cofferref26_roads.calls  (r : List (S67)) (w : World) (h : cofferref26_roads.f  = some r) :
  Calls Tryd.prog 26 #[] w fun e w' => ∃ v0_ : Value, e = .returned (v0_) ∧ Kd.R k67 67 w' w.heap.size (fun _ => True) v0_ r ∧ Below w.heap.size w w' := by
 have hu67 := Tryd.underlying67
 have HB := Aside0.mk (Below.refl w.heap.size w)
 have H : (some (([(⟨(⟨#[80, 85, 84]⟩ : ByteArray), (⟨#[116, 47, 78, 65, 77, 69, 47, 98, 47, 72, 69, 88]⟩ : ByteArray), (⟨#[]⟩ : ByteArray), (⟨#[]⟩ : ByteArray), 1⟩ : S67), (⟨(⟨#[71, 69, 84]⟩ : ByteArray), (⟨#[116, 47, 78, 65, 77, 69, 47, 98, 47, 72, 69, 88]⟩ : ByteArray), (⟨#[]⟩ : ByteArray), (⟨#[]⟩ : ByteArray), 2⟩ : S67), (⟨(⟨#[80, 79, 83, 84]⟩ : ByteArray), (⟨#[116, 47, 78, 65, 77, 69, 47, 115]⟩ : ByteArray), (⟨#[]⟩ : ByteArray), (⟨#[]⟩ : ByteArray), 3⟩ : S67), (⟨(⟨#[71, 69, 84]⟩ : ByteArray), (⟨#[116, 47, 78, 65, 77, 69, 47, 115]⟩ : ByteArray), (⟨#[]⟩ : ByteArray), (⟨#[]⟩ : ByteArray), 4⟩ : S67), (⟨(⟨#[71, 69, 84]⟩ : ByteArray), (⟨#[116, 47, 78, 65, 77, 69, 47, 115, 47, 78]⟩ : ByteArray), (⟨#[]⟩ : ByteArray), (⟨#[]⟩ : ByteArray), 5⟩ : S67), (⟨(⟨#[71, 69, 84]⟩ : ByteArray), (⟨#[116, 47, 78, 65, 77, 69, 47, 115, 47, 78, 47, 102, 105, 108, 101, 115]⟩ : ByteArray), (⟨#[]⟩ : ByteArray), (⟨#[]⟩ : ByteArray), 6⟩ : S67), (⟨(⟨#[68, 69, 76, 69, 84, 69]⟩ : ByteArray), (⟨#[116, 47, 78, 65, 77, 69, 47, 115, 47, 78]⟩ : ByteArray), (⟨#[]⟩ : ByteArray), (⟨#[]⟩ : ByteArray), 7⟩ : S67), (⟨(⟨#[80, 79, 83, 84]⟩ : ByteArray), (⟨#[116, 47, 78, 65, 77, 69, 47, 115, 47, 78, 47, 115, 112, 97, 114, 101]⟩ : ByteArray), (⟨#[]⟩ : ByteArray), (⟨#[]⟩ : ByteArray), 8⟩ : S67), (⟨(⟨#[71, 69, 84]⟩ : ByteArray), (⟨#[116, 47, 78, 65, 77, 69, 47, 107, 101, 121]⟩ : ByteArray), (⟨#[]⟩ : ByteArray), (⟨#[]⟩ : ByteArray), 9⟩ : S67), (⟨(⟨#[80, 85, 84]⟩ : ByteArray), (⟨#[97, 47, 116, 47, 78, 65, 77, 69]⟩ : ByteArray), (⟨#[113, 117, 111, 116, 97]⟩ : ByteArray), (⟨#[]⟩ : ByteArray), 10⟩ : S67), (⟨(⟨#[80, 79, 83, 84]⟩ : ByteArray), (⟨#[97, 47, 116, 47, 78, 65, 77, 69]⟩ : ByteArray), (⟨#[113, 117, 111, 116, 97]⟩ : ByteArray), (⟨#[]⟩ : ByteArray), 11⟩ : S67), (⟨(⟨#[80, 79, 83, 84]⟩ : ByteArray), (⟨#[97, 47, 116, 47, 78, 65, 77, 69, 47, 109, 97, 114, 107]⟩ : ByteArray), (⟨#[]⟩ : ByteArray), (⟨#[]⟩ : ByteArray), 14⟩ : S67), (⟨(⟨#[80, 79, 83, 84]⟩ : ByteArray), (⟨#[97, 47, 116, 47, 78, 65, 77, 69, 47, 115, 119, 101, 101, 112]⟩ : ByteArray), (⟨#[]⟩ : ByteArray), (⟨#[]⟩ : ByteArray), 15⟩ : S67), (⟨(⟨#[80, 79, 83, 84]⟩ : ByteArray), (⟨#[97, 47, 116, 111, 107, 101, 110]⟩ : ByteArray), (⟨#[114, 105, 103, 104, 116, 115, 44, 117, 110, 116, 105, 108]⟩ : ByteArray), (⟨#[116, 101, 110, 97, 110, 116]⟩ : ByteArray), 12⟩ : S67), (⟨(⟨#[68, 69, 76, 69, 84, 69]⟩ : ByteArray), (⟨#[97, 47, 116, 111, 107, 101, 110, 47, 78]⟩ : ByteArray), (⟨#[]⟩ : ByteArray), (⟨#[]⟩ : ByteArray), 13⟩ : S67), (⟨(⟨#[71, 69, 84]⟩ : ByteArray), (⟨#[97, 47, 108, 111, 103]⟩ : ByteArray), (⟨#[]⟩ : ByteArray), (⟨#[]⟩ : ByteArray), 16⟩ : S67), (⟨(⟨#[71, 69, 84]⟩ : ByteArray), (⟨#[97, 47, 104, 101, 97, 100]⟩ : ByteArray), (⟨#[]⟩ : ByteArray), (⟨#[]⟩ : ByteArray), 17⟩ : S67)] : List (S67)))) = some r := h
 clear h
 obtain ⟨y263, hy263⟩ : ∃ y_ : List (S67), y_ = (([(⟨(⟨#[80, 85, 84]⟩ : ByteArray), (⟨#[116, 47, 78, 65, 77, 69, 47, 98, 47, 72, 69, 88]⟩ : ByteArray), (⟨#[]⟩ : ByteArray), (⟨#[]⟩ : ByteArray), 1⟩ : S67), (⟨(⟨#[71, 69, 84]⟩ : ByteArray), (⟨#[116, 47, 78, 65, 77, 69, 47, 98, 47, 72, 69, 88]⟩ : ByteArray), (⟨#[]⟩ : ByteArray), (⟨#[]⟩ : ByteArray), 2⟩ : S67), (⟨(⟨#[80, 79, 83, 84]⟩ : ByteArray), (⟨#[116, 47, 78, 65, 77, 69, 47, 115]⟩ : ByteArray), (⟨#[]⟩ : ByteArray), (⟨#[]⟩ : ByteArray), 3⟩ : S67), (⟨(⟨#[71, 69, 84]⟩ : ByteArray), (⟨#[116, 47, 78, 65, 77, 69, 47, 115]⟩ : ByteArray), (⟨#[]⟩ : ByteArray), (⟨#[]⟩ : ByteArray), 4⟩ : S67), (⟨(⟨#[71, 69, 84]⟩ : ByteArray), (⟨#[116, 47, 78, 65, 77, 69, 47, 115, 47, 78]⟩ : ByteArray), (⟨#[]⟩ : ByteArray), (⟨#[]⟩ : ByteArray), 5⟩ : S67), (⟨(⟨#[71, 69, 84]⟩ : ByteArray), (⟨#[116, 47, 78, 65, 77, 69, 47, 115, 47, 78, 47, 102, 105, 108, 101, 115]⟩ : ByteArray), (⟨#[]⟩ : ByteArray), (⟨#[]⟩ : ByteArray), 6⟩ : S67), (⟨(⟨#[68, 69, 76, 69, 84, 69]⟩ : ByteArray), (⟨#[116, 47, 78, 65, 77, 69, 47, 115, 47, 78]⟩ : ByteArray), (⟨#[]⟩ : ByteArray), (⟨#[]⟩ : ByteArray), 7⟩ : S67), (⟨(⟨#[80, 79, 83, 84]⟩ : ByteArray), (⟨#[116, 47, 78, 65, 77, 69, 47, 115, 47, 78, 47, 115, 112, 97, 114, 101]⟩ : ByteArray), (⟨#[]⟩ : ByteArray), (⟨#[]⟩ : ByteArray), 8⟩ : S67), (⟨(⟨#[71, 69, 84]⟩ : ByteArray), (⟨#[116, 47, 78, 65, 77, 69, 47, 107, 101, 121]⟩ : ByteArray), (⟨#[]⟩ : ByteArray), (⟨#[]⟩ : ByteArray), 9⟩ : S67), (⟨(⟨#[80, 85, 84]⟩ : ByteArray), (⟨#[97, 47, 116, 47, 78, 65, 77, 69]⟩ : ByteArray), (⟨#[113, 117, 111, 116, 97]⟩ : ByteArray), (⟨#[]⟩ : ByteArray), 10⟩ : S67), (⟨(⟨#[80, 79, 83, 84]⟩ : ByteArray), (⟨#[97, 47, 116, 47, 78, 65, 77, 69]⟩ : ByteArray), (⟨#[113, 117, 111, 116, 97]⟩ : ByteArray), (⟨#[]⟩ : ByteArray), 11⟩ : S67), (⟨(⟨#[80, 79, 83, 84]⟩ : ByteArray), (⟨#[97, 47, 116, 47, 78, 65, 77, 69, 47, 109, 97, 114, 107]⟩ : ByteArray), (⟨#[]⟩ : ByteArray), (⟨#[]⟩ : ByteArray), 14⟩ : S67), (⟨(⟨#[80, 79, 83, 84]⟩ : ByteArray), (⟨#[97, 47, 116, 47, 78, 65, 77, 69, 47, 115, 119, 101, 101, 112]⟩ : ByteArray), (⟨#[]⟩ : ByteArray), (⟨#[]⟩ : ByteArray), 15⟩ : S67), (⟨(⟨#[80, 79, 83, 84]⟩ : ByteArray), (⟨#[97, 47, 116, 111, 107, 101, 110]⟩ : ByteArray), (⟨#[114, 105, 103, 104, 116, 115, 44, 117, 110, 116, 105, 108]⟩ : ByteArray), (⟨#[116, 101, 110, 97, 110, 116]⟩ : ByteArray), 12⟩ : S67), (⟨(⟨#[68, 69, 76, 69, 84, 69]⟩ : ByteArray), (⟨#[97, 47, 116, 111, 107, 101, 110, 47, 78]⟩ : ByteArray), (⟨#[]⟩ : ByteArray), (⟨#[]⟩ : ByteArray), 13⟩ : S67), (⟨(⟨#[71, 69, 84]⟩ : ByteArray), (⟨#[97, 47, 108, 111, 103]⟩ : ByteArray), (⟨#[]⟩ : ByteArray), (⟨#[]⟩ : ByteArray), 16⟩ : S67), (⟨(⟨#[71, 69, 84]⟩ : ByteArray), (⟨#[97, 47, 104, 101, 97, 100]⟩ : ByteArray), (⟨#[]⟩ : ByteArray), (⟨#[]⟩ : ByteArray), 17⟩ : S67)] : List (S67))) := ⟨_, rfl⟩
 replace H : (some y263) = some r := by first | (rw [hy263]; with_reducible exact H) | (have H2_ := (Option.bind_some _ _).symm.trans H; rw [hy263]; with_reducible exact H2_) | (have H2_ := (Option.bind_some _ _).symm.trans H; with_reducible exact H2_) | with_reducible exact H | (rw [hy263]; exact H) | exact H
 have Ny263 := Aside0.mk hy263
 clear hy263
 obtain rfl := Option.some.inj H
 go_enter Tryd.func26, Tryd.ntmps26
 go_wp2_with (first | ((with_reducible refine gate_dst (N := 18) rfl ?_); refine Kd.R_lit k67 _ 67 ?hg (N := 18) ?hd (xs := ([(⟨(⟨#[80, 85, 84]⟩ : ByteArray), (⟨#[116, 47, 78, 65, 77, 69, 47, 98, 47, 72, 69, 88]⟩ : ByteArray), (⟨#[]⟩ : ByteArray), (⟨#[]⟩ : ByteArray), 1⟩ : S67), (⟨(⟨#[71, 69, 84]⟩ : ByteArray), (⟨#[116, 47, 78, 65, 77, 69, 47, 98, 47, 72, 69, 88]⟩ : ByteArray), (⟨#[]⟩ : ByteArray), (⟨#[]⟩ : ByteArray), 2⟩ : S67), (⟨(⟨#[80, 79, 83, 84]⟩ : ByteArray), (⟨#[116, 47, 78, 65, 77, 69, 47, 115]⟩ : ByteArray), (⟨#[]⟩ : ByteArray), (⟨#[]⟩ : ByteArray), 3⟩ : S67), (⟨(⟨#[71, 69, 84]⟩ : ByteArray), (⟨#[116, 47, 78, 65, 77, 69, 47, 115]⟩ : ByteArray), (⟨#[]⟩ : ByteArray), (⟨#[]⟩ : ByteArray), 4⟩ : S67), (⟨(⟨#[71, 69, 84]⟩ : ByteArray), (⟨#[116, 47, 78, 65, 77, 69, 47, 115, 47, 78]⟩ : ByteArray), (⟨#[]⟩ : ByteArray), (⟨#[]⟩ : ByteArray), 5⟩ : S67), (⟨(⟨#[71, 69, 84]⟩ : ByteArray), (⟨#[116, 47, 78, 65, 77, 69, 47, 115, 47, 78, 47, 102, 105, 108, 101, 115]⟩ : ByteArray), (⟨#[]⟩ : ByteArray), (⟨#[]⟩ : ByteArray), 6⟩ : S67), (⟨(⟨#[68, 69, 76, 69, 84, 69]⟩ : ByteArray), (⟨#[116, 47, 78, 65, 77, 69, 47, 115, 47, 78]⟩ : ByteArray), (⟨#[]⟩ : ByteArray), (⟨#[]⟩ : ByteArray), 7⟩ : S67), (⟨(⟨#[80, 79, 83, 84]⟩ : ByteArray), (⟨#[116, 47, 78, 65, 77, 69, 47, 115, 47, 78, 47, 115, 112, 97, 114, 101]⟩ : ByteArray), (⟨#[]⟩ : ByteArray), (⟨#[]⟩ : ByteArray), 8⟩ : S67), (⟨(⟨#[71, 69, 84]⟩ : ByteArray), (⟨#[116, 47, 78, 65, 77, 69, 47, 107, 101, 121]⟩ : ByteArray), (⟨#[]⟩ : ByteArray), (⟨#[]⟩ : ByteArray), 9⟩ : S67), (⟨(⟨#[80, 85, 84]⟩ : ByteArray), (⟨#[97, 47, 116, 47, 78, 65, 77, 69]⟩ : ByteArray), (⟨#[113, 117, 111, 116, 97]⟩ : ByteArray), (⟨#[]⟩ : ByteArray), 10⟩ : S67), (⟨(⟨#[80, 79, 83, 84]⟩ : ByteArray), (⟨#[97, 47, 116, 47, 78, 65, 77, 69]⟩ : ByteArray), (⟨#[113, 117, 111, 116, 97]⟩ : ByteArray), (⟨#[]⟩ : ByteArray), 11⟩ : S67), (⟨(⟨#[80, 79, 83, 84]⟩ : ByteArray), (⟨#[97, 47, 116, 47, 78, 65, 77, 69, 47, 109, 97, 114, 107]⟩ : ByteArray), (⟨#[]⟩ : ByteArray), (⟨#[]⟩ : ByteArray), 14⟩ : S67), (⟨(⟨#[80, 79, 83, 84]⟩ : ByteArray), (⟨#[97, 47, 116, 47, 78, 65, 77, 69, 47, 115, 119, 101, 101, 112]⟩ : ByteArray), (⟨#[]⟩ : ByteArray), (⟨#[]⟩ : ByteArray), 15⟩ : S67), (⟨(⟨#[80, 79, 83, 84]⟩ : ByteArray), (⟨#[97, 47, 116, 111, 107, 101, 110]⟩ : ByteArray), (⟨#[114, 105, 103, 104, 116, 115, 44, 117, 110, 116, 105, 108]⟩ : ByteArray), (⟨#[116, 101, 110, 97, 110, 116]⟩ : ByteArray), 12⟩ : S67), (⟨(⟨#[68, 69, 76, 69, 84, 69]⟩ : ByteArray), (⟨#[97, 47, 116, 111, 107, 101, 110, 47, 78]⟩ : ByteArray), (⟨#[]⟩ : ByteArray), (⟨#[]⟩ : ByteArray), 13⟩ : S67), (⟨(⟨#[71, 69, 84]⟩ : ByteArray), (⟨#[97, 47, 108, 111, 103]⟩ : ByteArray), (⟨#[]⟩ : ByteArray), (⟨#[]⟩ : ByteArray), 16⟩ : S67), (⟨(⟨#[71, 69, 84]⟩ : ByteArray), (⟨#[97, 47, 104, 101, 97, 100]⟩ : ByteArray), (⟨#[]⟩ : ByteArray), (⟨#[]⟩ : ByteArray), 17⟩ : S67)] : List (S67))) (inner := [.string (⟨#[80, 85, 84]⟩ : ByteArray), .string (⟨#[116, 47, 78, 65, 77, 69, 47, 98, 47, 72, 69, 88]⟩ : ByteArray), .string (⟨#[]⟩ : ByteArray), .string (⟨#[]⟩ : ByteArray), .int .i64 1, .string (⟨#[71, 69, 84]⟩ : ByteArray), .string (⟨#[116, 47, 78, 65, 77, 69, 47, 98, 47, 72, 69, 88]⟩ : ByteArray), .string (⟨#[]⟩ : ByteArray), .string (⟨#[]⟩ : ByteArray), .int .i64 2, .string (⟨#[80, 79, 83, 84]⟩ : ByteArray), .string (⟨#[116, 47, 78, 65, 77, 69, 47, 115]⟩ : ByteArray), .string (⟨#[]⟩ : ByteArray), .string (⟨#[]⟩ : ByteArray), .int .i64 3, .string (⟨#[71, 69, 84]⟩ : ByteArray), .string (⟨#[116, 47, 78, 65, 77, 69, 47, 115]⟩ : ByteArray), .string (⟨#[]⟩ : ByteArray), .string (⟨#[]⟩ : ByteArray), .int .i64 4, .string (⟨#[71, 69, 84]⟩ : ByteArray), .string (⟨#[116, 47, 78, 65, 77, 69, 47, 115, 47, 78]⟩ : ByteArray), .string (⟨#[]⟩ : ByteArray), .string (⟨#[]⟩ : ByteArray), .int .i64 5, .string (⟨#[71, 69, 84]⟩ : ByteArray), .string (⟨#[116, 47, 78, 65, 77, 69, 47, 115, 47, 78, 47, 102, 105, 108, 101, 115]⟩ : ByteArray), .string (⟨#[]⟩ : ByteArray), .string (⟨#[]⟩ : ByteArray), .int .i64 6, .string (⟨#[68, 69, 76, 69, 84, 69]⟩ : ByteArray), .string (⟨#[116, 47, 78, 65, 77, 69, 47, 115, 47, 78]⟩ : ByteArray), .string (⟨#[]⟩ : ByteArray), .string (⟨#[]⟩ : ByteArray), .int .i64 7, .string (⟨#[80, 79, 83, 84]⟩ : ByteArray), .string (⟨#[116, 47, 78, 65, 77, 69, 47, 115, 47, 78, 47, 115, 112, 97, 114, 101]⟩ : ByteArray), .string (⟨#[]⟩ : ByteArray), .string (⟨#[]⟩ : ByteArray), .int .i64 8, .string (⟨#[71, 69, 84]⟩ : ByteArray), .string (⟨#[116, 47, 78, 65, 77, 69, 47, 107, 101, 121]⟩ : ByteArray), .string (⟨#[]⟩ : ByteArray), .string (⟨#[]⟩ : ByteArray), .int .i64 9, .string (⟨#[80, 85, 84]⟩ : ByteArray), .string (⟨#[97, 47, 116, 47, 78, 65, 77, 69]⟩ : ByteArray), .string (⟨#[113, 117, 111, 116, 97]⟩ : ByteArray), .string (⟨#[]⟩ : ByteArray), .int .i64 10, .string (⟨#[80, 79, 83, 84]⟩ : ByteArray), .string (⟨#[97, 47, 116, 47, 78, 65, 77, 69]⟩ : ByteArray), .string (⟨#[113, 117, 111, 116, 97]⟩ : ByteArray), .string (⟨#[]⟩ : ByteArray), .int .i64 11, .string (⟨#[80, 79, 83, 84]⟩ : ByteArray), .string (⟨#[97, 47, 116, 47, 78, 65, 77, 69, 47, 109, 97, 114, 107]⟩ : ByteArray), .string (⟨#[]⟩ : ByteArray), .string (⟨#[]⟩ : ByteArray), .int .i64 14, .string (⟨#[80, 79, 83, 84]⟩ : ByteArray), .string (⟨#[97, 47, 116, 47, 78, 65, 77, 69, 47, 115, 119, 101, 101, 112]⟩ : ByteArray), .string (⟨#[]⟩ : ByteArray), .string (⟨#[]⟩ : ByteArray), .int .i64 15, .string (⟨#[80, 79, 83, 84]⟩ : ByteArray), .string (⟨#[97, 47, 116, 111, 107, 101, 110]⟩ : ByteArray), .string (⟨#[114, 105, 103, 104, 116, 115, 44, 117, 110, 116, 105, 108]⟩ : ByteArray), .string (⟨#[116, 101, 110, 97, 110, 116]⟩ : ByteArray), .int .i64 12, .string (⟨#[68, 69, 76, 69, 84, 69]⟩ : ByteArray), .string (⟨#[97, 47, 116, 111, 107, 101, 110, 47, 78]⟩ : ByteArray), .string (⟨#[]⟩ : ByteArray), .string (⟨#[]⟩ : ByteArray), .int .i64 13, .string (⟨#[71, 69, 84]⟩ : ByteArray), .string (⟨#[97, 47, 108, 111, 103]⟩ : ByteArray), .string (⟨#[]⟩ : ByteArray), .string (⟨#[]⟩ : ByteArray), .int .i64 16, .string (⟨#[71, 69, 84]⟩ : ByteArray), .string (⟨#[97, 47, 104, 101, 97, 100]⟩ : ByteArray), .string (⟨#[]⟩ : ByteArray), .string (⟨#[]⟩ : ByteArray), .int .i64 17]) (ok := fun _ => True) (okp := fun _ => True) ?hr ?hp (fun _ hk => hk) trivial (Below.refl _ _) (Nat.le_refl _) (by simp) ?_; (case hd => rfl); (case hg => rfl); (case hr => first | (go_simp; done) | (go_simp; rfl)); (case hp => exact (Reps.c5 (show Kd.M k67 _ _ _ (⟨(⟨#[80, 85, 84]⟩ : ByteArray), (⟨#[116, 47, 78, 65, 77, 69, 47, 98, 47, 72, 69, 88]⟩ : ByteArray), (⟨#[]⟩ : ByteArray), (⟨#[]⟩ : ByteArray), 1⟩ : S67) [.string (⟨#[80, 85, 84]⟩ : ByteArray), .string (⟨#[116, 47, 78, 65, 77, 69, 47, 98, 47, 72, 69, 88]⟩ : ByteArray), .string (⟨#[]⟩ : ByteArray), .string (⟨#[]⟩ : ByteArray), .int .i64 1] from (k67_mkM _ _ _ (⟨(⟨#[80, 85, 84]⟩ : ByteArray), (⟨#[116, 47, 78, 65, 77, 69, 47, 98, 47, 72, 69, 88]⟩ : ByteArray), (⟨#[]⟩ : ByteArray), (⟨#[]⟩ : ByteArray), 1⟩ : S67) )) (Reps.c5 (show Kd.M k67 _ _ _ (⟨(⟨#[71, 69, 84]⟩ : ByteArray), (⟨#[116, 47, 78, 65, 77, 69, 47, 98, 47, 72, 69, 88]⟩ : ByteArray), (⟨#[]⟩ : ByteArray), (⟨#[]⟩ : ByteArray), 2⟩ : S67) [.string (⟨#[71, 69, 84]⟩ : ByteArray), .string (⟨#[116, 47, 78, 65, 77, 69, 47, 98, 47, 72, 69, 88]⟩ : ByteArray), .string (⟨#[]⟩ : ByteArray), .string (⟨#[]⟩ : ByteArray), .int .i64 2] from (k67_mkM _ _ _ (⟨(⟨#[71, 69, 84]⟩ : ByteArray), (⟨#[116, 47, 78, 65, 77, 69, 47, 98, 47, 72, 69, 88]⟩ : ByteArray), (⟨#[]⟩ : ByteArray), (⟨#[]⟩ : ByteArray), 2⟩ : S67) )) (Reps.c5 (show Kd.M k67 _ _ _ (⟨(⟨#[80, 79, 83, 84]⟩ : ByteArray), (⟨#[116, 47, 78, 65, 77, 69, 47, 115]⟩ : ByteArray), (⟨#[]⟩ : ByteArray), (⟨#[]⟩ : ByteArray), 3⟩ : S67) [.string (⟨#[80, 79, 83, 84]⟩ : ByteArray), .string (⟨#[116, 47, 78, 65, 77, 69, 47, 115]⟩ : ByteArray), .string (⟨#[]⟩ : ByteArray), .string (⟨#[]⟩ : ByteArray), .int .i64 3] from (k67_mkM _ _ _ (⟨(⟨#[80, 79, 83, 84]⟩ : ByteArray), (⟨#[116, 47, 78, 65, 77, 69, 47, 115]⟩ : ByteArray), (⟨#[]⟩ : ByteArray), (⟨#[]⟩ : ByteArray), 3⟩ : S67) )) (Reps.c5 (show Kd.M k67 _ _ _ (⟨(⟨#[71, 69, 84]⟩ : ByteArray), (⟨#[116, 47, 78, 65, 77, 69, 47, 115]⟩ : ByteArray), (⟨#[]⟩ : ByteArray), (⟨#[]⟩ : ByteArray), 4⟩ : S67) [.string (⟨#[71, 69, 84]⟩ : ByteArray), .string (⟨#[116, 47, 78, 65, 77, 69, 47, 115]⟩ : ByteArray), .string (⟨#[]⟩ : ByteArray), .string (⟨#[]⟩ : ByteArray), .int .i64 4] from (k67_mkM _ _ _ (⟨(⟨#[71, 69, 84]⟩ : ByteArray), (⟨#[116, 47, 78, 65, 77, 69, 47, 115]⟩ : ByteArray), (⟨#[]⟩ : ByteArray), (⟨#[]⟩ : ByteArray), 4⟩ : S67) )) (Reps.c5 (show Kd.M k67 _ _ _ (⟨(⟨#[71, 69, 84]⟩ : ByteArray), (⟨#[116, 47, 78, 65, 77, 69, 47, 115, 47, 78]⟩ : ByteArray), (⟨#[]⟩ : ByteArray), (⟨#[]⟩ : ByteArray), 5⟩ : S67) [.string (⟨#[71, 69, 84]⟩ : ByteArray), .string (⟨#[116, 47, 78, 65, 77, 69, 47, 115, 47, 78]⟩ : ByteArray), .string (⟨#[]⟩ : ByteArray), .string (⟨#[]⟩ : ByteArray), .int .i64 5] from (k67_mkM _ _ _ (⟨(⟨#[71, 69, 84]⟩ : ByteArray), (⟨#[116, 47, 78, 65, 77, 69, 47, 115, 47, 78]⟩ : ByteArray), (⟨#[]⟩ : ByteArray), (⟨#[]⟩ : ByteArray), 5⟩ : S67) )) (Reps.c5 (show Kd.M k67 _ _ _ (⟨(⟨#[71, 69, 84]⟩ : ByteArray), (⟨#[116, 47, 78, 65, 77, 69, 47, 115, 47, 78, 47, 102, 105, 108, 101, 115]⟩ : ByteArray), (⟨#[]⟩ : ByteArray), (⟨#[]⟩ : ByteArray), 6⟩ : S67) [.string (⟨#[71, 69, 84]⟩ : ByteArray), .string (⟨#[116, 47, 78, 65, 77, 69, 47, 115, 47, 78, 47, 102, 105, 108, 101, 115]⟩ : ByteArray), .string (⟨#[]⟩ : ByteArray), .string (⟨#[]⟩ : ByteArray), .int .i64 6] from (k67_mkM _ _ _ (⟨(⟨#[71, 69, 84]⟩ : ByteArray), (⟨#[116, 47, 78, 65, 77, 69, 47, 115, 47, 78, 47, 102, 105, 108, 101, 115]⟩ : ByteArray), (⟨#[]⟩ : ByteArray), (⟨#[]⟩ : ByteArray), 6⟩ : S67) )) (Reps.c5 (show Kd.M k67 _ _ _ (⟨(⟨#[68, 69, 76, 69, 84, 69]⟩ : ByteArray), (⟨#[116, 47, 78, 65, 77, 69, 47, 115, 47, 78]⟩ : ByteArray), (⟨#[]⟩ : ByteArray), (⟨#[]⟩ : ByteArray), 7⟩ : S67) [.string (⟨#[68, 69, 76, 69, 84, 69]⟩ : ByteArray), .string (⟨#[116, 47, 78, 65, 77, 69, 47, 115, 47, 78]⟩ : ByteArray), .string (⟨#[]⟩ : ByteArray), .string (⟨#[]⟩ : ByteArray), .int .i64 7] from (k67_mkM _ _ _ (⟨(⟨#[68, 69, 76, 69, 84, 69]⟩ : ByteArray), (⟨#[116, 47, 78, 65, 77, 69, 47, 115, 47, 78]⟩ : ByteArray), (⟨#[]⟩ : ByteArray), (⟨#[]⟩ : ByteArray), 7⟩ : S67) )) (Reps.c5 (show Kd.M k67 _ _ _ (⟨(⟨#[80, 79, 83, 84]⟩ : ByteArray), (⟨#[116, 47, 78, 65, 77, 69, 47, 115, 47, 78, 47, 115, 112, 97, 114, 101]⟩ : ByteArray), (⟨#[]⟩ : ByteArray), (⟨#[]⟩ : ByteArray), 8⟩ : S67) [.string (⟨#[80, 79, 83, 84]⟩ : ByteArray), .string (⟨#[116, 47, 78, 65, 77, 69, 47, 115, 47, 78, 47, 115, 112, 97, 114, 101]⟩ : ByteArray), .string (⟨#[]⟩ : ByteArray), .string (⟨#[]⟩ : ByteArray), .int .i64 8] from (k67_mkM _ _ _ (⟨(⟨#[80, 79, 83, 84]⟩ : ByteArray), (⟨#[116, 47, 78, 65, 77, 69, 47, 115, 47, 78, 47, 115, 112, 97, 114, 101]⟩ : ByteArray), (⟨#[]⟩ : ByteArray), (⟨#[]⟩ : ByteArray), 8⟩ : S67) )) (Reps.c5 (show Kd.M k67 _ _ _ (⟨(⟨#[71, 69, 84]⟩ : ByteArray), (⟨#[116, 47, 78, 65, 77, 69, 47, 107, 101, 121]⟩ : ByteArray), (⟨#[]⟩ : ByteArray), (⟨#[]⟩ : ByteArray), 9⟩ : S67) [.string (⟨#[71, 69, 84]⟩ : ByteArray), .string (⟨#[116, 47, 78, 65, 77, 69, 47, 107, 101, 121]⟩ : ByteArray), .string (⟨#[]⟩ : ByteArray), .string (⟨#[]⟩ : ByteArray), .int .i64 9] from (k67_mkM _ _ _ (⟨(⟨#[71, 69, 84]⟩ : ByteArray), (⟨#[116, 47, 78, 65, 77, 69, 47, 107, 101, 121]⟩ : ByteArray), (⟨#[]⟩ : ByteArray), (⟨#[]⟩ : ByteArray), 9⟩ : S67) )) (Reps.c5 (show Kd.M k67 _ _ _ (⟨(⟨#[80, 85, 84]⟩ : ByteArray), (⟨#[97, 47, 116, 47, 78, 65, 77, 69]⟩ : ByteArray), (⟨#[113, 117, 111, 116, 97]⟩ : ByteArray), (⟨#[]⟩ : ByteArray), 10⟩ : S67) [.string (⟨#[80, 85, 84]⟩ : ByteArray), .string (⟨#[97, 47, 116, 47, 78, 65, 77, 69]⟩ : ByteArray), .string (⟨#[113, 117, 111, 116, 97]⟩ : ByteArray), .string (⟨#[]⟩ : ByteArray), .int .i64 10] from (k67_mkM _ _ _ (⟨(⟨#[80, 85, 84]⟩ : ByteArray), (⟨#[97, 47, 116, 47, 78, 65, 77, 69]⟩ : ByteArray), (⟨#[113, 117, 111, 116, 97]⟩ : ByteArray), (⟨#[]⟩ : ByteArray), 10⟩ : S67) )) (Reps.c5 (show Kd.M k67 _ _ _ (⟨(⟨#[80, 79, 83, 84]⟩ : ByteArray), (⟨#[97, 47, 116, 47, 78, 65, 77, 69]⟩ : ByteArray), (⟨#[113, 117, 111, 116, 97]⟩ : ByteArray), (⟨#[]⟩ : ByteArray), 11⟩ : S67) [.string (⟨#[80, 79, 83, 84]⟩ : ByteArray), .string (⟨#[97, 47, 116, 47, 78, 65, 77, 69]⟩ : ByteArray), .string (⟨#[113, 117, 111, 116, 97]⟩ : ByteArray), .string (⟨#[]⟩ : ByteArray), .int .i64 11] from (k67_mkM _ _ _ (⟨(⟨#[80, 79, 83, 84]⟩ : ByteArray), (⟨#[97, 47, 116, 47, 78, 65, 77, 69]⟩ : ByteArray), (⟨#[113, 117, 111, 116, 97]⟩ : ByteArray), (⟨#[]⟩ : ByteArray), 11⟩ : S67) )) (Reps.c5 (show Kd.M k67 _ _ _ (⟨(⟨#[80, 79, 83, 84]⟩ : ByteArray), (⟨#[97, 47, 116, 47, 78, 65, 77, 69, 47, 109, 97, 114, 107]⟩ : ByteArray), (⟨#[]⟩ : ByteArray), (⟨#[]⟩ : ByteArray), 14⟩ : S67) [.string (⟨#[80, 79, 83, 84]⟩ : ByteArray), .string (⟨#[97, 47, 116, 47, 78, 65, 77, 69, 47, 109, 97, 114, 107]⟩ : ByteArray), .string (⟨#[]⟩ : ByteArray), .string (⟨#[]⟩ : ByteArray), .int .i64 14] from (k67_mkM _ _ _ (⟨(⟨#[80, 79, 83, 84]⟩ : ByteArray), (⟨#[97, 47, 116, 47, 78, 65, 77, 69, 47, 109, 97, 114, 107]⟩ : ByteArray), (⟨#[]⟩ : ByteArray), (⟨#[]⟩ : ByteArray), 14⟩ : S67) )) (Reps.c5 (show Kd.M k67 _ _ _ (⟨(⟨#[80, 79, 83, 84]⟩ : ByteArray), (⟨#[97, 47, 116, 47, 78, 65, 77, 69, 47, 115, 119, 101, 101, 112]⟩ : ByteArray), (⟨#[]⟩ : ByteArray), (⟨#[]⟩ : ByteArray), 15⟩ : S67) [.string (⟨#[80, 79, 83, 84]⟩ : ByteArray), .string (⟨#[97, 47, 116, 47, 78, 65, 77, 69, 47, 115, 119, 101, 101, 112]⟩ : ByteArray), .string (⟨#[]⟩ : ByteArray), .string (⟨#[]⟩ : ByteArray), .int .i64 15] from (k67_mkM _ _ _ (⟨(⟨#[80, 79, 83, 84]⟩ : ByteArray), (⟨#[97, 47, 116, 47, 78, 65, 77, 69, 47, 115, 119, 101, 101, 112]⟩ : ByteArray), (⟨#[]⟩ : ByteArray), (⟨#[]⟩ : ByteArray), 15⟩ : S67) )) (Reps.c5 (show Kd.M k67 _ _ _ (⟨(⟨#[80, 79, 83, 84]⟩ : ByteArray), (⟨#[97, 47, 116, 111, 107, 101, 110]⟩ : ByteArray), (⟨#[114, 105, 103, 104, 116, 115, 44, 117, 110, 116, 105, 108]⟩ : ByteArray), (⟨#[116, 101, 110, 97, 110, 116]⟩ : ByteArray), 12⟩ : S67) [.string (⟨#[80, 79, 83, 84]⟩ : ByteArray), .string (⟨#[97, 47, 116, 111, 107, 101, 110]⟩ : ByteArray), .string (⟨#[114, 105, 103, 104, 116, 115, 44, 117, 110, 116, 105, 108]⟩ : ByteArray), .string (⟨#[116, 101, 110, 97, 110, 116]⟩ : ByteArray), .int .i64 12] from (k67_mkM _ _ _ (⟨(⟨#[80, 79, 83, 84]⟩ : ByteArray), (⟨#[97, 47, 116, 111, 107, 101, 110]⟩ : ByteArray), (⟨#[114, 105, 103, 104, 116, 115, 44, 117, 110, 116, 105, 108]⟩ : ByteArray), (⟨#[116, 101, 110, 97, 110, 116]⟩ : ByteArray), 12⟩ : S67) )) (Reps.c5 (show Kd.M k67 _ _ _ (⟨(⟨#[68, 69, 76, 69, 84, 69]⟩ : ByteArray), (⟨#[97, 47, 116, 111, 107, 101, 110, 47, 78]⟩ : ByteArray), (⟨#[]⟩ : ByteArray), (⟨#[]⟩ : ByteArray), 13⟩ : S67) [.string (⟨#[68, 69, 76, 69, 84, 69]⟩ : ByteArray), .string (⟨#[97, 47, 116, 111, 107, 101, 110, 47, 78]⟩ : ByteArray), .string (⟨#[]⟩ : ByteArray), .string (⟨#[]⟩ : ByteArray), .int .i64 13] from (k67_mkM _ _ _ (⟨(⟨#[68, 69, 76, 69, 84, 69]⟩ : ByteArray), (⟨#[97, 47, 116, 111, 107, 101, 110, 47, 78]⟩ : ByteArray), (⟨#[]⟩ : ByteArray), (⟨#[]⟩ : ByteArray), 13⟩ : S67) )) (Reps.c5 (show Kd.M k67 _ _ _ (⟨(⟨#[71, 69, 84]⟩ : ByteArray), (⟨#[97, 47, 108, 111, 103]⟩ : ByteArray), (⟨#[]⟩ : ByteArray), (⟨#[]⟩ : ByteArray), 16⟩ : S67) [.string (⟨#[71, 69, 84]⟩ : ByteArray), .string (⟨#[97, 47, 108, 111, 103]⟩ : ByteArray), .string (⟨#[]⟩ : ByteArray), .string (⟨#[]⟩ : ByteArray), .int .i64 16] from (k67_mkM _ _ _ (⟨(⟨#[71, 69, 84]⟩ : ByteArray), (⟨#[97, 47, 108, 111, 103]⟩ : ByteArray), (⟨#[]⟩ : ByteArray), (⟨#[]⟩ : ByteArray), 16⟩ : S67) )) (Reps.c5 (show Kd.M k67 _ _ _ (⟨(⟨#[71, 69, 84]⟩ : ByteArray), (⟨#[97, 47, 104, 101, 97, 100]⟩ : ByteArray), (⟨#[]⟩ : ByteArray), (⟨#[]⟩ : ByteArray), 17⟩ : S67) [.string (⟨#[71, 69, 84]⟩ : ByteArray), .string (⟨#[97, 47, 104, 101, 97, 100]⟩ : ByteArray), .string (⟨#[]⟩ : ByteArray), .string (⟨#[]⟩ : ByteArray), .int .i64 17] from (k67_mkM _ _ _ (⟨(⟨#[71, 69, 84]⟩ : ByteArray), (⟨#[97, 47, 104, 101, 97, 100]⟩ : ByteArray), (⟨#[]⟩ : ByteArray), (⟨#[]⟩ : ByteArray), 17⟩ : S67) )) (Reps.none _ _))))))))))))))))))); intro v264 w1 ho2 hb hg_ hnew_; clear hg_ hnew_; (first | rw [← Ny263.out] at ho2 | (simp only [Int.reduceToNat] at ho2; rw [← Ny263.out] at ho2)); have n0_ := Aside0.mk (Kd.R_lower ho2 (below_size (by qh_))); have n1_ := Aside0.mk (below_step (by qh_) hb); clear HB; have HO265 := n0_; have HB := n1_; clear n0_ n1_; clear hb ho2))
 go_ret
 exact ⟨_, by first | rfl | (simp [errW_none, errW_some] <;> rfl) | (simp [*, errW_none, errW_some] <;> rfl), by qk_; exact HO265.out, by qh_⟩
end Go.Proofs.YtnfimhdcpmakpaaDoor.S
