-- Written by wip/hook.py: the functions of this seat as plain Lean functions, and their walks.
import Derived.Test.YtejmolhdmbkfaaaDoorSx0
import Derived.Test.YtejmolhdmbkfaaaDoorSx4
namespace Go.Proofs.YtejmolhdmbkfaaaDoor.S
open Go.RowKit Go.Proofs.YtejmolhdmbkfaaaDoorW.PrintWords Go.Proofs.YtejmolhdmbkfaaaDoorW.PrintLast Go.Proofs.YtejmolhdmbkfaaaDoorW.PrintMore
attribute [local go_sem] max2_int min2_int max_two min_two max_three min_three max_four min_four   -- for this text's walks alone
set_option linter.unusedVariables false
set_option linter.unusedSimpArgs false

/-! ### cofferref21_May: function 18 -/
mutual
def cofferref21_May.l0 : Nat → Int → List ByteArray → List (S32) → Option (Bool)
  | 0, _, _, _ => none
  | k + 1, x3, x165000, x165001 => if x3 < (x165000.length : Int) then (if 0 ≤ x3 then (if (rdOf ByteArray.empty x165000 x3).toList = ([] : List UInt8) then (some false) else ((cofferref21_zero.f k (rdOf ByteArray.empty x165000 x3)).bind fun t167 => (if t167 = true then (some false) else (cofferref21_May.l0 k (wrap64 (x3 + 1)) x165000 x165001)))) else (none)) else (cofferref21_May.l1 k 0 x165000 x165001)
def cofferref21_May.l1 : Nat → Int → List ByteArray → List (S32) → Option (Bool)
  | 0, _, _, _ => none
  | k + 1, x4, x165000, x165001 => if x4 < (x165001.length : Int) then (if 0 ≤ x4 then (if ((rd_T32 x165001 x4).f0).toList = ([] : List UInt8) then (cofferref21_May.j2 k x4 true x165000 x165001) else ((cofferref21_zero.f k ((rd_T32 x165001 x4).f0)).bind fun t170 => (if t170 = true then (cofferref21_May.j2 k x4 true x165000 x165001) else ((cofferref21_zero.f k ((rd_T32 x165001 x4).f1)).bind fun t172 => (cofferref21_May.j2 k x4 t172 x165000 x165001))))) else (none)) else (some true)
def cofferref21_May.j2 : Nat → Int → Bool → List ByteArray → List (S32) → Option (Bool)
  | 0, _, _, _, _ => none
  | k + 1, x4, x58, x165000, x165001 => if x58 = true then (some false) else (cofferref21_May.l2 k x4 0 x165000 x165001)
def cofferref21_May.l2 : Nat → Int → Int → List ByteArray → List (S32) → Option (Bool)
  | 0, _, _, _, _ => none
  | k + 1, x4, x5, x165000, x165001 => if x5 < x4 then (if 0 ≤ x5 then (if x5 < (x165001.length : Int) then (if 0 ≤ x4 then (if x4 < (x165001.length : Int) then (if ((rd_T32 x165001 x5).f0).toList = ((rd_T32 x165001 x4).f0).toList then (some false) else (cofferref21_May.l2 k x4 (wrap64 (x5 + 1)) x165000 x165001)) else (none)) else (none)) else (none)) else (none)) else (cofferref21_May.l1 k (wrap64 (x4 + 1)) x165000 x165001)
end
def cofferref21_May.f (k : Nat) (l0_0 : List ByteArray) (l0_1 : List (S32)) : Option (Bool) := cofferref21_May.l0 k 0 l0_0 l0_1
theorem cofferref21_May.mono_l : ∀ k, (∀ y0 y1 y2, LeO (cofferref21_May.l0 k y0 y1 y2) (cofferref21_May.l0 (k + 1) y0 y1 y2)) ∧ (∀ y0 y1 y2, LeO (cofferref21_May.l1 k y0 y1 y2) (cofferref21_May.l1 (k + 1) y0 y1 y2)) ∧ (∀ y0 y1 y2 y3, LeO (cofferref21_May.j2 k y0 y1 y2 y3) (cofferref21_May.j2 (k + 1) y0 y1 y2 y3)) ∧ (∀ y0 y1 y2 y3, LeO (cofferref21_May.l2 k y0 y1 y2 y3) (cofferref21_May.l2 (k + 1) y0 y1 y2 y3))
  | 0 => ⟨fun _ _ _ r h => by simp [cofferref21_May.l0] at h, fun _ _ _ r h => by simp [cofferref21_May.l1] at h, fun _ _ _ _ r h => by simp [cofferref21_May.j2] at h, fun _ _ _ _ r h => by simp [cofferref21_May.l2] at h⟩
  | k + 1 => by
    obtain ⟨ih0, ih1, ih2, ih3⟩ := cofferref21_May.mono_l k
    refine ⟨?_, ?_, ?_, ?_⟩
    · intro y0 y1 y2
      unfold cofferref21_May.l0
      repeat' first
      | (with_reducible exact ih0 _ _ _)
      | (with_reducible exact ih1 _ _ _)
      | (with_reducible exact ih2 _ _ _ _)
      | (with_reducible exact ih3 _ _ _ _)
      | (with_reducible exact cofferref21_zero.mono _ _)
      | (with_reducible exact LeO.refl _)
      | (with_reducible exact LeO.none _)
      | (with_reducible refine LeO.ite ?_ ?_)
      | (with_reducible refine LeO.bind ?_ (fun _ => ?_))
      | exact ih0 _ _ _
      | exact ih1 _ _ _
      | exact ih2 _ _ _ _
      | exact ih3 _ _ _ _
      | exact cofferref21_zero.mono _ _
      | exact LeO.none _
      | refine LeO.ite ?_ ?_
      | refine LeO.bind ?_ (fun _ => ?_)
    · intro y0 y1 y2
      unfold cofferref21_May.l1
      repeat' first
      | (with_reducible exact ih0 _ _ _)
      | (with_reducible exact ih1 _ _ _)
      | (with_reducible exact ih2 _ _ _ _)
      | (with_reducible exact ih3 _ _ _ _)
      | (with_reducible exact cofferref21_zero.mono _ _)
      | (with_reducible exact LeO.refl _)
      | (with_reducible exact LeO.none _)
      | (with_reducible refine LeO.ite ?_ ?_)
      | (with_reducible refine LeO.bind ?_ (fun _ => ?_))
      | exact ih0 _ _ _
      | exact ih1 _ _ _
      | exact ih2 _ _ _ _
      | exact ih3 _ _ _ _
      | exact cofferref21_zero.mono _ _
      | exact LeO.none _
      | refine LeO.ite ?_ ?_
      | refine LeO.bind ?_ (fun _ => ?_)
    · intro y0 y1 y2 y3
      unfold cofferref21_May.j2
      repeat' first
      | (with_reducible exact ih0 _ _ _)
      | (with_reducible exact ih1 _ _ _)
      | (with_reducible exact ih2 _ _ _ _)
      | (with_reducible exact ih3 _ _ _ _)
      | (with_reducible exact cofferref21_zero.mono _ _)
      | (with_reducible exact LeO.refl _)
      | (with_reducible exact LeO.none _)
      | (with_reducible refine LeO.ite ?_ ?_)
      | (with_reducible refine LeO.bind ?_ (fun _ => ?_))
      | exact ih0 _ _ _
      | exact ih1 _ _ _
      | exact ih2 _ _ _ _
      | exact ih3 _ _ _ _
      | exact cofferref21_zero.mono _ _
      | exact LeO.none _
      | refine LeO.ite ?_ ?_
      | refine LeO.bind ?_ (fun _ => ?_)
    · intro y0 y1 y2 y3
      unfold cofferref21_May.l2
      repeat' first
      | (with_reducible exact ih0 _ _ _)
      | (with_reducible exact ih1 _ _ _)
      | (with_reducible exact ih2 _ _ _ _)
      | (with_reducible exact ih3 _ _ _ _)
      | (with_reducible exact cofferref21_zero.mono _ _)
      | (with_reducible exact LeO.refl _)
      | (with_reducible exact LeO.none _)
      | (with_reducible refine LeO.ite ?_ ?_)
      | (with_reducible refine LeO.bind ?_ (fun _ => ?_))
      | exact ih0 _ _ _
      | exact ih1 _ _ _
      | exact ih2 _ _ _ _
      | exact ih3 _ _ _ _
      | exact cofferref21_zero.mono _ _
      | exact LeO.none _
      | refine LeO.ite ?_ ?_
      | refine LeO.bind ?_ (fun _ => ?_)
theorem cofferref21_May.mono : ∀ a0 a1 k, LeO (cofferref21_May.f k a0 a1) (cofferref21_May.f (k + 1) a0 a1) := by
  intro a0 a1 k
  obtain ⟨ih0, ih1, ih2, ih3⟩ := cofferref21_May.mono_l k
  unfold cofferref21_May.f
  repeat' first
      | (with_reducible exact ih0 _ _ _)
      | (with_reducible exact ih1 _ _ _)
      | (with_reducible exact ih2 _ _ _ _)
      | (with_reducible exact ih3 _ _ _ _)
      | (with_reducible exact cofferref21_zero.mono _ _)
      | (with_reducible exact LeO.refl _)
      | (with_reducible exact LeO.none _)
      | (with_reducible refine LeO.ite ?_ ?_)
      | (with_reducible refine LeO.bind ?_ (fun _ => ?_))
      | exact ih0 _ _ _
      | exact ih1 _ _ _
      | exact ih2 _ _ _ _
      | exact ih3 _ _ _ _
      | exact cofferref21_zero.mono _ _
      | exact LeO.none _
      | refine LeO.ite ?_ ?_
      | refine LeO.bind ?_ (fun _ => ?_)
set_option maxHeartbeats 8000000 in
set_option maxRecDepth 100000 in
theorem cofferref21_May.calls (k : Nat) (A0_0 : Option Addr) (c0_0 : Nat) (l0_0 : List ByteArray) (A0_1 : Option Addr) (c0_1 : Nat) (l0_1 : List (S32)) (r : Bool) (w : World) (hr0_0 : Kd.C Kd.string w A0_0 l0_0.length l0_0) (hc0_0 : l0_0.length ≤ c0_0) (hr0_1 : Kd.C k32 w A0_1 l0_1.length l0_1) (hc0_1 : l0_1.length ≤ c0_1) (h : cofferref21_May.f k l0_0 l0_1 = some r) :
    Calls Tryd.prog 18 #[.agg #[.slice A0_0 l0_0.length c0_0, .slice A0_1 l0_1.length c0_1]] w fun e w' => e = .returned (.bool r) ∧ Below w.heap.size w w' := by
  have hu26 := Tryd.underlying26
  have HR0_0 := Aside0.mk hr0_0
  have HC0_0 := Aside0.mk hc0_0
  clear hr0_0 hc0_0
  have HR0_1 := Aside0.mk hr0_1
  have HC0_1 := Aside0.mk hc0_1
  clear hr0_1 hc0_1
  have HB := Aside0.mk (Below.refl w.heap.size w)
  have H : (cofferref21_May.l0 k 0 l0_0 l0_1) = some r := h
  clear h
  have H' := Aside0.mk H
  clear H
  go_enter Tryd.func18, Tryd.ntmps18
  go_wp2_with (first | ((with_reducible refine gate_dst (N := 1) rfl ?_); refine box_event ?hg (N := 1) ?hd (cs := #[.slice A0_0 l0_0.length c0_0, .slice A0_1 l0_1.length c0_1]) (t := 26) ?hr ?_; (case hd => rfl); (case hg => rfl); (case hr => first | (go_simp; done) | (go_simp; rfl)); intro gb164 hg w2 hbox hb; have n0_ := Aside0.mk (below_step (by qh_) hb); have n1_ := Aside0.mk (hbox); have n2_ := Aside0.mk ((by rw [hg]; exact (below_size (by qh_)) : w.heap.size ≤ gb164)); have n3_ := Aside0.mk ((by rw [hg]; exact (below_size (by qh_)) : w.heap.size ≤ gb164)); clear HB; have HB := n0_; have BK164 := n1_; have GW164 := n2_; have GE164 := n3_; clear n0_ n1_ n2_ n3_; clear hb hbox hg))
  repeat (go_quiet (first | ((with_reducible refine gate_dst (N := 1) rfl ?_); refine box_event ?hg (N := 1) ?hd (cs := #[.slice A0_0 l0_0.length c0_0, .slice A0_1 l0_1.length c0_1]) (t := 26) ?hr ?_; (case hd => rfl); (case hg => rfl); (case hr => first | (go_simp; done) | (go_simp; rfl)); intro gb164 hg w2 hbox hb; have n0_ := Aside0.mk (below_step (by qh_) hb); have n1_ := Aside0.mk (hbox); have n2_ := Aside0.mk ((by rw [hg]; exact (below_size (by qh_)) : w.heap.size ≤ gb164)); have n3_ := Aside0.mk ((by rw [hg]; exact (below_size (by qh_)) : w.heap.size ≤ gb164)); clear HB; have HB := n0_; have BK164 := n1_; have GW164 := n2_; have GE164 := n3_; clear n0_ n1_ n2_ n3_; clear hb hbox hg)); try go_wp2_with (first | ((with_reducible refine gate_dst (N := 1) rfl ?_); refine box_event ?hg (N := 1) ?hd (cs := #[.slice A0_0 l0_0.length c0_0, .slice A0_1 l0_1.length c0_1]) (t := 26) ?hr ?_; (case hd => rfl); (case hg => rfl); (case hr => first | (go_simp; done) | (go_simp; rfl)); intro gb164 hg w2 hbox hb; have n0_ := Aside0.mk (below_step (by qh_) hb); have n1_ := Aside0.mk (hbox); have n2_ := Aside0.mk ((by rw [hg]; exact (below_size (by qh_)) : w.heap.size ≤ gb164)); have n3_ := Aside0.mk ((by rw [hg]; exact (below_size (by qh_)) : w.heap.size ≤ gb164)); clear HB; have HB := n0_; have BK164 := n1_; have GW164 := n2_; have GE164 := n3_; clear n0_ n1_ n2_ n3_; clear hb hbox hg)))
  go_loopg [3] k (fun kq v3 w' => ∃ (x3_1 : Int), v3 = .int .i64 x3_1 ∧ Aside0 (cofferref21_May.l0 kq x3_1 l0_0 l0_1 = some r) ∧ Aside0 (kq ≤ k) ∧ Aside0 (w'.heap[gb164]? = some (.cells #[(.slice A0_0 l0_0.length c0_0), (.slice A0_1 l0_1.length c0_1)] 26 (0, 0))) ∧ Aside0 (Below w.heap.size w w'))
  case atStart => exact ⟨(0), (by qr_), H', ⟨Nat.le_refl _⟩, ⟨by qb_; exact BK164.out⟩, ⟨by repeat (first | (with_reducible first | qp_ | refine below_set ?_ GE164.out) | exact HB.out)⟩⟩
  case round =>
    clear H'
    try clear c1
    try clear p2
    obtain ⟨x3_1, rfl, HA, HK1, BK164, HB⟩ := hrel
    cases gk with
    | zero => exact absurd HA.out (by simp [cofferref21_May.l0])
    | succ k1 =>
      have H := HA.out
      clear HA
      simp only [cofferref21_May.l0] at H
      by_cases c3 : x3_1 < (l0_0.length : Int)
      · rw [if_pos c3] at H
        have c3b0 : decide (x3_1 < (l0_0.length : Int)) = true := decide_eq_true c3
        clear c3
        by_cases c4 : 0 ≤ x3_1
        · rw [if_pos c4] at H
          have c4b0 : decide (0 ≤ x3_1) = true := decide_eq_true c4
          clear c4
          by_cases c5 : (rdOf ByteArray.empty l0_0 x3_1).toList = ([] : List UInt8)
          · rw [if_pos c5] at H
            have c5b0 : ((rdOf ByteArray.empty l0_0 x3_1).toList == ([] : List UInt8)) = true := beq_iff_eq.mpr c5
            have c5b1 : ((rdOf ByteArray.empty l0_0 x3_1).toList != ([] : List UInt8)) = false := bne_eq_false_iff_eq.mpr c5
            clear c5
            obtain rfl := Option.some.inj H
            have hcz6_0 : wr.cell? ⟨gb164, 0, none⟩ = some (.slice A0_0 l0_0.length c0_0) := (blk_cell BK164.out 0).trans rfl
            have hcz6_1 : wr.cell? ⟨gb164, 1, none⟩ = some (.slice A0_1 l0_1.length c0_1) := (blk_cell BK164.out 1).trans rfl
            have hfz6_0 := blk_frozen BK164.out 0
            have hfz6_1 := blk_frozen BK164.out 1
            have p165 : 0 ≤ (x3_1 : Int) := of_decide_eq_true (by qa_)
            have q165 : x3_1 < (l0_0.length : Int) := of_decide_eq_true (by qa_)
            obtain ⟨ad165, e165, hx165_0⟩ := Kd.at_string HR0_0.out x3_1 p165 q165
            cases e165
            replace hx165_0 := (HB.out.cell (World.block_lt_of_cell? w _ hx165_0)).trans hx165_0
            replace p165 := eq_true p165
            replace q165 := eq_true q165
            go_wp2
            repeat (go_quiet (fail); try go_wp2)
            go_ret
            exact ⟨by first | rfl | (simp [errW_none, errW_some] <;> rfl) | (simp [*, errW_none, errW_some] <;> rfl), by repeat (first | (with_reducible first | qp_ | refine below_set ?_ GE164.out) | exact HB.out)⟩
          · rw [if_neg c5] at H
            have c5b0 : ((rdOf ByteArray.empty l0_0 x3_1).toList == ([] : List UInt8)) = false := beq_eq_false_iff_ne.mpr c5
            have c5b1 : ((rdOf ByteArray.empty l0_0 x3_1).toList != ([] : List UInt8)) = true := bne_iff_ne.mpr c5
            replace H := Option.bind_eq_some_iff.mp H
            obtain ⟨t167, A70, H⟩ := H
            replace H : (if t167 = true then (some false) else (cofferref21_May.l0 k1 (wrap64 (x3_1 + 1)) l0_0 l0_1)) = some r := H
            have A7 := Aside0.mk A70
            clear A70
            by_cases c8 : t167 = true
            · subst c8
              have H1 : (some false) = some r := by rw [if_pos rfl] at H; exact H
              clear H
              have H := H1
              clear H1
              obtain rfl := Option.some.inj H
              have hcz9_0 : wr.cell? ⟨gb164, 0, none⟩ = some (.slice A0_0 l0_0.length c0_0) := (blk_cell BK164.out 0).trans rfl
              have hcz9_1 : wr.cell? ⟨gb164, 1, none⟩ = some (.slice A0_1 l0_1.length c0_1) := (blk_cell BK164.out 1).trans rfl
              have hfz9_0 := blk_frozen BK164.out 0
              have hfz9_1 := blk_frozen BK164.out 1
              have p165 : 0 ≤ (x3_1 : Int) := of_decide_eq_true (by qa_)
              have q165 : x3_1 < (l0_0.length : Int) := of_decide_eq_true (by qa_)
              obtain ⟨ad165, e165, hx165_0⟩ := Kd.at_string HR0_0.out x3_1 p165 q165
              cases e165
              replace hx165_0 := (HB.out.cell (World.block_lt_of_cell? w _ hx165_0)).trans hx165_0
              replace p165 := eq_true p165
              replace q165 := eq_true q165
              have p166 : 0 ≤ (x3_1 : Int) := of_decide_eq_true (by qa_)
              have q166 : x3_1 < (l0_0.length : Int) := of_decide_eq_true (by qa_)
              obtain ⟨ad166, e166, hx166_0⟩ := Kd.at_string HR0_0.out x3_1 p166 q166
              obtain rfl : ad165 = ad166 := (by injection e166)
              replace hx166_0 := (HB.out.cell (World.block_lt_of_cell? w _ hx166_0)).trans hx166_0
              replace p166 := eq_true p166
              replace q166 := eq_true q166
              go_wp2_with (first | (go_at_call 28; (with_reducible refine (cofferref21_zero.calls k1 (rdOf ByteArray.empty l0_0 x3_1) true _ A7.out).mono ?_); rintro e w' ⟨rfl, ⟨nd, rfl⟩⟩; (try first | exact ⟨rfl, _, World.drewN_drewN _ _ _⟩ | exact ⟨rfl, _, Eq.trans (World.drewN_drewN _ _ _) (congrArg (World.drewN _) (Nat.add_assoc _ _ _))⟩)))
              repeat (go_quiet (first | (go_at_call 28; (with_reducible refine (cofferref21_zero.calls k1 (rdOf ByteArray.empty l0_0 x3_1) true _ A7.out).mono ?_); rintro e w' ⟨rfl, ⟨nd, rfl⟩⟩; (try first | exact ⟨rfl, _, World.drewN_drewN _ _ _⟩ | exact ⟨rfl, _, Eq.trans (World.drewN_drewN _ _ _) (congrArg (World.drewN _) (Nat.add_assoc _ _ _))⟩))); try go_wp2_with (first | (go_at_call 28; (with_reducible refine (cofferref21_zero.calls k1 (rdOf ByteArray.empty l0_0 x3_1) true _ A7.out).mono ?_); rintro e w' ⟨rfl, ⟨nd, rfl⟩⟩; (try first | exact ⟨rfl, _, World.drewN_drewN _ _ _⟩ | exact ⟨rfl, _, Eq.trans (World.drewN_drewN _ _ _) (congrArg (World.drewN _) (Nat.add_assoc _ _ _))⟩))))
              go_ret
              exact ⟨by first | rfl | (simp [errW_none, errW_some] <;> rfl) | (simp [*, errW_none, errW_some] <;> rfl), by repeat (first | (with_reducible first | qp_ | refine below_set ?_ GE164.out) | exact HB.out)⟩
            · replace c8 := Bool.eq_false_iff.mpr c8
              subst c8
              have H1 : (cofferref21_May.l0 k1 (wrap64 (x3_1 + 1)) l0_0 l0_1) = some r := by rw [if_neg (show ¬ (false = true) by decide)] at H; exact H
              clear H
              have H := H1
              clear H1
              have H' := Aside0.mk H
              clear H
              have hcz10_0 : wr.cell? ⟨gb164, 0, none⟩ = some (.slice A0_0 l0_0.length c0_0) := (blk_cell BK164.out 0).trans rfl
              have hcz10_1 : wr.cell? ⟨gb164, 1, none⟩ = some (.slice A0_1 l0_1.length c0_1) := (blk_cell BK164.out 1).trans rfl
              have hfz10_0 := blk_frozen BK164.out 0
              have hfz10_1 := blk_frozen BK164.out 1
              have p165 : 0 ≤ (x3_1 : Int) := of_decide_eq_true (by qa_)
              have q165 : x3_1 < (l0_0.length : Int) := of_decide_eq_true (by qa_)
              obtain ⟨ad165, e165, hx165_0⟩ := Kd.at_string HR0_0.out x3_1 p165 q165
              cases e165
              replace hx165_0 := (HB.out.cell (World.block_lt_of_cell? w _ hx165_0)).trans hx165_0
              replace p165 := eq_true p165
              replace q165 := eq_true q165
              have p166 : 0 ≤ (x3_1 : Int) := of_decide_eq_true (by qa_)
              have q166 : x3_1 < (l0_0.length : Int) := of_decide_eq_true (by qa_)
              obtain ⟨ad166, e166, hx166_0⟩ := Kd.at_string HR0_0.out x3_1 p166 q166
              obtain rfl : ad165 = ad166 := (by injection e166)
              replace hx166_0 := (HB.out.cell (World.block_lt_of_cell? w _ hx166_0)).trans hx166_0
              replace p166 := eq_true p166
              replace q166 := eq_true q166
              go_wp2_with (first | (go_at_call 28; (with_reducible refine (cofferref21_zero.calls k1 (rdOf ByteArray.empty l0_0 x3_1) false _ A7.out).mono ?_); rintro e w' ⟨rfl, ⟨nd, rfl⟩⟩; (try first | exact ⟨rfl, _, World.drewN_drewN _ _ _⟩ | exact ⟨rfl, _, Eq.trans (World.drewN_drewN _ _ _) (congrArg (World.drewN _) (Nat.add_assoc _ _ _))⟩)))
              repeat (go_quiet (first | (go_at_call 28; (with_reducible refine (cofferref21_zero.calls k1 (rdOf ByteArray.empty l0_0 x3_1) false _ A7.out).mono ?_); rintro e w' ⟨rfl, ⟨nd, rfl⟩⟩; (try first | exact ⟨rfl, _, World.drewN_drewN _ _ _⟩ | exact ⟨rfl, _, Eq.trans (World.drewN_drewN _ _ _) (congrArg (World.drewN _) (Nat.add_assoc _ _ _))⟩))); try go_wp2_with (first | (go_at_call 28; (with_reducible refine (cofferref21_zero.calls k1 (rdOf ByteArray.empty l0_0 x3_1) false _ A7.out).mono ?_); rintro e w' ⟨rfl, ⟨nd, rfl⟩⟩; (try first | exact ⟨rfl, _, World.drewN_drewN _ _ _⟩ | exact ⟨rfl, _, Eq.trans (World.drewN_drewN _ _ _) (congrArg (World.drewN _) (Nat.add_assoc _ _ _))⟩))))
              go_roundg k1
              case measure => have := HK1.out; omega
              case rel => exact ⟨(wrap64 (x3_1 + 1)), (by qr_), H', ⟨by have := HK1.out; omega⟩, ⟨by qb_; exact BK164.out⟩, ⟨by repeat (first | (with_reducible first | qp_ | refine below_set ?_ GE164.out) | exact HB.out)⟩⟩
        · rw [if_neg c4] at H
          exact absurd H (by simp)
      · rw [if_neg c3] at H
        have c3b0 : decide (x3_1 < (l0_0.length : Int)) = false := decide_eq_false c3
        clear c3
        have H' := Aside0.mk H
        clear H
        have hcz11_0 : wr.cell? ⟨gb164, 0, none⟩ = some (.slice A0_0 l0_0.length c0_0) := (blk_cell BK164.out 0).trans rfl
        have hcz11_1 : wr.cell? ⟨gb164, 1, none⟩ = some (.slice A0_1 l0_1.length c0_1) := (blk_cell BK164.out 1).trans rfl
        have hfz11_0 := blk_frozen BK164.out 0
        have hfz11_1 := blk_frozen BK164.out 1
        go_wp2
        repeat (go_quiet (fail); try go_wp2)
        go_loopg [4] k1 (fun kq v4 w' => ∃ (x4_2 : Int), v4 = .int .i64 x4_2 ∧ Aside0 (cofferref21_May.l1 kq x4_2 l0_0 l0_1 = some r) ∧ Aside0 (kq ≤ k1) ∧ Aside0 (w'.heap[gb164]? = some (.cells #[(.slice A0_0 l0_0.length c0_0), (.slice A0_1 l0_1.length c0_1)] 26 (0, 0))) ∧ Aside0 (Below w.heap.size w w'))
        case atStart => exact ⟨(0), (by qr_), H', ⟨Nat.le_refl _⟩, ⟨by qb_; exact BK164.out⟩, ⟨by repeat (first | (with_reducible first | qp_ | refine below_set ?_ GE164.out) | exact HB.out)⟩⟩
        case round =>
          clear H'
          try clear c1
          try clear p1
          try clear q1
          try clear hx1
          try clear p2
          try clear c3
          try clear c3b0
          try clear c4
          try clear c4b0
          try clear c5
          try clear c5b0
          try clear c5b1
          try clear p6
          try clear c8
          try clear hcz10_0
          try clear hcz10_1
          try clear hcz11_0
          try clear hcz11_1
          try clear hcz6_0
          try clear hcz6_1
          try clear hcz9_0
          try clear hcz9_1
          try clear hfz10_0
          try clear hfz10_1
          try clear hfz11_0
          try clear hfz11_1
          try clear hfz6_0
          try clear hfz6_1
          try clear hfz9_0
          try clear hfz9_1
          try clear hx165_0
          try clear hx166_0
          try clear p165
          try clear p166
          try clear p2
          try clear q165
          try clear q166
          obtain ⟨x4_2, rfl, HA, HK2, BK164, HB⟩ := hrel
          cases gk with
          | zero => exact absurd HA.out (by simp [cofferref21_May.l1])
          | succ k2 =>
            have H := HA.out
            clear HA
            simp only [cofferref21_May.l1] at H
            by_cases c12 : x4_2 < (l0_1.length : Int)
            · rw [if_pos c12] at H
              have c12b0 : decide (x4_2 < (l0_1.length : Int)) = true := decide_eq_true c12
              clear c12
              have HC13 := Aside0.mk H
              clear H
              have hcz14_0 : wr.cell? ⟨gb164, 0, none⟩ = some (.slice A0_0 l0_0.length c0_0) := (blk_cell BK164.out 0).trans rfl
              have hcz14_1 : wr.cell? ⟨gb164, 1, none⟩ = some (.slice A0_1 l0_1.length c0_1) := (blk_cell BK164.out 1).trans rfl
              have hfz14_0 := blk_frozen BK164.out 0
              have hfz14_1 := blk_frozen BK164.out 1
              go_upto_region 9 with (fail)
              repeat (go_quiet (fail); go_upto_region 9 with (fail))
              go_cut [58] (fun v58 wc => ∃ (kq : Nat) (x58_12 : Bool), v58 = .bool x58_12 ∧ Aside0 (cofferref21_May.j2 kq x4_2 x58_12 l0_0 l0_1 = some r) ∧ Aside0 (kq ≤ k2) ∧ Aside0 (wc.heap[gb164]? = some (.cells #[(.slice A0_0 l0_0.length c0_0), (.slice A0_1 l0_1.length c0_1)] 26 (0, 0))) ∧ Aside0 (Below w.heap.size w wc))
              case first =>
                have H := HC13.out
                clear HC13
                by_cases c15 : 0 ≤ x4_2
                · rw [if_pos c15] at H
                  have c15b0 : decide (0 ≤ x4_2) = true := decide_eq_true c15
                  clear c15
                  (first | rw [c15b0] | (simp only [i64_w, i32_w]; rw [c15b0]) | skip)
                  by_cases c16 : ((rd_T32 l0_1 x4_2).f0).toList = ([] : List UInt8)
                  · rw [if_pos c16] at H
                    have c16b0 : (((rd_T32 l0_1 x4_2).f0).toList == ([] : List UInt8)) = true := beq_iff_eq.mpr c16
                    have c16b1 : (((rd_T32 l0_1 x4_2).f0).toList != ([] : List UInt8)) = false := bne_eq_false_iff_eq.mpr c16
                    clear c16
                    have H' := Aside0.mk H
                    clear H
                    have hcz17_0 : wr.cell? ⟨gb164, 0, none⟩ = some (.slice A0_0 l0_0.length c0_0) := (blk_cell BK164.out 0).trans rfl
                    have hcz17_1 : wr.cell? ⟨gb164, 1, none⟩ = some (.slice A0_1 l0_1.length c0_1) := (blk_cell BK164.out 1).trans rfl
                    have hfz17_0 := blk_frozen BK164.out 0
                    have hfz17_1 := blk_frozen BK164.out 1
                    have p168 : 0 ≤ (x4_2 : Int) := of_decide_eq_true (by qa_)
                    have q168 : x4_2 < (l0_1.length : Int) := of_decide_eq_true (by qa_)
                    obtain ⟨ad168, e168, hx168_0, hx168_1⟩ := at_T32 HR0_1.out x4_2 p168 q168
                    cases e168
                    replace hx168_0 := (HB.out.cell (World.block_lt_of_cell? w _ hx168_0)).trans hx168_0
                    replace hx168_1 := (HB.out.cell (World.block_lt_of_cell? w _ hx168_1)).trans hx168_1
                    replace p168 := eq_true p168
                    replace q168 := eq_true q168
                    go_wp2
                    repeat (go_quiet (fail); try go_wp2)
                    go_meet
                    case rel => exact ⟨_, (true), (by qr_), H', ⟨by have := HK1.out; have := HK2.out; first | omega | exact Nat.le_refl _⟩, ⟨by qb_; exact BK164.out⟩, ⟨by repeat (first | (with_reducible first | qp_ | refine below_set ?_ GE164.out) | exact HB.out)⟩⟩
                  · rw [if_neg c16] at H
                    have c16b0 : (((rd_T32 l0_1 x4_2).f0).toList == ([] : List UInt8)) = false := beq_eq_false_iff_ne.mpr c16
                    have c16b1 : (((rd_T32 l0_1 x4_2).f0).toList != ([] : List UInt8)) = true := bne_iff_ne.mpr c16
                    replace H := Option.bind_eq_some_iff.mp H
                    obtain ⟨t170, A180, H⟩ := H
                    replace H : (if t170 = true then (cofferref21_May.j2 k2 x4_2 true l0_0 l0_1) else ((cofferref21_zero.f k2 ((rd_T32 l0_1 x4_2).f1)).bind fun t172 => (cofferref21_May.j2 k2 x4_2 t172 l0_0 l0_1))) = some r := H
                    have A18 := Aside0.mk A180
                    clear A180
                    by_cases c19 : t170 = true
                    · subst c19
                      have H1 : (cofferref21_May.j2 k2 x4_2 true l0_0 l0_1) = some r := by rw [if_pos rfl] at H; exact H
                      clear H
                      have H := H1
                      clear H1
                      have H' := Aside0.mk H
                      clear H
                      have hcz20_0 : wr.cell? ⟨gb164, 0, none⟩ = some (.slice A0_0 l0_0.length c0_0) := (blk_cell BK164.out 0).trans rfl
                      have hcz20_1 : wr.cell? ⟨gb164, 1, none⟩ = some (.slice A0_1 l0_1.length c0_1) := (blk_cell BK164.out 1).trans rfl
                      have hfz20_0 := blk_frozen BK164.out 0
                      have hfz20_1 := blk_frozen BK164.out 1
                      have p168 : 0 ≤ (x4_2 : Int) := of_decide_eq_true (by qa_)
                      have q168 : x4_2 < (l0_1.length : Int) := of_decide_eq_true (by qa_)
                      obtain ⟨ad168, e168, hx168_0, hx168_1⟩ := at_T32 HR0_1.out x4_2 p168 q168
                      cases e168
                      replace hx168_0 := (HB.out.cell (World.block_lt_of_cell? w _ hx168_0)).trans hx168_0
                      replace hx168_1 := (HB.out.cell (World.block_lt_of_cell? w _ hx168_1)).trans hx168_1
                      replace p168 := eq_true p168
                      replace q168 := eq_true q168
                      have p169 : 0 ≤ (x4_2 : Int) := of_decide_eq_true (by qa_)
                      have q169 : x4_2 < (l0_1.length : Int) := of_decide_eq_true (by qa_)
                      obtain ⟨ad169, e169, hx169_0, hx169_1⟩ := at_T32 HR0_1.out x4_2 p169 q169
                      obtain rfl : ad168 = ad169 := (by injection e169)
                      replace hx169_0 := (HB.out.cell (World.block_lt_of_cell? w _ hx169_0)).trans hx169_0
                      replace hx169_1 := (HB.out.cell (World.block_lt_of_cell? w _ hx169_1)).trans hx169_1
                      replace p169 := eq_true p169
                      replace q169 := eq_true q169
                      go_wp2_with (first | (go_at_call 28; (with_reducible refine (cofferref21_zero.calls k2 ((rd_T32 l0_1 x4_2).f0) true _ A18.out).mono ?_); rintro e w' ⟨rfl, ⟨nd, rfl⟩⟩; (try first | exact ⟨rfl, _, World.drewN_drewN _ _ _⟩ | exact ⟨rfl, _, Eq.trans (World.drewN_drewN _ _ _) (congrArg (World.drewN _) (Nat.add_assoc _ _ _))⟩)))
                      repeat (go_quiet (first | (go_at_call 28; (with_reducible refine (cofferref21_zero.calls k2 ((rd_T32 l0_1 x4_2).f0) true _ A18.out).mono ?_); rintro e w' ⟨rfl, ⟨nd, rfl⟩⟩; (try first | exact ⟨rfl, _, World.drewN_drewN _ _ _⟩ | exact ⟨rfl, _, Eq.trans (World.drewN_drewN _ _ _) (congrArg (World.drewN _) (Nat.add_assoc _ _ _))⟩))); try go_wp2_with (first | (go_at_call 28; (with_reducible refine (cofferref21_zero.calls k2 ((rd_T32 l0_1 x4_2).f0) true _ A18.out).mono ?_); rintro e w' ⟨rfl, ⟨nd, rfl⟩⟩; (try first | exact ⟨rfl, _, World.drewN_drewN _ _ _⟩ | exact ⟨rfl, _, Eq.trans (World.drewN_drewN _ _ _) (congrArg (World.drewN _) (Nat.add_assoc _ _ _))⟩))))
                      go_meet
                      case rel => exact ⟨_, (true), (by qr_), H', ⟨by have := HK1.out; have := HK2.out; first | omega | exact Nat.le_refl _⟩, ⟨by qb_; exact BK164.out⟩, ⟨by repeat (first | (with_reducible first | qp_ | refine below_set ?_ GE164.out) | exact HB.out)⟩⟩
                    · replace c19 := Bool.eq_false_iff.mpr c19
                      subst c19
                      have H1 : ((cofferref21_zero.f k2 ((rd_T32 l0_1 x4_2).f1)).bind fun t172 => (cofferref21_May.j2 k2 x4_2 t172 l0_0 l0_1)) = some r := by rw [if_neg (show ¬ (false = true) by decide)] at H; exact H
                      clear H
                      have H := H1
                      clear H1
                      replace H := Option.bind_eq_some_iff.mp H
                      obtain ⟨t172, A210, H⟩ := H
                      replace H : (cofferref21_May.j2 k2 x4_2 t172 l0_0 l0_1) = some r := H
                      have A21 := Aside0.mk A210
                      clear A210
                      have H' := Aside0.mk H
                      clear H
                      have hcz22_0 : wr.cell? ⟨gb164, 0, none⟩ = some (.slice A0_0 l0_0.length c0_0) := (blk_cell BK164.out 0).trans rfl
                      have hcz22_1 : wr.cell? ⟨gb164, 1, none⟩ = some (.slice A0_1 l0_1.length c0_1) := (blk_cell BK164.out 1).trans rfl
                      have hfz22_0 := blk_frozen BK164.out 0
                      have hfz22_1 := blk_frozen BK164.out 1
                      have p168 : 0 ≤ (x4_2 : Int) := of_decide_eq_true (by qa_)
                      have q168 : x4_2 < (l0_1.length : Int) := of_decide_eq_true (by qa_)
                      obtain ⟨ad168, e168, hx168_0, hx168_1⟩ := at_T32 HR0_1.out x4_2 p168 q168
                      cases e168
                      replace hx168_0 := (HB.out.cell (World.block_lt_of_cell? w _ hx168_0)).trans hx168_0
                      replace hx168_1 := (HB.out.cell (World.block_lt_of_cell? w _ hx168_1)).trans hx168_1
                      replace p168 := eq_true p168
                      replace q168 := eq_true q168
                      have p169 : 0 ≤ (x4_2 : Int) := of_decide_eq_true (by qa_)
                      have q169 : x4_2 < (l0_1.length : Int) := of_decide_eq_true (by qa_)
                      obtain ⟨ad169, e169, hx169_0, hx169_1⟩ := at_T32 HR0_1.out x4_2 p169 q169
                      obtain rfl : ad168 = ad169 := (by injection e169)
                      replace hx169_0 := (HB.out.cell (World.block_lt_of_cell? w _ hx169_0)).trans hx169_0
                      replace hx169_1 := (HB.out.cell (World.block_lt_of_cell? w _ hx169_1)).trans hx169_1
                      replace p169 := eq_true p169
                      replace q169 := eq_true q169
                      go_wp2_with (first | (go_at_call 28; (with_reducible refine (cofferref21_zero.calls k2 ((rd_T32 l0_1 x4_2).f0) false _ A18.out).mono ?_); rintro e w' ⟨rfl, ⟨nd, rfl⟩⟩; (try first | exact ⟨rfl, _, World.drewN_drewN _ _ _⟩ | exact ⟨rfl, _, Eq.trans (World.drewN_drewN _ _ _) (congrArg (World.drewN _) (Nat.add_assoc _ _ _))⟩); have p171 : 0 ≤ (x4_2 : Int) := of_decide_eq_true (by qa_); have q171 : x4_2 < (l0_1.length : Int) := of_decide_eq_true (by qa_); obtain ⟨ad171, e171, hx171_0, hx171_1⟩ := at_T32 HR0_1.out x4_2 p171 q171; obtain rfl : ad168 = ad171 := (by injection e171); replace hx171_0 := (HB.out.cell (World.block_lt_of_cell? w _ hx171_0)).trans hx171_0; replace hx171_1 := (HB.out.cell (World.block_lt_of_cell? w _ hx171_1)).trans hx171_1; replace p171 := eq_true p171; replace q171 := eq_true q171) | (go_at_call 28; (with_reducible refine (cofferref21_zero.calls k2 ((rd_T32 l0_1 x4_2).f1) t172 _ A21.out).mono ?_); rintro e w' ⟨rfl, ⟨nd, rfl⟩⟩; (try first | exact ⟨rfl, _, World.drewN_drewN _ _ _⟩ | exact ⟨rfl, _, Eq.trans (World.drewN_drewN _ _ _) (congrArg (World.drewN _) (Nat.add_assoc _ _ _))⟩)))
                      repeat (go_quiet (first | (go_at_call 28; (with_reducible refine (cofferref21_zero.calls k2 ((rd_T32 l0_1 x4_2).f0) false _ A18.out).mono ?_); rintro e w' ⟨rfl, ⟨nd, rfl⟩⟩; (try first | exact ⟨rfl, _, World.drewN_drewN _ _ _⟩ | exact ⟨rfl, _, Eq.trans (World.drewN_drewN _ _ _) (congrArg (World.drewN _) (Nat.add_assoc _ _ _))⟩); have p171 : 0 ≤ (x4_2 : Int) := of_decide_eq_true (by qa_); have q171 : x4_2 < (l0_1.length : Int) := of_decide_eq_true (by qa_); obtain ⟨ad171, e171, hx171_0, hx171_1⟩ := at_T32 HR0_1.out x4_2 p171 q171; obtain rfl : ad168 = ad171 := (by injection e171); replace hx171_0 := (HB.out.cell (World.block_lt_of_cell? w _ hx171_0)).trans hx171_0; replace hx171_1 := (HB.out.cell (World.block_lt_of_cell? w _ hx171_1)).trans hx171_1; replace p171 := eq_true p171; replace q171 := eq_true q171) | (go_at_call 28; (with_reducible refine (cofferref21_zero.calls k2 ((rd_T32 l0_1 x4_2).f1) t172 _ A21.out).mono ?_); rintro e w' ⟨rfl, ⟨nd, rfl⟩⟩; (try first | exact ⟨rfl, _, World.drewN_drewN _ _ _⟩ | exact ⟨rfl, _, Eq.trans (World.drewN_drewN _ _ _) (congrArg (World.drewN _) (Nat.add_assoc _ _ _))⟩))); try go_wp2_with (first | (go_at_call 28; (with_reducible refine (cofferref21_zero.calls k2 ((rd_T32 l0_1 x4_2).f0) false _ A18.out).mono ?_); rintro e w' ⟨rfl, ⟨nd, rfl⟩⟩; (try first | exact ⟨rfl, _, World.drewN_drewN _ _ _⟩ | exact ⟨rfl, _, Eq.trans (World.drewN_drewN _ _ _) (congrArg (World.drewN _) (Nat.add_assoc _ _ _))⟩); have p171 : 0 ≤ (x4_2 : Int) := of_decide_eq_true (by qa_); have q171 : x4_2 < (l0_1.length : Int) := of_decide_eq_true (by qa_); obtain ⟨ad171, e171, hx171_0, hx171_1⟩ := at_T32 HR0_1.out x4_2 p171 q171; obtain rfl : ad168 = ad171 := (by injection e171); replace hx171_0 := (HB.out.cell (World.block_lt_of_cell? w _ hx171_0)).trans hx171_0; replace hx171_1 := (HB.out.cell (World.block_lt_of_cell? w _ hx171_1)).trans hx171_1; replace p171 := eq_true p171; replace q171 := eq_true q171) | (go_at_call 28; (with_reducible refine (cofferref21_zero.calls k2 ((rd_T32 l0_1 x4_2).f1) t172 _ A21.out).mono ?_); rintro e w' ⟨rfl, ⟨nd, rfl⟩⟩; (try first | exact ⟨rfl, _, World.drewN_drewN _ _ _⟩ | exact ⟨rfl, _, Eq.trans (World.drewN_drewN _ _ _) (congrArg (World.drewN _) (Nat.add_assoc _ _ _))⟩))))
                      go_meet
                      case rel => exact ⟨_, (t172), (by qr_), H', ⟨by have := HK1.out; have := HK2.out; first | omega | exact Nat.le_refl _⟩, ⟨by qb_; exact BK164.out⟩, ⟨by repeat (first | (with_reducible first | qp_ | refine below_set ?_ GE164.out) | exact HB.out)⟩⟩
                · rw [if_neg c15] at H
                  exact absurd H (by simp)
              case rest =>
                clear HC13
                try clear c1
                try clear p1
                try clear q1
                try clear hx1
                try clear p2
                try clear c3
                try clear c3b0
                try clear c4
                try clear c4b0
                try clear c5
                try clear c5b0
                try clear c5b1
                try clear p6
                try clear c8
                try clear c12
                try clear c12b0
                try clear c15
                try clear c15b0
                try clear c16
                try clear c16b0
                try clear c16b1
                try clear p16
                try clear q16
                try clear hx16
                try clear p17
                try clear q17
                try clear hx17
                try clear c18
                try clear c19
                try clear hcz10_0
                try clear hcz10_1
                try clear hcz11_0
                try clear hcz11_1
                try clear hcz14_0
                try clear hcz14_1
                try clear hcz17_0
                try clear hcz17_1
                try clear hcz20_0
                try clear hcz20_1
                try clear hcz22_0
                try clear hcz22_1
                try clear hcz6_0
                try clear hcz6_1
                try clear hcz9_0
                try clear hcz9_1
                try clear hfz10_0
                try clear hfz10_1
                try clear hfz11_0
                try clear hfz11_1
                try clear hfz14_0
                try clear hfz14_1
                try clear hfz17_0
                try clear hfz17_1
                try clear hfz20_0
                try clear hfz20_1
                try clear hfz22_0
                try clear hfz22_1
                try clear hfz6_0
                try clear hfz6_1
                try clear hfz9_0
                try clear hfz9_1
                try clear hx165_0
                try clear hx166_0
                try clear hx168_0
                try clear hx168_1
                try clear hx169_0
                try clear hx169_1
                try clear hx171_0
                try clear hx171_1
                try clear p1
                try clear p165
                try clear p166
                try clear p168
                try clear p169
                try clear p171
                try clear p2
                try clear p6
                try clear q1
                try clear q165
                try clear q166
                try clear q168
                try clear q169
                try clear q171
                obtain ⟨kq, x58_12, rfl, HA, HJ12, BK164, HB⟩ := hcut
                cases kq with
                | zero => exact absurd HA.out (by simp [cofferref21_May.j2])
                | succ kj12 =>
                  have H := HA.out
                  clear HA
                  simp only [cofferref21_May.j2] at H
                  by_cases c23 : x58_12 = true
                  · subst c23
                    have H1 : (some false) = some r := by rw [if_pos rfl] at H; exact H
                    clear H
                    have H := H1
                    clear H1
                    obtain rfl := Option.some.inj H
                    go_wp2
                    repeat (go_quiet (fail); try go_wp2)
                    go_ret
                    exact ⟨by first | rfl | (simp [errW_none, errW_some] <;> rfl) | (simp [*, errW_none, errW_some] <;> rfl), by repeat (first | (with_reducible first | qp_ | refine below_set ?_ GE164.out) | exact HB.out)⟩
                  · replace c23 := Bool.eq_false_iff.mpr c23
                    subst c23
                    have H1 : (cofferref21_May.l2 kj12 x4_2 0 l0_0 l0_1) = some r := by rw [if_neg (show ¬ (false = true) by decide)] at H; exact H
                    clear H
                    have H := H1
                    clear H1
                    have H' := Aside0.mk H
                    clear H
                    go_wp2
                    repeat (go_quiet (fail); try go_wp2)
                    go_loopg [5] kj12 (fun kq v5 w' => ∃ (x5_4 : Int), v5 = .int .i64 x5_4 ∧ Aside0 (cofferref21_May.l2 kq x4_2 x5_4 l0_0 l0_1 = some r) ∧ Aside0 (kq ≤ kj12) ∧ Aside0 (w'.heap[gb164]? = some (.cells #[(.slice A0_0 l0_0.length c0_0), (.slice A0_1 l0_1.length c0_1)] 26 (0, 0))) ∧ Aside0 (Below w.heap.size w w'))
                    case atStart => exact ⟨(0), (by qr_), H', ⟨Nat.le_refl _⟩, ⟨by qb_; exact BK164.out⟩, ⟨by repeat (first | (with_reducible first | qp_ | refine below_set ?_ GE164.out) | exact HB.out)⟩⟩
                    case round =>
                      clear H'
                      try clear c1
                      try clear p1
                      try clear q1
                      try clear hx1
                      try clear c2
                      try clear p2
                      try clear c3
                      try clear c3b0
                      try clear c4
                      try clear c4b0
                      try clear c5
                      try clear c5b0
                      try clear c5b1
                      try clear p6
                      try clear c8
                      try clear c12
                      try clear c12b0
                      try clear c15
                      try clear c15b0
                      try clear c16
                      try clear c16b0
                      try clear c16b1
                      try clear p16
                      try clear q16
                      try clear hx16
                      try clear p17
                      try clear q17
                      try clear hx17
                      try clear c18
                      try clear c19
                      try clear c23
                      try clear hcz10_0
                      try clear hcz10_1
                      try clear hcz11_0
                      try clear hcz11_1
                      try clear hcz14_0
                      try clear hcz14_1
                      try clear hcz17_0
                      try clear hcz17_1
                      try clear hcz20_0
                      try clear hcz20_1
                      try clear hcz22_0
                      try clear hcz22_1
                      try clear hcz6_0
                      try clear hcz6_1
                      try clear hcz9_0
                      try clear hcz9_1
                      try clear hfz10_0
                      try clear hfz10_1
                      try clear hfz11_0
                      try clear hfz11_1
                      try clear hfz14_0
                      try clear hfz14_1
                      try clear hfz17_0
                      try clear hfz17_1
                      try clear hfz20_0
                      try clear hfz20_1
                      try clear hfz22_0
                      try clear hfz22_1
                      try clear hfz6_0
                      try clear hfz6_1
                      try clear hfz9_0
                      try clear hfz9_1
                      try clear hx165_0
                      try clear hx166_0
                      try clear hx168_0
                      try clear hx168_1
                      try clear hx169_0
                      try clear hx169_1
                      try clear hx171_0
                      try clear hx171_1
                      try clear p1
                      try clear p16
                      try clear p165
                      try clear p166
                      try clear p168
                      try clear p169
                      try clear p17
                      try clear p171
                      try clear p2
                      try clear p6
                      try clear q1
                      try clear q16
                      try clear q165
                      try clear q166
                      try clear q168
                      try clear q169
                      try clear q17
                      try clear q171
                      obtain ⟨x5_4, rfl, HA, HK4, BK164, HB⟩ := hrel
                      cases gk with
                      | zero => exact absurd HA.out (by simp [cofferref21_May.l2])
                      | succ k4 =>
                        have H := HA.out
                        clear HA
                        simp only [cofferref21_May.l2] at H
                        by_cases c24 : x5_4 < x4_2
                        · rw [if_pos c24] at H
                          have c24b0 : decide (x5_4 < x4_2) = true := decide_eq_true c24
                          clear c24
                          by_cases c25 : 0 ≤ x5_4
                          · rw [if_pos c25] at H
                            have c25b0 : decide (0 ≤ x5_4) = true := decide_eq_true c25
                            clear c25
                            by_cases c26 : x5_4 < (l0_1.length : Int)
                            · rw [if_pos c26] at H
                              have c26b0 : decide (x5_4 < (l0_1.length : Int)) = true := decide_eq_true c26
                              clear c26
                              by_cases c27 : 0 ≤ x4_2
                              · rw [if_pos c27] at H
                                have c27b0 : decide (0 ≤ x4_2) = true := decide_eq_true c27
                                clear c27
                                by_cases c28 : x4_2 < (l0_1.length : Int)
                                · rw [if_pos c28] at H
                                  have c28b0 : decide (x4_2 < (l0_1.length : Int)) = true := decide_eq_true c28
                                  clear c28
                                  by_cases c29 : ((rd_T32 l0_1 x5_4).f0).toList = ((rd_T32 l0_1 x4_2).f0).toList
                                  · rw [if_pos c29] at H
                                    have c29b0 : (((rd_T32 l0_1 x5_4).f0).toList == ((rd_T32 l0_1 x4_2).f0).toList) = true := beq_iff_eq.mpr c29
                                    have c29b1 : (((rd_T32 l0_1 x5_4).f0).toList != ((rd_T32 l0_1 x4_2).f0).toList) = false := bne_eq_false_iff_eq.mpr c29
                                    clear c29
                                    obtain rfl := Option.some.inj H
                                    have hcz30_0 : wr.cell? ⟨gb164, 0, none⟩ = some (.slice A0_0 l0_0.length c0_0) := (blk_cell BK164.out 0).trans rfl
                                    have hcz30_1 : wr.cell? ⟨gb164, 1, none⟩ = some (.slice A0_1 l0_1.length c0_1) := (blk_cell BK164.out 1).trans rfl
                                    have hfz30_0 := blk_frozen BK164.out 0
                                    have hfz30_1 := blk_frozen BK164.out 1
                                    have p173 : 0 ≤ (x5_4 : Int) := of_decide_eq_true (by qa_)
                                    have q173 : x5_4 < (l0_1.length : Int) := of_decide_eq_true (by qa_)
                                    obtain ⟨ad173, e173, hx173_0, hx173_1⟩ := at_T32 HR0_1.out x5_4 p173 q173
                                    cases e173
                                    replace hx173_0 := (HB.out.cell (World.block_lt_of_cell? w _ hx173_0)).trans hx173_0
                                    replace hx173_1 := (HB.out.cell (World.block_lt_of_cell? w _ hx173_1)).trans hx173_1
                                    replace p173 := eq_true p173
                                    replace q173 := eq_true q173
                                    have p174 : 0 ≤ (x4_2 : Int) := of_decide_eq_true (by qa_)
                                    have q174 : x4_2 < (l0_1.length : Int) := of_decide_eq_true (by qa_)
                                    obtain ⟨ad174, e174, hx174_0, hx174_1⟩ := at_T32 HR0_1.out x4_2 p174 q174
                                    obtain rfl : ad173 = ad174 := (by injection e174)
                                    replace hx174_0 := (HB.out.cell (World.block_lt_of_cell? w _ hx174_0)).trans hx174_0
                                    replace hx174_1 := (HB.out.cell (World.block_lt_of_cell? w _ hx174_1)).trans hx174_1
                                    replace p174 := eq_true p174
                                    replace q174 := eq_true q174
                                    go_wp2
                                    repeat (go_quiet (fail); try go_wp2)
                                    go_ret
                                    exact ⟨by first | rfl | (simp [errW_none, errW_some] <;> rfl) | (simp [*, errW_none, errW_some] <;> rfl), by repeat (first | (with_reducible first | qp_ | refine below_set ?_ GE164.out) | exact HB.out)⟩
                                  · rw [if_neg c29] at H
                                    have c29b0 : (((rd_T32 l0_1 x5_4).f0).toList == ((rd_T32 l0_1 x4_2).f0).toList) = false := beq_eq_false_iff_ne.mpr c29
                                    have c29b1 : (((rd_T32 l0_1 x5_4).f0).toList != ((rd_T32 l0_1 x4_2).f0).toList) = true := bne_iff_ne.mpr c29
                                    have H' := Aside0.mk H
                                    clear H
                                    have hcz31_0 : wr.cell? ⟨gb164, 0, none⟩ = some (.slice A0_0 l0_0.length c0_0) := (blk_cell BK164.out 0).trans rfl
                                    have hcz31_1 : wr.cell? ⟨gb164, 1, none⟩ = some (.slice A0_1 l0_1.length c0_1) := (blk_cell BK164.out 1).trans rfl
                                    have hfz31_0 := blk_frozen BK164.out 0
                                    have hfz31_1 := blk_frozen BK164.out 1
                                    have p173 : 0 ≤ (x5_4 : Int) := of_decide_eq_true (by qa_)
                                    have q173 : x5_4 < (l0_1.length : Int) := of_decide_eq_true (by qa_)
                                    obtain ⟨ad173, e173, hx173_0, hx173_1⟩ := at_T32 HR0_1.out x5_4 p173 q173
                                    cases e173
                                    replace hx173_0 := (HB.out.cell (World.block_lt_of_cell? w _ hx173_0)).trans hx173_0
                                    replace hx173_1 := (HB.out.cell (World.block_lt_of_cell? w _ hx173_1)).trans hx173_1
                                    replace p173 := eq_true p173
                                    replace q173 := eq_true q173
                                    have p174 : 0 ≤ (x4_2 : Int) := of_decide_eq_true (by qa_)
                                    have q174 : x4_2 < (l0_1.length : Int) := of_decide_eq_true (by qa_)
                                    obtain ⟨ad174, e174, hx174_0, hx174_1⟩ := at_T32 HR0_1.out x4_2 p174 q174
                                    obtain rfl : ad173 = ad174 := (by injection e174)
                                    replace hx174_0 := (HB.out.cell (World.block_lt_of_cell? w _ hx174_0)).trans hx174_0
                                    replace hx174_1 := (HB.out.cell (World.block_lt_of_cell? w _ hx174_1)).trans hx174_1
                                    replace p174 := eq_true p174
                                    replace q174 := eq_true q174
                                    go_wp2
                                    repeat (go_quiet (fail); try go_wp2)
                                    go_roundg k4
                                    case measure => have := HK1.out; have := HK2.out; have := HJ12.out; have := HK4.out; omega
                                    case rel => exact ⟨(wrap64 (x5_4 + 1)), (by qr_), H', ⟨by have := HK1.out; have := HK2.out; have := HJ12.out; have := HK4.out; omega⟩, ⟨by qb_; exact BK164.out⟩, ⟨by repeat (first | (with_reducible first | qp_ | refine below_set ?_ GE164.out) | exact HB.out)⟩⟩
                                · rw [if_neg c28] at H
                                  exact absurd H (by simp)
                              · rw [if_neg c27] at H
                                exact absurd H (by simp)
                            · rw [if_neg c26] at H
                              exact absurd H (by simp)
                          · rw [if_neg c25] at H
                            exact absurd H (by simp)
                        · rw [if_neg c24] at H
                          have c24b0 : decide (x5_4 < x4_2) = false := decide_eq_false c24
                          clear c24
                          have H' := Aside0.mk H
                          clear H
                          go_wp2
                          repeat (go_quiet (fail); try go_wp2)
                          go_roundg k4
                          case measure => have := HK1.out; have := HK2.out; have := HJ12.out; have := HK4.out; omega
                          case rel => exact ⟨(wrap64 (x4_2 + 1)), (by qr_), H', ⟨by have := HK1.out; have := HK2.out; have := HJ12.out; have := HK4.out; omega⟩, ⟨by qb_; exact BK164.out⟩, ⟨by repeat (first | (with_reducible first | qp_ | refine below_set ?_ GE164.out) | exact HB.out)⟩⟩
            · rw [if_neg c12] at H
              have c12b0 : decide (x4_2 < (l0_1.length : Int)) = false := decide_eq_false c12
              clear c12
              obtain rfl := Option.some.inj H
              have hcz32_0 : wr.cell? ⟨gb164, 0, none⟩ = some (.slice A0_0 l0_0.length c0_0) := (blk_cell BK164.out 0).trans rfl
              have hcz32_1 : wr.cell? ⟨gb164, 1, none⟩ = some (.slice A0_1 l0_1.length c0_1) := (blk_cell BK164.out 1).trans rfl
              have hfz32_0 := blk_frozen BK164.out 0
              have hfz32_1 := blk_frozen BK164.out 1
              go_wp2
              repeat (go_quiet (fail); try go_wp2)
              go_ret
              exact ⟨by first | rfl | (simp [errW_none, errW_some] <;> rfl) | (simp [*, errW_none, errW_some] <;> rfl), by repeat (first | (with_reducible first | qp_ | refine below_set ?_ GE164.out) | exact HB.out)⟩

end Go.Proofs.YtejmolhdmbkfaaaDoor.S
