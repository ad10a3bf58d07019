-- Written by wip/hook.py: the functions of this seat as plain Lean functions, and their walks.
import Derived.Test.YtcgpnnbmflacnaaDoorSx0
import Derived.Test.YtcgpnnbmflacnaaDoorSx1
namespace Go.Proofs.YtcgpnnbmflacnaaDoor.S
open Go.RowKit Go.Proofs.YtcgpnnbmflacnaaDoorW.PrintWords Go.Proofs.YtcgpnnbmflacnaaDoorW.PrintLast Go.Proofs.YtcgpnnbmflacnaaDoorW.PrintMore
attribute [local go_sem] max2_int min2_int max_two min_two max_three min_three max_four min_four   -- for this text's walks alone
set_option linter.unusedVariables false
set_option linter.unusedSimpArgs false

/-! ### cofferlaw13_RightsLattice: function 5 -/
mutual
def cofferlaw13_RightsLattice.j0 : Nat → Int → Int → Int → Int → Int → Bool → Option (Bool)
  | 0, _, _, _, _, _, _ => none
  | k + 1, x0, x1, x2, x7, x8, x9 => (rights_Meet.f x7 x2).bind fun t124 => ((rights_Meet.f x1 x2).bind fun t125 => ((rights_Meet.f x0 t125).bind fun t126 => (if t124 = t126 then ((rights_Join.f x8 x2).bind fun t127 => ((rights_Join.f x1 x2).bind fun t128 => ((rights_Join.f x0 t128).bind fun t129 => (cofferlaw13_RightsLattice.j1 k x0 x1 x2 x7 x8 x9 (t127 == t129))))) else (cofferlaw13_RightsLattice.j1 k x0 x1 x2 x7 x8 x9 false))))
def cofferlaw13_RightsLattice.j1 : Nat → Int → Int → Int → Int → Int → Bool → Bool → Option (Bool)
  | 0, _, _, _, _, _, _, _ => none
  | k + 1, x0, x1, x2, x7, x8, x9, x10 => (rights_Meet.f x0 x8).bind fun t130 => (if t130 = x0 then ((rights_Join.f x0 x7).bind fun t131 => (if t131 = x0 then ((rights_Join.f x1 x2).bind fun t132 => ((rights_Meet.f x0 t132).bind fun t133 => ((rights_Meet.f x0 x2).bind fun t134 => ((rights_Join.f x7 t134).bind fun t135 => (cofferlaw13_RightsLattice.j2 k x0 x1 x2 x7 x8 x9 x10 (t133 == t135)))))) else (cofferlaw13_RightsLattice.j2 k x0 x1 x2 x7 x8 x9 x10 false))) else (cofferlaw13_RightsLattice.j2 k x0 x1 x2 x7 x8 x9 x10 false))
def cofferlaw13_RightsLattice.j2 : Nat → Int → Int → Int → Int → Int → Bool → Bool → Bool → Option (Bool)
  | 0, _, _, _, _, _, _, _, _ => none
  | k + 1, x0, x1, x2, x7, x8, x9, x10, x11 => (rights_Covers.f x0 x1).bind fun t136 => (if (t136 == (x7 == x1)) = true then ((rights_Covers.f x0 x1).bind fun t137 => (if (t137 == (x8 == x0)) = true then ((rights_Covers.f x2 x0).bind fun t138 => (if t138 = true then ((rights_Covers.f x2 x1).bind fun t139 => (if t139 = true then ((rights_Covers.f x2 x8).bind fun t140 => (if x9 = true then (if x10 = true then (if x11 = true then (some t140) else (some false)) else (some false)) else (some false))) else (if x9 = true then (if x10 = true then (if x11 = true then (some true) else (some false)) else (some false)) else (some false)))) else (if x9 = true then (if x10 = true then (if x11 = true then (some true) else (some false)) else (some false)) else (some false)))) else (if x9 = true then (if x10 = true then (if x11 = true then (some false) else (some false)) else (some false)) else (some false)))) else (if x9 = true then (if x10 = true then (if x11 = true then (some false) else (some false)) else (some false)) else (some false)))
end
def cofferlaw13_RightsLattice.f (k : Nat) (a0 : Int) (a1 : Int) (a2 : Int) : Option (Bool) := (cofferlaw13_begun.f k).bind fun t117 => (if t117 = true then ((rights_Meet.f a0 a1).bind fun t118 => ((rights_Join.f a0 a1).bind fun t119 => ((rights_Meet.f a0 a0).bind fun t120 => (if t120 = a0 then ((rights_Join.f a0 a0).bind fun t121 => (if t121 = a0 then ((rights_Meet.f a1 a0).bind fun t122 => (if t118 = t122 then ((rights_Join.f a1 a0).bind fun t123 => (cofferlaw13_RightsLattice.j0 k a0 a1 a2 t118 t119 (t119 == t123))) else (cofferlaw13_RightsLattice.j0 k a0 a1 a2 t118 t119 false))) else (cofferlaw13_RightsLattice.j0 k a0 a1 a2 t118 t119 false))) else (cofferlaw13_RightsLattice.j0 k a0 a1 a2 t118 t119 false))))) else (some false))
theorem cofferlaw13_RightsLattice.mono_l : ∀ k, (∀ y0 y1 y2 y3 y4 y5, LeO (cofferlaw13_RightsLattice.j0 k y0 y1 y2 y3 y4 y5) (cofferlaw13_RightsLattice.j0 (k + 1) y0 y1 y2 y3 y4 y5)) ∧ (∀ y0 y1 y2 y3 y4 y5 y6, LeO (cofferlaw13_RightsLattice.j1 k y0 y1 y2 y3 y4 y5 y6) (cofferlaw13_RightsLattice.j1 (k + 1) y0 y1 y2 y3 y4 y5 y6)) ∧ (∀ y0 y1 y2 y3 y4 y5 y6 y7, LeO (cofferlaw13_RightsLattice.j2 k y0 y1 y2 y3 y4 y5 y6 y7) (cofferlaw13_RightsLattice.j2 (k + 1) y0 y1 y2 y3 y4 y5 y6 y7))
  | 0 => ⟨fun _ _ _ _ _ _ r h => by simp [cofferlaw13_RightsLattice.j0] at h, fun _ _ _ _ _ _ _ r h => by simp [cofferlaw13_RightsLattice.j1] at h, fun _ _ _ _ _ _ _ _ r h => by simp [cofferlaw13_RightsLattice.j2] at h⟩
  | k + 1 => by
    obtain ⟨ih0, ih1, ih2⟩ := cofferlaw13_RightsLattice.mono_l k
    refine ⟨?_, ?_, ?_⟩
    · intro y0 y1 y2 y3 y4 y5
      unfold cofferlaw13_RightsLattice.j0
      repeat' first
      | (with_reducible exact ih0 _ _ _ _ _ _)
      | (with_reducible exact ih1 _ _ _ _ _ _ _)
      | (with_reducible exact ih2 _ _ _ _ _ _ _ _)
      | (with_reducible exact cofferlaw13_begun.mono _)
      | (with_reducible exact LeO.refl _)
      | (with_reducible exact LeO.none _)
      | (with_reducible refine LeO.ite ?_ ?_)
      | (with_reducible refine LeO.bind ?_ (fun _ => ?_))
      | exact ih0 _ _ _ _ _ _
      | exact ih1 _ _ _ _ _ _ _
      | exact ih2 _ _ _ _ _ _ _ _
      | exact cofferlaw13_begun.mono _
      | exact LeO.none _
      | refine LeO.ite ?_ ?_
      | refine LeO.bind ?_ (fun _ => ?_)
    · intro y0 y1 y2 y3 y4 y5 y6
      unfold cofferlaw13_RightsLattice.j1
      repeat' first
      | (with_reducible exact ih0 _ _ _ _ _ _)
      | (with_reducible exact ih1 _ _ _ _ _ _ _)
      | (with_reducible exact ih2 _ _ _ _ _ _ _ _)
      | (with_reducible exact cofferlaw13_begun.mono _)
      | (with_reducible exact LeO.refl _)
      | (with_reducible exact LeO.none _)
      | (with_reducible refine LeO.ite ?_ ?_)
      | (with_reducible refine LeO.bind ?_ (fun _ => ?_))
      | exact ih0 _ _ _ _ _ _
      | exact ih1 _ _ _ _ _ _ _
      | exact ih2 _ _ _ _ _ _ _ _
      | exact cofferlaw13_begun.mono _
      | exact LeO.none _
      | refine LeO.ite ?_ ?_
      | refine LeO.bind ?_ (fun _ => ?_)
    · intro y0 y1 y2 y3 y4 y5 y6 y7
      unfold cofferlaw13_RightsLattice.j2
      repeat' first
      | (with_reducible exact ih0 _ _ _ _ _ _)
      | (with_reducible exact ih1 _ _ _ _ _ _ _)
      | (with_reducible exact ih2 _ _ _ _ _ _ _ _)
      | (with_reducible exact cofferlaw13_begun.mono _)
      | (with_reducible exact LeO.refl _)
      | (with_reducible exact LeO.none _)
      | (with_reducible refine LeO.ite ?_ ?_)
      | (with_reducible refine LeO.bind ?_ (fun _ => ?_))
      | exact ih0 _ _ _ _ _ _
      | exact ih1 _ _ _ _ _ _ _
      | exact ih2 _ _ _ _ _ _ _ _
      | exact cofferlaw13_begun.mono _
      | exact LeO.none _
      | refine LeO.ite ?_ ?_
      | refine LeO.bind ?_ (fun _ => ?_)
theorem cofferlaw13_RightsLattice.mono : ∀ a0 a1 a2 k, LeO (cofferlaw13_RightsLattice.f k a0 a1 a2) (cofferlaw13_RightsLattice.f (k + 1) a0 a1 a2) := by
  intro a0 a1 a2 k
  obtain ⟨ih0, ih1, ih2⟩ := cofferlaw13_RightsLattice.mono_l k
  unfold cofferlaw13_RightsLattice.f
  repeat' first
      | (with_reducible exact ih0 _ _ _ _ _ _)
      | (with_reducible exact ih1 _ _ _ _ _ _ _)
      | (with_reducible exact ih2 _ _ _ _ _ _ _ _)
      | (with_reducible exact cofferlaw13_begun.mono _)
      | (with_reducible exact LeO.refl _)
      | (with_reducible exact LeO.none _)
      | (with_reducible refine LeO.ite ?_ ?_)
      | (with_reducible refine LeO.bind ?_ (fun _ => ?_))
      | exact ih0 _ _ _ _ _ _
      | exact ih1 _ _ _ _ _ _ _
      | exact ih2 _ _ _ _ _ _ _ _
      | exact cofferlaw13_begun.mono _
      | exact LeO.none _
      | refine LeO.ite ?_ ?_
      | refine LeO.bind ?_ (fun _ => ?_)
set_option maxHeartbeats 8000000 in
set_option maxRecDepth 100000 in
theorem cofferlaw13_RightsLattice.calls (k : Nat) (a0 : Int) (a1 : Int) (a2 : Int) (r : Bool) (w : World) (h : cofferlaw13_RightsLattice.f k a0 a1 a2 = some r) (hT : Tabs w) :
    Calls Tryd.prog 5 #[.int .u8 a0, .int .u8 a1, .int .u8 a2] w fun e w' => e = .returned (.bool r) ∧ Below w.heap.size w w' := by
  have HB := Aside0.mk (Below.refl w.heap.size w)
  have H : ((cofferlaw13_begun.f k).bind fun t117 => (if t117 = true then ((rights_Meet.f a0 a1).bind fun t118 => ((rights_Join.f a0 a1).bind fun t119 => ((rights_Meet.f a0 a0).bind fun t120 => (if t120 = a0 then ((rights_Join.f a0 a0).bind fun t121 => (if t121 = a0 then ((rights_Meet.f a1 a0).bind fun t122 => (if t118 = t122 then ((rights_Join.f a1 a0).bind fun t123 => (cofferlaw13_RightsLattice.j0 k a0 a1 a2 t118 t119 (t119 == t123))) else (cofferlaw13_RightsLattice.j0 k a0 a1 a2 t118 t119 false))) else (cofferlaw13_RightsLattice.j0 k a0 a1 a2 t118 t119 false))) else (cofferlaw13_RightsLattice.j0 k a0 a1 a2 t118 t119 false))))) else (some false))) = some r := h
  clear h
  replace H := Option.bind_eq_some_iff.mp H
  obtain ⟨t117, A40, H⟩ := H
  replace H : (if t117 = true then ((rights_Meet.f a0 a1).bind fun t118 => ((rights_Join.f a0 a1).bind fun t119 => ((rights_Meet.f a0 a0).bind fun t120 => (if t120 = a0 then ((rights_Join.f a0 a0).bind fun t121 => (if t121 = a0 then ((rights_Meet.f a1 a0).bind fun t122 => (if t118 = t122 then ((rights_Join.f a1 a0).bind fun t123 => (cofferlaw13_RightsLattice.j0 k a0 a1 a2 t118 t119 (t119 == t123))) else (cofferlaw13_RightsLattice.j0 k a0 a1 a2 t118 t119 false))) else (cofferlaw13_RightsLattice.j0 k a0 a1 a2 t118 t119 false))) else (cofferlaw13_RightsLattice.j0 k a0 a1 a2 t118 t119 false))))) else (some false)) = some r := H
  have A4 := Aside0.mk A40
  clear A40
  by_cases c5 : t117 = true
  · subst c5
    have H1 : ((rights_Meet.f a0 a1).bind fun t118 => ((rights_Join.f a0 a1).bind fun t119 => ((rights_Meet.f a0 a0).bind fun t120 => (if t120 = a0 then ((rights_Join.f a0 a0).bind fun t121 => (if t121 = a0 then ((rights_Meet.f a1 a0).bind fun t122 => (if t118 = t122 then ((rights_Join.f a1 a0).bind fun t123 => (cofferlaw13_RightsLattice.j0 k a0 a1 a2 t118 t119 (t119 == t123))) else (cofferlaw13_RightsLattice.j0 k a0 a1 a2 t118 t119 false))) else (cofferlaw13_RightsLattice.j0 k a0 a1 a2 t118 t119 false))) else (cofferlaw13_RightsLattice.j0 k a0 a1 a2 t118 t119 false))))) = some r := by rw [if_pos rfl] at H; exact H
    clear H
    have H := H1
    clear H1
    replace H := Option.bind_eq_some_iff.mp H
    obtain ⟨t118, A60, H⟩ := H
    replace H : ((rights_Join.f a0 a1).bind fun t119 => ((rights_Meet.f a0 a0).bind fun t120 => (if t120 = a0 then ((rights_Join.f a0 a0).bind fun t121 => (if t121 = a0 then ((rights_Meet.f a1 a0).bind fun t122 => (if t118 = t122 then ((rights_Join.f a1 a0).bind fun t123 => (cofferlaw13_RightsLattice.j0 k a0 a1 a2 t118 t119 (t119 == t123))) else (cofferlaw13_RightsLattice.j0 k a0 a1 a2 t118 t119 false))) else (cofferlaw13_RightsLattice.j0 k a0 a1 a2 t118 t119 false))) else (cofferlaw13_RightsLattice.j0 k a0 a1 a2 t118 t119 false)))) = some r := H
    have A6 := Aside0.mk A60
    clear A60
    replace H := Option.bind_eq_some_iff.mp H
    obtain ⟨t119, A70, H⟩ := H
    replace H : ((rights_Meet.f a0 a0).bind fun t120 => (if t120 = a0 then ((rights_Join.f a0 a0).bind fun t121 => (if t121 = a0 then ((rights_Meet.f a1 a0).bind fun t122 => (if t118 = t122 then ((rights_Join.f a1 a0).bind fun t123 => (cofferlaw13_RightsLattice.j0 k a0 a1 a2 t118 t119 (t119 == t123))) else (cofferlaw13_RightsLattice.j0 k a0 a1 a2 t118 t119 false))) else (cofferlaw13_RightsLattice.j0 k a0 a1 a2 t118 t119 false))) else (cofferlaw13_RightsLattice.j0 k a0 a1 a2 t118 t119 false))) = some r := H
    have A7 := Aside0.mk A70
    clear A70
    have HC8 := Aside0.mk H
    clear H
    go_enter Tryd.func5, Tryd.ntmps5
    go_upto_region 4 with (first | ((with_reducible refine gate_callee (f := 8) rfl ?_); refine goesL_ (some 13) rfl rfl Tryd.func8 (by kernel_rfl) rfl #[] rfl (by (try simp only [List.map_toArray, List.map_cons, List.map_nil]); first | done | rfl | (simp only [List.length_drop, List.length_take]; rfl)) ?_; (with_reducible refine (cofferlaw13_begun.calls k  true _ A4.out (by first | exact hT | exact Tabs.below hT (by repeat (first | (with_reducible first | exact HB.out | exact Below.refl _ _ | apply below_alloc | apply pw_below_drewN | apply below_drew1) | exact HB.out)) | exact Tabs.drawn hT (by repeat (first | exact Drawn0.refl _ | apply Drawn0.step)))).mono ?_); rintro e w9 ⟨rfl, hb⟩; refine ⟨_, rfl, ?_⟩; have n0_ := Aside0.mk (below_step (by repeat (first | (with_reducible first | exact HB.out | apply below_alloc | apply pw_below_drewN | apply below_drew1) | exact HB.out)) hb); clear HB; have HB := n0_; clear n0_; (try clear hb); (try clear hb2); (try clear hk); (try clear hi)) | ((with_reducible refine gate_callee (f := 13) rfl ?_); refine goesL_ (some 17) rfl rfl Tryd.func13 (by kernel_rfl) rfl #[.int .u8 a0, .int .u8 a1] rfl (by (try simp only [List.map_toArray, List.map_cons, List.map_nil]); first | done | rfl | (simp only [List.length_drop, List.length_take]; rfl)) ?_; (with_reducible refine (rights_Meet.calls a0 a1 t118 _ A6.out).mono ?_); rintro e w' ⟨rfl, ⟨nd, rfl⟩⟩; refine ⟨_, rfl, ?_⟩) | ((with_reducible refine gate_callee (f := 14) rfl ?_); refine goesL_ (some 20) rfl rfl Tryd.func14 (by kernel_rfl) rfl #[.int .u8 a0, .int .u8 a1] rfl (by (try simp only [List.map_toArray, List.map_cons, List.map_nil]); first | done | rfl | (simp only [List.length_drop, List.length_take]; rfl)) ?_; (with_reducible refine (rights_Join.calls a0 a1 t119 _ A7.out).mono ?_); rintro e w' ⟨rfl, ⟨nd, rfl⟩⟩; refine ⟨_, rfl, ?_⟩))
    (try simp only [Act.put, List.setIfInBounds_toArray, List.set_cons_zero, List.set_cons_succ])
    go_cut [9] (fun v9 wc => ∃ (kq : Nat) (x9_7 : Bool), v9 = .bool x9_7 ∧ Aside0 (cofferlaw13_RightsLattice.j0 kq a0 a1 a2 t118 t119 x9_7 = some r) ∧ Aside0 (kq ≤ k) ∧ Aside0 (Below w.heap.size w wc))
    case first =>
      have H := HC8.out
      clear HC8
      replace H := Option.bind_eq_some_iff.mp H
      obtain ⟨t120, A100, H⟩ := H
      replace H : (if t120 = a0 then ((rights_Join.f a0 a0).bind fun t121 => (if t121 = a0 then ((rights_Meet.f a1 a0).bind fun t122 => (if t118 = t122 then ((rights_Join.f a1 a0).bind fun t123 => (cofferlaw13_RightsLattice.j0 k a0 a1 a2 t118 t119 (t119 == t123))) else (cofferlaw13_RightsLattice.j0 k a0 a1 a2 t118 t119 false))) else (cofferlaw13_RightsLattice.j0 k a0 a1 a2 t118 t119 false))) else (cofferlaw13_RightsLattice.j0 k a0 a1 a2 t118 t119 false)) = some r := H
      have A10 := Aside0.mk A100
      clear A100
      by_cases c11 : t120 = a0
      · rw [if_pos c11] at H
        have c11b0 : (t120 == a0) = true := beq_iff_eq.mpr c11
        have c11b1 : (t120 != a0) = false := bne_eq_false_iff_eq.mpr c11
        clear c11
        (first | rw [c11b0] | (simp only [i64_w, i32_w]; rw [c11b0]) | skip)
        replace H := Option.bind_eq_some_iff.mp H
        obtain ⟨t121, A120, H⟩ := H
        replace H : (if t121 = a0 then ((rights_Meet.f a1 a0).bind fun t122 => (if t118 = t122 then ((rights_Join.f a1 a0).bind fun t123 => (cofferlaw13_RightsLattice.j0 k a0 a1 a2 t118 t119 (t119 == t123))) else (cofferlaw13_RightsLattice.j0 k a0 a1 a2 t118 t119 false))) else (cofferlaw13_RightsLattice.j0 k a0 a1 a2 t118 t119 false)) = some r := H
        have A12 := Aside0.mk A120
        clear A120
        by_cases c13 : t121 = a0
        · rw [if_pos c13] at H
          have c13b0 : (t121 == a0) = true := beq_iff_eq.mpr c13
          have c13b1 : (t121 != a0) = false := bne_eq_false_iff_eq.mpr c13
          clear c13
          replace H := Option.bind_eq_some_iff.mp H
          obtain ⟨t122, A140, H⟩ := H
          replace H : (if t118 = t122 then ((rights_Join.f a1 a0).bind fun t123 => (cofferlaw13_RightsLattice.j0 k a0 a1 a2 t118 t119 (t119 == t123))) else (cofferlaw13_RightsLattice.j0 k a0 a1 a2 t118 t119 false)) = some r := H
          have A14 := Aside0.mk A140
          clear A140
          by_cases c15 : t118 = t122
          · rw [if_pos c15] at H
            have c15b0 : (t118 == t122) = true := beq_iff_eq.mpr c15
            have c15b1 : (t118 != t122) = false := bne_eq_false_iff_eq.mpr c15
            clear c15
            replace H := Option.bind_eq_some_iff.mp H
            obtain ⟨t123, A160, H⟩ := H
            replace H : (cofferlaw13_RightsLattice.j0 k a0 a1 a2 t118 t119 (t119 == t123)) = some r := H
            have A16 := Aside0.mk A160
            clear A160
            have H' := Aside0.mk H
            clear H
            go_wp2_with (first | ((with_reducible refine gate_callee (f := 13) rfl ?_); refine goesL_ (some 23) rfl rfl Tryd.func13 (by kernel_rfl) rfl #[.int .u8 a0, .int .u8 a0] rfl (by (try simp only [List.map_toArray, List.map_cons, List.map_nil]); first | done | rfl | (simp only [List.length_drop, List.length_take]; rfl)) ?_; (with_reducible refine (rights_Meet.calls a0 a0 t120 _ A10.out).mono ?_); rintro e w' ⟨rfl, ⟨nd, rfl⟩⟩; refine ⟨_, rfl, ?_⟩) | (go_at_call 14; (with_reducible refine (rights_Join.calls a0 a0 t121 _ A12.out).mono ?_); rintro e w' ⟨rfl, ⟨nd, rfl⟩⟩) | (go_at_call 13; (with_reducible refine (rights_Meet.calls a1 a0 t122 _ A14.out).mono ?_); rintro e w' ⟨rfl, ⟨nd, rfl⟩⟩) | (go_at_call 14; (with_reducible refine (rights_Join.calls a1 a0 t123 _ A16.out).mono ?_); rintro e w' ⟨rfl, ⟨nd, rfl⟩⟩))
            go_meet
            case rel => exact ⟨_, ((t119 == t123)), (by first | rfl | (simp; done) | (simp [*]; done)), H', ⟨by first | omega | exact Nat.le_refl _⟩, ⟨by repeat (first | (with_reducible first | exact HB.out | apply below_alloc | apply pw_below_drewN | apply below_drew1) | exact HB.out)⟩⟩
          · rw [if_neg c15] at H
            have c15b0 : (t118 == t122) = false := beq_eq_false_iff_ne.mpr c15
            have c15b1 : (t118 != t122) = true := bne_iff_ne.mpr c15
            have H' := Aside0.mk H
            clear H
            go_wp2_with (first | ((with_reducible refine gate_callee (f := 13) rfl ?_); refine goesL_ (some 23) rfl rfl Tryd.func13 (by kernel_rfl) rfl #[.int .u8 a0, .int .u8 a0] rfl (by (try simp only [List.map_toArray, List.map_cons, List.map_nil]); first | done | rfl | (simp only [List.length_drop, List.length_take]; rfl)) ?_; (with_reducible refine (rights_Meet.calls a0 a0 t120 _ A10.out).mono ?_); rintro e w' ⟨rfl, ⟨nd, rfl⟩⟩; refine ⟨_, rfl, ?_⟩) | (go_at_call 14; (with_reducible refine (rights_Join.calls a0 a0 t121 _ A12.out).mono ?_); rintro e w' ⟨rfl, ⟨nd, rfl⟩⟩) | (go_at_call 13; (with_reducible refine (rights_Meet.calls a1 a0 t122 _ A14.out).mono ?_); rintro e w' ⟨rfl, ⟨nd, rfl⟩⟩))
            go_meet
            case rel => exact ⟨_, (false), (by first | rfl | (simp; done) | (simp [*]; done)), H', ⟨by first | omega | exact Nat.le_refl _⟩, ⟨by repeat (first | (with_reducible first | exact HB.out | apply below_alloc | apply pw_below_drewN | apply below_drew1) | exact HB.out)⟩⟩
        · rw [if_neg c13] at H
          have c13b0 : (t121 == a0) = false := beq_eq_false_iff_ne.mpr c13
          have c13b1 : (t121 != a0) = true := bne_iff_ne.mpr c13
          have H' := Aside0.mk H
          clear H
          go_wp2_with (first | ((with_reducible refine gate_callee (f := 13) rfl ?_); refine goesL_ (some 23) rfl rfl Tryd.func13 (by kernel_rfl) rfl #[.int .u8 a0, .int .u8 a0] rfl (by (try simp only [List.map_toArray, List.map_cons, List.map_nil]); first | done | rfl | (simp only [List.length_drop, List.length_take]; rfl)) ?_; (with_reducible refine (rights_Meet.calls a0 a0 t120 _ A10.out).mono ?_); rintro e w' ⟨rfl, ⟨nd, rfl⟩⟩; refine ⟨_, rfl, ?_⟩) | (go_at_call 14; (with_reducible refine (rights_Join.calls a0 a0 t121 _ A12.out).mono ?_); rintro e w' ⟨rfl, ⟨nd, rfl⟩⟩))
          go_meet
          case rel => exact ⟨_, (false), (by first | rfl | (simp; done) | (simp [*]; done)), H', ⟨by first | omega | exact Nat.le_refl _⟩, ⟨by repeat (first | (with_reducible first | exact HB.out | apply below_alloc | apply pw_below_drewN | apply below_drew1) | exact HB.out)⟩⟩
      · rw [if_neg c11] at H
        have c11b0 : (t120 == a0) = false := beq_eq_false_iff_ne.mpr c11
        have c11b1 : (t120 != a0) = true := bne_iff_ne.mpr c11
        (first | rw [c11b0] | (simp only [i64_w, i32_w]; rw [c11b0]) | skip)
        have H' := Aside0.mk H
        clear H
        go_wp2_with (first | ((with_reducible refine gate_callee (f := 13) rfl ?_); refine goesL_ (some 23) rfl rfl Tryd.func13 (by kernel_rfl) rfl #[.int .u8 a0, .int .u8 a0] rfl (by (try simp only [List.map_toArray, List.map_cons, List.map_nil]); first | done | rfl | (simp only [List.length_drop, List.length_take]; rfl)) ?_; (with_reducible refine (rights_Meet.calls a0 a0 t120 _ A10.out).mono ?_); rintro e w' ⟨rfl, ⟨nd, rfl⟩⟩; refine ⟨_, rfl, ?_⟩))
        go_meet
        case rel => exact ⟨_, (false), (by first | rfl | (simp; done) | (simp [*]; done)), H', ⟨by first | omega | exact Nat.le_refl _⟩, ⟨by repeat (first | (with_reducible first | exact HB.out | apply below_alloc | apply pw_below_drewN | apply below_drew1) | exact HB.out)⟩⟩
    case rest =>
      clear HC8
      try clear c1
      try clear p2
      try clear c5
      try clear c8
      try clear c11
      try clear c11b0
      try clear c11b1
      try clear c13
      try clear c13b0
      try clear c13b1
      try clear c14
      try clear c15
      try clear c15b0
      try clear c15b1
      obtain ⟨kq, x9_7, rfl, HA, HJ7, HB⟩ := hcut
      cases kq with
      | zero => exact absurd HA.out (by simp [cofferlaw13_RightsLattice.j0])
      | succ kj7 =>
        have H := HA.out
        clear HA
        simp only [cofferlaw13_RightsLattice.j0] at H
        have HC17 := Aside0.mk H
        clear H
        go_upto_region 5 with (fail)
        go_cut [10] (fun v10 wc => ∃ (kq : Nat) (x10_16 : Bool), v10 = .bool x10_16 ∧ Aside0 (cofferlaw13_RightsLattice.j1 kq a0 a1 a2 t118 t119 x9_7 x10_16 = some r) ∧ Aside0 (kq ≤ kj7) ∧ Aside0 (Below w.heap.size w wc))
        case first =>
          have H := HC17.out
          clear HC17
          replace H := Option.bind_eq_some_iff.mp H
          obtain ⟨t124, A180, H⟩ := H
          replace H : ((rights_Meet.f a1 a2).bind fun t125 => ((rights_Meet.f a0 t125).bind fun t126 => (if t124 = t126 then ((rights_Join.f t119 a2).bind fun t127 => ((rights_Join.f a1 a2).bind fun t128 => ((rights_Join.f a0 t128).bind fun t129 => (cofferlaw13_RightsLattice.j1 kj7 a0 a1 a2 t118 t119 x9_7 (t127 == t129))))) else (cofferlaw13_RightsLattice.j1 kj7 a0 a1 a2 t118 t119 x9_7 false)))) = some r := H
          have A18 := Aside0.mk A180
          clear A180
          replace H := Option.bind_eq_some_iff.mp H
          obtain ⟨t125, A190, H⟩ := H
          replace H : ((rights_Meet.f a0 t125).bind fun t126 => (if t124 = t126 then ((rights_Join.f t119 a2).bind fun t127 => ((rights_Join.f a1 a2).bind fun t128 => ((rights_Join.f a0 t128).bind fun t129 => (cofferlaw13_RightsLattice.j1 kj7 a0 a1 a2 t118 t119 x9_7 (t127 == t129))))) else (cofferlaw13_RightsLattice.j1 kj7 a0 a1 a2 t118 t119 x9_7 false))) = some r := H
          have A19 := Aside0.mk A190
          clear A190
          replace H := Option.bind_eq_some_iff.mp H
          obtain ⟨t126, A200, H⟩ := H
          replace H : (if t124 = t126 then ((rights_Join.f t119 a2).bind fun t127 => ((rights_Join.f a1 a2).bind fun t128 => ((rights_Join.f a0 t128).bind fun t129 => (cofferlaw13_RightsLattice.j1 kj7 a0 a1 a2 t118 t119 x9_7 (t127 == t129))))) else (cofferlaw13_RightsLattice.j1 kj7 a0 a1 a2 t118 t119 x9_7 false)) = some r := H
          have A20 := Aside0.mk A200
          clear A200
          by_cases c21 : t124 = t126
          · rw [if_pos c21] at H
            have c21b0 : (t124 == t126) = true := beq_iff_eq.mpr c21
            have c21b1 : (t124 != t126) = false := bne_eq_false_iff_eq.mpr c21
            clear c21
            (first | rw [c21b0] | (simp only [i64_w, i32_w]; rw [c21b0]) | skip)
            replace H := Option.bind_eq_some_iff.mp H
            obtain ⟨t127, A220, H⟩ := H
            replace H : ((rights_Join.f a1 a2).bind fun t128 => ((rights_Join.f a0 t128).bind fun t129 => (cofferlaw13_RightsLattice.j1 kj7 a0 a1 a2 t118 t119 x9_7 (t127 == t129)))) = some r := H
            have A22 := Aside0.mk A220
            clear A220
            replace H := Option.bind_eq_some_iff.mp H
            obtain ⟨t128, A230, H⟩ := H
            replace H : ((rights_Join.f a0 t128).bind fun t129 => (cofferlaw13_RightsLattice.j1 kj7 a0 a1 a2 t118 t119 x9_7 (t127 == t129))) = some r := H
            have A23 := Aside0.mk A230
            clear A230
            replace H := Option.bind_eq_some_iff.mp H
            obtain ⟨t129, A240, H⟩ := H
            replace H : (cofferlaw13_RightsLattice.j1 kj7 a0 a1 a2 t118 t119 x9_7 (t127 == t129)) = some r := H
            have A24 := Aside0.mk A240
            clear A240
            have H' := Aside0.mk H
            clear H
            go_wp2_with (first | ((with_reducible refine gate_callee (f := 13) rfl ?_); refine goesL_ (some 49) rfl rfl Tryd.func13 (by kernel_rfl) rfl #[.int .u8 t118, .int .u8 a2] rfl (by (try simp only [List.map_toArray, List.map_cons, List.map_nil]); first | done | rfl | (simp only [List.length_drop, List.length_take]; rfl)) ?_; (with_reducible refine (rights_Meet.calls t118 a2 t124 _ A18.out).mono ?_); rintro e w' ⟨rfl, ⟨nd, rfl⟩⟩; refine ⟨_, rfl, ?_⟩) | ((with_reducible refine gate_callee (f := 13) rfl ?_); refine goesL_ (some 53) rfl rfl Tryd.func13 (by kernel_rfl) rfl #[.int .u8 a1, .int .u8 a2] rfl (by (try simp only [List.map_toArray, List.map_cons, List.map_nil]); first | done | rfl | (simp only [List.length_drop, List.length_take]; rfl)) ?_; (with_reducible refine (rights_Meet.calls a1 a2 t125 _ A19.out).mono ?_); rintro e w' ⟨rfl, ⟨nd, rfl⟩⟩; refine ⟨_, rfl, ?_⟩) | ((with_reducible refine gate_callee (f := 13) rfl ?_); refine goesL_ (some 54) rfl rfl Tryd.func13 (by kernel_rfl) rfl #[.int .u8 a0, .int .u8 t125] rfl (by (try simp only [List.map_toArray, List.map_cons, List.map_nil]); first | done | rfl | (simp only [List.length_drop, List.length_take]; rfl)) ?_; (with_reducible refine (rights_Meet.calls a0 t125 t126 _ A20.out).mono ?_); rintro e w' ⟨rfl, ⟨nd, rfl⟩⟩; refine ⟨_, rfl, ?_⟩) | (go_at_call 14; (with_reducible refine (rights_Join.calls t119 a2 t127 _ A22.out).mono ?_); rintro e w' ⟨rfl, ⟨nd, rfl⟩⟩) | (go_at_call 14; (with_reducible refine (rights_Join.calls a1 a2 t128 _ A23.out).mono ?_); rintro e w' ⟨rfl, ⟨nd, rfl⟩⟩) | (go_at_call 14; (with_reducible refine (rights_Join.calls a0 t128 t129 _ A24.out).mono ?_); rintro e w' ⟨rfl, ⟨nd, rfl⟩⟩))
            go_meet
            case rel => exact ⟨_, ((t127 == t129)), (by first | rfl | (simp; done) | (simp [*]; done)), H', ⟨by have := HJ7.out; first | omega | exact Nat.le_refl _⟩, ⟨by repeat (first | (with_reducible first | exact HB.out | apply below_alloc | apply pw_below_drewN | apply below_drew1) | exact HB.out)⟩⟩
          · rw [if_neg c21] at H
            have c21b0 : (t124 == t126) = false := beq_eq_false_iff_ne.mpr c21
            have c21b1 : (t124 != t126) = true := bne_iff_ne.mpr c21
            (first | rw [c21b0] | (simp only [i64_w, i32_w]; rw [c21b0]) | skip)
            have H' := Aside0.mk H
            clear H
            go_wp2_with (first | ((with_reducible refine gate_callee (f := 13) rfl ?_); refine goesL_ (some 49) rfl rfl Tryd.func13 (by kernel_rfl) rfl #[.int .u8 t118, .int .u8 a2] rfl (by (try simp only [List.map_toArray, List.map_cons, List.map_nil]); first | done | rfl | (simp only [List.length_drop, List.length_take]; rfl)) ?_; (with_reducible refine (rights_Meet.calls t118 a2 t124 _ A18.out).mono ?_); rintro e w' ⟨rfl, ⟨nd, rfl⟩⟩; refine ⟨_, rfl, ?_⟩) | ((with_reducible refine gate_callee (f := 13) rfl ?_); refine goesL_ (some 53) rfl rfl Tryd.func13 (by kernel_rfl) rfl #[.int .u8 a1, .int .u8 a2] rfl (by (try simp only [List.map_toArray, List.map_cons, List.map_nil]); first | done | rfl | (simp only [List.length_drop, List.length_take]; rfl)) ?_; (with_reducible refine (rights_Meet.calls a1 a2 t125 _ A19.out).mono ?_); rintro e w' ⟨rfl, ⟨nd, rfl⟩⟩; refine ⟨_, rfl, ?_⟩) | ((with_reducible refine gate_callee (f := 13) rfl ?_); refine goesL_ (some 54) rfl rfl Tryd.func13 (by kernel_rfl) rfl #[.int .u8 a0, .int .u8 t125] rfl (by (try simp only [List.map_toArray, List.map_cons, List.map_nil]); first | done | rfl | (simp only [List.length_drop, List.length_take]; rfl)) ?_; (with_reducible refine (rights_Meet.calls a0 t125 t126 _ A20.out).mono ?_); rintro e w' ⟨rfl, ⟨nd, rfl⟩⟩; refine ⟨_, rfl, ?_⟩))
            go_meet
            case rel => exact ⟨_, (false), (by first | rfl | (simp; done) | (simp [*]; done)), H', ⟨by have := HJ7.out; first | omega | exact Nat.le_refl _⟩, ⟨by repeat (first | (with_reducible first | exact HB.out | apply below_alloc | apply pw_below_drewN | apply below_drew1) | exact HB.out)⟩⟩
        case rest =>
          clear HC17
          try clear c1
          try clear c2
          try clear p2
          try clear c5
          try clear c8
          try clear c11
          try clear c11b0
          try clear c11b1
          try clear c13
          try clear c13b0
          try clear c13b1
          try clear c14
          try clear c15
          try clear c15b0
          try clear c15b1
          try clear c21
          try clear c21b0
          try clear c21b1
          try clear p2
          obtain ⟨kq, x10_16, rfl, HA, HJ16, HB⟩ := hcut
          cases kq with
          | zero => exact absurd HA.out (by simp [cofferlaw13_RightsLattice.j1])
          | succ kj16 =>
            have H := HA.out
            clear HA
            simp only [cofferlaw13_RightsLattice.j1] at H
            have HC25 := Aside0.mk H
            clear H
            go_upto_region 6 with (fail)
            go_cut [11] (fun v11 wc => ∃ (kq : Nat) (x11_24 : Bool), v11 = .bool x11_24 ∧ Aside0 (cofferlaw13_RightsLattice.j2 kq a0 a1 a2 t118 t119 x9_7 x10_16 x11_24 = some r) ∧ Aside0 (kq ≤ kj16) ∧ Aside0 (Below w.heap.size w wc))
            case first =>
              have H := HC25.out
              clear HC25
              replace H := Option.bind_eq_some_iff.mp H
              obtain ⟨t130, A260, H⟩ := H
              replace H : (if t130 = a0 then ((rights_Join.f a0 t118).bind fun t131 => (if t131 = a0 then ((rights_Join.f a1 a2).bind fun t132 => ((rights_Meet.f a0 t132).bind fun t133 => ((rights_Meet.f a0 a2).bind fun t134 => ((rights_Join.f t118 t134).bind fun t135 => (cofferlaw13_RightsLattice.j2 kj16 a0 a1 a2 t118 t119 x9_7 x10_16 (t133 == t135)))))) else (cofferlaw13_RightsLattice.j2 kj16 a0 a1 a2 t118 t119 x9_7 x10_16 false))) else (cofferlaw13_RightsLattice.j2 kj16 a0 a1 a2 t118 t119 x9_7 x10_16 false)) = some r := H
              have A26 := Aside0.mk A260
              clear A260
              by_cases c27 : t130 = a0
              · rw [if_pos c27] at H
                have c27b0 : (t130 == a0) = true := beq_iff_eq.mpr c27
                have c27b1 : (t130 != a0) = false := bne_eq_false_iff_eq.mpr c27
                clear c27
                (first | rw [c27b0] | (simp only [i64_w, i32_w]; rw [c27b0]) | skip)
                replace H := Option.bind_eq_some_iff.mp H
                obtain ⟨t131, A280, H⟩ := H
                replace H : (if t131 = a0 then ((rights_Join.f a1 a2).bind fun t132 => ((rights_Meet.f a0 t132).bind fun t133 => ((rights_Meet.f a0 a2).bind fun t134 => ((rights_Join.f t118 t134).bind fun t135 => (cofferlaw13_RightsLattice.j2 kj16 a0 a1 a2 t118 t119 x9_7 x10_16 (t133 == t135)))))) else (cofferlaw13_RightsLattice.j2 kj16 a0 a1 a2 t118 t119 x9_7 x10_16 false)) = some r := H
                have A28 := Aside0.mk A280
                clear A280
                by_cases c29 : t131 = a0
                · rw [if_pos c29] at H
                  have c29b0 : (t131 == a0) = true := beq_iff_eq.mpr c29
                  have c29b1 : (t131 != a0) = false := bne_eq_false_iff_eq.mpr c29
                  clear c29
                  replace H := Option.bind_eq_some_iff.mp H
                  obtain ⟨t132, A300, H⟩ := H
                  replace H : ((rights_Meet.f a0 t132).bind fun t133 => ((rights_Meet.f a0 a2).bind fun t134 => ((rights_Join.f t118 t134).bind fun t135 => (cofferlaw13_RightsLattice.j2 kj16 a0 a1 a2 t118 t119 x9_7 x10_16 (t133 == t135))))) = some r := H
                  have A30 := Aside0.mk A300
                  clear A300
                  replace H := Option.bind_eq_some_iff.mp H
                  obtain ⟨t133, A310, H⟩ := H
                  replace H : ((rights_Meet.f a0 a2).bind fun t134 => ((rights_Join.f t118 t134).bind fun t135 => (cofferlaw13_RightsLattice.j2 kj16 a0 a1 a2 t118 t119 x9_7 x10_16 (t133 == t135)))) = some r := H
                  have A31 := Aside0.mk A310
                  clear A310
                  replace H := Option.bind_eq_some_iff.mp H
                  obtain ⟨t134, A320, H⟩ := H
                  replace H : ((rights_Join.f t118 t134).bind fun t135 => (cofferlaw13_RightsLattice.j2 kj16 a0 a1 a2 t118 t119 x9_7 x10_16 (t133 == t135))) = some r := H
                  have A32 := Aside0.mk A320
                  clear A320
                  replace H := Option.bind_eq_some_iff.mp H
                  obtain ⟨t135, A330, H⟩ := H
                  replace H : (cofferlaw13_RightsLattice.j2 kj16 a0 a1 a2 t118 t119 x9_7 x10_16 (t133 == t135)) = some r := H
                  have A33 := Aside0.mk A330
                  clear A330
                  have H' := Aside0.mk H
                  clear H
                  go_wp2_with (first | ((with_reducible refine gate_callee (f := 13) rfl ?_); refine goesL_ (some 69) rfl rfl Tryd.func13 (by kernel_rfl) rfl #[.int .u8 a0, .int .u8 t119] rfl (by (try simp only [List.map_toArray, List.map_cons, List.map_nil]); first | done | rfl | (simp only [List.length_drop, List.length_take]; rfl)) ?_; (with_reducible refine (rights_Meet.calls a0 t119 t130 _ A26.out).mono ?_); rintro e w' ⟨rfl, ⟨nd, rfl⟩⟩; refine ⟨_, rfl, ?_⟩) | (go_at_call 14; (with_reducible refine (rights_Join.calls a0 t118 t131 _ A28.out).mono ?_); rintro e w' ⟨rfl, ⟨nd, rfl⟩⟩) | (go_at_call 14; (with_reducible refine (rights_Join.calls a1 a2 t132 _ A30.out).mono ?_); rintro e w' ⟨rfl, ⟨nd, rfl⟩⟩) | (go_at_call 13; (with_reducible refine (rights_Meet.calls a0 t132 t133 _ A31.out).mono ?_); rintro e w' ⟨rfl, ⟨nd, rfl⟩⟩) | (go_at_call 13; (with_reducible refine (rights_Meet.calls a0 a2 t134 _ A32.out).mono ?_); rintro e w' ⟨rfl, ⟨nd, rfl⟩⟩) | (go_at_call 14; (with_reducible refine (rights_Join.calls t118 t134 t135 _ A33.out).mono ?_); rintro e w' ⟨rfl, ⟨nd, rfl⟩⟩))
                  go_meet
                  case rel => exact ⟨_, ((t133 == t135)), (by first | rfl | (simp; done) | (simp [*]; done)), H', ⟨by have := HJ7.out; have := HJ16.out; first | omega | exact Nat.le_refl _⟩, ⟨by repeat (first | (with_reducible first | exact HB.out | apply below_alloc | apply pw_below_drewN | apply below_drew1) | exact HB.out)⟩⟩
                · rw [if_neg c29] at H
                  have c29b0 : (t131 == a0) = false := beq_eq_false_iff_ne.mpr c29
                  have c29b1 : (t131 != a0) = true := bne_iff_ne.mpr c29
                  have H' := Aside0.mk H
                  clear H
                  go_wp2_with (first | ((with_reducible refine gate_callee (f := 13) rfl ?_); refine goesL_ (some 69) rfl rfl Tryd.func13 (by kernel_rfl) rfl #[.int .u8 a0, .int .u8 t119] rfl (by (try simp only [List.map_toArray, List.map_cons, List.map_nil]); first | done | rfl | (simp only [List.length_drop, List.length_take]; rfl)) ?_; (with_reducible refine (rights_Meet.calls a0 t119 t130 _ A26.out).mono ?_); rintro e w' ⟨rfl, ⟨nd, rfl⟩⟩; refine ⟨_, rfl, ?_⟩) | (go_at_call 14; (with_reducible refine (rights_Join.calls a0 t118 t131 _ A28.out).mono ?_); rintro e w' ⟨rfl, ⟨nd, rfl⟩⟩))
                  go_meet
                  case rel => exact ⟨_, (false), (by first | rfl | (simp; done) | (simp [*]; done)), H', ⟨by have := HJ7.out; have := HJ16.out; first | omega | exact Nat.le_refl _⟩, ⟨by repeat (first | (with_reducible first | exact HB.out | apply below_alloc | apply pw_below_drewN | apply below_drew1) | exact HB.out)⟩⟩
              · rw [if_neg c27] at H
                have c27b0 : (t130 == a0) = false := beq_eq_false_iff_ne.mpr c27
                have c27b1 : (t130 != a0) = true := bne_iff_ne.mpr c27
                (first | rw [c27b0] | (simp only [i64_w, i32_w]; rw [c27b0]) | skip)
                have H' := Aside0.mk H
                clear H
                go_wp2_with (first | ((with_reducible refine gate_callee (f := 13) rfl ?_); refine goesL_ (some 69) rfl rfl Tryd.func13 (by kernel_rfl) rfl #[.int .u8 a0, .int .u8 t119] rfl (by (try simp only [List.map_toArray, List.map_cons, List.map_nil]); first | done | rfl | (simp only [List.length_drop, List.length_take]; rfl)) ?_; (with_reducible refine (rights_Meet.calls a0 t119 t130 _ A26.out).mono ?_); rintro e w' ⟨rfl, ⟨nd, rfl⟩⟩; refine ⟨_, rfl, ?_⟩))
                go_meet
                case rel => exact ⟨_, (false), (by first | rfl | (simp; done) | (simp [*]; done)), H', ⟨by have := HJ7.out; have := HJ16.out; first | omega | exact Nat.le_refl _⟩, ⟨by repeat (first | (with_reducible first | exact HB.out | apply below_alloc | apply pw_below_drewN | apply below_drew1) | exact HB.out)⟩⟩
            case rest =>
              clear HC25
              try clear c1
              try clear c2
              try clear p2
              try clear c5
              try clear c8
              try clear c11
              try clear c11b0
              try clear c11b1
              try clear c13
              try clear c13b0
              try clear c13b1
              try clear c14
              try clear c15
              try clear c15b0
              try clear c15b1
              try clear c21
              try clear c21b0
              try clear c21b1
              try clear c27
              try clear c27b0
              try clear c27b1
              try clear c29
              try clear c29b0
              try clear c29b1
              try clear p2
              obtain ⟨kq, x11_24, rfl, HA, HJ24, HB⟩ := hcut
              cases kq with
              | zero => exact absurd HA.out (by simp [cofferlaw13_RightsLattice.j2])
              | succ kj24 =>
                have H := HA.out
                clear HA
                simp only [cofferlaw13_RightsLattice.j2] at H
                replace H := Option.bind_eq_some_iff.mp H
                obtain ⟨t136, A340, H⟩ := H
                replace H : (if (t136 == (t118 == a1)) = true then ((rights_Covers.f a0 a1).bind fun t137 => (if (t137 == (t119 == a0)) = true then ((rights_Covers.f a2 a0).bind fun t138 => (if t138 = true then ((rights_Covers.f a2 a1).bind fun t139 => (if t139 = true then ((rights_Covers.f a2 t119).bind fun t140 => (if x9_7 = true then (if x10_16 = true then (if x11_24 = true then (some t140) else (some false)) else (some false)) else (some false))) else (if x9_7 = true then (if x10_16 = true then (if x11_24 = true then (some true) else (some false)) else (some false)) else (some false)))) else (if x9_7 = true then (if x10_16 = true then (if x11_24 = true then (some true) else (some false)) else (some false)) else (some false)))) else (if x9_7 = true then (if x10_16 = true then (if x11_24 = true then (some false) else (some false)) else (some false)) else (some false)))) else (if x9_7 = true then (if x10_16 = true then (if x11_24 = true then (some false) else (some false)) else (some false)) else (some false))) = some r := H
                have A34 := Aside0.mk A340
                clear A340
                by_cases c35 : (t136 == (t118 == a1)) = true
                · rw [if_pos c35] at H
                  have c35b0 : (t136 == (t118 == a1)) = true := c35
                  (try (have c35b1 : decide (t136 = (t118 == a1)) = true := by simpa using c35))
                  (try (have c35b2 : (t136 == (t118 == a1)) = true := by simpa using c35))
                  clear c35
                  replace H := Option.bind_eq_some_iff.mp H
                  obtain ⟨t137, A360, H⟩ := H
                  replace H : (if (t137 == (t119 == a0)) = true then ((rights_Covers.f a2 a0).bind fun t138 => (if t138 = true then ((rights_Covers.f a2 a1).bind fun t139 => (if t139 = true then ((rights_Covers.f a2 t119).bind fun t140 => (if x9_7 = true then (if x10_16 = true then (if x11_24 = true then (some t140) else (some false)) else (some false)) else (some false))) else (if x9_7 = true then (if x10_16 = true then (if x11_24 = true then (some true) else (some false)) else (some false)) else (some false)))) else (if x9_7 = true then (if x10_16 = true then (if x11_24 = true then (some true) else (some false)) else (some false)) else (some false)))) else (if x9_7 = true then (if x10_16 = true then (if x11_24 = true then (some false) else (some false)) else (some false)) else (some false))) = some r := H
                  have A36 := Aside0.mk A360
                  clear A360
                  by_cases c37 : (t137 == (t119 == a0)) = true
                  · rw [if_pos c37] at H
                    have c37b0 : (t137 == (t119 == a0)) = true := c37
                    (try (have c37b1 : decide (t137 = (t119 == a0)) = true := by simpa using c37))
                    (try (have c37b2 : (t137 == (t119 == a0)) = true := by simpa using c37))
                    clear c37
                    replace H := Option.bind_eq_some_iff.mp H
                    obtain ⟨t138, A380, H⟩ := H
                    replace H : (if t138 = true then ((rights_Covers.f a2 a1).bind fun t139 => (if t139 = true then ((rights_Covers.f a2 t119).bind fun t140 => (if x9_7 = true then (if x10_16 = true then (if x11_24 = true then (some t140) else (some false)) else (some false)) else (some false))) else (if x9_7 = true then (if x10_16 = true then (if x11_24 = true then (some true) else (some false)) else (some false)) else (some false)))) else (if x9_7 = true then (if x10_16 = true then (if x11_24 = true then (some true) else (some false)) else (some false)) else (some false))) = some r := H
                    have A38 := Aside0.mk A380
                    clear A380
                    by_cases c39 : t138 = true
                    · subst c39
                      have H1 : ((rights_Covers.f a2 a1).bind fun t139 => (if t139 = true then ((rights_Covers.f a2 t119).bind fun t140 => (if x9_7 = true then (if x10_16 = true then (if x11_24 = true then (some t140) else (some false)) else (some false)) else (some false))) else (if x9_7 = true then (if x10_16 = true then (if x11_24 = true then (some true) else (some false)) else (some false)) else (some false)))) = some r := by rw [if_pos rfl] at H; exact H
                      clear H
                      have H := H1
                      clear H1
                      replace H := Option.bind_eq_some_iff.mp H
                      obtain ⟨t139, A400, H⟩ := H
                      replace H : (if t139 = true then ((rights_Covers.f a2 t119).bind fun t140 => (if x9_7 = true then (if x10_16 = true then (if x11_24 = true then (some t140) else (some false)) else (some false)) else (some false))) else (if x9_7 = true then (if x10_16 = true then (if x11_24 = true then (some true) else (some false)) else (some false)) else (some false))) = some r := H
                      have A40 := Aside0.mk A400
                      clear A400
                      by_cases c41 : t139 = true
                      · subst c41
                        have H1 : ((rights_Covers.f a2 t119).bind fun t140 => (if x9_7 = true then (if x10_16 = true then (if x11_24 = true then (some t140) else (some false)) else (some false)) else (some false))) = some r := by rw [if_pos rfl] at H; exact H
                        clear H
                        have H := H1
                        clear H1
                        replace H := Option.bind_eq_some_iff.mp H
                        obtain ⟨t140, A420, H⟩ := H
                        replace H : (if x9_7 = true then (if x10_16 = true then (if x11_24 = true then (some t140) else (some false)) else (some false)) else (some false)) = some r := H
                        have A42 := Aside0.mk A420
                        clear A420
                        by_cases c43 : x9_7 = true
                        · subst c43
                          have H1 : (if x10_16 = true then (if x11_24 = true then (some t140) else (some false)) else (some false)) = some r := by rw [if_pos rfl] at H; exact H
                          clear H
                          have H := H1
                          clear H1
                          by_cases c44 : x10_16 = true
                          · subst c44
                            have H1 : (if x11_24 = true then (some t140) else (some false)) = some r := by rw [if_pos rfl] at H; exact H
                            clear H
                            have H := H1
                            clear H1
                            by_cases c45 : x11_24 = true
                            · subst c45
                              have H1 : (some t140) = some r := by rw [if_pos rfl] at H; exact H
                              clear H
                              have H := H1
                              clear H1
                              obtain rfl := Option.some.inj H
                              go_wp2_with (first | ((with_reducible refine gate_callee (f := 15) rfl ?_); refine goesL_ (some 94) rfl rfl Tryd.func15 (by kernel_rfl) rfl #[.int .u8 a0, .int .u8 a1] rfl (by (try simp only [List.map_toArray, List.map_cons, List.map_nil]); first | done | rfl | (simp only [List.length_drop, List.length_take]; rfl)) ?_; (with_reducible refine (rights_Covers.calls a0 a1 t136 _ A34.out).mono ?_); rintro e w' ⟨rfl, ⟨nd, rfl⟩⟩; refine ⟨_, rfl, ?_⟩) | (go_at_call 15; (with_reducible refine (rights_Covers.calls a0 a1 t137 _ A36.out).mono ?_); rintro e w' ⟨rfl, ⟨nd, rfl⟩⟩) | (go_at_call 15; (with_reducible refine (rights_Covers.calls a2 a0 true _ A38.out).mono ?_); rintro e w' ⟨rfl, ⟨nd, rfl⟩⟩) | (go_at_call 15; (with_reducible refine (rights_Covers.calls a2 a1 true _ A40.out).mono ?_); rintro e w' ⟨rfl, ⟨nd, rfl⟩⟩) | (go_at_call 15; (with_reducible refine (rights_Covers.calls a2 t119 t140 _ A42.out).mono ?_); rintro e w' ⟨rfl, ⟨nd, rfl⟩⟩))
                              go_ret
                              exact ⟨by first | rfl | (simp [errW_none, errW_some] <;> rfl) | (simp [*, errW_none, errW_some] <;> rfl), by repeat (first | (with_reducible first | exact HB.out | apply below_alloc | apply pw_below_drewN | apply below_drew1) | exact HB.out)⟩
                            · replace c45 := Bool.eq_false_iff.mpr c45
                              subst c45
                              have H1 : (some false) = some r := by rw [if_neg (show ¬ (false = true) by decide)] at H; exact H
                              clear H
                              have H := H1
                              clear H1
                              obtain rfl := Option.some.inj H
                              go_wp2_with (first | ((with_reducible refine gate_callee (f := 15) rfl ?_); refine goesL_ (some 94) rfl rfl Tryd.func15 (by kernel_rfl) rfl #[.int .u8 a0, .int .u8 a1] rfl (by (try simp only [List.map_toArray, List.map_cons, List.map_nil]); first | done | rfl | (simp only [List.length_drop, List.length_take]; rfl)) ?_; (with_reducible refine (rights_Covers.calls a0 a1 t136 _ A34.out).mono ?_); rintro e w' ⟨rfl, ⟨nd, rfl⟩⟩; refine ⟨_, rfl, ?_⟩) | (go_at_call 15; (with_reducible refine (rights_Covers.calls a0 a1 t137 _ A36.out).mono ?_); rintro e w' ⟨rfl, ⟨nd, rfl⟩⟩) | (go_at_call 15; (with_reducible refine (rights_Covers.calls a2 a0 true _ A38.out).mono ?_); rintro e w' ⟨rfl, ⟨nd, rfl⟩⟩) | (go_at_call 15; (with_reducible refine (rights_Covers.calls a2 a1 true _ A40.out).mono ?_); rintro e w' ⟨rfl, ⟨nd, rfl⟩⟩) | (go_at_call 15; (with_reducible refine (rights_Covers.calls a2 t119 t140 _ A42.out).mono ?_); rintro e w' ⟨rfl, ⟨nd, rfl⟩⟩))
                              go_ret
                              exact ⟨by first | rfl | (simp [errW_none, errW_some] <;> rfl) | (simp [*, errW_none, errW_some] <;> rfl), by repeat (first | (with_reducible first | exact HB.out | apply below_alloc | apply pw_below_drewN | apply below_drew1) | exact HB.out)⟩
                          · replace c44 := Bool.eq_false_iff.mpr c44
                            subst c44
                            have H1 : (some false) = some r := by rw [if_neg (show ¬ (false = true) by decide)] at H; exact H
                            clear H
                            have H := H1
                            clear H1
                            obtain rfl := Option.some.inj H
                            go_wp2_with (first | ((with_reducible refine gate_callee (f := 15) rfl ?_); refine goesL_ (some 94) rfl rfl Tryd.func15 (by kernel_rfl) rfl #[.int .u8 a0, .int .u8 a1] rfl (by (try simp only [List.map_toArray, List.map_cons, List.map_nil]); first | done | rfl | (simp only [List.length_drop, List.length_take]; rfl)) ?_; (with_reducible refine (rights_Covers.calls a0 a1 t136 _ A34.out).mono ?_); rintro e w' ⟨rfl, ⟨nd, rfl⟩⟩; refine ⟨_, rfl, ?_⟩) | (go_at_call 15; (with_reducible refine (rights_Covers.calls a0 a1 t137 _ A36.out).mono ?_); rintro e w' ⟨rfl, ⟨nd, rfl⟩⟩) | (go_at_call 15; (with_reducible refine (rights_Covers.calls a2 a0 true _ A38.out).mono ?_); rintro e w' ⟨rfl, ⟨nd, rfl⟩⟩) | (go_at_call 15; (with_reducible refine (rights_Covers.calls a2 a1 true _ A40.out).mono ?_); rintro e w' ⟨rfl, ⟨nd, rfl⟩⟩) | (go_at_call 15; (with_reducible refine (rights_Covers.calls a2 t119 t140 _ A42.out).mono ?_); rintro e w' ⟨rfl, ⟨nd, rfl⟩⟩))
                            go_ret
                            exact ⟨by first | rfl | (simp [errW_none, errW_some] <;> rfl) | (simp [*, errW_none, errW_some] <;> rfl), by repeat (first | (with_reducible first | exact HB.out | apply below_alloc | apply pw_below_drewN | apply below_drew1) | exact HB.out)⟩
                        · replace c43 := Bool.eq_false_iff.mpr c43
                          subst c43
                          have H1 : (some false) = some r := by rw [if_neg (show ¬ (false = true) by decide)] at H; exact H
                          clear H
                          have H := H1
                          clear H1
                          obtain rfl := Option.some.inj H
                          go_wp2_with (first | ((with_reducible refine gate_callee (f := 15) rfl ?_); refine goesL_ (some 94) rfl rfl Tryd.func15 (by kernel_rfl) rfl #[.int .u8 a0, .int .u8 a1] rfl (by (try simp only [List.map_toArray, List.map_cons, List.map_nil]); first | done | rfl | (simp only [List.length_drop, List.length_take]; rfl)) ?_; (with_reducible refine (rights_Covers.calls a0 a1 t136 _ A34.out).mono ?_); rintro e w' ⟨rfl, ⟨nd, rfl⟩⟩; refine ⟨_, rfl, ?_⟩) | (go_at_call 15; (with_reducible refine (rights_Covers.calls a0 a1 t137 _ A36.out).mono ?_); rintro e w' ⟨rfl, ⟨nd, rfl⟩⟩) | (go_at_call 15; (with_reducible refine (rights_Covers.calls a2 a0 true _ A38.out).mono ?_); rintro e w' ⟨rfl, ⟨nd, rfl⟩⟩) | (go_at_call 15; (with_reducible refine (rights_Covers.calls a2 a1 true _ A40.out).mono ?_); rintro e w' ⟨rfl, ⟨nd, rfl⟩⟩) | (go_at_call 15; (with_reducible refine (rights_Covers.calls a2 t119 t140 _ A42.out).mono ?_); rintro e w' ⟨rfl, ⟨nd, rfl⟩⟩))
                          go_ret
                          exact ⟨by first | rfl | (simp [errW_none, errW_some] <;> rfl) | (simp [*, errW_none, errW_some] <;> rfl), by repeat (first | (with_reducible first | exact HB.out | apply below_alloc | apply pw_below_drewN | apply below_drew1) | exact HB.out)⟩
                      · replace c41 := Bool.eq_false_iff.mpr c41
                        subst c41
                        have H1 : (if x9_7 = true then (if x10_16 = true then (if x11_24 = true then (some true) else (some false)) else (some false)) else (some false)) = some r := by rw [if_neg (show ¬ (false = true) by decide)] at H; exact H
                        clear H
                        have H := H1
                        clear H1
                        by_cases c46 : x9_7 = true
                        · subst c46
                          have H1 : (if x10_16 = true then (if x11_24 = true then (some true) else (some false)) else (some false)) = some r := by rw [if_pos rfl] at H; exact H
                          clear H
                          have H := H1
                          clear H1
                          by_cases c47 : x10_16 = true
                          · subst c47
                            have H1 : (if x11_24 = true then (some true) else (some false)) = some r := by rw [if_pos rfl] at H; exact H
                            clear H
                            have H := H1
                            clear H1
                            by_cases c48 : x11_24 = true
                            · subst c48
                              have H1 : (some true) = some r := by rw [if_pos rfl] at H; exact H
                              clear H
                              have H := H1
                              clear H1
                              obtain rfl := Option.some.inj H
                              go_wp2_with (first | ((with_reducible refine gate_callee (f := 15) rfl ?_); refine goesL_ (some 94) rfl rfl Tryd.func15 (by kernel_rfl) rfl #[.int .u8 a0, .int .u8 a1] rfl (by (try simp only [List.map_toArray, List.map_cons, List.map_nil]); first | done | rfl | (simp only [List.length_drop, List.length_take]; rfl)) ?_; (with_reducible refine (rights_Covers.calls a0 a1 t136 _ A34.out).mono ?_); rintro e w' ⟨rfl, ⟨nd, rfl⟩⟩; refine ⟨_, rfl, ?_⟩) | (go_at_call 15; (with_reducible refine (rights_Covers.calls a0 a1 t137 _ A36.out).mono ?_); rintro e w' ⟨rfl, ⟨nd, rfl⟩⟩) | (go_at_call 15; (with_reducible refine (rights_Covers.calls a2 a0 true _ A38.out).mono ?_); rintro e w' ⟨rfl, ⟨nd, rfl⟩⟩) | (go_at_call 15; (with_reducible refine (rights_Covers.calls a2 a1 false _ A40.out).mono ?_); rintro e w' ⟨rfl, ⟨nd, rfl⟩⟩))
                              go_ret
                              exact ⟨by first | rfl | (simp [errW_none, errW_some] <;> rfl) | (simp [*, errW_none, errW_some] <;> rfl), by repeat (first | (with_reducible first | exact HB.out | apply below_alloc | apply pw_below_drewN | apply below_drew1) | exact HB.out)⟩
                            · replace c48 := Bool.eq_false_iff.mpr c48
                              subst c48
                              have H1 : (some false) = some r := by rw [if_neg (show ¬ (false = true) by decide)] at H; exact H
                              clear H
                              have H := H1
                              clear H1
                              obtain rfl := Option.some.inj H
                              go_wp2_with (first | ((with_reducible refine gate_callee (f := 15) rfl ?_); refine goesL_ (some 94) rfl rfl Tryd.func15 (by kernel_rfl) rfl #[.int .u8 a0, .int .u8 a1] rfl (by (try simp only [List.map_toArray, List.map_cons, List.map_nil]); first | done | rfl | (simp only [List.length_drop, List.length_take]; rfl)) ?_; (with_reducible refine (rights_Covers.calls a0 a1 t136 _ A34.out).mono ?_); rintro e w' ⟨rfl, ⟨nd, rfl⟩⟩; refine ⟨_, rfl, ?_⟩) | (go_at_call 15; (with_reducible refine (rights_Covers.calls a0 a1 t137 _ A36.out).mono ?_); rintro e w' ⟨rfl, ⟨nd, rfl⟩⟩) | (go_at_call 15; (with_reducible refine (rights_Covers.calls a2 a0 true _ A38.out).mono ?_); rintro e w' ⟨rfl, ⟨nd, rfl⟩⟩) | (go_at_call 15; (with_reducible refine (rights_Covers.calls a2 a1 false _ A40.out).mono ?_); rintro e w' ⟨rfl, ⟨nd, rfl⟩⟩))
                              go_ret
                              exact ⟨by first | rfl | (simp [errW_none, errW_some] <;> rfl) | (simp [*, errW_none, errW_some] <;> rfl), by repeat (first | (with_reducible first | exact HB.out | apply below_alloc | apply pw_below_drewN | apply below_drew1) | exact HB.out)⟩
                          · replace c47 := Bool.eq_false_iff.mpr c47
                            subst c47
                            have H1 : (some false) = some r := by rw [if_neg (show ¬ (false = true) by decide)] at H; exact H
                            clear H
                            have H := H1
                            clear H1
                            obtain rfl := Option.some.inj H
                            go_wp2_with (first | ((with_reducible refine gate_callee (f := 15) rfl ?_); refine goesL_ (some 94) rfl rfl Tryd.func15 (by kernel_rfl) rfl #[.int .u8 a0, .int .u8 a1] rfl (by (try simp only [List.map_toArray, List.map_cons, List.map_nil]); first | done | rfl | (simp only [List.length_drop, List.length_take]; rfl)) ?_; (with_reducible refine (rights_Covers.calls a0 a1 t136 _ A34.out).mono ?_); rintro e w' ⟨rfl, ⟨nd, rfl⟩⟩; refine ⟨_, rfl, ?_⟩) | (go_at_call 15; (with_reducible refine (rights_Covers.calls a0 a1 t137 _ A36.out).mono ?_); rintro e w' ⟨rfl, ⟨nd, rfl⟩⟩) | (go_at_call 15; (with_reducible refine (rights_Covers.calls a2 a0 true _ A38.out).mono ?_); rintro e w' ⟨rfl, ⟨nd, rfl⟩⟩) | (go_at_call 15; (with_reducible refine (rights_Covers.calls a2 a1 false _ A40.out).mono ?_); rintro e w' ⟨rfl, ⟨nd, rfl⟩⟩))
                            go_ret
                            exact ⟨by first | rfl | (simp [errW_none, errW_some] <;> rfl) | (simp [*, errW_none, errW_some] <;> rfl), by repeat (first | (with_reducible first | exact HB.out | apply below_alloc | apply pw_below_drewN | apply below_drew1) | exact HB.out)⟩
                        · replace c46 := Bool.eq_false_iff.mpr c46
                          subst c46
                          have H1 : (some false) = some r := by rw [if_neg (show ¬ (false = true) by decide)] at H; exact H
                          clear H
                          have H := H1
                          clear H1
                          obtain rfl := Option.some.inj H
                          go_wp2_with (first | ((with_reducible refine gate_callee (f := 15) rfl ?_); refine goesL_ (some 94) rfl rfl Tryd.func15 (by kernel_rfl) rfl #[.int .u8 a0, .int .u8 a1] rfl (by (try simp only [List.map_toArray, List.map_cons, List.map_nil]); first | done | rfl | (simp only [List.length_drop, List.length_take]; rfl)) ?_; (with_reducible refine (rights_Covers.calls a0 a1 t136 _ A34.out).mono ?_); rintro e w' ⟨rfl, ⟨nd, rfl⟩⟩; refine ⟨_, rfl, ?_⟩) | (go_at_call 15; (with_reducible refine (rights_Covers.calls a0 a1 t137 _ A36.out).mono ?_); rintro e w' ⟨rfl, ⟨nd, rfl⟩⟩) | (go_at_call 15; (with_reducible refine (rights_Covers.calls a2 a0 true _ A38.out).mono ?_); rintro e w' ⟨rfl, ⟨nd, rfl⟩⟩) | (go_at_call 15; (with_reducible refine (rights_Covers.calls a2 a1 false _ A40.out).mono ?_); rintro e w' ⟨rfl, ⟨nd, rfl⟩⟩))
                          go_ret
                          exact ⟨by first | rfl | (simp [errW_none, errW_some] <;> rfl) | (simp [*, errW_none, errW_some] <;> rfl), by repeat (first | (with_reducible first | exact HB.out | apply below_alloc | apply pw_below_drewN | apply below_drew1) | exact HB.out)⟩
                    · replace c39 := Bool.eq_false_iff.mpr c39
                      subst c39
                      have H1 : (if x9_7 = true then (if x10_16 = true then (if x11_24 = true then (some true) else (some false)) else (some false)) else (some false)) = some r := by rw [if_neg (show ¬ (false = true) by decide)] at H; exact H
                      clear H
                      have H := H1
                      clear H1
                      by_cases c49 : x9_7 = true
                      · subst c49
                        have H1 : (if x10_16 = true then (if x11_24 = true then (some true) else (some false)) else (some false)) = some r := by rw [if_pos rfl] at H; exact H
                        clear H
                        have H := H1
                        clear H1
                        by_cases c50 : x10_16 = true
                        · subst c50
                          have H1 : (if x11_24 = true then (some true) else (some false)) = some r := by rw [if_pos rfl] at H; exact H
                          clear H
                          have H := H1
                          clear H1
                          by_cases c51 : x11_24 = true
                          · subst c51
                            have H1 : (some true) = some r := by rw [if_pos rfl] at H; exact H
                            clear H
                            have H := H1
                            clear H1
                            obtain rfl := Option.some.inj H
                            go_wp2_with (first | ((with_reducible refine gate_callee (f := 15) rfl ?_); refine goesL_ (some 94) rfl rfl Tryd.func15 (by kernel_rfl) rfl #[.int .u8 a0, .int .u8 a1] rfl (by (try simp only [List.map_toArray, List.map_cons, List.map_nil]); first | done | rfl | (simp only [List.length_drop, List.length_take]; rfl)) ?_; (with_reducible refine (rights_Covers.calls a0 a1 t136 _ A34.out).mono ?_); rintro e w' ⟨rfl, ⟨nd, rfl⟩⟩; refine ⟨_, rfl, ?_⟩) | (go_at_call 15; (with_reducible refine (rights_Covers.calls a0 a1 t137 _ A36.out).mono ?_); rintro e w' ⟨rfl, ⟨nd, rfl⟩⟩) | (go_at_call 15; (with_reducible refine (rights_Covers.calls a2 a0 false _ A38.out).mono ?_); rintro e w' ⟨rfl, ⟨nd, rfl⟩⟩))
                            go_ret
                            exact ⟨by first | rfl | (simp [errW_none, errW_some] <;> rfl) | (simp [*, errW_none, errW_some] <;> rfl), by repeat (first | (with_reducible first | exact HB.out | apply below_alloc | apply pw_below_drewN | apply below_drew1) | exact HB.out)⟩
                          · replace c51 := Bool.eq_false_iff.mpr c51
                            subst c51
                            have H1 : (some false) = some r := by rw [if_neg (show ¬ (false = true) by decide)] at H; exact H
                            clear H
                            have H := H1
                            clear H1
                            obtain rfl := Option.some.inj H
                            go_wp2_with (first | ((with_reducible refine gate_callee (f := 15) rfl ?_); refine goesL_ (some 94) rfl rfl Tryd.func15 (by kernel_rfl) rfl #[.int .u8 a0, .int .u8 a1] rfl (by (try simp only [List.map_toArray, List.map_cons, List.map_nil]); first | done | rfl | (simp only [List.length_drop, List.length_take]; rfl)) ?_; (with_reducible refine (rights_Covers.calls a0 a1 t136 _ A34.out).mono ?_); rintro e w' ⟨rfl, ⟨nd, rfl⟩⟩; refine ⟨_, rfl, ?_⟩) | (go_at_call 15; (with_reducible refine (rights_Covers.calls a0 a1 t137 _ A36.out).mono ?_); rintro e w' ⟨rfl, ⟨nd, rfl⟩⟩) | (go_at_call 15; (with_reducible refine (rights_Covers.calls a2 a0 false _ A38.out).mono ?_); rintro e w' ⟨rfl, ⟨nd, rfl⟩⟩))
                            go_ret
                            exact ⟨by first | rfl | (simp [errW_none, errW_some] <;> rfl) | (simp [*, errW_none, errW_some] <;> rfl), by repeat (first | (with_reducible first | exact HB.out | apply below_alloc | apply pw_below_drewN | apply below_drew1) | exact HB.out)⟩
                        · replace c50 := Bool.eq_false_iff.mpr c50
                          subst c50
                          have H1 : (some false) = some r := by rw [if_neg (show ¬ (false = true) by decide)] at H; exact H
                          clear H
                          have H := H1
                          clear H1
                          obtain rfl := Option.some.inj H
                          go_wp2_with (first | ((with_reducible refine gate_callee (f := 15) rfl ?_); refine goesL_ (some 94) rfl rfl Tryd.func15 (by kernel_rfl) rfl #[.int .u8 a0, .int .u8 a1] rfl (by (try simp only [List.map_toArray, List.map_cons, List.map_nil]); first | done | rfl | (simp only [List.length_drop, List.length_take]; rfl)) ?_; (with_reducible refine (rights_Covers.calls a0 a1 t136 _ A34.out).mono ?_); rintro e w' ⟨rfl, ⟨nd, rfl⟩⟩; refine ⟨_, rfl, ?_⟩) | (go_at_call 15; (with_reducible refine (rights_Covers.calls a0 a1 t137 _ A36.out).mono ?_); rintro e w' ⟨rfl, ⟨nd, rfl⟩⟩) | (go_at_call 15; (with_reducible refine (rights_Covers.calls a2 a0 false _ A38.out).mono ?_); rintro e w' ⟨rfl, ⟨nd, rfl⟩⟩))
                          go_ret
                          exact ⟨by first | rfl | (simp [errW_none, errW_some] <;> rfl) | (simp [*, errW_none, errW_some] <;> rfl), by repeat (first | (with_reducible first | exact HB.out | apply below_alloc | apply pw_below_drewN | apply below_drew1) | exact HB.out)⟩
                      · replace c49 := Bool.eq_false_iff.mpr c49
                        subst c49
                        have H1 : (some false) = some r := by rw [if_neg (show ¬ (false = true) by decide)] at H; exact H
                        clear H
                        have H := H1
                        clear H1
                        obtain rfl := Option.some.inj H
                        go_wp2_with (first | ((with_reducible refine gate_callee (f := 15) rfl ?_); refine goesL_ (some 94) rfl rfl Tryd.func15 (by kernel_rfl) rfl #[.int .u8 a0, .int .u8 a1] rfl (by (try simp only [List.map_toArray, List.map_cons, List.map_nil]); first | done | rfl | (simp only [List.length_drop, List.length_take]; rfl)) ?_; (with_reducible refine (rights_Covers.calls a0 a1 t136 _ A34.out).mono ?_); rintro e w' ⟨rfl, ⟨nd, rfl⟩⟩; refine ⟨_, rfl, ?_⟩) | (go_at_call 15; (with_reducible refine (rights_Covers.calls a0 a1 t137 _ A36.out).mono ?_); rintro e w' ⟨rfl, ⟨nd, rfl⟩⟩) | (go_at_call 15; (with_reducible refine (rights_Covers.calls a2 a0 false _ A38.out).mono ?_); rintro e w' ⟨rfl, ⟨nd, rfl⟩⟩))
                        go_ret
                        exact ⟨by first | rfl | (simp [errW_none, errW_some] <;> rfl) | (simp [*, errW_none, errW_some] <;> rfl), by repeat (first | (with_reducible first | exact HB.out | apply below_alloc | apply pw_below_drewN | apply below_drew1) | exact HB.out)⟩
                  · rw [if_neg c37] at H
                    have c37b0 : (t137 == (t119 == a0)) = false := by simpa using c37
                    (try (have c37b1 : decide (t137 = (t119 == a0)) = false := by simpa using c37))
                    (try (have c37b2 : (t137 == (t119 == a0)) = false := by simpa using c37))
                    (try (have c37b3 : ¬ (t137 = (t119 == a0)) := by simpa using c37))
                    clear c37
                    by_cases c52 : x9_7 = true
                    · subst c52
                      have H1 : (if x10_16 = true then (if x11_24 = true then (some false) else (some false)) else (some false)) = some r := by rw [if_pos rfl] at H; exact H
                      clear H
                      have H := H1
                      clear H1
                      by_cases c53 : x10_16 = true
                      · subst c53
                        have H1 : (if x11_24 = true then (some false) else (some false)) = some r := by rw [if_pos rfl] at H; exact H
                        clear H
                        have H := H1
                        clear H1
                        by_cases c54 : x11_24 = true
                        · subst c54
                          have H1 : (some false) = some r := by rw [if_pos rfl] at H; exact H
                          clear H
                          have H := H1
                          clear H1
                          obtain rfl := Option.some.inj H
                          go_wp2_with (first | ((with_reducible refine gate_callee (f := 15) rfl ?_); refine goesL_ (some 94) rfl rfl Tryd.func15 (by kernel_rfl) rfl #[.int .u8 a0, .int .u8 a1] rfl (by (try simp only [List.map_toArray, List.map_cons, List.map_nil]); first | done | rfl | (simp only [List.length_drop, List.length_take]; rfl)) ?_; (with_reducible refine (rights_Covers.calls a0 a1 t136 _ A34.out).mono ?_); rintro e w' ⟨rfl, ⟨nd, rfl⟩⟩; refine ⟨_, rfl, ?_⟩) | (go_at_call 15; (with_reducible refine (rights_Covers.calls a0 a1 t137 _ A36.out).mono ?_); rintro e w' ⟨rfl, ⟨nd, rfl⟩⟩))
                          go_ret
                          exact ⟨by first | rfl | (simp [errW_none, errW_some] <;> rfl) | (simp [*, errW_none, errW_some] <;> rfl), by repeat (first | (with_reducible first | exact HB.out | apply below_alloc | apply pw_below_drewN | apply below_drew1) | exact HB.out)⟩
                        · replace c54 := Bool.eq_false_iff.mpr c54
                          subst c54
                          have H1 : (some false) = some r := by rw [if_neg (show ¬ (false = true) by decide)] at H; exact H
                          clear H
                          have H := H1
                          clear H1
                          obtain rfl := Option.some.inj H
                          go_wp2_with (first | ((with_reducible refine gate_callee (f := 15) rfl ?_); refine goesL_ (some 94) rfl rfl Tryd.func15 (by kernel_rfl) rfl #[.int .u8 a0, .int .u8 a1] rfl (by (try simp only [List.map_toArray, List.map_cons, List.map_nil]); first | done | rfl | (simp only [List.length_drop, List.length_take]; rfl)) ?_; (with_reducible refine (rights_Covers.calls a0 a1 t136 _ A34.out).mono ?_); rintro e w' ⟨rfl, ⟨nd, rfl⟩⟩; refine ⟨_, rfl, ?_⟩) | (go_at_call 15; (with_reducible refine (rights_Covers.calls a0 a1 t137 _ A36.out).mono ?_); rintro e w' ⟨rfl, ⟨nd, rfl⟩⟩))
                          go_ret
                          exact ⟨by first | rfl | (simp [errW_none, errW_some] <;> rfl) | (simp [*, errW_none, errW_some] <;> rfl), by repeat (first | (with_reducible first | exact HB.out | apply below_alloc | apply pw_below_drewN | apply below_drew1) | exact HB.out)⟩
                      · replace c53 := Bool.eq_false_iff.mpr c53
                        subst c53
                        have H1 : (some false) = some r := by rw [if_neg (show ¬ (false = true) by decide)] at H; exact H
                        clear H
                        have H := H1
                        clear H1
                        obtain rfl := Option.some.inj H
                        go_wp2_with (first | ((with_reducible refine gate_callee (f := 15) rfl ?_); refine goesL_ (some 94) rfl rfl Tryd.func15 (by kernel_rfl) rfl #[.int .u8 a0, .int .u8 a1] rfl (by (try simp only [List.map_toArray, List.map_cons, List.map_nil]); first | done | rfl | (simp only [List.length_drop, List.length_take]; rfl)) ?_; (with_reducible refine (rights_Covers.calls a0 a1 t136 _ A34.out).mono ?_); rintro e w' ⟨rfl, ⟨nd, rfl⟩⟩; refine ⟨_, rfl, ?_⟩) | (go_at_call 15; (with_reducible refine (rights_Covers.calls a0 a1 t137 _ A36.out).mono ?_); rintro e w' ⟨rfl, ⟨nd, rfl⟩⟩))
                        go_ret
                        exact ⟨by first | rfl | (simp [errW_none, errW_some] <;> rfl) | (simp [*, errW_none, errW_some] <;> rfl), by repeat (first | (with_reducible first | exact HB.out | apply below_alloc | apply pw_below_drewN | apply below_drew1) | exact HB.out)⟩
                    · replace c52 := Bool.eq_false_iff.mpr c52
                      subst c52
                      have H1 : (some false) = some r := by rw [if_neg (show ¬ (false = true) by decide)] at H; exact H
                      clear H
                      have H := H1
                      clear H1
                      obtain rfl := Option.some.inj H
                      go_wp2_with (first | ((with_reducible refine gate_callee (f := 15) rfl ?_); refine goesL_ (some 94) rfl rfl Tryd.func15 (by kernel_rfl) rfl #[.int .u8 a0, .int .u8 a1] rfl (by (try simp only [List.map_toArray, List.map_cons, List.map_nil]); first | done | rfl | (simp only [List.length_drop, List.length_take]; rfl)) ?_; (with_reducible refine (rights_Covers.calls a0 a1 t136 _ A34.out).mono ?_); rintro e w' ⟨rfl, ⟨nd, rfl⟩⟩; refine ⟨_, rfl, ?_⟩) | (go_at_call 15; (with_reducible refine (rights_Covers.calls a0 a1 t137 _ A36.out).mono ?_); rintro e w' ⟨rfl, ⟨nd, rfl⟩⟩))
                      go_ret
                      exact ⟨by first | rfl | (simp [errW_none, errW_some] <;> rfl) | (simp [*, errW_none, errW_some] <;> rfl), by repeat (first | (with_reducible first | exact HB.out | apply below_alloc | apply pw_below_drewN | apply below_drew1) | exact HB.out)⟩
                · rw [if_neg c35] at H
                  have c35b0 : (t136 == (t118 == a1)) = false := by simpa using c35
                  (try (have c35b1 : decide (t136 = (t118 == a1)) = false := by simpa using c35))
                  (try (have c35b2 : (t136 == (t118 == a1)) = false := by simpa using c35))
                  (try (have c35b3 : ¬ (t136 = (t118 == a1)) := by simpa using c35))
                  clear c35
                  by_cases c55 : x9_7 = true
                  · subst c55
                    have H1 : (if x10_16 = true then (if x11_24 = true then (some false) else (some false)) else (some false)) = some r := by rw [if_pos rfl] at H; exact H
                    clear H
                    have H := H1
                    clear H1
                    by_cases c56 : x10_16 = true
                    · subst c56
                      have H1 : (if x11_24 = true then (some false) else (some false)) = some r := by rw [if_pos rfl] at H; exact H
                      clear H
                      have H := H1
                      clear H1
                      by_cases c57 : x11_24 = true
                      · subst c57
                        have H1 : (some false) = some r := by rw [if_pos rfl] at H; exact H
                        clear H
                        have H := H1
                        clear H1
                        obtain rfl := Option.some.inj H
                        go_wp2_with (first | ((with_reducible refine gate_callee (f := 15) rfl ?_); refine goesL_ (some 94) rfl rfl Tryd.func15 (by kernel_rfl) rfl #[.int .u8 a0, .int .u8 a1] rfl (by (try simp only [List.map_toArray, List.map_cons, List.map_nil]); first | done | rfl | (simp only [List.length_drop, List.length_take]; rfl)) ?_; (with_reducible refine (rights_Covers.calls a0 a1 t136 _ A34.out).mono ?_); rintro e w' ⟨rfl, ⟨nd, rfl⟩⟩; refine ⟨_, rfl, ?_⟩))
                        go_ret
                        exact ⟨by first | rfl | (simp [errW_none, errW_some] <;> rfl) | (simp [*, errW_none, errW_some] <;> rfl), by repeat (first | (with_reducible first | exact HB.out | apply below_alloc | apply pw_below_drewN | apply below_drew1) | exact HB.out)⟩
                      · replace c57 := Bool.eq_false_iff.mpr c57
                        subst c57
                        have H1 : (some false) = some r := by rw [if_neg (show ¬ (false = true) by decide)] at H; exact H
                        clear H
                        have H := H1
                        clear H1
                        obtain rfl := Option.some.inj H
                        go_wp2_with (first | ((with_reducible refine gate_callee (f := 15) rfl ?_); refine goesL_ (some 94) rfl rfl Tryd.func15 (by kernel_rfl) rfl #[.int .u8 a0, .int .u8 a1] rfl (by (try simp only [List.map_toArray, List.map_cons, List.map_nil]); first | done | rfl | (simp only [List.length_drop, List.length_take]; rfl)) ?_; (with_reducible refine (rights_Covers.calls a0 a1 t136 _ A34.out).mono ?_); rintro e w' ⟨rfl, ⟨nd, rfl⟩⟩; refine ⟨_, rfl, ?_⟩))
                        go_ret
                        exact ⟨by first | rfl | (simp [errW_none, errW_some] <;> rfl) | (simp [*, errW_none, errW_some] <;> rfl), by repeat (first | (with_reducible first | exact HB.out | apply below_alloc | apply pw_below_drewN | apply below_drew1) | exact HB.out)⟩
                    · replace c56 := Bool.eq_false_iff.mpr c56
                      subst c56
                      have H1 : (some false) = some r := by rw [if_neg (show ¬ (false = true) by decide)] at H; exact H
                      clear H
                      have H := H1
                      clear H1
                      obtain rfl := Option.some.inj H
                      go_wp2_with (first | ((with_reducible refine gate_callee (f := 15) rfl ?_); refine goesL_ (some 94) rfl rfl Tryd.func15 (by kernel_rfl) rfl #[.int .u8 a0, .int .u8 a1] rfl (by (try simp only [List.map_toArray, List.map_cons, List.map_nil]); first | done | rfl | (simp only [List.length_drop, List.length_take]; rfl)) ?_; (with_reducible refine (rights_Covers.calls a0 a1 t136 _ A34.out).mono ?_); rintro e w' ⟨rfl, ⟨nd, rfl⟩⟩; refine ⟨_, rfl, ?_⟩))
                      go_ret
                      exact ⟨by first | rfl | (simp [errW_none, errW_some] <;> rfl) | (simp [*, errW_none, errW_some] <;> rfl), by repeat (first | (with_reducible first | exact HB.out | apply below_alloc | apply pw_below_drewN | apply below_drew1) | exact HB.out)⟩
                  · replace c55 := Bool.eq_false_iff.mpr c55
                    subst c55
                    have H1 : (some false) = some r := by rw [if_neg (show ¬ (false = true) by decide)] at H; exact H
                    clear H
                    have H := H1
                    clear H1
                    obtain rfl := Option.some.inj H
                    go_wp2_with (first | ((with_reducible refine gate_callee (f := 15) rfl ?_); refine goesL_ (some 94) rfl rfl Tryd.func15 (by kernel_rfl) rfl #[.int .u8 a0, .int .u8 a1] rfl (by (try simp only [List.map_toArray, List.map_cons, List.map_nil]); first | done | rfl | (simp only [List.length_drop, List.length_take]; rfl)) ?_; (with_reducible refine (rights_Covers.calls a0 a1 t136 _ A34.out).mono ?_); rintro e w' ⟨rfl, ⟨nd, rfl⟩⟩; refine ⟨_, rfl, ?_⟩))
                    go_ret
                    exact ⟨by first | rfl | (simp [errW_none, errW_some] <;> rfl) | (simp [*, errW_none, errW_some] <;> rfl), by repeat (first | (with_reducible first | exact HB.out | apply below_alloc | apply pw_below_drewN | apply below_drew1) | exact HB.out)⟩
  · replace c5 := Bool.eq_false_iff.mpr c5
    subst c5
    have H1 : (some false) = some r := by rw [if_neg (show ¬ (false = true) by decide)] at H; exact H
    clear H
    have H := H1
    clear H1
    obtain rfl := Option.some.inj H
    go_enter Tryd.func5, Tryd.ntmps5
    go_wp2_with (first | ((with_reducible refine gate_callee (f := 8) rfl ?_); refine goesL_ (some 13) rfl rfl Tryd.func8 (by kernel_rfl) rfl #[] rfl (by (try simp only [List.map_toArray, List.map_cons, List.map_nil]); first | done | rfl | (simp only [List.length_drop, List.length_take]; rfl)) ?_; (with_reducible refine (cofferlaw13_begun.calls k  false _ A4.out (by first | exact hT | exact Tabs.below hT (by repeat (first | (with_reducible first | exact HB.out | exact Below.refl _ _ | apply below_alloc | apply pw_below_drewN | apply below_drew1) | exact HB.out)) | exact Tabs.drawn hT (by repeat (first | exact Drawn0.refl _ | apply Drawn0.step)))).mono ?_); rintro e w58 ⟨rfl, hb⟩; refine ⟨_, rfl, ?_⟩; have n0_ := Aside0.mk (below_step (by repeat (first | (with_reducible first | exact HB.out | apply below_alloc | apply pw_below_drewN | apply below_drew1) | exact HB.out)) hb); clear HB; have HB := n0_; clear n0_; (try clear hb); (try clear hb2); (try clear hk); (try clear hi)))
    go_ret
    exact ⟨by first | rfl | (simp [errW_none, errW_some] <;> rfl) | (simp [*, errW_none, errW_some] <;> rfl), by repeat (first | (with_reducible first | exact HB.out | apply below_alloc | apply pw_below_drewN | apply below_drew1) | exact HB.out)⟩

/-! ### rights_Rules: function 23 -/
def rights_Rules.f (a0 : Int) : Option (Bool) := if a0 ≥ 10 then (some (decide (a0 ≤ 17))) else (some false)
set_option maxHeartbeats 8000000 in
set_option maxRecDepth 100000 in
theorem rights_Rules.calls (a0 : Int) (r : Bool) (w : World) (h : rights_Rules.f a0 = some r) :
    Calls Tryd.prog 23 #[.int .i64 a0] w fun e w' => e = .returned (.bool r) ∧ Drawn0 w w' := by
  have H : (if a0 ≥ 10 then (some (decide (a0 ≤ 17))) else (some false)) = some r := h
  clear h
  by_cases c2 : a0 ≥ 10
  · rw [if_pos c2] at H
    have c2b0 : decide (10 ≤ a0) = true := decide_eq_true c2
    clear c2
    obtain rfl := Option.some.inj H
    go_enter Tryd.func23, Tryd.ntmps23
    go_wp2
    go_ret
    exact ⟨by first | rfl | (simp; done) | (simp [*]; done), by repeat (first | exact Drawn0.refl _ | apply Drawn0.step)⟩
  · rw [if_neg c2] at H
    have c2b0 : decide (10 ≤ a0) = false := decide_eq_false c2
    clear c2
    obtain rfl := Option.some.inj H
    go_enter Tryd.func23, Tryd.ntmps23
    go_wp2
    go_ret
    exact ⟨by first | rfl | (simp; done) | (simp [*]; done), by repeat (first | exact Drawn0.refl _ | apply Drawn0.step)⟩

end Go.Proofs.YtcgpnnbmflacnaaDoor.S
