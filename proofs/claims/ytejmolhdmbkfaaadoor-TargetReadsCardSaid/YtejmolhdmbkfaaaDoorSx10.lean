-- Written by wip/hook.py: the functions of this seat as plain Lean functions, and their walks.
import Derived.Test.YtejmolhdmbkfaaaDoorBeg21
import Derived.Test.YtejmolhdmbkfaaaDoorSx0
import Derived.Test.YtejmolhdmbkfaaaDoorSx4
import Derived.Test.YtejmolhdmbkfaaaDoorSx8
import Derived.Test.YtejmolhdmbkfaaaDoorSx9
namespace Go.Proofs.YtejmolhdmbkfaaaDoor.S
open Go.RowKit Go.Proofs.YtejmolhdmbkfaaaDoorW.PrintWords Go.Proofs.YtejmolhdmbkfaaaDoorW.PrintLast Go.Proofs.YtejmolhdmbkfaaaDoorW.PrintMore
attribute [local go_sem] max2_int min2_int max_two min_two max_three min_three max_four min_four   -- for this text's walks alone
set_option linter.unusedVariables false
set_option linter.unusedSimpArgs false

/-! ### cofferlaw21_TargetReads: function 3 -/
mutual
def cofferlaw21_TargetReads.l0 : Nat → ByteArray → Int → Option (Bool)
  | 0, _, _ => none
  | k + 1, x0, x3 => if x3 < 2 then ((target_Parse.f k x0).bind fun bt210 => ((cofferref21_Parse.f k x0).bind fun bt218 => (if bt210.2.2 = bt218.2.2 then ((cofferref21_Same.f k bt210.1 bt210.2.1 bt218.1 bt218.2.1).bind fun t226 => (cofferlaw21_TargetReads.j1 k x0 x3 (!t226) bt210.1 bt210.2.1)) else (cofferlaw21_TargetReads.j1 k x0 x3 true bt210.1 bt210.2.1)))) else (some true)
def cofferlaw21_TargetReads.j1 : Nat → ByteArray → Int → Bool → List ByteArray → List (S32) → Option (Bool)
  | 0, _, _, _, _, _ => none
  | k + 1, x0, x3, x37, x218000, x218001 => if x37 = true then (some false) else (cofferlaw21_TargetReads.l1 k x0 x3 0 x218000 x218001)
def cofferlaw21_TargetReads.l1 : Nat → ByteArray → Int → Int → List ByteArray → List (S32) → Option (Bool)
  | 0, _, _, _, _, _ => none
  | k + 1, x0, x3, x8, x218000, x218001 => if x8 < (x218000.length : Int) then (if 0 ≤ x8 then (cofferlaw21_TargetReads.l1 k x0 x3 (wrap64 (x8 + 1)) (x218000.set (x8 : Int).toNat (⟨#[63]⟩ : ByteArray)) x218001) else (none)) else (cofferlaw21_TargetReads.l2 k x0 x3 0 x218000 x218001)
def cofferlaw21_TargetReads.l2 : Nat → ByteArray → Int → Int → List ByteArray → List (S32) → Option (Bool)
  | 0, _, _, _, _, _ => none
  | k + 1, x0, x3, x9, x218000, x218001 => if x9 < (x218001.length : Int) then (if 0 ≤ x9 then (cofferlaw21_TargetReads.l2 k x0 x3 (wrap64 (x9 + 1)) x218000 (x218001.set (x9 : Int).toNat (⟨(⟨#[]⟩ : ByteArray), (⟨#[]⟩ : ByteArray)⟩ : S32))) else (none)) else (cofferlaw21_TargetReads.l0 k x0 (wrap64 (x3 + 1)))
end
def cofferlaw21_TargetReads.f (k : Nat) (a0 : ByteArray) : Option (Bool) := (xBegun.f).bind fun t209 => (if t209 = true then (if (a0.size : Int) > 2048 then (some true) else (cofferlaw21_TargetReads.l0 k a0 0)) else (some false))
theorem cofferlaw21_TargetReads.mono_l : ∀ k, (∀ y0 y1, LeO (cofferlaw21_TargetReads.l0 k y0 y1) (cofferlaw21_TargetReads.l0 (k + 1) y0 y1)) ∧ (∀ y0 y1 y2 y3 y4, LeO (cofferlaw21_TargetReads.j1 k y0 y1 y2 y3 y4) (cofferlaw21_TargetReads.j1 (k + 1) y0 y1 y2 y3 y4)) ∧ (∀ y0 y1 y2 y3 y4, LeO (cofferlaw21_TargetReads.l1 k y0 y1 y2 y3 y4) (cofferlaw21_TargetReads.l1 (k + 1) y0 y1 y2 y3 y4)) ∧ (∀ y0 y1 y2 y3 y4, LeO (cofferlaw21_TargetReads.l2 k y0 y1 y2 y3 y4) (cofferlaw21_TargetReads.l2 (k + 1) y0 y1 y2 y3 y4))
  | 0 => ⟨fun _ _ r h => by simp [cofferlaw21_TargetReads.l0] at h, fun _ _ _ _ _ r h => by simp [cofferlaw21_TargetReads.j1] at h, fun _ _ _ _ _ r h => by simp [cofferlaw21_TargetReads.l1] at h, fun _ _ _ _ _ r h => by simp [cofferlaw21_TargetReads.l2] at h⟩
  | k + 1 => by
    obtain ⟨ih0, ih1, ih2, ih3⟩ := cofferlaw21_TargetReads.mono_l k
    refine ⟨?_, ?_, ?_, ?_⟩
    · intro y0 y1
      unfold cofferlaw21_TargetReads.l0
      repeat' first
      | (with_reducible exact ih0 _ _)
      | (with_reducible exact ih1 _ _ _ _ _)
      | (with_reducible exact ih2 _ _ _ _ _)
      | (with_reducible exact ih3 _ _ _ _ _)
      | (with_reducible exact cofferref21_Parse.mono _ _)
      | (with_reducible exact cofferref21_Same.mono _ _ _ _ _)
      | (with_reducible exact target_Parse.mono _ _)
      | (with_reducible exact LeO.refl _)
      | (with_reducible exact LeO.none _)
      | (with_reducible refine LeO.ite ?_ ?_)
      | (with_reducible refine LeO.bind ?_ (fun _ => ?_))
      | exact ih0 _ _
      | exact ih1 _ _ _ _ _
      | exact ih2 _ _ _ _ _
      | exact ih3 _ _ _ _ _
      | exact cofferref21_Parse.mono _ _
      | exact cofferref21_Same.mono _ _ _ _ _
      | exact target_Parse.mono _ _
      | exact LeO.none _
      | refine LeO.ite ?_ ?_
      | refine LeO.bind ?_ (fun _ => ?_)
    · intro y0 y1 y2 y3 y4
      unfold cofferlaw21_TargetReads.j1
      repeat' first
      | (with_reducible exact ih0 _ _)
      | (with_reducible exact ih1 _ _ _ _ _)
      | (with_reducible exact ih2 _ _ _ _ _)
      | (with_reducible exact ih3 _ _ _ _ _)
      | (with_reducible exact cofferref21_Parse.mono _ _)
      | (with_reducible exact cofferref21_Same.mono _ _ _ _ _)
      | (with_reducible exact target_Parse.mono _ _)
      | (with_reducible exact LeO.refl _)
      | (with_reducible exact LeO.none _)
      | (with_reducible refine LeO.ite ?_ ?_)
      | (with_reducible refine LeO.bind ?_ (fun _ => ?_))
      | exact ih0 _ _
      | exact ih1 _ _ _ _ _
      | exact ih2 _ _ _ _ _
      | exact ih3 _ _ _ _ _
      | exact cofferref21_Parse.mono _ _
      | exact cofferref21_Same.mono _ _ _ _ _
      | exact target_Parse.mono _ _
      | exact LeO.none _
      | refine LeO.ite ?_ ?_
      | refine LeO.bind ?_ (fun _ => ?_)
    · intro y0 y1 y2 y3 y4
      unfold cofferlaw21_TargetReads.l1
      repeat' first
      | (with_reducible exact ih0 _ _)
      | (with_reducible exact ih1 _ _ _ _ _)
      | (with_reducible exact ih2 _ _ _ _ _)
      | (with_reducible exact ih3 _ _ _ _ _)
      | (with_reducible exact cofferref21_Parse.mono _ _)
      | (with_reducible exact cofferref21_Same.mono _ _ _ _ _)
      | (with_reducible exact target_Parse.mono _ _)
      | (with_reducible exact LeO.refl _)
      | (with_reducible exact LeO.none _)
      | (with_reducible refine LeO.ite ?_ ?_)
      | (with_reducible refine LeO.bind ?_ (fun _ => ?_))
      | exact ih0 _ _
      | exact ih1 _ _ _ _ _
      | exact ih2 _ _ _ _ _
      | exact ih3 _ _ _ _ _
      | exact cofferref21_Parse.mono _ _
      | exact cofferref21_Same.mono _ _ _ _ _
      | exact target_Parse.mono _ _
      | exact LeO.none _
      | refine LeO.ite ?_ ?_
      | refine LeO.bind ?_ (fun _ => ?_)
    · intro y0 y1 y2 y3 y4
      unfold cofferlaw21_TargetReads.l2
      repeat' first
      | (with_reducible exact ih0 _ _)
      | (with_reducible exact ih1 _ _ _ _ _)
      | (with_reducible exact ih2 _ _ _ _ _)
      | (with_reducible exact ih3 _ _ _ _ _)
      | (with_reducible exact cofferref21_Parse.mono _ _)
      | (with_reducible exact cofferref21_Same.mono _ _ _ _ _)
      | (with_reducible exact target_Parse.mono _ _)
      | (with_reducible exact LeO.refl _)
      | (with_reducible exact LeO.none _)
      | (with_reducible refine LeO.ite ?_ ?_)
      | (with_reducible refine LeO.bind ?_ (fun _ => ?_))
      | exact ih0 _ _
      | exact ih1 _ _ _ _ _
      | exact ih2 _ _ _ _ _
      | exact ih3 _ _ _ _ _
      | exact cofferref21_Parse.mono _ _
      | exact cofferref21_Same.mono _ _ _ _ _
      | exact target_Parse.mono _ _
      | exact LeO.none _
      | refine LeO.ite ?_ ?_
      | refine LeO.bind ?_ (fun _ => ?_)
theorem cofferlaw21_TargetReads.mono : ∀ a0 k, LeO (cofferlaw21_TargetReads.f k a0) (cofferlaw21_TargetReads.f (k + 1) a0) := by
  intro a0 k
  obtain ⟨ih0, ih1, ih2, ih3⟩ := cofferlaw21_TargetReads.mono_l k
  unfold cofferlaw21_TargetReads.f
  repeat' first
      | (with_reducible exact ih0 _ _)
      | (with_reducible exact ih1 _ _ _ _ _)
      | (with_reducible exact ih2 _ _ _ _ _)
      | (with_reducible exact ih3 _ _ _ _ _)
      | (with_reducible exact cofferref21_Parse.mono _ _)
      | (with_reducible exact cofferref21_Same.mono _ _ _ _ _)
      | (with_reducible exact target_Parse.mono _ _)
      | (with_reducible exact LeO.refl _)
      | (with_reducible exact LeO.none _)
      | (with_reducible refine LeO.ite ?_ ?_)
      | (with_reducible refine LeO.bind ?_ (fun _ => ?_))
      | exact ih0 _ _
      | exact ih1 _ _ _ _ _
      | exact ih2 _ _ _ _ _
      | exact ih3 _ _ _ _ _
      | exact cofferref21_Parse.mono _ _
      | exact cofferref21_Same.mono _ _ _ _ _
      | exact target_Parse.mono _ _
      | exact LeO.none _
      | refine LeO.ite ?_ ?_
      | refine LeO.bind ?_ (fun _ => ?_)
set_option maxHeartbeats 8000000 in
set_option maxRecDepth 100000 in
theorem cofferlaw21_TargetReads.calls (k : Nat) (a0 : ByteArray) (r : Bool) (w : World) (h : cofferlaw21_TargetReads.f k a0 = some r) :
    Calls Tryd.prog 3 #[.string a0] w fun e w' => e = .returned (.bool r) ∧ Below w.heap.size w w' := by
  have hu26 := Tryd.underlying26
  have hu32 := Tryd.underlying32
  have HB := Aside0.mk (Below.refl w.heap.size w)
  have H : ((xBegun.f).bind fun t209 => (if t209 = true then (if (a0.size : Int) > 2048 then (some true) else (cofferlaw21_TargetReads.l0 k a0 0)) else (some false))) = some r := h
  clear h
  replace H := Option.bind_eq_some_iff.mp H
  obtain ⟨t209, A20, H⟩ := H
  replace H : (if t209 = true then (if (a0.size : Int) > 2048 then (some true) else (cofferlaw21_TargetReads.l0 k a0 0)) else (some false)) = some r := H
  have A2 := Aside0.mk A20
  clear A20
  by_cases c3 : t209 = true
  · subst c3
    have H1 : (if (a0.size : Int) > 2048 then (some true) else (cofferlaw21_TargetReads.l0 k a0 0)) = some r := by rw [if_pos rfl] at H; exact H
    clear H
    have H := H1
    clear H1
    by_cases c4 : (a0.size : Int) > 2048
    · rw [if_pos c4] at H
      have c4b0 : decide (2048 < (a0.size : Int)) = true := decide_eq_true c4
      have c4b1 : decide (2048 < a0.size) = true := decide_eq_true (by omega)
      clear c4
      obtain rfl := Option.some.inj H
      go_enter Tryd.func3, Tryd.ntmps3
      go_wp2_with (first | ((with_reducible refine gate_callee (f := 8) rfl ?_); refine goesL_ (some 10) rfl rfl Tryd.func8 (by kernel_rfl) rfl #[] rfl (by qm_) ?_; (with_reducible refine (xBegun.calls  true _ A2.out).mono ?_); rintro e w5 ⟨rfl, hb⟩; refine ⟨_, rfl, ?_⟩; have n0_ := Aside0.mk (below_step (by qh_) hb); clear HB; have HB := n0_; clear n0_; (try clear hb); (try clear hb2); (try clear hk); (try clear hi)))
      go_ret
      exact ⟨by first | rfl | (simp [errW_none, errW_some] <;> rfl) | (simp [*, errW_none, errW_some] <;> rfl), by qh_⟩
    · rw [if_neg c4] at H
      have c4b0 : decide (2048 < (a0.size : Int)) = false := decide_eq_false c4
      have c4b1 : decide (2048 < a0.size) = false := decide_eq_false (by omega)
      clear c4
      have H' := Aside0.mk H
      clear H
      go_enter Tryd.func3, Tryd.ntmps3
      go_wp2_with (first | ((with_reducible refine gate_callee (f := 8) rfl ?_); refine goesL_ (some 10) rfl rfl Tryd.func8 (by kernel_rfl) rfl #[] rfl (by qm_) ?_; (with_reducible refine (xBegun.calls  true _ A2.out).mono ?_); rintro e w6 ⟨rfl, hb⟩; refine ⟨_, rfl, ?_⟩; have n0_ := Aside0.mk (below_step (by qh_) hb); clear HB; have HB := n0_; clear n0_; (try clear hb); (try clear hb2); (try clear hk); (try clear hi)))
      go_loopg [3] k (fun kq v3 w' => ∃ (x3_1 : Int), v3 = .int .i64 x3_1 ∧ Aside0 (cofferlaw21_TargetReads.l0 kq a0 x3_1 = some r) ∧ Aside0 (kq ≤ k) ∧ Aside0 (Below w.heap.size w w'))
      case atStart => exact ⟨(0), (by qr_), H', ⟨Nat.le_refl _⟩, ⟨by qh_⟩⟩
      case round =>
        clear H'
        try clear p2
        try clear c3
        try clear c4
        try clear c4b0
        try clear c4b1
        obtain ⟨x3_1, rfl, HA, HK1, HB⟩ := hrel
        cases gk with
        | zero => exact absurd HA.out (by simp [cofferlaw21_TargetReads.l0])
        | succ k1 =>
          have H := HA.out
          clear HA
          simp only [cofferlaw21_TargetReads.l0] at H
          by_cases c7 : x3_1 < 2
          · rw [if_pos c7] at H
            have c7b0 : decide (x3_1 < 2) = true := decide_eq_true c7
            clear c7
            replace H := Option.bind_eq_some_iff.mp H
            obtain ⟨⟨t210, t213, t216⟩, A80, H⟩ := H
            replace H : ((cofferref21_Parse.f k1 a0).bind fun bt218 => (if t216 = bt218.2.2 then ((cofferref21_Same.f k1 t210 t213 bt218.1 bt218.2.1).bind fun t226 => (cofferlaw21_TargetReads.j1 k1 a0 x3_1 (!t226) t210 t213)) else (cofferlaw21_TargetReads.j1 k1 a0 x3_1 true t210 t213))) = some r := H
            have A8 := Aside0.mk A80
            clear A80
            replace H := Option.bind_eq_some_iff.mp H
            obtain ⟨⟨t218, t221, t224⟩, A90, H⟩ := H
            replace H : (if t216 = t224 then ((cofferref21_Same.f k1 t210 t213 t218 t221).bind fun t226 => (cofferlaw21_TargetReads.j1 k1 a0 x3_1 (!t226) t210 t213)) else (cofferlaw21_TargetReads.j1 k1 a0 x3_1 true t210 t213)) = some r := H
            have A9 := Aside0.mk A90
            clear A90
            have HC10 := Aside0.mk H
            clear H
            go_upto_region 10 with (first | ((with_reducible refine gate_callee (f := 9) rfl ?_); refine goesL_ (some 21) rfl rfl Tryd.func9 (by kernel_rfl) rfl #[.string a0] rfl (by qm_) ?_; (with_reducible refine (target_Parse.calls k1 a0 t210 t213 t216 _ A8.out).mono ?_); rintro e w11 ⟨v211, v214, rfl, ho0, ho1, hb⟩; refine ⟨_, rfl, ?_⟩; have n0_ := Aside0.mk (Kd.R_lower ho0 (below_size (by qh_))); have n1_ := Aside0.mk (Kd.R_lower ho1 (below_size (by qh_))); have n2_ := Aside0.mk (below_step (by qh_) hb); clear HB; have HO212 := n0_; have HO215 := n1_; have HB := n2_; clear n0_ n1_ n2_; (try clear hb); (try clear hb2); (try clear hk); (try clear hi); (try clear ho0); (try clear ho1)) | ((with_reducible refine gate_dst (N := 4) rfl ?_); refine box_event ?hg (N := 4) ?hd (cs := #[.slice none 0 0, .slice none 0 0]) (t := 26) ?hr ?_; (case hd => rfl); (case hg => rfl); (case hr => first | (go_simp; done) | (go_simp; rfl)); intro gb217 hg w12 hbox hb; have n0_ := Aside0.mk (Kd.R_below (by qk_; exact HO212.out) hb); have n1_ := Aside0.mk (Kd.R_below (by qk_; exact HO215.out) hb); have n2_ := Aside0.mk (below_step (by qh_) hb); have n3_ := Aside0.mk (hbox); have n4_ := Aside0.mk ((by rw [hg]; exact (below_size (by qh_)) : w.heap.size ≤ gb217)); have n5_ := Aside0.mk ((by rw [hg]; exact (below_size (by qh_)) : w.heap.size ≤ gb217)); clear HO212; clear HO215; clear HB; have HO212 := n0_; have HO215 := n1_; have HB := n2_; have BK217 := n3_; have GW217 := n4_; have GE217 := n5_; clear n0_ n1_ n2_ n3_ n4_ n5_; clear hb hbox hg; obtain ⟨Ao13, co13, eo13⟩ := Kd.R_slice HO212.out; subst eo13; have hcz14_0 : w12.cell? ⟨gb217, 0, none⟩ = some (.slice none 0 0) := (blk_cell BK217.out 0).trans rfl; have hcz14_1 : w12.cell? ⟨gb217, 1, none⟩ = some (.slice none 0 0) := (blk_cell BK217.out 1).trans rfl; have hfz14_0 := blk_frozen BK217.out 0; have hfz14_1 := blk_frozen BK217.out 1; obtain ⟨Ao15, co15, eo15⟩ := Kd.R_slice HO215.out; subst eo15) | ((with_reducible refine gate_callee (f := 10) rfl ?_); refine goesL_ (some 26) rfl rfl Tryd.func10 (by kernel_rfl) rfl #[.string a0] rfl (by qm_) ?_; (with_reducible refine (cofferref21_Parse.calls k1 a0 t218 t221 t224 _ A9.out).mono ?_); rintro e w16 ⟨v219, v222, rfl, ho0, ho1, hb⟩; refine ⟨_, rfl, ?_⟩; have n0_ := Aside0.mk (Kd.R_elder' (by qk_; exact (Kd.R_mono (Kd.R_far (p := ⟨gb217, 1, none⟩) (Kd.R_far (p := ⟨gb217, 0, none⟩) (Kd.R_types HO212.out BK217.out (by decide)) (fun _ hk => hk.2) (.slice Ao13 t210.length co13)) (fun _ hk => hk.2) (.slice Ao15 t213.length co15)) (fun _ h_ => h_.1))) (Kd.R_base ho0) hb); have n1_ := Aside0.mk (Kd.R_elder' (by qk_; exact (Kd.R_mono (Kd.R_far (p := ⟨gb217, 1, none⟩) (Kd.R_far (p := ⟨gb217, 0, none⟩) (Kd.R_types HO215.out BK217.out (by decide)) (fun _ hk => hk.2) (.slice Ao13 t210.length co13)) (fun _ hk => hk.2) (.slice Ao15 t213.length co15)) (fun _ h_ => h_.1))) (Kd.R_base ho1) hb); have n2_ := Aside0.mk (Kd.R_lower (Kd.R_new' ho0 (Kd.R_lt (by qk_; exact (Kd.R_mono (Kd.R_far (p := ⟨gb217, 1, none⟩) (Kd.R_far (p := ⟨gb217, 0, none⟩) (Kd.R_types HO212.out BK217.out (by decide)) (fun _ hk => hk.2) (.slice Ao13 t210.length co13)) (fun _ hk => hk.2) (.slice Ao15 t213.length co15)) (fun _ h_ => h_.1))))) (below_size (by repeat (first | (with_reducible first | qp_ | refine below_set ?_ GE217.out) | exact HB.out)))); have n3_ := Aside0.mk (Kd.R_lower (Kd.R_new' ho1 (Kd.R_lt (by qk_; exact (Kd.R_mono (Kd.R_far (p := ⟨gb217, 1, none⟩) (Kd.R_far (p := ⟨gb217, 0, none⟩) (Kd.R_types HO215.out BK217.out (by decide)) (fun _ hk => hk.2) (.slice Ao13 t210.length co13)) (fun _ hk => hk.2) (.slice Ao15 t213.length co15)) (fun _ h_ => h_.1))))) (below_size (by repeat (first | (with_reducible first | qp_ | refine below_set ?_ GE217.out) | exact HB.out)))); have n4_ := Aside0.mk (blk_below (g := gb217) (o := .cells #[.slice Ao13 t210.length co13, .slice Ao15 t213.length co15] 26 (0, 0)) (by qb_; refine blk_put (cs := #[.slice Ao13 t210.length co13, .slice none 0 0]) ?_ 1 _ rfl; qb_; refine blk_put (cs := #[.slice none 0 0, .slice none 0 0]) ?_ 0 _ rfl; qb_; exact BK217.out) hb); have n5_ := Aside0.mk (below_step (by repeat (first | (with_reducible first | qp_ | refine below_set ?_ GE217.out) | exact HB.out)) hb); clear HO212; clear HO215; clear BK217; clear HB; have HO212 := n0_; have HO215 := n1_; have HO220 := n2_; have HO223 := n3_; have BK217 := n4_; have HB := n5_; clear n0_ n1_ n2_ n3_ n4_ n5_; (try clear hb); (try clear hb2); (try clear hk); (try clear hi); (try clear ho0); (try clear ho1)) | ((with_reducible refine gate_dst (N := 6) rfl ?_); refine box_event ?hg (N := 6) ?hd (cs := #[.slice none 0 0, .slice none 0 0]) (t := 26) ?hr ?_; (case hd => rfl); (case hg => rfl); (case hr => first | (go_simp; done) | (go_simp; rfl)); intro gb225 hg w17 hbox hb; have n0_ := Aside0.mk (Kd.R_below (by qk_; exact HO212.out) hb); have n1_ := Aside0.mk (Kd.R_below (by qk_; exact HO215.out) hb); have n2_ := Aside0.mk (Kd.R_below (by qk_; exact HO220.out) hb); have n3_ := Aside0.mk (Kd.R_below (by qk_; exact HO223.out) hb); have n4_ := Aside0.mk (blk_below (g := gb217) (o := .cells #[.slice Ao13 t210.length co13, .slice Ao15 t213.length co15] 26 (0, 0)) (by qb_; exact BK217.out) hb); have n5_ := Aside0.mk (below_step (by repeat (first | (with_reducible first | qp_ | refine below_set ?_ GE217.out) | exact HB.out)) hb); have n6_ := Aside0.mk (hbox); have n7_ := Aside0.mk ((by rw [hg]; exact (below_size (by repeat (first | (with_reducible first | qp_ | refine below_set ?_ GE217.out) | exact HB.out))) : w.heap.size ≤ gb225)); have n8_ := Aside0.mk ((by rw [hg]; exact (below_size (by repeat (first | (with_reducible first | qp_ | refine below_set ?_ GE217.out) | exact HB.out))) : w.heap.size ≤ gb225)); have n9_ := Aside0.mk ((by rw [hg]; exact Nat.ne_of_lt (blk_lt (g := gb217) (o := .cells #[.slice Ao13 t210.length co13, .slice Ao15 t213.length co15] 26 (0, 0)) (by qb_; exact BK217.out)) : gb217 ≠ gb225)); have n10_ := Aside0.mk ((by rw [hg]; exact Nat.ne_of_gt (blk_lt (g := gb217) (o := .cells #[.slice Ao13 t210.length co13, .slice Ao15 t213.length co15] 26 (0, 0)) (by qb_; exact BK217.out)) : gb225 ≠ gb217)); clear HO212; clear HO215; clear HO220; clear HO223; clear BK217; clear HB; have HO212 := n0_; have HO215 := n1_; have HO220 := n2_; have HO223 := n3_; have BK217 := n4_; have HB := n5_; have BK225 := n6_; have GW225 := n7_; have GE225 := n8_; have NB217_225 := n9_; have NB225_217 := n10_; clear n0_ n1_ n2_ n3_ n4_ n5_ n6_ n7_ n8_ n9_ n10_; clear hb hbox hg; obtain ⟨Ao18, co18, eo18⟩ := Kd.R_slice HO220.out; subst eo18; have hnb19 := NB225_217.out; have hnc19 := NB217_225.out; have hcz20_0 : w17.cell? ⟨gb225, 0, none⟩ = some (.slice none 0 0) := (blk_cell BK225.out 0).trans rfl; have hcz20_1 : w17.cell? ⟨gb225, 1, none⟩ = some (.slice none 0 0) := (blk_cell BK225.out 1).trans rfl; have hfz20_0 := blk_frozen BK225.out 0; have hfz20_1 := blk_frozen BK225.out 1; obtain ⟨Ao21, co21, eo21⟩ := Kd.R_slice HO223.out; subst eo21))
            (try simp only [Act.put, List.setIfInBounds_toArray, List.set_cons_zero, List.set_cons_succ])
            go_cut [37] (fun v37 wc => ∃ (kq : Nat) (x37_9 : Bool), v37 = .bool x37_9 ∧ Aside0 (cofferlaw21_TargetReads.j1 kq a0 x3_1 x37_9 t210 t213 = some r) ∧ Aside0 (kq ≤ k1) ∧ Aside0 (Kd.R Kd.string 9 wc w.heap.size (fun k_ => some k_ ≠ ((.slice Ao18 t218.length co18) : Value).ownBlock) (.slice Ao13 t210.length co13) t210) ∧ Aside0 (Kd.R k32 32 wc w.heap.size (fun k_ => some k_ ≠ ((.slice Ao21 t221.length co21) : Value).ownBlock) (.slice Ao15 t213.length co15) t213) ∧ Aside0 (Kd.R Kd.string 9 wc w.heap.size (fun k_ => some k_ ≠ ((.slice Ao13 t210.length co13) : Value).ownBlock) (.slice Ao18 t218.length co18) t218) ∧ Aside0 (Kd.R k32 32 wc w.heap.size (fun k_ => some k_ ≠ ((.slice Ao15 t213.length co15) : Value).ownBlock) (.slice Ao21 t221.length co21) t221) ∧ Aside0 (wc.heap[gb217]? = some (.cells #[(.slice Ao13 t210.length co13), (.slice Ao15 t213.length co15)] 26 (0, 0))) ∧ Aside0 (wc.heap[gb225]? = some (.cells #[(.slice Ao18 t218.length co18), (.slice Ao21 t221.length co21)] 26 (0, 0))) ∧ Aside0 (Below w.heap.size w wc))
            case first =>
              have H := HC10.out
              clear HC10
              by_cases c22 : t216 = t224
              · rw [if_pos c22] at H
                have c22b0 : (t216 == t224) = true := beq_iff_eq.mpr c22
                have c22b1 : (t216 != t224) = false := bne_eq_false_iff_eq.mpr c22
                clear c22
                (first | rw [c22b0] | (simp only [i64_w, i32_w]; rw [c22b0]) | skip)
                replace H := Option.bind_eq_some_iff.mp H
                obtain ⟨t226, A230, H⟩ := H
                replace H : (cofferlaw21_TargetReads.j1 k1 a0 x3_1 (!t226) t210 t213) = some r := H
                have A23 := Aside0.mk A230
                clear A230
                have H' := Aside0.mk H
                clear H
                have hnb24 := NB217_225.out
                have hnc24 := NB225_217.out
                have hcz25_0 : w17.cell? ⟨gb217, 0, none⟩ = some (.slice Ao13 t210.length co13) := (blk_cell BK217.out 0).trans rfl
                have hcz25_1 : w17.cell? ⟨gb217, 1, none⟩ = some (.slice Ao15 t213.length co15) := (blk_cell BK217.out 1).trans rfl
                have hfz25_0 := blk_frozen BK217.out 0
                have hfz25_1 := blk_frozen BK217.out 1
                have hcz26_0 : w17.cell? ⟨gb225, 0, none⟩ = some (.slice none 0 0) := (blk_cell BK225.out 0).trans rfl
                have hcz26_1 : w17.cell? ⟨gb225, 1, none⟩ = some (.slice none 0 0) := (blk_cell BK225.out 1).trans rfl
                have hfz26_0 := blk_frozen BK225.out 0
                have hfz26_1 := blk_frozen BK225.out 1
                go_wp2_with (first | (go_at_call 11; (with_reducible refine (cofferref21_Same.calls k1 _ _ t210 _ _ t213 _ _ t218 _ _ t221 t226 _ ?side1 ?side2 ?side3 ?side4 ?side5 ?side6 ?side7 ?side8 A23.out).mono ?_); (case side1 => refine (Kd.R_reads' (e := 9) (base := w.heap.size) (ok := fun k_ => (True ∧ some k_ ≠ (.slice Ao18 t218.length co18 : Value).ownBlock)) (n := t210.length) (c := co13) ?_).2.2; exact (by qk_; exact (Kd.R_mono (Kd.R_far (p := ⟨gb225, 1, none⟩) (Kd.R_far (p := ⟨gb225, 0, none⟩) (Kd.R_types HO212.out BK225.out (by decide)) (fun _ hk => hk.2) (.slice Ao18 t218.length co18)) (fun _ hk => hk.2) (.slice Ao21 t221.length co21)) (fun _ h_ => h_.1)))); (case side2 => exact (Kd.R_reads' HO212.out).2.1); (case side3 => refine (Kd.R_reads' (e := 32) (base := w.heap.size) (ok := fun k_ => (True ∧ some k_ ≠ (.slice Ao21 t221.length co21 : Value).ownBlock)) (n := t213.length) (c := co15) ?_).2.2; exact (by qk_; exact (Kd.R_mono (Kd.R_far (p := ⟨gb225, 1, none⟩) (Kd.R_far (p := ⟨gb225, 0, none⟩) (Kd.R_types HO215.out BK225.out (by decide)) (fun _ hk => hk.2) (.slice Ao18 t218.length co18)) (fun _ hk => hk.2) (.slice Ao21 t221.length co21)) (fun _ h_ => h_.1)))); (case side4 => exact (Kd.R_reads' HO215.out).2.1); (case side5 => refine (Kd.R_reads' (e := 9) (base := w.heap.size) (ok := fun k_ => (True ∧ some k_ ≠ (.slice Ao13 t210.length co13 : Value).ownBlock)) (n := t218.length) (c := co18) ?_).2.2; exact (by qk_; exact (Kd.R_mono (Kd.R_far (p := ⟨gb225, 1, none⟩) (Kd.R_far (p := ⟨gb225, 0, none⟩) (Kd.R_types HO220.out BK225.out (by decide)) (fun _ hk => hk.2) (.slice Ao18 t218.length co18)) (fun _ hk => hk.2) (.slice Ao21 t221.length co21)) (fun _ h_ => h_.1)))); (case side6 => exact (Kd.R_reads' HO220.out).2.1); (case side7 => refine (Kd.R_reads' (e := 32) (base := w.heap.size) (ok := fun k_ => (True ∧ some k_ ≠ (.slice Ao15 t213.length co15 : Value).ownBlock)) (n := t221.length) (c := co21) ?_).2.2; exact (by qk_; exact (Kd.R_mono (Kd.R_far (p := ⟨gb225, 1, none⟩) (Kd.R_far (p := ⟨gb225, 0, none⟩) (Kd.R_types HO223.out BK225.out (by decide)) (fun _ hk => hk.2) (.slice Ao18 t218.length co18)) (fun _ hk => hk.2) (.slice Ao21 t221.length co21)) (fun _ h_ => h_.1)))); (case side8 => exact (Kd.R_reads' HO223.out).2.1); rintro e w27 ⟨rfl, hb⟩; have n0_ := Aside0.mk (Kd.R_below (by qk_; exact (Kd.R_mono (Kd.R_far (p := ⟨gb225, 1, none⟩) (Kd.R_far (p := ⟨gb225, 0, none⟩) (Kd.R_types HO212.out BK225.out (by decide)) (fun _ hk => hk.2) (.slice Ao18 t218.length co18)) (fun _ hk => hk.2) (.slice Ao21 t221.length co21)) (fun _ h_ => h_.1))) hb); have n1_ := Aside0.mk (Kd.R_below (by qk_; exact (Kd.R_mono (Kd.R_far (p := ⟨gb225, 1, none⟩) (Kd.R_far (p := ⟨gb225, 0, none⟩) (Kd.R_types HO215.out BK225.out (by decide)) (fun _ hk => hk.2) (.slice Ao18 t218.length co18)) (fun _ hk => hk.2) (.slice Ao21 t221.length co21)) (fun _ h_ => h_.1))) hb); have n2_ := Aside0.mk (Kd.R_below (by qk_; exact (Kd.R_mono (Kd.R_far (p := ⟨gb225, 1, none⟩) (Kd.R_far (p := ⟨gb225, 0, none⟩) (Kd.R_types HO220.out BK225.out (by decide)) (fun _ hk => hk.2) (.slice Ao18 t218.length co18)) (fun _ hk => hk.2) (.slice Ao21 t221.length co21)) (fun _ h_ => h_.1))) hb); have n3_ := Aside0.mk (Kd.R_below (by qk_; exact (Kd.R_mono (Kd.R_far (p := ⟨gb225, 1, none⟩) (Kd.R_far (p := ⟨gb225, 0, none⟩) (Kd.R_types HO223.out BK225.out (by decide)) (fun _ hk => hk.2) (.slice Ao18 t218.length co18)) (fun _ hk => hk.2) (.slice Ao21 t221.length co21)) (fun _ h_ => h_.1))) hb); have n4_ := Aside0.mk (blk_below (g := gb217) (o := .cells #[.slice Ao13 t210.length co13, .slice Ao15 t213.length co15] 26 (0, 0)) (by qb_; refine blk_far ?_ NB217_225.out _; qb_; refine blk_far ?_ NB217_225.out _; qb_; exact BK217.out) hb); have n5_ := Aside0.mk (blk_below (g := gb225) (o := .cells #[.slice Ao18 t218.length co18, .slice Ao21 t221.length co21] 26 (0, 0)) (by qb_; refine blk_put (cs := #[.slice Ao18 t218.length co18, .slice none 0 0]) ?_ 1 _ rfl; qb_; refine blk_put (cs := #[.slice none 0 0, .slice none 0 0]) ?_ 0 _ rfl; qb_; exact BK225.out) hb); have n6_ := Aside0.mk (below_step (by repeat (first | (with_reducible first | qp_ | refine below_set ?_ GE217.out | refine below_set ?_ GE225.out) | exact HB.out)) hb); clear HO212; clear HO215; clear HO220; clear HO223; clear BK217; clear BK225; clear HB; have HO212 := n0_; have HO215 := n1_; have HO220 := n2_; have HO223 := n3_; have BK217 := n4_; have BK225 := n5_; have HB := n6_; clear n0_ n1_ n2_ n3_ n4_ n5_ n6_; (try clear hb); (try clear hb2); (try clear hk); (try clear hi)))
                go_meet
                case rel => exact ⟨_, (!t226), (by qr_), H', ⟨by have := HK1.out; first | omega | exact Nat.le_refl _⟩, ⟨by qk_; exact Kd.R_mono HO212.out (fun _ hk => hk.2)⟩, ⟨by qk_; exact Kd.R_mono HO215.out (fun _ hk => hk.2)⟩, ⟨by qk_; exact Kd.R_mono HO220.out (fun _ hk => hk.2)⟩, ⟨by qk_; exact Kd.R_mono HO223.out (fun _ hk => hk.2)⟩, ⟨by qb_; exact BK217.out⟩, ⟨by qb_; exact BK225.out⟩, ⟨by repeat (first | (with_reducible first | qp_ | refine below_set ?_ GE217.out | refine below_set ?_ GE225.out) | exact HB.out)⟩⟩
              · rw [if_neg c22] at H
                have c22b0 : (t216 == t224) = false := beq_eq_false_iff_ne.mpr c22
                have c22b1 : (t216 != t224) = true := bne_iff_ne.mpr c22
                (first | rw [c22b0] | (simp only [i64_w, i32_w]; rw [c22b0]) | skip)
                have H' := Aside0.mk H
                clear H
                go_wp2
                go_meet
                case rel => exact ⟨_, (true), (by qr_), H', ⟨by have := HK1.out; first | omega | exact Nat.le_refl _⟩, ⟨by qk_; exact Kd.R_mono (Kd.R_far (p := ⟨gb225, 1, none⟩) (Kd.R_far (p := ⟨gb225, 0, none⟩) (Kd.R_types HO212.out BK225.out (by decide)) (fun _ hk => hk.2) (.slice Ao18 t218.length co18)) (fun _ hk => hk.2) (.slice Ao21 t221.length co21)) (fun _ hk => hk.1.2)⟩, ⟨by qk_; exact Kd.R_mono (Kd.R_far (p := ⟨gb225, 1, none⟩) (Kd.R_far (p := ⟨gb225, 0, none⟩) (Kd.R_types HO215.out BK225.out (by decide)) (fun _ hk => hk.2) (.slice Ao18 t218.length co18)) (fun _ hk => hk.2) (.slice Ao21 t221.length co21)) (fun _ hk => hk.1.2)⟩, ⟨by qk_; exact Kd.R_mono (Kd.R_far (p := ⟨gb225, 1, none⟩) (Kd.R_far (p := ⟨gb225, 0, none⟩) (Kd.R_types HO220.out BK225.out (by decide)) (fun _ hk => hk.2) (.slice Ao18 t218.length co18)) (fun _ hk => hk.2) (.slice Ao21 t221.length co21)) (fun _ hk => hk.1.2)⟩, ⟨by qk_; exact Kd.R_mono (Kd.R_far (p := ⟨gb225, 1, none⟩) (Kd.R_far (p := ⟨gb225, 0, none⟩) (Kd.R_types HO223.out BK225.out (by decide)) (fun _ hk => hk.2) (.slice Ao18 t218.length co18)) (fun _ hk => hk.2) (.slice Ao21 t221.length co21)) (fun _ hk => hk.1.2)⟩, ⟨by qb_; refine blk_far ?_ NB217_225.out _; qb_; refine blk_far ?_ NB217_225.out _; qb_; exact BK217.out⟩, ⟨by qb_; refine blk_put (cs := #[.slice Ao18 t218.length co18, .slice none 0 0]) ?_ 1 _ rfl; qb_; refine blk_put (cs := #[.slice none 0 0, .slice none 0 0]) ?_ 0 _ rfl; qb_; exact BK225.out⟩, ⟨by repeat (first | (with_reducible first | qp_ | refine below_set ?_ GE217.out | refine below_set ?_ GE225.out) | exact HB.out)⟩⟩
            case rest =>
              clear HC10
              try clear c1
              try clear c2
              try clear p2
              try clear c3
              try clear c4
              try clear c4b0
              try clear c4b1
              try clear c7
              try clear c7b0
              try clear c8
              try clear c9
              try clear c10
              try clear c19
              try clear c22
              try clear c22b0
              try clear c22b1
              try clear c24
              try clear hcz14_0
              try clear hcz14_1
              try clear hcz20_0
              try clear hcz20_1
              try clear hcz25_0
              try clear hcz25_1
              try clear hcz26_0
              try clear hcz26_1
              try clear hfz14_0
              try clear hfz14_1
              try clear hfz20_0
              try clear hfz20_1
              try clear hfz25_0
              try clear hfz25_1
              try clear hfz26_0
              try clear hfz26_1
              try clear p2
              obtain ⟨kq, x37_9, rfl, HA, HJ9, HO_218000, HO_218001, HO_226000, HO_226001, BK217, BK225, HB⟩ := hcut
              cases kq with
              | zero => exact absurd HA.out (by simp [cofferlaw21_TargetReads.j1])
              | succ kj9 =>
                have H := HA.out
                clear HA
                simp only [cofferlaw21_TargetReads.j1] at H
                by_cases c28 : x37_9 = true
                · subst c28
                  have H1 : (some false) = some r := by rw [if_pos rfl] at H; exact H
                  clear H
                  have H := H1
                  clear H1
                  obtain rfl := Option.some.inj H
                  go_wp2
                  go_ret
                  exact ⟨by first | rfl | (simp [errW_none, errW_some] <;> rfl) | (simp [*, errW_none, errW_some] <;> rfl), by repeat (first | (with_reducible first | qp_ | refine below_set ?_ GE217.out | refine below_set ?_ GE225.out) | exact HB.out)⟩
                · replace c28 := Bool.eq_false_iff.mpr c28
                  subst c28
                  have H1 : (cofferlaw21_TargetReads.l1 kj9 a0 x3_1 0 t210 t213) = some r := by rw [if_neg (show ¬ (false = true) by decide)] at H; exact H
                  clear H
                  have H := H1
                  clear H1
                  have H' := Aside0.mk H
                  clear H
                  go_wp2
                  go_loopg [8] kj9 (fun kq v8 w' => ∃ (x8_3 : Int) (x218000_3 : List ByteArray) (x226000_3 : List ByteArray) (u218000 : Value) (u226000 : Value), v8 = .int .i64 x8_3 ∧ Aside0 (cofferlaw21_TargetReads.l1 kq a0 x3_1 x8_3 x218000_3 t213 = some r) ∧ Aside0 (kq ≤ kj9) ∧ Aside0 (Kd.R Kd.string 9 w' w.heap.size (fun k_ => some k_ ≠ (u226000 : Value).ownBlock) u218000 x218000_3) ∧ Aside0 (Kd.R k32 32 w' w.heap.size (fun k_ => some k_ ≠ ((.slice Ao21 t221.length co21) : Value).ownBlock) (.slice Ao15 t213.length co15) t213) ∧ Aside0 (Kd.R Kd.string 9 w' w.heap.size (fun k_ => some k_ ≠ (u218000 : Value).ownBlock) u226000 x226000_3) ∧ Aside0 (Kd.R k32 32 w' w.heap.size (fun k_ => some k_ ≠ ((.slice Ao15 t213.length co15) : Value).ownBlock) (.slice Ao21 t221.length co21) t221) ∧ Aside0 (w'.heap[gb217]? = some (.cells #[u218000, (.slice Ao15 t213.length co15)] 26 (0, 0))) ∧ Aside0 (w'.heap[gb225]? = some (.cells #[u226000, (.slice Ao21 t221.length co21)] 26 (0, 0))) ∧ Aside0 (Below w.heap.size w w'))
                  case atStart => exact ⟨(0), (t210), (t218), (.slice Ao13 t210.length co13), (.slice Ao18 t218.length co18), (by qr_), H', ⟨Nat.le_refl _⟩, ⟨by qk_; exact HO_218000.out⟩, ⟨by qk_; exact HO_218001.out⟩, ⟨by qk_; exact HO_226000.out⟩, ⟨by qk_; exact HO_226001.out⟩, ⟨by qb_; exact BK217.out⟩, ⟨by qb_; exact BK225.out⟩, ⟨by repeat (first | (with_reducible first | qp_ | refine below_set ?_ GE217.out | refine below_set ?_ GE225.out) | exact HB.out)⟩⟩
                  case round =>
                    clear H'
                    try clear c1
                    try clear c2
                    try clear p2
                    try clear c3
                    try clear c4
                    try clear c4b0
                    try clear c4b1
                    try clear c7
                    try clear c7b0
                    try clear c8
                    try clear c9
                    try clear c10
                    try clear c19
                    try clear c22
                    try clear c22b0
                    try clear c22b1
                    try clear c24
                    try clear c28
                    try clear hcz14_0
                    try clear hcz14_1
                    try clear hcz20_0
                    try clear hcz20_1
                    try clear hcz25_0
                    try clear hcz25_1
                    try clear hcz26_0
                    try clear hcz26_1
                    try clear hfz14_0
                    try clear hfz14_1
                    try clear hfz20_0
                    try clear hfz20_1
                    try clear hfz25_0
                    try clear hfz25_1
                    try clear hfz26_0
                    try clear hfz26_1
                    try clear p2
                    obtain ⟨x8_3, x218000_3, x226000_3, u218000, u226000, rfl, HA, HK3, HO_218000, HO_218001, HO_226000, HO_226001, BK217, BK225, HB⟩ := hrel
                    cases gk with
                    | zero => exact absurd HA.out (by simp [cofferlaw21_TargetReads.l1])
                    | succ k3 =>
                      have H := HA.out
                      clear HA
                      simp only [cofferlaw21_TargetReads.l1] at H
                      by_cases c29 : x8_3 < (x218000_3.length : Int)
                      · rw [if_pos c29] at H
                        have c29b0 : decide (x8_3 < (x218000_3.length : Int)) = true := decide_eq_true c29
                        clear c29
                        by_cases c30 : 0 ≤ x8_3
                        · rw [if_pos c30] at H
                          have c30b0 : decide (0 ≤ x8_3) = true := decide_eq_true c30
                          clear c30
                          obtain ⟨y227, hy227⟩ : ∃ y_ : List ByteArray, y_ = (x218000_3.set (x8_3 : Int).toNat (⟨#[63]⟩ : ByteArray)) := ⟨_, rfl⟩
                          replace H : (cofferlaw21_TargetReads.l1 k3 a0 x3_1 (wrap64 (x8_3 + 1)) y227 t213) = some r := by first | (rw [hy227]; with_reducible exact H) | (have H2_ := (Option.bind_some _ _).symm.trans H; rw [hy227]; with_reducible exact H2_) | (have H2_ := (Option.bind_some _ _).symm.trans H; with_reducible exact H2_) | with_reducible exact H | (rw [hy227]; exact H) | exact H
                          have Ny227 := Aside0.mk hy227
                          clear hy227
                          have H' := Aside0.mk H
                          clear H
                          have hnb32 := NB217_225.out
                          have hnc32 := NB225_217.out
                          have hcz33_0 : wr.cell? ⟨gb217, 0, none⟩ = some (u218000) := (blk_cell BK217.out 0).trans rfl
                          have hcz33_1 : wr.cell? ⟨gb217, 1, none⟩ = some (.slice Ao15 t213.length co15) := (blk_cell BK217.out 1).trans rfl
                          have hfz33_0 := blk_frozen BK217.out 0
                          have hfz33_1 := blk_frozen BK217.out 1
                          obtain ⟨Ao34, co34, eo34⟩ := Kd.R_slice HO_218000.out
                          subst eo34
                          have p31 : 0 ≤ (x8_3 : Int) := of_decide_eq_true (by qa_)
                          have q31 : (x8_3 : Int) < ((x218000_3.length : Int) : Int) := of_decide_eq_true (by qa_)
                          obtain ⟨go31, co31, eo31, gb31, gl31, cl31, HG31⟩ := Kd.R_form HO_218000.out (by omega)
                          (first | cases eo31 | (injection eo31 with ea_ en_ ec_; (first | subst ea_ | (injection ea_ with ea_; subst ea_)); subst ec_; clear en_))
                          have GB31 := Aside0.mk gb31
                          have GG31 := Aside0.mk HG31
                          clear gb31 gl31 HG31
                          obtain ⟨hx31_0, hf31_0⟩ := Kd.R_celln (⟨#[]⟩ : ByteArray) HO_218000.out (x8_3 : Int) p31 q31
                          replace p31 := eq_true p31
                          replace q31 := eq_true q31
                          have HP35 := Kd.R_putg HO_218000.out (x8_3 : Int) (⟨#[63]⟩ : ByteArray)
                          go_wp2_with (first | ((with_reducible refine gate_store (t := 9) (p := 48) rfl ?_); refine store_event (t := 9) (p := 48) (v := ?vo_w36) (w1 := (wr.setCell ⟨go31, (x8_3 : Int).toNat, none⟩ (.string (⟨#[63]⟩ : ByteArray)))) ?hg ?ho ?hn ?hr ?_; (case ho => rfl); (case hg => rfl); (case hn => rfl); (case hr => first | (go_simp; done) | (go_simp; rfl)); intro w36 hw; have hg : wr.grownBy w36 (some go31) := (by rw [hw]; exact HP35.2); have hp_ : Kd.R Kd.string 9 w36 w.heap.size (fun k_ => some k_ ≠ (u226000 : Value).ownBlock) (.slice (some ⟨go31, 0, none⟩) x218000_3.length co34) y227 := (by rw [hw, Ny227.out]; exact HP35.1); clear HP35; have n0_ := Aside0.mk (hp_); have n1_ := Aside0.mk (Kd.R_over' (v := (.slice (some ⟨go31, 0, none⟩) x218000_3.length co34)) (by qk_; exact HO_218001.out) (Kd.R_typed HO_218000.out) (by decide) hg); have n2_ := Aside0.mk (Kd.R_after (v := (.slice (some ⟨go31, 0, none⟩) x218000_3.length co34)) (v1 := (.slice (some ⟨go31, 0, none⟩) x218000_3.length co34)) (ok := (fun _ => True)) (by qk_; exact Kd.R_mono HO_226000.out (fun _ hk => ⟨trivial, hk⟩)) hg (.inl rfl)); have n3_ := Aside0.mk (Kd.R_over' (v := (.slice (some ⟨go31, 0, none⟩) x218000_3.length co34)) (by qk_; exact HO_226001.out) (Kd.R_typed HO_218000.out) (by decide) hg); have n4_ := Aside0.mk (blk_grown (g := gb217) (o := .cells #[.slice (some ⟨go31, 0, none⟩) x218000_3.length co34, .slice Ao15 t213.length co15] 26 (0, 0)) (by qb_; exact BK217.out) hg (Kd.R_ne HO_218000.out BK217.out (by decide))); have n5_ := Aside0.mk (blk_grown (g := gb225) (o := .cells #[u226000, .slice Ao21 t221.length co21] 26 (0, 0)) (by qb_; exact BK225.out) hg (Kd.R_ne HO_218000.out BK225.out (by decide))); have n6_ := Aside0.mk ((by rw [hw]; exact below_set (HB.out) GB31.out : Below w.heap.size w w36)); clear HO_218000; clear HO_218001; clear HO_226000; clear HO_226001; clear BK217; clear BK225; clear HB; have HO_218000 := n0_; have HO_218001 := n1_; have HO_226000 := n2_; have HO_226001 := n3_; have BK217 := n4_; have BK225 := n5_; have HB := n6_; clear n0_ n1_ n2_ n3_ n4_ n5_ n6_; clear hg hw hp_))
                          go_roundg k3
                          case measure => have := HK1.out; have := HJ9.out; have := HK3.out; omega
                          case rel => exact ⟨(wrap64 (x8_3 + 1)), (y227), (x226000_3), (.slice (some ⟨go31, 0, none⟩) x218000_3.length co34), (u226000), (by qr_), H', ⟨by have := HK1.out; have := HJ9.out; have := HK3.out; omega⟩, ⟨by qk_; exact HO_218000.out⟩, ⟨by qk_; exact HO_218001.out⟩, ⟨by qk_; exact Kd.R_mono HO_226000.out (fun _ hk => hk.2)⟩, ⟨by qk_; exact HO_226001.out⟩, ⟨by qb_; exact BK217.out⟩, ⟨by qb_; exact BK225.out⟩, ⟨by repeat (first | (with_reducible first | qp_ | refine below_set ?_ GE217.out | refine below_set ?_ GE225.out) | exact HB.out)⟩⟩
                        · rw [if_neg c30] at H
                          exact absurd H (by simp)
                      · rw [if_neg c29] at H
                        have c29b0 : decide (x8_3 < (x218000_3.length : Int)) = false := decide_eq_false c29
                        clear c29
                        have H' := Aside0.mk H
                        clear H
                        have hnb37 := NB217_225.out
                        have hnc37 := NB225_217.out
                        have hcz38_0 : wr.cell? ⟨gb217, 0, none⟩ = some (u218000) := (blk_cell BK217.out 0).trans rfl
                        have hcz38_1 : wr.cell? ⟨gb217, 1, none⟩ = some (.slice Ao15 t213.length co15) := (blk_cell BK217.out 1).trans rfl
                        have hfz38_0 := blk_frozen BK217.out 0
                        have hfz38_1 := blk_frozen BK217.out 1
                        obtain ⟨Ao39, co39, eo39⟩ := Kd.R_slice HO_218000.out
                        subst eo39
                        go_wp2
                        go_loopg [9] k3 (fun kq v9 w' => ∃ (x9_4 : Int) (x218001_4 : List (S32)) (x226001_4 : List (S32)) (u218001 : Value) (u226001 : Value), v9 = .int .i64 x9_4 ∧ Aside0 (cofferlaw21_TargetReads.l2 kq a0 x3_1 x9_4 x218000_3 x218001_4 = some r) ∧ Aside0 (kq ≤ k3) ∧ Aside0 (Kd.R Kd.string 9 w' w.heap.size (fun k_ => some k_ ≠ (u226000 : Value).ownBlock) (.slice Ao39 x218000_3.length co39) x218000_3) ∧ Aside0 (Kd.R k32 32 w' w.heap.size (fun k_ => some k_ ≠ (u226001 : Value).ownBlock) u218001 x218001_4) ∧ Aside0 (Kd.R Kd.string 9 w' w.heap.size (fun k_ => some k_ ≠ ((.slice Ao39 x218000_3.length co39) : Value).ownBlock) u226000 x226000_3) ∧ Aside0 (Kd.R k32 32 w' w.heap.size (fun k_ => some k_ ≠ (u218001 : Value).ownBlock) u226001 x226001_4) ∧ Aside0 (w'.heap[gb217]? = some (.cells #[(.slice Ao39 x218000_3.length co39), u218001] 26 (0, 0))) ∧ Aside0 (w'.heap[gb225]? = some (.cells #[u226000, u226001] 26 (0, 0))) ∧ Aside0 (Below w.heap.size w w'))
                        case atStart => exact ⟨(0), (t213), (t221), (.slice Ao15 t213.length co15), (.slice Ao21 t221.length co21), (by qr_), H', ⟨Nat.le_refl _⟩, ⟨by qk_; exact HO_218000.out⟩, ⟨by qk_; exact HO_218001.out⟩, ⟨by qk_; exact HO_226000.out⟩, ⟨by qk_; exact HO_226001.out⟩, ⟨by qb_; exact BK217.out⟩, ⟨by qb_; exact BK225.out⟩, ⟨by repeat (first | (with_reducible first | qp_ | refine below_set ?_ GE217.out | refine below_set ?_ GE225.out) | exact HB.out)⟩⟩
                        case round =>
                          clear H'
                          try clear c1
                          try clear c2
                          try clear p2
                          try clear c3
                          try clear p3
                          try clear q3
                          try clear hx3
                          try clear hf3
                          try clear c4
                          try clear c4b0
                          try clear c4b1
                          try clear p6
                          try clear c7
                          try clear c7b0
                          try clear c8
                          try clear c9
                          try clear c10
                          try clear c19
                          try clear c22
                          try clear c22b0
                          try clear c22b1
                          try clear c24
                          try clear c28
                          try clear c29
                          try clear c29b0
                          try clear c30
                          try clear c30b0
                          try clear p31
                          try clear q31
                          try clear hx31
                          try clear hf31
                          try clear c32
                          try clear c37
                          try clear hcz14_0
                          try clear hcz14_1
                          try clear hcz20_0
                          try clear hcz20_1
                          try clear hcz25_0
                          try clear hcz25_1
                          try clear hcz26_0
                          try clear hcz26_1
                          try clear hcz33_0
                          try clear hcz33_1
                          try clear hcz38_0
                          try clear hcz38_1
                          try clear hfz14_0
                          try clear hfz14_1
                          try clear hfz20_0
                          try clear hfz20_1
                          try clear hfz25_0
                          try clear hfz25_1
                          try clear hfz26_0
                          try clear hfz26_1
                          try clear hfz33_0
                          try clear hfz33_1
                          try clear hfz38_0
                          try clear hfz38_1
                          try clear hx31_0
                          try clear p2
                          try clear p31
                          try clear q31
                          obtain ⟨x9_4, x218001_4, x226001_4, u218001, u226001, rfl, HA, HK4, HO_218000, HO_218001, HO_226000, HO_226001, BK217, BK225, HB⟩ := hrel
                          cases gk with
                          | zero => exact absurd HA.out (by simp [cofferlaw21_TargetReads.l2])
                          | succ k4 =>
                            have H := HA.out
                            clear HA
                            simp only [cofferlaw21_TargetReads.l2] at H
                            by_cases c40 : x9_4 < (x218001_4.length : Int)
                            · rw [if_pos c40] at H
                              have c40b0 : decide (x9_4 < (x218001_4.length : Int)) = true := decide_eq_true c40
                              clear c40
                              by_cases c41 : 0 ≤ x9_4
                              · rw [if_pos c41] at H
                                have c41b0 : decide (0 ≤ x9_4) = true := decide_eq_true c41
                                clear c41
                                obtain ⟨y228, hy228⟩ : ∃ y_ : List (S32), y_ = (x218001_4.set (x9_4 : Int).toNat (⟨(⟨#[]⟩ : ByteArray), (⟨#[]⟩ : ByteArray)⟩ : S32)) := ⟨_, rfl⟩
                                replace H : (cofferlaw21_TargetReads.l2 k4 a0 x3_1 (wrap64 (x9_4 + 1)) x218000_3 y228) = some r := by first | (rw [hy228]; with_reducible exact H) | (have H2_ := (Option.bind_some _ _).symm.trans H; rw [hy228]; with_reducible exact H2_) | (have H2_ := (Option.bind_some _ _).symm.trans H; with_reducible exact H2_) | with_reducible exact H | (rw [hy228]; exact H) | exact H
                                have Ny228 := Aside0.mk hy228
                                clear hy228
                                have H' := Aside0.mk H
                                clear H
                                have hnb43 := NB217_225.out
                                have hnc43 := NB225_217.out
                                have hcz44_0 : wr.cell? ⟨gb217, 0, none⟩ = some (.slice Ao39 x218000_3.length co39) := (blk_cell BK217.out 0).trans rfl
                                have hcz44_1 : wr.cell? ⟨gb217, 1, none⟩ = some (u218001) := (blk_cell BK217.out 1).trans rfl
                                have hfz44_0 := blk_frozen BK217.out 0
                                have hfz44_1 := blk_frozen BK217.out 1
                                obtain ⟨Ao45, co45, eo45⟩ := Kd.R_slice HO_218001.out
                                subst eo45
                                have p42 : 0 ≤ (x9_4 : Int) := of_decide_eq_true (by qa_)
                                have q42 : (x9_4 : Int) < ((x218001_4.length : Int) : Int) := of_decide_eq_true (by qa_)
                                obtain ⟨go42, co42, eo42, gb42, gl42, cl42, HG42⟩ := Kd.R_form HO_218001.out (by omega)
                                (first | cases eo42 | (injection eo42 with ea_ en_ ec_; (first | subst ea_ | (injection ea_ with ea_; subst ea_)); subst ec_; clear en_))
                                have GB42 := Aside0.mk gb42
                                have GG42 := Aside0.mk HG42
                                clear gb42 gl42 HG42
                                obtain ⟨ce42, hcl42, hM42, hcc42, hfr42⟩ := Kd.R_elem HO_218001.out z32 (x9_4 : Int) p42 q42
                                obtain rfl := k32_openM hM42
                                have hx42_0 : wr.cell? ⟨go42, (x9_4 : Int).toNat * 2, none⟩ = some (.string ((rd_T32 x218001_4 x9_4).f0)) := hcc42 0 _ rfl
                                have hx42_1 : wr.cell? ⟨go42, (x9_4 : Int).toNat * 2 + 1, none⟩ = some (.string ((rd_T32 x218001_4 x9_4).f1)) := hcc42 1 _ rfl
                                have hf42_0 : wr.frozen? ⟨go42, (x9_4 : Int).toNat * 2, none⟩ = false := hfr42 0
                                have hf42_1 : wr.frozen? ⟨go42, (x9_4 : Int).toNat * 2 + 1, none⟩ = false := hfr42 1
                                clear hcl42 hcc42 hfr42 hM42
                                replace p42 := eq_true p42
                                replace q42 := eq_true q42
                                have HX46 := Aside0.mk (show Kd.R k32 32 wr w.heap.size (fun k_ => some k_ ≠ (u226001 : Value).ownBlock) (.slice (some ⟨go42, 0, none⟩) x218001_4.length co45) x218001_4 from (by qk_; exact HO_218001.out))
                                obtain ⟨ce46, hcl46, hM46, hcc46, hfr46⟩ := Kd.R_elem HX46.out z32 (x9_4 : Int) (of_decide_eq_true (by qa_)) (by have h_ : (x9_4 : Int) < ((x218001_4.length : Int) : Int) := of_decide_eq_true (by qa_); first | exact h_ | (have e_ := (Kd.R_reads' HO_218001.out).1; omega) | simpa using h_)
                                obtain rfl := k32_openM hM46
                                have HP46 := Kd.R_seg HX46.out (x9_4 : Int) (of_decide_eq_true (by qa_)) (by have h_ : (x9_4 : Int) < ((x218001_4.length : Int) : Int) := of_decide_eq_true (by qa_); first | exact h_ | (have e_ := (Kd.R_reads' HO_218001.out).1; omega) | simpa using h_) (seg := [.string (⟨#[]⟩ : ByteArray), .string (⟨#[]⟩ : ByteArray)]) (j := 0) hcl46 hcc46 (show 2 ≤ 2 from by decide) (x' := (⟨(⟨#[]⟩ : ByteArray), (⟨#[]⟩ : ByteArray)⟩ : S32)) (k32_mkM _ _ _ (⟨(⟨#[]⟩ : ByteArray), (⟨#[]⟩ : ByteArray)⟩ : S32) ) (fun _ hk => hk)
                                have hx46_0 := hcc46 0 _ rfl
                                (try simp only [show (k32).sz = 2 from rfl, Nat.mul_one, Nat.add_zero] at hx46_0)
                                have hf46_0 := hfr46 0
                                (try simp only [show (k32).sz = 2 from rfl, Nat.mul_one, Nat.add_zero] at hf46_0)
                                have hx46_1 := hcc46 1 _ rfl
                                (try simp only [show (k32).sz = 2 from rfl, Nat.mul_one, Nat.add_zero] at hx46_1)
                                have hf46_1 := hfr46 1
                                (try simp only [show (k32).sz = 2 from rfl, Nat.mul_one, Nat.add_zero] at hf46_1)
                                clear hcl46 hcc46 hfr46 hM46
                                go_wp2_with (first | ((with_reducible refine gate_store (t := 32) (p := 60) rfl ?_); refine store_event (t := 32) (p := 60) (v := ?vo_w47) (w1 := ((wr.setCell ⟨go42, (x9_4 : Int).toNat * 2, none⟩ (.string (⟨#[]⟩ : ByteArray))).setCell ⟨go42, (x9_4 : Int).toNat * 2 + 1, none⟩ (.string (⟨#[]⟩ : ByteArray)))) ?hg ?ho ?hn ?hr ?_; (case ho => rfl); (case hg => rfl); (case hn => rfl); (case hr => first | (go_simp; done) | (go_simp; rfl)); intro w47 hw; have hg : wr.grownBy w47 (some go42) := (by rw [hw]; exact HP46.2); have hp_ : Kd.R k32 32 w47 w.heap.size (fun k_ => some k_ ≠ (u226001 : Value).ownBlock) (.slice (some ⟨go42, 0, none⟩) x218001_4.length co45) y228 := (by rw [hw, Ny228.out]; exact HP46.1); clear HP46; have n0_ := Aside0.mk (Kd.R_over' (v := (.slice (some ⟨go42, 0, none⟩) x218001_4.length co45)) (by qk_; exact HO_218000.out) (Kd.R_typed HO_218001.out) (by decide) hg); have n1_ := Aside0.mk (hp_); have n2_ := Aside0.mk (Kd.R_over' (v := (.slice (some ⟨go42, 0, none⟩) x218001_4.length co45)) (by qk_; exact HO_226000.out) (Kd.R_typed HO_218001.out) (by decide) hg); have n3_ := Aside0.mk (Kd.R_after (v := (.slice (some ⟨go42, 0, none⟩) x218001_4.length co45)) (v1 := (.slice (some ⟨go42, 0, none⟩) x218001_4.length co45)) (ok := (fun _ => True)) (by qk_; exact Kd.R_mono HO_226001.out (fun _ hk => ⟨trivial, hk⟩)) hg (.inl rfl)); have n4_ := Aside0.mk (blk_grown (g := gb217) (o := .cells #[.slice Ao39 x218000_3.length co39, .slice (some ⟨go42, 0, none⟩) x218001_4.length co45] 26 (0, 0)) (by qb_; exact BK217.out) hg (Kd.R_ne HO_218001.out BK217.out (by decide))); have n5_ := Aside0.mk (blk_grown (g := gb225) (o := .cells #[u226000, u226001] 26 (0, 0)) (by qb_; exact BK225.out) hg (Kd.R_ne HO_218001.out BK225.out (by decide))); have n6_ := Aside0.mk ((by rw [hw]; exact below_set (below_set (HB.out) GB42.out) GB42.out : Below w.heap.size w w47)); clear HO_218000; clear HO_218001; clear HO_226000; clear HO_226001; clear BK217; clear BK225; clear HB; have HO_218000 := n0_; have HO_218001 := n1_; have HO_226000 := n2_; have HO_226001 := n3_; have BK217 := n4_; have BK225 := n5_; have HB := n6_; clear n0_ n1_ n2_ n3_ n4_ n5_ n6_; clear hg hw hp_))
                                go_roundg k4
                                case measure => have := HK1.out; have := HJ9.out; have := HK3.out; have := HK4.out; omega
                                case rel => exact ⟨(wrap64 (x9_4 + 1)), (y228), (x226001_4), (.slice (some ⟨go42, 0, none⟩) x218001_4.length co45), (u226001), (by qr_), H', ⟨by have := HK1.out; have := HJ9.out; have := HK3.out; have := HK4.out; omega⟩, ⟨by qk_; exact HO_218000.out⟩, ⟨by qk_; exact HO_218001.out⟩, ⟨by qk_; exact HO_226000.out⟩, ⟨by qk_; exact Kd.R_mono HO_226001.out (fun _ hk => hk.2)⟩, ⟨by qb_; exact BK217.out⟩, ⟨by qb_; exact BK225.out⟩, ⟨by repeat (first | (with_reducible first | qp_ | refine below_set ?_ GE217.out | refine below_set ?_ GE225.out) | exact HB.out)⟩⟩
                              · rw [if_neg c41] at H
                                exact absurd H (by simp)
                            · rw [if_neg c40] at H
                              have c40b0 : decide (x9_4 < (x218001_4.length : Int)) = false := decide_eq_false c40
                              clear c40
                              have H' := Aside0.mk H
                              clear H
                              have hnb48 := NB217_225.out
                              have hnc48 := NB225_217.out
                              have hcz49_0 : wr.cell? ⟨gb217, 0, none⟩ = some (.slice Ao39 x218000_3.length co39) := (blk_cell BK217.out 0).trans rfl
                              have hcz49_1 : wr.cell? ⟨gb217, 1, none⟩ = some (u218001) := (blk_cell BK217.out 1).trans rfl
                              have hfz49_0 := blk_frozen BK217.out 0
                              have hfz49_1 := blk_frozen BK217.out 1
                              obtain ⟨Ao50, co50, eo50⟩ := Kd.R_slice HO_218001.out
                              subst eo50
                              go_wp2
                              go_roundg k4
                              case measure => have := HK1.out; have := HJ9.out; have := HK3.out; have := HK4.out; omega
                              case rel => exact ⟨(wrap64 (x3_1 + 1)), (by qr_), H', ⟨by have := HK1.out; have := HJ9.out; have := HK3.out; have := HK4.out; omega⟩, ⟨by repeat (first | (with_reducible first | qp_ | refine below_set ?_ GE217.out | refine below_set ?_ GE225.out) | exact HB.out)⟩⟩
          · rw [if_neg c7] at H
            have c7b0 : decide (x3_1 < 2) = false := decide_eq_false c7
            clear c7
            obtain rfl := Option.some.inj H
            go_wp2
            go_ret
            exact ⟨by first | rfl | (simp [errW_none, errW_some] <;> rfl) | (simp [*, errW_none, errW_some] <;> rfl), by qh_⟩
  · replace c3 := Bool.eq_false_iff.mpr c3
    subst c3
    have H1 : (some false) = some r := by rw [if_neg (show ¬ (false = true) by decide)] at H; exact H
    clear H
    have H := H1
    clear H1
    obtain rfl := Option.some.inj H
    go_enter Tryd.func3, Tryd.ntmps3
    go_wp2_with (first | ((with_reducible refine gate_callee (f := 8) rfl ?_); refine goesL_ (some 10) rfl rfl Tryd.func8 (by kernel_rfl) rfl #[] rfl (by qm_) ?_; (with_reducible refine (xBegun.calls  false _ A2.out).mono ?_); rintro e w51 ⟨rfl, hb⟩; refine ⟨_, rfl, ?_⟩; have n0_ := Aside0.mk (below_step (by qh_) hb); clear HB; have HB := n0_; clear n0_; (try clear hb); (try clear hb2); (try clear hk); (try clear hi)))
    go_ret
    exact ⟨by first | rfl | (simp [errW_none, errW_some] <;> rfl) | (simp [*, errW_none, errW_some] <;> rfl), by qh_⟩

end Go.Proofs.YtejmolhdmbkfaaaDoor.S
