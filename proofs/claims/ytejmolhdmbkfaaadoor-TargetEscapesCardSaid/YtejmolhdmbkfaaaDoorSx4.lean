-- Written by wip/hook.py: the functions of this seat as plain Lean functions, and their walks.
import Derived.Test.YtejmolhdmbkfaaaDoorMay21
import Derived.Test.YtejmolhdmbkfaaaDoorSx0
import Derived.Test.YtejmolhdmbkfaaaDoorSx2
import Derived.Test.YtejmolhdmbkfaaaDoorSx3
namespace Go.Proofs.YtejmolhdmbkfaaaDoor.S
open Go.RowKit Go.Proofs.YtejmolhdmbkfaaaDoorW.PrintWords Go.Proofs.YtejmolhdmbkfaaaDoorW.PrintLast Go.Proofs.YtejmolhdmbkfaaaDoorW.PrintMore
attribute [local go_sem] max2_int min2_int max_two min_two max_three min_three max_four min_four   -- for this text's walks alone
set_option linter.unusedVariables false
set_option linter.unusedSimpArgs false

/-! ### target_query: function 22 -/
def target_query.l0 : Nat → List (S32) → List ByteArray → Int → Int → Option ((List (S32)) × Bool)
  | 0, _, _, _, _ => none
  | k + 1, x4, x15, x16, x17 => if x17 < x16 then (if 0 ≤ x17 then (if x17 < (x15.length : Int) then ((strings_Cut.f (rdOf ByteArray.empty x15 x17) (⟨#[61]⟩ : ByteArray)).bind fun bt139 => ((target_part.f k bt139.1).bind fun bt142 => ((target_part.f k bt139.2.1).bind fun bt144 => (if bt139.2.2 = true then (if bt142.2 = true then (if bt144.2 = true then (if bt142.1.toList = ([] : List UInt8) then (some (([] : List (S32)), false)) else (if x4.length < 4398046511104 then (target_query.l0 k (x4 ++ [(⟨bt142.1, bt144.1⟩ : S32)]) x15 x16 (wrap64 (x17 + 1))) else (none))) else (some (([] : List (S32)), false))) else (some (([] : List (S32)), false))) else (some (([] : List (S32)), false)))))) else (none)) else (none)) else (some (x4, true))
def target_query.f (k : Nat) (a0 : ByteArray) : Option ((List (S32)) × Bool) := (xSplit.f a0 (⟨#[38]⟩ : ByteArray)).bind fun t135 => (target_query.l0 k ([] : List (S32)) t135 (t135.length : Int) 0)
theorem target_query.mono_l : ∀ k, (∀ y0 y1 y2 y3, LeO (target_query.l0 k y0 y1 y2 y3) (target_query.l0 (k + 1) y0 y1 y2 y3))
  | 0 => fun _ _ _ _ r h => by simp [target_query.l0] at h
  | k + 1 => by
    have ih0 := target_query.mono_l k
    · intro y0 y1 y2 y3
      unfold target_query.l0
      repeat' first
      | (with_reducible exact ih0 _ _ _ _)
      | (with_reducible exact target_part.mono _ _)
      | (with_reducible exact LeO.refl _)
      | (with_reducible exact LeO.none _)
      | (with_reducible refine LeO.ite ?_ ?_)
      | (with_reducible refine LeO.bind ?_ (fun _ => ?_))
      | exact ih0 _ _ _ _
      | exact target_part.mono _ _
      | exact LeO.none _
      | refine LeO.ite ?_ ?_
      | refine LeO.bind ?_ (fun _ => ?_)
theorem target_query.mono : ∀ a0 k, LeO (target_query.f k a0) (target_query.f (k + 1) a0) := by
  intro a0 k
  have ih0 := target_query.mono_l k
  unfold target_query.f
  repeat' first
      | (with_reducible exact ih0 _ _ _ _)
      | (with_reducible exact target_part.mono _ _)
      | (with_reducible exact LeO.refl _)
      | (with_reducible exact LeO.none _)
      | (with_reducible refine LeO.ite ?_ ?_)
      | (with_reducible refine LeO.bind ?_ (fun _ => ?_))
      | exact ih0 _ _ _ _
      | exact target_part.mono _ _
      | exact LeO.none _
      | refine LeO.ite ?_ ?_
      | refine LeO.bind ?_ (fun _ => ?_)
set_option maxHeartbeats 8000000 in
set_option maxRecDepth 100000 in
theorem target_query.calls (k : Nat) (a0 : ByteArray) (r1 : List (S32)) (r2 : Bool) (w : World) (h : target_query.f k a0 = some (r1, r2)) :
    Calls Tryd.prog 22 #[.string a0] w fun e w' => ∃ v0_ : Value, e = .returned (.tuple #[v0_, .bool r2]) ∧ Kd.R k32 32 w' w.heap.size (fun _ => True) v0_ r1 ∧ Below w.heap.size w w' := by
  have hu32 := Tryd.underlying32
  have HB := Aside0.mk (Below.refl w.heap.size w)
  have H : ((xSplit.f a0 (⟨#[38]⟩ : ByteArray)).bind fun t135 => (target_query.l0 k ([] : List (S32)) t135 (t135.length : Int) 0)) = some (r1, r2) := h
  clear h
  replace H := Option.bind_eq_some_iff.mp H
  obtain ⟨t135, A20, H⟩ := H
  replace H : (target_query.l0 k ([] : List (S32)) t135 (t135.length : Int) 0) = some (r1, r2) := H
  have A2 := Aside0.mk A20
  clear A20
  have H' := Aside0.mk H
  clear H
  go_enter Tryd.func22, Tryd.ntmps22
  go_wp2_with (first | ((with_reducible refine gate_callee (f := 32) rfl ?_); refine goesL_ (some 15) rfl rfl Tryd.func32 (by kernel_rfl) rfl #[.string a0, .string (⟨#[38]⟩ : ByteArray)] rfl (by qm_) ?_; (with_reducible refine (xSplit.calls a0 (⟨#[38]⟩ : ByteArray) t135 _ A2.out).mono ?_); rintro e w3 ⟨v136, rfl, ho0, hb⟩; refine ⟨_, rfl, ?_⟩; have n0_ := Aside0.mk (Kd.R_lower ho0 (below_size (by qh_))); have n1_ := Aside0.mk (below_step (by qh_) hb); clear HB; have HO137 := n0_; have HB := n1_; clear n0_ n1_; (try clear hb); (try clear hb2); (try clear hk); (try clear hi); (try clear ho0); obtain ⟨Ao4, co4, eo4⟩ := Kd.R_slice HO137.out; subst eo4))
  go_loopg [4, 17] k (fun kq v4 v17 w' => ∃ (x4_1 : List (S32)) (x17_1 : Int), v17 = .int .i64 x17_1 ∧ Aside0 (target_query.l0 kq x4_1 t135 (t135.length : Int) x17_1 = some (r1, r2)) ∧ Aside0 (kq ≤ k) ∧ Aside0 (Kd.R k32 32 w' w.heap.size (fun _ => True) v4 x4_1) ∧ Aside0 (Kd.R Kd.string 9 w' w.heap.size (fun _ => True) (.slice Ao4 t135.length co4) t135) ∧ Aside0 (Below w.heap.size w w'))
  case atStart => exact ⟨(([] : List (S32))), (0), (by qr_), H', ⟨Nat.le_refl _⟩, ⟨by first | exact Kd.R_nil _ _ _ _ _ | exact Kd.N_nil _ _ _ _ _ | exact Kd.V_nil _ _ _ _ _ | exact Kd.Q_nil _ _ _ _ _ | exact Kd.S_nil _ _ _ _ _⟩, ⟨by qk_; exact HO137.out⟩, ⟨by qh_⟩⟩
  case round =>
    clear H'
    try clear c2
    try clear p2
    try clear c3
    obtain ⟨x4_1, x17_1, rfl, HA, HK1, HO_4, HO_15, HB⟩ := hrel
    cases gk with
    | zero => exact absurd HA.out (by simp [target_query.l0])
    | succ k1 =>
      have H := HA.out
      clear HA
      simp only [target_query.l0] at H
      by_cases c5 : x17_1 < (t135.length : Int)
      · rw [if_pos c5] at H
        have c5b0 : decide (x17_1 < (t135.length : Int)) = true := decide_eq_true c5
        clear c5
        by_cases c6 : 0 ≤ x17_1
        · rw [if_pos c6] at H
          have c6b0 : decide (0 ≤ x17_1) = true := decide_eq_true c6
          clear c6
          by_cases c7 : x17_1 < (t135.length : Int)
          · rw [if_pos c7] at H
            have c7b0 : decide (x17_1 < (t135.length : Int)) = true := decide_eq_true c7
            clear c7
            replace H := Option.bind_eq_some_iff.mp H
            obtain ⟨⟨t139, t140, t141⟩, A80, H⟩ := H
            replace H : ((target_part.f k1 t139).bind fun bt142 => ((target_part.f k1 t140).bind fun bt144 => (if t141 = true then (if bt142.2 = true then (if bt144.2 = true then (if bt142.1.toList = ([] : List UInt8) then (some (([] : List (S32)), false)) else (if x4_1.length < 4398046511104 then (target_query.l0 k1 (x4_1 ++ [(⟨bt142.1, bt144.1⟩ : S32)]) t135 (t135.length : Int) (wrap64 (x17_1 + 1))) else (none))) else (some (([] : List (S32)), false))) else (some (([] : List (S32)), false))) else (some (([] : List (S32)), false))))) = some (r1, r2) := H
            have A8 := Aside0.mk A80
            clear A80
            replace H := Option.bind_eq_some_iff.mp H
            obtain ⟨⟨t142, t143⟩, A90, H⟩ := H
            replace H : ((target_part.f k1 t140).bind fun bt144 => (if t141 = true then (if t143 = true then (if bt144.2 = true then (if t142.toList = ([] : List UInt8) then (some (([] : List (S32)), false)) else (if x4_1.length < 4398046511104 then (target_query.l0 k1 (x4_1 ++ [(⟨t142, bt144.1⟩ : S32)]) t135 (t135.length : Int) (wrap64 (x17_1 + 1))) else (none))) else (some (([] : List (S32)), false))) else (some (([] : List (S32)), false))) else (some (([] : List (S32)), false)))) = some (r1, r2) := H
            have A9 := Aside0.mk A90
            clear A90
            replace H := Option.bind_eq_some_iff.mp H
            obtain ⟨⟨t144, t145⟩, A100, H⟩ := H
            replace H : (if t141 = true then (if t143 = true then (if t145 = true then (if t142.toList = ([] : List UInt8) then (some (([] : List (S32)), false)) else (if x4_1.length < 4398046511104 then (target_query.l0 k1 (x4_1 ++ [(⟨t142, t144⟩ : S32)]) t135 (t135.length : Int) (wrap64 (x17_1 + 1))) else (none))) else (some (([] : List (S32)), false))) else (some (([] : List (S32)), false))) else (some (([] : List (S32)), false))) = some (r1, r2) := H
            have A10 := Aside0.mk A100
            clear A100
            by_cases c11 : t141 = true
            · subst c11
              have H1 : (if t143 = true then (if t145 = true then (if t142.toList = ([] : List UInt8) then (some (([] : List (S32)), false)) else (if x4_1.length < 4398046511104 then (target_query.l0 k1 (x4_1 ++ [(⟨t142, t144⟩ : S32)]) t135 (t135.length : Int) (wrap64 (x17_1 + 1))) else (none))) else (some (([] : List (S32)), false))) else (some (([] : List (S32)), false))) = some (r1, r2) := by rw [if_pos rfl] at H; exact H
              clear H
              have H := H1
              clear H1
              by_cases c12 : t143 = true
              · subst c12
                have H1 : (if t145 = true then (if t142.toList = ([] : List UInt8) then (some (([] : List (S32)), false)) else (if x4_1.length < 4398046511104 then (target_query.l0 k1 (x4_1 ++ [(⟨t142, t144⟩ : S32)]) t135 (t135.length : Int) (wrap64 (x17_1 + 1))) else (none))) else (some (([] : List (S32)), false))) = some (r1, r2) := by rw [if_pos rfl] at H; exact H
                clear H
                have H := H1
                clear H1
                by_cases c13 : t145 = true
                · subst c13
                  have H1 : (if t142.toList = ([] : List UInt8) then (some (([] : List (S32)), false)) else (if x4_1.length < 4398046511104 then (target_query.l0 k1 (x4_1 ++ [(⟨t142, t144⟩ : S32)]) t135 (t135.length : Int) (wrap64 (x17_1 + 1))) else (none))) = some (r1, r2) := by rw [if_pos rfl] at H; exact H
                  clear H
                  have H := H1
                  clear H1
                  by_cases c14 : t142.toList = ([] : List UInt8)
                  · rw [if_pos c14] at H
                    have c14b0 : (t142.toList == ([] : List UInt8)) = true := beq_iff_eq.mpr c14
                    have c14b1 : (t142.toList != ([] : List UInt8)) = false := bne_eq_false_iff_eq.mpr c14
                    clear c14
                    simp only [Option.some.injEq, Prod.mk.injEq] at H
                    obtain ⟨rfl, rfl⟩ := H
                    have p138 : 0 ≤ (x17_1 : Int) := of_decide_eq_true (by qa_)
                    have q138 : x17_1 < (t135.length : Int) := of_decide_eq_true (by qa_)
                    obtain ⟨ad138, e138, hx138_0⟩ := Kd.at_string (Kd.R_reads' HO_15.out).2.2 x17_1 p138 q138
                    cases e138
                    replace p138 := eq_true p138
                    replace q138 := eq_true q138
                    go_wp2_with (first | ((with_reducible refine gate_callee (f := 20) rfl ?_); refine goesL_ (some 23) rfl rfl Tryd.func20 (by kernel_rfl) rfl #[.string (rdOf ByteArray.empty t135 x17_1), .string (⟨#[61]⟩ : ByteArray)] rfl (by qm_) ?_; (with_reducible refine (strings_Cut.calls (rdOf ByteArray.empty t135 x17_1) (⟨#[61]⟩ : ByteArray) t139 t140 true _ A8.out).mono ?_); rintro e w' ⟨rfl, ⟨nd, rfl⟩⟩; refine ⟨_, rfl, ?_⟩) | ((with_reducible refine gate_callee (f := 33) rfl ?_); refine goesL_ (some 29) rfl rfl Tryd.func33 (by kernel_rfl) rfl #[.string t139] rfl (by qm_) ?_; (with_reducible refine (target_part.calls k1 t139 t142 true _ A9.out).mono ?_); rintro e w15 ⟨rfl, hb⟩; refine ⟨_, rfl, ?_⟩; have n0_ := Aside0.mk (Kd.R_below (by qk_; exact HO_4.out) hb); have n1_ := Aside0.mk (Kd.R_below (by qk_; exact HO_15.out) hb); have n2_ := Aside0.mk (below_step (by qh_) hb); clear HO_4; clear HO_15; clear HB; have HO_4 := n0_; have HO_15 := n1_; have HB := n2_; clear n0_ n1_ n2_; (try clear hb); (try clear hb2); (try clear hk); (try clear hi)) | ((with_reducible refine gate_callee (f := 33) rfl ?_); refine goesL_ (some 34) rfl rfl Tryd.func33 (by kernel_rfl) rfl #[.string t140] rfl (by qm_) ?_; (with_reducible refine (target_part.calls k1 t140 t144 true _ A10.out).mono ?_); rintro e w16 ⟨rfl, hb⟩; refine ⟨_, rfl, ?_⟩; have n0_ := Aside0.mk (Kd.R_below (by qk_; exact HO_4.out) hb); have n1_ := Aside0.mk (Kd.R_below (by qk_; exact HO_15.out) hb); have n2_ := Aside0.mk (below_step (by qh_) hb); clear HO_4; clear HO_15; clear HB; have HO_4 := n0_; have HO_15 := n1_; have HB := n2_; clear n0_ n1_ n2_; (try clear hb); (try clear hb2); (try clear hk); (try clear hi)))
                    go_ret2
                    exact ⟨_, by first | rfl | (simp [errW_none, errW_some] <;> rfl) | (simp [*, errW_none, errW_some] <;> rfl), by first | exact Kd.R_nil _ _ _ _ _ | exact Kd.N_nil _ _ _ _ _ | exact Kd.V_nil _ _ _ _ _ | exact Kd.Q_nil _ _ _ _ _ | exact Kd.S_nil _ _ _ _ _, by qh_⟩
                  · rw [if_neg c14] at H
                    have c14b0 : (t142.toList == ([] : List UInt8)) = false := beq_eq_false_iff_ne.mpr c14
                    have c14b1 : (t142.toList != ([] : List UInt8)) = true := bne_iff_ne.mpr c14
                    by_cases c17 : x4_1.length < 4398046511104
                    · rw [if_pos c17] at H
                      have LMc17 := Aside0.mk c17
                      clear c17
                      obtain ⟨y146, hy146⟩ : ∃ y_ : List (S32), y_ = (x4_1 ++ [(⟨t142, t144⟩ : S32)]) := ⟨_, rfl⟩
                      replace H : (target_query.l0 k1 y146 t135 (t135.length : Int) (wrap64 (x17_1 + 1))) = some (r1, r2) := by first | (rw [hy146]; with_reducible exact H) | (have H2_ := (Option.bind_some _ _).symm.trans H; rw [hy146]; with_reducible exact H2_) | (have H2_ := (Option.bind_some _ _).symm.trans H; with_reducible exact H2_) | with_reducible exact H | (rw [hy146]; exact H) | exact H
                      have Ny146 := Aside0.mk hy146
                      clear hy146
                      have H' := Aside0.mk H
                      clear H
                      have p138 : 0 ≤ (x17_1 : Int) := of_decide_eq_true (by qa_)
                      have q138 : x17_1 < (t135.length : Int) := of_decide_eq_true (by qa_)
                      obtain ⟨ad138, e138, hx138_0⟩ := Kd.at_string (Kd.R_reads' HO_15.out).2.2 x17_1 p138 q138
                      cases e138
                      replace p138 := eq_true p138
                      replace q138 := eq_true q138
                      go_wp2_with (first | ((with_reducible refine gate_callee (f := 20) rfl ?_); refine goesL_ (some 23) rfl rfl Tryd.func20 (by kernel_rfl) rfl #[.string (rdOf ByteArray.empty t135 x17_1), .string (⟨#[61]⟩ : ByteArray)] rfl (by qm_) ?_; (with_reducible refine (strings_Cut.calls (rdOf ByteArray.empty t135 x17_1) (⟨#[61]⟩ : ByteArray) t139 t140 true _ A8.out).mono ?_); rintro e w' ⟨rfl, ⟨nd, rfl⟩⟩; refine ⟨_, rfl, ?_⟩) | ((with_reducible refine gate_callee (f := 33) rfl ?_); refine goesL_ (some 29) rfl rfl Tryd.func33 (by kernel_rfl) rfl #[.string t139] rfl (by qm_) ?_; (with_reducible refine (target_part.calls k1 t139 t142 true _ A9.out).mono ?_); rintro e w18 ⟨rfl, hb⟩; refine ⟨_, rfl, ?_⟩; have n0_ := Aside0.mk (Kd.R_below (by qk_; exact HO_4.out) hb); have n1_ := Aside0.mk (Kd.R_below (by qk_; exact HO_15.out) hb); have n2_ := Aside0.mk (below_step (by qh_) hb); clear HO_4; clear HO_15; clear HB; have HO_4 := n0_; have HO_15 := n1_; have HB := n2_; clear n0_ n1_ n2_; (try clear hb); (try clear hb2); (try clear hk); (try clear hi)) | ((with_reducible refine gate_callee (f := 33) rfl ?_); refine goesL_ (some 34) rfl rfl Tryd.func33 (by kernel_rfl) rfl #[.string t140] rfl (by qm_) ?_; (with_reducible refine (target_part.calls k1 t140 t144 true _ A10.out).mono ?_); rintro e w19 ⟨rfl, hb⟩; refine ⟨_, rfl, ?_⟩; have n0_ := Aside0.mk (Kd.R_below (by qk_; exact HO_4.out) hb); have n1_ := Aside0.mk (Kd.R_below (by qk_; exact HO_15.out) hb); have n2_ := Aside0.mk (below_step (by qh_) hb); clear HO_4; clear HO_15; clear HB; have HO_4 := n0_; have HO_15 := n1_; have HB := n2_; clear n0_ n1_ n2_; (try clear hb); (try clear hb2); (try clear hk); (try clear hi)) | ((with_reducible refine gate_builtin (b := .append) (xs := #[.tmp 51, .tmp 55]) rfl ?_); at_builtin; refine Kd.R_append k32 (w0 := w) w.heap.size rfl (.tmp 51) (.tmp 55) 24 32 (.agg #[(.string ⟨#[]⟩), (.string ⟨#[]⟩)]) 32 rfl Tryd.underlying24 info32 rfl (by decide) (by omega) u4 x4_1 (⟨t142, t144⟩ : S32) [.string t142, .string t144] (fun _ => True) (fun _ => False) rfl rfl ?aP (fun _ hk => hk.elim) ?aF ?aO ?aB ?aS ?aL ?_; (case aP => exact k32_mkM _ _ _ (⟨t142, t144⟩ : S32)); (case aB => exact (by qh_)); (case aF => exact (fun _ _ => trivial)); (case aO => exact (by qk_; exact HO_4.out)); (case aS => exact (below_size (by qh_))); (case aL => have := LMc17.out; omega); intro v147 w20 ho hb hg hat; rw [← Ny146.out] at ho; have n0_ := Aside0.mk (Kd.R_over' (by qk_; exact HO_15.out) (Kd.R_typed (by qk_; exact HO_4.out)) (by decide) hg); have n1_ := Aside0.mk (hb); have n2_ := Aside0.mk (ho); clear HO_15; clear HB; clear HO_4; have HO_15 := n0_; have HB := n1_; have HO148 := n2_; clear n0_ n1_ n2_; clear ho hb hg hat))
                      go_roundg k1
                      case measure => have := HK1.out; omega
                      case rel => exact ⟨(y146), (wrap64 (x17_1 + 1)), (by qr_), H', ⟨by have := HK1.out; omega⟩, ⟨by qk_; exact HO148.out⟩, ⟨by qk_; exact HO_15.out⟩, ⟨by qh_⟩⟩
                    · rw [if_neg c17] at H
                      exact absurd H (by simp)
                · replace c13 := Bool.eq_false_iff.mpr c13
                  subst c13
                  have H1 : (some (([] : List (S32)), false)) = some (r1, r2) := by rw [if_neg (show ¬ (false = true) by decide)] at H; exact H
                  clear H
                  have H := H1
                  clear H1
                  simp only [Option.some.injEq, Prod.mk.injEq] at H
                  obtain ⟨rfl, rfl⟩ := H
                  have p138 : 0 ≤ (x17_1 : Int) := of_decide_eq_true (by qa_)
                  have q138 : x17_1 < (t135.length : Int) := of_decide_eq_true (by qa_)
                  obtain ⟨ad138, e138, hx138_0⟩ := Kd.at_string (Kd.R_reads' HO_15.out).2.2 x17_1 p138 q138
                  cases e138
                  replace p138 := eq_true p138
                  replace q138 := eq_true q138
                  go_wp2_with (first | ((with_reducible refine gate_callee (f := 20) rfl ?_); refine goesL_ (some 23) rfl rfl Tryd.func20 (by kernel_rfl) rfl #[.string (rdOf ByteArray.empty t135 x17_1), .string (⟨#[61]⟩ : ByteArray)] rfl (by qm_) ?_; (with_reducible refine (strings_Cut.calls (rdOf ByteArray.empty t135 x17_1) (⟨#[61]⟩ : ByteArray) t139 t140 true _ A8.out).mono ?_); rintro e w' ⟨rfl, ⟨nd, rfl⟩⟩; refine ⟨_, rfl, ?_⟩) | ((with_reducible refine gate_callee (f := 33) rfl ?_); refine goesL_ (some 29) rfl rfl Tryd.func33 (by kernel_rfl) rfl #[.string t139] rfl (by qm_) ?_; (with_reducible refine (target_part.calls k1 t139 t142 true _ A9.out).mono ?_); rintro e w21 ⟨rfl, hb⟩; refine ⟨_, rfl, ?_⟩; have n0_ := Aside0.mk (Kd.R_below (by qk_; exact HO_4.out) hb); have n1_ := Aside0.mk (Kd.R_below (by qk_; exact HO_15.out) hb); have n2_ := Aside0.mk (below_step (by qh_) hb); clear HO_4; clear HO_15; clear HB; have HO_4 := n0_; have HO_15 := n1_; have HB := n2_; clear n0_ n1_ n2_; (try clear hb); (try clear hb2); (try clear hk); (try clear hi)) | ((with_reducible refine gate_callee (f := 33) rfl ?_); refine goesL_ (some 34) rfl rfl Tryd.func33 (by kernel_rfl) rfl #[.string t140] rfl (by qm_) ?_; (with_reducible refine (target_part.calls k1 t140 t144 false _ A10.out).mono ?_); rintro e w22 ⟨rfl, hb⟩; refine ⟨_, rfl, ?_⟩; have n0_ := Aside0.mk (Kd.R_below (by qk_; exact HO_4.out) hb); have n1_ := Aside0.mk (Kd.R_below (by qk_; exact HO_15.out) hb); have n2_ := Aside0.mk (below_step (by qh_) hb); clear HO_4; clear HO_15; clear HB; have HO_4 := n0_; have HO_15 := n1_; have HB := n2_; clear n0_ n1_ n2_; (try clear hb); (try clear hb2); (try clear hk); (try clear hi)))
                  go_ret2
                  exact ⟨_, by first | rfl | (simp [errW_none, errW_some] <;> rfl) | (simp [*, errW_none, errW_some] <;> rfl), by first | exact Kd.R_nil _ _ _ _ _ | exact Kd.N_nil _ _ _ _ _ | exact Kd.V_nil _ _ _ _ _ | exact Kd.Q_nil _ _ _ _ _ | exact Kd.S_nil _ _ _ _ _, by qh_⟩
              · replace c12 := Bool.eq_false_iff.mpr c12
                subst c12
                have H1 : (some (([] : List (S32)), false)) = some (r1, r2) := by rw [if_neg (show ¬ (false = true) by decide)] at H; exact H
                clear H
                have H := H1
                clear H1
                simp only [Option.some.injEq, Prod.mk.injEq] at H
                obtain ⟨rfl, rfl⟩ := H
                have p138 : 0 ≤ (x17_1 : Int) := of_decide_eq_true (by qa_)
                have q138 : x17_1 < (t135.length : Int) := of_decide_eq_true (by qa_)
                obtain ⟨ad138, e138, hx138_0⟩ := Kd.at_string (Kd.R_reads' HO_15.out).2.2 x17_1 p138 q138
                cases e138
                replace p138 := eq_true p138
                replace q138 := eq_true q138
                go_wp2_with (first | ((with_reducible refine gate_callee (f := 20) rfl ?_); refine goesL_ (some 23) rfl rfl Tryd.func20 (by kernel_rfl) rfl #[.string (rdOf ByteArray.empty t135 x17_1), .string (⟨#[61]⟩ : ByteArray)] rfl (by qm_) ?_; (with_reducible refine (strings_Cut.calls (rdOf ByteArray.empty t135 x17_1) (⟨#[61]⟩ : ByteArray) t139 t140 true _ A8.out).mono ?_); rintro e w' ⟨rfl, ⟨nd, rfl⟩⟩; refine ⟨_, rfl, ?_⟩) | ((with_reducible refine gate_callee (f := 33) rfl ?_); refine goesL_ (some 29) rfl rfl Tryd.func33 (by kernel_rfl) rfl #[.string t139] rfl (by qm_) ?_; (with_reducible refine (target_part.calls k1 t139 t142 false _ A9.out).mono ?_); rintro e w23 ⟨rfl, hb⟩; refine ⟨_, rfl, ?_⟩; have n0_ := Aside0.mk (Kd.R_below (by qk_; exact HO_4.out) hb); have n1_ := Aside0.mk (Kd.R_below (by qk_; exact HO_15.out) hb); have n2_ := Aside0.mk (below_step (by qh_) hb); clear HO_4; clear HO_15; clear HB; have HO_4 := n0_; have HO_15 := n1_; have HB := n2_; clear n0_ n1_ n2_; (try clear hb); (try clear hb2); (try clear hk); (try clear hi)) | ((with_reducible refine gate_callee (f := 33) rfl ?_); refine goesL_ (some 34) rfl rfl Tryd.func33 (by kernel_rfl) rfl #[.string t140] rfl (by qm_) ?_; (with_reducible refine (target_part.calls k1 t140 t144 t145 _ A10.out).mono ?_); rintro e w24 ⟨rfl, hb⟩; refine ⟨_, rfl, ?_⟩; have n0_ := Aside0.mk (Kd.R_below (by qk_; exact HO_4.out) hb); have n1_ := Aside0.mk (Kd.R_below (by qk_; exact HO_15.out) hb); have n2_ := Aside0.mk (below_step (by qh_) hb); clear HO_4; clear HO_15; clear HB; have HO_4 := n0_; have HO_15 := n1_; have HB := n2_; clear n0_ n1_ n2_; (try clear hb); (try clear hb2); (try clear hk); (try clear hi)))
                go_ret2
                exact ⟨_, by first | rfl | (simp [errW_none, errW_some] <;> rfl) | (simp [*, errW_none, errW_some] <;> rfl), by first | exact Kd.R_nil _ _ _ _ _ | exact Kd.N_nil _ _ _ _ _ | exact Kd.V_nil _ _ _ _ _ | exact Kd.Q_nil _ _ _ _ _ | exact Kd.S_nil _ _ _ _ _, by qh_⟩
            · replace c11 := Bool.eq_false_iff.mpr c11
              subst c11
              have H1 : (some (([] : List (S32)), false)) = some (r1, r2) := by rw [if_neg (show ¬ (false = true) by decide)] at H; exact H
              clear H
              have H := H1
              clear H1
              simp only [Option.some.injEq, Prod.mk.injEq] at H
              obtain ⟨rfl, rfl⟩ := H
              have p138 : 0 ≤ (x17_1 : Int) := of_decide_eq_true (by qa_)
              have q138 : x17_1 < (t135.length : Int) := of_decide_eq_true (by qa_)
              obtain ⟨ad138, e138, hx138_0⟩ := Kd.at_string (Kd.R_reads' HO_15.out).2.2 x17_1 p138 q138
              cases e138
              replace p138 := eq_true p138
              replace q138 := eq_true q138
              go_wp2_with (first | ((with_reducible refine gate_callee (f := 20) rfl ?_); refine goesL_ (some 23) rfl rfl Tryd.func20 (by kernel_rfl) rfl #[.string (rdOf ByteArray.empty t135 x17_1), .string (⟨#[61]⟩ : ByteArray)] rfl (by qm_) ?_; (with_reducible refine (strings_Cut.calls (rdOf ByteArray.empty t135 x17_1) (⟨#[61]⟩ : ByteArray) t139 t140 false _ A8.out).mono ?_); rintro e w' ⟨rfl, ⟨nd, rfl⟩⟩; refine ⟨_, rfl, ?_⟩) | ((with_reducible refine gate_callee (f := 33) rfl ?_); refine goesL_ (some 29) rfl rfl Tryd.func33 (by kernel_rfl) rfl #[.string t139] rfl (by qm_) ?_; (with_reducible refine (target_part.calls k1 t139 t142 t143 _ A9.out).mono ?_); rintro e w25 ⟨rfl, hb⟩; refine ⟨_, rfl, ?_⟩; have n0_ := Aside0.mk (Kd.R_below (by qk_; exact HO_4.out) hb); have n1_ := Aside0.mk (Kd.R_below (by qk_; exact HO_15.out) hb); have n2_ := Aside0.mk (below_step (by qh_) hb); clear HO_4; clear HO_15; clear HB; have HO_4 := n0_; have HO_15 := n1_; have HB := n2_; clear n0_ n1_ n2_; (try clear hb); (try clear hb2); (try clear hk); (try clear hi)) | ((with_reducible refine gate_callee (f := 33) rfl ?_); refine goesL_ (some 34) rfl rfl Tryd.func33 (by kernel_rfl) rfl #[.string t140] rfl (by qm_) ?_; (with_reducible refine (target_part.calls k1 t140 t144 t145 _ A10.out).mono ?_); rintro e w26 ⟨rfl, hb⟩; refine ⟨_, rfl, ?_⟩; have n0_ := Aside0.mk (Kd.R_below (by qk_; exact HO_4.out) hb); have n1_ := Aside0.mk (Kd.R_below (by qk_; exact HO_15.out) hb); have n2_ := Aside0.mk (below_step (by qh_) hb); clear HO_4; clear HO_15; clear HB; have HO_4 := n0_; have HO_15 := n1_; have HB := n2_; clear n0_ n1_ n2_; (try clear hb); (try clear hb2); (try clear hk); (try clear hi)))
              go_ret2
              exact ⟨_, by first | rfl | (simp [errW_none, errW_some] <;> rfl) | (simp [*, errW_none, errW_some] <;> rfl), by first | exact Kd.R_nil _ _ _ _ _ | exact Kd.N_nil _ _ _ _ _ | exact Kd.V_nil _ _ _ _ _ | exact Kd.Q_nil _ _ _ _ _ | exact Kd.S_nil _ _ _ _ _, by qh_⟩
          · rw [if_neg c7] at H
            exact absurd H (by simp)
        · rw [if_neg c6] at H
          exact absurd H (by simp)
      · rw [if_neg c5] at H
        have c5b0 : decide (x17_1 < (t135.length : Int)) = false := decide_eq_false c5
        clear c5
        simp only [Option.some.injEq, Prod.mk.injEq] at H
        obtain ⟨rfl, rfl⟩ := H
        go_wp2
        go_ret2
        exact ⟨_, by first | rfl | (simp [errW_none, errW_some] <;> rfl) | (simp [*, errW_none, errW_some] <;> rfl), by qk_; exact HO_4.out, by qh_⟩

/-! ### target_Parse: function 9 -/
def target_Parse.f (k : Nat) (a0 : ByteArray) : Option (List ByteArray × (List (S32)) × Int) := (strings_Cut.f a0 (⟨#[63]⟩ : ByteArray)).bind fun bt150 => ((target_path.f k bt150.1).bind fun bt154 => (if bt154.2 = true then (if bt150.2.2 = true then ((target_query.f k bt150.2.1).bind fun bt158 => (if bt158.2 = true then ((xMay.f bt154.1 bt158.1).bind fun t162 => (if t162 = true then (some (bt154.1, bt158.1, 0)) else (some (([] : List ByteArray), ([] : List (S32)), 6)))) else (some (([] : List ByteArray), ([] : List (S32)), 4)))) else ((xMay.f bt154.1 ([] : List (S32))).bind fun t163 => (if t163 = true then (some (bt154.1, ([] : List (S32)), 0)) else (some (([] : List ByteArray), ([] : List (S32)), 6))))) else (some (([] : List ByteArray), ([] : List (S32)), 4))))
theorem target_Parse.mono : ∀ a0 k, LeO (target_Parse.f k a0) (target_Parse.f (k + 1) a0) := by
  intro a0 k
  unfold target_Parse.f
  repeat' first
      | (with_reducible exact target_path.mono _ _)
      | (with_reducible exact target_query.mono _ _)
      | (with_reducible exact LeO.refl _)
      | (with_reducible exact LeO.none _)
      | (with_reducible refine LeO.ite ?_ ?_)
      | (with_reducible refine LeO.bind ?_ (fun _ => ?_))
      | exact target_path.mono _ _
      | exact target_query.mono _ _
      | exact LeO.none _
      | refine LeO.ite ?_ ?_
      | refine LeO.bind ?_ (fun _ => ?_)
set_option maxHeartbeats 8000000 in
set_option maxRecDepth 100000 in
theorem target_Parse.calls (k : Nat) (a0 : ByteArray) (r1 : List ByteArray) (r2 : List (S32)) (r3 : Int) (w : World) (h : target_Parse.f k a0 = some (r1, r2, r3)) :
    Calls Tryd.prog 9 #[.string a0] w fun e w' => ∃ v0_ v1_ : Value, e = .returned (.tuple #[.agg #[v0_, v1_], .int .i64 r3]) ∧ Kd.R Kd.string 9 w' w.heap.size (fun _ => True) v0_ r1 ∧ Kd.R k32 32 w' w.heap.size (fun _ => True) v1_ r2 ∧ Below w.heap.size w w' := by
  have hu26 := Tryd.underlying26
  have HB := Aside0.mk (Below.refl w.heap.size w)
  have H : ((strings_Cut.f a0 (⟨#[63]⟩ : ByteArray)).bind fun bt150 => ((target_path.f k bt150.1).bind fun bt154 => (if bt154.2 = true then (if bt150.2.2 = true then ((target_query.f k bt150.2.1).bind fun bt158 => (if bt158.2 = true then ((xMay.f bt154.1 bt158.1).bind fun t162 => (if t162 = true then (some (bt154.1, bt158.1, 0)) else (some (([] : List ByteArray), ([] : List (S32)), 6)))) else (some (([] : List ByteArray), ([] : List (S32)), 4)))) else ((xMay.f bt154.1 ([] : List (S32))).bind fun t163 => (if t163 = true then (some (bt154.1, ([] : List (S32)), 0)) else (some (([] : List ByteArray), ([] : List (S32)), 6))))) else (some (([] : List ByteArray), ([] : List (S32)), 4))))) = some (r1, r2, r3) := h
  clear h
  replace H := Option.bind_eq_some_iff.mp H
  obtain ⟨⟨t150, t151, t152⟩, A20, H⟩ := H
  replace H : ((target_path.f k t150).bind fun bt154 => (if bt154.2 = true then (if t152 = true then ((target_query.f k t151).bind fun bt158 => (if bt158.2 = true then ((xMay.f bt154.1 bt158.1).bind fun t162 => (if t162 = true then (some (bt154.1, bt158.1, 0)) else (some (([] : List ByteArray), ([] : List (S32)), 6)))) else (some (([] : List ByteArray), ([] : List (S32)), 4)))) else ((xMay.f bt154.1 ([] : List (S32))).bind fun t163 => (if t163 = true then (some (bt154.1, ([] : List (S32)), 0)) else (some (([] : List ByteArray), ([] : List (S32)), 6))))) else (some (([] : List ByteArray), ([] : List (S32)), 4)))) = some (r1, r2, r3) := H
  have A2 := Aside0.mk A20
  clear A20
  replace H := Option.bind_eq_some_iff.mp H
  obtain ⟨⟨t154, t155⟩, A30, H⟩ := H
  replace H : (if t155 = true then (if t152 = true then ((target_query.f k t151).bind fun bt158 => (if bt158.2 = true then ((xMay.f t154 bt158.1).bind fun t162 => (if t162 = true then (some (t154, bt158.1, 0)) else (some (([] : List ByteArray), ([] : List (S32)), 6)))) else (some (([] : List ByteArray), ([] : List (S32)), 4)))) else ((xMay.f t154 ([] : List (S32))).bind fun t163 => (if t163 = true then (some (t154, ([] : List (S32)), 0)) else (some (([] : List ByteArray), ([] : List (S32)), 6))))) else (some (([] : List ByteArray), ([] : List (S32)), 4))) = some (r1, r2, r3) := H
  have A3 := Aside0.mk A30
  clear A30
  by_cases c4 : t155 = true
  · subst c4
    have H1 : (if t152 = true then ((target_query.f k t151).bind fun bt158 => (if bt158.2 = true then ((xMay.f t154 bt158.1).bind fun t162 => (if t162 = true then (some (t154, bt158.1, 0)) else (some (([] : List ByteArray), ([] : List (S32)), 6)))) else (some (([] : List ByteArray), ([] : List (S32)), 4)))) else ((xMay.f t154 ([] : List (S32))).bind fun t163 => (if t163 = true then (some (t154, ([] : List (S32)), 0)) else (some (([] : List ByteArray), ([] : List (S32)), 6))))) = some (r1, r2, r3) := by rw [if_pos rfl] at H; exact H
    clear H
    have H := H1
    clear H1
    by_cases c5 : t152 = true
    · subst c5
      have H1 : ((target_query.f k t151).bind fun bt158 => (if bt158.2 = true then ((xMay.f t154 bt158.1).bind fun t162 => (if t162 = true then (some (t154, bt158.1, 0)) else (some (([] : List ByteArray), ([] : List (S32)), 6)))) else (some (([] : List ByteArray), ([] : List (S32)), 4)))) = some (r1, r2, r3) := by rw [if_pos rfl] at H; exact H
      clear H
      have H := H1
      clear H1
      replace H := Option.bind_eq_some_iff.mp H
      obtain ⟨⟨t158, t159⟩, A60, H⟩ := H
      replace H : (if t159 = true then ((xMay.f t154 t158).bind fun t162 => (if t162 = true then (some (t154, t158, 0)) else (some (([] : List ByteArray), ([] : List (S32)), 6)))) else (some (([] : List ByteArray), ([] : List (S32)), 4))) = some (r1, r2, r3) := H
      have A6 := Aside0.mk A60
      clear A60
      by_cases c7 : t159 = true
      · subst c7
        have H1 : ((xMay.f t154 t158).bind fun t162 => (if t162 = true then (some (t154, t158, 0)) else (some (([] : List ByteArray), ([] : List (S32)), 6)))) = some (r1, r2, r3) := by rw [if_pos rfl] at H; exact H
        clear H
        have H := H1
        clear H1
        replace H := Option.bind_eq_some_iff.mp H
        obtain ⟨t162, A80, H⟩ := H
        replace H : (if t162 = true then (some (t154, t158, 0)) else (some (([] : List ByteArray), ([] : List (S32)), 6))) = some (r1, r2, r3) := H
        have A8 := Aside0.mk A80
        clear A80
        by_cases c9 : t162 = true
        · subst c9
          have H1 : (some (t154, t158, 0)) = some (r1, r2, r3) := by rw [if_pos rfl] at H; exact H
          clear H
          have H := H1
          clear H1
          simp only [Option.some.injEq, Prod.mk.injEq] at H
          obtain ⟨rfl, rfl, rfl⟩ := H
          go_enter Tryd.func9, Tryd.ntmps9
          go_wp2_with (first | ((with_reducible refine gate_dst (N := 2) rfl ?_); refine box_event ?hg (N := 2) ?hd (cs := #[.slice none 0 0, .slice none 0 0]) (t := 26) ?hr ?_; (case hd => rfl); (case hg => rfl); (case hr => first | (go_simp; done) | (go_simp; rfl)); intro gb149 hg w10 hbox hb; have n0_ := Aside0.mk (below_step (by qh_) hb); have n1_ := Aside0.mk (hbox); have n2_ := Aside0.mk ((by rw [hg]; exact (below_size (by qh_)) : w.heap.size ≤ gb149)); have n3_ := Aside0.mk ((by rw [hg]; exact (below_size (by qh_)) : w.heap.size ≤ gb149)); clear HB; have HB := n0_; have BK149 := n1_; have GW149 := n2_; have GE149 := n3_; clear n0_ n1_ n2_ n3_; clear hb hbox hg) | ((with_reducible refine gate_callee (f := 20) rfl ?_); refine goesL_ (some 11) rfl rfl Tryd.func20 (by kernel_rfl) rfl #[.string a0, .string (⟨#[63]⟩ : ByteArray)] rfl (by qm_) ?_; (with_reducible refine (strings_Cut.calls a0 (⟨#[63]⟩ : ByteArray) t150 t151 true _ A2.out).mono ?_); rintro e w' ⟨rfl, ⟨nd, rfl⟩⟩; refine ⟨_, rfl, ?_⟩; (try (rw [drewN_self w10]; generalize hq_ : World.drewN w10 _ = w10; have n0_ : Aside0 (w10.heap[gb149]? = some (.cells #[.slice none 0 0, .slice none 0 0] 26 (0, 0))) := ⟨by rw [← hq_]; exact (by qb_; exact BK149.out)⟩; have n1_ : Aside0 (Below w.heap.size w w10) := ⟨by rw [← hq_]; exact (by repeat (first | (with_reducible first | qp_ | refine below_set ?_ GE149.out) | exact HB.out))⟩; clear BK149 HB hq_; have BK149 := n0_; have HB := n1_; clear n0_ n1_))) | ((with_reducible refine gate_dst (N := 7) rfl ?_); refine box_event ?hg (N := 7) ?hd (cs := #[.slice none 0 0, .slice none 0 0]) (t := 26) ?hr ?_; (case hd => rfl); (case hg => rfl); (case hr => first | (go_simp; done) | (go_simp; rfl)); intro gb153 hg w11 hbox hb; have n0_ := Aside0.mk (blk_below (g := gb149) (o := .cells #[.slice none 0 0, .slice none 0 0] 26 (0, 0)) (by qb_; exact BK149.out) hb); have n1_ := Aside0.mk (below_step (by repeat (first | (with_reducible first | qp_ | refine below_set ?_ GE149.out) | exact HB.out)) hb); have n2_ := Aside0.mk (hbox); have n3_ := Aside0.mk ((by rw [hg]; exact (below_size (by repeat (first | (with_reducible first | qp_ | refine below_set ?_ GE149.out) | exact HB.out))) : w.heap.size ≤ gb153)); have n4_ := Aside0.mk ((by rw [hg]; exact (below_size (by repeat (first | (with_reducible first | qp_ | refine below_set ?_ GE149.out) | exact HB.out))) : w.heap.size ≤ gb153)); have n5_ := Aside0.mk ((by rw [hg]; exact Nat.ne_of_lt (blk_lt (g := gb149) (o := .cells #[.slice none 0 0, .slice none 0 0] 26 (0, 0)) (by qb_; exact BK149.out)) : gb149 ≠ gb153)); have n6_ := Aside0.mk ((by rw [hg]; exact Nat.ne_of_gt (blk_lt (g := gb149) (o := .cells #[.slice none 0 0, .slice none 0 0] 26 (0, 0)) (by qb_; exact BK149.out)) : gb153 ≠ gb149)); clear BK149; clear HB; have BK149 := n0_; have HB := n1_; have BK153 := n2_; have GW153 := n3_; have GE153 := n4_; have NB149_153 := n5_; have NB153_149 := n6_; clear n0_ n1_ n2_ n3_ n4_ n5_ n6_; clear hb hbox hg) | ((with_reducible refine gate_callee (f := 21) rfl ?_); refine goesL_ (some 17) rfl rfl Tryd.func21 (by kernel_rfl) rfl #[.string t150] rfl (by qm_) ?_; (with_reducible refine (target_path.calls k t150 t154 true _ A3.out).mono ?_); rintro e w12 ⟨v156, rfl, ho0, hb⟩; refine ⟨_, rfl, ?_⟩; have n0_ := Aside0.mk (Kd.R_lower ho0 (below_size (by repeat (first | (with_reducible first | qp_ | refine below_set ?_ GE149.out | refine below_set ?_ GE153.out) | exact HB.out)))); have n1_ := Aside0.mk (blk_below (g := gb149) (o := .cells #[.slice none 0 0, .slice none 0 0] 26 (0, 0)) (by qb_; exact BK149.out) hb); have n2_ := Aside0.mk (blk_below (g := gb153) (o := .cells #[.slice none 0 0, .slice none 0 0] 26 (0, 0)) (by qb_; exact BK153.out) hb); have n3_ := Aside0.mk (below_step (by repeat (first | (with_reducible first | qp_ | refine below_set ?_ GE149.out | refine below_set ?_ GE153.out) | exact HB.out)) hb); clear BK149; clear BK153; clear HB; have HO157 := n0_; have BK149 := n1_; have BK153 := n2_; have HB := n3_; clear n0_ n1_ n2_ n3_; (try clear hb); (try clear hb2); (try clear hk); (try clear hi); (try clear ho0); obtain ⟨Ao13, co13, eo13⟩ := Kd.R_slice HO157.out; subst eo13; have hnb14 := NB153_149.out; have hnc14 := NB149_153.out; have hcz15_0 : w12.cell? ⟨gb153, 0, none⟩ = some (.slice none 0 0) := (blk_cell BK153.out 0).trans rfl; have hcz15_1 : w12.cell? ⟨gb153, 1, none⟩ = some (.slice none 0 0) := (blk_cell BK153.out 1).trans rfl; have hfz15_0 := blk_frozen BK153.out 0; have hfz15_1 := blk_frozen BK153.out 1) | ((with_reducible refine gate_callee (f := 22) rfl ?_); refine goesL_ (some 27) rfl rfl Tryd.func22 (by kernel_rfl) rfl #[.string t151] rfl (by qm_) ?_; (with_reducible refine (target_query.calls k t151 t158 true _ A6.out).mono ?_); rintro e w16 ⟨v160, rfl, ho0, hb⟩; refine ⟨_, rfl, ?_⟩; have n0_ := Aside0.mk (Kd.R_below (by qk_; exact (Kd.R_mono (Kd.R_far (p := ⟨gb153, 0, none⟩) (Kd.R_types HO157.out BK153.out (by decide)) (fun _ hk => hk.2) (.slice Ao13 t154.length co13)) (fun _ h_ => h_.1))) hb); have n1_ := Aside0.mk (Kd.R_lower ho0 (below_size (by repeat (first | (with_reducible first | qp_ | refine below_set ?_ GE149.out | refine below_set ?_ GE153.out) | exact HB.out)))); have n2_ := Aside0.mk (blk_below (g := gb149) (o := .cells #[.slice none 0 0, .slice none 0 0] 26 (0, 0)) (by qb_; refine blk_far ?_ NB149_153.out _; qb_; exact BK149.out) hb); have n3_ := Aside0.mk (blk_below (g := gb153) (o := .cells #[.slice Ao13 t154.length co13, .slice none 0 0] 26 (0, 0)) (by qb_; refine blk_put (cs := #[.slice none 0 0, .slice none 0 0]) ?_ 0 _ rfl; qb_; exact BK153.out) hb); have n4_ := Aside0.mk (below_step (by repeat (first | (with_reducible first | qp_ | refine below_set ?_ GE149.out | refine below_set ?_ GE153.out) | exact HB.out)) hb); clear HO157; clear BK149; clear BK153; clear HB; have HO157 := n0_; have HO161 := n1_; have BK149 := n2_; have BK153 := n3_; have HB := n4_; clear n0_ n1_ n2_ n3_ n4_; (try clear hb); (try clear hb2); (try clear hk); (try clear hi); (try clear ho0); obtain ⟨Ao17, co17, eo17⟩ := Kd.R_slice HO161.out; subst eo17; have hcz18_0 : w16.cell? ⟨gb153, 0, none⟩ = some (.slice Ao13 t154.length co13) := (blk_cell BK153.out 0).trans rfl; have hcz18_1 : w16.cell? ⟨gb153, 1, none⟩ = some (.slice none 0 0) := (blk_cell BK153.out 1).trans rfl; have hfz18_0 := blk_frozen BK153.out 0; have hfz18_1 := blk_frozen BK153.out 1) | ((with_reducible refine gate_callee (f := 17) rfl ?_); refine goesL_ (some 35) rfl rfl Tryd.func17 (by kernel_rfl) rfl #[.agg #[.slice Ao13 t154.length co13, .slice Ao17 t158.length co17]] rfl (by qm_) ?_; (with_reducible refine (xMay.calls _ _ t154 _ _ t158 true _ ?side1 ?side2 ?side3 ?side4 A8.out).mono ?_); (case side1 => refine (Kd.R_reads' (e := 9) (base := w.heap.size) (ok := fun k_ => True) (n := t154.length) (c := co13) ?_).2.2; exact (by qk_; exact (Kd.R_mono (Kd.R_far (p := ⟨gb153, 1, none⟩) (Kd.R_types HO157.out BK153.out (by decide)) (fun _ hk => hk.2) (.slice Ao17 t158.length co17)) (fun _ h_ => h_.1)))); (case side2 => exact (Kd.R_reads' HO157.out).2.1); (case side3 => refine (Kd.R_reads' (e := 32) (base := w.heap.size) (ok := fun k_ => True) (n := t158.length) (c := co17) ?_).2.2; exact (by qk_; exact (Kd.R_mono (Kd.R_far (p := ⟨gb153, 1, none⟩) (Kd.R_types HO161.out BK153.out (by decide)) (fun _ hk => hk.2) (.slice Ao17 t158.length co17)) (fun _ h_ => h_.1)))); (case side4 => exact (Kd.R_reads' HO161.out).2.1); rintro e w19 ⟨rfl, hb⟩; refine ⟨_, rfl, ?_⟩; have n0_ := Aside0.mk (Kd.R_below (by qk_; exact (Kd.R_mono (Kd.R_far (p := ⟨gb153, 1, none⟩) (Kd.R_types HO157.out BK153.out (by decide)) (fun _ hk => hk.2) (.slice Ao17 t158.length co17)) (fun _ h_ => h_.1))) hb); have n1_ := Aside0.mk (Kd.R_below (by qk_; exact (Kd.R_mono (Kd.R_far (p := ⟨gb153, 1, none⟩) (Kd.R_types HO161.out BK153.out (by decide)) (fun _ hk => hk.2) (.slice Ao17 t158.length co17)) (fun _ h_ => h_.1))) hb); have n2_ := Aside0.mk (blk_below (g := gb149) (o := .cells #[.slice none 0 0, .slice none 0 0] 26 (0, 0)) (by qb_; refine blk_far ?_ NB149_153.out _; qb_; exact BK149.out) hb); have n3_ := Aside0.mk (blk_below (g := gb153) (o := .cells #[.slice Ao13 t154.length co13, .slice Ao17 t158.length co17] 26 (0, 0)) (by qb_; refine blk_put (cs := #[.slice Ao13 t154.length co13, .slice none 0 0]) ?_ 1 _ rfl; qb_; exact BK153.out) hb); have n4_ := Aside0.mk (below_step (by repeat (first | (with_reducible first | qp_ | refine below_set ?_ GE149.out | refine below_set ?_ GE153.out) | exact HB.out)) hb); clear HO157; clear HO161; clear BK149; clear BK153; clear HB; have HO157 := n0_; have HO161 := n1_; have BK149 := n2_; have BK153 := n3_; have HB := n4_; clear n0_ n1_ n2_ n3_ n4_; (try clear hb); (try clear hb2); (try clear hk); (try clear hi); have hcz20_0 : w19.cell? ⟨gb153, 0, none⟩ = some (.slice Ao13 t154.length co13) := (blk_cell BK153.out 0).trans rfl; have hcz20_1 : w19.cell? ⟨gb153, 1, none⟩ = some (.slice Ao17 t158.length co17) := (blk_cell BK153.out 1).trans rfl; have hfz20_0 := blk_frozen BK153.out 0; have hfz20_1 := blk_frozen BK153.out 1; have hcz21_0 : w19.cell? ⟨gb149, 0, none⟩ = some (.slice none 0 0) := (blk_cell BK149.out 0).trans rfl; have hcz21_1 : w19.cell? ⟨gb149, 1, none⟩ = some (.slice none 0 0) := (blk_cell BK149.out 1).trans rfl; have hfz21_0 := blk_frozen BK149.out 0; have hfz21_1 := blk_frozen BK149.out 1))
          refine bodyPost_ret (results_ct rfl _ _ gb149 26 #[.slice Ao13 t154.length co13, .slice Ao17 t158.length co17] (0, 0) _ rfl (by qb_; refine blk_put (cs := #[.slice Ao13 t154.length co13, .slice none 0 0]) ?_ 1 _ rfl; qb_; refine blk_put (cs := #[.slice none 0 0, .slice none 0 0]) ?_ 0 _ rfl; qb_; exact BK149.out) Tryd.underlying26 rfl (by kernel_rfl)) rfl ?_
          exact ⟨_, _, by first | rfl | (simp [errW_none, errW_some] <;> rfl) | (simp [*, errW_none, errW_some] <;> rfl), by qk_; exact Kd.R_mono (Kd.R_far (p := ⟨gb149, 1, none⟩) (Kd.R_far (p := ⟨gb149, 0, none⟩) (Kd.R_types HO157.out BK149.out (by decide)) (fun _ hk => hk.2) (.slice Ao13 t154.length co13)) (fun _ hk => hk.2) (.slice Ao17 t158.length co17)) (fun _ hk => trivial), by qk_; exact Kd.R_mono (Kd.R_far (p := ⟨gb149, 1, none⟩) (Kd.R_far (p := ⟨gb149, 0, none⟩) (Kd.R_types HO161.out BK149.out (by decide)) (fun _ hk => hk.2) (.slice Ao13 t154.length co13)) (fun _ hk => hk.2) (.slice Ao17 t158.length co17)) (fun _ hk => trivial), by repeat (first | (with_reducible first | qp_ | refine below_set ?_ GE149.out | refine below_set ?_ GE153.out) | exact HB.out)⟩
        · replace c9 := Bool.eq_false_iff.mpr c9
          subst c9
          have H1 : (some (([] : List ByteArray), ([] : List (S32)), 6)) = some (r1, r2, r3) := by rw [if_neg (show ¬ (false = true) by decide)] at H; exact H
          clear H
          have H := H1
          clear H1
          simp only [Option.some.injEq, Prod.mk.injEq] at H
          obtain ⟨rfl, rfl, rfl⟩ := H
          go_enter Tryd.func9, Tryd.ntmps9
          go_wp2_with (first | ((with_reducible refine gate_dst (N := 2) rfl ?_); refine box_event ?hg (N := 2) ?hd (cs := #[.slice none 0 0, .slice none 0 0]) (t := 26) ?hr ?_; (case hd => rfl); (case hg => rfl); (case hr => first | (go_simp; done) | (go_simp; rfl)); intro gb149 hg w22 hbox hb; have n0_ := Aside0.mk (below_step (by qh_) hb); have n1_ := Aside0.mk (hbox); have n2_ := Aside0.mk ((by rw [hg]; exact (below_size (by qh_)) : w.heap.size ≤ gb149)); have n3_ := Aside0.mk ((by rw [hg]; exact (below_size (by qh_)) : w.heap.size ≤ gb149)); clear HB; have HB := n0_; have BK149 := n1_; have GW149 := n2_; have GE149 := n3_; clear n0_ n1_ n2_ n3_; clear hb hbox hg) | ((with_reducible refine gate_callee (f := 20) rfl ?_); refine goesL_ (some 11) rfl rfl Tryd.func20 (by kernel_rfl) rfl #[.string a0, .string (⟨#[63]⟩ : ByteArray)] rfl (by qm_) ?_; (with_reducible refine (strings_Cut.calls a0 (⟨#[63]⟩ : ByteArray) t150 t151 true _ A2.out).mono ?_); rintro e w' ⟨rfl, ⟨nd, rfl⟩⟩; refine ⟨_, rfl, ?_⟩; (try (rw [drewN_self w22]; generalize hq_ : World.drewN w22 _ = w22; have n0_ : Aside0 (w22.heap[gb149]? = some (.cells #[.slice none 0 0, .slice none 0 0] 26 (0, 0))) := ⟨by rw [← hq_]; exact (by qb_; exact BK149.out)⟩; have n1_ : Aside0 (Below w.heap.size w w22) := ⟨by rw [← hq_]; exact (by repeat (first | (with_reducible first | qp_ | refine below_set ?_ GE149.out) | exact HB.out))⟩; clear BK149 HB hq_; have BK149 := n0_; have HB := n1_; clear n0_ n1_))) | ((with_reducible refine gate_dst (N := 7) rfl ?_); refine box_event ?hg (N := 7) ?hd (cs := #[.slice none 0 0, .slice none 0 0]) (t := 26) ?hr ?_; (case hd => rfl); (case hg => rfl); (case hr => first | (go_simp; done) | (go_simp; rfl)); intro gb153 hg w23 hbox hb; have n0_ := Aside0.mk (blk_below (g := gb149) (o := .cells #[.slice none 0 0, .slice none 0 0] 26 (0, 0)) (by qb_; exact BK149.out) hb); have n1_ := Aside0.mk (below_step (by repeat (first | (with_reducible first | qp_ | refine below_set ?_ GE149.out) | exact HB.out)) hb); have n2_ := Aside0.mk (hbox); have n3_ := Aside0.mk ((by rw [hg]; exact (below_size (by repeat (first | (with_reducible first | qp_ | refine below_set ?_ GE149.out) | exact HB.out))) : w.heap.size ≤ gb153)); have n4_ := Aside0.mk ((by rw [hg]; exact (below_size (by repeat (first | (with_reducible first | qp_ | refine below_set ?_ GE149.out) | exact HB.out))) : w.heap.size ≤ gb153)); have n5_ := Aside0.mk ((by rw [hg]; exact Nat.ne_of_lt (blk_lt (g := gb149) (o := .cells #[.slice none 0 0, .slice none 0 0] 26 (0, 0)) (by qb_; exact BK149.out)) : gb149 ≠ gb153)); have n6_ := Aside0.mk ((by rw [hg]; exact Nat.ne_of_gt (blk_lt (g := gb149) (o := .cells #[.slice none 0 0, .slice none 0 0] 26 (0, 0)) (by qb_; exact BK149.out)) : gb153 ≠ gb149)); clear BK149; clear HB; have BK149 := n0_; have HB := n1_; have BK153 := n2_; have GW153 := n3_; have GE153 := n4_; have NB149_153 := n5_; have NB153_149 := n6_; clear n0_ n1_ n2_ n3_ n4_ n5_ n6_; clear hb hbox hg) | ((with_reducible refine gate_callee (f := 21) rfl ?_); refine goesL_ (some 17) rfl rfl Tryd.func21 (by kernel_rfl) rfl #[.string t150] rfl (by qm_) ?_; (with_reducible refine (target_path.calls k t150 t154 true _ A3.out).mono ?_); rintro e w24 ⟨v156, rfl, ho0, hb⟩; refine ⟨_, rfl, ?_⟩; have n0_ := Aside0.mk (Kd.R_lower ho0 (below_size (by repeat (first | (with_reducible first | qp_ | refine below_set ?_ GE149.out | refine below_set ?_ GE153.out) | exact HB.out)))); have n1_ := Aside0.mk (blk_below (g := gb149) (o := .cells #[.slice none 0 0, .slice none 0 0] 26 (0, 0)) (by qb_; exact BK149.out) hb); have n2_ := Aside0.mk (blk_below (g := gb153) (o := .cells #[.slice none 0 0, .slice none 0 0] 26 (0, 0)) (by qb_; exact BK153.out) hb); have n3_ := Aside0.mk (below_step (by repeat (first | (with_reducible first | qp_ | refine below_set ?_ GE149.out | refine below_set ?_ GE153.out) | exact HB.out)) hb); clear BK149; clear BK153; clear HB; have HO157 := n0_; have BK149 := n1_; have BK153 := n2_; have HB := n3_; clear n0_ n1_ n2_ n3_; (try clear hb); (try clear hb2); (try clear hk); (try clear hi); (try clear ho0); obtain ⟨Ao25, co25, eo25⟩ := Kd.R_slice HO157.out; subst eo25; have hnb26 := NB153_149.out; have hnc26 := NB149_153.out; have hcz27_0 : w24.cell? ⟨gb153, 0, none⟩ = some (.slice none 0 0) := (blk_cell BK153.out 0).trans rfl; have hcz27_1 : w24.cell? ⟨gb153, 1, none⟩ = some (.slice none 0 0) := (blk_cell BK153.out 1).trans rfl; have hfz27_0 := blk_frozen BK153.out 0; have hfz27_1 := blk_frozen BK153.out 1) | ((with_reducible refine gate_callee (f := 22) rfl ?_); refine goesL_ (some 27) rfl rfl Tryd.func22 (by kernel_rfl) rfl #[.string t151] rfl (by qm_) ?_; (with_reducible refine (target_query.calls k t151 t158 true _ A6.out).mono ?_); rintro e w28 ⟨v160, rfl, ho0, hb⟩; refine ⟨_, rfl, ?_⟩; have n0_ := Aside0.mk (Kd.R_below (by qk_; exact (Kd.R_mono (Kd.R_far (p := ⟨gb153, 0, none⟩) (Kd.R_types HO157.out BK153.out (by decide)) (fun _ hk => hk.2) (.slice Ao25 t154.length co25)) (fun _ h_ => h_.1))) hb); have n1_ := Aside0.mk (Kd.R_lower ho0 (below_size (by repeat (first | (with_reducible first | qp_ | refine below_set ?_ GE149.out | refine below_set ?_ GE153.out) | exact HB.out)))); have n2_ := Aside0.mk (blk_below (g := gb149) (o := .cells #[.slice none 0 0, .slice none 0 0] 26 (0, 0)) (by qb_; refine blk_far ?_ NB149_153.out _; qb_; exact BK149.out) hb); have n3_ := Aside0.mk (blk_below (g := gb153) (o := .cells #[.slice Ao25 t154.length co25, .slice none 0 0] 26 (0, 0)) (by qb_; refine blk_put (cs := #[.slice none 0 0, .slice none 0 0]) ?_ 0 _ rfl; qb_; exact BK153.out) hb); have n4_ := Aside0.mk (below_step (by repeat (first | (with_reducible first | qp_ | refine below_set ?_ GE149.out | refine below_set ?_ GE153.out) | exact HB.out)) hb); clear HO157; clear BK149; clear BK153; clear HB; have HO157 := n0_; have HO161 := n1_; have BK149 := n2_; have BK153 := n3_; have HB := n4_; clear n0_ n1_ n2_ n3_ n4_; (try clear hb); (try clear hb2); (try clear hk); (try clear hi); (try clear ho0); obtain ⟨Ao29, co29, eo29⟩ := Kd.R_slice HO161.out; subst eo29; have hcz30_0 : w28.cell? ⟨gb153, 0, none⟩ = some (.slice Ao25 t154.length co25) := (blk_cell BK153.out 0).trans rfl; have hcz30_1 : w28.cell? ⟨gb153, 1, none⟩ = some (.slice none 0 0) := (blk_cell BK153.out 1).trans rfl; have hfz30_0 := blk_frozen BK153.out 0; have hfz30_1 := blk_frozen BK153.out 1) | ((with_reducible refine gate_callee (f := 17) rfl ?_); refine goesL_ (some 35) rfl rfl Tryd.func17 (by kernel_rfl) rfl #[.agg #[.slice Ao25 t154.length co25, .slice Ao29 t158.length co29]] rfl (by qm_) ?_; (with_reducible refine (xMay.calls _ _ t154 _ _ t158 false _ ?side1 ?side2 ?side3 ?side4 A8.out).mono ?_); (case side1 => refine (Kd.R_reads' (e := 9) (base := w.heap.size) (ok := fun k_ => True) (n := t154.length) (c := co25) ?_).2.2; exact (by qk_; exact (Kd.R_mono (Kd.R_far (p := ⟨gb153, 1, none⟩) (Kd.R_types HO157.out BK153.out (by decide)) (fun _ hk => hk.2) (.slice Ao29 t158.length co29)) (fun _ h_ => h_.1)))); (case side2 => exact (Kd.R_reads' HO157.out).2.1); (case side3 => refine (Kd.R_reads' (e := 32) (base := w.heap.size) (ok := fun k_ => True) (n := t158.length) (c := co29) ?_).2.2; exact (by qk_; exact (Kd.R_mono (Kd.R_far (p := ⟨gb153, 1, none⟩) (Kd.R_types HO161.out BK153.out (by decide)) (fun _ hk => hk.2) (.slice Ao29 t158.length co29)) (fun _ h_ => h_.1)))); (case side4 => exact (Kd.R_reads' HO161.out).2.1); rintro e w31 ⟨rfl, hb⟩; refine ⟨_, rfl, ?_⟩; have n0_ := Aside0.mk (Kd.R_below (by qk_; exact (Kd.R_mono (Kd.R_far (p := ⟨gb153, 1, none⟩) (Kd.R_types HO157.out BK153.out (by decide)) (fun _ hk => hk.2) (.slice Ao29 t158.length co29)) (fun _ h_ => h_.1))) hb); have n1_ := Aside0.mk (Kd.R_below (by qk_; exact (Kd.R_mono (Kd.R_far (p := ⟨gb153, 1, none⟩) (Kd.R_types HO161.out BK153.out (by decide)) (fun _ hk => hk.2) (.slice Ao29 t158.length co29)) (fun _ h_ => h_.1))) hb); have n2_ := Aside0.mk (blk_below (g := gb149) (o := .cells #[.slice none 0 0, .slice none 0 0] 26 (0, 0)) (by qb_; refine blk_far ?_ NB149_153.out _; qb_; exact BK149.out) hb); have n3_ := Aside0.mk (blk_below (g := gb153) (o := .cells #[.slice Ao25 t154.length co25, .slice Ao29 t158.length co29] 26 (0, 0)) (by qb_; refine blk_put (cs := #[.slice Ao25 t154.length co25, .slice none 0 0]) ?_ 1 _ rfl; qb_; exact BK153.out) hb); have n4_ := Aside0.mk (below_step (by repeat (first | (with_reducible first | qp_ | refine below_set ?_ GE149.out | refine below_set ?_ GE153.out) | exact HB.out)) hb); clear HO157; clear HO161; clear BK149; clear BK153; clear HB; have HO157 := n0_; have HO161 := n1_; have BK149 := n2_; have BK153 := n3_; have HB := n4_; clear n0_ n1_ n2_ n3_ n4_; (try clear hb); (try clear hb2); (try clear hk); (try clear hi); have hcz32_0 : w31.cell? ⟨gb149, 0, none⟩ = some (.slice none 0 0) := (blk_cell BK149.out 0).trans rfl; have hcz32_1 : w31.cell? ⟨gb149, 1, none⟩ = some (.slice none 0 0) := (blk_cell BK149.out 1).trans rfl; have hfz32_0 := blk_frozen BK149.out 0; have hfz32_1 := blk_frozen BK149.out 1))
          refine bodyPost_ret (results_ct rfl _ _ gb149 26 #[.slice none 0 0, .slice none 0 0] (0, 0) _ rfl (by qb_; refine blk_put (cs := #[.slice none 0 0, .slice none 0 0]) ?_ 1 _ rfl; qb_; refine blk_put (cs := #[.slice none 0 0, .slice none 0 0]) ?_ 0 _ rfl; qb_; exact BK149.out) Tryd.underlying26 rfl (by kernel_rfl)) rfl ?_
          exact ⟨_, _, by first | rfl | (simp [errW_none, errW_some] <;> rfl) | (simp [*, errW_none, errW_some] <;> rfl), by first | exact Kd.R_nil _ _ _ _ _ | exact Kd.N_nil _ _ _ _ _ | exact Kd.V_nil _ _ _ _ _ | exact Kd.Q_nil _ _ _ _ _ | exact Kd.S_nil _ _ _ _ _, by first | exact Kd.R_nil _ _ _ _ _ | exact Kd.N_nil _ _ _ _ _ | exact Kd.V_nil _ _ _ _ _ | exact Kd.Q_nil _ _ _ _ _ | exact Kd.S_nil _ _ _ _ _, by repeat (first | (with_reducible first | qp_ | refine below_set ?_ GE149.out | refine below_set ?_ GE153.out) | exact HB.out)⟩
      · replace c7 := Bool.eq_false_iff.mpr c7
        subst c7
        have H1 : (some (([] : List ByteArray), ([] : List (S32)), 4)) = some (r1, r2, r3) := by rw [if_neg (show ¬ (false = true) by decide)] at H; exact H
        clear H
        have H := H1
        clear H1
        simp only [Option.some.injEq, Prod.mk.injEq] at H
        obtain ⟨rfl, rfl, rfl⟩ := H
        go_enter Tryd.func9, Tryd.ntmps9
        go_wp2_with (first | ((with_reducible refine gate_dst (N := 2) rfl ?_); refine box_event ?hg (N := 2) ?hd (cs := #[.slice none 0 0, .slice none 0 0]) (t := 26) ?hr ?_; (case hd => rfl); (case hg => rfl); (case hr => first | (go_simp; done) | (go_simp; rfl)); intro gb149 hg w33 hbox hb; have n0_ := Aside0.mk (below_step (by qh_) hb); have n1_ := Aside0.mk (hbox); have n2_ := Aside0.mk ((by rw [hg]; exact (below_size (by qh_)) : w.heap.size ≤ gb149)); have n3_ := Aside0.mk ((by rw [hg]; exact (below_size (by qh_)) : w.heap.size ≤ gb149)); clear HB; have HB := n0_; have BK149 := n1_; have GW149 := n2_; have GE149 := n3_; clear n0_ n1_ n2_ n3_; clear hb hbox hg) | ((with_reducible refine gate_callee (f := 20) rfl ?_); refine goesL_ (some 11) rfl rfl Tryd.func20 (by kernel_rfl) rfl #[.string a0, .string (⟨#[63]⟩ : ByteArray)] rfl (by qm_) ?_; (with_reducible refine (strings_Cut.calls a0 (⟨#[63]⟩ : ByteArray) t150 t151 true _ A2.out).mono ?_); rintro e w' ⟨rfl, ⟨nd, rfl⟩⟩; refine ⟨_, rfl, ?_⟩; (try (rw [drewN_self w33]; generalize hq_ : World.drewN w33 _ = w33; have n0_ : Aside0 (w33.heap[gb149]? = some (.cells #[.slice none 0 0, .slice none 0 0] 26 (0, 0))) := ⟨by rw [← hq_]; exact (by qb_; exact BK149.out)⟩; have n1_ : Aside0 (Below w.heap.size w w33) := ⟨by rw [← hq_]; exact (by repeat (first | (with_reducible first | qp_ | refine below_set ?_ GE149.out) | exact HB.out))⟩; clear BK149 HB hq_; have BK149 := n0_; have HB := n1_; clear n0_ n1_))) | ((with_reducible refine gate_dst (N := 7) rfl ?_); refine box_event ?hg (N := 7) ?hd (cs := #[.slice none 0 0, .slice none 0 0]) (t := 26) ?hr ?_; (case hd => rfl); (case hg => rfl); (case hr => first | (go_simp; done) | (go_simp; rfl)); intro gb153 hg w34 hbox hb; have n0_ := Aside0.mk (blk_below (g := gb149) (o := .cells #[.slice none 0 0, .slice none 0 0] 26 (0, 0)) (by qb_; exact BK149.out) hb); have n1_ := Aside0.mk (below_step (by repeat (first | (with_reducible first | qp_ | refine below_set ?_ GE149.out) | exact HB.out)) hb); have n2_ := Aside0.mk (hbox); have n3_ := Aside0.mk ((by rw [hg]; exact (below_size (by repeat (first | (with_reducible first | qp_ | refine below_set ?_ GE149.out) | exact HB.out))) : w.heap.size ≤ gb153)); have n4_ := Aside0.mk ((by rw [hg]; exact (below_size (by repeat (first | (with_reducible first | qp_ | refine below_set ?_ GE149.out) | exact HB.out))) : w.heap.size ≤ gb153)); have n5_ := Aside0.mk ((by rw [hg]; exact Nat.ne_of_lt (blk_lt (g := gb149) (o := .cells #[.slice none 0 0, .slice none 0 0] 26 (0, 0)) (by qb_; exact BK149.out)) : gb149 ≠ gb153)); have n6_ := Aside0.mk ((by rw [hg]; exact Nat.ne_of_gt (blk_lt (g := gb149) (o := .cells #[.slice none 0 0, .slice none 0 0] 26 (0, 0)) (by qb_; exact BK149.out)) : gb153 ≠ gb149)); clear BK149; clear HB; have BK149 := n0_; have HB := n1_; have BK153 := n2_; have GW153 := n3_; have GE153 := n4_; have NB149_153 := n5_; have NB153_149 := n6_; clear n0_ n1_ n2_ n3_ n4_ n5_ n6_; clear hb hbox hg) | ((with_reducible refine gate_callee (f := 21) rfl ?_); refine goesL_ (some 17) rfl rfl Tryd.func21 (by kernel_rfl) rfl #[.string t150] rfl (by qm_) ?_; (with_reducible refine (target_path.calls k t150 t154 true _ A3.out).mono ?_); rintro e w35 ⟨v156, rfl, ho0, hb⟩; refine ⟨_, rfl, ?_⟩; have n0_ := Aside0.mk (Kd.R_lower ho0 (below_size (by repeat (first | (with_reducible first | qp_ | refine below_set ?_ GE149.out | refine below_set ?_ GE153.out) | exact HB.out)))); have n1_ := Aside0.mk (blk_below (g := gb149) (o := .cells #[.slice none 0 0, .slice none 0 0] 26 (0, 0)) (by qb_; exact BK149.out) hb); have n2_ := Aside0.mk (blk_below (g := gb153) (o := .cells #[.slice none 0 0, .slice none 0 0] 26 (0, 0)) (by qb_; exact BK153.out) hb); have n3_ := Aside0.mk (below_step (by repeat (first | (with_reducible first | qp_ | refine below_set ?_ GE149.out | refine below_set ?_ GE153.out) | exact HB.out)) hb); clear BK149; clear BK153; clear HB; have HO157 := n0_; have BK149 := n1_; have BK153 := n2_; have HB := n3_; clear n0_ n1_ n2_ n3_; (try clear hb); (try clear hb2); (try clear hk); (try clear hi); (try clear ho0); obtain ⟨Ao36, co36, eo36⟩ := Kd.R_slice HO157.out; subst eo36; have hnb37 := NB153_149.out; have hnc37 := NB149_153.out; have hcz38_0 : w35.cell? ⟨gb153, 0, none⟩ = some (.slice none 0 0) := (blk_cell BK153.out 0).trans rfl; have hcz38_1 : w35.cell? ⟨gb153, 1, none⟩ = some (.slice none 0 0) := (blk_cell BK153.out 1).trans rfl; have hfz38_0 := blk_frozen BK153.out 0; have hfz38_1 := blk_frozen BK153.out 1) | ((with_reducible refine gate_callee (f := 22) rfl ?_); refine goesL_ (some 27) rfl rfl Tryd.func22 (by kernel_rfl) rfl #[.string t151] rfl (by qm_) ?_; (with_reducible refine (target_query.calls k t151 t158 false _ A6.out).mono ?_); rintro e w39 ⟨v160, rfl, ho0, hb⟩; refine ⟨_, rfl, ?_⟩; have n0_ := Aside0.mk (Kd.R_below (by qk_; exact (Kd.R_mono (Kd.R_far (p := ⟨gb153, 0, none⟩) (Kd.R_types HO157.out BK153.out (by decide)) (fun _ hk => hk.2) (.slice Ao36 t154.length co36)) (fun _ h_ => h_.1))) hb); have n1_ := Aside0.mk (Kd.R_lower ho0 (below_size (by repeat (first | (with_reducible first | qp_ | refine below_set ?_ GE149.out | refine below_set ?_ GE153.out) | exact HB.out)))); have n2_ := Aside0.mk (blk_below (g := gb149) (o := .cells #[.slice none 0 0, .slice none 0 0] 26 (0, 0)) (by qb_; refine blk_far ?_ NB149_153.out _; qb_; exact BK149.out) hb); have n3_ := Aside0.mk (blk_below (g := gb153) (o := .cells #[.slice Ao36 t154.length co36, .slice none 0 0] 26 (0, 0)) (by qb_; refine blk_put (cs := #[.slice none 0 0, .slice none 0 0]) ?_ 0 _ rfl; qb_; exact BK153.out) hb); have n4_ := Aside0.mk (below_step (by repeat (first | (with_reducible first | qp_ | refine below_set ?_ GE149.out | refine below_set ?_ GE153.out) | exact HB.out)) hb); clear HO157; clear BK149; clear BK153; clear HB; have HO157 := n0_; have HO161 := n1_; have BK149 := n2_; have BK153 := n3_; have HB := n4_; clear n0_ n1_ n2_ n3_ n4_; (try clear hb); (try clear hb2); (try clear hk); (try clear hi); (try clear ho0); obtain ⟨Ao40, co40, eo40⟩ := Kd.R_slice HO161.out; subst eo40; have hcz41_0 : w39.cell? ⟨gb153, 0, none⟩ = some (.slice Ao36 t154.length co36) := (blk_cell BK153.out 0).trans rfl; have hcz41_1 : w39.cell? ⟨gb153, 1, none⟩ = some (.slice none 0 0) := (blk_cell BK153.out 1).trans rfl; have hfz41_0 := blk_frozen BK153.out 0; have hfz41_1 := blk_frozen BK153.out 1; have hcz42_0 : w39.cell? ⟨gb149, 0, none⟩ = some (.slice none 0 0) := (blk_cell BK149.out 0).trans rfl; have hcz42_1 : w39.cell? ⟨gb149, 1, none⟩ = some (.slice none 0 0) := (blk_cell BK149.out 1).trans rfl; have hfz42_0 := blk_frozen BK149.out 0; have hfz42_1 := blk_frozen BK149.out 1))
        refine bodyPost_ret (results_ct rfl _ _ gb149 26 #[.slice none 0 0, .slice none 0 0] (0, 0) _ rfl (by qb_; refine blk_put (cs := #[.slice none 0 0, .slice none 0 0]) ?_ 1 _ rfl; qb_; refine blk_put (cs := #[.slice none 0 0, .slice none 0 0]) ?_ 0 _ rfl; qb_; refine blk_far ?_ NB149_153.out _; qb_; exact BK149.out) Tryd.underlying26 rfl (by kernel_rfl)) rfl ?_
        exact ⟨_, _, by first | rfl | (simp [errW_none, errW_some] <;> rfl) | (simp [*, errW_none, errW_some] <;> rfl), by first | exact Kd.R_nil _ _ _ _ _ | exact Kd.N_nil _ _ _ _ _ | exact Kd.V_nil _ _ _ _ _ | exact Kd.Q_nil _ _ _ _ _ | exact Kd.S_nil _ _ _ _ _, by first | exact Kd.R_nil _ _ _ _ _ | exact Kd.N_nil _ _ _ _ _ | exact Kd.V_nil _ _ _ _ _ | exact Kd.Q_nil _ _ _ _ _ | exact Kd.S_nil _ _ _ _ _, by repeat (first | (with_reducible first | qp_ | refine below_set ?_ GE149.out | refine below_set ?_ GE153.out) | exact HB.out)⟩
    · replace c5 := Bool.eq_false_iff.mpr c5
      subst c5
      have H1 : ((xMay.f t154 ([] : List (S32))).bind fun t163 => (if t163 = true then (some (t154, ([] : List (S32)), 0)) else (some (([] : List ByteArray), ([] : List (S32)), 6)))) = some (r1, r2, r3) := by rw [if_neg (show ¬ (false = true) by decide)] at H; exact H
      clear H
      have H := H1
      clear H1
      replace H := Option.bind_eq_some_iff.mp H
      obtain ⟨t163, A430, H⟩ := H
      replace H : (if t163 = true then (some (t154, ([] : List (S32)), 0)) else (some (([] : List ByteArray), ([] : List (S32)), 6))) = some (r1, r2, r3) := H
      have A43 := Aside0.mk A430
      clear A430
      by_cases c44 : t163 = true
      · subst c44
        have H1 : (some (t154, ([] : List (S32)), 0)) = some (r1, r2, r3) := by rw [if_pos rfl] at H; exact H
        clear H
        have H := H1
        clear H1
        simp only [Option.some.injEq, Prod.mk.injEq] at H
        obtain ⟨rfl, rfl, rfl⟩ := H
        go_enter Tryd.func9, Tryd.ntmps9
        go_wp2_with (first | ((with_reducible refine gate_dst (N := 2) rfl ?_); refine box_event ?hg (N := 2) ?hd (cs := #[.slice none 0 0, .slice none 0 0]) (t := 26) ?hr ?_; (case hd => rfl); (case hg => rfl); (case hr => first | (go_simp; done) | (go_simp; rfl)); intro gb149 hg w45 hbox hb; have n0_ := Aside0.mk (below_step (by qh_) hb); have n1_ := Aside0.mk (hbox); have n2_ := Aside0.mk ((by rw [hg]; exact (below_size (by qh_)) : w.heap.size ≤ gb149)); have n3_ := Aside0.mk ((by rw [hg]; exact (below_size (by qh_)) : w.heap.size ≤ gb149)); clear HB; have HB := n0_; have BK149 := n1_; have GW149 := n2_; have GE149 := n3_; clear n0_ n1_ n2_ n3_; clear hb hbox hg) | ((with_reducible refine gate_callee (f := 20) rfl ?_); refine goesL_ (some 11) rfl rfl Tryd.func20 (by kernel_rfl) rfl #[.string a0, .string (⟨#[63]⟩ : ByteArray)] rfl (by qm_) ?_; (with_reducible refine (strings_Cut.calls a0 (⟨#[63]⟩ : ByteArray) t150 t151 false _ A2.out).mono ?_); rintro e w' ⟨rfl, ⟨nd, rfl⟩⟩; refine ⟨_, rfl, ?_⟩; (try (rw [drewN_self w45]; generalize hq_ : World.drewN w45 _ = w45; have n0_ : Aside0 (w45.heap[gb149]? = some (.cells #[.slice none 0 0, .slice none 0 0] 26 (0, 0))) := ⟨by rw [← hq_]; exact (by qb_; exact BK149.out)⟩; have n1_ : Aside0 (Below w.heap.size w w45) := ⟨by rw [← hq_]; exact (by repeat (first | (with_reducible first | qp_ | refine below_set ?_ GE149.out) | exact HB.out))⟩; clear BK149 HB hq_; have BK149 := n0_; have HB := n1_; clear n0_ n1_))) | ((with_reducible refine gate_dst (N := 7) rfl ?_); refine box_event ?hg (N := 7) ?hd (cs := #[.slice none 0 0, .slice none 0 0]) (t := 26) ?hr ?_; (case hd => rfl); (case hg => rfl); (case hr => first | (go_simp; done) | (go_simp; rfl)); intro gb153 hg w46 hbox hb; have n0_ := Aside0.mk (blk_below (g := gb149) (o := .cells #[.slice none 0 0, .slice none 0 0] 26 (0, 0)) (by qb_; exact BK149.out) hb); have n1_ := Aside0.mk (below_step (by repeat (first | (with_reducible first | qp_ | refine below_set ?_ GE149.out) | exact HB.out)) hb); have n2_ := Aside0.mk (hbox); have n3_ := Aside0.mk ((by rw [hg]; exact (below_size (by repeat (first | (with_reducible first | qp_ | refine below_set ?_ GE149.out) | exact HB.out))) : w.heap.size ≤ gb153)); have n4_ := Aside0.mk ((by rw [hg]; exact (below_size (by repeat (first | (with_reducible first | qp_ | refine below_set ?_ GE149.out) | exact HB.out))) : w.heap.size ≤ gb153)); have n5_ := Aside0.mk ((by rw [hg]; exact Nat.ne_of_lt (blk_lt (g := gb149) (o := .cells #[.slice none 0 0, .slice none 0 0] 26 (0, 0)) (by qb_; exact BK149.out)) : gb149 ≠ gb153)); have n6_ := Aside0.mk ((by rw [hg]; exact Nat.ne_of_gt (blk_lt (g := gb149) (o := .cells #[.slice none 0 0, .slice none 0 0] 26 (0, 0)) (by qb_; exact BK149.out)) : gb153 ≠ gb149)); clear BK149; clear HB; have BK149 := n0_; have HB := n1_; have BK153 := n2_; have GW153 := n3_; have GE153 := n4_; have NB149_153 := n5_; have NB153_149 := n6_; clear n0_ n1_ n2_ n3_ n4_ n5_ n6_; clear hb hbox hg) | ((with_reducible refine gate_callee (f := 21) rfl ?_); refine goesL_ (some 17) rfl rfl Tryd.func21 (by kernel_rfl) rfl #[.string t150] rfl (by qm_) ?_; (with_reducible refine (target_path.calls k t150 t154 true _ A3.out).mono ?_); rintro e w47 ⟨v156, rfl, ho0, hb⟩; refine ⟨_, rfl, ?_⟩; have n0_ := Aside0.mk (Kd.R_lower ho0 (below_size (by repeat (first | (with_reducible first | qp_ | refine below_set ?_ GE149.out | refine below_set ?_ GE153.out) | exact HB.out)))); have n1_ := Aside0.mk (blk_below (g := gb149) (o := .cells #[.slice none 0 0, .slice none 0 0] 26 (0, 0)) (by qb_; exact BK149.out) hb); have n2_ := Aside0.mk (blk_below (g := gb153) (o := .cells #[.slice none 0 0, .slice none 0 0] 26 (0, 0)) (by qb_; exact BK153.out) hb); have n3_ := Aside0.mk (below_step (by repeat (first | (with_reducible first | qp_ | refine below_set ?_ GE149.out | refine below_set ?_ GE153.out) | exact HB.out)) hb); clear BK149; clear BK153; clear HB; have HO157 := n0_; have BK149 := n1_; have BK153 := n2_; have HB := n3_; clear n0_ n1_ n2_ n3_; (try clear hb); (try clear hb2); (try clear hk); (try clear hi); (try clear ho0); obtain ⟨Ao48, co48, eo48⟩ := Kd.R_slice HO157.out; subst eo48; have hnb49 := NB153_149.out; have hnc49 := NB149_153.out; have hcz50_0 : w47.cell? ⟨gb153, 0, none⟩ = some (.slice none 0 0) := (blk_cell BK153.out 0).trans rfl; have hcz50_1 : w47.cell? ⟨gb153, 1, none⟩ = some (.slice none 0 0) := (blk_cell BK153.out 1).trans rfl; have hfz50_0 := blk_frozen BK153.out 0; have hfz50_1 := blk_frozen BK153.out 1) | ((with_reducible refine gate_callee (f := 17) rfl ?_); refine goesL_ (some 35) rfl rfl Tryd.func17 (by kernel_rfl) rfl #[.agg #[.slice Ao48 t154.length co48, .slice none 0 0]] rfl (by qm_) ?_; (refine (xMay.calls _ _ t154 _ _ ([] : List (S32)) true _ ?side1 ?side2 ?side3 ?side4 A43.out).mono ?_); (case side1 => refine (Kd.R_reads' (e := 9) (base := w.heap.size) (ok := fun k_ => True) (n := t154.length) (c := co48) ?_).2.2; exact (by qk_; exact (Kd.R_mono (Kd.R_far (p := ⟨gb153, 0, none⟩) (Kd.R_types HO157.out BK153.out (by decide)) (fun _ hk => hk.2) (.slice Ao48 t154.length co48)) (fun _ h_ => h_.1)))); (case side2 => exact (Kd.R_reads' HO157.out).2.1); (case side3 => exact Kd.C_nil _ _); (case side4 => exact Nat.le_refl _); rintro e w51 ⟨rfl, hb⟩; refine ⟨_, rfl, ?_⟩; have n0_ := Aside0.mk (Kd.R_below (by qk_; exact (Kd.R_mono (Kd.R_far (p := ⟨gb153, 0, none⟩) (Kd.R_types HO157.out BK153.out (by decide)) (fun _ hk => hk.2) (.slice Ao48 t154.length co48)) (fun _ h_ => h_.1))) hb); have n1_ := Aside0.mk (blk_below (g := gb149) (o := .cells #[.slice none 0 0, .slice none 0 0] 26 (0, 0)) (by qb_; refine blk_far ?_ NB149_153.out _; qb_; exact BK149.out) hb); have n2_ := Aside0.mk (blk_below (g := gb153) (o := .cells #[.slice Ao48 t154.length co48, .slice none 0 0] 26 (0, 0)) (by qb_; refine blk_put (cs := #[.slice none 0 0, .slice none 0 0]) ?_ 0 _ rfl; qb_; exact BK153.out) hb); have n3_ := Aside0.mk (below_step (by repeat (first | (with_reducible first | qp_ | refine below_set ?_ GE149.out | refine below_set ?_ GE153.out) | exact HB.out)) hb); clear HO157; clear BK149; clear BK153; clear HB; have HO157 := n0_; have BK149 := n1_; have BK153 := n2_; have HB := n3_; clear n0_ n1_ n2_ n3_; (try clear hb); (try clear hb2); (try clear hk); (try clear hi); have hcz52_0 : w51.cell? ⟨gb153, 0, none⟩ = some (.slice Ao48 t154.length co48) := (blk_cell BK153.out 0).trans rfl; have hcz52_1 : w51.cell? ⟨gb153, 1, none⟩ = some (.slice none 0 0) := (blk_cell BK153.out 1).trans rfl; have hfz52_0 := blk_frozen BK153.out 0; have hfz52_1 := blk_frozen BK153.out 1; have hcz53_0 : w51.cell? ⟨gb149, 0, none⟩ = some (.slice none 0 0) := (blk_cell BK149.out 0).trans rfl; have hcz53_1 : w51.cell? ⟨gb149, 1, none⟩ = some (.slice none 0 0) := (blk_cell BK149.out 1).trans rfl; have hfz53_0 := blk_frozen BK149.out 0; have hfz53_1 := blk_frozen BK149.out 1))
        refine bodyPost_ret (results_ct rfl _ _ gb149 26 #[.slice Ao48 t154.length co48, .slice none 0 0] (0, 0) _ rfl (by qb_; refine blk_put (cs := #[.slice Ao48 t154.length co48, .slice none 0 0]) ?_ 1 _ rfl; qb_; refine blk_put (cs := #[.slice none 0 0, .slice none 0 0]) ?_ 0 _ rfl; qb_; exact BK149.out) Tryd.underlying26 rfl (by kernel_rfl)) rfl ?_
        exact ⟨_, _, by first | rfl | (simp [errW_none, errW_some] <;> rfl) | (simp [*, errW_none, errW_some] <;> rfl), by qk_; exact Kd.R_mono (Kd.R_far (p := ⟨gb149, 1, none⟩) (Kd.R_far (p := ⟨gb149, 0, none⟩) (Kd.R_types HO157.out BK149.out (by decide)) (fun _ hk => hk.2) (.slice Ao48 t154.length co48)) (fun _ hk => hk.2) (.slice none 0 0)) (fun _ hk => trivial), by first | exact Kd.R_nil _ _ _ _ _ | exact Kd.N_nil _ _ _ _ _ | exact Kd.V_nil _ _ _ _ _ | exact Kd.Q_nil _ _ _ _ _ | exact Kd.S_nil _ _ _ _ _, by repeat (first | (with_reducible first | qp_ | refine below_set ?_ GE149.out | refine below_set ?_ GE153.out) | exact HB.out)⟩
      · replace c44 := Bool.eq_false_iff.mpr c44
        subst c44
        have H1 : (some (([] : List ByteArray), ([] : List (S32)), 6)) = some (r1, r2, r3) := by rw [if_neg (show ¬ (false = true) by decide)] at H; exact H
        clear H
        have H := H1
        clear H1
        simp only [Option.some.injEq, Prod.mk.injEq] at H
        obtain ⟨rfl, rfl, rfl⟩ := H
        go_enter Tryd.func9, Tryd.ntmps9
        go_wp2_with (first | ((with_reducible refine gate_dst (N := 2) rfl ?_); refine box_event ?hg (N := 2) ?hd (cs := #[.slice none 0 0, .slice none 0 0]) (t := 26) ?hr ?_; (case hd => rfl); (case hg => rfl); (case hr => first | (go_simp; done) | (go_simp; rfl)); intro gb149 hg w54 hbox hb; have n0_ := Aside0.mk (below_step (by qh_) hb); have n1_ := Aside0.mk (hbox); have n2_ := Aside0.mk ((by rw [hg]; exact (below_size (by qh_)) : w.heap.size ≤ gb149)); have n3_ := Aside0.mk ((by rw [hg]; exact (below_size (by qh_)) : w.heap.size ≤ gb149)); clear HB; have HB := n0_; have BK149 := n1_; have GW149 := n2_; have GE149 := n3_; clear n0_ n1_ n2_ n3_; clear hb hbox hg) | ((with_reducible refine gate_callee (f := 20) rfl ?_); refine goesL_ (some 11) rfl rfl Tryd.func20 (by kernel_rfl) rfl #[.string a0, .string (⟨#[63]⟩ : ByteArray)] rfl (by qm_) ?_; (with_reducible refine (strings_Cut.calls a0 (⟨#[63]⟩ : ByteArray) t150 t151 false _ A2.out).mono ?_); rintro e w' ⟨rfl, ⟨nd, rfl⟩⟩; refine ⟨_, rfl, ?_⟩; (try (rw [drewN_self w54]; generalize hq_ : World.drewN w54 _ = w54; have n0_ : Aside0 (w54.heap[gb149]? = some (.cells #[.slice none 0 0, .slice none 0 0] 26 (0, 0))) := ⟨by rw [← hq_]; exact (by qb_; exact BK149.out)⟩; have n1_ : Aside0 (Below w.heap.size w w54) := ⟨by rw [← hq_]; exact (by repeat (first | (with_reducible first | qp_ | refine below_set ?_ GE149.out) | exact HB.out))⟩; clear BK149 HB hq_; have BK149 := n0_; have HB := n1_; clear n0_ n1_))) | ((with_reducible refine gate_dst (N := 7) rfl ?_); refine box_event ?hg (N := 7) ?hd (cs := #[.slice none 0 0, .slice none 0 0]) (t := 26) ?hr ?_; (case hd => rfl); (case hg => rfl); (case hr => first | (go_simp; done) | (go_simp; rfl)); intro gb153 hg w55 hbox hb; have n0_ := Aside0.mk (blk_below (g := gb149) (o := .cells #[.slice none 0 0, .slice none 0 0] 26 (0, 0)) (by qb_; exact BK149.out) hb); have n1_ := Aside0.mk (below_step (by repeat (first | (with_reducible first | qp_ | refine below_set ?_ GE149.out) | exact HB.out)) hb); have n2_ := Aside0.mk (hbox); have n3_ := Aside0.mk ((by rw [hg]; exact (below_size (by repeat (first | (with_reducible first | qp_ | refine below_set ?_ GE149.out) | exact HB.out))) : w.heap.size ≤ gb153)); have n4_ := Aside0.mk ((by rw [hg]; exact (below_size (by repeat (first | (with_reducible first | qp_ | refine below_set ?_ GE149.out) | exact HB.out))) : w.heap.size ≤ gb153)); have n5_ := Aside0.mk ((by rw [hg]; exact Nat.ne_of_lt (blk_lt (g := gb149) (o := .cells #[.slice none 0 0, .slice none 0 0] 26 (0, 0)) (by qb_; exact BK149.out)) : gb149 ≠ gb153)); have n6_ := Aside0.mk ((by rw [hg]; exact Nat.ne_of_gt (blk_lt (g := gb149) (o := .cells #[.slice none 0 0, .slice none 0 0] 26 (0, 0)) (by qb_; exact BK149.out)) : gb153 ≠ gb149)); clear BK149; clear HB; have BK149 := n0_; have HB := n1_; have BK153 := n2_; have GW153 := n3_; have GE153 := n4_; have NB149_153 := n5_; have NB153_149 := n6_; clear n0_ n1_ n2_ n3_ n4_ n5_ n6_; clear hb hbox hg) | ((with_reducible refine gate_callee (f := 21) rfl ?_); refine goesL_ (some 17) rfl rfl Tryd.func21 (by kernel_rfl) rfl #[.string t150] rfl (by qm_) ?_; (with_reducible refine (target_path.calls k t150 t154 true _ A3.out).mono ?_); rintro e w56 ⟨v156, rfl, ho0, hb⟩; refine ⟨_, rfl, ?_⟩; have n0_ := Aside0.mk (Kd.R_lower ho0 (below_size (by repeat (first | (with_reducible first | qp_ | refine below_set ?_ GE149.out | refine below_set ?_ GE153.out) | exact HB.out)))); have n1_ := Aside0.mk (blk_below (g := gb149) (o := .cells #[.slice none 0 0, .slice none 0 0] 26 (0, 0)) (by qb_; exact BK149.out) hb); have n2_ := Aside0.mk (blk_below (g := gb153) (o := .cells #[.slice none 0 0, .slice none 0 0] 26 (0, 0)) (by qb_; exact BK153.out) hb); have n3_ := Aside0.mk (below_step (by repeat (first | (with_reducible first | qp_ | refine below_set ?_ GE149.out | refine below_set ?_ GE153.out) | exact HB.out)) hb); clear BK149; clear BK153; clear HB; have HO157 := n0_; have BK149 := n1_; have BK153 := n2_; have HB := n3_; clear n0_ n1_ n2_ n3_; (try clear hb); (try clear hb2); (try clear hk); (try clear hi); (try clear ho0); obtain ⟨Ao57, co57, eo57⟩ := Kd.R_slice HO157.out; subst eo57; have hnb58 := NB153_149.out; have hnc58 := NB149_153.out; have hcz59_0 : w56.cell? ⟨gb153, 0, none⟩ = some (.slice none 0 0) := (blk_cell BK153.out 0).trans rfl; have hcz59_1 : w56.cell? ⟨gb153, 1, none⟩ = some (.slice none 0 0) := (blk_cell BK153.out 1).trans rfl; have hfz59_0 := blk_frozen BK153.out 0; have hfz59_1 := blk_frozen BK153.out 1) | ((with_reducible refine gate_callee (f := 17) rfl ?_); refine goesL_ (some 35) rfl rfl Tryd.func17 (by kernel_rfl) rfl #[.agg #[.slice Ao57 t154.length co57, .slice none 0 0]] rfl (by qm_) ?_; (refine (xMay.calls _ _ t154 _ _ ([] : List (S32)) false _ ?side1 ?side2 ?side3 ?side4 A43.out).mono ?_); (case side1 => refine (Kd.R_reads' (e := 9) (base := w.heap.size) (ok := fun k_ => True) (n := t154.length) (c := co57) ?_).2.2; exact (by qk_; exact (Kd.R_mono (Kd.R_far (p := ⟨gb153, 0, none⟩) (Kd.R_types HO157.out BK153.out (by decide)) (fun _ hk => hk.2) (.slice Ao57 t154.length co57)) (fun _ h_ => h_.1)))); (case side2 => exact (Kd.R_reads' HO157.out).2.1); (case side3 => exact Kd.C_nil _ _); (case side4 => exact Nat.le_refl _); rintro e w60 ⟨rfl, hb⟩; refine ⟨_, rfl, ?_⟩; have n0_ := Aside0.mk (Kd.R_below (by qk_; exact (Kd.R_mono (Kd.R_far (p := ⟨gb153, 0, none⟩) (Kd.R_types HO157.out BK153.out (by decide)) (fun _ hk => hk.2) (.slice Ao57 t154.length co57)) (fun _ h_ => h_.1))) hb); have n1_ := Aside0.mk (blk_below (g := gb149) (o := .cells #[.slice none 0 0, .slice none 0 0] 26 (0, 0)) (by qb_; refine blk_far ?_ NB149_153.out _; qb_; exact BK149.out) hb); have n2_ := Aside0.mk (blk_below (g := gb153) (o := .cells #[.slice Ao57 t154.length co57, .slice none 0 0] 26 (0, 0)) (by qb_; refine blk_put (cs := #[.slice none 0 0, .slice none 0 0]) ?_ 0 _ rfl; qb_; exact BK153.out) hb); have n3_ := Aside0.mk (below_step (by repeat (first | (with_reducible first | qp_ | refine below_set ?_ GE149.out | refine below_set ?_ GE153.out) | exact HB.out)) hb); clear HO157; clear BK149; clear BK153; clear HB; have HO157 := n0_; have BK149 := n1_; have BK153 := n2_; have HB := n3_; clear n0_ n1_ n2_ n3_; (try clear hb); (try clear hb2); (try clear hk); (try clear hi); have hcz61_0 : w60.cell? ⟨gb149, 0, none⟩ = some (.slice none 0 0) := (blk_cell BK149.out 0).trans rfl; have hcz61_1 : w60.cell? ⟨gb149, 1, none⟩ = some (.slice none 0 0) := (blk_cell BK149.out 1).trans rfl; have hfz61_0 := blk_frozen BK149.out 0; have hfz61_1 := blk_frozen BK149.out 1))
        refine bodyPost_ret (results_ct rfl _ _ gb149 26 #[.slice none 0 0, .slice none 0 0] (0, 0) _ rfl (by qb_; refine blk_put (cs := #[.slice none 0 0, .slice none 0 0]) ?_ 1 _ rfl; qb_; refine blk_put (cs := #[.slice none 0 0, .slice none 0 0]) ?_ 0 _ rfl; qb_; exact BK149.out) Tryd.underlying26 rfl (by kernel_rfl)) rfl ?_
        exact ⟨_, _, by first | rfl | (simp [errW_none, errW_some] <;> rfl) | (simp [*, errW_none, errW_some] <;> rfl), by first | exact Kd.R_nil _ _ _ _ _ | exact Kd.N_nil _ _ _ _ _ | exact Kd.V_nil _ _ _ _ _ | exact Kd.Q_nil _ _ _ _ _ | exact Kd.S_nil _ _ _ _ _, by first | exact Kd.R_nil _ _ _ _ _ | exact Kd.N_nil _ _ _ _ _ | exact Kd.V_nil _ _ _ _ _ | exact Kd.Q_nil _ _ _ _ _ | exact Kd.S_nil _ _ _ _ _, by repeat (first | (with_reducible first | qp_ | refine below_set ?_ GE149.out | refine below_set ?_ GE153.out) | exact HB.out)⟩
  · replace c4 := Bool.eq_false_iff.mpr c4
    subst c4
    have H1 : (some (([] : List ByteArray), ([] : List (S32)), 4)) = some (r1, r2, r3) := by rw [if_neg (show ¬ (false = true) by decide)] at H; exact H
    clear H
    have H := H1
    clear H1
    simp only [Option.some.injEq, Prod.mk.injEq] at H
    obtain ⟨rfl, rfl, rfl⟩ := H
    go_enter Tryd.func9, Tryd.ntmps9
    go_wp2_with (first | ((with_reducible refine gate_dst (N := 2) rfl ?_); refine box_event ?hg (N := 2) ?hd (cs := #[.slice none 0 0, .slice none 0 0]) (t := 26) ?hr ?_; (case hd => rfl); (case hg => rfl); (case hr => first | (go_simp; done) | (go_simp; rfl)); intro gb149 hg w62 hbox hb; have n0_ := Aside0.mk (below_step (by qh_) hb); have n1_ := Aside0.mk (hbox); have n2_ := Aside0.mk ((by rw [hg]; exact (below_size (by qh_)) : w.heap.size ≤ gb149)); have n3_ := Aside0.mk ((by rw [hg]; exact (below_size (by qh_)) : w.heap.size ≤ gb149)); clear HB; have HB := n0_; have BK149 := n1_; have GW149 := n2_; have GE149 := n3_; clear n0_ n1_ n2_ n3_; clear hb hbox hg) | ((with_reducible refine gate_callee (f := 20) rfl ?_); refine goesL_ (some 11) rfl rfl Tryd.func20 (by kernel_rfl) rfl #[.string a0, .string (⟨#[63]⟩ : ByteArray)] rfl (by qm_) ?_; (with_reducible refine (strings_Cut.calls a0 (⟨#[63]⟩ : ByteArray) t150 t151 t152 _ A2.out).mono ?_); rintro e w' ⟨rfl, ⟨nd, rfl⟩⟩; refine ⟨_, rfl, ?_⟩; (try (rw [drewN_self w62]; generalize hq_ : World.drewN w62 _ = w62; have n0_ : Aside0 (w62.heap[gb149]? = some (.cells #[.slice none 0 0, .slice none 0 0] 26 (0, 0))) := ⟨by rw [← hq_]; exact (by qb_; exact BK149.out)⟩; have n1_ : Aside0 (Below w.heap.size w w62) := ⟨by rw [← hq_]; exact (by repeat (first | (with_reducible first | qp_ | refine below_set ?_ GE149.out) | exact HB.out))⟩; clear BK149 HB hq_; have BK149 := n0_; have HB := n1_; clear n0_ n1_))) | ((with_reducible refine gate_dst (N := 7) rfl ?_); refine box_event ?hg (N := 7) ?hd (cs := #[.slice none 0 0, .slice none 0 0]) (t := 26) ?hr ?_; (case hd => rfl); (case hg => rfl); (case hr => first | (go_simp; done) | (go_simp; rfl)); intro gb153 hg w63 hbox hb; have n0_ := Aside0.mk (blk_below (g := gb149) (o := .cells #[.slice none 0 0, .slice none 0 0] 26 (0, 0)) (by qb_; exact BK149.out) hb); have n1_ := Aside0.mk (below_step (by repeat (first | (with_reducible first | qp_ | refine below_set ?_ GE149.out) | exact HB.out)) hb); have n2_ := Aside0.mk (hbox); have n3_ := Aside0.mk ((by rw [hg]; exact (below_size (by repeat (first | (with_reducible first | qp_ | refine below_set ?_ GE149.out) | exact HB.out))) : w.heap.size ≤ gb153)); have n4_ := Aside0.mk ((by rw [hg]; exact (below_size (by repeat (first | (with_reducible first | qp_ | refine below_set ?_ GE149.out) | exact HB.out))) : w.heap.size ≤ gb153)); have n5_ := Aside0.mk ((by rw [hg]; exact Nat.ne_of_lt (blk_lt (g := gb149) (o := .cells #[.slice none 0 0, .slice none 0 0] 26 (0, 0)) (by qb_; exact BK149.out)) : gb149 ≠ gb153)); have n6_ := Aside0.mk ((by rw [hg]; exact Nat.ne_of_gt (blk_lt (g := gb149) (o := .cells #[.slice none 0 0, .slice none 0 0] 26 (0, 0)) (by qb_; exact BK149.out)) : gb153 ≠ gb149)); clear BK149; clear HB; have BK149 := n0_; have HB := n1_; have BK153 := n2_; have GW153 := n3_; have GE153 := n4_; have NB149_153 := n5_; have NB153_149 := n6_; clear n0_ n1_ n2_ n3_ n4_ n5_ n6_; clear hb hbox hg) | ((with_reducible refine gate_callee (f := 21) rfl ?_); refine goesL_ (some 17) rfl rfl Tryd.func21 (by kernel_rfl) rfl #[.string t150] rfl (by qm_) ?_; (with_reducible refine (target_path.calls k t150 t154 false _ A3.out).mono ?_); rintro e w64 ⟨v156, rfl, ho0, hb⟩; refine ⟨_, rfl, ?_⟩; have n0_ := Aside0.mk (Kd.R_lower ho0 (below_size (by repeat (first | (with_reducible first | qp_ | refine below_set ?_ GE149.out | refine below_set ?_ GE153.out) | exact HB.out)))); have n1_ := Aside0.mk (blk_below (g := gb149) (o := .cells #[.slice none 0 0, .slice none 0 0] 26 (0, 0)) (by qb_; exact BK149.out) hb); have n2_ := Aside0.mk (blk_below (g := gb153) (o := .cells #[.slice none 0 0, .slice none 0 0] 26 (0, 0)) (by qb_; exact BK153.out) hb); have n3_ := Aside0.mk (below_step (by repeat (first | (with_reducible first | qp_ | refine below_set ?_ GE149.out | refine below_set ?_ GE153.out) | exact HB.out)) hb); clear BK149; clear BK153; clear HB; have HO157 := n0_; have BK149 := n1_; have BK153 := n2_; have HB := n3_; clear n0_ n1_ n2_ n3_; (try clear hb); (try clear hb2); (try clear hk); (try clear hi); (try clear ho0); obtain ⟨Ao65, co65, eo65⟩ := Kd.R_slice HO157.out; subst eo65; have hnb66 := NB153_149.out; have hnc66 := NB149_153.out; have hcz67_0 : w64.cell? ⟨gb153, 0, none⟩ = some (.slice none 0 0) := (blk_cell BK153.out 0).trans rfl; have hcz67_1 : w64.cell? ⟨gb153, 1, none⟩ = some (.slice none 0 0) := (blk_cell BK153.out 1).trans rfl; have hfz67_0 := blk_frozen BK153.out 0; have hfz67_1 := blk_frozen BK153.out 1; have hcz68_0 : w64.cell? ⟨gb149, 0, none⟩ = some (.slice none 0 0) := (blk_cell BK149.out 0).trans rfl; have hcz68_1 : w64.cell? ⟨gb149, 1, none⟩ = some (.slice none 0 0) := (blk_cell BK149.out 1).trans rfl; have hfz68_0 := blk_frozen BK149.out 0; have hfz68_1 := blk_frozen BK149.out 1))
    refine bodyPost_ret (results_ct rfl _ _ gb149 26 #[.slice none 0 0, .slice none 0 0] (0, 0) _ rfl (by qb_; refine blk_put (cs := #[.slice none 0 0, .slice none 0 0]) ?_ 1 _ rfl; qb_; refine blk_put (cs := #[.slice none 0 0, .slice none 0 0]) ?_ 0 _ rfl; qb_; refine blk_far ?_ NB149_153.out _; qb_; exact BK149.out) Tryd.underlying26 rfl (by kernel_rfl)) rfl ?_
    exact ⟨_, _, by first | rfl | (simp [errW_none, errW_some] <;> rfl) | (simp [*, errW_none, errW_some] <;> rfl), by first | exact Kd.R_nil _ _ _ _ _ | exact Kd.N_nil _ _ _ _ _ | exact Kd.V_nil _ _ _ _ _ | exact Kd.Q_nil _ _ _ _ _ | exact Kd.S_nil _ _ _ _ _, by first | exact Kd.R_nil _ _ _ _ _ | exact Kd.N_nil _ _ _ _ _ | exact Kd.V_nil _ _ _ _ _ | exact Kd.Q_nil _ _ _ _ _ | exact Kd.S_nil _ _ _ _ _, by repeat (first | (with_reducible first | qp_ | refine below_set ?_ GE149.out | refine below_set ?_ GE153.out) | exact HB.out)⟩

/-! ### cofferref21_zero: function 28 -/
def cofferref21_zero.l0 : Nat → ByteArray → Int → Option (Bool)
  | 0, _, _ => none
  | k + 1, x0, x3 => if x3 < (x0.size : Int) then (if 0 ≤ x3 then (if (bt x0 x3) = 0 then (some true) else (cofferref21_zero.l0 k x0 (wrap64 (x3 + 1)))) else (none)) else (some false)
def cofferref21_zero.f (k : Nat) (a0 : ByteArray) : Option (Bool) := cofferref21_zero.l0 k a0 0
theorem cofferref21_zero.mono_l : ∀ k, (∀ y0 y1, LeO (cofferref21_zero.l0 k y0 y1) (cofferref21_zero.l0 (k + 1) y0 y1))
  | 0 => fun _ _ r h => by simp [cofferref21_zero.l0] at h
  | k + 1 => by
    have ih0 := cofferref21_zero.mono_l k
    · intro y0 y1
      unfold cofferref21_zero.l0
      repeat' first
      | (with_reducible exact ih0 _ _)
      | (with_reducible exact LeO.refl _)
      | (with_reducible exact LeO.none _)
      | (with_reducible refine LeO.ite ?_ ?_)
      | (with_reducible refine LeO.bind ?_ (fun _ => ?_))
      | exact ih0 _ _
      | exact LeO.none _
      | refine LeO.ite ?_ ?_
      | refine LeO.bind ?_ (fun _ => ?_)
theorem cofferref21_zero.mono : ∀ a0 k, LeO (cofferref21_zero.f k a0) (cofferref21_zero.f (k + 1) a0) := by
  intro a0 k
  have ih0 := cofferref21_zero.mono_l k
  unfold cofferref21_zero.f
  repeat' first
      | (with_reducible exact ih0 _ _)
      | (with_reducible exact LeO.refl _)
      | (with_reducible exact LeO.none _)
      | (with_reducible refine LeO.ite ?_ ?_)
      | (with_reducible refine LeO.bind ?_ (fun _ => ?_))
      | exact ih0 _ _
      | exact LeO.none _
      | refine LeO.ite ?_ ?_
      | refine LeO.bind ?_ (fun _ => ?_)
set_option maxHeartbeats 8000000 in
set_option maxRecDepth 100000 in
theorem cofferref21_zero.calls (k : Nat) (a0 : ByteArray) (r : Bool) (w : World) (h : cofferref21_zero.f k a0 = some r) :
    Calls Tryd.prog 28 #[.string a0] w fun e w' => e = .returned (.bool r) ∧ Drawn0 w w' := by
  have H : (cofferref21_zero.l0 k a0 0) = some r := h
  clear h
  have H' := Aside0.mk H
  clear H
  go_enter Tryd.func28, Tryd.ntmps28
  go_wp2
  go_loopg [3] k (fun kq v3 w' => ∃ (x3_1 : Int), v3 = .int .i64 x3_1 ∧ Aside0 (cofferref21_zero.l0 kq a0 x3_1 = some r) ∧ Aside0 (kq ≤ k) ∧ Drawn0 w w')
  case atStart => exact ⟨(0), (by qr_), H', ⟨Nat.le_refl _⟩, by qd_⟩
  case round =>
    clear H'
    obtain ⟨x3_1, rfl, HA, HK1, ⟨m1, rfl⟩⟩ := hrel
    cases gk with
    | zero => exact absurd HA.out (by simp [cofferref21_zero.l0])
    | succ k1 =>
      have H := HA.out
      clear HA
      simp only [cofferref21_zero.l0] at H
      by_cases c2 : x3_1 < (a0.size : Int)
      · rw [if_pos c2] at H
        have c2b0 : decide (x3_1 < (a0.size : Int)) = true := decide_eq_true c2
        clear c2
        by_cases c3 : 0 ≤ x3_1
        · rw [if_pos c3] at H
          have c3b0 : decide (0 ≤ x3_1) = true := decide_eq_true c3
          clear c3
          by_cases c5 : (bt a0 x3_1) = 0
          · rw [if_pos c5] at H
            have c5b0 : ((bt a0 x3_1) == 0) = true := beq_iff_eq.mpr c5
            have c5b1 : ((bt a0 x3_1) != 0) = false := bne_eq_false_iff_eq.mpr c5
            clear c5
            obtain rfl := Option.some.inj H
            have p4 : 0 ≤ (x3_1 : Int) := of_decide_eq_true (by qa_)
            have q4 : x3_1 < (a0.size : Int) := of_decide_eq_true (by qa_)
            have hx4 := bt_at a0 x3_1
            replace p4 := eq_true p4
            replace q4 := eq_true q4
            go_wp2
            go_ret
            exact ⟨by qr_, by qd_⟩
          · rw [if_neg c5] at H
            have c5b0 : ((bt a0 x3_1) == 0) = false := beq_eq_false_iff_ne.mpr c5
            have c5b1 : ((bt a0 x3_1) != 0) = true := bne_iff_ne.mpr c5
            have H' := Aside0.mk H
            clear H
            have p4 : 0 ≤ (x3_1 : Int) := of_decide_eq_true (by qa_)
            have q4 : x3_1 < (a0.size : Int) := of_decide_eq_true (by qa_)
            have hx4 := bt_at a0 x3_1
            replace p4 := eq_true p4
            replace q4 := eq_true q4
            go_wp2
            go_roundg k1
            case measure => have := HK1.out; omega
            case rel => exact ⟨(wrap64 (x3_1 + 1)), (by qr_), H', ⟨by have := HK1.out; omega⟩, by qd_⟩
        · rw [if_neg c3] at H
          exact absurd H (by simp)
      · rw [if_neg c2] at H
        have c2b0 : decide (x3_1 < (a0.size : Int)) = false := decide_eq_false c2
        clear c2
        obtain rfl := Option.some.inj H
        go_wp2
        go_ret
        exact ⟨by qr_, by qd_⟩

end Go.Proofs.YtejmolhdmbkfaaaDoor.S
