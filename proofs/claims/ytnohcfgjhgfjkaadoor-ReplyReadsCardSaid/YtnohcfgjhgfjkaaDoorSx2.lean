-- Written by wip/hook.py: the functions of this seat as plain Lean functions, and their walks.
import Derived.Test.YtnohcfgjhgfjkaaDoorSx0
namespace Go.Proofs.YtnohcfgjhgfjkaaDoor.S
open Go.RowKit Go.Proofs.YtnohcfgjhgfjkaaDoorW.PrintWords Go.Proofs.YtnohcfgjhgfjkaaDoorW.PrintLast Go.Proofs.YtnohcfgjhgfjkaaDoorW.PrintMore
attribute [local go_sem] max2_int min2_int max_two min_two max_three min_three max_four min_four   -- for this text's walks alone
set_option linter.unusedVariables false
set_option linter.unusedSimpArgs false

/-! ### reply_Reason: function 11 -/
def reply_Reason.f (a0 : Int) : Option (ByteArray) := if a0 = 200 then (some (⟨#[79, 75]⟩ : ByteArray)) else (if a0 = 201 then (some (⟨#[67, 114, 101, 97, 116, 101, 100]⟩ : ByteArray)) else (if a0 = 400 then (some (⟨#[66, 97, 100, 32, 82, 101, 113, 117, 101, 115, 116]⟩ : ByteArray)) else (if a0 = 401 then (some (⟨#[85, 110, 97, 117, 116, 104, 111, 114, 105, 122, 101, 100]⟩ : ByteArray)) else (if a0 = 403 then (some (⟨#[70, 111, 114, 98, 105, 100, 100, 101, 110]⟩ : ByteArray)) else (if a0 = 404 then (some (⟨#[78, 111, 116, 32, 70, 111, 117, 110, 100]⟩ : ByteArray)) else (if a0 = 405 then (some (⟨#[77, 101, 116, 104, 111, 100, 32, 78, 111, 116, 32, 65, 108, 108, 111, 119, 101, 100]⟩ : ByteArray)) else (if a0 = 409 then (some (⟨#[67, 111, 110, 102, 108, 105, 99, 116]⟩ : ByteArray)) else (if a0 = 413 then (some (⟨#[67, 111, 110, 116, 101, 110, 116, 32, 84, 111, 111, 32, 76, 97, 114, 103, 101]⟩ : ByteArray)) else (if a0 = 431 then (some (⟨#[82, 101, 113, 117, 101, 115, 116, 32, 72, 101, 97, 100, 101, 114, 32, 70, 105, 101, 108, 100, 115, 32, 84, 111, 111, 32, 76, 97, 114, 103, 101]⟩ : ByteArray)) else (if a0 = 507 then (some (⟨#[73, 110, 115, 117, 102, 102, 105, 99, 105, 101, 110, 116, 32, 83, 116, 111, 114, 97, 103, 101]⟩ : ByteArray)) else (some (⟨#[]⟩ : ByteArray))))))))))))
set_option maxHeartbeats 8000000 in
set_option maxRecDepth 100000 in
theorem reply_Reason.calls (a0 : Int) (r : ByteArray) (w : World) (h : reply_Reason.f a0 = some r) :
    Calls Tryd.prog 11 #[.int .i64 a0] w fun e w' => e = .returned (.string r) ∧ Drawn0 w w' := by
  have H : (if a0 = 200 then (some (⟨#[79, 75]⟩ : ByteArray)) else (if a0 = 201 then (some (⟨#[67, 114, 101, 97, 116, 101, 100]⟩ : ByteArray)) else (if a0 = 400 then (some (⟨#[66, 97, 100, 32, 82, 101, 113, 117, 101, 115, 116]⟩ : ByteArray)) else (if a0 = 401 then (some (⟨#[85, 110, 97, 117, 116, 104, 111, 114, 105, 122, 101, 100]⟩ : ByteArray)) else (if a0 = 403 then (some (⟨#[70, 111, 114, 98, 105, 100, 100, 101, 110]⟩ : ByteArray)) else (if a0 = 404 then (some (⟨#[78, 111, 116, 32, 70, 111, 117, 110, 100]⟩ : ByteArray)) else (if a0 = 405 then (some (⟨#[77, 101, 116, 104, 111, 100, 32, 78, 111, 116, 32, 65, 108, 108, 111, 119, 101, 100]⟩ : ByteArray)) else (if a0 = 409 then (some (⟨#[67, 111, 110, 102, 108, 105, 99, 116]⟩ : ByteArray)) else (if a0 = 413 then (some (⟨#[67, 111, 110, 116, 101, 110, 116, 32, 84, 111, 111, 32, 76, 97, 114, 103, 101]⟩ : ByteArray)) else (if a0 = 431 then (some (⟨#[82, 101, 113, 117, 101, 115, 116, 32, 72, 101, 97, 100, 101, 114, 32, 70, 105, 101, 108, 100, 115, 32, 84, 111, 111, 32, 76, 97, 114, 103, 101]⟩ : ByteArray)) else (if a0 = 507 then (some (⟨#[73, 110, 115, 117, 102, 102, 105, 99, 105, 101, 110, 116, 32, 83, 116, 111, 114, 97, 103, 101]⟩ : ByteArray)) else (some (⟨#[]⟩ : ByteArray))))))))))))) = some r := h
  clear h
  by_cases c2 : a0 = 200
  · rw [if_pos c2] at H
    have c2b0 : (a0 == 200) = true := beq_iff_eq.mpr c2
    have c2b1 : (a0 != 200) = false := bne_eq_false_iff_eq.mpr c2
    clear c2
    obtain rfl := Option.some.inj H
    go_enter Tryd.func11, Tryd.ntmps11
    go_wp2
    go_ret
    exact ⟨by first | rfl | (simp; done) | (simp [*]; done), by repeat (first | exact Drawn0.refl _ | apply Drawn0.step)⟩
  · rw [if_neg c2] at H
    have c2b0 : (a0 == 200) = false := beq_eq_false_iff_ne.mpr c2
    have c2b1 : (a0 != 200) = true := bne_iff_ne.mpr c2
    by_cases c3 : a0 = 201
    · rw [if_pos c3] at H
      have c3b0 : (a0 == 201) = true := beq_iff_eq.mpr c3
      have c3b1 : (a0 != 201) = false := bne_eq_false_iff_eq.mpr c3
      clear c3
      obtain rfl := Option.some.inj H
      go_enter Tryd.func11, Tryd.ntmps11
      go_wp2
      go_ret
      exact ⟨by first | rfl | (simp; done) | (simp [*]; done), by repeat (first | exact Drawn0.refl _ | apply Drawn0.step)⟩
    · rw [if_neg c3] at H
      have c3b0 : (a0 == 201) = false := beq_eq_false_iff_ne.mpr c3
      have c3b1 : (a0 != 201) = true := bne_iff_ne.mpr c3
      by_cases c4 : a0 = 400
      · rw [if_pos c4] at H
        have c4b0 : (a0 == 400) = true := beq_iff_eq.mpr c4
        have c4b1 : (a0 != 400) = false := bne_eq_false_iff_eq.mpr c4
        clear c4
        obtain rfl := Option.some.inj H
        go_enter Tryd.func11, Tryd.ntmps11
        go_wp2
        go_ret
        exact ⟨by first | rfl | (simp; done) | (simp [*]; done), by repeat (first | exact Drawn0.refl _ | apply Drawn0.step)⟩
      · rw [if_neg c4] at H
        have c4b0 : (a0 == 400) = false := beq_eq_false_iff_ne.mpr c4
        have c4b1 : (a0 != 400) = true := bne_iff_ne.mpr c4
        by_cases c5 : a0 = 401
        · rw [if_pos c5] at H
          have c5b0 : (a0 == 401) = true := beq_iff_eq.mpr c5
          have c5b1 : (a0 != 401) = false := bne_eq_false_iff_eq.mpr c5
          clear c5
          obtain rfl := Option.some.inj H
          go_enter Tryd.func11, Tryd.ntmps11
          go_wp2
          go_ret
          exact ⟨by first | rfl | (simp; done) | (simp [*]; done), by repeat (first | exact Drawn0.refl _ | apply Drawn0.step)⟩
        · rw [if_neg c5] at H
          have c5b0 : (a0 == 401) = false := beq_eq_false_iff_ne.mpr c5
          have c5b1 : (a0 != 401) = true := bne_iff_ne.mpr c5
          by_cases c6 : a0 = 403
          · rw [if_pos c6] at H
            have c6b0 : (a0 == 403) = true := beq_iff_eq.mpr c6
            have c6b1 : (a0 != 403) = false := bne_eq_false_iff_eq.mpr c6
            clear c6
            obtain rfl := Option.some.inj H
            go_enter Tryd.func11, Tryd.ntmps11
            go_wp2
            go_ret
            exact ⟨by first | rfl | (simp; done) | (simp [*]; done), by repeat (first | exact Drawn0.refl _ | apply Drawn0.step)⟩
          · rw [if_neg c6] at H
            have c6b0 : (a0 == 403) = false := beq_eq_false_iff_ne.mpr c6
            have c6b1 : (a0 != 403) = true := bne_iff_ne.mpr c6
            by_cases c7 : a0 = 404
            · rw [if_pos c7] at H
              have c7b0 : (a0 == 404) = true := beq_iff_eq.mpr c7
              have c7b1 : (a0 != 404) = false := bne_eq_false_iff_eq.mpr c7
              clear c7
              obtain rfl := Option.some.inj H
              go_enter Tryd.func11, Tryd.ntmps11
              go_wp2
              go_ret
              exact ⟨by first | rfl | (simp; done) | (simp [*]; done), by repeat (first | exact Drawn0.refl _ | apply Drawn0.step)⟩
            · rw [if_neg c7] at H
              have c7b0 : (a0 == 404) = false := beq_eq_false_iff_ne.mpr c7
              have c7b1 : (a0 != 404) = true := bne_iff_ne.mpr c7
              by_cases c8 : a0 = 405
              · rw [if_pos c8] at H
                have c8b0 : (a0 == 405) = true := beq_iff_eq.mpr c8
                have c8b1 : (a0 != 405) = false := bne_eq_false_iff_eq.mpr c8
                clear c8
                obtain rfl := Option.some.inj H
                go_enter Tryd.func11, Tryd.ntmps11
                go_wp2
                go_ret
                exact ⟨by first | rfl | (simp; done) | (simp [*]; done), by repeat (first | exact Drawn0.refl _ | apply Drawn0.step)⟩
              · rw [if_neg c8] at H
                have c8b0 : (a0 == 405) = false := beq_eq_false_iff_ne.mpr c8
                have c8b1 : (a0 != 405) = true := bne_iff_ne.mpr c8
                by_cases c9 : a0 = 409
                · rw [if_pos c9] at H
                  have c9b0 : (a0 == 409) = true := beq_iff_eq.mpr c9
                  have c9b1 : (a0 != 409) = false := bne_eq_false_iff_eq.mpr c9
                  clear c9
                  obtain rfl := Option.some.inj H
                  go_enter Tryd.func11, Tryd.ntmps11
                  go_wp2
                  go_ret
                  exact ⟨by first | rfl | (simp; done) | (simp [*]; done), by repeat (first | exact Drawn0.refl _ | apply Drawn0.step)⟩
                · rw [if_neg c9] at H
                  have c9b0 : (a0 == 409) = false := beq_eq_false_iff_ne.mpr c9
                  have c9b1 : (a0 != 409) = true := bne_iff_ne.mpr c9
                  by_cases c10 : a0 = 413
                  · rw [if_pos c10] at H
                    have c10b0 : (a0 == 413) = true := beq_iff_eq.mpr c10
                    have c10b1 : (a0 != 413) = false := bne_eq_false_iff_eq.mpr c10
                    clear c10
                    obtain rfl := Option.some.inj H
                    go_enter Tryd.func11, Tryd.ntmps11
                    go_wp2
                    go_ret
                    exact ⟨by first | rfl | (simp; done) | (simp [*]; done), by repeat (first | exact Drawn0.refl _ | apply Drawn0.step)⟩
                  · rw [if_neg c10] at H
                    have c10b0 : (a0 == 413) = false := beq_eq_false_iff_ne.mpr c10
                    have c10b1 : (a0 != 413) = true := bne_iff_ne.mpr c10
                    by_cases c11 : a0 = 431
                    · rw [if_pos c11] at H
                      have c11b0 : (a0 == 431) = true := beq_iff_eq.mpr c11
                      have c11b1 : (a0 != 431) = false := bne_eq_false_iff_eq.mpr c11
                      clear c11
                      obtain rfl := Option.some.inj H
                      go_enter Tryd.func11, Tryd.ntmps11
                      go_wp2
                      go_ret
                      exact ⟨by first | rfl | (simp; done) | (simp [*]; done), by repeat (first | exact Drawn0.refl _ | apply Drawn0.step)⟩
                    · rw [if_neg c11] at H
                      have c11b0 : (a0 == 431) = false := beq_eq_false_iff_ne.mpr c11
                      have c11b1 : (a0 != 431) = true := bne_iff_ne.mpr c11
                      by_cases c12 : a0 = 507
                      · rw [if_pos c12] at H
                        have c12b0 : (a0 == 507) = true := beq_iff_eq.mpr c12
                        have c12b1 : (a0 != 507) = false := bne_eq_false_iff_eq.mpr c12
                        clear c12
                        obtain rfl := Option.some.inj H
                        go_enter Tryd.func11, Tryd.ntmps11
                        go_wp2
                        go_ret
                        exact ⟨by first | rfl | (simp; done) | (simp [*]; done), by repeat (first | exact Drawn0.refl _ | apply Drawn0.step)⟩
                      · rw [if_neg c12] at H
                        have c12b0 : (a0 == 507) = false := beq_eq_false_iff_ne.mpr c12
                        have c12b1 : (a0 != 507) = true := bne_iff_ne.mpr c12
                        obtain rfl := Option.some.inj H
                        go_enter Tryd.func11, Tryd.ntmps11
                        go_wp2
                        go_ret
                        exact ⟨by first | rfl | (simp; done) | (simp [*]; done), by repeat (first | exact Drawn0.refl _ | apply Drawn0.step)⟩

/-! ### names_Print: function 20 -/
def names_Print.f (a0 : Int) : Option (ByteArray) := (xFormatInt.f a0 10).bind fun t106 => (some t106)
set_option maxHeartbeats 8000000 in
set_option maxRecDepth 100000 in
theorem names_Print.calls (a0 : Int) (r : ByteArray) (w : World) (h : names_Print.f a0 = some r) (hT : Tabs w) :
    Calls Tryd.prog 20 #[.int .i64 a0] w fun e w' => e = .returned (.string r) ∧ Below w.heap.size w w' := by
  have HB := Aside0.mk (Below.refl w.heap.size w)
  have H : ((xFormatInt.f a0 10).bind fun t106 => (some t106)) = some r := h
  clear h
  replace H := Option.bind_eq_some_iff.mp H
  obtain ⟨t106, A20, H⟩ := H
  replace H : (some t106) = some r := H
  have A2 := Aside0.mk A20
  clear A20
  obtain rfl := Option.some.inj H
  go_enter Tryd.func20, Tryd.ntmps20
  go_wp2_with (first | ((with_reducible refine gate_callee (f := 29) rfl ?_); refine goesL_ (some 4) rfl rfl Tryd.func29 (by kernel_rfl) rfl #[.int .i64 a0, .int .i64 10] rfl (by (try simp only [List.map_toArray, List.map_cons, List.map_nil]); first | done | rfl | (simp only [List.length_drop, List.length_take]; rfl)) ?_; (with_reducible refine (xFormatInt.calls a0 10 t106 _ A2.out (by first | exact hT | exact Tabs.below hT (by repeat (first | (with_reducible first | exact HB.out | exact Below.refl _ _ | apply below_alloc | apply pw_below_drewN | apply below_drew1) | exact HB.out)) | exact Tabs.drawn hT (by repeat (first | exact Drawn0.refl _ | apply Drawn0.step)))).mono ?_); rintro e w3 ⟨rfl, hb⟩; refine ⟨_, rfl, ?_⟩; have n0_ := Aside0.mk (below_step (by repeat (first | (with_reducible first | exact HB.out | apply below_alloc | apply pw_below_drewN | apply below_drew1) | exact HB.out)) hb); clear HB; have HB := n0_; clear n0_; (try clear hb); (try clear hb2); (try clear hk); (try clear hi)))
  go_ret
  exact ⟨by first | rfl | (simp [errW_none, errW_some] <;> rfl) | (simp [*, errW_none, errW_some] <;> rfl), by repeat (first | (with_reducible first | exact HB.out | apply below_alloc | apply pw_below_drewN | apply below_drew1) | exact HB.out)⟩

/-! ### cofferref4_Number: function 28 -/
mutual
def cofferref4_Number.j0 : Nat → ByteArray → Bool → Option (Int × Int)
  | 0, _, _ => none
  | k + 1, x0, x18 => if x18 = true then (some (0, 4)) else (cofferref4_Number.l0 k x0 0)
def cofferref4_Number.l0 : Nat → ByteArray → Int → Option (Int × Int)
  | 0, _, _ => none
  | k + 1, x0, x4 => if x4 < (x0.size : Int) then (if 0 ≤ x4 then (if (bt x0 x4) < 48 then (some (0, 4)) else (if (bt x0 x4) > 57 then (some (0, 4)) else (cofferref4_Number.l0 k x0 (wrap64 (x4 + 1))))) else (none)) else (cofferref4_Number.l1 k x0 0 0)
def cofferref4_Number.l1 : Nat → ByteArray → Int → Int → Option (Int × Int)
  | 0, _, _, _ => none
  | k + 1, x0, x5, x6 => if x6 < (x0.size : Int) then (if x6 > 18 then (some (0, 2)) else (if 0 ≤ x6 then (if (IntKind.u64.wrap ((IntKind.u64.wrap (x5 * 10)) + (((bt x0 x6) - 48) % 256))) > 9223372036854775807 then (some (0, 2)) else (cofferref4_Number.l1 k x0 (IntKind.u64.wrap ((IntKind.u64.wrap (x5 * 10)) + (((bt x0 x6) - 48) % 256))) (wrap64 (x6 + 1)))) else (none))) else (some (wrap64 (x5), 0))
end
def cofferref4_Number.f (k : Nat) (a0 : ByteArray) : Option (Int × Int) := if a0.toList = ([] : List UInt8) then (cofferref4_Number.j0 k a0 true) else (if 0 < (a0.size : Int) then (if (bt a0 0) = 48 then (cofferref4_Number.j0 k a0 (decide ((a0.size : Int) > 1))) else (cofferref4_Number.j0 k a0 false)) else (none))
theorem cofferref4_Number.mono_l : ∀ k, (∀ y0 y1, LeO (cofferref4_Number.j0 k y0 y1) (cofferref4_Number.j0 (k + 1) y0 y1)) ∧ (∀ y0 y1, LeO (cofferref4_Number.l0 k y0 y1) (cofferref4_Number.l0 (k + 1) y0 y1)) ∧ (∀ y0 y1 y2, LeO (cofferref4_Number.l1 k y0 y1 y2) (cofferref4_Number.l1 (k + 1) y0 y1 y2))
  | 0 => ⟨fun _ _ r h => by simp [cofferref4_Number.j0] at h, fun _ _ r h => by simp [cofferref4_Number.l0] at h, fun _ _ _ r h => by simp [cofferref4_Number.l1] at h⟩
  | k + 1 => by
    obtain ⟨ih0, ih1, ih2⟩ := cofferref4_Number.mono_l k
    refine ⟨?_, ?_, ?_⟩
    · intro y0 y1
      unfold cofferref4_Number.j0
      repeat' first
      | (with_reducible exact ih0 _ _)
      | (with_reducible exact ih1 _ _)
      | (with_reducible exact ih2 _ _ _)
      | (with_reducible exact LeO.refl _)
      | (with_reducible exact LeO.none _)
      | (with_reducible refine LeO.ite ?_ ?_)
      | (with_reducible refine LeO.bind ?_ (fun _ => ?_))
      | exact ih0 _ _
      | exact ih1 _ _
      | exact ih2 _ _ _
      | exact LeO.none _
      | refine LeO.ite ?_ ?_
      | refine LeO.bind ?_ (fun _ => ?_)
    · intro y0 y1
      unfold cofferref4_Number.l0
      repeat' first
      | (with_reducible exact ih0 _ _)
      | (with_reducible exact ih1 _ _)
      | (with_reducible exact ih2 _ _ _)
      | (with_reducible exact LeO.refl _)
      | (with_reducible exact LeO.none _)
      | (with_reducible refine LeO.ite ?_ ?_)
      | (with_reducible refine LeO.bind ?_ (fun _ => ?_))
      | exact ih0 _ _
      | exact ih1 _ _
      | exact ih2 _ _ _
      | exact LeO.none _
      | refine LeO.ite ?_ ?_
      | refine LeO.bind ?_ (fun _ => ?_)
    · intro y0 y1 y2
      unfold cofferref4_Number.l1
      repeat' first
      | (with_reducible exact ih0 _ _)
      | (with_reducible exact ih1 _ _)
      | (with_reducible exact ih2 _ _ _)
      | (with_reducible exact LeO.refl _)
      | (with_reducible exact LeO.none _)
      | (with_reducible refine LeO.ite ?_ ?_)
      | (with_reducible refine LeO.bind ?_ (fun _ => ?_))
      | exact ih0 _ _
      | exact ih1 _ _
      | exact ih2 _ _ _
      | exact LeO.none _
      | refine LeO.ite ?_ ?_
      | refine LeO.bind ?_ (fun _ => ?_)
theorem cofferref4_Number.mono : ∀ a0 k, LeO (cofferref4_Number.f k a0) (cofferref4_Number.f (k + 1) a0) := by
  intro a0 k
  obtain ⟨ih0, ih1, ih2⟩ := cofferref4_Number.mono_l k
  unfold cofferref4_Number.f
  repeat' first
      | (with_reducible exact ih0 _ _)
      | (with_reducible exact ih1 _ _)
      | (with_reducible exact ih2 _ _ _)
      | (with_reducible exact LeO.refl _)
      | (with_reducible exact LeO.none _)
      | (with_reducible refine LeO.ite ?_ ?_)
      | (with_reducible refine LeO.bind ?_ (fun _ => ?_))
      | exact ih0 _ _
      | exact ih1 _ _
      | exact ih2 _ _ _
      | exact LeO.none _
      | refine LeO.ite ?_ ?_
      | refine LeO.bind ?_ (fun _ => ?_)
set_option maxHeartbeats 8000000 in
set_option maxRecDepth 100000 in
theorem cofferref4_Number.calls (k : Nat) (a0 : ByteArray) (r1 : Int) (r2 : Int) (w : World) (h : cofferref4_Number.f k a0 = some (r1, r2)) :
    Calls Tryd.prog 28 #[.string a0] w fun e w' => e = .returned (.tuple #[.int .i64 r1, .int .i64 r2]) ∧ Drawn0 w w' := by
  have H : (if a0.toList = ([] : List UInt8) then (cofferref4_Number.j0 k a0 true) else (if 0 < (a0.size : Int) then (if (bt a0 0) = 48 then (cofferref4_Number.j0 k a0 (decide ((a0.size : Int) > 1))) else (cofferref4_Number.j0 k a0 false)) else (none))) = some (r1, r2) := h
  clear h
  have HC2 := Aside0.mk H
  clear H
  go_enter Tryd.func28, Tryd.ntmps28
  go_upto_region 1 with (fail)
  go_cut [18] (fun v18 wc => ∃ (kq : Nat) (x18_1 : Bool), v18 = .bool x18_1 ∧ Aside0 (cofferref4_Number.j0 kq a0 x18_1 = some (r1, r2)) ∧ Aside0 (kq ≤ k) ∧ Drawn0 w wc)
  case first =>
    have H := HC2.out
    clear HC2
    by_cases c3 : a0.toList = ([] : List UInt8)
    · rw [if_pos c3] at H
      have c3b0 : (a0.toList == ([] : List UInt8)) = true := beq_iff_eq.mpr c3
      have c3b1 : (a0.toList != ([] : List UInt8)) = false := bne_eq_false_iff_eq.mpr c3
      clear c3
      (first | rw [c3b0] | (simp only [i64_w, i32_w]; rw [c3b0]) | skip)
      have H' := Aside0.mk H
      clear H
      go_wp2
      go_meet
      case rel => exact ⟨_, (true), (by first | rfl | (simp; done) | (simp [*]; done)), H', ⟨by first | omega | exact Nat.le_refl _⟩, by repeat (first | exact Drawn0.refl _ | apply Drawn0.step)⟩
    · rw [if_neg c3] at H
      have c3b0 : (a0.toList == ([] : List UInt8)) = false := beq_eq_false_iff_ne.mpr c3
      have c3b1 : (a0.toList != ([] : List UInt8)) = true := bne_iff_ne.mpr c3
      (first | rw [c3b0] | (simp only [i64_w, i32_w]; rw [c3b0]) | skip)
      by_cases c4 : 0 < (a0.size : Int)
      · rw [if_pos c4] at H
        have c4b0 : decide (0 < (a0.size : Int)) = true := decide_eq_true c4
        have c4b1 : decide (0 < a0.size) = true := decide_eq_true (by omega)
        clear c4
        by_cases c6 : (bt a0 0) = 48
        · rw [if_pos c6] at H
          have c6b0 : ((bt a0 0) == 48) = true := beq_iff_eq.mpr c6
          have c6b1 : ((bt a0 0) != 48) = false := bne_eq_false_iff_eq.mpr c6
          clear c6
          have H' := Aside0.mk H
          clear H
          have p5 : 0 ≤ (0 : Int) := (by omega)
          have q5 : 0 < a0.size := (by have : (0 : Int) < (a0.size : Int) := of_decide_eq_true (by first | (with_reducible assumption) | assumption); omega)
          have hx5 : ∀ h : 0 < a0.size, ((a0[0]'h).toNat : Int) = bt a0 0 := bt_at a0 0
          clear p5
          have qi5 : (0 < (a0.size : Int)) = True := eq_true (of_decide_eq_true (by first | (with_reducible assumption) | assumption))
          replace q5 := eq_true q5
          go_wp2
          go_meet
          case rel => exact ⟨_, (decide ((a0.size : Int) > 1)), (by first | rfl | (simp; done) | (simp [*]; done)), H', ⟨by first | omega | exact Nat.le_refl _⟩, by repeat (first | exact Drawn0.refl _ | apply Drawn0.step)⟩
        · rw [if_neg c6] at H
          have c6b0 : ((bt a0 0) == 48) = false := beq_eq_false_iff_ne.mpr c6
          have c6b1 : ((bt a0 0) != 48) = true := bne_iff_ne.mpr c6
          have H' := Aside0.mk H
          clear H
          have p5 : 0 ≤ (0 : Int) := (by omega)
          have q5 : 0 < a0.size := (by have : (0 : Int) < (a0.size : Int) := of_decide_eq_true (by first | (with_reducible assumption) | assumption); omega)
          have hx5 : ∀ h : 0 < a0.size, ((a0[0]'h).toNat : Int) = bt a0 0 := bt_at a0 0
          clear p5
          have qi5 : (0 < (a0.size : Int)) = True := eq_true (of_decide_eq_true (by first | (with_reducible assumption) | assumption))
          replace q5 := eq_true q5
          go_wp2
          go_meet
          case rel => exact ⟨_, (false), (by first | rfl | (simp; done) | (simp [*]; done)), H', ⟨by first | omega | exact Nat.le_refl _⟩, by repeat (first | exact Drawn0.refl _ | apply Drawn0.step)⟩
      · rw [if_neg c4] at H
        exact absurd H (by simp)
  case rest =>
    clear HC2
    try clear c2
    try clear p2
    try clear c3
    try clear c3b0
    try clear c3b1
    try clear c4
    try clear c4b0
    try clear c4b1
    try clear p5
    try clear q5
    try clear hx5
    try clear qi5
    try clear c6
    try clear c6b0
    try clear c6b1
    try clear p5
    try clear q5
    obtain ⟨kq, x18_1, rfl, HA, HJ1, ⟨mc1, rfl⟩⟩ := hcut
    cases kq with
    | zero => exact absurd HA.out (by simp [cofferref4_Number.j0])
    | succ kj1 =>
      have H := HA.out
      clear HA
      simp only [cofferref4_Number.j0] at H
      by_cases c7 : x18_1 = true
      · subst c7
        have H1 : (some (0, 4)) = some (r1, r2) := by rw [if_pos rfl] at H; exact H
        clear H
        have H := H1
        clear H1
        simp only [Option.some.injEq, Prod.mk.injEq] at H
        obtain ⟨rfl, rfl⟩ := H
        go_wp2
        go_ret2
        exact ⟨by first | rfl | (simp; done) | (simp [*]; done), by repeat (first | exact Drawn0.refl _ | apply Drawn0.step)⟩
      · replace c7 := Bool.eq_false_iff.mpr c7
        subst c7
        have H1 : (cofferref4_Number.l0 kj1 a0 0) = some (r1, r2) := by rw [if_neg (show ¬ (false = true) by decide)] at H; exact H
        clear H
        have H := H1
        clear H1
        have H' := Aside0.mk H
        clear H
        go_wp2
        go_loopg [4] kj1 (fun kq v4 w' => ∃ (x4_2 : Int), v4 = .int .i64 x4_2 ∧ Aside0 (cofferref4_Number.l0 kq a0 x4_2 = some (r1, r2)) ∧ Aside0 (kq ≤ kj1) ∧ Drawn0 w w')
        case atStart => exact ⟨(0), (by first | rfl | (simp; done) | (simp [*]; done)), H', ⟨Nat.le_refl _⟩, by repeat (first | exact Drawn0.refl _ | apply Drawn0.step)⟩
        case round =>
          clear H'
          try clear c1
          try clear c2
          try clear p2
          try clear c3
          try clear c3b0
          try clear c3b1
          try clear c4
          try clear c4b0
          try clear c4b1
          try clear p5
          try clear q5
          try clear hx5
          try clear qi5
          try clear c6
          try clear c6b0
          try clear c6b1
          try clear c7
          try clear p2
          try clear p5
          try clear q5
          obtain ⟨x4_2, rfl, HA, HK2, ⟨m2, rfl⟩⟩ := hrel
          cases gk with
          | zero => exact absurd HA.out (by simp [cofferref4_Number.l0])
          | succ k2 =>
            have H := HA.out
            clear HA
            simp only [cofferref4_Number.l0] at H
            by_cases c8 : x4_2 < (a0.size : Int)
            · rw [if_pos c8] at H
              have c8b0 : decide (x4_2 < (a0.size : Int)) = true := decide_eq_true c8
              clear c8
              by_cases c9 : 0 ≤ x4_2
              · rw [if_pos c9] at H
                have c9b0 : decide (0 ≤ x4_2) = true := decide_eq_true c9
                clear c9
                by_cases c11 : (bt a0 x4_2) < 48
                · rw [if_pos c11] at H
                  have c11b0 : decide ((bt a0 x4_2) < 48) = true := decide_eq_true c11
                  clear c11
                  simp only [Option.some.injEq, Prod.mk.injEq] at H
                  obtain ⟨rfl, rfl⟩ := H
                  have p10 : 0 ≤ (x4_2 : Int) := of_decide_eq_true (by first | (with_reducible assumption) | assumption)
                  have q10 : x4_2 < (a0.size : Int) := of_decide_eq_true (by first | (with_reducible assumption) | assumption)
                  have hx10 := bt_at a0 x4_2
                  replace p10 := eq_true p10
                  replace q10 := eq_true q10
                  go_wp2
                  go_ret2
                  exact ⟨by first | rfl | (simp; done) | (simp [*]; done), by repeat (first | exact Drawn0.refl _ | apply Drawn0.step)⟩
                · rw [if_neg c11] at H
                  have c11b0 : decide ((bt a0 x4_2) < 48) = false := decide_eq_false c11
                  clear c11
                  by_cases c13 : (bt a0 x4_2) > 57
                  · rw [if_pos c13] at H
                    have c13b0 : decide (57 < (bt a0 x4_2)) = true := decide_eq_true c13
                    clear c13
                    simp only [Option.some.injEq, Prod.mk.injEq] at H
                    obtain ⟨rfl, rfl⟩ := H
                    have p10 : 0 ≤ (x4_2 : Int) := of_decide_eq_true (by first | (with_reducible assumption) | assumption)
                    have q10 : x4_2 < (a0.size : Int) := of_decide_eq_true (by first | (with_reducible assumption) | assumption)
                    have hx10 := bt_at a0 x4_2
                    replace p10 := eq_true p10
                    replace q10 := eq_true q10
                    have p12 : 0 ≤ (x4_2 : Int) := of_decide_eq_true (by first | (with_reducible assumption) | assumption)
                    have q12 : x4_2 < (a0.size : Int) := of_decide_eq_true (by first | (with_reducible assumption) | assumption)
                    have hx12 := bt_at a0 x4_2
                    replace p12 := eq_true p12
                    replace q12 := eq_true q12
                    go_wp2
                    go_ret2
                    exact ⟨by first | rfl | (simp; done) | (simp [*]; done), by repeat (first | exact Drawn0.refl _ | apply Drawn0.step)⟩
                  · rw [if_neg c13] at H
                    have c13b0 : decide (57 < (bt a0 x4_2)) = false := decide_eq_false c13
                    clear c13
                    have H' := Aside0.mk H
                    clear H
                    have p10 : 0 ≤ (x4_2 : Int) := of_decide_eq_true (by first | (with_reducible assumption) | assumption)
                    have q10 : x4_2 < (a0.size : Int) := of_decide_eq_true (by first | (with_reducible assumption) | assumption)
                    have hx10 := bt_at a0 x4_2
                    replace p10 := eq_true p10
                    replace q10 := eq_true q10
                    have p12 : 0 ≤ (x4_2 : Int) := of_decide_eq_true (by first | (with_reducible assumption) | assumption)
                    have q12 : x4_2 < (a0.size : Int) := of_decide_eq_true (by first | (with_reducible assumption) | assumption)
                    have hx12 := bt_at a0 x4_2
                    replace p12 := eq_true p12
                    replace q12 := eq_true q12
                    go_wp2
                    go_roundg k2
                    case measure => have := HJ1.out; have := HK2.out; omega
                    case rel => exact ⟨(wrap64 (x4_2 + 1)), (by first | rfl | (simp; done) | (simp [*]; done)), H', ⟨by have := HJ1.out; have := HK2.out; omega⟩, by repeat (first | exact Drawn0.refl _ | apply Drawn0.step)⟩
              · rw [if_neg c9] at H
                exact absurd H (by simp)
            · rw [if_neg c8] at H
              have c8b0 : decide (x4_2 < (a0.size : Int)) = false := decide_eq_false c8
              clear c8
              have H' := Aside0.mk H
              clear H
              go_wp2
              go_loopg [5, 6] k2 (fun kq v5 v6 w' => ∃ (x5_3 : Int) (x6_3 : Int), v5 = .int .u64 x5_3 ∧ v6 = .int .i64 x6_3 ∧ Aside0 (cofferref4_Number.l1 kq a0 x5_3 x6_3 = some (r1, r2)) ∧ Aside0 (kq ≤ k2) ∧ Drawn0 w w')
              case atStart => exact ⟨(0), (0), (by first | rfl | (simp; done) | (simp [*]; done)), (by first | rfl | (simp; done) | (simp [*]; done)), H', ⟨Nat.le_refl _⟩, by repeat (first | exact Drawn0.refl _ | apply Drawn0.step)⟩
              case round =>
                clear H'
                try clear c1
                try clear p1
                try clear q1
                try clear hx1
                try clear c2
                try clear p2
                try clear c3
                try clear c3b0
                try clear c3b1
                try clear c4
                try clear c4b0
                try clear c4b1
                try clear p5
                try clear q5
                try clear hx5
                try clear qi5
                try clear c6
                try clear c6b0
                try clear c6b1
                try clear p6
                try clear c7
                try clear c8
                try clear c8b0
                try clear c9
                try clear c9b0
                try clear p10
                try clear q10
                try clear hx10
                try clear c11
                try clear c11b0
                try clear p12
                try clear q12
                try clear hx12
                try clear c13
                try clear c13b0
                try clear p10
                try clear p12
                try clear p2
                try clear p5
                try clear q10
                try clear q12
                try clear q5
                obtain ⟨x5_3, x6_3, rfl, rfl, HA, HK3, ⟨m3, rfl⟩⟩ := hrel
                cases gk with
                | zero => exact absurd HA.out (by simp [cofferref4_Number.l1])
                | succ k3 =>
                  have H := HA.out
                  clear HA
                  simp only [cofferref4_Number.l1] at H
                  by_cases c14 : x6_3 < (a0.size : Int)
                  · rw [if_pos c14] at H
                    have c14b0 : decide (x6_3 < (a0.size : Int)) = true := decide_eq_true c14
                    clear c14
                    by_cases c15 : x6_3 > 18
                    · rw [if_pos c15] at H
                      have c15b0 : decide (18 < x6_3) = true := decide_eq_true c15
                      clear c15
                      simp only [Option.some.injEq, Prod.mk.injEq] at H
                      obtain ⟨rfl, rfl⟩ := H
                      go_wp2
                      go_ret2
                      exact ⟨by first | rfl | (simp; done) | (simp [*]; done), by repeat (first | exact Drawn0.refl _ | apply Drawn0.step)⟩
                    · rw [if_neg c15] at H
                      have c15b0 : decide (18 < x6_3) = false := decide_eq_false c15
                      clear c15
                      by_cases c16 : 0 ≤ x6_3
                      · rw [if_pos c16] at H
                        have c16b0 : decide (0 ≤ x6_3) = true := decide_eq_true c16
                        clear c16
                        by_cases c18 : (IntKind.u64.wrap ((IntKind.u64.wrap (x5_3 * 10)) + (((bt a0 x6_3) - 48) % 256))) > 9223372036854775807
                        · rw [if_pos c18] at H
                          have c18b0 : decide (9223372036854775807 < (IntKind.u64.wrap ((IntKind.u64.wrap (x5_3 * 10)) + (((bt a0 x6_3) - 48) % 256)))) = true := decide_eq_true c18
                          clear c18
                          simp only [Option.some.injEq, Prod.mk.injEq] at H
                          obtain ⟨rfl, rfl⟩ := H
                          have p17 : 0 ≤ (x6_3 : Int) := of_decide_eq_true (by first | (with_reducible assumption) | assumption)
                          have q17 : x6_3 < (a0.size : Int) := of_decide_eq_true (by first | (with_reducible assumption) | assumption)
                          have hx17 := bt_at a0 x6_3
                          replace p17 := eq_true p17
                          replace q17 := eq_true q17
                          go_wp2
                          go_ret2
                          exact ⟨by first | rfl | (simp; done) | (simp [*]; done), by repeat (first | exact Drawn0.refl _ | apply Drawn0.step)⟩
                        · rw [if_neg c18] at H
                          have c18b0 : decide (9223372036854775807 < (IntKind.u64.wrap ((IntKind.u64.wrap (x5_3 * 10)) + (((bt a0 x6_3) - 48) % 256)))) = false := decide_eq_false c18
                          clear c18
                          have H' := Aside0.mk H
                          clear H
                          have p17 : 0 ≤ (x6_3 : Int) := of_decide_eq_true (by first | (with_reducible assumption) | assumption)
                          have q17 : x6_3 < (a0.size : Int) := of_decide_eq_true (by first | (with_reducible assumption) | assumption)
                          have hx17 := bt_at a0 x6_3
                          replace p17 := eq_true p17
                          replace q17 := eq_true q17
                          have p19 : 0 ≤ (x6_3 : Int) := of_decide_eq_true (by first | (with_reducible assumption) | assumption)
                          have q19 : x6_3 < (a0.size : Int) := of_decide_eq_true (by first | (with_reducible assumption) | assumption)
                          have hx19 := bt_at a0 x6_3
                          replace p19 := eq_true p19
                          replace q19 := eq_true q19
                          go_wp2
                          go_roundg k3
                          case measure => have := HJ1.out; have := HK2.out; have := HK3.out; omega
                          case rel => exact ⟨(IntKind.u64.wrap ((IntKind.u64.wrap (x5_3 * 10)) + (((bt a0 x6_3) - 48) % 256))), (wrap64 (x6_3 + 1)), (by first | rfl | (simp; done) | (simp [*]; done)), (by first | rfl | (simp; done) | (simp [*]; done)), H', ⟨by have := HJ1.out; have := HK2.out; have := HK3.out; omega⟩, by repeat (first | exact Drawn0.refl _ | apply Drawn0.step)⟩
                      · rw [if_neg c16] at H
                        exact absurd H (by simp)
                  · rw [if_neg c14] at H
                    have c14b0 : decide (x6_3 < (a0.size : Int)) = false := decide_eq_false c14
                    clear c14
                    simp only [Option.some.injEq, Prod.mk.injEq] at H
                    obtain ⟨rfl, rfl⟩ := H
                    go_wp2
                    go_ret2
                    exact ⟨by first | rfl | (simp; done) | (simp [*]; done), by repeat (first | exact Drawn0.refl _ | apply Drawn0.step)⟩

/-! ### cofferref4_Print: function 30 -/
mutual
def cofferref4_Print.l0 : Nat → Int → ByteArray → Bool → Int → Option (ByteArray)
  | 0, _, _, _, _ => none
  | k + 1, x0, x3, x4, x5 => if x5 = 0 then (cofferref4_Print.j1 k x0 x3 x4 x5 true) else (cofferref4_Print.j1 k x0 x3 x4 x5 (x0 != 0))
def cofferref4_Print.j1 : Nat → Int → ByteArray → Bool → Int → Bool → Option (ByteArray)
  | 0, _, _, _, _, _ => none
  | k + 1, x0, x3, x4, x5, x14 => if x14 = true then (if (Int.tmod x0 10) < 0 then (if 0 ≤ (wrap64 (-(Int.tmod x0 10))) then (if (wrap64 (-(Int.tmod x0 10))) ≤ (wrap64 ((wrap64 (-(Int.tmod x0 10))) + 1)) then (if (wrap64 ((wrap64 (-(Int.tmod x0 10))) + 1)) ≤ 16 then (if ((⟨#[48, 49, 50, 51, 52, 53, 54, 55, 56, 57, 97, 98, 99, 100, 101, 102]⟩ : ByteArray).extract ((wrap64 (-(Int.tmod x0 10))) : Int).toNat ((wrap64 ((wrap64 (-(Int.tmod x0 10))) + 1)) : Int).toNat).size + x3.size ≤ 9223372036854775807 then (cofferref4_Print.l0 k (wrap64 (Int.tdiv x0 10)) (((⟨#[48, 49, 50, 51, 52, 53, 54, 55, 56, 57, 97, 98, 99, 100, 101, 102]⟩ : ByteArray).extract ((wrap64 (-(Int.tmod x0 10))) : Int).toNat ((wrap64 ((wrap64 (-(Int.tmod x0 10))) + 1)) : Int).toNat) ++ x3) x4 (wrap64 (x5 + 1))) else (none)) else (none)) else (none)) else (none)) else (if 0 ≤ (Int.tmod x0 10) then (if (Int.tmod x0 10) ≤ (wrap64 ((Int.tmod x0 10) + 1)) then (if (wrap64 ((Int.tmod x0 10) + 1)) ≤ 16 then (if ((⟨#[48, 49, 50, 51, 52, 53, 54, 55, 56, 57, 97, 98, 99, 100, 101, 102]⟩ : ByteArray).extract ((Int.tmod x0 10) : Int).toNat ((wrap64 ((Int.tmod x0 10) + 1)) : Int).toNat).size + x3.size ≤ 9223372036854775807 then (cofferref4_Print.l0 k (wrap64 (Int.tdiv x0 10)) (((⟨#[48, 49, 50, 51, 52, 53, 54, 55, 56, 57, 97, 98, 99, 100, 101, 102]⟩ : ByteArray).extract ((Int.tmod x0 10) : Int).toNat ((wrap64 ((Int.tmod x0 10) + 1)) : Int).toNat) ++ x3) x4 (wrap64 (x5 + 1))) else (none)) else (none)) else (none)) else (none))) else (if x4 = true then (if 1 + x3.size ≤ 9223372036854775807 then (some ((⟨#[45]⟩ : ByteArray) ++ x3)) else (none)) else (some x3))
end
def cofferref4_Print.f (k : Nat) (a0 : Int) : Option (ByteArray) := cofferref4_Print.l0 k a0 (⟨#[]⟩ : ByteArray) (decide (a0 < 0)) 0
theorem cofferref4_Print.mono_l : ∀ k, (∀ y0 y1 y2 y3, LeO (cofferref4_Print.l0 k y0 y1 y2 y3) (cofferref4_Print.l0 (k + 1) y0 y1 y2 y3)) ∧ (∀ y0 y1 y2 y3 y4, LeO (cofferref4_Print.j1 k y0 y1 y2 y3 y4) (cofferref4_Print.j1 (k + 1) y0 y1 y2 y3 y4))
  | 0 => ⟨fun _ _ _ _ r h => by simp [cofferref4_Print.l0] at h, fun _ _ _ _ _ r h => by simp [cofferref4_Print.j1] at h⟩
  | k + 1 => by
    obtain ⟨ih0, ih1⟩ := cofferref4_Print.mono_l k
    refine ⟨?_, ?_⟩
    · intro y0 y1 y2 y3
      unfold cofferref4_Print.l0
      repeat' first
      | (with_reducible exact ih0 _ _ _ _)
      | (with_reducible exact ih1 _ _ _ _ _)
      | (with_reducible exact LeO.refl _)
      | (with_reducible exact LeO.none _)
      | (with_reducible refine LeO.ite ?_ ?_)
      | (with_reducible refine LeO.bind ?_ (fun _ => ?_))
      | exact ih0 _ _ _ _
      | exact ih1 _ _ _ _ _
      | exact LeO.none _
      | refine LeO.ite ?_ ?_
      | refine LeO.bind ?_ (fun _ => ?_)
    · intro y0 y1 y2 y3 y4
      unfold cofferref4_Print.j1
      repeat' first
      | (with_reducible exact ih0 _ _ _ _)
      | (with_reducible exact ih1 _ _ _ _ _)
      | (with_reducible exact LeO.refl _)
      | (with_reducible exact LeO.none _)
      | (with_reducible refine LeO.ite ?_ ?_)
      | (with_reducible refine LeO.bind ?_ (fun _ => ?_))
      | exact ih0 _ _ _ _
      | exact ih1 _ _ _ _ _
      | exact LeO.none _
      | refine LeO.ite ?_ ?_
      | refine LeO.bind ?_ (fun _ => ?_)
theorem cofferref4_Print.mono : ∀ a0 k, LeO (cofferref4_Print.f k a0) (cofferref4_Print.f (k + 1) a0) := by
  intro a0 k
  obtain ⟨ih0, ih1⟩ := cofferref4_Print.mono_l k
  unfold cofferref4_Print.f
  repeat' first
      | (with_reducible exact ih0 _ _ _ _)
      | (with_reducible exact ih1 _ _ _ _ _)
      | (with_reducible exact LeO.refl _)
      | (with_reducible exact LeO.none _)
      | (with_reducible refine LeO.ite ?_ ?_)
      | (with_reducible refine LeO.bind ?_ (fun _ => ?_))
      | exact ih0 _ _ _ _
      | exact ih1 _ _ _ _ _
      | exact LeO.none _
      | refine LeO.ite ?_ ?_
      | refine LeO.bind ?_ (fun _ => ?_)
set_option maxHeartbeats 8000000 in
set_option maxRecDepth 100000 in
theorem cofferref4_Print.calls (k : Nat) (a0 : Int) (r : ByteArray) (w : World) (h : cofferref4_Print.f k a0 = some r) :
    Calls Tryd.prog 30 #[.int .i64 a0] w fun e w' => e = .returned (.string r) ∧ Drawn0 w w' := by
  have H : (cofferref4_Print.l0 k a0 (⟨#[]⟩ : ByteArray) (decide (a0 < 0)) 0) = some r := h
  clear h
  have H' := Aside0.mk H
  clear H
  go_enter Tryd.func30, Tryd.ntmps30
  go_wp2
  go_loopg [0, 3, 5] k (fun kq v0 v3 v5 w' => ∃ (x0_1 : Int) (x3_1 : ByteArray) (x5_1 : Int), v0 = .int .i64 x0_1 ∧ v3 = .string x3_1 ∧ v5 = .int .i64 x5_1 ∧ Aside0 (cofferref4_Print.l0 kq x0_1 x3_1 (decide (a0 < 0)) x5_1 = some r) ∧ Aside0 (kq ≤ k) ∧ Drawn0 w w')
  case atStart => exact ⟨(a0), ((⟨#[]⟩ : ByteArray)), (0), (by first | rfl | (simp; done) | (simp [*]; done)), (by first | rfl | (simp; done) | (simp [*]; done)), (by first | rfl | (simp; done) | (simp [*]; done)), H', ⟨Nat.le_refl _⟩, by repeat (first | exact Drawn0.refl _ | apply Drawn0.step)⟩
  case round =>
    clear H'
    obtain ⟨x0_1, x3_1, x5_1, rfl, rfl, rfl, HA, HK1, ⟨m1, rfl⟩⟩ := hrel
    cases gk with
    | zero => exact absurd HA.out (by simp [cofferref4_Print.l0])
    | succ k1 =>
      have H := HA.out
      clear HA
      simp only [cofferref4_Print.l0] at H
      have HC2 := Aside0.mk H
      clear H
      go_upto_region 3 with (fail)
      go_cut [14] (fun v14 wc => ∃ (kq : Nat) (x14_1 : Bool), v14 = .bool x14_1 ∧ Aside0 (cofferref4_Print.j1 kq x0_1 x3_1 (decide (a0 < 0)) x5_1 x14_1 = some r) ∧ Aside0 (kq ≤ k1) ∧ Drawn0 w wc)
      case first =>
        have H := HC2.out
        clear HC2
        by_cases c3 : x5_1 = 0
        · rw [if_pos c3] at H
          have c3b0 : (x5_1 == 0) = true := beq_iff_eq.mpr c3
          have c3b1 : (x5_1 != 0) = false := bne_eq_false_iff_eq.mpr c3
          clear c3
          (first | rw [c3b0] | (simp only [i64_w, i32_w]; rw [c3b0]) | skip)
          have H' := Aside0.mk H
          clear H
          go_wp2
          go_meet
          case rel => exact ⟨_, (true), (by first | rfl | (simp; done) | (simp [*]; done)), H', ⟨by have := HK1.out; first | omega | exact Nat.le_refl _⟩, by repeat (first | exact Drawn0.refl _ | apply Drawn0.step)⟩
        · rw [if_neg c3] at H
          have c3b0 : (x5_1 == 0) = false := beq_eq_false_iff_ne.mpr c3
          have c3b1 : (x5_1 != 0) = true := bne_iff_ne.mpr c3
          (first | rw [c3b0] | (simp only [i64_w, i32_w]; rw [c3b0]) | skip)
          have H' := Aside0.mk H
          clear H
          go_wp2
          go_meet
          case rel => exact ⟨_, ((x0_1 != 0)), (by first | rfl | (simp; done) | (simp [*]; done)), H', ⟨by have := HK1.out; first | omega | exact Nat.le_refl _⟩, by repeat (first | exact Drawn0.refl _ | apply Drawn0.step)⟩
      case rest =>
        clear HC2
        try clear p2
        try clear c3
        try clear c3b0
        try clear c3b1
        obtain ⟨kq, x14_1, rfl, HA, HJ1, ⟨mc1, rfl⟩⟩ := hcut
        cases kq with
        | zero => exact absurd HA.out (by simp [cofferref4_Print.j1])
        | succ kj1 =>
          have H := HA.out
          clear HA
          simp only [cofferref4_Print.j1] at H
          by_cases c4 : x14_1 = true
          · subst c4
            have H1 : (if (Int.tmod x0_1 10) < 0 then (if 0 ≤ (wrap64 (-(Int.tmod x0_1 10))) then (if (wrap64 (-(Int.tmod x0_1 10))) ≤ (wrap64 ((wrap64 (-(Int.tmod x0_1 10))) + 1)) then (if (wrap64 ((wrap64 (-(Int.tmod x0_1 10))) + 1)) ≤ 16 then (if ((⟨#[48, 49, 50, 51, 52, 53, 54, 55, 56, 57, 97, 98, 99, 100, 101, 102]⟩ : ByteArray).extract ((wrap64 (-(Int.tmod x0_1 10))) : Int).toNat ((wrap64 ((wrap64 (-(Int.tmod x0_1 10))) + 1)) : Int).toNat).size + x3_1.size ≤ 9223372036854775807 then (cofferref4_Print.l0 kj1 (wrap64 (Int.tdiv x0_1 10)) (((⟨#[48, 49, 50, 51, 52, 53, 54, 55, 56, 57, 97, 98, 99, 100, 101, 102]⟩ : ByteArray).extract ((wrap64 (-(Int.tmod x0_1 10))) : Int).toNat ((wrap64 ((wrap64 (-(Int.tmod x0_1 10))) + 1)) : Int).toNat) ++ x3_1) (decide (a0 < 0)) (wrap64 (x5_1 + 1))) else (none)) else (none)) else (none)) else (none)) else (if 0 ≤ (Int.tmod x0_1 10) then (if (Int.tmod x0_1 10) ≤ (wrap64 ((Int.tmod x0_1 10) + 1)) then (if (wrap64 ((Int.tmod x0_1 10) + 1)) ≤ 16 then (if ((⟨#[48, 49, 50, 51, 52, 53, 54, 55, 56, 57, 97, 98, 99, 100, 101, 102]⟩ : ByteArray).extract ((Int.tmod x0_1 10) : Int).toNat ((wrap64 ((Int.tmod x0_1 10) + 1)) : Int).toNat).size + x3_1.size ≤ 9223372036854775807 then (cofferref4_Print.l0 kj1 (wrap64 (Int.tdiv x0_1 10)) (((⟨#[48, 49, 50, 51, 52, 53, 54, 55, 56, 57, 97, 98, 99, 100, 101, 102]⟩ : ByteArray).extract ((Int.tmod x0_1 10) : Int).toNat ((wrap64 ((Int.tmod x0_1 10) + 1)) : Int).toNat) ++ x3_1) (decide (a0 < 0)) (wrap64 (x5_1 + 1))) else (none)) else (none)) else (none)) else (none))) = some r := by rw [if_pos rfl] at H; exact H
            clear H
            have H := H1
            clear H1
            by_cases c5 : (Int.tmod x0_1 10) < 0
            · rw [if_pos c5] at H
              have c5b0 : decide ((Int.tmod x0_1 10) < 0) = true := decide_eq_true c5
              clear c5
              obtain ⟨ji6, hji6⟩ : ∃ j_ : Int, (wrap64 (-(Int.tmod x0_1 10))) = j_ := ⟨_, rfl⟩
              replace H : (if 0 ≤ (ji6) then (if (ji6) ≤ (wrap64 ((ji6) + 1)) then (if (wrap64 ((ji6) + 1)) ≤ 16 then (if ((⟨#[48, 49, 50, 51, 52, 53, 54, 55, 56, 57, 97, 98, 99, 100, 101, 102]⟩ : ByteArray).extract ((ji6) : Int).toNat ((wrap64 ((ji6) + 1)) : Int).toNat).size + x3_1.size ≤ 9223372036854775807 then (cofferref4_Print.l0 kj1 (wrap64 (Int.tdiv x0_1 10)) (((⟨#[48, 49, 50, 51, 52, 53, 54, 55, 56, 57, 97, 98, 99, 100, 101, 102]⟩ : ByteArray).extract ((ji6) : Int).toNat ((wrap64 ((ji6) + 1)) : Int).toNat) ++ x3_1) (decide (a0 < 0)) (wrap64 (x5_1 + 1))) else (none)) else (none)) else (none)) else (none)) = some r := by first | (rw [hji6] at H; exact H) | (simp only [hji6] at H ⊢; exact H)
              have hji6w : (IntKind.i64.wrap (-(Int.tmod x0_1 10))) = ji6 := (i64_w _).trans hji6
              by_cases c7 : 0 ≤ (ji6)
              · rw [if_pos c7] at H
                have c7b0 := eq_true c7
                have c7b1 : decide (0 ≤ (ji6)) = true := decide_eq_true c7
                clear c7
                by_cases c8 : (ji6) ≤ (wrap64 ((ji6) + 1))
                · rw [if_pos c8] at H
                  have c8b0 := eq_true c8
                  have c8b1 : decide ((ji6) ≤ (wrap64 ((ji6) + 1))) = true := decide_eq_true c8
                  by_cases c9 : (wrap64 ((ji6) + 1)) ≤ 16
                  · rw [if_pos c9] at H
                    have c9b0 := eq_true c9
                    have c9b1 : decide ((wrap64 ((ji6) + 1)) ≤ 16) = true := decide_eq_true c9
                    by_cases c10 : ((⟨#[48, 49, 50, 51, 52, 53, 54, 55, 56, 57, 97, 98, 99, 100, 101, 102]⟩ : ByteArray).extract ((ji6) : Int).toNat ((wrap64 ((ji6) + 1)) : Int).toNat).size + x3_1.size ≤ 9223372036854775807
                    · rw [if_pos c10] at H
                      have c10b0 := eq_true c10
                      have c10b1 : decide (((⟨#[48, 49, 50, 51, 52, 53, 54, 55, 56, 57, 97, 98, 99, 100, 101, 102]⟩ : ByteArray).extract ((ji6) : Int).toNat ((wrap64 ((ji6) + 1)) : Int).toNat).size + x3_1.size ≤ 9223372036854775807) = true := decide_eq_true c10
                      try have c10b2 : (9223372036854775807 < ((⟨#[48, 49, 50, 51, 52, 53, 54, 55, 56, 57, 97, 98, 99, 100, 101, 102]⟩ : ByteArray).extract ((ji6) : Int).toNat ((wrap64 ((ji6) + 1)) : Int).toNat).size + x3_1.size) = False := eq_false (Nat.not_lt.2 c10)
                      have H' := Aside0.mk H
                      clear H
                      go_wp2
                      go_roundg kj1
                      case measure => have := HK1.out; have := HJ1.out; omega
                      case rel => exact ⟨(wrap64 (Int.tdiv x0_1 10)), (((⟨#[48, 49, 50, 51, 52, 53, 54, 55, 56, 57, 97, 98, 99, 100, 101, 102]⟩ : ByteArray).extract ((ji6) : Int).toNat ((wrap64 ((ji6) + 1)) : Int).toNat) ++ x3_1), (wrap64 (x5_1 + 1)), (by first | rfl | (simp; done) | (simp [*]; done)), (by first | rfl | (simp; done) | (simp only [← hji6] <;> (first | rfl | simp)) | (simp [*]; done)), (by first | rfl | (simp; done) | (simp [*]; done)), H', ⟨by have := HK1.out; have := HJ1.out; omega⟩, by repeat (first | exact Drawn0.refl _ | apply Drawn0.step)⟩
                    · rw [if_neg c10] at H
                      exact absurd H (by simp)
                  · rw [if_neg c9] at H
                    exact absurd H (by simp)
                · rw [if_neg c8] at H
                  exact absurd H (by simp)
              · rw [if_neg c7] at H
                exact absurd H (by simp)
            · rw [if_neg c5] at H
              have c5b0 : decide ((Int.tmod x0_1 10) < 0) = false := decide_eq_false c5
              clear c5
              obtain ⟨ji11, hji11⟩ : ∃ j_ : Int, (Int.tmod x0_1 10) = j_ := ⟨_, rfl⟩
              replace H : (if 0 ≤ (ji11) then (if (ji11) ≤ (wrap64 ((ji11) + 1)) then (if (wrap64 ((ji11) + 1)) ≤ 16 then (if ((⟨#[48, 49, 50, 51, 52, 53, 54, 55, 56, 57, 97, 98, 99, 100, 101, 102]⟩ : ByteArray).extract ((ji11) : Int).toNat ((wrap64 ((ji11) + 1)) : Int).toNat).size + x3_1.size ≤ 9223372036854775807 then (cofferref4_Print.l0 kj1 (wrap64 (Int.tdiv x0_1 10)) (((⟨#[48, 49, 50, 51, 52, 53, 54, 55, 56, 57, 97, 98, 99, 100, 101, 102]⟩ : ByteArray).extract ((ji11) : Int).toNat ((wrap64 ((ji11) + 1)) : Int).toNat) ++ x3_1) (decide (a0 < 0)) (wrap64 (x5_1 + 1))) else (none)) else (none)) else (none)) else (none)) = some r := by first | (rw [hji11] at H; exact H) | (simp only [hji11] at H ⊢; exact H)
              (try rw [hji11] at c5b0)
              by_cases c12 : 0 ≤ (ji11)
              · rw [if_pos c12] at H
                have c12b0 := eq_true c12
                have c12b1 : decide (0 ≤ (ji11)) = true := decide_eq_true c12
                clear c12
                by_cases c13 : (ji11) ≤ (wrap64 ((ji11) + 1))
                · rw [if_pos c13] at H
                  have c13b0 := eq_true c13
                  have c13b1 : decide ((ji11) ≤ (wrap64 ((ji11) + 1))) = true := decide_eq_true c13
                  by_cases c14 : (wrap64 ((ji11) + 1)) ≤ 16
                  · rw [if_pos c14] at H
                    have c14b0 := eq_true c14
                    have c14b1 : decide ((wrap64 ((ji11) + 1)) ≤ 16) = true := decide_eq_true c14
                    by_cases c15 : ((⟨#[48, 49, 50, 51, 52, 53, 54, 55, 56, 57, 97, 98, 99, 100, 101, 102]⟩ : ByteArray).extract ((ji11) : Int).toNat ((wrap64 ((ji11) + 1)) : Int).toNat).size + x3_1.size ≤ 9223372036854775807
                    · rw [if_pos c15] at H
                      have c15b0 := eq_true c15
                      have c15b1 : decide (((⟨#[48, 49, 50, 51, 52, 53, 54, 55, 56, 57, 97, 98, 99, 100, 101, 102]⟩ : ByteArray).extract ((ji11) : Int).toNat ((wrap64 ((ji11) + 1)) : Int).toNat).size + x3_1.size ≤ 9223372036854775807) = true := decide_eq_true c15
                      try have c15b2 : (9223372036854775807 < ((⟨#[48, 49, 50, 51, 52, 53, 54, 55, 56, 57, 97, 98, 99, 100, 101, 102]⟩ : ByteArray).extract ((ji11) : Int).toNat ((wrap64 ((ji11) + 1)) : Int).toNat).size + x3_1.size) = False := eq_false (Nat.not_lt.2 c15)
                      have H' := Aside0.mk H
                      clear H
                      go_wp2
                      go_roundg kj1
                      case measure => have := HK1.out; have := HJ1.out; omega
                      case rel => exact ⟨(wrap64 (Int.tdiv x0_1 10)), (((⟨#[48, 49, 50, 51, 52, 53, 54, 55, 56, 57, 97, 98, 99, 100, 101, 102]⟩ : ByteArray).extract ((ji11) : Int).toNat ((wrap64 ((ji11) + 1)) : Int).toNat) ++ x3_1), (wrap64 (x5_1 + 1)), (by first | rfl | (simp; done) | (simp [*]; done)), (by first | rfl | (simp; done) | (simp only [← hji11] <;> (first | rfl | simp)) | (simp [*]; done)), (by first | rfl | (simp; done) | (simp [*]; done)), H', ⟨by have := HK1.out; have := HJ1.out; omega⟩, by repeat (first | exact Drawn0.refl _ | apply Drawn0.step)⟩
                    · rw [if_neg c15] at H
                      exact absurd H (by simp)
                  · rw [if_neg c14] at H
                    exact absurd H (by simp)
                · rw [if_neg c13] at H
                  exact absurd H (by simp)
              · rw [if_neg c12] at H
                exact absurd H (by simp)
          · replace c4 := Bool.eq_false_iff.mpr c4
            subst c4
            have H1 : (if (decide (a0 < 0)) = true then (if 1 + x3_1.size ≤ 9223372036854775807 then (some ((⟨#[45]⟩ : ByteArray) ++ x3_1)) else (none)) else (some x3_1)) = some r := by rw [if_neg (show ¬ (false = true) by decide)] at H; exact H
            clear H
            have H := H1
            clear H1
            by_cases c16 : (decide (a0 < 0)) = true
            · rw [if_pos c16] at H
              have c16b0 : (decide (a0 < 0)) = true := c16
              have c16q : a0 < 0 := of_decide_eq_true c16b0
              clear c16
              by_cases c17 : 1 + x3_1.size ≤ 9223372036854775807
              · rw [if_pos c17] at H
                have c17b0 := eq_true c17
                have c17b1 : decide (1 + x3_1.size ≤ 9223372036854775807) = true := decide_eq_true c17
                try have c17b2 : (9223372036854775807 < 1 + x3_1.size) = False := eq_false (Nat.not_lt.2 c17)
                obtain rfl := Option.some.inj H
                go_wp2
                go_ret
                exact ⟨by first | rfl | (simp; done) | (simp [*]; done), by repeat (first | exact Drawn0.refl _ | apply Drawn0.step)⟩
              · rw [if_neg c17] at H
                exact absurd H (by simp)
            · rw [if_neg c16] at H
              have c16b0 : (decide (a0 < 0)) = false := by simpa using c16
              have c16q : ¬ (a0 < 0) := of_decide_eq_false c16b0
              clear c16
              obtain rfl := Option.some.inj H
              go_wp2
              go_ret
              exact ⟨by first | rfl | (simp; done) | (simp [*]; done), by repeat (first | exact Drawn0.refl _ | apply Drawn0.step)⟩

end Go.Proofs.YtnohcfgjhgfjkaaDoor.S
