-- By wip/hook.py.
import Derived.Test.YtnfimhdcpmakpaaDoorSx0P
import Derived.Test.YtnfimhdcpmakpaaDoorSx7P
namespace Go.Proofs.YtnfimhdcpmakpaaDoor.S
open Go.RowKit Go.Proofs.YtnfimhdcpmakpaaDoorW.PrintWords Go.Proofs.YtnfimhdcpmakpaaDoorW.PrintLast Go.Proofs.YtnfimhdcpmakpaaDoorW.PrintMore
attribute [local go_sem] max2_int min2_int max_two min_two max_three min_three max_four min_four
set_option linter.unusedVariables false
set_option linter.unusedSimpArgs false
def cofferref4_Unhex.l0 : Nat → ByteArray → List Int → Int → Option (List Int × Int)
 | 0, _, _, _ => none
 | k + 1, x0, x4, x5 => if x5 < (x0.size : Int) then (if 0 ≤ x5 then ((cofferref4_digit.f k (bt x0 x5)).bind fun t221 => (if t221 < 0 then (some (([] : List Int), 4)) else (if (Int.tmod x5 2) = 1 then (if 0 ≤ (wrap64 (x5 - 1)) then (if (wrap64 (x5 - 1)) < (x0.size : Int) then ((cofferref4_digit.f k (bt x0 (wrap64 (x5 - 1)))).bind fun t222 => ((cofferref4_digit.f k (bt x0 x5)).bind fun t223 => (if x4.length < 140737488355328 then (cofferref4_Unhex.l0 k x0 (x4 ++ [(wrap64 ((wrap64 (16 * t222)) + t223)) % 256]) (wrap64 (x5 + 1))) else (none)))) else (none)) else (none)) else (cofferref4_Unhex.l0 k x0 x4 (wrap64 (x5 + 1)))))) else (none)) else (if ((x0.size : Int) % 2) = 1 then (some (([] : List Int), 4)) else (some (x4, 0)))
def cofferref4_Unhex.f (k : Nat) (a0 : ByteArray) : Option (List Int × Int) := cofferref4_Unhex.l0 k a0 (([] : List Int)) 0
def cofferref4_Unhex.T8 : Bool × List (List Nat × List Nat) := (true, [([], []), ([], []), ([], []), ([2], [2]), ([1, 3], [1, 3]), ([4], [4]), ([5], [5]), ([], []), ([], []), ([7, 8], [7, 8]), ([9, 5], [9]), ([6, 10], [6, 10]), ([11], [11]), ([12], [12]), ([0, 13, 10], [0, 13]), ([14, 14, 0, 1, 2, 3, 4, 5, 6, 7, 8, 9, 10, 11, 12, 13, 14], [0, 14])])
def cofferref4_Unhex.B8 : List Nat := [0, 0, 0, 4, 14, 30, 62, 0, 0, 384, 958, 2046, 4094, 8190, 16383, 32767]
theorem cofferref4_Unhex.tab8 : rtab .any (opsOf Tryd.f33 8) = cofferref4_Unhex.T8 := by kernel_rfl
theorem cofferref4_Unhex.bits8 : waitsOk cofferref4_Unhex.T8.2 cofferref4_Unhex.B8 = true := by kernel_rfl
set_option maxHeartbeats 8000000 in
set_option maxRecDepth 100000 in
theorem cofferref4_Unhex.calls (k : Nat) (a0 : ByteArray) (r1 : List Int) (r2 : Int) (w : World) (h : cofferref4_Unhex.f k a0 = some (r1, r2)) :
  Calls Tryd.prog 33 #[.string a0] w fun e w' => ∃ v0_ : Value, e = .returned (.tuple #[v0_, .int .i64 r2]) ∧ Kd.R (Kd.int .u8) 5 w' w.heap.size (fun _ => True) v0_ r1 ∧ Below w.heap.size w w' := by
 have HB := Aside0.mk (Below.refl w.heap.size w)
 have H : (cofferref4_Unhex.l0 k a0 (([] : List Int)) 0) = some (r1, r2) := h
 clear h
 obtain ⟨y218, hy218⟩ : ∃ y_ : List Int, y_ = (([] : List Int)) := ⟨_, rfl⟩
 replace H : (cofferref4_Unhex.l0 k a0 y218 0) = some (r1, r2) := by first | (rw [hy218]; with_reducible exact H) | (have H2_ := (Option.bind_some _ _).symm.trans H; rw [hy218]; with_reducible exact H2_) | (have H2_ := (Option.bind_some _ _).symm.trans H; with_reducible exact H2_) | with_reducible exact H | (rw [hy218]; exact H) | exact H
 have Ny218 := Aside0.mk hy218
 clear hy218
 have H' := Aside0.mk H
 clear H
 go_enter Tryd.func33, Tryd.ntmps33
 go_wp2_with (first | ((with_reducible refine gate_dst (N := 6) rfl ?_); refine Kd.R_lit (Kd.int .u8) _ 5 ?hg (N := 6) ?hd (xs := ([] : List Int)) (inner := []) (ok := fun _ => True) (okp := fun _ => True) ?hr ?hp (fun _ hk => hk) trivial (Below.refl _ _) (Nat.le_refl _) (by simp) ?_; (case hd => rfl); (case hg => rfl); (case hr => first | (go_simp; done) | (go_simp; rfl)); (case hp => exact (Reps.none _ _)); intro v219 w2 ho3 hb hg_ hnew_; clear hg_ hnew_; (first | rw [← Ny218.out] at ho3 | (simp only [Int.reduceToNat] at ho3; rw [← Ny218.out] at ho3)); have n0_ := Aside0.mk (Kd.R_lower ho3 (below_size (by qh_))); have n1_ := Aside0.mk (below_step (by qh_) hb); clear HB; have HO220 := n0_; have HB := n1_; clear n0_ n1_; clear hb ho3))
 go_loopg [4, 5] k (fun kq v4 v5 w' => ∃ (x4_1 : List Int) (x5_1 : Int), v5 = .int .i64 x5_1 ∧ Aside0 (cofferref4_Unhex.l0 kq a0 x4_1 x5_1 = some (r1, r2)) ∧ Aside0 (kq ≤ k) ∧ Aside0 (Kd.R (Kd.int .u8) 5 w' w.heap.size (fun _ => True) v4 x4_1) ∧ Aside0 (Below w.heap.size w w'))
 case atStart => exact ⟨(y218), (0), (by qr_), H', ⟨Nat.le_refl _⟩, ⟨by qk_; exact HO220.out⟩, ⟨by qh_⟩⟩
 case round =>
  clear H'
  try clear p2
  try clear c3
  obtain ⟨x4_1, x5_1, rfl, HA, HK1, HO_4, HB⟩ := hrel
  cases gk with
  | zero => exact absurd HA.out (by simp [cofferref4_Unhex.l0])
  | succ k1 =>
   have H := HA.out
   clear HA
   simp only [cofferref4_Unhex.l0] at H
   by_cases c4 : x5_1 < (a0.size : Int)
   ·
    rw [if_pos c4] at H
    have c4b0 : decide (x5_1 < (a0.size : Int)) = true := decide_eq_true c4
    clear c4
    by_cases c5 : 0 ≤ x5_1
    ·
     rw [if_pos c5] at H
     have c5b0 : decide (0 ≤ x5_1) = true := decide_eq_true c5
     clear c5
     replace H := Option.bind_eq_some_iff.mp H
     obtain ⟨t221, A70, H⟩ := H
     replace H : (if t221 < 0 then (some (([] : List Int), 4)) else (if (Int.tmod x5_1 2) = 1 then (if 0 ≤ (wrap64 (x5_1 - 1)) then (if (wrap64 (x5_1 - 1)) < (a0.size : Int) then ((cofferref4_digit.f k1 (bt a0 (wrap64 (x5_1 - 1)))).bind fun t222 => ((cofferref4_digit.f k1 (bt a0 x5_1)).bind fun t223 => (if x4_1.length < 140737488355328 then (cofferref4_Unhex.l0 k1 a0 (x4_1 ++ [(wrap64 ((wrap64 (16 * t222)) + t223)) % 256]) (wrap64 (x5_1 + 1))) else (none)))) else (none)) else (none)) else (cofferref4_Unhex.l0 k1 a0 x4_1 (wrap64 (x5_1 + 1))))) = some (r1, r2) := H
     have A7 := Aside0.mk A70
     clear A70
     by_cases c8 : t221 < 0
     ·
      rw [if_pos c8] at H
      have c8b0 : decide (t221 < 0) = true := decide_eq_true c8
      clear c8
      simp only [Option.some.injEq, Prod.mk.injEq] at H
      obtain ⟨rfl, rfl⟩ := H
      have p6 : 0 ≤ (x5_1 : Int) := of_decide_eq_true (by qa_)
      have q6 : x5_1 < (a0.size : Int) := of_decide_eq_true (by qa_)
      have hx6 := bt_at a0 x5_1
      replace p6 := eq_true p6
      replace q6 := eq_true q6
      go_wp2_with (first | ((with_reducible refine gate_callee (f := 55) rfl ?_); refine goesL_ (some 16) rfl rfl Tryd.func55 (by kernel_rfl) rfl #[.int .u8 (bt a0 x5_1)] rfl (by qm_) ?_; (with_reducible refine (cofferref4_digit.calls k1 (bt a0 x5_1) t221 _ A7.out).mono ?_); rintro e w' ⟨rfl, ⟨nd, rfl⟩⟩; refine ⟨_, rfl, ?_⟩))
      go_ret2
      exact ⟨_, by first | rfl | (simp [errW_none, errW_some] <;> rfl) | (simp [*, errW_none, errW_some] <;> rfl), by first | exact Kd.R_nil _ _ _ _ _ | exact Kd.N_nil _ _ _ _ _ | exact Kd.V_nil _ _ _ _ _ | exact Kd.Q_nil _ _ _ _ _ | exact Kd.S_nil _ _ _ _ _, by qh_⟩
     ·
      rw [if_neg c8] at H
      have c8b0 : decide (t221 < 0) = false := decide_eq_false c8
      clear c8
      by_cases c9 : (Int.tmod x5_1 2) = 1
      ·
       rw [if_pos c9] at H
       have c9b0 : ((Int.tmod x5_1 2) == 1) = true := beq_iff_eq.mpr c9
       have c9b1 : ((Int.tmod x5_1 2) != 1) = false := bne_eq_false_iff_eq.mpr c9
       clear c9
       obtain ⟨ji10, hji10⟩ : ∃ j_ : Int, (wrap64 (x5_1 - 1)) = j_ := ⟨_, rfl⟩
       replace H : (if 0 ≤ (ji10) then (if (ji10) < (a0.size : Int) then ((cofferref4_digit.f k1 (bt a0 (ji10))).bind fun t222 => ((cofferref4_digit.f k1 (bt a0 x5_1)).bind fun t223 => (if x4_1.length < 140737488355328 then (cofferref4_Unhex.l0 k1 a0 (x4_1 ++ [(wrap64 ((wrap64 (16 * t222)) + t223)) % 256]) (wrap64 (x5_1 + 1))) else (none)))) else (none)) else (none)) = some (r1, r2) := by first | (rw [hji10] at H; exact H) | (simp only [hji10] at H ⊢; exact H)
       (try rw [hji10] at A7)
       have hji10w : (IntKind.i64.wrap (x5_1 - 1)) = ji10 := (i64_w _).trans hji10
       by_cases c11 : 0 ≤ (ji10)
       ·
        rw [if_pos c11] at H
        have c11b0 : decide (0 ≤ (ji10)) = true := decide_eq_true c11
        clear c11
        by_cases c12 : (ji10) < (a0.size : Int)
        ·
         rw [if_pos c12] at H
         have c12b0 : decide ((ji10) < (a0.size : Int)) = true := decide_eq_true c12
         clear c12
         replace H := Option.bind_eq_some_iff.mp H
         obtain ⟨t222, A140, H⟩ := H
         replace H : ((cofferref4_digit.f k1 (bt a0 x5_1)).bind fun t223 => (if x4_1.length < 140737488355328 then (cofferref4_Unhex.l0 k1 a0 (x4_1 ++ [(wrap64 ((wrap64 (16 * t222)) + t223)) % 256]) (wrap64 (x5_1 + 1))) else (none))) = some (r1, r2) := H
         have A14 := Aside0.mk A140
         clear A140
         replace H := Option.bind_eq_some_iff.mp H
         obtain ⟨t223, A160, H⟩ := H
         replace H : (if x4_1.length < 140737488355328 then (cofferref4_Unhex.l0 k1 a0 (x4_1 ++ [(wrap64 ((wrap64 (16 * t222)) + t223)) % 256]) (wrap64 (x5_1 + 1))) else (none)) = some (r1, r2) := H
         have A16 := Aside0.mk A160
         clear A160
         by_cases c17 : x4_1.length < 140737488355328
         ·
          rw [if_pos c17] at H
          have LMc17 := Aside0.mk c17
          clear c17
          obtain ⟨y224, hy224⟩ : ∃ y_ : List Int, y_ = (x4_1 ++ [(wrap64 ((wrap64 (16 * t222)) + t223)) % 256]) := ⟨_, rfl⟩
          replace H : (cofferref4_Unhex.l0 k1 a0 y224 (wrap64 (x5_1 + 1))) = some (r1, r2) := by first | (rw [hy224]; with_reducible exact H) | (have H2_ := (Option.bind_some _ _).symm.trans H; rw [hy224]; with_reducible exact H2_) | (have H2_ := (Option.bind_some _ _).symm.trans H; with_reducible exact H2_) | with_reducible exact H | (rw [hy224]; exact H) | exact H
          have Ny224 := Aside0.mk hy224
          clear hy224
          have H' := Aside0.mk H
          clear H
          have p6 : 0 ≤ (x5_1 : Int) := of_decide_eq_true (by qa_)
          have q6 : x5_1 < (a0.size : Int) := of_decide_eq_true (by qa_)
          have hx6 := bt_at a0 x5_1
          replace p6 := eq_true p6
          replace q6 := eq_true q6
          try go_wp2_with (first | ((with_reducible refine gate_callee (f := 55) rfl ?_); refine goesL_ (some 16) rfl rfl Tryd.func55 (by kernel_rfl) rfl #[.int .u8 (bt a0 x5_1)] rfl (by qm_) ?_; (with_reducible refine (cofferref4_digit.calls k1 (bt a0 x5_1) t221 _ A7.out).mono ?_); rintro e w' ⟨rfl, ⟨nd, rfl⟩⟩; refine ⟨_, rfl, ?_⟩))
          (try (rw [drewN_self wr]; generalize hq_ : World.drewN wr _ = wr; have n0_ : Aside0 (Kd.R (Kd.int .u8) 5 wr w.heap.size (fun _ => True) u4 x4_1) := ⟨by rw [← hq_]; exact (by qk_; exact HO_4.out)⟩; have n1_ : Aside0 (Below w.heap.size w wr) := ⟨by rw [← hq_]; exact (by qh_)⟩; clear HO_4 HB hq_; have HO_4 := n0_; have HB := n1_; clear n0_ n1_))
          have n0_ := Aside0.mk (Kd.R_drew HO_4.out)
          have n1_ := Aside0.mk (below_drew1 HB.out)
          clear HO_4
          clear HB
          have HO_4 := n0_
          have HB := n1_
          clear n0_ n1_
          have p13 : 0 ≤ ((ji10) : Int) := of_decide_eq_true (by qa_)
          have q13 : (ji10) < (a0.size : Int) := of_decide_eq_true (by qa_)
          have hx13 := bt_at a0 (ji10)
          replace p13 := eq_true p13
          replace q13 := eq_true q13
          have p15 : 0 ≤ (x5_1 : Int) := of_decide_eq_true (by qa_)
          have q15 : x5_1 < (a0.size : Int) := of_decide_eq_true (by qa_)
          have hx15 := bt_at a0 x5_1
          replace p15 := eq_true p15
          replace q15 := eq_true q15
          refine start_ (n := 16) (S := fun w' => True) (ds := []) #[false, false, false, false, false, false, false, false, false, false, false, false, false, false, false, false] (by kernel_rfl) rfl rfl trivial (fun hHeld => ?_); refine with_tabW cofferref4_Unhex.tab8 cofferref4_Unhex.bits8 (fun HT_ HW_ => ?_)
          generalize wr.drew = w18 at HO_4 HB hHeld ⊢
          refine pure_ (i := 0) (N := some 21) (v := ?_) (a' := ?_) #[true, false, false, false, false, false, false, false, false, false, false, false, false, false, false, false] rfl rfl (any_of HT_.out (by kernel_rfl)) (fun _ _ _ h => h) (Or.inl ⟨by rfl, ?_⟩) ?_ ?_
          rotate_left
          ·
           intro w'
           go_simp
           with_reducible rfl
          rotate_left
          ·
           qs_
           rfl
          refine pure_ (i := 1) (N := some 22) (v := ?_) (a' := ?_) #[true, true, false, false, false, false, false, false, false, false, false, false, false, false, false, false] rfl rfl (any_of HT_.out (by kernel_rfl)) (fun _ _ _ h => h) (Or.inl ⟨by rfl, ?_⟩) ?_ ?_
          rotate_left
          ·
           intro w'
           go_simp
           with_reducible rfl
          rotate_left
          ·
           qs_
           rfl
          refine pure_ (i := 2) (N := some 23) (v := ?_) (a' := ?_) #[true, true, true, false, false, false, false, false, false, false, false, false, false, false, false, false] rfl rfl (any_of HT_.out (by kernel_rfl)) (fun _ _ _ h => h) (Or.inl ⟨by rfl, ?_⟩) ?_ ?_
          rotate_left
          ·
           intro w'
           go_simp
           with_reducible rfl
          rotate_left
          ·
           qs_
           rfl
          refine pure_ (i := 3) (N := some 24) (v := ?_) (a' := ?_) #[true, true, true, true, false, false, false, false, false, false, false, false, false, false, false, false] rfl rfl (any_of HT_.out (by kernel_rfl)) (fun _ _ _ h => h) (Or.inl ⟨by rfl, ?_⟩) ?_ ?_
          rotate_left
          ·
           intro w'
           go_simp
           with_reducible rfl
          rotate_left
          ·
           qs_
           rfl
          refine pure_ (i := 7) (N := some 28) (v := ?_) (a' := ?_) #[true, true, true, true, false, false, false, true, false, false, false, false, false, false, false, false] rfl rfl (any_of HT_.out (by kernel_rfl)) (fun _ _ _ h => h) (Or.inl ⟨by rfl, ?_⟩) ?_ ?_
          rotate_left
          ·
           intro w'
           go_simp
           with_reducible rfl
          rotate_left
          ·
           qs_
           rfl
          refine pure_ (i := 8) (N := some 29) (v := ?_) (a' := ?_) #[true, true, true, true, false, false, false, true, true, false, false, false, false, false, false, false] rfl rfl (any_of HT_.out (by kernel_rfl)) (fun _ _ _ h => h) (Or.inl ⟨by rfl, ?_⟩) ?_ ?_
          rotate_left
          ·
           intro w'
           go_simp
           with_reducible rfl
          rotate_left
          ·
           qs_
           rfl
          refine take_ (i := 4) (N := some 25) (v := ?_) (a' := ?_) #[true, true, true, true, true, false, false, true, true, false, false, false, false, false, false, false] rfl rfl (take_ofW HT_.out HW_.out (by kernel_rfl)) (fun _ _ _ h => h) (Or.inl ⟨by rfl, ?_⟩) hHeld ?_ ?_
          rotate_left
          ·
           intro w' _
           go_simp
           with_reducible rfl
          rotate_left
          ·
           qs_
           rfl
          refine take_ (i := 9) (N := some 30) (v := ?_) (a' := ?_) #[true, true, true, true, true, false, false, true, true, true, false, false, false, false, false, false] rfl rfl (take_ofW HT_.out HW_.out (by kernel_rfl)) (fun _ _ _ h => h) (Or.inl ⟨by rfl, ?_⟩) hHeld ?_ ?_
          rotate_left
          ·
           intro w' _
           go_simp
           with_reducible rfl
          rotate_left
          ·
           qs_
           rfl
          refine one_ (i := 5) (N := some 26) #[true, true, true, true, true, true, false, true, true, true, false, false, false, false, false, false] rfl rfl (one_of HT_.out (by kernel_rfl)) (by decide) (fun K hK => ?_)
          refine goes_ Tryd.func55 (by kernel_rfl) rfl #[.int .u8 (bt a0 (ji10))] (by rfl) rfl rfl (by (try simp only [List.map_toArray, List.map_cons, List.map_nil]); first | done | (simp only [hji10]; rfl) | rfl | (simp only [List.length_drop, List.length_take]; rfl)) ?_
          with_reducible refine (cofferref4_digit.calls k1 (bt a0 (ji10)) t222 _ A14.out).mono ?_
          rintro e w' ⟨rfl, ⟨nd, rfl⟩⟩
          refine ⟨_, rfl, ?_⟩
          refine hK.out _ _ trivial (fun hHeld => ?_)
          clear hK K
          refine norm_ (a' := ?_) ?_ ?_
          rotate_left
          ·
           show Act.put _ (some 26) _ = _
           qs_
           rfl
          refine pure_ (i := 6) (N := some 27) (v := ?_) (a' := ?_) #[true, true, true, true, true, true, true, true, true, true, false, false, false, false, false, false] rfl rfl (any_of HT_.out (by kernel_rfl)) (fun _ _ _ h => h) (Or.inl ⟨by rfl, ?_⟩) ?_ ?_
          rotate_left
          ·
           intro w'
           go_simp
           with_reducible rfl
          rotate_left
          ·
           qs_
           rfl
          refine one_ (i := 10) (N := some 31) #[true, true, true, true, true, true, true, true, true, true, true, false, false, false, false, false] rfl rfl (one_of HT_.out (by kernel_rfl)) (by decide) (fun K hK => ?_)
          refine goes_ Tryd.func55 (by kernel_rfl) rfl #[.int .u8 (bt a0 x5_1)] (by rfl) rfl rfl (by qm_) ?_
          with_reducible refine (cofferref4_digit.calls k1 (bt a0 x5_1) t223 _ A16.out).mono ?_
          rintro e w' ⟨rfl, ⟨nd, rfl⟩⟩
          refine ⟨_, rfl, ?_⟩
          refine hK.out _ _ trivial (fun hHeld => ?_)
          clear hK K
          refine norm_ (a' := ?_) ?_ ?_
          rotate_left
          ·
           show Act.put _ (some 31) _ = _
           qs_
           rfl
          refine pure_ (i := 11) (N := some 32) (v := ?_) (a' := ?_) #[true, true, true, true, true, true, true, true, true, true, true, true, false, false, false, false] rfl rfl (any_of HT_.out (by kernel_rfl)) (fun _ _ _ h => h) (Or.inl ⟨by rfl, ?_⟩) ?_ ?_
          rotate_left
          ·
           intro w'
           go_simp
           with_reducible rfl
          rotate_left
          ·
           qs_
           rfl
          refine pure_ (i := 12) (N := some 33) (v := ?_) (a' := ?_) #[true, true, true, true, true, true, true, true, true, true, true, true, true, false, false, false] rfl rfl (any_of HT_.out (by kernel_rfl)) (fun _ _ _ h => h) (Or.inl ⟨by rfl, ?_⟩) ?_ ?_
          rotate_left
          ·
           intro w'
           go_simp
           with_reducible rfl
          rotate_left
          ·
           qs_
           rfl
          refine one_ (i := 13) (N := some 34) #[true, true, true, true, true, true, true, true, true, true, true, true, true, true, false, false] rfl rfl (one_of HT_.out (by kernel_rfl)) (by decide) (fun K hK => ?_)
          refine value_ (w1 := ?_) (v := ?_) (by rfl) rfl ?_ ?_
          rotate_left 2
          ·
           go_simp
           constructor
           ·
            rfl
           ·
            rfl
          refine hK.out _ _ trivial (fun hHeld => ?_)
          clear hK K
          refine norm_ (a' := ?_) ?_ ?_
          rotate_left
          ·
           show Act.put _ (some 34) _ = _
           qs_
           rfl
          refine one_ (i := 14) (N := some 35) #[true, true, true, true, true, true, true, true, true, true, true, true, true, true, true, false] rfl rfl (one_of HT_.out (by kernel_rfl)) (by decide) (fun K hK => ?_)
          refine Kd.R_append_step (Kd.int .u8) (w0 := w) w.heap.size (by rfl) (.tmp 21) (.tmp 34) 23 5 (.int .u8 0) 1 rfl Tryd.underlying23 info5 rfl (by decide) (by omega) u4 x4_1 ((wrap64 ((wrap64 (16 * t222)) + t223)) % 256) [.int .u8 ((wrap64 ((wrap64 (16 * t222)) + t223)) % 256)] (fun _ => True) (fun _ => False) rfl rfl ?aP (fun _ hk => hk.elim) ?aF ?aO ?aB ?aS ?aL ?_
          (case aP => exact rfl)
          (case aB => exact (by qh_))
          (case aF => exact (fun _ _ => trivial))
          (case aO => exact (by qk_; exact HO_4.out))
          (case aS => exact (below_size (by qh_)))
          (case aL => have := LMc17.out; omega)
          intro v225 w19 ho hb hg hat
          rw [← Ny224.out] at ho
          have n0_ := Aside0.mk (hb)
          have n1_ := Aside0.mk (ho)
          clear HB
          clear HO_4
          have HB := n0_
          have HO226 := n1_
          clear n0_ n1_
          clear ho hb hg hat
          refine hK.out _ _ trivial (fun hHeld => ?_)
          clear hK K
          refine norm_ (a' := ?_) ?_ ?_
          rotate_left
          ·
           show Act.put _ (some 35) _ = _
           qs_
           rfl
          refine pure_ (i := 15) (N := some 4) (v := ?_) (a' := ?_) #[true, true, true, true, true, true, true, true, true, true, true, true, true, true, true, true] rfl rfl (any_of HT_.out (by kernel_rfl)) (fun _ _ _ h => h) (Or.inl ⟨by rfl, ?_⟩) ?_ ?_
          rotate_left
          ·
           intro w'
           go_simp
           with_reducible rfl
          rotate_left
          ·
           qs_
           rfl
          refine done_ (done_of HT_.out (by kernel_rfl)) ?_
          try go_wp2
          go_roundg k1
          case measure => have := HK1.out; omega
          case rel => exact ⟨(y224), (wrap64 (x5_1 + 1)), (by qr_), H', ⟨by have := HK1.out; omega⟩, ⟨by qk_; exact HO226.out⟩, ⟨by qh_⟩⟩
         ·
          rw [if_neg c17] at H
          exact absurd H (by simp)
        ·
         rw [if_neg c12] at H
         exact absurd H (by simp)
       ·
        rw [if_neg c11] at H
        exact absurd H (by simp)
      ·
       rw [if_neg c9] at H
       have c9b0 : ((Int.tmod x5_1 2) == 1) = false := beq_eq_false_iff_ne.mpr c9
       have c9b1 : ((Int.tmod x5_1 2) != 1) = true := bne_iff_ne.mpr c9
       have H' := Aside0.mk H
       clear H
       have p6 : 0 ≤ (x5_1 : Int) := of_decide_eq_true (by qa_)
       have q6 : x5_1 < (a0.size : Int) := of_decide_eq_true (by qa_)
       have hx6 := bt_at a0 x5_1
       replace p6 := eq_true p6
       replace q6 := eq_true q6
       go_wp2_with (first | ((with_reducible refine gate_callee (f := 55) rfl ?_); refine goesL_ (some 16) rfl rfl Tryd.func55 (by kernel_rfl) rfl #[.int .u8 (bt a0 x5_1)] rfl (by qm_) ?_; (with_reducible refine (cofferref4_digit.calls k1 (bt a0 x5_1) t221 _ A7.out).mono ?_); rintro e w' ⟨rfl, ⟨nd, rfl⟩⟩; refine ⟨_, rfl, ?_⟩))
       go_roundg k1
       case measure => have := HK1.out; omega
       case rel => exact ⟨(x4_1), (wrap64 (x5_1 + 1)), (by qr_), H', ⟨by have := HK1.out; omega⟩, ⟨by qk_; exact HO_4.out⟩, ⟨by qh_⟩⟩
    ·
     rw [if_neg c5] at H
     exact absurd H (by simp)
   ·
    rw [if_neg c4] at H
    have c4b0 : decide (x5_1 < (a0.size : Int)) = false := decide_eq_false c4
    clear c4
    by_cases c20 : ((a0.size : Int) % 2) = 1
    ·
     rw [if_pos c20] at H
     have c20b0 : (((a0.size : Int) % 2) == 1) = true := beq_iff_eq.mpr c20
     have c20b1 : (((a0.size : Int) % 2) != 1) = false := bne_eq_false_iff_eq.mpr c20
     clear c20
     simp only [Option.some.injEq, Prod.mk.injEq] at H
     obtain ⟨rfl, rfl⟩ := H
     go_wp2
     go_ret2
     exact ⟨_, by first | rfl | (simp [errW_none, errW_some] <;> rfl) | (simp [*, errW_none, errW_some] <;> rfl), by first | exact Kd.R_nil _ _ _ _ _ | exact Kd.N_nil _ _ _ _ _ | exact Kd.V_nil _ _ _ _ _ | exact Kd.Q_nil _ _ _ _ _ | exact Kd.S_nil _ _ _ _ _, by qh_⟩
    ·
     rw [if_neg c20] at H
     have c20b0 : (((a0.size : Int) % 2) == 1) = false := beq_eq_false_iff_ne.mpr c20
     have c20b1 : (((a0.size : Int) % 2) != 1) = true := bne_iff_ne.mpr c20
     simp only [Option.some.injEq, Prod.mk.injEq] at H
     obtain ⟨rfl, rfl⟩ := H
     go_wp2
     go_ret2
     exact ⟨_, by first | rfl | (simp [errW_none, errW_some] <;> rfl) | (simp [*, errW_none, errW_some] <;> rfl), by qk_; exact HO_4.out, by qh_⟩
def cofferref26_Token.j0 : Nat → ByteArray → Bool → Option (List Int)
 | 0, _, _ => none
 | k + 1, x3, x25 => if x25 = true then (some (([0] : List Int))) else (if 7 ≤ (x3.size : Int) then ((cofferref4_Unhex.f k (x3.extract 7 x3.size)).bind fun bt233 => (if bt233.2 = 0 then (some bt233.1) else (some (([0] : List Int))))) else (none))
def cofferref26_Token.f (k : Nat) (l0 : List (S41)) : Option (List Int) := (cofferref22_Count.f k l0 (⟨#[97, 117, 116, 104, 111, 114, 105, 122, 97, 116, 105, 111, 110]⟩ : ByteArray)).bind fun t227 => (if t227 = 0 then (some ([] : List Int)) else ((cofferref22_Get.f k l0 (⟨#[97, 117, 116, 104, 111, 114, 105, 122, 97, 116, 105, 111, 110]⟩ : ByteArray)).bind fun bt228 => (if bt228.2 = 0 then (if (bt228.1.size : Int) < 9 then (cofferref26_Token.j0 k bt228.1 true) else (if 0 ≤ 7 then (if 7 ≤ (bt228.1.size : Int) then (cofferref26_Token.j0 k bt228.1 ((bt228.1.extract 0 7).toList != ([66, 101, 97, 114, 101, 114, 32] : List UInt8))) else (none)) else (none))) else (cofferref26_Token.j0 k bt228.1 true))))
set_option maxHeartbeats 8000000 in
set_option maxRecDepth 100000 in
theorem cofferref26_Token.calls (k : Nat) (A0 : Option Addr) (c0 : Nat) (l0 : List (S41)) (r : List Int) (w : World) (hr0 : Kd.C k41 w A0 l0.length l0) (hc0 : l0.length ≤ c0) (h : cofferref26_Token.f k l0 = some r) :
  Calls Tryd.prog 15 #[.slice A0 l0.length c0] w fun e w' => ∃ v0_ : Value, e = .returned (v0_) ∧ Kd.R (Kd.int .u8) 5 w' w.heap.size (fun _ => True) v0_ r ∧ Below w.heap.size w w' := by
 have HR0 := Aside0.mk hr0
 have HC0 := Aside0.mk hc0
 clear hr0 hc0
 have HB := Aside0.mk (Below.refl w.heap.size w)
 have H : ((cofferref22_Count.f k l0 (⟨#[97, 117, 116, 104, 111, 114, 105, 122, 97, 116, 105, 111, 110]⟩ : ByteArray)).bind fun t227 => (if t227 = 0 then (some ([] : List Int)) else ((cofferref22_Get.f k l0 (⟨#[97, 117, 116, 104, 111, 114, 105, 122, 97, 116, 105, 111, 110]⟩ : ByteArray)).bind fun bt228 => (if bt228.2 = 0 then (if (bt228.1.size : Int) < 9 then (cofferref26_Token.j0 k bt228.1 true) else (if 0 ≤ 7 then (if 7 ≤ (bt228.1.size : Int) then (cofferref26_Token.j0 k bt228.1 ((bt228.1.extract 0 7).toList != ([66, 101, 97, 114, 101, 114, 32] : List UInt8))) else (none)) else (none))) else (cofferref26_Token.j0 k bt228.1 true))))) = some r := h
 clear h
 replace H := Option.bind_eq_some_iff.mp H
 obtain ⟨t227, A20, H⟩ := H
 replace H : (if t227 = 0 then (some ([] : List Int)) else ((cofferref22_Get.f k l0 (⟨#[97, 117, 116, 104, 111, 114, 105, 122, 97, 116, 105, 111, 110]⟩ : ByteArray)).bind fun bt228 => (if bt228.2 = 0 then (if (bt228.1.size : Int) < 9 then (cofferref26_Token.j0 k bt228.1 true) else (if 0 ≤ 7 then (if 7 ≤ (bt228.1.size : Int) then (cofferref26_Token.j0 k bt228.1 ((bt228.1.extract 0 7).toList != ([66, 101, 97, 114, 101, 114, 32] : List UInt8))) else (none)) else (none))) else (cofferref26_Token.j0 k bt228.1 true)))) = some r := H
 have A2 := Aside0.mk A20
 clear A20
 by_cases c3 : t227 = 0
 ·
  rw [if_pos c3] at H
  have c3b0 : (t227 == 0) = true := beq_iff_eq.mpr c3
  have c3b1 : (t227 != 0) = false := bne_eq_false_iff_eq.mpr c3
  clear c3
  obtain rfl := Option.some.inj H
  go_enter Tryd.func15, Tryd.ntmps15
  go_wp2_with (first | ((with_reducible refine gate_callee (f := 31) rfl ?_); refine goesL_ (some 7) rfl rfl Tryd.func31 (by kernel_rfl) rfl #[.slice A0 l0.length c0, .string (⟨#[97, 117, 116, 104, 111, 114, 105, 122, 97, 116, 105, 111, 110]⟩ : ByteArray)] rfl (by qm_) ?_; (with_reducible refine (cofferref22_Count.calls k _ _ l0 (⟨#[97, 117, 116, 104, 111, 114, 105, 122, 97, 116, 105, 111, 110]⟩ : ByteArray) t227 _ ?side1 ?side2 A2.out).mono ?_); (case side1 => repeat (first | exact HR0.out | (with_reducible refine Kd.C_alloc ?_ _) | (with_reducible refine Kd.C_drewN ?_ _) | (with_reducible refine Kd.C_drew ?_))); (case side2 => exact HC0.out); rintro e w' ⟨rfl, ⟨nd, rfl⟩⟩; refine ⟨_, rfl, ?_⟩))
  go_ret
  exact ⟨_, by first | rfl | (simp [errW_none, errW_some] <;> rfl) | (simp [*, errW_none, errW_some] <;> rfl), by first | exact Kd.R_nil _ _ _ _ _ | exact Kd.N_nil _ _ _ _ _ | exact Kd.V_nil _ _ _ _ _ | exact Kd.Q_nil _ _ _ _ _ | exact Kd.S_nil _ _ _ _ _, by qh_⟩
 ·
  rw [if_neg c3] at H
  have c3b0 : (t227 == 0) = false := beq_eq_false_iff_ne.mpr c3
  have c3b1 : (t227 != 0) = true := bne_iff_ne.mpr c3
  replace H := Option.bind_eq_some_iff.mp H
  obtain ⟨⟨t228, t229⟩, A40, H⟩ := H
  replace H : (if t229 = 0 then (if (t228.size : Int) < 9 then (cofferref26_Token.j0 k t228 true) else (if 0 ≤ 7 then (if 7 ≤ (t228.size : Int) then (cofferref26_Token.j0 k t228 ((t228.extract 0 7).toList != ([66, 101, 97, 114, 101, 114, 32] : List UInt8))) else (none)) else (none))) else (cofferref26_Token.j0 k t228 true)) = some r := H
  have A4 := Aside0.mk A40
  clear A40
  have HC5 := Aside0.mk H
  clear H
  go_enter Tryd.func15, Tryd.ntmps15
  go_upto_region 4 with (first | ((with_reducible refine gate_callee (f := 31) rfl ?_); refine goesL_ (some 7) rfl rfl Tryd.func31 (by kernel_rfl) rfl #[.slice A0 l0.length c0, .string (⟨#[97, 117, 116, 104, 111, 114, 105, 122, 97, 116, 105, 111, 110]⟩ : ByteArray)] rfl (by qm_) ?_; (with_reducible refine (cofferref22_Count.calls k _ _ l0 (⟨#[97, 117, 116, 104, 111, 114, 105, 122, 97, 116, 105, 111, 110]⟩ : ByteArray) t227 _ ?side1 ?side2 A2.out).mono ?_); (case side1 => repeat (first | exact HR0.out | (with_reducible refine Kd.C_alloc ?_ _) | (with_reducible refine Kd.C_drewN ?_ _) | (with_reducible refine Kd.C_drew ?_))); (case side2 => exact HC0.out); rintro e w' ⟨rfl, ⟨nd, rfl⟩⟩; refine ⟨_, rfl, ?_⟩) | ((with_reducible refine gate_callee (f := 32) rfl ?_); refine goesL_ (some 11) rfl rfl Tryd.func32 (by kernel_rfl) rfl #[.slice A0 l0.length c0, .string (⟨#[97, 117, 116, 104, 111, 114, 105, 122, 97, 116, 105, 111, 110]⟩ : ByteArray)] rfl (by qm_) ?_; (with_reducible refine (cofferref22_Get.calls k _ _ l0 (⟨#[97, 117, 116, 104, 111, 114, 105, 122, 97, 116, 105, 111, 110]⟩ : ByteArray) t228 t229 _ ?side1 ?side2 A4.out).mono ?_); (case side1 => repeat (first | exact HR0.out | (with_reducible refine Kd.C_alloc ?_ _) | (with_reducible refine Kd.C_drewN ?_ _) | (with_reducible refine Kd.C_drew ?_))); (case side2 => exact HC0.out); rintro e w' ⟨rfl, ⟨nd, rfl⟩⟩; refine ⟨_, rfl, ?_⟩))
  (try simp only [Act.put, List.setIfInBounds_toArray, List.set_cons_zero, List.set_cons_succ])
  go_cut [25] (fun v25 wc => ∃ (kq : Nat) (x25_4 : Bool), v25 = .bool x25_4 ∧ Aside0 (cofferref26_Token.j0 kq t228 x25_4 = some r) ∧ Aside0 (kq ≤ k) ∧ Aside0 (Below w.heap.size w wc))
  case first =>
   have H := HC5.out
   clear HC5
   by_cases c6 : t229 = 0
   ·
    rw [if_pos c6] at H
    have c6b0 : (t229 == 0) = true := beq_iff_eq.mpr c6
    have c6b1 : (t229 != 0) = false := bne_eq_false_iff_eq.mpr c6
    clear c6
    (first | rw [c6b0] | (simp only [i64_w, i32_w]; rw [c6b0]) | skip)
    by_cases c7 : (t228.size : Int) < 9
    ·
     rw [if_pos c7] at H
     have c7b0 : decide ((t228.size : Int) < 9) = true := decide_eq_true c7
     have c7b1 : decide (t228.size < 9) = true := decide_eq_true (by omega)
     clear c7
     have H' := Aside0.mk H
     clear H
     go_wp2
     go_meet
     case rel => exact ⟨_, (true), (by qr_), H', ⟨by first | omega | exact Nat.le_refl _⟩, ⟨by qh_⟩⟩
    ·
     rw [if_neg c7] at H
     have c7b0 : decide ((t228.size : Int) < 9) = false := decide_eq_false c7
     have c7b1 : decide (t228.size < 9) = false := decide_eq_false (by omega)
     clear c7
     by_cases c8 : 0 ≤ 7
     ·
      rw [if_pos c8] at H
      have c8b0 := eq_true c8
      have c8b1 : decide (0 ≤ 7) = true := decide_eq_true c8
      clear c8
      by_cases c9 : 7 ≤ (t228.size : Int)
      ·
       rw [if_pos c9] at H
       have c9b0 := eq_true c9
       have c9b1 : decide (7 ≤ (t228.size : Int)) = true := decide_eq_true c9
       clear c9
       have H' := Aside0.mk H
       clear H
       go_wp2
       go_meet
       case rel => exact ⟨_, (((t228.extract 0 7).toList != ([66, 101, 97, 114, 101, 114, 32] : List UInt8))), (by qr_), H', ⟨by first | omega | exact Nat.le_refl _⟩, ⟨by qh_⟩⟩
      ·
       rw [if_neg c9] at H
       exact absurd H (by simp)
     ·
      rw [if_neg c8] at H
      exact absurd H (by simp)
   ·
    rw [if_neg c6] at H
    have c6b0 : (t229 == 0) = false := beq_eq_false_iff_ne.mpr c6
    have c6b1 : (t229 != 0) = true := bne_iff_ne.mpr c6
    (first | rw [c6b0] | (simp only [i64_w, i32_w]; rw [c6b0]) | skip)
    have H' := Aside0.mk H
    clear H
    go_wp2
    go_meet
    case rel => exact ⟨_, (true), (by qr_), H', ⟨by first | omega | exact Nat.le_refl _⟩, ⟨by qh_⟩⟩
  case rest =>
   clear HC5
   try clear c1
   try clear p2
   try clear c3
   try clear c3b0
   try clear c3b1
   try clear c6
   try clear c6b0
   try clear c6b1
   try clear c7
   try clear c7b0
   try clear c7b1
   try clear c8
   try clear c8b0
   try clear c8b1
   try clear c9
   try clear c9b0
   try clear c9b1
   obtain ⟨kq, x25_4, rfl, HA, HJ4, HB⟩ := hcut
   cases kq with
   | zero => exact absurd HA.out (by simp [cofferref26_Token.j0])
   | succ kj4 =>
    have H := HA.out
    clear HA
    simp only [cofferref26_Token.j0] at H
    by_cases c10 : x25_4 = true
    ·
     subst c10
     have H1 : (some (([0] : List Int))) = some r := by rw [if_pos rfl] at H; exact H
     clear H
     have H := H1
     clear H1
     obtain ⟨y230, hy230⟩ : ∃ y_ : List Int, y_ = (([0] : List Int)) := ⟨_, rfl⟩
     replace H : (some y230) = some r := by first | (rw [hy230]; with_reducible exact H) | (have H2_ := (Option.bind_some _ _).symm.trans H; rw [hy230]; with_reducible exact H2_) | (have H2_ := (Option.bind_some _ _).symm.trans H; with_reducible exact H2_) | with_reducible exact H | (rw [hy230]; exact H) | exact H
     have Ny230 := Aside0.mk hy230
     clear hy230
     obtain rfl := Option.some.inj H
     go_wp2_with (first | ((with_reducible refine gate_dst (N := 26) rfl ?_); (try (refine gate_guard (by rfl) ?_; dsimp only)); refine Kd.R_lit (Kd.int .u8) _ 5 ?hg (N := 26) ?hd (xs := ([0] : List Int)) (inner := [.int .u8 0]) (ok := fun _ => True) (okp := fun _ => True) ?hr ?hp (fun _ hk => hk) trivial (Below.refl _ _) (Nat.le_refl _) (by simp) ?_; (case hd => rfl); (case hg => rfl); (case hr => first | (go_simp; done) | (go_simp; rfl)); (case hp => exact (Reps.one (show Kd.M (Kd.int .u8) _ _ _ 0 [.int .u8 0] from rfl) (Reps.none _ _))); intro v231 w11 ho12 hb hg_ hnew_; clear hg_ hnew_; (first | rw [← Ny230.out] at ho12 | (simp only [Int.reduceToNat] at ho12; rw [← Ny230.out] at ho12)); have n0_ := Aside0.mk (Kd.R_lower ho12 (below_size (by qh_))); have n1_ := Aside0.mk (below_step (by qh_) hb); clear HB; have HO232 := n0_; have HB := n1_; clear n0_ n1_; clear hb ho12))
     go_ret
     exact ⟨_, by first | rfl | (simp [errW_none, errW_some] <;> rfl) | (simp [*, errW_none, errW_some] <;> rfl), by qk_; exact HO232.out, by qh_⟩
    ·
     replace c10 := Bool.eq_false_iff.mpr c10
     subst c10
     have H1 : (if 7 ≤ (t228.size : Int) then ((cofferref4_Unhex.f kj4 (t228.extract 7 t228.size)).bind fun bt233 => (if bt233.2 = 0 then (some bt233.1) else (some (([0] : List Int))))) else (none)) = some r := by rw [if_neg (show ¬ (false = true) by decide)] at H; exact H
     clear H
     have H := H1
     clear H1
     by_cases c13 : 7 ≤ (t228.size : Int)
     ·
      rw [if_pos c13] at H
      have c13b0 := eq_true c13
      have c13b1 : decide (7 ≤ (t228.size : Int)) = true := decide_eq_true c13
      clear c13
      replace H := Option.bind_eq_some_iff.mp H
      obtain ⟨⟨t233, t234⟩, A140, H⟩ := H
      replace H : (if t234 = 0 then (some t233) else (some (([0] : List Int)))) = some r := H
      have A14 := Aside0.mk A140
      clear A140
      by_cases c15 : t234 = 0
      ·
       rw [if_pos c15] at H
       have c15b0 : (t234 == 0) = true := beq_iff_eq.mpr c15
       have c15b1 : (t234 != 0) = false := bne_eq_false_iff_eq.mpr c15
       clear c15
       obtain rfl := Option.some.inj H
       go_wp2_with (first | ((with_reducible refine gate_callee (f := 33) rfl ?_); refine goesL_ (some 30) rfl rfl Tryd.func33 (by kernel_rfl) rfl #[.string (t228.extract 7 t228.size)] rfl (by qm_) ?_; (with_reducible refine (cofferref4_Unhex.calls kj4 (t228.extract 7 t228.size) t233 t234 _ A14.out).mono ?_); rintro e w16 ⟨v235, rfl, ho0, hb⟩; refine ⟨_, rfl, ?_⟩; have n0_ := Aside0.mk (Kd.R_lower ho0 (below_size (by qh_))); have n1_ := Aside0.mk (below_step (by qh_) hb); clear HB; have HO236 := n0_; have HB := n1_; clear n0_ n1_; (try clear hb); (try clear hb2); (try clear hk); (try clear hi); (try clear ho0)))
       go_ret
       exact ⟨_, by first | rfl | (simp [errW_none, errW_some] <;> rfl) | (simp [*, errW_none, errW_some] <;> rfl), by qk_; exact HO236.out, by qh_⟩
      ·
       rw [if_neg c15] at H
       have c15b0 : (t234 == 0) = false := beq_eq_false_iff_ne.mpr c15
       have c15b1 : (t234 != 0) = true := bne_iff_ne.mpr c15
       obtain ⟨y237, hy237⟩ : ∃ y_ : List Int, y_ = (([0] : List Int)) := ⟨_, rfl⟩
       replace H : (some y237) = some r := by first | (rw [hy237]; with_reducible exact H) | (have H2_ := (Option.bind_some _ _).symm.trans H; rw [hy237]; with_reducible exact H2_) | (have H2_ := (Option.bind_some _ _).symm.trans H; with_reducible exact H2_) | with_reducible exact H | (rw [hy237]; exact H) | exact H
       have Ny237 := Aside0.mk hy237
       clear hy237
       obtain rfl := Option.some.inj H
       go_wp2_with (first | ((with_reducible refine gate_callee (f := 33) rfl ?_); refine goesL_ (some 30) rfl rfl Tryd.func33 (by kernel_rfl) rfl #[.string (t228.extract 7 t228.size)] rfl (by qm_) ?_; (with_reducible refine (cofferref4_Unhex.calls kj4 (t228.extract 7 t228.size) t233 t234 _ A14.out).mono ?_); rintro e w17 ⟨v235, rfl, ho0, hb⟩; refine ⟨_, rfl, ?_⟩; have n0_ := Aside0.mk (Kd.R_lower ho0 (below_size (by qh_))); have n1_ := Aside0.mk (below_step (by qh_) hb); clear HB; have HO236 := n0_; have HB := n1_; clear n0_ n1_; (try clear hb); (try clear hb2); (try clear hk); (try clear hi); (try clear ho0)) | ((with_reducible refine gate_dst (N := 35) rfl ?_); (try (refine gate_guard (by rfl) ?_; dsimp only)); refine Kd.R_lit (Kd.int .u8) _ 5 ?hg (N := 35) ?hd (xs := ([0] : List Int)) (inner := [.int .u8 0]) (ok := fun _ => True) (okp := fun _ => True) ?hr ?hp (fun _ hk => hk) trivial (Below.refl _ _) (Nat.le_refl _) (by simp) ?_; (case hd => rfl); (case hg => rfl); (case hr => first | (go_simp; done) | (go_simp; rfl)); (case hp => exact (Reps.one (show Kd.M (Kd.int .u8) _ _ _ 0 [.int .u8 0] from rfl) (Reps.none _ _))); intro v238 w18 ho19 hb hg_ hnew_; clear hg_ hnew_; (first | rw [← Ny237.out] at ho19 | (simp only [Int.reduceToNat] at ho19; rw [← Ny237.out] at ho19)); have n0_ := Aside0.mk (Kd.R_elder' (by qk_; exact HO236.out) (Kd.R_base ho19) hb); have n1_ := Aside0.mk (Kd.R_lower (Kd.R_new' ho19 (Kd.R_lt (by qk_; exact HO236.out))) (below_size (by qh_))); have n2_ := Aside0.mk (below_step (by qh_) hb); clear HO236; clear HB; have HO236 := n0_; have HO239 := n1_; have HB := n2_; clear n0_ n1_ n2_; clear hb ho19))
       go_ret
       exact ⟨_, by first | rfl | (simp [errW_none, errW_some] <;> rfl) | (simp [*, errW_none, errW_some] <;> rfl), by qk_; exact Kd.R_mono HO239.out (fun _ hk => trivial), by qh_⟩
     ·
      rw [if_neg c13] at H
      exact absurd H (by simp)
end Go.Proofs.YtnfimhdcpmakpaaDoor.S
