-- By wip/hook.py.
import Derived.Test.YtnfimhdcpmakpaaDoorSx0P
import Derived.Test.YtnfimhdcpmakpaaDoorSx1P
namespace Go.Proofs.YtnfimhdcpmakpaaDoor.S
open Go.RowKit Go.Proofs.YtnfimhdcpmakpaaDoorW.PrintWords Go.Proofs.YtnfimhdcpmakpaaDoorW.PrintLast Go.Proofs.YtnfimhdcpmakpaaDoorW.PrintMore
attribute [local go_sem] max2_int min2_int max_two min_two max_three min_three max_four min_four
set_option linter.unusedVariables false
set_option linter.unusedSimpArgs false
mutual
def target_part.l0 : Nat → ByteArray → List Int → Option (ByteArray × Bool)
 | 0, _, _ => none
 | k + 1, x0, x4 => if (x0.size : Int) > 0 then (if 0 < (x0.size : Int) then ((target_plain.f (bt x0 0)).bind fun t114 => (if t114 = true then (if x4.length < 140737488355328 then (if 1 ≤ (x0.size : Int) then (target_part.l0 k (x0.extract 1 x0.size) (x4 ++ [bt x0 0])) else (none)) else (none)) else (if (bt x0 0) = 37 then (target_part.j1 k x0 x4 (decide ((x0.size : Int) < 3))) else (target_part.j1 k x0 x4 true)))) else (none)) else (some (strOfNums x4, true))
def target_part.j1 : Nat → ByteArray → List Int → Bool → Option (ByteArray × Bool)
 | 0, _, _, _ => none
 | k + 1, x0, x4, x30 => if x30 = true then (some ((⟨#[]⟩ : ByteArray), false)) else (if 1 < (x0.size : Int) then ((target_half.f k (bt x0 1)).bind fun bt118 => (if 2 < (x0.size : Int) then ((target_half.f k (bt x0 2)).bind fun bt120 => (if bt118.2 = true then (if bt120.2 = true then (if (Go.bits .or .u8 ((bt118.1 * 16) % 256) bt120.1) = 0 then (some ((⟨#[]⟩ : ByteArray), false)) else (if x4.length < 140737488355328 then (if 3 ≤ (x0.size : Int) then (target_part.l0 k (x0.extract 3 x0.size) (x4 ++ [Go.bits .or .u8 ((bt118.1 * 16) % 256) bt120.1])) else (none)) else (none))) else (some ((⟨#[]⟩ : ByteArray), false))) else (some ((⟨#[]⟩ : ByteArray), false)))) else (none))) else (none))
end
def target_part.f (k : Nat) (a0 : ByteArray) : Option (ByteArray × Bool) := target_part.l0 k a0 ([] : List Int)
def target_part.T4 : Bool × List (List Nat × List Nat) := (true, [([], []), ([], []), ([1], [1]), ([2], [2]), ([0, 3], [0, 3]), ([], []), ([5], [5]), ([4, 4, 0, 1, 2, 3, 4], [0, 4]), ([6, 7, 0, 1, 2, 3, 4, 5, 6, 7], [1, 5, 6])])
def target_part.B4 : List Nat := [0, 0, 2, 6, 15, 0, 32, 31, 255]
theorem target_part.tab4 : rtab .any (opsOf Tryd.f59 4) = target_part.T4 := by kernel_rfl
theorem target_part.bits4 : waitsOk target_part.T4.2 target_part.B4 = true := by kernel_rfl
def target_part.T12 : Bool × List (List Nat × List Nat) := (true, [([], []), ([], []), ([1], [1]), ([0, 2], [0, 2]), ([], []), ([4], [4]), ([3, 3, 0, 1, 2, 3], [0, 3]), ([5, 6, 0, 1, 2, 3, 4, 5, 6], [4, 5])])
def target_part.B12 : List Nat := [0, 0, 2, 7, 0, 16, 15, 127]
theorem target_part.tab12 : rtab .any (opsOf Tryd.f59 12) = target_part.T12 := by kernel_rfl
theorem target_part.bits12 : waitsOk target_part.T12.2 target_part.B12 = true := by kernel_rfl
set_option maxHeartbeats 8000000 in
set_option maxRecDepth 100000 in
theorem target_part.calls (k : Nat) (a0 : ByteArray) (r1 : ByteArray) (r2 : Bool) (w : World) (h : target_part.f k a0 = some (r1, r2)) :
  Calls Tryd.prog 59 #[.string a0] w fun e w' => e = .returned (.tuple #[.string r1, .bool r2]) ∧ Below w.heap.size w w' := by
 have HB := Aside0.mk (Below.refl w.heap.size w)
 have H : (target_part.l0 k a0 ([] : List Int)) = some (r1, r2) := h
 clear h
 have H' := Aside0.mk H
 clear H
 go_enter Tryd.func59, Tryd.ntmps59
 go_wp2
 go_loopg [0, 4] k (fun kq v0 v4 w' => ∃ (x0_1 : ByteArray) (x4_1 : List Int), v0 = .string x0_1 ∧ Aside0 (target_part.l0 kq x0_1 x4_1 = some (r1, r2)) ∧ Aside0 (kq ≤ k) ∧ Aside0 (Kd.R (Kd.int .u8) 5 w' w.heap.size (fun _ => True) v4 x4_1) ∧ Aside0 (Below w.heap.size w w'))
 case atStart => exact ⟨(a0), (([] : List Int)), (by qr_), H', ⟨Nat.le_refl _⟩, ⟨by first | exact Kd.R_nil _ _ _ _ _ | exact Kd.N_nil _ _ _ _ _ | exact Kd.V_nil _ _ _ _ _ | exact Kd.Q_nil _ _ _ _ _ | exact Kd.S_nil _ _ _ _ _⟩, ⟨by qh_⟩⟩
 case round =>
  clear H'
  obtain ⟨x0_1, x4_1, rfl, HA, HK1, HO_4, HB⟩ := hrel
  cases gk with
  | zero => exact absurd HA.out (by simp [target_part.l0])
  | succ k1 =>
   have H := HA.out
   clear HA
   simp only [target_part.l0] at H
   by_cases c2 : (x0_1.size : Int) > 0
   ·
    rw [if_pos c2] at H
    have c2b0 : decide (0 < (x0_1.size : Int)) = true := decide_eq_true c2
    have c2b1 : decide (0 < x0_1.size) = true := decide_eq_true (by omega)
    clear c2
    by_cases c3 : 0 < (x0_1.size : Int)
    ·
     rw [if_pos c3] at H
     have c3b0 : decide (0 < (x0_1.size : Int)) = true := decide_eq_true c3
     have c3b1 : decide (0 < x0_1.size) = true := decide_eq_true (by omega)
     clear c3
     replace H := Option.bind_eq_some_iff.mp H
     obtain ⟨t114, A50, H⟩ := H
     replace H : (if t114 = true then (if x4_1.length < 140737488355328 then (if 1 ≤ (x0_1.size : Int) then (target_part.l0 k1 (x0_1.extract 1 x0_1.size) (x4_1 ++ [bt x0_1 0])) else (none)) else (none)) else (if (bt x0_1 0) = 37 then (target_part.j1 k1 x0_1 x4_1 (decide ((x0_1.size : Int) < 3))) else (target_part.j1 k1 x0_1 x4_1 true))) = some (r1, r2) := H
     have A5 := Aside0.mk A50
     clear A50
     by_cases c6 : t114 = true
     ·
      subst c6
      have H1 : (if x4_1.length < 140737488355328 then (if 1 ≤ (x0_1.size : Int) then (target_part.l0 k1 (x0_1.extract 1 x0_1.size) (x4_1 ++ [bt x0_1 0])) else (none)) else (none)) = some (r1, r2) := by rw [if_pos rfl] at H; exact H
      clear H
      have H := H1
      clear H1
      by_cases c8 : x4_1.length < 140737488355328
      ·
       rw [if_pos c8] at H
       have LMc8 := Aside0.mk c8
       clear c8
       obtain ⟨y115, hy115⟩ : ∃ y_ : List Int, y_ = (x4_1 ++ [bt x0_1 0]) := ⟨_, rfl⟩
       replace H : (if 1 ≤ (x0_1.size : Int) then (target_part.l0 k1 (x0_1.extract 1 x0_1.size) y115) else (none)) = some (r1, r2) := by first | (rw [hy115]; with_reducible exact H) | (have H2_ := (Option.bind_some _ _).symm.trans H; rw [hy115]; with_reducible exact H2_) | (have H2_ := (Option.bind_some _ _).symm.trans H; with_reducible exact H2_) | with_reducible exact H | (rw [hy115]; exact H) | exact H
       have Ny115 := Aside0.mk hy115
       clear hy115
       by_cases c9 : 1 ≤ (x0_1.size : Int)
       ·
        rw [if_pos c9] at H
        have c9b0 := eq_true c9
        have c9b1 : decide (1 ≤ (x0_1.size : Int)) = true := decide_eq_true c9
        clear c9
        have H' := Aside0.mk H
        clear H
        have p4 : 0 ≤ (0 : Int) := (by omega)
        have q4 : 0 < x0_1.size := (by have : (0 : Int) < (x0_1.size : Int) := of_decide_eq_true (by qa_); omega)
        have hx4 : ∀ h : 0 < x0_1.size, ((x0_1[0]'h).toNat : Int) = bt x0_1 0 := bt_at x0_1 0
        clear p4
        have qi4 : (0 < (x0_1.size : Int)) = True := eq_true (of_decide_eq_true (by qa_))
        replace q4 := eq_true q4
        try go_wp2_with (first | ((with_reducible refine gate_callee (f := 73) rfl ?_); refine goesL_ (some 15) rfl rfl Tryd.func73 (by kernel_rfl) rfl #[.int .u8 (bt x0_1 0)] rfl (by qm_) ?_; (with_reducible refine (target_plain.calls (bt x0_1 0) true _ A5.out).mono ?_); rintro e w' ⟨rfl, ⟨nd, rfl⟩⟩; refine ⟨_, rfl, ?_⟩))
        (try (rw [drewN_self wr]; generalize hq_ : World.drewN wr _ = wr; have n0_ : Aside0 (Kd.R (Kd.int .u8) 5 wr w.heap.size (fun _ => True) u4 x4_1) := ⟨by rw [← hq_]; exact (by qk_; exact HO_4.out)⟩; have n1_ : Aside0 (Below w.heap.size w wr) := ⟨by rw [← hq_]; exact (by qh_)⟩; clear HO_4 HB hq_; have HO_4 := n0_; have HB := n1_; clear n0_ n1_))
        have n0_ := Aside0.mk (Kd.R_drew HO_4.out)
        have n1_ := Aside0.mk (below_drew1 HB.out)
        clear HO_4
        clear HB
        have HO_4 := n0_
        have HB := n1_
        clear n0_ n1_
        have p7 : 0 ≤ (0 : Int) := (by omega)
        have q7 : 0 < x0_1.size := (by have : (0 : Int) < (x0_1.size : Int) := of_decide_eq_true (by qa_); omega)
        have hx7 : ∀ h : 0 < x0_1.size, ((x0_1[0]'h).toNat : Int) = bt x0_1 0 := bt_at x0_1 0
        clear p7
        have qi7 : (0 < (x0_1.size : Int)) = True := eq_true (of_decide_eq_true (by qa_))
        replace q7 := eq_true q7
        refine start_ (n := 9) (S := fun w' => True) (ds := []) #[false, false, false, false, false, false, false, false, false] (by kernel_rfl) rfl rfl trivial (fun hHeld => ?_); refine with_tabW target_part.tab4 target_part.bits4 (fun HT_ HW_ => ?_)
        generalize wr.drew = w10 at HO_4 HB hHeld ⊢
        refine pure_ (i := 0) (N := some 16) (v := ?_) (a' := ?_) #[true, false, false, false, false, false, false, false, false] rfl rfl (any_of HT_.out (by kernel_rfl)) (fun _ _ _ h => h) (Or.inl ⟨by rfl, ?_⟩) ?_ ?_
        rotate_left
        ·
         intro w'
         go_simp
         with_reducible rfl
        rotate_left
        ·
         qs_
         rfl
        refine pure_ (i := 1) (N := some 17) (v := ?_) (a' := ?_) #[true, true, false, false, false, false, false, false, false] rfl rfl (any_of HT_.out (by kernel_rfl)) (fun _ _ _ h => h) (Or.inl ⟨by rfl, ?_⟩) ?_ ?_
        rotate_left
        ·
         intro w'
         go_simp
         with_reducible rfl
        rotate_left
        ·
         qs_
         rfl
        refine pure_ (i := 5) (N := some 21) (v := ?_) (a' := ?_) #[true, true, false, false, false, true, false, false, false] rfl rfl (any_of HT_.out (by kernel_rfl)) (fun _ _ _ h => h) (Or.inl ⟨by rfl, ?_⟩) ?_ ?_
        rotate_left
        ·
         intro w'
         go_simp
         with_reducible rfl
        rotate_left
        ·
         qs_
         rfl
        refine pure_ (i := 6) (N := some 22) (v := ?_) (a' := ?_) #[true, true, false, false, false, true, true, false, false] rfl rfl (any_of HT_.out (by kernel_rfl)) (fun _ _ _ h => h) (Or.inl ⟨by rfl, ?_⟩) ?_ ?_
        rotate_left
        ·
         intro w'
         go_simp
         with_reducible rfl
        rotate_left
        ·
         qs_
         rfl
        refine take_ (i := 2) (N := some 18) (v := ?_) (a' := ?_) #[true, true, true, false, false, true, true, false, false] rfl rfl (take_ofW HT_.out HW_.out (by kernel_rfl)) (fun _ _ _ h => h) (Or.inl ⟨by rfl, ?_⟩) hHeld ?_ ?_
        rotate_left
        ·
         intro w' _
         go_simp
         with_reducible rfl
        rotate_left
        ·
         qs_
         rfl
        refine one_ (i := 3) (N := some 19) #[true, true, true, true, false, true, true, false, false] rfl rfl (one_of HT_.out (by kernel_rfl)) (by decide) (fun K hK => ?_)
        refine value_ (w1 := ?_) (v := ?_) (by rfl) rfl ?_ ?_
        rotate_left 2
        ·
         go_simp
         constructor
         ·
          rfl
         ·
          rfl
        refine hK.out _ _ trivial (fun hHeld => ?_)
        clear hK K
        refine norm_ (a' := ?_) ?_ ?_
        rotate_left
        ·
         show Act.put _ (some 19) _ = _
         qs_
         rfl
        refine one_ (i := 4) (N := some 20) #[true, true, true, true, true, true, true, false, false] rfl rfl (one_of HT_.out (by kernel_rfl)) (by decide) (fun K hK => ?_)
        refine Kd.R_append_step (Kd.int .u8) (w0 := w) w.heap.size (by rfl) (.tmp 16) (.tmp 19) 23 5 (.int .u8 0) 1 rfl Tryd.underlying23 info5 rfl (by decide) (by omega) u4 x4_1 (bt x0_1 0) [.int .u8 (bt x0_1 0)] (fun _ => True) (fun _ => False) rfl rfl ?aP (fun _ hk => hk.elim) ?aF ?aO ?aB ?aS ?aL ?_
        (case aP => exact rfl)
        (case aB => exact (by qh_))
        (case aF => exact (fun _ _ => trivial))
        (case aO => exact (by qk_; exact HO_4.out))
        (case aS => exact (below_size (by qh_)))
        (case aL => have := LMc8.out; omega)
        intro v116 w11 ho hb hg hat
        rw [← Ny115.out] at ho
        have n0_ := Aside0.mk (hb)
        have n1_ := Aside0.mk (ho)
        clear HB
        clear HO_4
        have HB := n0_
        have HO117 := n1_
        clear n0_ n1_
        clear ho hb hg hat
        refine hK.out _ _ trivial (fun hHeld => ?_)
        clear hK K
        refine norm_ (a' := ?_) ?_ ?_
        rotate_left
        ·
         show Act.put _ (some 20) _ = _
         qs_
         rfl
        refine pure_ (i := 7) (N := some 4) (v := ?_) (a' := ?_) #[true, true, true, true, true, true, true, true, false] rfl rfl (any_of HT_.out (by kernel_rfl)) (fun _ _ _ h => h) (Or.inl ⟨by rfl, ?_⟩) ?_ ?_
        rotate_left
        ·
         intro w'
         go_simp
         with_reducible rfl
        rotate_left
        ·
         qs_
         rfl
        refine pure_ (i := 8) (N := some 0) (v := ?_) (a' := ?_) #[true, true, true, true, true, true, true, true, true] rfl rfl (any_of HT_.out (by kernel_rfl)) (fun _ _ _ h => h) (Or.inl ⟨by rfl, ?_⟩) ?_ ?_
        rotate_left
        ·
         intro w'
         go_simp
         with_reducible rfl
        rotate_left
        ·
         qs_
         rfl
        refine done_ (done_of HT_.out (by kernel_rfl)) ?_
        try go_wp2
        go_roundg k1
        case measure => have := HK1.out; omega
        case rel => exact ⟨(x0_1.extract 1 x0_1.size), (y115), (by qr_), H', ⟨by have := HK1.out; omega⟩, ⟨by qk_; exact HO117.out⟩, ⟨by qh_⟩⟩
       ·
        rw [if_neg c9] at H
        exact absurd H (by simp)
      ·
       rw [if_neg c8] at H
       exact absurd H (by simp)
     ·
      replace c6 := Bool.eq_false_iff.mpr c6
      subst c6
      have H1 : (if (bt x0_1 0) = 37 then (target_part.j1 k1 x0_1 x4_1 (decide ((x0_1.size : Int) < 3))) else (target_part.j1 k1 x0_1 x4_1 true)) = some (r1, r2) := by rw [if_neg (show ¬ (false = true) by decide)] at H; exact H
      clear H
      have H := H1
      clear H1
      have HC12 := Aside0.mk H
      clear H
      have p4 : 0 ≤ (0 : Int) := (by omega)
      have q4 : 0 < x0_1.size := (by have : (0 : Int) < (x0_1.size : Int) := of_decide_eq_true (by qa_); omega)
      have hx4 : ∀ h : 0 < x0_1.size, ((x0_1[0]'h).toNat : Int) = bt x0_1 0 := bt_at x0_1 0
      clear p4
      have qi4 : (0 < (x0_1.size : Int)) = True := eq_true (of_decide_eq_true (by qa_))
      replace q4 := eq_true q4
      go_upto_region 5 with (first | ((with_reducible refine gate_callee (f := 73) rfl ?_); refine goesL_ (some 15) rfl rfl Tryd.func73 (by kernel_rfl) rfl #[.int .u8 (bt x0_1 0)] rfl (by qm_) ?_; (with_reducible refine (target_plain.calls (bt x0_1 0) false _ A5.out).mono ?_); rintro e w' ⟨rfl, ⟨nd, rfl⟩⟩; refine ⟨_, rfl, ?_⟩))
      (try simp only [Act.put, List.setIfInBounds_toArray, List.set_cons_zero, List.set_cons_succ])
      go_cut [30] (fun v30 wc => ∃ (kq : Nat) (x30_11 : Bool), v30 = .bool x30_11 ∧ Aside0 (target_part.j1 kq x0_1 x4_1 x30_11 = some (r1, r2)) ∧ Aside0 (kq ≤ k1) ∧ Aside0 (Kd.R (Kd.int .u8) 5 wc w.heap.size (fun _ => True) u4 x4_1) ∧ Aside0 (Below w.heap.size w wc))
      case first =>
       have H := HC12.out
       clear HC12
       by_cases c14 : (bt x0_1 0) = 37
       ·
        rw [if_pos c14] at H
        have c14b0 : ((bt x0_1 0) == 37) = true := beq_iff_eq.mpr c14
        have c14b1 : ((bt x0_1 0) != 37) = false := bne_eq_false_iff_eq.mpr c14
        clear c14
        (first | rw [c14b0] | (simp only [i64_w, i32_w]; rw [c14b0]) | skip)
        have H' := Aside0.mk H
        clear H
        have p13 : 0 ≤ (0 : Int) := (by omega)
        have q13 : 0 < x0_1.size := (by have : (0 : Int) < (x0_1.size : Int) := of_decide_eq_true (by qa_); omega)
        have hx13 : ∀ h : 0 < x0_1.size, ((x0_1[0]'h).toNat : Int) = bt x0_1 0 := bt_at x0_1 0
        clear p13
        have qi13 : (0 < (x0_1.size : Int)) = True := eq_true (of_decide_eq_true (by qa_))
        replace q13 := eq_true q13
        go_wp2
        go_meet
        case rel => exact ⟨_, (decide ((x0_1.size : Int) < 3)), (by qr_), H', ⟨by have := HK1.out; first | omega | exact Nat.le_refl _⟩, ⟨by qk_; exact HO_4.out⟩, ⟨by qh_⟩⟩
       ·
        rw [if_neg c14] at H
        have c14b0 : ((bt x0_1 0) == 37) = false := beq_eq_false_iff_ne.mpr c14
        have c14b1 : ((bt x0_1 0) != 37) = true := bne_iff_ne.mpr c14
        (first | rw [c14b0] | (simp only [i64_w, i32_w]; rw [c14b0]) | skip)
        have H' := Aside0.mk H
        clear H
        have p13 : 0 ≤ (0 : Int) := (by omega)
        have q13 : 0 < x0_1.size := (by have : (0 : Int) < (x0_1.size : Int) := of_decide_eq_true (by qa_); omega)
        have hx13 : ∀ h : 0 < x0_1.size, ((x0_1[0]'h).toNat : Int) = bt x0_1 0 := bt_at x0_1 0
        clear p13
        have qi13 : (0 < (x0_1.size : Int)) = True := eq_true (of_decide_eq_true (by qa_))
        replace q13 := eq_true q13
        go_wp2
        go_meet
        case rel => exact ⟨_, (true), (by qr_), H', ⟨by have := HK1.out; first | omega | exact Nat.le_refl _⟩, ⟨by qk_; exact HO_4.out⟩, ⟨by qh_⟩⟩
      case rest =>
       clear HC12
       try clear c1
       try clear p1
       try clear q1
       try clear hx1
       try clear qi1
       try clear c2
       try clear c2b0
       try clear c2b1
       try clear p2
       try clear c3
       try clear c3b0
       try clear c3b1
       try clear p4
       try clear q4
       try clear hx4
       try clear qi4
       try clear c5
       try clear c6
       try clear c7
       try clear p7
       try clear q7
       try clear hx7
       try clear qi7
       try clear c8
       try clear c9
       try clear c9b0
       try clear c9b1
       try clear p13
       try clear q13
       try clear hx13
       try clear qi13
       try clear c14
       try clear c14b0
       try clear c14b1
       try clear p13
       try clear p4
       try clear p7
       try clear q13
       try clear q4
       try clear q7
       obtain ⟨kq, x30_11, rfl, HA, HJ11, HO_4, HB⟩ := hcut
       cases kq with
       | zero => exact absurd HA.out (by simp [target_part.j1])
       | succ kj11 =>
        have H := HA.out
        clear HA
        simp only [target_part.j1] at H
        by_cases c15 : x30_11 = true
        ·
         subst c15
         have H1 : (some ((⟨#[]⟩ : ByteArray), false)) = some (r1, r2) := by rw [if_pos rfl] at H; exact H
         clear H
         have H := H1
         clear H1
         simp only [Option.some.injEq, Prod.mk.injEq] at H
         obtain ⟨rfl, rfl⟩ := H
         go_wp2
         go_ret2
         exact ⟨by first | rfl | (simp [errW_none, errW_some] <;> rfl) | (simp [*, errW_none, errW_some] <;> rfl), by qh_⟩
        ·
         replace c15 := Bool.eq_false_iff.mpr c15
         subst c15
         have H1 : (if 1 < (x0_1.size : Int) then ((target_half.f kj11 (bt x0_1 1)).bind fun bt118 => (if 2 < (x0_1.size : Int) then ((target_half.f kj11 (bt x0_1 2)).bind fun bt120 => (if bt118.2 = true then (if bt120.2 = true then (if (Go.bits .or .u8 ((bt118.1 * 16) % 256) bt120.1) = 0 then (some ((⟨#[]⟩ : ByteArray), false)) else (if x4_1.length < 140737488355328 then (if 3 ≤ (x0_1.size : Int) then (target_part.l0 kj11 (x0_1.extract 3 x0_1.size) (x4_1 ++ [Go.bits .or .u8 ((bt118.1 * 16) % 256) bt120.1])) else (none)) else (none))) else (some ((⟨#[]⟩ : ByteArray), false))) else (some ((⟨#[]⟩ : ByteArray), false)))) else (none))) else (none)) = some (r1, r2) := by rw [if_neg (show ¬ (false = true) by decide)] at H; exact H
         clear H
         have H := H1
         clear H1
         by_cases c16 : 1 < (x0_1.size : Int)
         ·
          rw [if_pos c16] at H
          have c16b0 : decide (1 < (x0_1.size : Int)) = true := decide_eq_true c16
          have c16b1 : decide (1 < x0_1.size) = true := decide_eq_true (by omega)
          clear c16
          replace H := Option.bind_eq_some_iff.mp H
          obtain ⟨⟨t118, t119⟩, A180, H⟩ := H
          replace H : (if 2 < (x0_1.size : Int) then ((target_half.f kj11 (bt x0_1 2)).bind fun bt120 => (if t119 = true then (if bt120.2 = true then (if (Go.bits .or .u8 ((t118 * 16) % 256) bt120.1) = 0 then (some ((⟨#[]⟩ : ByteArray), false)) else (if x4_1.length < 140737488355328 then (if 3 ≤ (x0_1.size : Int) then (target_part.l0 kj11 (x0_1.extract 3 x0_1.size) (x4_1 ++ [Go.bits .or .u8 ((t118 * 16) % 256) bt120.1])) else (none)) else (none))) else (some ((⟨#[]⟩ : ByteArray), false))) else (some ((⟨#[]⟩ : ByteArray), false)))) else (none)) = some (r1, r2) := H
          have A18 := Aside0.mk A180
          clear A180
          by_cases c19 : 2 < (x0_1.size : Int)
          ·
           rw [if_pos c19] at H
           have c19b0 : decide (2 < (x0_1.size : Int)) = true := decide_eq_true c19
           have c19b1 : decide (2 < x0_1.size) = true := decide_eq_true (by omega)
           clear c19
           replace H := Option.bind_eq_some_iff.mp H
           obtain ⟨⟨t120, t121⟩, A210, H⟩ := H
           replace H : (if t119 = true then (if t121 = true then (if (Go.bits .or .u8 ((t118 * 16) % 256) t120) = 0 then (some ((⟨#[]⟩ : ByteArray), false)) else (if x4_1.length < 140737488355328 then (if 3 ≤ (x0_1.size : Int) then (target_part.l0 kj11 (x0_1.extract 3 x0_1.size) (x4_1 ++ [Go.bits .or .u8 ((t118 * 16) % 256) t120])) else (none)) else (none))) else (some ((⟨#[]⟩ : ByteArray), false))) else (some ((⟨#[]⟩ : ByteArray), false))) = some (r1, r2) := H
           have A21 := Aside0.mk A210
           clear A210
           by_cases c22 : t119 = true
           ·
            subst c22
            have H1 : (if t121 = true then (if (Go.bits .or .u8 ((t118 * 16) % 256) t120) = 0 then (some ((⟨#[]⟩ : ByteArray), false)) else (if x4_1.length < 140737488355328 then (if 3 ≤ (x0_1.size : Int) then (target_part.l0 kj11 (x0_1.extract 3 x0_1.size) (x4_1 ++ [Go.bits .or .u8 ((t118 * 16) % 256) t120])) else (none)) else (none))) else (some ((⟨#[]⟩ : ByteArray), false))) = some (r1, r2) := by rw [if_pos rfl] at H; exact H
            clear H
            have H := H1
            clear H1
            by_cases c23 : t121 = true
            ·
             subst c23
             have H1 : (if (Go.bits .or .u8 ((t118 * 16) % 256) t120) = 0 then (some ((⟨#[]⟩ : ByteArray), false)) else (if x4_1.length < 140737488355328 then (if 3 ≤ (x0_1.size : Int) then (target_part.l0 kj11 (x0_1.extract 3 x0_1.size) (x4_1 ++ [Go.bits .or .u8 ((t118 * 16) % 256) t120])) else (none)) else (none))) = some (r1, r2) := by rw [if_pos rfl] at H; exact H
             clear H
             have H := H1
             clear H1
             by_cases c24 : (Go.bits .or .u8 ((t118 * 16) % 256) t120) = 0
             ·
              rw [if_pos c24] at H
              have c24b0 : ((Go.bits .or .u8 ((t118 * 16) % 256) t120) == 0) = true := beq_iff_eq.mpr c24
              have c24b1 : ((Go.bits .or .u8 ((t118 * 16) % 256) t120) != 0) = false := bne_eq_false_iff_eq.mpr c24
              clear c24
              simp only [Option.some.injEq, Prod.mk.injEq] at H
              obtain ⟨rfl, rfl⟩ := H
              have p17 : 0 ≤ (1 : Int) := (by omega)
              have q17 : 1 < x0_1.size := (by have : (1 : Int) < (x0_1.size : Int) := of_decide_eq_true (by qa_); omega)
              have hx17 : ∀ h : 1 < x0_1.size, ((x0_1[1]'h).toNat : Int) = bt x0_1 1 := bt_at x0_1 1
              clear p17
              have qi17 : (1 < (x0_1.size : Int)) = True := eq_true (of_decide_eq_true (by qa_))
              replace q17 := eq_true q17
              go_wp2_with (first | ((with_reducible refine gate_callee (f := 74) rfl ?_); refine goesL_ (some 34) rfl rfl Tryd.func74 (by kernel_rfl) rfl #[.int .u8 (bt x0_1 1)] rfl (by qm_) ?_; (with_reducible refine (target_half.calls kj11 (bt x0_1 1) t118 true _ A18.out).mono ?_); rintro e w' ⟨rfl, ⟨nd, rfl⟩⟩; refine ⟨_, rfl, ?_⟩; have p20 : 0 ≤ (2 : Int) := (by omega); have q20 : 2 < x0_1.size := (by have : (2 : Int) < (x0_1.size : Int) := of_decide_eq_true (by qa_); omega); have hx20 : ∀ h : 2 < x0_1.size, ((x0_1[2]'h).toNat : Int) = bt x0_1 2 := bt_at x0_1 2; clear p20; have qi20 : (2 < (x0_1.size : Int)) = True := eq_true (of_decide_eq_true (by qa_)); replace q20 := eq_true q20) | ((with_reducible refine gate_callee (f := 74) rfl ?_); refine goesL_ (some 40) rfl rfl Tryd.func74 (by kernel_rfl) rfl #[.int .u8 (bt x0_1 2)] rfl (by qm_) ?_; (with_reducible refine (target_half.calls kj11 (bt x0_1 2) t120 true _ A21.out).mono ?_); rintro e w' ⟨rfl, ⟨nd, rfl⟩⟩; refine ⟨_, rfl, ?_⟩))
              go_ret2
              exact ⟨by first | rfl | (simp [errW_none, errW_some] <;> rfl) | (simp [*, errW_none, errW_some] <;> rfl), by qh_⟩
             ·
              rw [if_neg c24] at H
              have c24b0 : ((Go.bits .or .u8 ((t118 * 16) % 256) t120) == 0) = false := beq_eq_false_iff_ne.mpr c24
              have c24b1 : ((Go.bits .or .u8 ((t118 * 16) % 256) t120) != 0) = true := bne_iff_ne.mpr c24
              by_cases c25 : x4_1.length < 140737488355328
              ·
               rw [if_pos c25] at H
               have LMc25 := Aside0.mk c25
               clear c25
               obtain ⟨y122, hy122⟩ : ∃ y_ : List Int, y_ = (x4_1 ++ [Go.bits .or .u8 ((t118 * 16) % 256) t120]) := ⟨_, rfl⟩
               replace H : (if 3 ≤ (x0_1.size : Int) then (target_part.l0 kj11 (x0_1.extract 3 x0_1.size) y122) else (none)) = some (r1, r2) := by first | (rw [hy122]; with_reducible exact H) | (have H2_ := (Option.bind_some _ _).symm.trans H; rw [hy122]; with_reducible exact H2_) | (have H2_ := (Option.bind_some _ _).symm.trans H; with_reducible exact H2_) | with_reducible exact H | (rw [hy122]; exact H) | exact H
               have Ny122 := Aside0.mk hy122
               clear hy122
               by_cases c26 : 3 ≤ (x0_1.size : Int)
               ·
                rw [if_pos c26] at H
                have c26b0 := eq_true c26
                have c26b1 : decide (3 ≤ (x0_1.size : Int)) = true := decide_eq_true c26
                clear c26
                have H' := Aside0.mk H
                clear H
                have p17 : 0 ≤ (1 : Int) := (by omega)
                have q17 : 1 < x0_1.size := (by have : (1 : Int) < (x0_1.size : Int) := of_decide_eq_true (by qa_); omega)
                have hx17 : ∀ h : 1 < x0_1.size, ((x0_1[1]'h).toNat : Int) = bt x0_1 1 := bt_at x0_1 1
                clear p17
                have qi17 : (1 < (x0_1.size : Int)) = True := eq_true (of_decide_eq_true (by qa_))
                replace q17 := eq_true q17
                try go_wp2_with (first | ((with_reducible refine gate_callee (f := 74) rfl ?_); refine goesL_ (some 34) rfl rfl Tryd.func74 (by kernel_rfl) rfl #[.int .u8 (bt x0_1 1)] rfl (by qm_) ?_; (with_reducible refine (target_half.calls kj11 (bt x0_1 1) t118 true _ A18.out).mono ?_); rintro e w' ⟨rfl, ⟨nd, rfl⟩⟩; refine ⟨_, rfl, ?_⟩; have p20 : 0 ≤ (2 : Int) := (by omega); have q20 : 2 < x0_1.size := (by have : (2 : Int) < (x0_1.size : Int) := of_decide_eq_true (by qa_); omega); have hx20 : ∀ h : 2 < x0_1.size, ((x0_1[2]'h).toNat : Int) = bt x0_1 2 := bt_at x0_1 2; clear p20; have qi20 : (2 < (x0_1.size : Int)) = True := eq_true (of_decide_eq_true (by qa_)); replace q20 := eq_true q20) | ((with_reducible refine gate_callee (f := 74) rfl ?_); refine goesL_ (some 40) rfl rfl Tryd.func74 (by kernel_rfl) rfl #[.int .u8 (bt x0_1 2)] rfl (by qm_) ?_; (with_reducible refine (target_half.calls kj11 (bt x0_1 2) t120 true _ A21.out).mono ?_); rintro e w' ⟨rfl, ⟨nd, rfl⟩⟩; refine ⟨_, rfl, ?_⟩))
                (try (rw [drewN_self wc]; generalize hq_ : World.drewN wc _ = wc; have n0_ : Aside0 (Kd.R (Kd.int .u8) 5 wc w.heap.size (fun _ => True) u4 x4_1) := ⟨by rw [← hq_]; exact (by qk_; exact HO_4.out)⟩; have n1_ : Aside0 (Below w.heap.size w wc) := ⟨by rw [← hq_]; exact (by qh_)⟩; clear HO_4 HB hq_; have HO_4 := n0_; have HB := n1_; clear n0_ n1_))
                have n0_ := Aside0.mk (Kd.R_drew HO_4.out)
                have n1_ := Aside0.mk (below_drew1 HB.out)
                clear HO_4
                clear HB
                have HO_4 := n0_
                have HB := n1_
                clear n0_ n1_
                refine start_ (n := 8) (S := fun w' => True) (ds := []) #[false, false, false, false, false, false, false, false] (by kernel_rfl) rfl rfl trivial (fun hHeld => ?_); refine with_tabW target_part.tab12 target_part.bits12 (fun HT_ HW_ => ?_)
                generalize wc.drew = w27 at HO_4 HB hHeld ⊢
                refine pure_ (i := 0) (N := some 57) (v := ?_) (a' := ?_) #[true, false, false, false, false, false, false, false] rfl rfl (any_of HT_.out (by kernel_rfl)) (fun _ _ _ h => h) (Or.inl ⟨by rfl, ?_⟩) ?_ ?_
                rotate_left
                ·
                 intro w'
                 go_simp
                 with_reducible rfl
                rotate_left
                ·
                 qs_
                 rfl
                refine pure_ (i := 1) (N := some 58) (v := ?_) (a' := ?_) #[true, true, false, false, false, false, false, false] rfl rfl (any_of HT_.out (by kernel_rfl)) (fun _ _ _ h => h) (Or.inl ⟨by rfl, ?_⟩) ?_ ?_
                rotate_left
                ·
                 intro w'
                 go_simp
                 with_reducible rfl
                rotate_left
                ·
                 qs_
                 rfl
                refine pure_ (i := 4) (N := some 61) (v := ?_) (a' := ?_) #[true, true, false, false, true, false, false, false] rfl rfl (any_of HT_.out (by kernel_rfl)) (fun _ _ _ h => h) (Or.inl ⟨by rfl, ?_⟩) ?_ ?_
                rotate_left
                ·
                 intro w'
                 go_simp
                 with_reducible rfl
                rotate_left
                ·
                 qs_
                 rfl
                refine pure_ (i := 5) (N := some 62) (v := ?_) (a' := ?_) #[true, true, false, false, true, true, false, false] rfl rfl (any_of HT_.out (by kernel_rfl)) (fun _ _ _ h => h) (Or.inl ⟨by rfl, ?_⟩) ?_ ?_
                rotate_left
                ·
                 intro w'
                 go_simp
                 with_reducible rfl
                rotate_left
                ·
                 qs_
                 rfl
                refine one_ (i := 2) (N := some 59) #[true, true, true, false, true, true, false, false] rfl rfl (one_of HT_.out (by kernel_rfl)) (by decide) (fun K hK => ?_)
                refine value_ (w1 := ?_) (v := ?_) (by rfl) rfl ?_ ?_
                rotate_left 2
                ·
                 go_simp
                 constructor
                 ·
                  rfl
                 ·
                  rfl
                refine hK.out _ _ trivial (fun hHeld => ?_)
                clear hK K
                refine norm_ (a' := ?_) ?_ ?_
                rotate_left
                ·
                 show Act.put _ (some 59) _ = _
                 qs_
                 rfl
                refine one_ (i := 3) (N := some 60) #[true, true, true, true, true, true, false, false] rfl rfl (one_of HT_.out (by kernel_rfl)) (by decide) (fun K hK => ?_)
                refine Kd.R_append_step (Kd.int .u8) (w0 := w) w.heap.size (by rfl) (.tmp 57) (.tmp 59) 23 5 (.int .u8 0) 1 rfl Tryd.underlying23 info5 rfl (by decide) (by omega) u4 x4_1 (Go.bits .or .u8 ((t118 * 16) % 256) t120) [.int .u8 (Go.bits .or .u8 ((t118 * 16) % 256) t120)] (fun _ => True) (fun _ => False) rfl rfl ?aP (fun _ hk => hk.elim) ?aF ?aO ?aB ?aS ?aL ?_
                (case aP => exact rfl)
                (case aB => exact (by qh_))
                (case aF => exact (fun _ _ => trivial))
                (case aO => exact (by qk_; exact HO_4.out))
                (case aS => exact (below_size (by qh_)))
                (case aL => have := LMc25.out; omega)
                intro v123 w28 ho hb hg hat
                rw [← Ny122.out] at ho
                have n0_ := Aside0.mk (hb)
                have n1_ := Aside0.mk (ho)
                clear HB
                clear HO_4
                have HB := n0_
                have HO124 := n1_
                clear n0_ n1_
                clear ho hb hg hat
                refine hK.out _ _ trivial (fun hHeld => ?_)
                clear hK K
                refine norm_ (a' := ?_) ?_ ?_
                rotate_left
                ·
                 show Act.put _ (some 60) _ = _
                 qs_
                 rfl
                refine pure_ (i := 6) (N := some 4) (v := ?_) (a' := ?_) #[true, true, true, true, true, true, true, false] rfl rfl (any_of HT_.out (by kernel_rfl)) (fun _ _ _ h => h) (Or.inl ⟨by rfl, ?_⟩) ?_ ?_
                rotate_left
                ·
                 intro w'
                 go_simp
                 with_reducible rfl
                rotate_left
                ·
                 qs_
                 rfl
                refine pure_ (i := 7) (N := some 0) (v := ?_) (a' := ?_) #[true, true, true, true, true, true, true, true] rfl rfl (any_of HT_.out (by kernel_rfl)) (fun _ _ _ h => h) (Or.inl ⟨by rfl, ?_⟩) ?_ ?_
                rotate_left
                ·
                 intro w'
                 go_simp
                 with_reducible rfl
                rotate_left
                ·
                 qs_
                 rfl
                refine done_ (done_of HT_.out (by kernel_rfl)) ?_
                try go_wp2
                go_roundg kj11
                case measure => have := HK1.out; have := HJ11.out; omega
                case rel => exact ⟨(x0_1.extract 3 x0_1.size), (y122), (by qr_), H', ⟨by have := HK1.out; have := HJ11.out; omega⟩, ⟨by qk_; exact HO124.out⟩, ⟨by qh_⟩⟩
               ·
                rw [if_neg c26] at H
                exact absurd H (by simp)
              ·
               rw [if_neg c25] at H
               exact absurd H (by simp)
            ·
             replace c23 := Bool.eq_false_iff.mpr c23
             subst c23
             have H1 : (some ((⟨#[]⟩ : ByteArray), false)) = some (r1, r2) := by rw [if_neg (show ¬ (false = true) by decide)] at H; exact H
             clear H
             have H := H1
             clear H1
             simp only [Option.some.injEq, Prod.mk.injEq] at H
             obtain ⟨rfl, rfl⟩ := H
             have p17 : 0 ≤ (1 : Int) := (by omega)
             have q17 : 1 < x0_1.size := (by have : (1 : Int) < (x0_1.size : Int) := of_decide_eq_true (by qa_); omega)
             have hx17 : ∀ h : 1 < x0_1.size, ((x0_1[1]'h).toNat : Int) = bt x0_1 1 := bt_at x0_1 1
             clear p17
             have qi17 : (1 < (x0_1.size : Int)) = True := eq_true (of_decide_eq_true (by qa_))
             replace q17 := eq_true q17
             go_wp2_with (first | ((with_reducible refine gate_callee (f := 74) rfl ?_); refine goesL_ (some 34) rfl rfl Tryd.func74 (by kernel_rfl) rfl #[.int .u8 (bt x0_1 1)] rfl (by qm_) ?_; (with_reducible refine (target_half.calls kj11 (bt x0_1 1) t118 true _ A18.out).mono ?_); rintro e w' ⟨rfl, ⟨nd, rfl⟩⟩; refine ⟨_, rfl, ?_⟩; have p20 : 0 ≤ (2 : Int) := (by omega); have q20 : 2 < x0_1.size := (by have : (2 : Int) < (x0_1.size : Int) := of_decide_eq_true (by qa_); omega); have hx20 : ∀ h : 2 < x0_1.size, ((x0_1[2]'h).toNat : Int) = bt x0_1 2 := bt_at x0_1 2; clear p20; have qi20 : (2 < (x0_1.size : Int)) = True := eq_true (of_decide_eq_true (by qa_)); replace q20 := eq_true q20) | ((with_reducible refine gate_callee (f := 74) rfl ?_); refine goesL_ (some 40) rfl rfl Tryd.func74 (by kernel_rfl) rfl #[.int .u8 (bt x0_1 2)] rfl (by qm_) ?_; (with_reducible refine (target_half.calls kj11 (bt x0_1 2) t120 false _ A21.out).mono ?_); rintro e w' ⟨rfl, ⟨nd, rfl⟩⟩; refine ⟨_, rfl, ?_⟩))
             go_ret2
             exact ⟨by first | rfl | (simp [errW_none, errW_some] <;> rfl) | (simp [*, errW_none, errW_some] <;> rfl), by qh_⟩
           ·
            replace c22 := Bool.eq_false_iff.mpr c22
            subst c22
            have H1 : (some ((⟨#[]⟩ : ByteArray), false)) = some (r1, r2) := by rw [if_neg (show ¬ (false = true) by decide)] at H; exact H
            clear H
            have H := H1
            clear H1
            simp only [Option.some.injEq, Prod.mk.injEq] at H
            obtain ⟨rfl, rfl⟩ := H
            have p17 : 0 ≤ (1 : Int) := (by omega)
            have q17 : 1 < x0_1.size := (by have : (1 : Int) < (x0_1.size : Int) := of_decide_eq_true (by qa_); omega)
            have hx17 : ∀ h : 1 < x0_1.size, ((x0_1[1]'h).toNat : Int) = bt x0_1 1 := bt_at x0_1 1
            clear p17
            have qi17 : (1 < (x0_1.size : Int)) = True := eq_true (of_decide_eq_true (by qa_))
            replace q17 := eq_true q17
            go_wp2_with (first | ((with_reducible refine gate_callee (f := 74) rfl ?_); refine goesL_ (some 34) rfl rfl Tryd.func74 (by kernel_rfl) rfl #[.int .u8 (bt x0_1 1)] rfl (by qm_) ?_; (with_reducible refine (target_half.calls kj11 (bt x0_1 1) t118 false _ A18.out).mono ?_); rintro e w' ⟨rfl, ⟨nd, rfl⟩⟩; refine ⟨_, rfl, ?_⟩; have p20 : 0 ≤ (2 : Int) := (by omega); have q20 : 2 < x0_1.size := (by have : (2 : Int) < (x0_1.size : Int) := of_decide_eq_true (by qa_); omega); have hx20 : ∀ h : 2 < x0_1.size, ((x0_1[2]'h).toNat : Int) = bt x0_1 2 := bt_at x0_1 2; clear p20; have qi20 : (2 < (x0_1.size : Int)) = True := eq_true (of_decide_eq_true (by qa_)); replace q20 := eq_true q20) | ((with_reducible refine gate_callee (f := 74) rfl ?_); refine goesL_ (some 40) rfl rfl Tryd.func74 (by kernel_rfl) rfl #[.int .u8 (bt x0_1 2)] rfl (by qm_) ?_; (with_reducible refine (target_half.calls kj11 (bt x0_1 2) t120 t121 _ A21.out).mono ?_); rintro e w' ⟨rfl, ⟨nd, rfl⟩⟩; refine ⟨_, rfl, ?_⟩))
            go_ret2
            exact ⟨by first | rfl | (simp [errW_none, errW_some] <;> rfl) | (simp [*, errW_none, errW_some] <;> rfl), by qh_⟩
          ·
           rw [if_neg c19] at H
           exact absurd H (by simp)
         ·
          rw [if_neg c16] at H
          exact absurd H (by simp)
    ·
     rw [if_neg c3] at H
     exact absurd H (by simp)
   ·
    rw [if_neg c2] at H
    have c2b0 : decide (0 < (x0_1.size : Int)) = false := decide_eq_false c2
    have c2b1 : decide (0 < x0_1.size) = false := decide_eq_false (by omega)
    clear c2
    simp only [Option.some.injEq, Prod.mk.injEq] at H
    obtain ⟨rfl, rfl⟩ := H
    have hcv29 := own_string (P := Tryd.prog) Tryd.underlying23 Tryd.underlying5 Tryd.underlying9 (Kd.own_of_R HO_4.out)
    go_wp2
    go_ret2
    exact ⟨by first | rfl | (simp [errW_none, errW_some] <;> rfl) | (simp [*, errW_none, errW_some] <;> rfl), by qh_⟩
def target_path.l0 : Nat → List ByteArray → List ByteArray → Int → Int → Option (List ByteArray × Bool)
 | 0, _, _, _, _ => none
 | k + 1, x4, x16, x17, x18 => if x18 < x17 then (if 0 ≤ x18 then (if x18 < (x16.length : Int) then ((target_part.f k (rdOf ByteArray.empty x16 x18)).bind fun bt130 => (if bt130.2 = true then (if bt130.1.toList = ([] : List UInt8) then (some (([] : List ByteArray), false)) else (if x4.length < 8796093022208 then (target_path.l0 k (x4 ++ [bt130.1]) x16 x17 (wrap64 (x18 + 1))) else (none))) else (some (([] : List ByteArray), false)))) else (none)) else (none)) else (some (x4, true))
def target_path.f (k : Nat) (a0 : ByteArray) : Option (List ByteArray × Bool) := if a0.toList = ([47] : List UInt8) then (some (([] : List ByteArray), true)) else ((strings_HasPrefix.f a0 (⟨#[47]⟩ : ByteArray)).bind fun t125 => (if t125 = true then (if 1 ≤ (a0.size : Int) then ((xSplit.f (a0.extract 1 a0.size) (⟨#[47]⟩ : ByteArray)).bind fun t126 => (target_path.l0 k ([] : List ByteArray) t126 (t126.length : Int) 0)) else (none)) else (some (([] : List ByteArray), false))))
set_option maxHeartbeats 8000000 in
set_option maxRecDepth 100000 in
theorem target_path.calls (k : Nat) (a0 : ByteArray) (r1 : List ByteArray) (r2 : Bool) (w : World) (h : target_path.f k a0 = some (r1, r2)) :
  Calls Tryd.prog 35 #[.string a0] w fun e w' => ∃ v0_ : Value, e = .returned (.tuple #[v0_, .bool r2]) ∧ Kd.R Kd.string 9 w' w.heap.size (fun _ => True) v0_ r1 ∧ Below w.heap.size w w' := by
 have HB := Aside0.mk (Below.refl w.heap.size w)
 have H : (if a0.toList = ([47] : List UInt8) then (some (([] : List ByteArray), true)) else ((strings_HasPrefix.f a0 (⟨#[47]⟩ : ByteArray)).bind fun t125 => (if t125 = true then (if 1 ≤ (a0.size : Int) then ((xSplit.f (a0.extract 1 a0.size) (⟨#[47]⟩ : ByteArray)).bind fun t126 => (target_path.l0 k ([] : List ByteArray) t126 (t126.length : Int) 0)) else (none)) else (some (([] : List ByteArray), false))))) = some (r1, r2) := h
 clear h
 by_cases c2 : a0.toList = ([47] : List UInt8)
 ·
  rw [if_pos c2] at H
  have c2b0 : (a0.toList == ([47] : List UInt8)) = true := beq_iff_eq.mpr c2
  have c2b1 : (a0.toList != ([47] : List UInt8)) = false := bne_eq_false_iff_eq.mpr c2
  clear c2
  simp only [Option.some.injEq, Prod.mk.injEq] at H
  obtain ⟨rfl, rfl⟩ := H
  go_enter Tryd.func35, Tryd.ntmps35
  go_wp2
  go_ret2
  exact ⟨_, by first | rfl | (simp [errW_none, errW_some] <;> rfl) | (simp [*, errW_none, errW_some] <;> rfl), by first | exact Kd.R_nil _ _ _ _ _ | exact Kd.N_nil _ _ _ _ _ | exact Kd.V_nil _ _ _ _ _ | exact Kd.Q_nil _ _ _ _ _ | exact Kd.S_nil _ _ _ _ _, by qh_⟩
 ·
  rw [if_neg c2] at H
  have c2b0 : (a0.toList == ([47] : List UInt8)) = false := beq_eq_false_iff_ne.mpr c2
  have c2b1 : (a0.toList != ([47] : List UInt8)) = true := bne_iff_ne.mpr c2
  replace H := Option.bind_eq_some_iff.mp H
  obtain ⟨t125, A30, H⟩ := H
  replace H : (if t125 = true then (if 1 ≤ (a0.size : Int) then ((xSplit.f (a0.extract 1 a0.size) (⟨#[47]⟩ : ByteArray)).bind fun t126 => (target_path.l0 k ([] : List ByteArray) t126 (t126.length : Int) 0)) else (none)) else (some (([] : List ByteArray), false))) = some (r1, r2) := H
  have A3 := Aside0.mk A30
  clear A30
  by_cases c4 : t125 = true
  ·
   subst c4
   have H1 : (if 1 ≤ (a0.size : Int) then ((xSplit.f (a0.extract 1 a0.size) (⟨#[47]⟩ : ByteArray)).bind fun t126 => (target_path.l0 k ([] : List ByteArray) t126 (t126.length : Int) 0)) else (none)) = some (r1, r2) := by rw [if_pos rfl] at H; exact H
   clear H
   have H := H1
   clear H1
   by_cases c5 : 1 ≤ (a0.size : Int)
   ·
    rw [if_pos c5] at H
    have c5b0 := eq_true c5
    have c5b1 : decide (1 ≤ (a0.size : Int)) = true := decide_eq_true c5
    clear c5
    replace H := Option.bind_eq_some_iff.mp H
    obtain ⟨t126, A60, H⟩ := H
    replace H : (target_path.l0 k ([] : List ByteArray) t126 (t126.length : Int) 0) = some (r1, r2) := H
    have A6 := Aside0.mk A60
    clear A60
    have H' := Aside0.mk H
    clear H
    go_enter Tryd.func35, Tryd.ntmps35
    go_wp2_with (first | ((with_reducible refine gate_callee (f := 57) rfl ?_); refine goesL_ (some 12) rfl rfl Tryd.func57 (by kernel_rfl) rfl #[.string a0, .string (⟨#[47]⟩ : ByteArray)] rfl (by qm_) ?_; (with_reducible refine (strings_HasPrefix.calls a0 (⟨#[47]⟩ : ByteArray) true _ A3.out).mono ?_); rintro e w' ⟨rfl, ⟨nd, rfl⟩⟩; refine ⟨_, rfl, ?_⟩) | ((with_reducible refine gate_callee (f := 58) rfl ?_); refine goesL_ (some 16) rfl rfl Tryd.func58 (by kernel_rfl) rfl #[.string (a0.extract 1 a0.size), .string (⟨#[47]⟩ : ByteArray)] rfl (by qm_) ?_; (with_reducible refine (xSplit.calls (a0.extract 1 a0.size) (⟨#[47]⟩ : ByteArray) t126 _ A6.out).mono ?_); rintro e w7 ⟨v127, rfl, ho0, hb⟩; refine ⟨_, rfl, ?_⟩; have n0_ := Aside0.mk (Kd.R_lower ho0 (below_size (by qh_))); have n1_ := Aside0.mk (below_step (by qh_) hb); clear HB; have HO128 := n0_; have HB := n1_; clear n0_ n1_; (try clear hb); (try clear hb2); (try clear hk); (try clear hi); (try clear ho0); obtain ⟨Ao8, co8, eo8⟩ := Kd.R_slice HO128.out; subst eo8))
    go_loopg [4, 18] k (fun kq v4 v18 w' => ∃ (x4_1 : List ByteArray) (x18_1 : Int), v18 = .int .i64 x18_1 ∧ Aside0 (target_path.l0 kq x4_1 t126 (t126.length : Int) x18_1 = some (r1, r2)) ∧ Aside0 (kq ≤ k) ∧ Aside0 (Kd.R Kd.string 9 w' w.heap.size (fun k_ => some k_ ≠ ((.slice Ao8 t126.length co8) : Value).ownBlock) v4 x4_1) ∧ Aside0 (Kd.R Kd.string 9 w' w.heap.size (fun k_ => some k_ ≠ (v4 : Value).ownBlock) (.slice Ao8 t126.length co8) t126) ∧ Aside0 (Below w.heap.size w w'))
    case atStart => exact ⟨(([] : List ByteArray)), (0), (by qr_), H', ⟨Nat.le_refl _⟩, ⟨by first | exact Kd.R_nil _ _ _ _ _ | exact Kd.N_nil _ _ _ _ _ | exact Kd.V_nil _ _ _ _ _ | exact Kd.Q_nil _ _ _ _ _ | exact Kd.S_nil _ _ _ _ _⟩, ⟨by qk_; exact Kd.R_mono HO128.out (fun _ hk => (by simp [Value.ownBlock]))⟩, ⟨by qh_⟩⟩
    case round =>
     clear H'
     try clear c2
     try clear c2b0
     try clear c2b1
     try clear p2
     try clear c3
     try clear c4
     try clear c5
     try clear c5b0
     try clear c5b1
     obtain ⟨x4_1, x18_1, rfl, HA, HK1, HO_4, HO_16, HB⟩ := hrel
     cases gk with
     | zero => exact absurd HA.out (by simp [target_path.l0])
     | succ k1 =>
      have H := HA.out
      clear HA
      simp only [target_path.l0] at H
      by_cases c9 : x18_1 < (t126.length : Int)
      ·
       rw [if_pos c9] at H
       have c9b0 : decide (x18_1 < (t126.length : Int)) = true := decide_eq_true c9
       clear c9
       by_cases c10 : 0 ≤ x18_1
       ·
        rw [if_pos c10] at H
        have c10b0 : decide (0 ≤ x18_1) = true := decide_eq_true c10
        clear c10
        by_cases c11 : x18_1 < (t126.length : Int)
        ·
         rw [if_pos c11] at H
         have c11b0 : decide (x18_1 < (t126.length : Int)) = true := decide_eq_true c11
         clear c11
         replace H := Option.bind_eq_some_iff.mp H
         obtain ⟨⟨t130, t131⟩, A120, H⟩ := H
         replace H : (if t131 = true then (if t130.toList = ([] : List UInt8) then (some (([] : List ByteArray), false)) else (if x4_1.length < 8796093022208 then (target_path.l0 k1 (x4_1 ++ [t130]) t126 (t126.length : Int) (wrap64 (x18_1 + 1))) else (none))) else (some (([] : List ByteArray), false))) = some (r1, r2) := H
         have A12 := Aside0.mk A120
         clear A120
         by_cases c13 : t131 = true
         ·
          subst c13
          have H1 : (if t130.toList = ([] : List UInt8) then (some (([] : List ByteArray), false)) else (if x4_1.length < 8796093022208 then (target_path.l0 k1 (x4_1 ++ [t130]) t126 (t126.length : Int) (wrap64 (x18_1 + 1))) else (none))) = some (r1, r2) := by rw [if_pos rfl] at H; exact H
          clear H
          have H := H1
          clear H1
          by_cases c14 : t130.toList = ([] : List UInt8)
          ·
           rw [if_pos c14] at H
           have c14b0 : (t130.toList == ([] : List UInt8)) = true := beq_iff_eq.mpr c14
           have c14b1 : (t130.toList != ([] : List UInt8)) = false := bne_eq_false_iff_eq.mpr c14
           clear c14
           simp only [Option.some.injEq, Prod.mk.injEq] at H
           obtain ⟨rfl, rfl⟩ := H
           have p129 : 0 ≤ (x18_1 : Int) := of_decide_eq_true (by qa_)
           have q129 : x18_1 < (t126.length : Int) := of_decide_eq_true (by qa_)
           obtain ⟨ad129, e129, hx129_0⟩ := Kd.at_string (Kd.R_reads' HO_16.out).2.2 x18_1 p129 q129
           cases e129
           replace p129 := eq_true p129
           replace q129 := eq_true q129
           go_wp2_with (first | ((with_reducible refine gate_callee (f := 59) rfl ?_); refine goesL_ (some 24) rfl rfl Tryd.func59 (by kernel_rfl) rfl #[.string (rdOf ByteArray.empty t126 x18_1)] rfl (by qm_) ?_; (with_reducible refine (target_part.calls k1 (rdOf ByteArray.empty t126 x18_1) t130 true _ A12.out).mono ?_); rintro e w15 ⟨rfl, hb⟩; refine ⟨_, rfl, ?_⟩; have n0_ := Aside0.mk (Kd.R_below (by qk_; exact HO_4.out) hb); have n1_ := Aside0.mk (Kd.R_below (by qk_; exact HO_16.out) hb); have n2_ := Aside0.mk (below_step (by qh_) hb); clear HO_4; clear HO_16; clear HB; have HO_4 := n0_; have HO_16 := n1_; have HB := n2_; clear n0_ n1_ n2_; (try clear hb); (try clear hb2); (try clear hk); (try clear hi)))
           go_ret2
           exact ⟨_, by first | rfl | (simp [errW_none, errW_some] <;> rfl) | (simp [*, errW_none, errW_some] <;> rfl), by first | exact Kd.R_nil _ _ _ _ _ | exact Kd.N_nil _ _ _ _ _ | exact Kd.V_nil _ _ _ _ _ | exact Kd.Q_nil _ _ _ _ _ | exact Kd.S_nil _ _ _ _ _, by qh_⟩
          ·
           rw [if_neg c14] at H
           have c14b0 : (t130.toList == ([] : List UInt8)) = false := beq_eq_false_iff_ne.mpr c14
           have c14b1 : (t130.toList != ([] : List UInt8)) = true := bne_iff_ne.mpr c14
           by_cases c16 : x4_1.length < 8796093022208
           ·
            rw [if_pos c16] at H
            have LMc16 := Aside0.mk c16
            clear c16
            obtain ⟨y132, hy132⟩ : ∃ y_ : List ByteArray, y_ = (x4_1 ++ [t130]) := ⟨_, rfl⟩
            replace H : (target_path.l0 k1 y132 t126 (t126.length : Int) (wrap64 (x18_1 + 1))) = some (r1, r2) := by first | (rw [hy132]; with_reducible exact H) | (have H2_ := (Option.bind_some _ _).symm.trans H; rw [hy132]; with_reducible exact H2_) | (have H2_ := (Option.bind_some _ _).symm.trans H; with_reducible exact H2_) | with_reducible exact H | (rw [hy132]; exact H) | exact H
            have Ny132 := Aside0.mk hy132
            clear hy132
            have H' := Aside0.mk H
            clear H
            have p129 : 0 ≤ (x18_1 : Int) := of_decide_eq_true (by qa_)
            have q129 : x18_1 < (t126.length : Int) := of_decide_eq_true (by qa_)
            obtain ⟨ad129, e129, hx129_0⟩ := Kd.at_string (Kd.R_reads' HO_16.out).2.2 x18_1 p129 q129
            cases e129
            replace p129 := eq_true p129
            replace q129 := eq_true q129
            go_wp2_with (first | ((with_reducible refine gate_callee (f := 59) rfl ?_); refine goesL_ (some 24) rfl rfl Tryd.func59 (by kernel_rfl) rfl #[.string (rdOf ByteArray.empty t126 x18_1)] rfl (by qm_) ?_; (with_reducible refine (target_part.calls k1 (rdOf ByteArray.empty t126 x18_1) t130 true _ A12.out).mono ?_); rintro e w17 ⟨rfl, hb⟩; refine ⟨_, rfl, ?_⟩; have n0_ := Aside0.mk (Kd.R_below (by qk_; exact HO_4.out) hb); have n1_ := Aside0.mk (Kd.R_below (by qk_; exact HO_16.out) hb); have n2_ := Aside0.mk (below_step (by qh_) hb); clear HO_4; clear HO_16; clear HB; have HO_4 := n0_; have HO_16 := n1_; have HB := n2_; clear n0_ n1_ n2_; (try clear hb); (try clear hb2); (try clear hk); (try clear hi)) | ((with_reducible refine gate_builtin (b := .append) (xs := #[.tmp 33, .tmp 35]) rfl ?_); at_builtin; refine Kd.R_append Kd.string (w0 := w) w.heap.size rfl (.tmp 33) (.tmp 35) 39 9 (.string ⟨#[]⟩) 16 rfl Tryd.underlying39 info9 rfl (by decide) (by omega) u4 x4_1 t130 [.string t130] (fun k_ => some k_ ≠ (.slice (some ad129) t126.length co8 : Value).ownBlock) (fun _ => False) rfl rfl ?aP (fun _ hk => hk.elim) ?aF ?aO ?aB ?aS ?aL ?_; (case aP => exact rfl); (case aB => exact (by qh_)); (case aF => exact (fun k_ hk => Kd.fresh' (Kd.R_lt (by qk_; exact HO_16.out)) k_ hk)); (case aO => exact (by qk_; exact HO_4.out)); (case aS => exact (below_size (by qh_))); (case aL => have := LMc16.out; omega); intro v133 w18 ho hb hg hat; rw [← Ny132.out] at ho; have n0_ := Aside0.mk (Kd.R_after (ok := (fun _ => True)) (by qk_; exact Kd.R_mono HO_16.out (fun _ hk => ⟨trivial, hk⟩)) hg hat); have n1_ := Aside0.mk (hb); have n2_ := Aside0.mk (ho); clear HO_16; clear HB; clear HO_4; have HO_16 := n0_; have HB := n1_; have HO134 := n2_; clear n0_ n1_ n2_; clear ho hb hg hat))
            go_roundg k1
            case measure => have := HK1.out; omega
            case rel => exact ⟨(y132), (wrap64 (x18_1 + 1)), (by qr_), H', ⟨by have := HK1.out; omega⟩, ⟨by qk_; exact HO134.out⟩, ⟨by qk_; exact Kd.R_mono HO_16.out (fun _ hk => hk.2)⟩, ⟨by qh_⟩⟩
           ·
            rw [if_neg c16] at H
            exact absurd H (by simp)
         ·
          replace c13 := Bool.eq_false_iff.mpr c13
          subst c13
          have H1 : (some (([] : List ByteArray), false)) = some (r1, r2) := by rw [if_neg (show ¬ (false = true) by decide)] at H; exact H
          clear H
          have H := H1
          clear H1
          simp only [Option.some.injEq, Prod.mk.injEq] at H
          obtain ⟨rfl, rfl⟩ := H
          have p129 : 0 ≤ (x18_1 : Int) := of_decide_eq_true (by qa_)
          have q129 : x18_1 < (t126.length : Int) := of_decide_eq_true (by qa_)
          obtain ⟨ad129, e129, hx129_0⟩ := Kd.at_string (Kd.R_reads' HO_16.out).2.2 x18_1 p129 q129
          cases e129
          replace p129 := eq_true p129
          replace q129 := eq_true q129
          go_wp2_with (first | ((with_reducible refine gate_callee (f := 59) rfl ?_); refine goesL_ (some 24) rfl rfl Tryd.func59 (by kernel_rfl) rfl #[.string (rdOf ByteArray.empty t126 x18_1)] rfl (by qm_) ?_; (with_reducible refine (target_part.calls k1 (rdOf ByteArray.empty t126 x18_1) t130 false _ A12.out).mono ?_); rintro e w19 ⟨rfl, hb⟩; refine ⟨_, rfl, ?_⟩; have n0_ := Aside0.mk (Kd.R_below (by qk_; exact HO_4.out) hb); have n1_ := Aside0.mk (Kd.R_below (by qk_; exact HO_16.out) hb); have n2_ := Aside0.mk (below_step (by qh_) hb); clear HO_4; clear HO_16; clear HB; have HO_4 := n0_; have HO_16 := n1_; have HB := n2_; clear n0_ n1_ n2_; (try clear hb); (try clear hb2); (try clear hk); (try clear hi)))
          go_ret2
          exact ⟨_, by first | rfl | (simp [errW_none, errW_some] <;> rfl) | (simp [*, errW_none, errW_some] <;> rfl), by first | exact Kd.R_nil _ _ _ _ _ | exact Kd.N_nil _ _ _ _ _ | exact Kd.V_nil _ _ _ _ _ | exact Kd.Q_nil _ _ _ _ _ | exact Kd.S_nil _ _ _ _ _, by qh_⟩
        ·
         rw [if_neg c11] at H
         exact absurd H (by simp)
       ·
        rw [if_neg c10] at H
        exact absurd H (by simp)
      ·
       rw [if_neg c9] at H
       have c9b0 : decide (x18_1 < (t126.length : Int)) = false := decide_eq_false c9
       clear c9
       simp only [Option.some.injEq, Prod.mk.injEq] at H
       obtain ⟨rfl, rfl⟩ := H
       go_wp2
       go_ret2
       exact ⟨_, by first | rfl | (simp [errW_none, errW_some] <;> rfl) | (simp [*, errW_none, errW_some] <;> rfl), by qk_; exact Kd.R_mono HO_4.out (fun _ hk => trivial), by qh_⟩
   ·
    rw [if_neg c5] at H
    exact absurd H (by simp)
  ·
   replace c4 := Bool.eq_false_iff.mpr c4
   subst c4
   have H1 : (some (([] : List ByteArray), false)) = some (r1, r2) := by rw [if_neg (show ¬ (false = true) by decide)] at H; exact H
   clear H
   have H := H1
   clear H1
   simp only [Option.some.injEq, Prod.mk.injEq] at H
   obtain ⟨rfl, rfl⟩ := H
   go_enter Tryd.func35, Tryd.ntmps35
   go_wp2_with (first | ((with_reducible refine gate_callee (f := 57) rfl ?_); refine goesL_ (some 12) rfl rfl Tryd.func57 (by kernel_rfl) rfl #[.string a0, .string (⟨#[47]⟩ : ByteArray)] rfl (by qm_) ?_; (with_reducible refine (strings_HasPrefix.calls a0 (⟨#[47]⟩ : ByteArray) false _ A3.out).mono ?_); rintro e w' ⟨rfl, ⟨nd, rfl⟩⟩; refine ⟨_, rfl, ?_⟩))
   go_ret2
   exact ⟨_, by first | rfl | (simp [errW_none, errW_some] <;> rfl) | (simp [*, errW_none, errW_some] <;> rfl), by first | exact Kd.R_nil _ _ _ _ _ | exact Kd.N_nil _ _ _ _ _ | exact Kd.V_nil _ _ _ _ _ | exact Kd.Q_nil _ _ _ _ _ | exact Kd.S_nil _ _ _ _ _, by qh_⟩
end Go.Proofs.YtnfimhdcpmakpaaDoor.S
