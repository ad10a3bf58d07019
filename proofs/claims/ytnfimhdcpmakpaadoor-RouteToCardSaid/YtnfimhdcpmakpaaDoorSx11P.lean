-- By wip/hook.py.
import Derived.Test.YtnfimhdcpmakpaaDoorSx0P
namespace Go.Proofs.YtnfimhdcpmakpaaDoor.S
open Go.RowKit Go.Proofs.YtnfimhdcpmakpaaDoorW.PrintWords Go.Proofs.YtnfimhdcpmakpaaDoorW.PrintLast Go.Proofs.YtnfimhdcpmakpaaDoorW.PrintMore
attribute [local go_sem] max2_int min2_int max_two min_two max_three min_three max_four min_four
set_option linter.unusedVariables false
set_option linter.unusedSimpArgs false
mutual
def cofferref26_cut.l0 : Nat → ByteArray → Int → List ByteArray → Int → Int → Option (List ByteArray)
 | 0, _, _, _, _, _ => none
 | k + 1, x0, x1, x5, x6, x7 => if x7 ≤ (x0.size : Int) then (cofferref26_cut.j1 k x0 x1 x5 x6 x7 (x0.toList != ([] : List UInt8))) else (cofferref26_cut.j1 k x0 x1 x5 x6 x7 false)
def cofferref26_cut.j1 : Nat → ByteArray → Int → List ByteArray → Int → Int → Bool → Option (List ByteArray)
 | 0, _, _, _, _, _, _ => none
 | k + 1, x0, x1, x5, x6, x7, x15 => if x15 = true then (if x7 = (x0.size : Int) then (if 0 ≤ x6 then (if x6 ≤ x7 then (if x7 ≤ (x0.size : Int) then (if x5.length < 8796093022208 then (cofferref26_cut.l0 k x0 x1 (x5 ++ [x0.extract (x6 : Int).toNat (x7 : Int).toNat]) (wrap64 (x7 + 1)) (wrap64 (x7 + 1))) else (none)) else (none)) else (none)) else (none)) else (if 0 ≤ x7 then (if x7 < (x0.size : Int) then (if (bt x0 x7) = x1 then (if 0 ≤ x6 then (if x6 ≤ x7 then (if x7 ≤ (x0.size : Int) then (if x5.length < 8796093022208 then (cofferref26_cut.l0 k x0 x1 (x5 ++ [x0.extract (x6 : Int).toNat (x7 : Int).toNat]) (wrap64 (x7 + 1)) (wrap64 (x7 + 1))) else (none)) else (none)) else (none)) else (none)) else (cofferref26_cut.l0 k x0 x1 x5 x6 (wrap64 (x7 + 1)))) else (none)) else (none))) else (some x5)
end
def cofferref26_cut.f (k : Nat) (a0 : ByteArray) (a1 : Int) : Option (List ByteArray) := cofferref26_cut.l0 k a0 a1 ([] : List ByteArray) 0 0
theorem cofferref26_cut.mono_l : ∀ k, (∀ y0 y1 y2 y3 y4, LeO (cofferref26_cut.l0 k y0 y1 y2 y3 y4) (cofferref26_cut.l0 (k + 1) y0 y1 y2 y3 y4)) ∧ (∀ y0 y1 y2 y3 y4 y5, LeO (cofferref26_cut.j1 k y0 y1 y2 y3 y4 y5) (cofferref26_cut.j1 (k + 1) y0 y1 y2 y3 y4 y5))
 | 0 => ⟨fun _ _ _ _ _ r h => by simp [cofferref26_cut.l0] at h, fun _ _ _ _ _ _ r h => by simp [cofferref26_cut.j1] at h⟩
 | k + 1 => by
  obtain ⟨ih0, ih1⟩ := cofferref26_cut.mono_l k
  refine ⟨?_, ?_⟩
  ·
   intro y0 y1 y2 y3 y4
   unfold cofferref26_cut.l0
   repeat' first
   | (with_reducible exact ih0 _ _ _ _ _)
   | (with_reducible exact ih1 _ _ _ _ _ _)
   | (with_reducible exact LeO.refl _)
   | (with_reducible exact LeO.none _)
   | (with_reducible refine LeO.ite ?_ ?_)
   | (with_reducible refine LeO.bind ?_ (fun _ => ?_))
   | exact ih0 _ _ _ _ _
   | exact ih1 _ _ _ _ _ _
   | exact LeO.none _
   | refine LeO.ite ?_ ?_
   | refine LeO.bind ?_ (fun _ => ?_)
  ·
   intro y0 y1 y2 y3 y4 y5
   unfold cofferref26_cut.j1
   repeat' first
   | (with_reducible exact ih0 _ _ _ _ _)
   | (with_reducible exact ih1 _ _ _ _ _ _)
   | (with_reducible exact LeO.refl _)
   | (with_reducible exact LeO.none _)
   | (with_reducible refine LeO.ite ?_ ?_)
   | (with_reducible refine LeO.bind ?_ (fun _ => ?_))
   | exact ih0 _ _ _ _ _
   | exact ih1 _ _ _ _ _ _
   | exact LeO.none _
   | refine LeO.ite ?_ ?_
   | refine LeO.bind ?_ (fun _ => ?_)
theorem cofferref26_cut.mono : ∀ a0 a1 k, LeO (cofferref26_cut.f k a0 a1) (cofferref26_cut.f (k + 1) a0 a1) := by
 intro a0 a1 k
 obtain ⟨ih0, ih1⟩ := cofferref26_cut.mono_l k
 unfold cofferref26_cut.f
 repeat' first
   | (with_reducible exact ih0 _ _ _ _ _)
   | (with_reducible exact ih1 _ _ _ _ _ _)
   | (with_reducible exact LeO.refl _)
   | (with_reducible exact LeO.none _)
   | (with_reducible refine LeO.ite ?_ ?_)
   | (with_reducible refine LeO.bind ?_ (fun _ => ?_))
   | exact ih0 _ _ _ _ _
   | exact ih1 _ _ _ _ _ _
   | exact LeO.none _
   | refine LeO.ite ?_ ?_
   | refine LeO.bind ?_ (fun _ => ?_)
set_option maxHeartbeats 8000000 in
set_option maxRecDepth 100000 in
theorem cofferref26_cut.calls (k : Nat) (a0 : ByteArray) (a1 : Int) (r : List ByteArray) (w : World) (h : cofferref26_cut.f k a0 a1 = some r) :
  Calls Tryd.prog 27 #[.string a0, .int .u8 a1] w fun e w' => ∃ v0_ : Value, e = .returned (v0_) ∧ Kd.R Kd.string 9 w' w.heap.size (fun _ => True) v0_ r ∧ Below w.heap.size w w' := by
 have HB := Aside0.mk (Below.refl w.heap.size w)
 have H : (cofferref26_cut.l0 k a0 a1 ([] : List ByteArray) 0 0) = some r := h
 clear h
 have H' := Aside0.mk H
 clear H
 go_enter Tryd.func27, Tryd.ntmps27
 go_wp2
 go_loopg [5, 6, 7] k (fun kq v5 v6 v7 w' => ∃ (x5_1 : List ByteArray) (x6_1 : Int) (x7_1 : Int), v6 = .int .i64 x6_1 ∧ v7 = .int .i64 x7_1 ∧ Aside0 (cofferref26_cut.l0 kq a0 a1 x5_1 x6_1 x7_1 = some r) ∧ Aside0 (kq ≤ k) ∧ Aside0 (Kd.R Kd.string 9 w' w.heap.size (fun _ => True) v5 x5_1) ∧ Aside0 (Below w.heap.size w w'))
 case atStart => exact ⟨(([] : List ByteArray)), (0), (0), (by qr_), (by qr_), H', ⟨Nat.le_refl _⟩, ⟨by first | exact Kd.R_nil _ _ _ _ _ | exact Kd.N_nil _ _ _ _ _ | exact Kd.V_nil _ _ _ _ _ | exact Kd.Q_nil _ _ _ _ _ | exact Kd.S_nil _ _ _ _ _⟩, ⟨by qh_⟩⟩
 case round =>
  clear H'
  try clear c2
  try clear p2
  obtain ⟨x5_1, x6_1, x7_1, rfl, rfl, HA, HK1, HO_5, HB⟩ := hrel
  cases gk with
  | zero => exact absurd HA.out (by simp [cofferref26_cut.l0])
  | succ k1 =>
   have H := HA.out
   clear HA
   simp only [cofferref26_cut.l0] at H
   have HC3 := Aside0.mk H
   clear H
   go_upto_region 4 with (fail)
   go_cut [15] (fun v15 wc => ∃ (kq : Nat) (x15_2 : Bool), v15 = .bool x15_2 ∧ Aside0 (cofferref26_cut.j1 kq a0 a1 x5_1 x6_1 x7_1 x15_2 = some r) ∧ Aside0 (kq ≤ k1) ∧ Aside0 (Kd.R Kd.string 9 wc w.heap.size (fun _ => True) u5 x5_1) ∧ Aside0 (Below w.heap.size w wc))
   case first =>
    have H := HC3.out
    clear HC3
    by_cases c4 : x7_1 ≤ (a0.size : Int)
    ·
     rw [if_pos c4] at H
     have c4b0 : decide (x7_1 ≤ (a0.size : Int)) = true := decide_eq_true c4
     clear c4
     (first | rw [c4b0] | (simp only [i64_w, i32_w]; rw [c4b0]) | skip)
     have H' := Aside0.mk H
     clear H
     go_wp2
     go_meet
     case rel => exact ⟨_, ((a0.toList != ([] : List UInt8))), (by first | rfl | (cases a0.toList <;> rfl)), H', ⟨by have := HK1.out; first | omega | exact Nat.le_refl _⟩, ⟨by qk_; exact HO_5.out⟩, ⟨by qh_⟩⟩
    ·
     rw [if_neg c4] at H
     have c4b0 : decide (x7_1 ≤ (a0.size : Int)) = false := decide_eq_false c4
     clear c4
     (first | rw [c4b0] | (simp only [i64_w, i32_w]; rw [c4b0]) | skip)
     have H' := Aside0.mk H
     clear H
     go_wp2
     go_meet
     case rel => exact ⟨_, (false), (by qr_), H', ⟨by have := HK1.out; first | omega | exact Nat.le_refl _⟩, ⟨by qk_; exact HO_5.out⟩, ⟨by qh_⟩⟩
   case rest =>
    clear HC3
    try clear c2
    try clear p2
    try clear c4
    try clear c4b0
    try clear p2
    obtain ⟨kq, x15_2, rfl, HA, HJ2, HO_5, HB⟩ := hcut
    cases kq with
    | zero => exact absurd HA.out (by simp [cofferref26_cut.j1])
    | succ kj2 =>
     have H := HA.out
     clear HA
     simp only [cofferref26_cut.j1] at H
     by_cases c5 : x15_2 = true
     ·
      subst c5
      have H1 : (if x7_1 = (a0.size : Int) then (if 0 ≤ x6_1 then (if x6_1 ≤ x7_1 then (if x7_1 ≤ (a0.size : Int) then (if x5_1.length < 8796093022208 then (cofferref26_cut.l0 kj2 a0 a1 (x5_1 ++ [a0.extract (x6_1 : Int).toNat (x7_1 : Int).toNat]) (wrap64 (x7_1 + 1)) (wrap64 (x7_1 + 1))) else (none)) else (none)) else (none)) else (none)) else (if 0 ≤ x7_1 then (if x7_1 < (a0.size : Int) then (if (bt a0 x7_1) = a1 then (if 0 ≤ x6_1 then (if x6_1 ≤ x7_1 then (if x7_1 ≤ (a0.size : Int) then (if x5_1.length < 8796093022208 then (cofferref26_cut.l0 kj2 a0 a1 (x5_1 ++ [a0.extract (x6_1 : Int).toNat (x7_1 : Int).toNat]) (wrap64 (x7_1 + 1)) (wrap64 (x7_1 + 1))) else (none)) else (none)) else (none)) else (none)) else (cofferref26_cut.l0 kj2 a0 a1 x5_1 x6_1 (wrap64 (x7_1 + 1)))) else (none)) else (none))) = some r := by rw [if_pos rfl] at H; exact H
      clear H
      have H := H1
      clear H1
      by_cases c6 : x7_1 = (a0.size : Int)
      ·
       rw [if_pos c6] at H
       have c6b0 : (x7_1 == (a0.size : Int)) = true := beq_iff_eq.mpr c6
       have c6b1 : (x7_1 != (a0.size : Int)) = false := bne_eq_false_iff_eq.mpr c6
       clear c6
       by_cases c7 : 0 ≤ x6_1
       ·
        rw [if_pos c7] at H
        have c7b0 := eq_true c7
        have c7b1 : decide (0 ≤ x6_1) = true := decide_eq_true c7
        clear c7
        by_cases c8 : x6_1 ≤ x7_1
        ·
         rw [if_pos c8] at H
         have c8b0 := eq_true c8
         have c8b1 : decide (x6_1 ≤ x7_1) = true := decide_eq_true c8
         clear c8
         by_cases c9 : x7_1 ≤ (a0.size : Int)
         ·
          rw [if_pos c9] at H
          have c9b0 := eq_true c9
          have c9b1 : decide (x7_1 ≤ (a0.size : Int)) = true := decide_eq_true c9
          clear c9
          by_cases c10 : x5_1.length < 8796093022208
          ·
           rw [if_pos c10] at H
           have LMc10 := Aside0.mk c10
           clear c10
           obtain ⟨y266, hy266⟩ : ∃ y_ : List ByteArray, y_ = (x5_1 ++ [a0.extract (x6_1 : Int).toNat (x7_1 : Int).toNat]) := ⟨_, rfl⟩
           replace H : (cofferref26_cut.l0 kj2 a0 a1 y266 (wrap64 (x7_1 + 1)) (wrap64 (x7_1 + 1))) = some r := by first | (rw [hy266]; with_reducible exact H) | (have H2_ := (Option.bind_some _ _).symm.trans H; rw [hy266]; with_reducible exact H2_) | (have H2_ := (Option.bind_some _ _).symm.trans H; with_reducible exact H2_) | with_reducible exact H | (rw [hy266]; exact H) | exact H
           have Ny266 := Aside0.mk hy266
           clear hy266
           have H' := Aside0.mk H
           clear H
           go_wp2_with (first | ((with_reducible refine gate_builtin (b := .append) (xs := #[.tmp 29, .tmp 34]) rfl ?_); at_builtin; refine Kd.R_append Kd.string (w0 := w) w.heap.size rfl (.tmp 29) (.tmp 34) 39 9 (.string ⟨#[]⟩) 16 rfl Tryd.underlying39 info9 rfl (by decide) (by omega) u5 x5_1 (a0.extract (x6_1 : Int).toNat (x7_1 : Int).toNat) [.string (a0.extract (x6_1 : Int).toNat (x7_1 : Int).toNat)] (fun _ => True) (fun _ => False) rfl rfl ?aP (fun _ hk => hk.elim) ?aF ?aO ?aB ?aS ?aL ?_; (case aP => exact rfl); (case aB => exact (by qh_)); (case aF => exact (fun _ _ => trivial)); (case aO => exact (by qk_; exact HO_5.out)); (case aS => exact (below_size (by qh_))); (case aL => have := LMc10.out; omega); intro v267 w11 ho hb hg hat; rw [← Ny266.out] at ho; have n0_ := Aside0.mk (hb); have n1_ := Aside0.mk (ho); clear HB; clear HO_5; have HB := n0_; have HO268 := n1_; clear n0_ n1_; clear ho hb hg hat))
           go_roundg kj2
           case measure => have := HK1.out; have := HJ2.out; omega
           case rel => exact ⟨(y266), (wrap64 (x7_1 + 1)), (wrap64 (x7_1 + 1)), (by qr_), (by qr_), H', ⟨by have := HK1.out; have := HJ2.out; omega⟩, ⟨by qk_; exact HO268.out⟩, ⟨by qh_⟩⟩
          ·
           rw [if_neg c10] at H
           exact absurd H (by simp)
         ·
          rw [if_neg c9] at H
          exact absurd H (by simp)
        ·
         rw [if_neg c8] at H
         exact absurd H (by simp)
       ·
        rw [if_neg c7] at H
        exact absurd H (by simp)
      ·
       rw [if_neg c6] at H
       have c6b0 : (x7_1 == (a0.size : Int)) = false := beq_eq_false_iff_ne.mpr c6
       have c6b1 : (x7_1 != (a0.size : Int)) = true := bne_iff_ne.mpr c6
       by_cases c12 : 0 ≤ x7_1
       ·
        rw [if_pos c12] at H
        have c12b0 : decide (0 ≤ x7_1) = true := decide_eq_true c12
        clear c12
        by_cases c13 : x7_1 < (a0.size : Int)
        ·
         rw [if_pos c13] at H
         have c13b0 : decide (x7_1 < (a0.size : Int)) = true := decide_eq_true c13
         clear c13
         by_cases c15 : (bt a0 x7_1) = a1
         ·
          rw [if_pos c15] at H
          have c15b0 : ((bt a0 x7_1) == a1) = true := beq_iff_eq.mpr c15
          have c15b1 : ((bt a0 x7_1) != a1) = false := bne_eq_false_iff_eq.mpr c15
          clear c15
          by_cases c16 : 0 ≤ x6_1
          ·
           rw [if_pos c16] at H
           have c16b0 := eq_true c16
           have c16b1 : decide (0 ≤ x6_1) = true := decide_eq_true c16
           clear c16
           by_cases c17 : x6_1 ≤ x7_1
           ·
            rw [if_pos c17] at H
            have c17b0 := eq_true c17
            have c17b1 : decide (x6_1 ≤ x7_1) = true := decide_eq_true c17
            clear c17
            by_cases c18 : x7_1 ≤ (a0.size : Int)
            ·
             rw [if_pos c18] at H
             have c18b0 := eq_true c18
             have c18b1 : decide (x7_1 ≤ (a0.size : Int)) = true := decide_eq_true c18
             clear c18
             by_cases c19 : x5_1.length < 8796093022208
             ·
              rw [if_pos c19] at H
              have LMc19 := Aside0.mk c19
              clear c19
              obtain ⟨y269, hy269⟩ : ∃ y_ : List ByteArray, y_ = (x5_1 ++ [a0.extract (x6_1 : Int).toNat (x7_1 : Int).toNat]) := ⟨_, rfl⟩
              replace H : (cofferref26_cut.l0 kj2 a0 a1 y269 (wrap64 (x7_1 + 1)) (wrap64 (x7_1 + 1))) = some r := by first | (rw [hy269]; with_reducible exact H) | (have H2_ := (Option.bind_some _ _).symm.trans H; rw [hy269]; with_reducible exact H2_) | (have H2_ := (Option.bind_some _ _).symm.trans H; with_reducible exact H2_) | with_reducible exact H | (rw [hy269]; exact H) | exact H
              have Ny269 := Aside0.mk hy269
              clear hy269
              have H' := Aside0.mk H
              clear H
              have p14 : 0 ≤ (x7_1 : Int) := of_decide_eq_true (by qa_)
              have q14 : x7_1 < (a0.size : Int) := of_decide_eq_true (by qa_)
              have hx14 := bt_at a0 x7_1
              replace p14 := eq_true p14
              replace q14 := eq_true q14
              go_wp2_with (first | ((with_reducible refine gate_builtin (b := .append) (xs := #[.tmp 29, .tmp 34]) rfl ?_); at_builtin; refine Kd.R_append Kd.string (w0 := w) w.heap.size rfl (.tmp 29) (.tmp 34) 39 9 (.string ⟨#[]⟩) 16 rfl Tryd.underlying39 info9 rfl (by decide) (by omega) u5 x5_1 (a0.extract (x6_1 : Int).toNat (x7_1 : Int).toNat) [.string (a0.extract (x6_1 : Int).toNat (x7_1 : Int).toNat)] (fun _ => True) (fun _ => False) rfl rfl ?aP (fun _ hk => hk.elim) ?aF ?aO ?aB ?aS ?aL ?_; (case aP => exact rfl); (case aB => exact (by qh_)); (case aF => exact (fun _ _ => trivial)); (case aO => exact (by qk_; exact HO_5.out)); (case aS => exact (below_size (by qh_))); (case aL => have := LMc19.out; omega); intro v270 w20 ho hb hg hat; rw [← Ny269.out] at ho; have n0_ := Aside0.mk (hb); have n1_ := Aside0.mk (ho); clear HB; clear HO_5; have HB := n0_; have HO271 := n1_; clear n0_ n1_; clear ho hb hg hat))
              go_roundg kj2
              case measure => have := HK1.out; have := HJ2.out; omega
              case rel => exact ⟨(y269), (wrap64 (x7_1 + 1)), (wrap64 (x7_1 + 1)), (by qr_), (by qr_), H', ⟨by have := HK1.out; have := HJ2.out; omega⟩, ⟨by qk_; exact HO271.out⟩, ⟨by qh_⟩⟩
             ·
              rw [if_neg c19] at H
              exact absurd H (by simp)
            ·
             rw [if_neg c18] at H
             exact absurd H (by simp)
           ·
            rw [if_neg c17] at H
            exact absurd H (by simp)
          ·
           rw [if_neg c16] at H
           exact absurd H (by simp)
         ·
          rw [if_neg c15] at H
          have c15b0 : ((bt a0 x7_1) == a1) = false := beq_eq_false_iff_ne.mpr c15
          have c15b1 : ((bt a0 x7_1) != a1) = true := bne_iff_ne.mpr c15
          have H' := Aside0.mk H
          clear H
          have p14 : 0 ≤ (x7_1 : Int) := of_decide_eq_true (by qa_)
          have q14 : x7_1 < (a0.size : Int) := of_decide_eq_true (by qa_)
          have hx14 := bt_at a0 x7_1
          replace p14 := eq_true p14
          replace q14 := eq_true q14
          go_wp2
          go_roundg kj2
          case measure => have := HK1.out; have := HJ2.out; omega
          case rel => exact ⟨(x5_1), (x6_1), (wrap64 (x7_1 + 1)), (by qr_), (by qr_), H', ⟨by have := HK1.out; have := HJ2.out; omega⟩, ⟨by qk_; exact HO_5.out⟩, ⟨by qh_⟩⟩
        ·
         rw [if_neg c13] at H
         exact absurd H (by simp)
       ·
        rw [if_neg c12] at H
        exact absurd H (by simp)
     ·
      replace c5 := Bool.eq_false_iff.mpr c5
      subst c5
      have H1 : (some x5_1) = some r := by rw [if_neg (show ¬ (false = true) by decide)] at H; exact H
      clear H
      have H := H1
      clear H1
      obtain rfl := Option.some.inj H
      go_wp2
      go_ret
      exact ⟨_, by first | rfl | (simp [errW_none, errW_some] <;> rfl) | (simp [*, errW_none, errW_some] <;> rfl), by qk_; exact HO_5.out, by qh_⟩
def cofferref26_great.f (a0 : ByteArray) : Option (Bool) := if a0.toList = ([78, 65, 77, 69] : List UInt8) then (some true) else (if a0.toList = ([72, 69, 88] : List UInt8) then (some true) else (some (a0.toList == ([78] : List UInt8))))
set_option maxHeartbeats 8000000 in
set_option maxRecDepth 100000 in
theorem cofferref26_great.calls (a0 : ByteArray) (r : Bool) (w : World) (h : cofferref26_great.f a0 = some r) :
  Calls Tryd.prog 48 #[.string a0] w fun e w' => e = .returned (.bool r) ∧ Drawn0 w w' := by
 have H : (if a0.toList = ([78, 65, 77, 69] : List UInt8) then (some true) else (if a0.toList = ([72, 69, 88] : List UInt8) then (some true) else (some (a0.toList == ([78] : List UInt8))))) = some r := h
 clear h
 by_cases c2 : a0.toList = ([78, 65, 77, 69] : List UInt8)
 ·
  rw [if_pos c2] at H
  have c2b0 : (a0.toList == ([78, 65, 77, 69] : List UInt8)) = true := beq_iff_eq.mpr c2
  have c2b1 : (a0.toList != ([78, 65, 77, 69] : List UInt8)) = false := bne_eq_false_iff_eq.mpr c2
  clear c2
  obtain rfl := Option.some.inj H
  go_enter Tryd.func48, Tryd.ntmps48
  go_wp2
  go_ret
  exact ⟨by qr_, by qd_⟩
 ·
  rw [if_neg c2] at H
  have c2b0 : (a0.toList == ([78, 65, 77, 69] : List UInt8)) = false := beq_eq_false_iff_ne.mpr c2
  have c2b1 : (a0.toList != ([78, 65, 77, 69] : List UInt8)) = true := bne_iff_ne.mpr c2
  by_cases c3 : a0.toList = ([72, 69, 88] : List UInt8)
  ·
   rw [if_pos c3] at H
   have c3b0 : (a0.toList == ([72, 69, 88] : List UInt8)) = true := beq_iff_eq.mpr c3
   have c3b1 : (a0.toList != ([72, 69, 88] : List UInt8)) = false := bne_eq_false_iff_eq.mpr c3
   clear c3
   obtain rfl := Option.some.inj H
   go_enter Tryd.func48, Tryd.ntmps48
   go_wp2
   go_ret
   exact ⟨by qr_, by qd_⟩
  ·
   rw [if_neg c3] at H
   have c3b0 : (a0.toList == ([72, 69, 88] : List UInt8)) = false := beq_eq_false_iff_ne.mpr c3
   have c3b1 : (a0.toList != ([72, 69, 88] : List UInt8)) = true := bne_iff_ne.mpr c3
   obtain rfl := Option.some.inj H
   go_enter Tryd.func48, Tryd.ntmps48
   go_wp2
   go_ret
   exact ⟨by qr_, by qd_⟩
def cofferref26_fits.l0 : Nat → List ByteArray → List ByteArray → Int → Option (Bool)
 | 0, _, _, _ => none
 | k + 1, x0, x1, x5 => if x5 < (x1.length : Int) then (if 0 ≤ x5 then (if x5 < (x0.length : Int) then ((cofferref26_great.f (rdOf ByteArray.empty x0 x5)).bind fun t273 => (if t273 = true then (cofferref26_fits.l0 k x0 x1 (wrap64 (x5 + 1))) else (if (rdOf ByteArray.empty x0 x5).toList = (rdOf ByteArray.empty x1 x5).toList then (cofferref26_fits.l0 k x0 x1 (wrap64 (x5 + 1))) else (some false)))) else (none)) else (none)) else (some true)
def cofferref26_fits.f (k : Nat) (l0 : List ByteArray) (l1 : List ByteArray) : Option (Bool) := if (l0.length : Int) = (l1.length : Int) then (cofferref26_fits.l0 k l0 l1 0) else (some false)
set_option maxHeartbeats 8000000 in
set_option maxRecDepth 100000 in
theorem cofferref26_fits.calls (k : Nat) (A0 : Option Addr) (c0 : Nat) (l0 : List ByteArray) (A1 : Option Addr) (c1 : Nat) (l1 : List ByteArray) (r : Bool) (w : World) (hr0 : Kd.C Kd.string w A0 l0.length l0) (hc0 : l0.length ≤ c0) (hr1 : Kd.C Kd.string w A1 l1.length l1) (hc1 : l1.length ≤ c1) (h : cofferref26_fits.f k l0 l1 = some r) :
  Calls Tryd.prog 28 #[.slice A0 l0.length c0, .slice A1 l1.length c1] w fun e w' => e = .returned (.bool r) ∧ Drawn0 w w' := by
 have HR0 := Aside0.mk hr0
 have HC0 := Aside0.mk hc0
 clear hr0 hc0
 have HR1 := Aside0.mk hr1
 have HC1 := Aside0.mk hc1
 clear hr1 hc1
 have H : (if (l0.length : Int) = (l1.length : Int) then (cofferref26_fits.l0 k l0 l1 0) else (some false)) = some r := h
 clear h
 by_cases c3 : (l0.length : Int) = (l1.length : Int)
 ·
  rw [if_pos c3] at H
  have c3b0 : ((l0.length : Int) == (l1.length : Int)) = true := beq_iff_eq.mpr c3
  have c3b1 : ((l0.length : Int) != (l1.length : Int)) = false := bne_eq_false_iff_eq.mpr c3
  have c3b2 : (l0.length == l1.length) = true := by first | simpa using c3 | (simp at c3 ⊢; omega)
  clear c3
  have H' := Aside0.mk H
  clear H
  go_enter Tryd.func28, Tryd.ntmps28
  go_wp2
  repeat (go_quiet (fail); try go_wp2)
  go_loopg [5] k (fun kq v5 w' => ∃ (x5_1 : Int), v5 = .int .i64 x5_1 ∧ Aside0 (cofferref26_fits.l0 kq l0 l1 x5_1 = some r) ∧ Aside0 (kq ≤ k) ∧ Drawn0 w w')
  case atStart => exact ⟨(0), (by qr_), H', ⟨Nat.le_refl _⟩, by qd_⟩
  case round =>
   clear H'
   try clear c1
   try clear c2
   try clear p2
   try clear c3
   try clear c3b0
   try clear c3b1
   try clear c3b2
   obtain ⟨x5_1, rfl, HA, HK1, ⟨m1, rfl⟩⟩ := hrel
   cases gk with
   | zero => exact absurd HA.out (by simp [cofferref26_fits.l0])
   | succ k1 =>
    have H := HA.out
    clear HA
    simp only [cofferref26_fits.l0] at H
    by_cases c4 : x5_1 < (l1.length : Int)
    ·
     rw [if_pos c4] at H
     have c4b0 : decide (x5_1 < (l1.length : Int)) = true := decide_eq_true c4
     clear c4
     by_cases c5 : 0 ≤ x5_1
     ·
      rw [if_pos c5] at H
      have c5b0 : decide (0 ≤ x5_1) = true := decide_eq_true c5
      clear c5
      by_cases c6 : x5_1 < (l0.length : Int)
      ·
       rw [if_pos c6] at H
       have c6b0 : decide (x5_1 < (l0.length : Int)) = true := decide_eq_true c6
       clear c6
       replace H := Option.bind_eq_some_iff.mp H
       obtain ⟨t273, A70, H⟩ := H
       replace H : (if t273 = true then (cofferref26_fits.l0 k1 l0 l1 (wrap64 (x5_1 + 1))) else (if (rdOf ByteArray.empty l0 x5_1).toList = (rdOf ByteArray.empty l1 x5_1).toList then (cofferref26_fits.l0 k1 l0 l1 (wrap64 (x5_1 + 1))) else (some false))) = some r := H
       have A7 := Aside0.mk A70
       clear A70
       by_cases c8 : t273 = true
       ·
        subst c8
        have H1 : (cofferref26_fits.l0 k1 l0 l1 (wrap64 (x5_1 + 1))) = some r := by rw [if_pos rfl] at H; exact H
        clear H
        have H := H1
        clear H1
        have H' := Aside0.mk H
        clear H
        have p272 : 0 ≤ (x5_1 : Int) := of_decide_eq_true (by qa_)
        have q272 : x5_1 < (l0.length : Int) := of_decide_eq_true (by qa_)
        obtain ⟨ad272, e272, hx272_0⟩ := Kd.at_string HR0.out x5_1 p272 q272
        cases e272
        replace p272 := eq_true p272
        replace q272 := eq_true q272
        go_wp2_with (first | (go_at_call 48; (with_reducible refine (cofferref26_great.calls (rdOf ByteArray.empty l0 x5_1) true _ A7.out).mono ?_); rintro e w' ⟨rfl, ⟨nd, rfl⟩⟩; (try first | exact ⟨rfl, _, World.drewN_drewN _ _ _⟩ | exact ⟨rfl, _, Eq.trans (World.drewN_drewN _ _ _) (congrArg (World.drewN _) (Nat.add_assoc _ _ _))⟩)))
        repeat (go_quiet (first | (go_at_call 48; (with_reducible refine (cofferref26_great.calls (rdOf ByteArray.empty l0 x5_1) true _ A7.out).mono ?_); rintro e w' ⟨rfl, ⟨nd, rfl⟩⟩; (try first | exact ⟨rfl, _, World.drewN_drewN _ _ _⟩ | exact ⟨rfl, _, Eq.trans (World.drewN_drewN _ _ _) (congrArg (World.drewN _) (Nat.add_assoc _ _ _))⟩))); try go_wp2_with (first | (go_at_call 48; (with_reducible refine (cofferref26_great.calls (rdOf ByteArray.empty l0 x5_1) true _ A7.out).mono ?_); rintro e w' ⟨rfl, ⟨nd, rfl⟩⟩; (try first | exact ⟨rfl, _, World.drewN_drewN _ _ _⟩ | exact ⟨rfl, _, Eq.trans (World.drewN_drewN _ _ _) (congrArg (World.drewN _) (Nat.add_assoc _ _ _))⟩))))
        go_roundg k1
        case measure => have := HK1.out; omega
        case rel => exact ⟨(wrap64 (x5_1 + 1)), (by qr_), H', ⟨by have := HK1.out; omega⟩, by qd_⟩
       ·
        replace c8 := Bool.eq_false_iff.mpr c8
        subst c8
        have H1 : (if (rdOf ByteArray.empty l0 x5_1).toList = (rdOf ByteArray.empty l1 x5_1).toList then (cofferref26_fits.l0 k1 l0 l1 (wrap64 (x5_1 + 1))) else (some false)) = some r := by rw [if_neg (show ¬ (false = true) by decide)] at H; exact H
        clear H
        have H := H1
        clear H1
        by_cases c9 : (rdOf ByteArray.empty l0 x5_1).toList = (rdOf ByteArray.empty l1 x5_1).toList
        ·
         rw [if_pos c9] at H
         have c9b0 : ((rdOf ByteArray.empty l0 x5_1).toList == (rdOf ByteArray.empty l1 x5_1).toList) = true := beq_iff_eq.mpr c9
         have c9b1 : ((rdOf ByteArray.empty l0 x5_1).toList != (rdOf ByteArray.empty l1 x5_1).toList) = false := bne_eq_false_iff_eq.mpr c9
         clear c9
         have H' := Aside0.mk H
         clear H
         have p272 : 0 ≤ (x5_1 : Int) := of_decide_eq_true (by qa_)
         have q272 : x5_1 < (l0.length : Int) := of_decide_eq_true (by qa_)
         obtain ⟨ad272, e272, hx272_0⟩ := Kd.at_string HR0.out x5_1 p272 q272
         cases e272
         replace p272 := eq_true p272
         replace q272 := eq_true q272
         go_wp2_with (first | (go_at_call 48; (with_reducible refine (cofferref26_great.calls (rdOf ByteArray.empty l0 x5_1) false _ A7.out).mono ?_); rintro e w' ⟨rfl, ⟨nd, rfl⟩⟩; (try first | exact ⟨rfl, _, World.drewN_drewN _ _ _⟩ | exact ⟨rfl, _, Eq.trans (World.drewN_drewN _ _ _) (congrArg (World.drewN _) (Nat.add_assoc _ _ _))⟩); have p274 : 0 ≤ (x5_1 : Int) := of_decide_eq_true (by qa_); have q274 : x5_1 < (l0.length : Int) := of_decide_eq_true (by qa_); obtain ⟨ad274, e274, hx274_0⟩ := Kd.at_string HR0.out x5_1 p274 q274; obtain rfl : ad272 = ad274 := (by injection e274); replace p274 := eq_true p274; replace q274 := eq_true q274; have p275 : 0 ≤ (x5_1 : Int) := of_decide_eq_true (by qa_); have q275 : x5_1 < (l1.length : Int) := of_decide_eq_true (by qa_); obtain ⟨ad275, e275, hx275_0⟩ := Kd.at_string HR1.out x5_1 p275 q275; cases e275; replace p275 := eq_true p275; replace q275 := eq_true q275))
         repeat (go_quiet (first | (go_at_call 48; (with_reducible refine (cofferref26_great.calls (rdOf ByteArray.empty l0 x5_1) false _ A7.out).mono ?_); rintro e w' ⟨rfl, ⟨nd, rfl⟩⟩; (try first | exact ⟨rfl, _, World.drewN_drewN _ _ _⟩ | exact ⟨rfl, _, Eq.trans (World.drewN_drewN _ _ _) (congrArg (World.drewN _) (Nat.add_assoc _ _ _))⟩); have p274 : 0 ≤ (x5_1 : Int) := of_decide_eq_true (by qa_); have q274 : x5_1 < (l0.length : Int) := of_decide_eq_true (by qa_); obtain ⟨ad274, e274, hx274_0⟩ := Kd.at_string HR0.out x5_1 p274 q274; obtain rfl : ad272 = ad274 := (by injection e274); replace p274 := eq_true p274; replace q274 := eq_true q274; have p275 : 0 ≤ (x5_1 : Int) := of_decide_eq_true (by qa_); have q275 : x5_1 < (l1.length : Int) := of_decide_eq_true (by qa_); obtain ⟨ad275, e275, hx275_0⟩ := Kd.at_string HR1.out x5_1 p275 q275; cases e275; replace p275 := eq_true p275; replace q275 := eq_true q275)); try go_wp2_with (first | (go_at_call 48; (with_reducible refine (cofferref26_great.calls (rdOf ByteArray.empty l0 x5_1) false _ A7.out).mono ?_); rintro e w' ⟨rfl, ⟨nd, rfl⟩⟩; (try first | exact ⟨rfl, _, World.drewN_drewN _ _ _⟩ | exact ⟨rfl, _, Eq.trans (World.drewN_drewN _ _ _) (congrArg (World.drewN _) (Nat.add_assoc _ _ _))⟩); have p274 : 0 ≤ (x5_1 : Int) := of_decide_eq_true (by qa_); have q274 : x5_1 < (l0.length : Int) := of_decide_eq_true (by qa_); obtain ⟨ad274, e274, hx274_0⟩ := Kd.at_string HR0.out x5_1 p274 q274; obtain rfl : ad272 = ad274 := (by injection e274); replace p274 := eq_true p274; replace q274 := eq_true q274; have p275 : 0 ≤ (x5_1 : Int) := of_decide_eq_true (by qa_); have q275 : x5_1 < (l1.length : Int) := of_decide_eq_true (by qa_); obtain ⟨ad275, e275, hx275_0⟩ := Kd.at_string HR1.out x5_1 p275 q275; cases e275; replace p275 := eq_true p275; replace q275 := eq_true q275)))
         go_roundg k1
         case measure => have := HK1.out; omega
         case rel => exact ⟨(wrap64 (x5_1 + 1)), (by qr_), H', ⟨by have := HK1.out; omega⟩, by qd_⟩
        ·
         rw [if_neg c9] at H
         have c9b0 : ((rdOf ByteArray.empty l0 x5_1).toList == (rdOf ByteArray.empty l1 x5_1).toList) = false := beq_eq_false_iff_ne.mpr c9
         have c9b1 : ((rdOf ByteArray.empty l0 x5_1).toList != (rdOf ByteArray.empty l1 x5_1).toList) = true := bne_iff_ne.mpr c9
         obtain rfl := Option.some.inj H
         have p272 : 0 ≤ (x5_1 : Int) := of_decide_eq_true (by qa_)
         have q272 : x5_1 < (l0.length : Int) := of_decide_eq_true (by qa_)
         obtain ⟨ad272, e272, hx272_0⟩ := Kd.at_string HR0.out x5_1 p272 q272
         cases e272
         replace p272 := eq_true p272
         replace q272 := eq_true q272
         go_wp2_with (first | (go_at_call 48; (with_reducible refine (cofferref26_great.calls (rdOf ByteArray.empty l0 x5_1) false _ A7.out).mono ?_); rintro e w' ⟨rfl, ⟨nd, rfl⟩⟩; (try first | exact ⟨rfl, _, World.drewN_drewN _ _ _⟩ | exact ⟨rfl, _, Eq.trans (World.drewN_drewN _ _ _) (congrArg (World.drewN _) (Nat.add_assoc _ _ _))⟩); have p274 : 0 ≤ (x5_1 : Int) := of_decide_eq_true (by qa_); have q274 : x5_1 < (l0.length : Int) := of_decide_eq_true (by qa_); obtain ⟨ad274, e274, hx274_0⟩ := Kd.at_string HR0.out x5_1 p274 q274; obtain rfl : ad272 = ad274 := (by injection e274); replace p274 := eq_true p274; replace q274 := eq_true q274; have p275 : 0 ≤ (x5_1 : Int) := of_decide_eq_true (by qa_); have q275 : x5_1 < (l1.length : Int) := of_decide_eq_true (by qa_); obtain ⟨ad275, e275, hx275_0⟩ := Kd.at_string HR1.out x5_1 p275 q275; cases e275; replace p275 := eq_true p275; replace q275 := eq_true q275))
         repeat (go_quiet (first | (go_at_call 48; (with_reducible refine (cofferref26_great.calls (rdOf ByteArray.empty l0 x5_1) false _ A7.out).mono ?_); rintro e w' ⟨rfl, ⟨nd, rfl⟩⟩; (try first | exact ⟨rfl, _, World.drewN_drewN _ _ _⟩ | exact ⟨rfl, _, Eq.trans (World.drewN_drewN _ _ _) (congrArg (World.drewN _) (Nat.add_assoc _ _ _))⟩); have p274 : 0 ≤ (x5_1 : Int) := of_decide_eq_true (by qa_); have q274 : x5_1 < (l0.length : Int) := of_decide_eq_true (by qa_); obtain ⟨ad274, e274, hx274_0⟩ := Kd.at_string HR0.out x5_1 p274 q274; obtain rfl : ad272 = ad274 := (by injection e274); replace p274 := eq_true p274; replace q274 := eq_true q274; have p275 : 0 ≤ (x5_1 : Int) := of_decide_eq_true (by qa_); have q275 : x5_1 < (l1.length : Int) := of_decide_eq_true (by qa_); obtain ⟨ad275, e275, hx275_0⟩ := Kd.at_string HR1.out x5_1 p275 q275; cases e275; replace p275 := eq_true p275; replace q275 := eq_true q275)); try go_wp2_with (first | (go_at_call 48; (with_reducible refine (cofferref26_great.calls (rdOf ByteArray.empty l0 x5_1) false _ A7.out).mono ?_); rintro e w' ⟨rfl, ⟨nd, rfl⟩⟩; (try first | exact ⟨rfl, _, World.drewN_drewN _ _ _⟩ | exact ⟨rfl, _, Eq.trans (World.drewN_drewN _ _ _) (congrArg (World.drewN _) (Nat.add_assoc _ _ _))⟩); have p274 : 0 ≤ (x5_1 : Int) := of_decide_eq_true (by qa_); have q274 : x5_1 < (l0.length : Int) := of_decide_eq_true (by qa_); obtain ⟨ad274, e274, hx274_0⟩ := Kd.at_string HR0.out x5_1 p274 q274; obtain rfl : ad272 = ad274 := (by injection e274); replace p274 := eq_true p274; replace q274 := eq_true q274; have p275 : 0 ≤ (x5_1 : Int) := of_decide_eq_true (by qa_); have q275 : x5_1 < (l1.length : Int) := of_decide_eq_true (by qa_); obtain ⟨ad275, e275, hx275_0⟩ := Kd.at_string HR1.out x5_1 p275 q275; cases e275; replace p275 := eq_true p275; replace q275 := eq_true q275)))
         go_ret
         exact ⟨by qr_, by qd_⟩
      ·
       rw [if_neg c6] at H
       exact absurd H (by simp)
     ·
      rw [if_neg c5] at H
      exact absurd H (by simp)
    ·
     rw [if_neg c4] at H
     have c4b0 : decide (x5_1 < (l1.length : Int)) = false := decide_eq_false c4
     clear c4
     obtain rfl := Option.some.inj H
     go_wp2
     repeat (go_quiet (fail); try go_wp2)
     go_ret
     exact ⟨by qr_, by qd_⟩
 ·
  rw [if_neg c3] at H
  have c3b0 : ((l0.length : Int) == (l1.length : Int)) = false := beq_eq_false_iff_ne.mpr c3
  have c3b1 : ((l0.length : Int) != (l1.length : Int)) = true := bne_iff_ne.mpr c3
  have c3b2 : (l0.length == l1.length) = false := by first | simpa using c3 | (simp at c3 ⊢; omega)
  obtain rfl := Option.some.inj H
  go_enter Tryd.func28, Tryd.ntmps28
  go_wp2
  repeat (go_quiet (fail); try go_wp2)
  go_ret
  exact ⟨by qr_, by qd_⟩
end Go.Proofs.YtnfimhdcpmakpaaDoor.S
