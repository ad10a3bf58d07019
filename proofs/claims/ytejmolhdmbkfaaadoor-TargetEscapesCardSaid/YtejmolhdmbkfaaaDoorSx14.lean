-- Written by wip/hook.py: the functions of this seat as plain Lean functions, and their walks.
import Derived.Test.YtejmolhdmbkfaaaDoorBeg21
import Derived.Test.YtejmolhdmbkfaaaDoorSx0
import Derived.Test.YtejmolhdmbkfaaaDoorSx4
namespace Go.Proofs.YtejmolhdmbkfaaaDoor.S
open Go.RowKit Go.Proofs.YtejmolhdmbkfaaaDoorW.PrintWords Go.Proofs.YtejmolhdmbkfaaaDoorW.PrintLast Go.Proofs.YtejmolhdmbkfaaaDoorW.PrintMore
attribute [local go_sem] max2_int min2_int max_two min_two max_three min_three max_four min_four   -- for this text's walks alone
set_option linter.unusedVariables false
set_option linter.unusedSimpArgs false

/-! ### cofferlaw21_TargetEscapes: function 6 -/
mutual
def cofferlaw21_TargetEscapes.j0 : Nat → List Int → Bool → Bool → Option (Bool)
  | 0, _, _, _ => none
  | k + 1, x0, x1, x20 => if x20 = true then (some true) else (if x1 = true then (cofferlaw21_TargetEscapes.j1 k x0 (⟨#[48, 49, 50, 51, 52, 53, 54, 55, 56, 57, 97, 98, 99, 100, 101, 102]⟩ : ByteArray)) else (cofferlaw21_TargetEscapes.j1 k x0 (⟨#[48, 49, 50, 51, 52, 53, 54, 55, 56, 57, 65, 66, 67, 68, 69, 70]⟩ : ByteArray)))
def cofferlaw21_TargetEscapes.j1 : Nat → List Int → ByteArray → Option (Bool)
  | 0, _, _ => none
  | k + 1, x0, x5 => cofferlaw21_TargetEscapes.l0 k x0 x5 (⟨#[47]⟩ : ByteArray) false 0
def cofferlaw21_TargetEscapes.l0 : Nat → List Int → ByteArray → ByteArray → Bool → Int → Option (Bool)
  | 0, _, _, _, _, _ => none
  | k + 1, x0, x5, x6, x7, x8 => if x8 < (x0.length : Int) then (if x6.size + 1 ≤ 9223372036854775807 then (if 0 ≤ x8 then (if 0 ≤ ((Int.tdiv (rd x0 x8) 16) % 256) then (if ((Int.tdiv (rd x0 x8) 16) % 256) ≤ ((((Int.tdiv (rd x0 x8) 16) % 256) + 1) % 256) then (if ((((Int.tdiv (rd x0 x8) 16) % 256) + 1) % 256) ≤ (x5.size : Int) then (if (x6 ++ (⟨#[37]⟩ : ByteArray)).size + (x5.extract (((Int.tdiv (rd x0 x8) 16) % 256) : Int).toNat (((((Int.tdiv (rd x0 x8) 16) % 256) + 1) % 256) : Int).toNat).size ≤ 9223372036854775807 then (if 0 ≤ (Int.tmod (rd x0 x8) 16) then (if (Int.tmod (rd x0 x8) 16) ≤ (((Int.tmod (rd x0 x8) 16) + 1) % 256) then (if (((Int.tmod (rd x0 x8) 16) + 1) % 256) ≤ (x5.size : Int) then (if ((x6 ++ (⟨#[37]⟩ : ByteArray)) ++ (x5.extract (((Int.tdiv (rd x0 x8) 16) % 256) : Int).toNat (((((Int.tdiv (rd x0 x8) 16) % 256) + 1) % 256) : Int).toNat)).size + (x5.extract ((Int.tmod (rd x0 x8) 16) : Int).toNat ((((Int.tmod (rd x0 x8) 16) + 1) % 256) : Int).toNat).size ≤ 9223372036854775807 then (if x7 = true then (cofferlaw21_TargetEscapes.l0 k x0 x5 (((x6 ++ (⟨#[37]⟩ : ByteArray)) ++ (x5.extract (((Int.tdiv (rd x0 x8) 16) % 256) : Int).toNat (((((Int.tdiv (rd x0 x8) 16) % 256) + 1) % 256) : Int).toNat)) ++ (x5.extract ((Int.tmod (rd x0 x8) 16) : Int).toNat ((((Int.tmod (rd x0 x8) 16) + 1) % 256) : Int).toNat)) true (wrap64 (x8 + 1))) else (cofferlaw21_TargetEscapes.l0 k x0 x5 (((x6 ++ (⟨#[37]⟩ : ByteArray)) ++ (x5.extract (((Int.tdiv (rd x0 x8) 16) % 256) : Int).toNat (((((Int.tdiv (rd x0 x8) 16) % 256) + 1) % 256) : Int).toNat)) ++ (x5.extract ((Int.tmod (rd x0 x8) 16) : Int).toNat ((((Int.tmod (rd x0 x8) 16) + 1) % 256) : Int).toNat)) ((rd x0 x8) == 0) (wrap64 (x8 + 1)))) else (none)) else (none)) else (none)) else (none)) else (none)) else (none)) else (none)) else (none)) else (none)) else (none)) else ((target_Parse.f k x6).bind fun bt275 => (if x7 = true then (if bt275.2.2 = 4 then (some ((bt275.1.length : Int) == 0)) else (some false)) else (if bt275.2.2 = 0 then (if (bt275.1.length : Int) = 1 then (if 0 < (bt275.1.length : Int) then (if (rdOf ByteArray.empty bt275.1 0).toList = (strOfNums x0).toList then (some ((bt275.2.1.length : Int) == 0)) else (some false)) else (none)) else (some false)) else (some false))))
end
def cofferlaw21_TargetEscapes.f (k : Nat) (l0 : List Int) (a1 : Bool) : Option (Bool) := (xBegun.f).bind fun t269 => (if t269 = true then (if (l0.length : Int) > 200 then (cofferlaw21_TargetEscapes.j0 k l0 a1 true) else (cofferlaw21_TargetEscapes.j0 k l0 a1 ((l0.length : Int) == 0))) else (some false))
theorem cofferlaw21_TargetEscapes.mono_l : ∀ k, (∀ y0 y1 y2, LeO (cofferlaw21_TargetEscapes.j0 k y0 y1 y2) (cofferlaw21_TargetEscapes.j0 (k + 1) y0 y1 y2)) ∧ (∀ y0 y1, LeO (cofferlaw21_TargetEscapes.j1 k y0 y1) (cofferlaw21_TargetEscapes.j1 (k + 1) y0 y1)) ∧ (∀ y0 y1 y2 y3 y4, LeO (cofferlaw21_TargetEscapes.l0 k y0 y1 y2 y3 y4) (cofferlaw21_TargetEscapes.l0 (k + 1) y0 y1 y2 y3 y4))
  | 0 => ⟨fun _ _ _ r h => by simp [cofferlaw21_TargetEscapes.j0] at h, fun _ _ r h => by simp [cofferlaw21_TargetEscapes.j1] at h, fun _ _ _ _ _ r h => by simp [cofferlaw21_TargetEscapes.l0] at h⟩
  | k + 1 => by
    obtain ⟨ih0, ih1, ih2⟩ := cofferlaw21_TargetEscapes.mono_l k
    refine ⟨?_, ?_, ?_⟩
    · intro y0 y1 y2
      unfold cofferlaw21_TargetEscapes.j0
      repeat' first
      | (with_reducible exact ih0 _ _ _)
      | (with_reducible exact ih1 _ _)
      | (with_reducible exact ih2 _ _ _ _ _)
      | (with_reducible exact target_Parse.mono _ _)
      | (with_reducible exact LeO.refl _)
      | (with_reducible exact LeO.none _)
      | (with_reducible refine LeO.ite ?_ ?_)
      | (with_reducible refine LeO.bind ?_ (fun _ => ?_))
      | exact ih0 _ _ _
      | exact ih1 _ _
      | exact ih2 _ _ _ _ _
      | exact target_Parse.mono _ _
      | exact LeO.none _
      | refine LeO.ite ?_ ?_
      | refine LeO.bind ?_ (fun _ => ?_)
    · intro y0 y1
      unfold cofferlaw21_TargetEscapes.j1
      repeat' first
      | (with_reducible exact ih0 _ _ _)
      | (with_reducible exact ih1 _ _)
      | (with_reducible exact ih2 _ _ _ _ _)
      | (with_reducible exact target_Parse.mono _ _)
      | (with_reducible exact LeO.refl _)
      | (with_reducible exact LeO.none _)
      | (with_reducible refine LeO.ite ?_ ?_)
      | (with_reducible refine LeO.bind ?_ (fun _ => ?_))
      | exact ih0 _ _ _
      | exact ih1 _ _
      | exact ih2 _ _ _ _ _
      | exact target_Parse.mono _ _
      | exact LeO.none _
      | refine LeO.ite ?_ ?_
      | refine LeO.bind ?_ (fun _ => ?_)
    · intro y0 y1 y2 y3 y4
      unfold cofferlaw21_TargetEscapes.l0
      repeat' first
      | (with_reducible exact ih0 _ _ _)
      | (with_reducible exact ih1 _ _)
      | (with_reducible exact ih2 _ _ _ _ _)
      | (with_reducible exact target_Parse.mono _ _)
      | (with_reducible exact LeO.refl _)
      | (with_reducible exact LeO.none _)
      | (with_reducible refine LeO.ite ?_ ?_)
      | (with_reducible refine LeO.bind ?_ (fun _ => ?_))
      | exact ih0 _ _ _
      | exact ih1 _ _
      | exact ih2 _ _ _ _ _
      | exact target_Parse.mono _ _
      | exact LeO.none _
      | refine LeO.ite ?_ ?_
      | refine LeO.bind ?_ (fun _ => ?_)
theorem cofferlaw21_TargetEscapes.mono : ∀ a0 a1 k, LeO (cofferlaw21_TargetEscapes.f k a0 a1) (cofferlaw21_TargetEscapes.f (k + 1) a0 a1) := by
  intro a0 a1 k
  obtain ⟨ih0, ih1, ih2⟩ := cofferlaw21_TargetEscapes.mono_l k
  unfold cofferlaw21_TargetEscapes.f
  repeat' first
      | (with_reducible exact ih0 _ _ _)
      | (with_reducible exact ih1 _ _)
      | (with_reducible exact ih2 _ _ _ _ _)
      | (with_reducible exact target_Parse.mono _ _)
      | (with_reducible exact LeO.refl _)
      | (with_reducible exact LeO.none _)
      | (with_reducible refine LeO.ite ?_ ?_)
      | (with_reducible refine LeO.bind ?_ (fun _ => ?_))
      | exact ih0 _ _ _
      | exact ih1 _ _
      | exact ih2 _ _ _ _ _
      | exact target_Parse.mono _ _
      | exact LeO.none _
      | refine LeO.ite ?_ ?_
      | refine LeO.bind ?_ (fun _ => ?_)
set_option maxHeartbeats 8000000 in
set_option maxRecDepth 100000 in
theorem cofferlaw21_TargetEscapes.calls (k : Nat) (A0 : Option Addr) (c0 : Nat) (l0 : List Int) (a1 : Bool) (r : Bool) (w : World) (hr0 : Kd.C (Kd.int .u8) w A0 l0.length l0) (hc0 : l0.length ≤ c0) (h : cofferlaw21_TargetEscapes.f k l0 a1 = some r) :
    Calls Tryd.prog 6 #[.slice A0 l0.length c0, .bool a1] w fun e w' => e = .returned (.bool r) ∧ Below w.heap.size w w' := by
  have hu26 := Tryd.underlying26
  have HR0 := Aside0.mk hr0
  have HC0 := Aside0.mk hc0
  clear hr0 hc0
  have HB := Aside0.mk (Below.refl w.heap.size w)
  have H : ((xBegun.f).bind fun t269 => (if t269 = true then (if (l0.length : Int) > 200 then (cofferlaw21_TargetEscapes.j0 k l0 a1 true) else (cofferlaw21_TargetEscapes.j0 k l0 a1 ((l0.length : Int) == 0))) else (some false))) = some r := h
  clear h
  replace H := Option.bind_eq_some_iff.mp H
  obtain ⟨t269, A30, H⟩ := H
  replace H : (if t269 = true then (if (l0.length : Int) > 200 then (cofferlaw21_TargetEscapes.j0 k l0 a1 true) else (cofferlaw21_TargetEscapes.j0 k l0 a1 ((l0.length : Int) == 0))) else (some false)) = some r := H
  have A3 := Aside0.mk A30
  clear A30
  by_cases c4 : t269 = true
  · subst c4
    have H1 : (if (l0.length : Int) > 200 then (cofferlaw21_TargetEscapes.j0 k l0 a1 true) else (cofferlaw21_TargetEscapes.j0 k l0 a1 ((l0.length : Int) == 0))) = some r := by rw [if_pos rfl] at H; exact H
    clear H
    have H := H1
    clear H1
    have HC5 := Aside0.mk H
    clear H
    go_enter Tryd.func6, Tryd.ntmps6
    go_upto_region 3 with (first | (go_at_call 8; (with_reducible refine (xBegun.calls  true _ A3.out).mono ?_); rintro e w6 ⟨rfl, hb⟩; have n0_ := Aside0.mk (below_step (by qh_) hb); clear HB; have HB := n0_; clear n0_; (try clear hb); (try clear hb2); (try clear hk); (try clear hi)))
    repeat (go_quiet (first | (go_at_call 8; (with_reducible refine (xBegun.calls  true _ A3.out).mono ?_); rintro e w6 ⟨rfl, hb⟩; have n0_ := Aside0.mk (below_step (by qh_) hb); clear HB; have HB := n0_; clear n0_; (try clear hb); (try clear hb2); (try clear hk); (try clear hi))); go_upto_region 3 with (first | (go_at_call 8; (with_reducible refine (xBegun.calls  true _ A3.out).mono ?_); rintro e w6 ⟨rfl, hb⟩; have n0_ := Aside0.mk (below_step (by qh_) hb); clear HB; have HB := n0_; clear n0_; (try clear hb); (try clear hb2); (try clear hk); (try clear hi))))
    (try simp only [Act.put, List.setIfInBounds_toArray, List.set_cons_zero, List.set_cons_succ])
    go_cut [20] (fun v20 wc => ∃ (kq : Nat) (x20_4 : Bool), v20 = .bool x20_4 ∧ Aside0 (cofferlaw21_TargetEscapes.j0 kq l0 a1 x20_4 = some r) ∧ Aside0 (kq ≤ k) ∧ Aside0 (Below w.heap.size w wc))
    case first =>
      have H := HC5.out
      clear HC5
      by_cases c7 : (l0.length : Int) > 200
      · rw [if_pos c7] at H
        have c7b0 : decide (200 < (l0.length : Int)) = true := decide_eq_true c7
        have c7b1 : decide (200 < l0.length) = true := decide_eq_true (by omega)
        clear c7
        (first | rw [c7b0] | (simp only [i64_w, i32_w]; rw [c7b0]) | skip)
        have H' := Aside0.mk H
        clear H
        go_wp2
        repeat (go_quiet (fail); try go_wp2)
        go_meet
        case rel => exact ⟨_, (true), (by qr_), H', ⟨by first | omega | exact Nat.le_refl _⟩, ⟨by qh_⟩⟩
      · rw [if_neg c7] at H
        have c7b0 : decide (200 < (l0.length : Int)) = false := decide_eq_false c7
        have c7b1 : decide (200 < l0.length) = false := decide_eq_false (by omega)
        clear c7
        (first | rw [c7b0] | (simp only [i64_w, i32_w]; rw [c7b0]) | skip)
        have H' := Aside0.mk H
        clear H
        go_wp2
        repeat (go_quiet (fail); try go_wp2)
        go_meet
        case rel => exact ⟨_, (((l0.length : Int) == 0)), (by qr_), H', ⟨by first | omega | exact Nat.le_refl _⟩, ⟨by qh_⟩⟩
    case rest =>
      clear HC5
      try clear p2
      try clear c4
      try clear c6
      try clear c7
      try clear c7b0
      try clear c7b1
      obtain ⟨kq, x20_4, rfl, HA, HJ4, HB⟩ := hcut
      cases kq with
      | zero => exact absurd HA.out (by simp [cofferlaw21_TargetEscapes.j0])
      | succ kj4 =>
        have H := HA.out
        clear HA
        simp only [cofferlaw21_TargetEscapes.j0] at H
        by_cases c8 : x20_4 = true
        · subst c8
          have H1 : (some true) = some r := by rw [if_pos rfl] at H; exact H
          clear H
          have H := H1
          clear H1
          obtain rfl := Option.some.inj H
          go_wp2
          repeat (go_quiet (fail); try go_wp2)
          go_ret
          exact ⟨by first | rfl | (simp [errW_none, errW_some] <;> rfl) | (simp [*, errW_none, errW_some] <;> rfl), by qh_⟩
        · replace c8 := Bool.eq_false_iff.mpr c8
          subst c8
          have H1 : (if a1 = true then (cofferlaw21_TargetEscapes.j1 kj4 l0 (⟨#[48, 49, 50, 51, 52, 53, 54, 55, 56, 57, 97, 98, 99, 100, 101, 102]⟩ : ByteArray)) else (cofferlaw21_TargetEscapes.j1 kj4 l0 (⟨#[48, 49, 50, 51, 52, 53, 54, 55, 56, 57, 65, 66, 67, 68, 69, 70]⟩ : ByteArray))) = some r := by rw [if_neg (show ¬ (false = true) by decide)] at H; exact H
          clear H
          have H := H1
          clear H1
          have HC9 := Aside0.mk H
          clear H
          go_upto_if 21 with (fail)
          repeat (go_quiet (fail); go_upto_if 21 with (fail))
          go_cut [5] (fun v5 wc => ∃ (kq : Nat) (x5_8 : ByteArray), v5 = .string x5_8 ∧ Aside0 (cofferlaw21_TargetEscapes.j1 kq l0 x5_8 = some r) ∧ Aside0 (kq ≤ kj4) ∧ Aside0 (Below w.heap.size w wc))
          case first =>
            have H := HC9.out
            clear HC9
            by_cases c10 : a1 = true
            · subst c10
              have H1 : (cofferlaw21_TargetEscapes.j1 kj4 l0 (⟨#[48, 49, 50, 51, 52, 53, 54, 55, 56, 57, 97, 98, 99, 100, 101, 102]⟩ : ByteArray)) = some r := by rw [if_pos rfl] at H; exact H
              clear H
              have H := H1
              clear H1
              have H' := Aside0.mk H
              clear H
              go_wp2
              repeat (go_quiet (fail); try go_wp2)
              go_meet
              case rel => exact ⟨_, ((⟨#[48, 49, 50, 51, 52, 53, 54, 55, 56, 57, 97, 98, 99, 100, 101, 102]⟩ : ByteArray)), (by qr_), H', ⟨by have := HJ4.out; first | omega | exact Nat.le_refl _⟩, ⟨by qh_⟩⟩
            · replace c10 := Bool.eq_false_iff.mpr c10
              subst c10
              have H1 : (cofferlaw21_TargetEscapes.j1 kj4 l0 (⟨#[48, 49, 50, 51, 52, 53, 54, 55, 56, 57, 65, 66, 67, 68, 69, 70]⟩ : ByteArray)) = some r := by rw [if_neg (show ¬ (false = true) by decide)] at H; exact H
              clear H
              have H := H1
              clear H1
              have H' := Aside0.mk H
              clear H
              go_wp2
              repeat (go_quiet (fail); try go_wp2)
              go_meet
              case rel => exact ⟨_, ((⟨#[48, 49, 50, 51, 52, 53, 54, 55, 56, 57, 65, 66, 67, 68, 69, 70]⟩ : ByteArray)), (by qr_), H', ⟨by have := HJ4.out; first | omega | exact Nat.le_refl _⟩, ⟨by qh_⟩⟩
          case rest =>
            clear HC9
            try clear c1
            try clear p2
            try clear c4
            try clear c6
            try clear c7
            try clear c7b0
            try clear c7b1
            try clear c8
            try clear c10
            try clear p2
            obtain ⟨kq, x5_8, rfl, HA, HJ8, HB⟩ := hcut
            cases kq with
            | zero => exact absurd HA.out (by simp [cofferlaw21_TargetEscapes.j1])
            | succ kj8 =>
              have H := HA.out
              clear HA
              simp only [cofferlaw21_TargetEscapes.j1] at H
              have H' := Aside0.mk H
              clear H
              go_wp2
              repeat (go_quiet (fail); try go_wp2)
              go_loopg [6, 7, 8] kj8 (fun kq v6 v7 v8 w' => ∃ (x6_3 : ByteArray) (x7_3 : Bool) (x8_3 : Int), v6 = .string x6_3 ∧ v7 = .bool x7_3 ∧ v8 = .int .i64 x8_3 ∧ Aside0 (cofferlaw21_TargetEscapes.l0 kq l0 x5_8 x6_3 x7_3 x8_3 = some r) ∧ Aside0 (kq ≤ kj8) ∧ Aside0 (Below w.heap.size w w'))
              case atStart => exact ⟨((⟨#[47]⟩ : ByteArray)), (false), (0), (by qr_), (by qr_), (by qr_), H', ⟨Nat.le_refl _⟩, ⟨by qh_⟩⟩
              case round =>
                clear H'
                try clear c1
                try clear p2
                try clear c4
                try clear c6
                try clear c7
                try clear c7b0
                try clear c7b1
                try clear c8
                try clear c10
                try clear p2
                obtain ⟨x6_3, x7_3, x8_3, rfl, rfl, rfl, HA, HK3, HB⟩ := hrel
                cases gk with
                | zero => exact absurd HA.out (by simp [cofferlaw21_TargetEscapes.l0])
                | succ k3 =>
                  have H := HA.out
                  clear HA
                  simp only [cofferlaw21_TargetEscapes.l0] at H
                  by_cases c11 : x8_3 < (l0.length : Int)
                  · rw [if_pos c11] at H
                    have c11b0 : decide (x8_3 < (l0.length : Int)) = true := decide_eq_true c11
                    clear c11
                    by_cases c12 : x6_3.size + 1 ≤ 9223372036854775807
                    · rw [if_pos c12] at H
                      have c12b0 := eq_true c12
                      have c12b1 : decide (x6_3.size + 1 ≤ 9223372036854775807) = true := decide_eq_true c12
                      try have c12b2 : (9223372036854775807 < x6_3.size + 1) = False := eq_false (Nat.not_lt.2 c12)
                      by_cases c13 : 0 ≤ x8_3
                      · rw [if_pos c13] at H
                        have c13b0 : decide (0 ≤ x8_3) = true := decide_eq_true c13
                        clear c13
                        obtain ⟨ji14, hji14⟩ : ∃ j_ : Int, ((Int.tdiv (rd l0 x8_3) 16) % 256) = j_ := ⟨_, rfl⟩
                        replace H : (if 0 ≤ (ji14) then (if (ji14) ≤ (((ji14) + 1) % 256) then (if (((ji14) + 1) % 256) ≤ (x5_8.size : Int) then (if (x6_3 ++ (⟨#[37]⟩ : ByteArray)).size + (x5_8.extract ((ji14) : Int).toNat ((((ji14) + 1) % 256) : Int).toNat).size ≤ 9223372036854775807 then (if 0 ≤ (Int.tmod (rd l0 x8_3) 16) then (if (Int.tmod (rd l0 x8_3) 16) ≤ (((Int.tmod (rd l0 x8_3) 16) + 1) % 256) then (if (((Int.tmod (rd l0 x8_3) 16) + 1) % 256) ≤ (x5_8.size : Int) then (if ((x6_3 ++ (⟨#[37]⟩ : ByteArray)) ++ (x5_8.extract ((ji14) : Int).toNat ((((ji14) + 1) % 256) : Int).toNat)).size + (x5_8.extract ((Int.tmod (rd l0 x8_3) 16) : Int).toNat ((((Int.tmod (rd l0 x8_3) 16) + 1) % 256) : Int).toNat).size ≤ 9223372036854775807 then (if x7_3 = true then (cofferlaw21_TargetEscapes.l0 k3 l0 x5_8 (((x6_3 ++ (⟨#[37]⟩ : ByteArray)) ++ (x5_8.extract ((ji14) : Int).toNat ((((ji14) + 1) % 256) : Int).toNat)) ++ (x5_8.extract ((Int.tmod (rd l0 x8_3) 16) : Int).toNat ((((Int.tmod (rd l0 x8_3) 16) + 1) % 256) : Int).toNat)) true (wrap64 (x8_3 + 1))) else (cofferlaw21_TargetEscapes.l0 k3 l0 x5_8 (((x6_3 ++ (⟨#[37]⟩ : ByteArray)) ++ (x5_8.extract ((ji14) : Int).toNat ((((ji14) + 1) % 256) : Int).toNat)) ++ (x5_8.extract ((Int.tmod (rd l0 x8_3) 16) : Int).toNat ((((Int.tmod (rd l0 x8_3) 16) + 1) % 256) : Int).toNat)) ((rd l0 x8_3) == 0) (wrap64 (x8_3 + 1)))) else (none)) else (none)) else (none)) else (none)) else (none)) else (none)) else (none)) else (none)) = some r := by first | (rw [hji14] at H; exact H) | (simp only [hji14] at H ⊢; exact H)
                        by_cases c15 : 0 ≤ (ji14)
                        · rw [if_pos c15] at H
                          have c15b0 := eq_true c15
                          have c15b1 : decide (0 ≤ (ji14)) = true := decide_eq_true c15
                          clear c15
                          by_cases c16 : (ji14) ≤ (((ji14) + 1) % 256)
                          · rw [if_pos c16] at H
                            have c16b0 := eq_true c16
                            have c16b1 : decide ((ji14) ≤ (((ji14) + 1) % 256)) = true := decide_eq_true c16
                            by_cases c17 : (((ji14) + 1) % 256) ≤ (x5_8.size : Int)
                            · rw [if_pos c17] at H
                              have c17b0 := eq_true c17
                              have c17b1 : decide ((((ji14) + 1) % 256) ≤ (x5_8.size : Int)) = true := decide_eq_true c17
                              by_cases c18 : (x6_3 ++ (⟨#[37]⟩ : ByteArray)).size + (x5_8.extract ((ji14) : Int).toNat ((((ji14) + 1) % 256) : Int).toNat).size ≤ 9223372036854775807
                              · rw [if_pos c18] at H
                                have c18b0 := eq_true c18
                                have c18b1 : decide ((x6_3 ++ (⟨#[37]⟩ : ByteArray)).size + (x5_8.extract ((ji14) : Int).toNat ((((ji14) + 1) % 256) : Int).toNat).size ≤ 9223372036854775807) = true := decide_eq_true c18
                                try have c18b2 : (9223372036854775807 < (x6_3 ++ (⟨#[37]⟩ : ByteArray)).size + (x5_8.extract ((ji14) : Int).toNat ((((ji14) + 1) % 256) : Int).toNat).size) = False := eq_false (Nat.not_lt.2 c18)
                                obtain ⟨ji19, hji19⟩ : ∃ j_ : Int, (Int.tmod (rd l0 x8_3) 16) = j_ := ⟨_, rfl⟩
                                replace H : (if 0 ≤ (ji19) then (if (ji19) ≤ (((ji19) + 1) % 256) then (if (((ji19) + 1) % 256) ≤ (x5_8.size : Int) then (if ((x6_3 ++ (⟨#[37]⟩ : ByteArray)) ++ (x5_8.extract ((ji14) : Int).toNat ((((ji14) + 1) % 256) : Int).toNat)).size + (x5_8.extract ((ji19) : Int).toNat ((((ji19) + 1) % 256) : Int).toNat).size ≤ 9223372036854775807 then (if x7_3 = true then (cofferlaw21_TargetEscapes.l0 k3 l0 x5_8 (((x6_3 ++ (⟨#[37]⟩ : ByteArray)) ++ (x5_8.extract ((ji14) : Int).toNat ((((ji14) + 1) % 256) : Int).toNat)) ++ (x5_8.extract ((ji19) : Int).toNat ((((ji19) + 1) % 256) : Int).toNat)) true (wrap64 (x8_3 + 1))) else (cofferlaw21_TargetEscapes.l0 k3 l0 x5_8 (((x6_3 ++ (⟨#[37]⟩ : ByteArray)) ++ (x5_8.extract ((ji14) : Int).toNat ((((ji14) + 1) % 256) : Int).toNat)) ++ (x5_8.extract ((ji19) : Int).toNat ((((ji19) + 1) % 256) : Int).toNat)) ((rd l0 x8_3) == 0) (wrap64 (x8_3 + 1)))) else (none)) else (none)) else (none)) else (none)) = some r := by first | (rw [hji19] at H; exact H) | (simp only [hji19] at H ⊢; exact H)
                                by_cases c20 : 0 ≤ (ji19)
                                · rw [if_pos c20] at H
                                  have c20b0 := eq_true c20
                                  have c20b1 : decide (0 ≤ (ji19)) = true := decide_eq_true c20
                                  clear c20
                                  by_cases c21 : (ji19) ≤ (((ji19) + 1) % 256)
                                  · rw [if_pos c21] at H
                                    have c21b0 := eq_true c21
                                    have c21b1 : decide ((ji19) ≤ (((ji19) + 1) % 256)) = true := decide_eq_true c21
                                    by_cases c22 : (((ji19) + 1) % 256) ≤ (x5_8.size : Int)
                                    · rw [if_pos c22] at H
                                      have c22b0 := eq_true c22
                                      have c22b1 : decide ((((ji19) + 1) % 256) ≤ (x5_8.size : Int)) = true := decide_eq_true c22
                                      by_cases c23 : ((x6_3 ++ (⟨#[37]⟩ : ByteArray)) ++ (x5_8.extract ((ji14) : Int).toNat ((((ji14) + 1) % 256) : Int).toNat)).size + (x5_8.extract ((ji19) : Int).toNat ((((ji19) + 1) % 256) : Int).toNat).size ≤ 9223372036854775807
                                      · rw [if_pos c23] at H
                                        have c23b0 := eq_true c23
                                        have c23b1 : decide (((x6_3 ++ (⟨#[37]⟩ : ByteArray)) ++ (x5_8.extract ((ji14) : Int).toNat ((((ji14) + 1) % 256) : Int).toNat)).size + (x5_8.extract ((ji19) : Int).toNat ((((ji19) + 1) % 256) : Int).toNat).size ≤ 9223372036854775807) = true := decide_eq_true c23
                                        try have c23b2 : (9223372036854775807 < ((x6_3 ++ (⟨#[37]⟩ : ByteArray)) ++ (x5_8.extract ((ji14) : Int).toNat ((((ji14) + 1) % 256) : Int).toNat)).size + (x5_8.extract ((ji19) : Int).toNat ((((ji19) + 1) % 256) : Int).toNat).size) = False := eq_false (Nat.not_lt.2 c23)
                                        by_cases c24 : x7_3 = true
                                        · subst c24
                                          have H1 : (cofferlaw21_TargetEscapes.l0 k3 l0 x5_8 (((x6_3 ++ (⟨#[37]⟩ : ByteArray)) ++ (x5_8.extract ((ji14) : Int).toNat ((((ji14) + 1) % 256) : Int).toNat)) ++ (x5_8.extract ((ji19) : Int).toNat ((((ji19) + 1) % 256) : Int).toNat)) true (wrap64 (x8_3 + 1))) = some r := by rw [if_pos rfl] at H; exact H
                                          clear H
                                          have H := H1
                                          clear H1
                                          have H' := Aside0.mk H
                                          clear H
                                          have p270 : 0 ≤ (x8_3 : Int) := of_decide_eq_true (by qa_)
                                          have q270 : x8_3 < (l0.length : Int) := of_decide_eq_true (by qa_)
                                          obtain ⟨ad270, e270, hx270_0⟩ := Kd.at_int HR0.out x8_3 p270 q270
                                          cases e270
                                          replace hx270_0 := (HB.out.cell (World.block_lt_of_cell? w _ hx270_0)).trans hx270_0
                                          replace p270 := eq_true p270
                                          replace q270 := eq_true q270
                                          have p271 : 0 ≤ (x8_3 : Int) := of_decide_eq_true (by qa_)
                                          have q271 : x8_3 < (l0.length : Int) := of_decide_eq_true (by qa_)
                                          obtain ⟨ad271, e271, hx271_0⟩ := Kd.at_int HR0.out x8_3 p271 q271
                                          obtain rfl : ad270 = ad271 := (by injection e271)
                                          replace hx271_0 := (HB.out.cell (World.block_lt_of_cell? w _ hx271_0)).trans hx271_0
                                          replace p271 := eq_true p271
                                          replace q271 := eq_true q271
                                          have p272 : 0 ≤ (x8_3 : Int) := of_decide_eq_true (by qa_)
                                          have q272 : x8_3 < (l0.length : Int) := of_decide_eq_true (by qa_)
                                          obtain ⟨ad272, e272, hx272_0⟩ := Kd.at_int HR0.out x8_3 p272 q272
                                          obtain rfl : ad270 = ad272 := (by injection e272)
                                          replace hx272_0 := (HB.out.cell (World.block_lt_of_cell? w _ hx272_0)).trans hx272_0
                                          replace p272 := eq_true p272
                                          replace q272 := eq_true q272
                                          have p273 : 0 ≤ (x8_3 : Int) := of_decide_eq_true (by qa_)
                                          have q273 : x8_3 < (l0.length : Int) := of_decide_eq_true (by qa_)
                                          obtain ⟨ad273, e273, hx273_0⟩ := Kd.at_int HR0.out x8_3 p273 q273
                                          obtain rfl : ad270 = ad273 := (by injection e273)
                                          replace hx273_0 := (HB.out.cell (World.block_lt_of_cell? w _ hx273_0)).trans hx273_0
                                          replace p273 := eq_true p273
                                          replace q273 := eq_true q273
                                          have zw1 : IntKind.u8.wrap ((rd l0 x8_3).tdiv 16) = ji14 := by rw [IntKind.wrap_u8]; exact hji14
                                          have zw2 : IntKind.u8.wrap (ji14 + 1) = (ji14 + 1) % 256 := by rw [IntKind.wrap_u8]
                                          have zw3 : (rd l0 x8_3).tmod 16 = ji19 := hji19
                                          have zj : 0 ≤ ji19 ∧ ji19 < 16 := ⟨of_decide_eq_true c20b1, hji19 ▸ Int.tmod_lt_of_pos _ (by decide)⟩
                                          have zw5 : IntKind.u8.wrap ji19 = ji19 := by rw [IntKind.wrap_u8]; omega
                                          clear zj
                                          have zw4 : IntKind.u8.wrap (ji19 + 1) = (ji19 + 1) % 256 := by rw [IntKind.wrap_u8]
                                          obtain ⟨pc1, hpc1⟩ : ∃ p, x5_8.extract ji14.toNat ((ji14 + 1) % 256).toNat = p := ⟨_, rfl⟩
                                          obtain ⟨pc2, hpc2⟩ : ∃ p, x5_8.extract ji19.toNat ((ji19 + 1) % 256).toNat = p := ⟨_, rfl⟩
                                          have zc1 : (9223372036854775807 < x6_3.size + 1 + pc1.size) = False := by have h_ := c18b2; rw [hpc1, ByteArray.size_append] at h_; exact h_
                                          have zc2 : (9223372036854775807 < x6_3.size + 1 + pc1.size + pc2.size) = False := by have h_ := c23b2; rw [hpc1, hpc2, ByteArray.size_append, ByteArray.size_append] at h_; exact h_
                                          rw [hpc1, hpc2] at H'
                                          clear c18b0 c18b1 c18b2 c23b0 c23b1 c23b2
                                          go_wp2
                                          repeat (go_quiet (fail); try go_wp2)
                                          go_roundg k3
                                          case measure => have := HJ4.out; have := HJ8.out; have := HK3.out; omega
                                          case rel => exact ⟨(((x6_3 ++ (⟨#[37]⟩ : ByteArray)) ++ pc1) ++ pc2), (true), (wrap64 (x8_3 + 1)), (by first | rfl | (simp; done) | (simp only [zw3] <;> (first | rfl | simp)) | (simp [*]; done)), (by qr_), (by qr_), H', ⟨by have := HJ4.out; have := HJ8.out; have := HK3.out; omega⟩, ⟨by qh_⟩⟩
                                        · replace c24 := Bool.eq_false_iff.mpr c24
                                          subst c24
                                          have H1 : (cofferlaw21_TargetEscapes.l0 k3 l0 x5_8 (((x6_3 ++ (⟨#[37]⟩ : ByteArray)) ++ (x5_8.extract ((ji14) : Int).toNat ((((ji14) + 1) % 256) : Int).toNat)) ++ (x5_8.extract ((ji19) : Int).toNat ((((ji19) + 1) % 256) : Int).toNat)) ((rd l0 x8_3) == 0) (wrap64 (x8_3 + 1))) = some r := by rw [if_neg (show ¬ (false = true) by decide)] at H; exact H
                                          clear H
                                          have H := H1
                                          clear H1
                                          have H' := Aside0.mk H
                                          clear H
                                          have p270 : 0 ≤ (x8_3 : Int) := of_decide_eq_true (by qa_)
                                          have q270 : x8_3 < (l0.length : Int) := of_decide_eq_true (by qa_)
                                          obtain ⟨ad270, e270, hx270_0⟩ := Kd.at_int HR0.out x8_3 p270 q270
                                          cases e270
                                          replace hx270_0 := (HB.out.cell (World.block_lt_of_cell? w _ hx270_0)).trans hx270_0
                                          replace p270 := eq_true p270
                                          replace q270 := eq_true q270
                                          have p271 : 0 ≤ (x8_3 : Int) := of_decide_eq_true (by qa_)
                                          have q271 : x8_3 < (l0.length : Int) := of_decide_eq_true (by qa_)
                                          obtain ⟨ad271, e271, hx271_0⟩ := Kd.at_int HR0.out x8_3 p271 q271
                                          obtain rfl : ad270 = ad271 := (by injection e271)
                                          replace hx271_0 := (HB.out.cell (World.block_lt_of_cell? w _ hx271_0)).trans hx271_0
                                          replace p271 := eq_true p271
                                          replace q271 := eq_true q271
                                          have p272 : 0 ≤ (x8_3 : Int) := of_decide_eq_true (by qa_)
                                          have q272 : x8_3 < (l0.length : Int) := of_decide_eq_true (by qa_)
                                          obtain ⟨ad272, e272, hx272_0⟩ := Kd.at_int HR0.out x8_3 p272 q272
                                          obtain rfl : ad270 = ad272 := (by injection e272)
                                          replace hx272_0 := (HB.out.cell (World.block_lt_of_cell? w _ hx272_0)).trans hx272_0
                                          replace p272 := eq_true p272
                                          replace q272 := eq_true q272
                                          have p273 : 0 ≤ (x8_3 : Int) := of_decide_eq_true (by qa_)
                                          have q273 : x8_3 < (l0.length : Int) := of_decide_eq_true (by qa_)
                                          obtain ⟨ad273, e273, hx273_0⟩ := Kd.at_int HR0.out x8_3 p273 q273
                                          obtain rfl : ad270 = ad273 := (by injection e273)
                                          replace hx273_0 := (HB.out.cell (World.block_lt_of_cell? w _ hx273_0)).trans hx273_0
                                          replace p273 := eq_true p273
                                          replace q273 := eq_true q273
                                          have p274 : 0 ≤ (x8_3 : Int) := of_decide_eq_true (by qa_)
                                          have q274 : x8_3 < (l0.length : Int) := of_decide_eq_true (by qa_)
                                          obtain ⟨ad274, e274, hx274_0⟩ := Kd.at_int HR0.out x8_3 p274 q274
                                          obtain rfl : ad270 = ad274 := (by injection e274)
                                          replace hx274_0 := (HB.out.cell (World.block_lt_of_cell? w _ hx274_0)).trans hx274_0
                                          replace p274 := eq_true p274
                                          replace q274 := eq_true q274
                                          have zw1 : IntKind.u8.wrap ((rd l0 x8_3).tdiv 16) = ji14 := by rw [IntKind.wrap_u8]; exact hji14
                                          have zw2 : IntKind.u8.wrap (ji14 + 1) = (ji14 + 1) % 256 := by rw [IntKind.wrap_u8]
                                          have zw3 : (rd l0 x8_3).tmod 16 = ji19 := hji19
                                          have zj : 0 ≤ ji19 ∧ ji19 < 16 := ⟨of_decide_eq_true c20b1, hji19 ▸ Int.tmod_lt_of_pos _ (by decide)⟩
                                          have zw5 : IntKind.u8.wrap ji19 = ji19 := by rw [IntKind.wrap_u8]; omega
                                          clear zj
                                          have zw4 : IntKind.u8.wrap (ji19 + 1) = (ji19 + 1) % 256 := by rw [IntKind.wrap_u8]
                                          obtain ⟨pc1, hpc1⟩ : ∃ p, x5_8.extract ji14.toNat ((ji14 + 1) % 256).toNat = p := ⟨_, rfl⟩
                                          obtain ⟨pc2, hpc2⟩ : ∃ p, x5_8.extract ji19.toNat ((ji19 + 1) % 256).toNat = p := ⟨_, rfl⟩
                                          have zc1 : (9223372036854775807 < x6_3.size + 1 + pc1.size) = False := by have h_ := c18b2; rw [hpc1, ByteArray.size_append] at h_; exact h_
                                          have zc2 : (9223372036854775807 < x6_3.size + 1 + pc1.size + pc2.size) = False := by have h_ := c23b2; rw [hpc1, hpc2, ByteArray.size_append, ByteArray.size_append] at h_; exact h_
                                          rw [hpc1, hpc2] at H'
                                          clear c18b0 c18b1 c18b2 c23b0 c23b1 c23b2
                                          go_wp2
                                          repeat (go_quiet (fail); try go_wp2)
                                          go_roundg k3
                                          case measure => have := HJ4.out; have := HJ8.out; have := HK3.out; omega
                                          case rel => exact ⟨(((x6_3 ++ (⟨#[37]⟩ : ByteArray)) ++ pc1) ++ pc2), (((rd l0 x8_3) == 0)), (wrap64 (x8_3 + 1)), (by first | rfl | (simp; done) | (simp only [zw3] <;> (first | rfl | simp)) | (simp [*]; done)), (by qr_), (by qr_), H', ⟨by have := HJ4.out; have := HJ8.out; have := HK3.out; omega⟩, ⟨by qh_⟩⟩
                                      · rw [if_neg c23] at H
                                        exact absurd H (by simp)
                                    · rw [if_neg c22] at H
                                      exact absurd H (by simp)
                                  · rw [if_neg c21] at H
                                    exact absurd H (by simp)
                                · rw [if_neg c20] at H
                                  exact absurd H (by simp)
                              · rw [if_neg c18] at H
                                exact absurd H (by simp)
                            · rw [if_neg c17] at H
                              exact absurd H (by simp)
                          · rw [if_neg c16] at H
                            exact absurd H (by simp)
                        · rw [if_neg c15] at H
                          exact absurd H (by simp)
                      · rw [if_neg c13] at H
                        exact absurd H (by simp)
                    · rw [if_neg c12] at H
                      exact absurd H (by simp)
                  · rw [if_neg c11] at H
                    have c11b0 : decide (x8_3 < (l0.length : Int)) = false := decide_eq_false c11
                    clear c11
                    replace H := Option.bind_eq_some_iff.mp H
                    obtain ⟨⟨t275, t278, t281⟩, A250, H⟩ := H
                    replace H : (if x7_3 = true then (if t281 = 4 then (some ((t275.length : Int) == 0)) else (some false)) else (if t281 = 0 then (if (t275.length : Int) = 1 then (if 0 < (t275.length : Int) then (if (rdOf ByteArray.empty t275 0).toList = (strOfNums l0).toList then (some ((t278.length : Int) == 0)) else (some false)) else (none)) else (some false)) else (some false))) = some r := H
                    have A25 := Aside0.mk A250
                    clear A250
                    by_cases c26 : x7_3 = true
                    · subst c26
                      have H1 : (if t281 = 4 then (some ((t275.length : Int) == 0)) else (some false)) = some r := by rw [if_pos rfl] at H; exact H
                      clear H
                      have H := H1
                      clear H1
                      by_cases c27 : t281 = 4
                      · rw [if_pos c27] at H
                        have c27b0 : (t281 == 4) = true := beq_iff_eq.mpr c27
                        have c27b1 : (t281 != 4) = false := bne_eq_false_iff_eq.mpr c27
                        clear c27
                        obtain rfl := Option.some.inj H
                        go_wp2_with (first | (go_at_call 9; (with_reducible refine (target_Parse.calls k3 x6_3 t275 t278 t281 _ A25.out).mono ?_); rintro e w28 ⟨v276, v279, rfl, ho0, ho1, hb⟩; have n0_ := Aside0.mk (Kd.R_lower ho0 (below_size (by qh_))); have n1_ := Aside0.mk (Kd.R_lower ho1 (below_size (by qh_))); have n2_ := Aside0.mk (below_step (by qh_) hb); clear HB; have HO277 := n0_; have HO280 := n1_; have HB := n2_; clear n0_ n1_ n2_; (try clear hb); (try clear hb2); (try clear hk); (try clear hi); (try clear ho0); (try clear ho1)) | ((with_reducible refine gate_dst (N := 9) rfl ?_); (try (refine gate_guard (by rfl) ?_; dsimp only)); refine box_event ?hg (N := 9) ?hd (cs := #[.slice none 0 0, .slice none 0 0]) (t := 26) ?hr ?_; (case hd => rfl); (case hg => rfl); (case hr => first | (go_simp; done) | (go_simp; rfl)); intro gb282 hg w29 hbox hb; have n0_ := Aside0.mk (Kd.R_below (by qk_; exact HO277.out) hb); have n1_ := Aside0.mk (Kd.R_below (by qk_; exact HO280.out) hb); have n2_ := Aside0.mk (below_step (by qh_) hb); have n3_ := Aside0.mk (hbox); have n4_ := Aside0.mk ((by rw [hg]; exact (below_size (by qh_)) : w.heap.size ≤ gb282)); have n5_ := Aside0.mk ((by rw [hg]; exact (below_size (by qh_)) : w.heap.size ≤ gb282)); clear HO277; clear HO280; clear HB; have HO277 := n0_; have HO280 := n1_; have HB := n2_; have BK282 := n3_; have GW282 := n4_; have GE282 := n5_; clear n0_ n1_ n2_ n3_ n4_ n5_; clear hb hbox hg; obtain ⟨Ao30, co30, eo30⟩ := Kd.R_slice HO277.out; subst eo30; have hcz31_0 : w29.cell? ⟨gb282, 0, none⟩ = some (.slice none 0 0) := (blk_cell BK282.out 0).trans rfl; have hcz31_1 : w29.cell? ⟨gb282, 1, none⟩ = some (.slice none 0 0) := (blk_cell BK282.out 1).trans rfl; have hfz31_0 := blk_frozen BK282.out 0; have hfz31_1 := blk_frozen BK282.out 1; obtain ⟨Ao32, co32, eo32⟩ := Kd.R_slice HO280.out; subst eo32))
                        repeat (go_quiet (first | (go_at_call 9; (with_reducible refine (target_Parse.calls k3 x6_3 t275 t278 t281 _ A25.out).mono ?_); rintro e w28 ⟨v276, v279, rfl, ho0, ho1, hb⟩; have n0_ := Aside0.mk (Kd.R_lower ho0 (below_size (by qh_))); have n1_ := Aside0.mk (Kd.R_lower ho1 (below_size (by qh_))); have n2_ := Aside0.mk (below_step (by qh_) hb); clear HB; have HO277 := n0_; have HO280 := n1_; have HB := n2_; clear n0_ n1_ n2_; (try clear hb); (try clear hb2); (try clear hk); (try clear hi); (try clear ho0); (try clear ho1)) | ((with_reducible refine gate_dst (N := 9) rfl ?_); (try (refine gate_guard (by rfl) ?_; dsimp only)); refine box_event ?hg (N := 9) ?hd (cs := #[.slice none 0 0, .slice none 0 0]) (t := 26) ?hr ?_; (case hd => rfl); (case hg => rfl); (case hr => first | (go_simp; done) | (go_simp; rfl)); intro gb282 hg w29 hbox hb; have n0_ := Aside0.mk (Kd.R_below (by qk_; exact HO277.out) hb); have n1_ := Aside0.mk (Kd.R_below (by qk_; exact HO280.out) hb); have n2_ := Aside0.mk (below_step (by qh_) hb); have n3_ := Aside0.mk (hbox); have n4_ := Aside0.mk ((by rw [hg]; exact (below_size (by qh_)) : w.heap.size ≤ gb282)); have n5_ := Aside0.mk ((by rw [hg]; exact (below_size (by qh_)) : w.heap.size ≤ gb282)); clear HO277; clear HO280; clear HB; have HO277 := n0_; have HO280 := n1_; have HB := n2_; have BK282 := n3_; have GW282 := n4_; have GE282 := n5_; clear n0_ n1_ n2_ n3_ n4_ n5_; clear hb hbox hg; obtain ⟨Ao30, co30, eo30⟩ := Kd.R_slice HO277.out; subst eo30; have hcz31_0 : w29.cell? ⟨gb282, 0, none⟩ = some (.slice none 0 0) := (blk_cell BK282.out 0).trans rfl; have hcz31_1 : w29.cell? ⟨gb282, 1, none⟩ = some (.slice none 0 0) := (blk_cell BK282.out 1).trans rfl; have hfz31_0 := blk_frozen BK282.out 0; have hfz31_1 := blk_frozen BK282.out 1; obtain ⟨Ao32, co32, eo32⟩ := Kd.R_slice HO280.out; subst eo32)); try go_wp2_with (first | (go_at_call 9; (with_reducible refine (target_Parse.calls k3 x6_3 t275 t278 t281 _ A25.out).mono ?_); rintro e w28 ⟨v276, v279, rfl, ho0, ho1, hb⟩; have n0_ := Aside0.mk (Kd.R_lower ho0 (below_size (by qh_))); have n1_ := Aside0.mk (Kd.R_lower ho1 (below_size (by qh_))); have n2_ := Aside0.mk (below_step (by qh_) hb); clear HB; have HO277 := n0_; have HO280 := n1_; have HB := n2_; clear n0_ n1_ n2_; (try clear hb); (try clear hb2); (try clear hk); (try clear hi); (try clear ho0); (try clear ho1)) | ((with_reducible refine gate_dst (N := 9) rfl ?_); (try (refine gate_guard (by rfl) ?_; dsimp only)); refine box_event ?hg (N := 9) ?hd (cs := #[.slice none 0 0, .slice none 0 0]) (t := 26) ?hr ?_; (case hd => rfl); (case hg => rfl); (case hr => first | (go_simp; done) | (go_simp; rfl)); intro gb282 hg w29 hbox hb; have n0_ := Aside0.mk (Kd.R_below (by qk_; exact HO277.out) hb); have n1_ := Aside0.mk (Kd.R_below (by qk_; exact HO280.out) hb); have n2_ := Aside0.mk (below_step (by qh_) hb); have n3_ := Aside0.mk (hbox); have n4_ := Aside0.mk ((by rw [hg]; exact (below_size (by qh_)) : w.heap.size ≤ gb282)); have n5_ := Aside0.mk ((by rw [hg]; exact (below_size (by qh_)) : w.heap.size ≤ gb282)); clear HO277; clear HO280; clear HB; have HO277 := n0_; have HO280 := n1_; have HB := n2_; have BK282 := n3_; have GW282 := n4_; have GE282 := n5_; clear n0_ n1_ n2_ n3_ n4_ n5_; clear hb hbox hg; obtain ⟨Ao30, co30, eo30⟩ := Kd.R_slice HO277.out; subst eo30; have hcz31_0 : w29.cell? ⟨gb282, 0, none⟩ = some (.slice none 0 0) := (blk_cell BK282.out 0).trans rfl; have hcz31_1 : w29.cell? ⟨gb282, 1, none⟩ = some (.slice none 0 0) := (blk_cell BK282.out 1).trans rfl; have hfz31_0 := blk_frozen BK282.out 0; have hfz31_1 := blk_frozen BK282.out 1; obtain ⟨Ao32, co32, eo32⟩ := Kd.R_slice HO280.out; subst eo32)))
                        go_ret
                        exact ⟨by first | rfl | (simp [errW_none, errW_some] <;> rfl) | (simp [*, errW_none, errW_some] <;> rfl), by repeat (first | (with_reducible first | qp_ | refine below_set ?_ GE282.out) | exact HB.out)⟩
                      · rw [if_neg c27] at H
                        have c27b0 : (t281 == 4) = false := beq_eq_false_iff_ne.mpr c27
                        have c27b1 : (t281 != 4) = true := bne_iff_ne.mpr c27
                        obtain rfl := Option.some.inj H
                        go_wp2_with (first | (go_at_call 9; (with_reducible refine (target_Parse.calls k3 x6_3 t275 t278 t281 _ A25.out).mono ?_); rintro e w33 ⟨v276, v279, rfl, ho0, ho1, hb⟩; have n0_ := Aside0.mk (Kd.R_lower ho0 (below_size (by qh_))); have n1_ := Aside0.mk (Kd.R_lower ho1 (below_size (by qh_))); have n2_ := Aside0.mk (below_step (by qh_) hb); clear HB; have HO277 := n0_; have HO280 := n1_; have HB := n2_; clear n0_ n1_ n2_; (try clear hb); (try clear hb2); (try clear hk); (try clear hi); (try clear ho0); (try clear ho1)) | ((with_reducible refine gate_dst (N := 9) rfl ?_); (try (refine gate_guard (by rfl) ?_; dsimp only)); refine box_event ?hg (N := 9) ?hd (cs := #[.slice none 0 0, .slice none 0 0]) (t := 26) ?hr ?_; (case hd => rfl); (case hg => rfl); (case hr => first | (go_simp; done) | (go_simp; rfl)); intro gb282 hg w34 hbox hb; have n0_ := Aside0.mk (Kd.R_below (by qk_; exact HO277.out) hb); have n1_ := Aside0.mk (Kd.R_below (by qk_; exact HO280.out) hb); have n2_ := Aside0.mk (below_step (by qh_) hb); have n3_ := Aside0.mk (hbox); have n4_ := Aside0.mk ((by rw [hg]; exact (below_size (by qh_)) : w.heap.size ≤ gb282)); have n5_ := Aside0.mk ((by rw [hg]; exact (below_size (by qh_)) : w.heap.size ≤ gb282)); clear HO277; clear HO280; clear HB; have HO277 := n0_; have HO280 := n1_; have HB := n2_; have BK282 := n3_; have GW282 := n4_; have GE282 := n5_; clear n0_ n1_ n2_ n3_ n4_ n5_; clear hb hbox hg; obtain ⟨Ao35, co35, eo35⟩ := Kd.R_slice HO277.out; subst eo35; have hcz36_0 : w34.cell? ⟨gb282, 0, none⟩ = some (.slice none 0 0) := (blk_cell BK282.out 0).trans rfl; have hcz36_1 : w34.cell? ⟨gb282, 1, none⟩ = some (.slice none 0 0) := (blk_cell BK282.out 1).trans rfl; have hfz36_0 := blk_frozen BK282.out 0; have hfz36_1 := blk_frozen BK282.out 1; obtain ⟨Ao37, co37, eo37⟩ := Kd.R_slice HO280.out; subst eo37))
                        repeat (go_quiet (first | (go_at_call 9; (with_reducible refine (target_Parse.calls k3 x6_3 t275 t278 t281 _ A25.out).mono ?_); rintro e w33 ⟨v276, v279, rfl, ho0, ho1, hb⟩; have n0_ := Aside0.mk (Kd.R_lower ho0 (below_size (by qh_))); have n1_ := Aside0.mk (Kd.R_lower ho1 (below_size (by qh_))); have n2_ := Aside0.mk (below_step (by qh_) hb); clear HB; have HO277 := n0_; have HO280 := n1_; have HB := n2_; clear n0_ n1_ n2_; (try clear hb); (try clear hb2); (try clear hk); (try clear hi); (try clear ho0); (try clear ho1)) | ((with_reducible refine gate_dst (N := 9) rfl ?_); (try (refine gate_guard (by rfl) ?_; dsimp only)); refine box_event ?hg (N := 9) ?hd (cs := #[.slice none 0 0, .slice none 0 0]) (t := 26) ?hr ?_; (case hd => rfl); (case hg => rfl); (case hr => first | (go_simp; done) | (go_simp; rfl)); intro gb282 hg w34 hbox hb; have n0_ := Aside0.mk (Kd.R_below (by qk_; exact HO277.out) hb); have n1_ := Aside0.mk (Kd.R_below (by qk_; exact HO280.out) hb); have n2_ := Aside0.mk (below_step (by qh_) hb); have n3_ := Aside0.mk (hbox); have n4_ := Aside0.mk ((by rw [hg]; exact (below_size (by qh_)) : w.heap.size ≤ gb282)); have n5_ := Aside0.mk ((by rw [hg]; exact (below_size (by qh_)) : w.heap.size ≤ gb282)); clear HO277; clear HO280; clear HB; have HO277 := n0_; have HO280 := n1_; have HB := n2_; have BK282 := n3_; have GW282 := n4_; have GE282 := n5_; clear n0_ n1_ n2_ n3_ n4_ n5_; clear hb hbox hg; obtain ⟨Ao35, co35, eo35⟩ := Kd.R_slice HO277.out; subst eo35; have hcz36_0 : w34.cell? ⟨gb282, 0, none⟩ = some (.slice none 0 0) := (blk_cell BK282.out 0).trans rfl; have hcz36_1 : w34.cell? ⟨gb282, 1, none⟩ = some (.slice none 0 0) := (blk_cell BK282.out 1).trans rfl; have hfz36_0 := blk_frozen BK282.out 0; have hfz36_1 := blk_frozen BK282.out 1; obtain ⟨Ao37, co37, eo37⟩ := Kd.R_slice HO280.out; subst eo37)); try go_wp2_with (first | (go_at_call 9; (with_reducible refine (target_Parse.calls k3 x6_3 t275 t278 t281 _ A25.out).mono ?_); rintro e w33 ⟨v276, v279, rfl, ho0, ho1, hb⟩; have n0_ := Aside0.mk (Kd.R_lower ho0 (below_size (by qh_))); have n1_ := Aside0.mk (Kd.R_lower ho1 (below_size (by qh_))); have n2_ := Aside0.mk (below_step (by qh_) hb); clear HB; have HO277 := n0_; have HO280 := n1_; have HB := n2_; clear n0_ n1_ n2_; (try clear hb); (try clear hb2); (try clear hk); (try clear hi); (try clear ho0); (try clear ho1)) | ((with_reducible refine gate_dst (N := 9) rfl ?_); (try (refine gate_guard (by rfl) ?_; dsimp only)); refine box_event ?hg (N := 9) ?hd (cs := #[.slice none 0 0, .slice none 0 0]) (t := 26) ?hr ?_; (case hd => rfl); (case hg => rfl); (case hr => first | (go_simp; done) | (go_simp; rfl)); intro gb282 hg w34 hbox hb; have n0_ := Aside0.mk (Kd.R_below (by qk_; exact HO277.out) hb); have n1_ := Aside0.mk (Kd.R_below (by qk_; exact HO280.out) hb); have n2_ := Aside0.mk (below_step (by qh_) hb); have n3_ := Aside0.mk (hbox); have n4_ := Aside0.mk ((by rw [hg]; exact (below_size (by qh_)) : w.heap.size ≤ gb282)); have n5_ := Aside0.mk ((by rw [hg]; exact (below_size (by qh_)) : w.heap.size ≤ gb282)); clear HO277; clear HO280; clear HB; have HO277 := n0_; have HO280 := n1_; have HB := n2_; have BK282 := n3_; have GW282 := n4_; have GE282 := n5_; clear n0_ n1_ n2_ n3_ n4_ n5_; clear hb hbox hg; obtain ⟨Ao35, co35, eo35⟩ := Kd.R_slice HO277.out; subst eo35; have hcz36_0 : w34.cell? ⟨gb282, 0, none⟩ = some (.slice none 0 0) := (blk_cell BK282.out 0).trans rfl; have hcz36_1 : w34.cell? ⟨gb282, 1, none⟩ = some (.slice none 0 0) := (blk_cell BK282.out 1).trans rfl; have hfz36_0 := blk_frozen BK282.out 0; have hfz36_1 := blk_frozen BK282.out 1; obtain ⟨Ao37, co37, eo37⟩ := Kd.R_slice HO280.out; subst eo37)))
                        go_ret
                        exact ⟨by first | rfl | (simp [errW_none, errW_some] <;> rfl) | (simp [*, errW_none, errW_some] <;> rfl), by repeat (first | (with_reducible first | qp_ | refine below_set ?_ GE282.out) | exact HB.out)⟩
                    · replace c26 := Bool.eq_false_iff.mpr c26
                      subst c26
                      have H1 : (if t281 = 0 then (if (t275.length : Int) = 1 then (if 0 < (t275.length : Int) then (if (rdOf ByteArray.empty t275 0).toList = (strOfNums l0).toList then (some ((t278.length : Int) == 0)) else (some false)) else (none)) else (some false)) else (some false)) = some r := by rw [if_neg (show ¬ (false = true) by decide)] at H; exact H
                      clear H
                      have H := H1
                      clear H1
                      by_cases c38 : t281 = 0
                      · rw [if_pos c38] at H
                        have c38b0 : (t281 == 0) = true := beq_iff_eq.mpr c38
                        have c38b1 : (t281 != 0) = false := bne_eq_false_iff_eq.mpr c38
                        clear c38
                        by_cases c39 : (t275.length : Int) = 1
                        · rw [if_pos c39] at H
                          have c39b0 : ((t275.length : Int) == 1) = true := beq_iff_eq.mpr c39
                          have c39b1 : ((t275.length : Int) != 1) = false := bne_eq_false_iff_eq.mpr c39
                          clear c39
                          by_cases c40 : 0 < (t275.length : Int)
                          · rw [if_pos c40] at H
                            have c40b0 : decide (0 < (t275.length : Int)) = true := decide_eq_true c40
                            have c40b1 : decide (0 < t275.length) = true := decide_eq_true (by omega)
                            clear c40
                            by_cases c41 : (rdOf ByteArray.empty t275 0).toList = (strOfNums l0).toList
                            · rw [if_pos c41] at H
                              have c41b0 : ((rdOf ByteArray.empty t275 0).toList == (strOfNums l0).toList) = true := beq_iff_eq.mpr c41
                              have c41b1 : ((rdOf ByteArray.empty t275 0).toList != (strOfNums l0).toList) = false := bne_eq_false_iff_eq.mpr c41
                              clear c41
                              obtain rfl := Option.some.inj H
                              go_wp2_with (first | (go_at_call 9; (with_reducible refine (target_Parse.calls k3 x6_3 t275 t278 t281 _ A25.out).mono ?_); rintro e w42 ⟨v276, v279, rfl, ho0, ho1, hb⟩; have n0_ := Aside0.mk (Kd.R_lower ho0 (below_size (by qh_))); have n1_ := Aside0.mk (Kd.R_lower ho1 (below_size (by qh_))); have n2_ := Aside0.mk (below_step (by qh_) hb); clear HB; have HO277 := n0_; have HO280 := n1_; have HB := n2_; clear n0_ n1_ n2_; (try clear hb); (try clear hb2); (try clear hk); (try clear hi); (try clear ho0); (try clear ho1)) | ((with_reducible refine gate_dst (N := 9) rfl ?_); (try (refine gate_guard (by rfl) ?_; dsimp only)); refine box_event ?hg (N := 9) ?hd (cs := #[.slice none 0 0, .slice none 0 0]) (t := 26) ?hr ?_; (case hd => rfl); (case hg => rfl); (case hr => first | (go_simp; done) | (go_simp; rfl)); intro gb282 hg w43 hbox hb; have n0_ := Aside0.mk (Kd.R_below (by qk_; exact HO277.out) hb); have n1_ := Aside0.mk (Kd.R_below (by qk_; exact HO280.out) hb); have n2_ := Aside0.mk (below_step (by qh_) hb); have n3_ := Aside0.mk (hbox); have n4_ := Aside0.mk ((by rw [hg]; exact (below_size (by qh_)) : w.heap.size ≤ gb282)); have n5_ := Aside0.mk ((by rw [hg]; exact (below_size (by qh_)) : w.heap.size ≤ gb282)); clear HO277; clear HO280; clear HB; have HO277 := n0_; have HO280 := n1_; have HB := n2_; have BK282 := n3_; have GW282 := n4_; have GE282 := n5_; clear n0_ n1_ n2_ n3_ n4_ n5_; clear hb hbox hg; obtain ⟨Ao44, co44, eo44⟩ := Kd.R_slice HO277.out; subst eo44; have hcz45_0 : w43.cell? ⟨gb282, 0, none⟩ = some (.slice none 0 0) := (blk_cell BK282.out 0).trans rfl; have hcz45_1 : w43.cell? ⟨gb282, 1, none⟩ = some (.slice none 0 0) := (blk_cell BK282.out 1).trans rfl; have hfz45_0 := blk_frozen BK282.out 0; have hfz45_1 := blk_frozen BK282.out 1; obtain ⟨Ao46, co46, eo46⟩ := Kd.R_slice HO280.out; subst eo46; have p283 : 0 ≤ (0 : Int) := (by omega); have q283 : 0 < (t275.length : Int) := of_decide_eq_true (by qa_); obtain ⟨ad283, e283, hx283_0⟩ := Kd.at_string (Kd.R_reads' HO277.out).2.2 0 p283 q283; cases e283; have qi283 : (0 < t275.length) = True := eq_true (by omega); (try rw [show ((0 : Int)).toNat = 0 from rfl] at hx283_0); (try rw [Addr.add_zero'] at hx283_0); have hn283_0 : ad283.block ≠ gb282 := Kd.own_blk (Kd.R_ne HO277.out BK282.out (by decide)); have hn283_1 : ad283.block ≠ gb282 := Kd.own_blk (Kd.R_ne HO277.out BK282.out (by decide)); replace hx283_0 := (cell_far (p := ⟨gb282, 0, none⟩) (by first | (rw [add_block]; exact hn283_0) | (show (Addr.add _ _).block ≠ _; rw [add_block]; exact hn283_0) | exact hn283_0) (.slice (some ad283) t275.length co44)).trans hx283_0; replace hx283_0 := (cell_far (p := ⟨gb282, 1, none⟩) (by first | (rw [add_block]; exact hn283_1) | (show (Addr.add _ _).block ≠ _; rw [add_block]; exact hn283_1) | exact hn283_1) (.slice Ao46 t278.length co46)).trans hx283_0; (try have hy283_0 := fun (n_ : Nat) => (show ((((w43.drewN n_).setCell ⟨gb282, 0, none⟩ (.slice (some ad283) t275.length co44)).setCell ⟨gb282, 1, none⟩ (.slice Ao46 t278.length co46))).cell? _ = some _ from hx283_0)); clear hn283_0; clear hn283_1; replace p283 := eq_true p283; replace q283 := eq_true q283; have hcv47 := Kd.C_string (w := ((w43.setCell ⟨gb282, 0, none⟩ (.slice (some ad283) t275.length co44)).setCell ⟨gb282, 1, none⟩ (.slice Ao46 t278.length co46))) (P := Tryd.prog) (A := A0) (c := c0) Tryd.underlying40 Tryd.underlying5 Tryd.underlying9 (Kd.C_below HR0.out (below_set (below_set HB.out GE282.out) GE282.out)); have hcv47n := fun n_ : Nat => Kd.C_string (w := World.drewN ((w43.setCell ⟨gb282, 0, none⟩ (.slice (some ad283) t275.length co44)).setCell ⟨gb282, 1, none⟩ (.slice Ao46 t278.length co46)) n_) (P := Tryd.prog) (A := A0) (c := c0) Tryd.underlying40 Tryd.underlying5 Tryd.underlying9 (Kd.C_below HR0.out (pw_below_drewN (below_set (below_set HB.out GE282.out) GE282.out) n_)); have hcv47m := fun n_ : Nat => Kd.C_string (w := (((w43.drewN n_).setCell ⟨gb282, 0, none⟩ (.slice (some ad283) t275.length co44)).setCell ⟨gb282, 1, none⟩ (.slice Ao46 t278.length co46))) (P := Tryd.prog) (A := A0) (c := c0) Tryd.underlying40 Tryd.underlying5 Tryd.underlying9 (Kd.C_below HR0.out (below_set (below_set (pw_below_drewN HB.out n_) GE282.out) GE282.out))))
                              repeat (go_quiet (first | (go_at_call 9; (with_reducible refine (target_Parse.calls k3 x6_3 t275 t278 t281 _ A25.out).mono ?_); rintro e w42 ⟨v276, v279, rfl, ho0, ho1, hb⟩; have n0_ := Aside0.mk (Kd.R_lower ho0 (below_size (by qh_))); have n1_ := Aside0.mk (Kd.R_lower ho1 (below_size (by qh_))); have n2_ := Aside0.mk (below_step (by qh_) hb); clear HB; have HO277 := n0_; have HO280 := n1_; have HB := n2_; clear n0_ n1_ n2_; (try clear hb); (try clear hb2); (try clear hk); (try clear hi); (try clear ho0); (try clear ho1)) | ((with_reducible refine gate_dst (N := 9) rfl ?_); (try (refine gate_guard (by rfl) ?_; dsimp only)); refine box_event ?hg (N := 9) ?hd (cs := #[.slice none 0 0, .slice none 0 0]) (t := 26) ?hr ?_; (case hd => rfl); (case hg => rfl); (case hr => first | (go_simp; done) | (go_simp; rfl)); intro gb282 hg w43 hbox hb; have n0_ := Aside0.mk (Kd.R_below (by qk_; exact HO277.out) hb); have n1_ := Aside0.mk (Kd.R_below (by qk_; exact HO280.out) hb); have n2_ := Aside0.mk (below_step (by qh_) hb); have n3_ := Aside0.mk (hbox); have n4_ := Aside0.mk ((by rw [hg]; exact (below_size (by qh_)) : w.heap.size ≤ gb282)); have n5_ := Aside0.mk ((by rw [hg]; exact (below_size (by qh_)) : w.heap.size ≤ gb282)); clear HO277; clear HO280; clear HB; have HO277 := n0_; have HO280 := n1_; have HB := n2_; have BK282 := n3_; have GW282 := n4_; have GE282 := n5_; clear n0_ n1_ n2_ n3_ n4_ n5_; clear hb hbox hg; obtain ⟨Ao44, co44, eo44⟩ := Kd.R_slice HO277.out; subst eo44; have hcz45_0 : w43.cell? ⟨gb282, 0, none⟩ = some (.slice none 0 0) := (blk_cell BK282.out 0).trans rfl; have hcz45_1 : w43.cell? ⟨gb282, 1, none⟩ = some (.slice none 0 0) := (blk_cell BK282.out 1).trans rfl; have hfz45_0 := blk_frozen BK282.out 0; have hfz45_1 := blk_frozen BK282.out 1; obtain ⟨Ao46, co46, eo46⟩ := Kd.R_slice HO280.out; subst eo46; have p283 : 0 ≤ (0 : Int) := (by omega); have q283 : 0 < (t275.length : Int) := of_decide_eq_true (by qa_); obtain ⟨ad283, e283, hx283_0⟩ := Kd.at_string (Kd.R_reads' HO277.out).2.2 0 p283 q283; cases e283; have qi283 : (0 < t275.length) = True := eq_true (by omega); (try rw [show ((0 : Int)).toNat = 0 from rfl] at hx283_0); (try rw [Addr.add_zero'] at hx283_0); have hn283_0 : ad283.block ≠ gb282 := Kd.own_blk (Kd.R_ne HO277.out BK282.out (by decide)); have hn283_1 : ad283.block ≠ gb282 := Kd.own_blk (Kd.R_ne HO277.out BK282.out (by decide)); replace hx283_0 := (cell_far (p := ⟨gb282, 0, none⟩) (by first | (rw [add_block]; exact hn283_0) | (show (Addr.add _ _).block ≠ _; rw [add_block]; exact hn283_0) | exact hn283_0) (.slice (some ad283) t275.length co44)).trans hx283_0; replace hx283_0 := (cell_far (p := ⟨gb282, 1, none⟩) (by first | (rw [add_block]; exact hn283_1) | (show (Addr.add _ _).block ≠ _; rw [add_block]; exact hn283_1) | exact hn283_1) (.slice Ao46 t278.length co46)).trans hx283_0; (try have hy283_0 := fun (n_ : Nat) => (show ((((w43.drewN n_).setCell ⟨gb282, 0, none⟩ (.slice (some ad283) t275.length co44)).setCell ⟨gb282, 1, none⟩ (.slice Ao46 t278.length co46))).cell? _ = some _ from hx283_0)); clear hn283_0; clear hn283_1; replace p283 := eq_true p283; replace q283 := eq_true q283; have hcv47 := Kd.C_string (w := ((w43.setCell ⟨gb282, 0, none⟩ (.slice (some ad283) t275.length co44)).setCell ⟨gb282, 1, none⟩ (.slice Ao46 t278.length co46))) (P := Tryd.prog) (A := A0) (c := c0) Tryd.underlying40 Tryd.underlying5 Tryd.underlying9 (Kd.C_below HR0.out (below_set (below_set HB.out GE282.out) GE282.out)); have hcv47n := fun n_ : Nat => Kd.C_string (w := World.drewN ((w43.setCell ⟨gb282, 0, none⟩ (.slice (some ad283) t275.length co44)).setCell ⟨gb282, 1, none⟩ (.slice Ao46 t278.length co46)) n_) (P := Tryd.prog) (A := A0) (c := c0) Tryd.underlying40 Tryd.underlying5 Tryd.underlying9 (Kd.C_below HR0.out (pw_below_drewN (below_set (below_set HB.out GE282.out) GE282.out) n_)); have hcv47m := fun n_ : Nat => Kd.C_string (w := (((w43.drewN n_).setCell ⟨gb282, 0, none⟩ (.slice (some ad283) t275.length co44)).setCell ⟨gb282, 1, none⟩ (.slice Ao46 t278.length co46))) (P := Tryd.prog) (A := A0) (c := c0) Tryd.underlying40 Tryd.underlying5 Tryd.underlying9 (Kd.C_below HR0.out (below_set (below_set (pw_below_drewN HB.out n_) GE282.out) GE282.out)))); try go_wp2_with (first | (go_at_call 9; (with_reducible refine (target_Parse.calls k3 x6_3 t275 t278 t281 _ A25.out).mono ?_); rintro e w42 ⟨v276, v279, rfl, ho0, ho1, hb⟩; have n0_ := Aside0.mk (Kd.R_lower ho0 (below_size (by qh_))); have n1_ := Aside0.mk (Kd.R_lower ho1 (below_size (by qh_))); have n2_ := Aside0.mk (below_step (by qh_) hb); clear HB; have HO277 := n0_; have HO280 := n1_; have HB := n2_; clear n0_ n1_ n2_; (try clear hb); (try clear hb2); (try clear hk); (try clear hi); (try clear ho0); (try clear ho1)) | ((with_reducible refine gate_dst (N := 9) rfl ?_); (try (refine gate_guard (by rfl) ?_; dsimp only)); refine box_event ?hg (N := 9) ?hd (cs := #[.slice none 0 0, .slice none 0 0]) (t := 26) ?hr ?_; (case hd => rfl); (case hg => rfl); (case hr => first | (go_simp; done) | (go_simp; rfl)); intro gb282 hg w43 hbox hb; have n0_ := Aside0.mk (Kd.R_below (by qk_; exact HO277.out) hb); have n1_ := Aside0.mk (Kd.R_below (by qk_; exact HO280.out) hb); have n2_ := Aside0.mk (below_step (by qh_) hb); have n3_ := Aside0.mk (hbox); have n4_ := Aside0.mk ((by rw [hg]; exact (below_size (by qh_)) : w.heap.size ≤ gb282)); have n5_ := Aside0.mk ((by rw [hg]; exact (below_size (by qh_)) : w.heap.size ≤ gb282)); clear HO277; clear HO280; clear HB; have HO277 := n0_; have HO280 := n1_; have HB := n2_; have BK282 := n3_; have GW282 := n4_; have GE282 := n5_; clear n0_ n1_ n2_ n3_ n4_ n5_; clear hb hbox hg; obtain ⟨Ao44, co44, eo44⟩ := Kd.R_slice HO277.out; subst eo44; have hcz45_0 : w43.cell? ⟨gb282, 0, none⟩ = some (.slice none 0 0) := (blk_cell BK282.out 0).trans rfl; have hcz45_1 : w43.cell? ⟨gb282, 1, none⟩ = some (.slice none 0 0) := (blk_cell BK282.out 1).trans rfl; have hfz45_0 := blk_frozen BK282.out 0; have hfz45_1 := blk_frozen BK282.out 1; obtain ⟨Ao46, co46, eo46⟩ := Kd.R_slice HO280.out; subst eo46; have p283 : 0 ≤ (0 : Int) := (by omega); have q283 : 0 < (t275.length : Int) := of_decide_eq_true (by qa_); obtain ⟨ad283, e283, hx283_0⟩ := Kd.at_string (Kd.R_reads' HO277.out).2.2 0 p283 q283; cases e283; have qi283 : (0 < t275.length) = True := eq_true (by omega); (try rw [show ((0 : Int)).toNat = 0 from rfl] at hx283_0); (try rw [Addr.add_zero'] at hx283_0); have hn283_0 : ad283.block ≠ gb282 := Kd.own_blk (Kd.R_ne HO277.out BK282.out (by decide)); have hn283_1 : ad283.block ≠ gb282 := Kd.own_blk (Kd.R_ne HO277.out BK282.out (by decide)); replace hx283_0 := (cell_far (p := ⟨gb282, 0, none⟩) (by first | (rw [add_block]; exact hn283_0) | (show (Addr.add _ _).block ≠ _; rw [add_block]; exact hn283_0) | exact hn283_0) (.slice (some ad283) t275.length co44)).trans hx283_0; replace hx283_0 := (cell_far (p := ⟨gb282, 1, none⟩) (by first | (rw [add_block]; exact hn283_1) | (show (Addr.add _ _).block ≠ _; rw [add_block]; exact hn283_1) | exact hn283_1) (.slice Ao46 t278.length co46)).trans hx283_0; (try have hy283_0 := fun (n_ : Nat) => (show ((((w43.drewN n_).setCell ⟨gb282, 0, none⟩ (.slice (some ad283) t275.length co44)).setCell ⟨gb282, 1, none⟩ (.slice Ao46 t278.length co46))).cell? _ = some _ from hx283_0)); clear hn283_0; clear hn283_1; replace p283 := eq_true p283; replace q283 := eq_true q283; have hcv47 := Kd.C_string (w := ((w43.setCell ⟨gb282, 0, none⟩ (.slice (some ad283) t275.length co44)).setCell ⟨gb282, 1, none⟩ (.slice Ao46 t278.length co46))) (P := Tryd.prog) (A := A0) (c := c0) Tryd.underlying40 Tryd.underlying5 Tryd.underlying9 (Kd.C_below HR0.out (below_set (below_set HB.out GE282.out) GE282.out)); have hcv47n := fun n_ : Nat => Kd.C_string (w := World.drewN ((w43.setCell ⟨gb282, 0, none⟩ (.slice (some ad283) t275.length co44)).setCell ⟨gb282, 1, none⟩ (.slice Ao46 t278.length co46)) n_) (P := Tryd.prog) (A := A0) (c := c0) Tryd.underlying40 Tryd.underlying5 Tryd.underlying9 (Kd.C_below HR0.out (pw_below_drewN (below_set (below_set HB.out GE282.out) GE282.out) n_)); have hcv47m := fun n_ : Nat => Kd.C_string (w := (((w43.drewN n_).setCell ⟨gb282, 0, none⟩ (.slice (some ad283) t275.length co44)).setCell ⟨gb282, 1, none⟩ (.slice Ao46 t278.length co46))) (P := Tryd.prog) (A := A0) (c := c0) Tryd.underlying40 Tryd.underlying5 Tryd.underlying9 (Kd.C_below HR0.out (below_set (below_set (pw_below_drewN HB.out n_) GE282.out) GE282.out)))))
                              go_ret
                              exact ⟨by first | rfl | (simp [errW_none, errW_some] <;> rfl) | (simp [*, errW_none, errW_some] <;> rfl), by repeat (first | (with_reducible first | qp_ | refine below_set ?_ GE282.out) | exact HB.out)⟩
                            · rw [if_neg c41] at H
                              have c41b0 : ((rdOf ByteArray.empty t275 0).toList == (strOfNums l0).toList) = false := beq_eq_false_iff_ne.mpr c41
                              have c41b1 : ((rdOf ByteArray.empty t275 0).toList != (strOfNums l0).toList) = true := bne_iff_ne.mpr c41
                              obtain rfl := Option.some.inj H
                              go_wp2_with (first | (go_at_call 9; (with_reducible refine (target_Parse.calls k3 x6_3 t275 t278 t281 _ A25.out).mono ?_); rintro e w48 ⟨v276, v279, rfl, ho0, ho1, hb⟩; have n0_ := Aside0.mk (Kd.R_lower ho0 (below_size (by qh_))); have n1_ := Aside0.mk (Kd.R_lower ho1 (below_size (by qh_))); have n2_ := Aside0.mk (below_step (by qh_) hb); clear HB; have HO277 := n0_; have HO280 := n1_; have HB := n2_; clear n0_ n1_ n2_; (try clear hb); (try clear hb2); (try clear hk); (try clear hi); (try clear ho0); (try clear ho1)) | ((with_reducible refine gate_dst (N := 9) rfl ?_); (try (refine gate_guard (by rfl) ?_; dsimp only)); refine box_event ?hg (N := 9) ?hd (cs := #[.slice none 0 0, .slice none 0 0]) (t := 26) ?hr ?_; (case hd => rfl); (case hg => rfl); (case hr => first | (go_simp; done) | (go_simp; rfl)); intro gb282 hg w49 hbox hb; have n0_ := Aside0.mk (Kd.R_below (by qk_; exact HO277.out) hb); have n1_ := Aside0.mk (Kd.R_below (by qk_; exact HO280.out) hb); have n2_ := Aside0.mk (below_step (by qh_) hb); have n3_ := Aside0.mk (hbox); have n4_ := Aside0.mk ((by rw [hg]; exact (below_size (by qh_)) : w.heap.size ≤ gb282)); have n5_ := Aside0.mk ((by rw [hg]; exact (below_size (by qh_)) : w.heap.size ≤ gb282)); clear HO277; clear HO280; clear HB; have HO277 := n0_; have HO280 := n1_; have HB := n2_; have BK282 := n3_; have GW282 := n4_; have GE282 := n5_; clear n0_ n1_ n2_ n3_ n4_ n5_; clear hb hbox hg; obtain ⟨Ao50, co50, eo50⟩ := Kd.R_slice HO277.out; subst eo50; have hcz51_0 : w49.cell? ⟨gb282, 0, none⟩ = some (.slice none 0 0) := (blk_cell BK282.out 0).trans rfl; have hcz51_1 : w49.cell? ⟨gb282, 1, none⟩ = some (.slice none 0 0) := (blk_cell BK282.out 1).trans rfl; have hfz51_0 := blk_frozen BK282.out 0; have hfz51_1 := blk_frozen BK282.out 1; obtain ⟨Ao52, co52, eo52⟩ := Kd.R_slice HO280.out; subst eo52; have p283 : 0 ≤ (0 : Int) := (by omega); have q283 : 0 < (t275.length : Int) := of_decide_eq_true (by qa_); obtain ⟨ad283, e283, hx283_0⟩ := Kd.at_string (Kd.R_reads' HO277.out).2.2 0 p283 q283; cases e283; have qi283 : (0 < t275.length) = True := eq_true (by omega); (try rw [show ((0 : Int)).toNat = 0 from rfl] at hx283_0); (try rw [Addr.add_zero'] at hx283_0); have hn283_0 : ad283.block ≠ gb282 := Kd.own_blk (Kd.R_ne HO277.out BK282.out (by decide)); have hn283_1 : ad283.block ≠ gb282 := Kd.own_blk (Kd.R_ne HO277.out BK282.out (by decide)); replace hx283_0 := (cell_far (p := ⟨gb282, 0, none⟩) (by first | (rw [add_block]; exact hn283_0) | (show (Addr.add _ _).block ≠ _; rw [add_block]; exact hn283_0) | exact hn283_0) (.slice (some ad283) t275.length co50)).trans hx283_0; replace hx283_0 := (cell_far (p := ⟨gb282, 1, none⟩) (by first | (rw [add_block]; exact hn283_1) | (show (Addr.add _ _).block ≠ _; rw [add_block]; exact hn283_1) | exact hn283_1) (.slice Ao52 t278.length co52)).trans hx283_0; (try have hy283_0 := fun (n_ : Nat) => (show ((((w49.drewN n_).setCell ⟨gb282, 0, none⟩ (.slice (some ad283) t275.length co50)).setCell ⟨gb282, 1, none⟩ (.slice Ao52 t278.length co52))).cell? _ = some _ from hx283_0)); clear hn283_0; clear hn283_1; replace p283 := eq_true p283; replace q283 := eq_true q283; have hcv53 := Kd.C_string (w := ((w49.setCell ⟨gb282, 0, none⟩ (.slice (some ad283) t275.length co50)).setCell ⟨gb282, 1, none⟩ (.slice Ao52 t278.length co52))) (P := Tryd.prog) (A := A0) (c := c0) Tryd.underlying40 Tryd.underlying5 Tryd.underlying9 (Kd.C_below HR0.out (below_set (below_set HB.out GE282.out) GE282.out)); have hcv53n := fun n_ : Nat => Kd.C_string (w := World.drewN ((w49.setCell ⟨gb282, 0, none⟩ (.slice (some ad283) t275.length co50)).setCell ⟨gb282, 1, none⟩ (.slice Ao52 t278.length co52)) n_) (P := Tryd.prog) (A := A0) (c := c0) Tryd.underlying40 Tryd.underlying5 Tryd.underlying9 (Kd.C_below HR0.out (pw_below_drewN (below_set (below_set HB.out GE282.out) GE282.out) n_)); have hcv53m := fun n_ : Nat => Kd.C_string (w := (((w49.drewN n_).setCell ⟨gb282, 0, none⟩ (.slice (some ad283) t275.length co50)).setCell ⟨gb282, 1, none⟩ (.slice Ao52 t278.length co52))) (P := Tryd.prog) (A := A0) (c := c0) Tryd.underlying40 Tryd.underlying5 Tryd.underlying9 (Kd.C_below HR0.out (below_set (below_set (pw_below_drewN HB.out n_) GE282.out) GE282.out))))
                              repeat (go_quiet (first | (go_at_call 9; (with_reducible refine (target_Parse.calls k3 x6_3 t275 t278 t281 _ A25.out).mono ?_); rintro e w48 ⟨v276, v279, rfl, ho0, ho1, hb⟩; have n0_ := Aside0.mk (Kd.R_lower ho0 (below_size (by qh_))); have n1_ := Aside0.mk (Kd.R_lower ho1 (below_size (by qh_))); have n2_ := Aside0.mk (below_step (by qh_) hb); clear HB; have HO277 := n0_; have HO280 := n1_; have HB := n2_; clear n0_ n1_ n2_; (try clear hb); (try clear hb2); (try clear hk); (try clear hi); (try clear ho0); (try clear ho1)) | ((with_reducible refine gate_dst (N := 9) rfl ?_); (try (refine gate_guard (by rfl) ?_; dsimp only)); refine box_event ?hg (N := 9) ?hd (cs := #[.slice none 0 0, .slice none 0 0]) (t := 26) ?hr ?_; (case hd => rfl); (case hg => rfl); (case hr => first | (go_simp; done) | (go_simp; rfl)); intro gb282 hg w49 hbox hb; have n0_ := Aside0.mk (Kd.R_below (by qk_; exact HO277.out) hb); have n1_ := Aside0.mk (Kd.R_below (by qk_; exact HO280.out) hb); have n2_ := Aside0.mk (below_step (by qh_) hb); have n3_ := Aside0.mk (hbox); have n4_ := Aside0.mk ((by rw [hg]; exact (below_size (by qh_)) : w.heap.size ≤ gb282)); have n5_ := Aside0.mk ((by rw [hg]; exact (below_size (by qh_)) : w.heap.size ≤ gb282)); clear HO277; clear HO280; clear HB; have HO277 := n0_; have HO280 := n1_; have HB := n2_; have BK282 := n3_; have GW282 := n4_; have GE282 := n5_; clear n0_ n1_ n2_ n3_ n4_ n5_; clear hb hbox hg; obtain ⟨Ao50, co50, eo50⟩ := Kd.R_slice HO277.out; subst eo50; have hcz51_0 : w49.cell? ⟨gb282, 0, none⟩ = some (.slice none 0 0) := (blk_cell BK282.out 0).trans rfl; have hcz51_1 : w49.cell? ⟨gb282, 1, none⟩ = some (.slice none 0 0) := (blk_cell BK282.out 1).trans rfl; have hfz51_0 := blk_frozen BK282.out 0; have hfz51_1 := blk_frozen BK282.out 1; obtain ⟨Ao52, co52, eo52⟩ := Kd.R_slice HO280.out; subst eo52; have p283 : 0 ≤ (0 : Int) := (by omega); have q283 : 0 < (t275.length : Int) := of_decide_eq_true (by qa_); obtain ⟨ad283, e283, hx283_0⟩ := Kd.at_string (Kd.R_reads' HO277.out).2.2 0 p283 q283; cases e283; have qi283 : (0 < t275.length) = True := eq_true (by omega); (try rw [show ((0 : Int)).toNat = 0 from rfl] at hx283_0); (try rw [Addr.add_zero'] at hx283_0); have hn283_0 : ad283.block ≠ gb282 := Kd.own_blk (Kd.R_ne HO277.out BK282.out (by decide)); have hn283_1 : ad283.block ≠ gb282 := Kd.own_blk (Kd.R_ne HO277.out BK282.out (by decide)); replace hx283_0 := (cell_far (p := ⟨gb282, 0, none⟩) (by first | (rw [add_block]; exact hn283_0) | (show (Addr.add _ _).block ≠ _; rw [add_block]; exact hn283_0) | exact hn283_0) (.slice (some ad283) t275.length co50)).trans hx283_0; replace hx283_0 := (cell_far (p := ⟨gb282, 1, none⟩) (by first | (rw [add_block]; exact hn283_1) | (show (Addr.add _ _).block ≠ _; rw [add_block]; exact hn283_1) | exact hn283_1) (.slice Ao52 t278.length co52)).trans hx283_0; (try have hy283_0 := fun (n_ : Nat) => (show ((((w49.drewN n_).setCell ⟨gb282, 0, none⟩ (.slice (some ad283) t275.length co50)).setCell ⟨gb282, 1, none⟩ (.slice Ao52 t278.length co52))).cell? _ = some _ from hx283_0)); clear hn283_0; clear hn283_1; replace p283 := eq_true p283; replace q283 := eq_true q283; have hcv53 := Kd.C_string (w := ((w49.setCell ⟨gb282, 0, none⟩ (.slice (some ad283) t275.length co50)).setCell ⟨gb282, 1, none⟩ (.slice Ao52 t278.length co52))) (P := Tryd.prog) (A := A0) (c := c0) Tryd.underlying40 Tryd.underlying5 Tryd.underlying9 (Kd.C_below HR0.out (below_set (below_set HB.out GE282.out) GE282.out)); have hcv53n := fun n_ : Nat => Kd.C_string (w := World.drewN ((w49.setCell ⟨gb282, 0, none⟩ (.slice (some ad283) t275.length co50)).setCell ⟨gb282, 1, none⟩ (.slice Ao52 t278.length co52)) n_) (P := Tryd.prog) (A := A0) (c := c0) Tryd.underlying40 Tryd.underlying5 Tryd.underlying9 (Kd.C_below HR0.out (pw_below_drewN (below_set (below_set HB.out GE282.out) GE282.out) n_)); have hcv53m := fun n_ : Nat => Kd.C_string (w := (((w49.drewN n_).setCell ⟨gb282, 0, none⟩ (.slice (some ad283) t275.length co50)).setCell ⟨gb282, 1, none⟩ (.slice Ao52 t278.length co52))) (P := Tryd.prog) (A := A0) (c := c0) Tryd.underlying40 Tryd.underlying5 Tryd.underlying9 (Kd.C_below HR0.out (below_set (below_set (pw_below_drewN HB.out n_) GE282.out) GE282.out)))); try go_wp2_with (first | (go_at_call 9; (with_reducible refine (target_Parse.calls k3 x6_3 t275 t278 t281 _ A25.out).mono ?_); rintro e w48 ⟨v276, v279, rfl, ho0, ho1, hb⟩; have n0_ := Aside0.mk (Kd.R_lower ho0 (below_size (by qh_))); have n1_ := Aside0.mk (Kd.R_lower ho1 (below_size (by qh_))); have n2_ := Aside0.mk (below_step (by qh_) hb); clear HB; have HO277 := n0_; have HO280 := n1_; have HB := n2_; clear n0_ n1_ n2_; (try clear hb); (try clear hb2); (try clear hk); (try clear hi); (try clear ho0); (try clear ho1)) | ((with_reducible refine gate_dst (N := 9) rfl ?_); (try (refine gate_guard (by rfl) ?_; dsimp only)); refine box_event ?hg (N := 9) ?hd (cs := #[.slice none 0 0, .slice none 0 0]) (t := 26) ?hr ?_; (case hd => rfl); (case hg => rfl); (case hr => first | (go_simp; done) | (go_simp; rfl)); intro gb282 hg w49 hbox hb; have n0_ := Aside0.mk (Kd.R_below (by qk_; exact HO277.out) hb); have n1_ := Aside0.mk (Kd.R_below (by qk_; exact HO280.out) hb); have n2_ := Aside0.mk (below_step (by qh_) hb); have n3_ := Aside0.mk (hbox); have n4_ := Aside0.mk ((by rw [hg]; exact (below_size (by qh_)) : w.heap.size ≤ gb282)); have n5_ := Aside0.mk ((by rw [hg]; exact (below_size (by qh_)) : w.heap.size ≤ gb282)); clear HO277; clear HO280; clear HB; have HO277 := n0_; have HO280 := n1_; have HB := n2_; have BK282 := n3_; have GW282 := n4_; have GE282 := n5_; clear n0_ n1_ n2_ n3_ n4_ n5_; clear hb hbox hg; obtain ⟨Ao50, co50, eo50⟩ := Kd.R_slice HO277.out; subst eo50; have hcz51_0 : w49.cell? ⟨gb282, 0, none⟩ = some (.slice none 0 0) := (blk_cell BK282.out 0).trans rfl; have hcz51_1 : w49.cell? ⟨gb282, 1, none⟩ = some (.slice none 0 0) := (blk_cell BK282.out 1).trans rfl; have hfz51_0 := blk_frozen BK282.out 0; have hfz51_1 := blk_frozen BK282.out 1; obtain ⟨Ao52, co52, eo52⟩ := Kd.R_slice HO280.out; subst eo52; have p283 : 0 ≤ (0 : Int) := (by omega); have q283 : 0 < (t275.length : Int) := of_decide_eq_true (by qa_); obtain ⟨ad283, e283, hx283_0⟩ := Kd.at_string (Kd.R_reads' HO277.out).2.2 0 p283 q283; cases e283; have qi283 : (0 < t275.length) = True := eq_true (by omega); (try rw [show ((0 : Int)).toNat = 0 from rfl] at hx283_0); (try rw [Addr.add_zero'] at hx283_0); have hn283_0 : ad283.block ≠ gb282 := Kd.own_blk (Kd.R_ne HO277.out BK282.out (by decide)); have hn283_1 : ad283.block ≠ gb282 := Kd.own_blk (Kd.R_ne HO277.out BK282.out (by decide)); replace hx283_0 := (cell_far (p := ⟨gb282, 0, none⟩) (by first | (rw [add_block]; exact hn283_0) | (show (Addr.add _ _).block ≠ _; rw [add_block]; exact hn283_0) | exact hn283_0) (.slice (some ad283) t275.length co50)).trans hx283_0; replace hx283_0 := (cell_far (p := ⟨gb282, 1, none⟩) (by first | (rw [add_block]; exact hn283_1) | (show (Addr.add _ _).block ≠ _; rw [add_block]; exact hn283_1) | exact hn283_1) (.slice Ao52 t278.length co52)).trans hx283_0; (try have hy283_0 := fun (n_ : Nat) => (show ((((w49.drewN n_).setCell ⟨gb282, 0, none⟩ (.slice (some ad283) t275.length co50)).setCell ⟨gb282, 1, none⟩ (.slice Ao52 t278.length co52))).cell? _ = some _ from hx283_0)); clear hn283_0; clear hn283_1; replace p283 := eq_true p283; replace q283 := eq_true q283; have hcv53 := Kd.C_string (w := ((w49.setCell ⟨gb282, 0, none⟩ (.slice (some ad283) t275.length co50)).setCell ⟨gb282, 1, none⟩ (.slice Ao52 t278.length co52))) (P := Tryd.prog) (A := A0) (c := c0) Tryd.underlying40 Tryd.underlying5 Tryd.underlying9 (Kd.C_below HR0.out (below_set (below_set HB.out GE282.out) GE282.out)); have hcv53n := fun n_ : Nat => Kd.C_string (w := World.drewN ((w49.setCell ⟨gb282, 0, none⟩ (.slice (some ad283) t275.length co50)).setCell ⟨gb282, 1, none⟩ (.slice Ao52 t278.length co52)) n_) (P := Tryd.prog) (A := A0) (c := c0) Tryd.underlying40 Tryd.underlying5 Tryd.underlying9 (Kd.C_below HR0.out (pw_below_drewN (below_set (below_set HB.out GE282.out) GE282.out) n_)); have hcv53m := fun n_ : Nat => Kd.C_string (w := (((w49.drewN n_).setCell ⟨gb282, 0, none⟩ (.slice (some ad283) t275.length co50)).setCell ⟨gb282, 1, none⟩ (.slice Ao52 t278.length co52))) (P := Tryd.prog) (A := A0) (c := c0) Tryd.underlying40 Tryd.underlying5 Tryd.underlying9 (Kd.C_below HR0.out (below_set (below_set (pw_below_drewN HB.out n_) GE282.out) GE282.out)))))
                              go_ret
                              exact ⟨by first | rfl | (simp [errW_none, errW_some] <;> rfl) | (simp [*, errW_none, errW_some] <;> rfl), by repeat (first | (with_reducible first | qp_ | refine below_set ?_ GE282.out) | exact HB.out)⟩
                          · rw [if_neg c40] at H
                            exact absurd H (by simp)
                        · rw [if_neg c39] at H
                          have c39b0 : ((t275.length : Int) == 1) = false := beq_eq_false_iff_ne.mpr c39
                          have c39b1 : ((t275.length : Int) != 1) = true := bne_iff_ne.mpr c39
                          obtain rfl := Option.some.inj H
                          go_wp2_with (first | (go_at_call 9; (with_reducible refine (target_Parse.calls k3 x6_3 t275 t278 t281 _ A25.out).mono ?_); rintro e w54 ⟨v276, v279, rfl, ho0, ho1, hb⟩; have n0_ := Aside0.mk (Kd.R_lower ho0 (below_size (by qh_))); have n1_ := Aside0.mk (Kd.R_lower ho1 (below_size (by qh_))); have n2_ := Aside0.mk (below_step (by qh_) hb); clear HB; have HO277 := n0_; have HO280 := n1_; have HB := n2_; clear n0_ n1_ n2_; (try clear hb); (try clear hb2); (try clear hk); (try clear hi); (try clear ho0); (try clear ho1)) | ((with_reducible refine gate_dst (N := 9) rfl ?_); (try (refine gate_guard (by rfl) ?_; dsimp only)); refine box_event ?hg (N := 9) ?hd (cs := #[.slice none 0 0, .slice none 0 0]) (t := 26) ?hr ?_; (case hd => rfl); (case hg => rfl); (case hr => first | (go_simp; done) | (go_simp; rfl)); intro gb282 hg w55 hbox hb; have n0_ := Aside0.mk (Kd.R_below (by qk_; exact HO277.out) hb); have n1_ := Aside0.mk (Kd.R_below (by qk_; exact HO280.out) hb); have n2_ := Aside0.mk (below_step (by qh_) hb); have n3_ := Aside0.mk (hbox); have n4_ := Aside0.mk ((by rw [hg]; exact (below_size (by qh_)) : w.heap.size ≤ gb282)); have n5_ := Aside0.mk ((by rw [hg]; exact (below_size (by qh_)) : w.heap.size ≤ gb282)); clear HO277; clear HO280; clear HB; have HO277 := n0_; have HO280 := n1_; have HB := n2_; have BK282 := n3_; have GW282 := n4_; have GE282 := n5_; clear n0_ n1_ n2_ n3_ n4_ n5_; clear hb hbox hg; obtain ⟨Ao56, co56, eo56⟩ := Kd.R_slice HO277.out; subst eo56; have hcz57_0 : w55.cell? ⟨gb282, 0, none⟩ = some (.slice none 0 0) := (blk_cell BK282.out 0).trans rfl; have hcz57_1 : w55.cell? ⟨gb282, 1, none⟩ = some (.slice none 0 0) := (blk_cell BK282.out 1).trans rfl; have hfz57_0 := blk_frozen BK282.out 0; have hfz57_1 := blk_frozen BK282.out 1; obtain ⟨Ao58, co58, eo58⟩ := Kd.R_slice HO280.out; subst eo58))
                          repeat (go_quiet (first | (go_at_call 9; (with_reducible refine (target_Parse.calls k3 x6_3 t275 t278 t281 _ A25.out).mono ?_); rintro e w54 ⟨v276, v279, rfl, ho0, ho1, hb⟩; have n0_ := Aside0.mk (Kd.R_lower ho0 (below_size (by qh_))); have n1_ := Aside0.mk (Kd.R_lower ho1 (below_size (by qh_))); have n2_ := Aside0.mk (below_step (by qh_) hb); clear HB; have HO277 := n0_; have HO280 := n1_; have HB := n2_; clear n0_ n1_ n2_; (try clear hb); (try clear hb2); (try clear hk); (try clear hi); (try clear ho0); (try clear ho1)) | ((with_reducible refine gate_dst (N := 9) rfl ?_); (try (refine gate_guard (by rfl) ?_; dsimp only)); refine box_event ?hg (N := 9) ?hd (cs := #[.slice none 0 0, .slice none 0 0]) (t := 26) ?hr ?_; (case hd => rfl); (case hg => rfl); (case hr => first | (go_simp; done) | (go_simp; rfl)); intro gb282 hg w55 hbox hb; have n0_ := Aside0.mk (Kd.R_below (by qk_; exact HO277.out) hb); have n1_ := Aside0.mk (Kd.R_below (by qk_; exact HO280.out) hb); have n2_ := Aside0.mk (below_step (by qh_) hb); have n3_ := Aside0.mk (hbox); have n4_ := Aside0.mk ((by rw [hg]; exact (below_size (by qh_)) : w.heap.size ≤ gb282)); have n5_ := Aside0.mk ((by rw [hg]; exact (below_size (by qh_)) : w.heap.size ≤ gb282)); clear HO277; clear HO280; clear HB; have HO277 := n0_; have HO280 := n1_; have HB := n2_; have BK282 := n3_; have GW282 := n4_; have GE282 := n5_; clear n0_ n1_ n2_ n3_ n4_ n5_; clear hb hbox hg; obtain ⟨Ao56, co56, eo56⟩ := Kd.R_slice HO277.out; subst eo56; have hcz57_0 : w55.cell? ⟨gb282, 0, none⟩ = some (.slice none 0 0) := (blk_cell BK282.out 0).trans rfl; have hcz57_1 : w55.cell? ⟨gb282, 1, none⟩ = some (.slice none 0 0) := (blk_cell BK282.out 1).trans rfl; have hfz57_0 := blk_frozen BK282.out 0; have hfz57_1 := blk_frozen BK282.out 1; obtain ⟨Ao58, co58, eo58⟩ := Kd.R_slice HO280.out; subst eo58)); try go_wp2_with (first | (go_at_call 9; (with_reducible refine (target_Parse.calls k3 x6_3 t275 t278 t281 _ A25.out).mono ?_); rintro e w54 ⟨v276, v279, rfl, ho0, ho1, hb⟩; have n0_ := Aside0.mk (Kd.R_lower ho0 (below_size (by qh_))); have n1_ := Aside0.mk (Kd.R_lower ho1 (below_size (by qh_))); have n2_ := Aside0.mk (below_step (by qh_) hb); clear HB; have HO277 := n0_; have HO280 := n1_; have HB := n2_; clear n0_ n1_ n2_; (try clear hb); (try clear hb2); (try clear hk); (try clear hi); (try clear ho0); (try clear ho1)) | ((with_reducible refine gate_dst (N := 9) rfl ?_); (try (refine gate_guard (by rfl) ?_; dsimp only)); refine box_event ?hg (N := 9) ?hd (cs := #[.slice none 0 0, .slice none 0 0]) (t := 26) ?hr ?_; (case hd => rfl); (case hg => rfl); (case hr => first | (go_simp; done) | (go_simp; rfl)); intro gb282 hg w55 hbox hb; have n0_ := Aside0.mk (Kd.R_below (by qk_; exact HO277.out) hb); have n1_ := Aside0.mk (Kd.R_below (by qk_; exact HO280.out) hb); have n2_ := Aside0.mk (below_step (by qh_) hb); have n3_ := Aside0.mk (hbox); have n4_ := Aside0.mk ((by rw [hg]; exact (below_size (by qh_)) : w.heap.size ≤ gb282)); have n5_ := Aside0.mk ((by rw [hg]; exact (below_size (by qh_)) : w.heap.size ≤ gb282)); clear HO277; clear HO280; clear HB; have HO277 := n0_; have HO280 := n1_; have HB := n2_; have BK282 := n3_; have GW282 := n4_; have GE282 := n5_; clear n0_ n1_ n2_ n3_ n4_ n5_; clear hb hbox hg; obtain ⟨Ao56, co56, eo56⟩ := Kd.R_slice HO277.out; subst eo56; have hcz57_0 : w55.cell? ⟨gb282, 0, none⟩ = some (.slice none 0 0) := (blk_cell BK282.out 0).trans rfl; have hcz57_1 : w55.cell? ⟨gb282, 1, none⟩ = some (.slice none 0 0) := (blk_cell BK282.out 1).trans rfl; have hfz57_0 := blk_frozen BK282.out 0; have hfz57_1 := blk_frozen BK282.out 1; obtain ⟨Ao58, co58, eo58⟩ := Kd.R_slice HO280.out; subst eo58)))
                          go_ret
                          exact ⟨by first | rfl | (simp [errW_none, errW_some] <;> rfl) | (simp [*, errW_none, errW_some] <;> rfl), by repeat (first | (with_reducible first | qp_ | refine below_set ?_ GE282.out) | exact HB.out)⟩
                      · rw [if_neg c38] at H
                        have c38b0 : (t281 == 0) = false := beq_eq_false_iff_ne.mpr c38
                        have c38b1 : (t281 != 0) = true := bne_iff_ne.mpr c38
                        obtain rfl := Option.some.inj H
                        go_wp2_with (first | (go_at_call 9; (with_reducible refine (target_Parse.calls k3 x6_3 t275 t278 t281 _ A25.out).mono ?_); rintro e w59 ⟨v276, v279, rfl, ho0, ho1, hb⟩; have n0_ := Aside0.mk (Kd.R_lower ho0 (below_size (by qh_))); have n1_ := Aside0.mk (Kd.R_lower ho1 (below_size (by qh_))); have n2_ := Aside0.mk (below_step (by qh_) hb); clear HB; have HO277 := n0_; have HO280 := n1_; have HB := n2_; clear n0_ n1_ n2_; (try clear hb); (try clear hb2); (try clear hk); (try clear hi); (try clear ho0); (try clear ho1)) | ((with_reducible refine gate_dst (N := 9) rfl ?_); (try (refine gate_guard (by rfl) ?_; dsimp only)); refine box_event ?hg (N := 9) ?hd (cs := #[.slice none 0 0, .slice none 0 0]) (t := 26) ?hr ?_; (case hd => rfl); (case hg => rfl); (case hr => first | (go_simp; done) | (go_simp; rfl)); intro gb282 hg w60 hbox hb; have n0_ := Aside0.mk (Kd.R_below (by qk_; exact HO277.out) hb); have n1_ := Aside0.mk (Kd.R_below (by qk_; exact HO280.out) hb); have n2_ := Aside0.mk (below_step (by qh_) hb); have n3_ := Aside0.mk (hbox); have n4_ := Aside0.mk ((by rw [hg]; exact (below_size (by qh_)) : w.heap.size ≤ gb282)); have n5_ := Aside0.mk ((by rw [hg]; exact (below_size (by qh_)) : w.heap.size ≤ gb282)); clear HO277; clear HO280; clear HB; have HO277 := n0_; have HO280 := n1_; have HB := n2_; have BK282 := n3_; have GW282 := n4_; have GE282 := n5_; clear n0_ n1_ n2_ n3_ n4_ n5_; clear hb hbox hg; obtain ⟨Ao61, co61, eo61⟩ := Kd.R_slice HO277.out; subst eo61; have hcz62_0 : w60.cell? ⟨gb282, 0, none⟩ = some (.slice none 0 0) := (blk_cell BK282.out 0).trans rfl; have hcz62_1 : w60.cell? ⟨gb282, 1, none⟩ = some (.slice none 0 0) := (blk_cell BK282.out 1).trans rfl; have hfz62_0 := blk_frozen BK282.out 0; have hfz62_1 := blk_frozen BK282.out 1; obtain ⟨Ao63, co63, eo63⟩ := Kd.R_slice HO280.out; subst eo63))
                        repeat (go_quiet (first | (go_at_call 9; (with_reducible refine (target_Parse.calls k3 x6_3 t275 t278 t281 _ A25.out).mono ?_); rintro e w59 ⟨v276, v279, rfl, ho0, ho1, hb⟩; have n0_ := Aside0.mk (Kd.R_lower ho0 (below_size (by qh_))); have n1_ := Aside0.mk (Kd.R_lower ho1 (below_size (by qh_))); have n2_ := Aside0.mk (below_step (by qh_) hb); clear HB; have HO277 := n0_; have HO280 := n1_; have HB := n2_; clear n0_ n1_ n2_; (try clear hb); (try clear hb2); (try clear hk); (try clear hi); (try clear ho0); (try clear ho1)) | ((with_reducible refine gate_dst (N := 9) rfl ?_); (try (refine gate_guard (by rfl) ?_; dsimp only)); refine box_event ?hg (N := 9) ?hd (cs := #[.slice none 0 0, .slice none 0 0]) (t := 26) ?hr ?_; (case hd => rfl); (case hg => rfl); (case hr => first | (go_simp; done) | (go_simp; rfl)); intro gb282 hg w60 hbox hb; have n0_ := Aside0.mk (Kd.R_below (by qk_; exact HO277.out) hb); have n1_ := Aside0.mk (Kd.R_below (by qk_; exact HO280.out) hb); have n2_ := Aside0.mk (below_step (by qh_) hb); have n3_ := Aside0.mk (hbox); have n4_ := Aside0.mk ((by rw [hg]; exact (below_size (by qh_)) : w.heap.size ≤ gb282)); have n5_ := Aside0.mk ((by rw [hg]; exact (below_size (by qh_)) : w.heap.size ≤ gb282)); clear HO277; clear HO280; clear HB; have HO277 := n0_; have HO280 := n1_; have HB := n2_; have BK282 := n3_; have GW282 := n4_; have GE282 := n5_; clear n0_ n1_ n2_ n3_ n4_ n5_; clear hb hbox hg; obtain ⟨Ao61, co61, eo61⟩ := Kd.R_slice HO277.out; subst eo61; have hcz62_0 : w60.cell? ⟨gb282, 0, none⟩ = some (.slice none 0 0) := (blk_cell BK282.out 0).trans rfl; have hcz62_1 : w60.cell? ⟨gb282, 1, none⟩ = some (.slice none 0 0) := (blk_cell BK282.out 1).trans rfl; have hfz62_0 := blk_frozen BK282.out 0; have hfz62_1 := blk_frozen BK282.out 1; obtain ⟨Ao63, co63, eo63⟩ := Kd.R_slice HO280.out; subst eo63)); try go_wp2_with (first | (go_at_call 9; (with_reducible refine (target_Parse.calls k3 x6_3 t275 t278 t281 _ A25.out).mono ?_); rintro e w59 ⟨v276, v279, rfl, ho0, ho1, hb⟩; have n0_ := Aside0.mk (Kd.R_lower ho0 (below_size (by qh_))); have n1_ := Aside0.mk (Kd.R_lower ho1 (below_size (by qh_))); have n2_ := Aside0.mk (below_step (by qh_) hb); clear HB; have HO277 := n0_; have HO280 := n1_; have HB := n2_; clear n0_ n1_ n2_; (try clear hb); (try clear hb2); (try clear hk); (try clear hi); (try clear ho0); (try clear ho1)) | ((with_reducible refine gate_dst (N := 9) rfl ?_); (try (refine gate_guard (by rfl) ?_; dsimp only)); refine box_event ?hg (N := 9) ?hd (cs := #[.slice none 0 0, .slice none 0 0]) (t := 26) ?hr ?_; (case hd => rfl); (case hg => rfl); (case hr => first | (go_simp; done) | (go_simp; rfl)); intro gb282 hg w60 hbox hb; have n0_ := Aside0.mk (Kd.R_below (by qk_; exact HO277.out) hb); have n1_ := Aside0.mk (Kd.R_below (by qk_; exact HO280.out) hb); have n2_ := Aside0.mk (below_step (by qh_) hb); have n3_ := Aside0.mk (hbox); have n4_ := Aside0.mk ((by rw [hg]; exact (below_size (by qh_)) : w.heap.size ≤ gb282)); have n5_ := Aside0.mk ((by rw [hg]; exact (below_size (by qh_)) : w.heap.size ≤ gb282)); clear HO277; clear HO280; clear HB; have HO277 := n0_; have HO280 := n1_; have HB := n2_; have BK282 := n3_; have GW282 := n4_; have GE282 := n5_; clear n0_ n1_ n2_ n3_ n4_ n5_; clear hb hbox hg; obtain ⟨Ao61, co61, eo61⟩ := Kd.R_slice HO277.out; subst eo61; have hcz62_0 : w60.cell? ⟨gb282, 0, none⟩ = some (.slice none 0 0) := (blk_cell BK282.out 0).trans rfl; have hcz62_1 : w60.cell? ⟨gb282, 1, none⟩ = some (.slice none 0 0) := (blk_cell BK282.out 1).trans rfl; have hfz62_0 := blk_frozen BK282.out 0; have hfz62_1 := blk_frozen BK282.out 1; obtain ⟨Ao63, co63, eo63⟩ := Kd.R_slice HO280.out; subst eo63)))
                        go_ret
                        exact ⟨by first | rfl | (simp [errW_none, errW_some] <;> rfl) | (simp [*, errW_none, errW_some] <;> rfl), by repeat (first | (with_reducible first | qp_ | refine below_set ?_ GE282.out) | exact HB.out)⟩
  · replace c4 := Bool.eq_false_iff.mpr c4
    subst c4
    have H1 : (some false) = some r := by rw [if_neg (show ¬ (false = true) by decide)] at H; exact H
    clear H
    have H := H1
    clear H1
    obtain rfl := Option.some.inj H
    go_enter Tryd.func6, Tryd.ntmps6
    go_wp2_with (first | (go_at_call 8; (with_reducible refine (xBegun.calls  false _ A3.out).mono ?_); rintro e w64 ⟨rfl, hb⟩; have n0_ := Aside0.mk (below_step (by qh_) hb); clear HB; have HB := n0_; clear n0_; (try clear hb); (try clear hb2); (try clear hk); (try clear hi)))
    repeat (go_quiet (first | (go_at_call 8; (with_reducible refine (xBegun.calls  false _ A3.out).mono ?_); rintro e w64 ⟨rfl, hb⟩; have n0_ := Aside0.mk (below_step (by qh_) hb); clear HB; have HB := n0_; clear n0_; (try clear hb); (try clear hb2); (try clear hk); (try clear hi))); try go_wp2_with (first | (go_at_call 8; (with_reducible refine (xBegun.calls  false _ A3.out).mono ?_); rintro e w64 ⟨rfl, hb⟩; have n0_ := Aside0.mk (below_step (by qh_) hb); clear HB; have HB := n0_; clear n0_; (try clear hb); (try clear hb2); (try clear hk); (try clear hi))))
    go_ret
    exact ⟨by first | rfl | (simp [errW_none, errW_some] <;> rfl) | (simp [*, errW_none, errW_some] <;> rfl), by qh_⟩

end Go.Proofs.YtejmolhdmbkfaaaDoor.S
