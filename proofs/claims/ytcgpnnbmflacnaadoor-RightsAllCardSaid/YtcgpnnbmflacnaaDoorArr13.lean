/-
  The reference's sets as eight bools in an array: what bits, of, Covers, Meet and Join answer.
-/
import Derived.Test.YtcgpnnbmflacnaaDoorProg
import Derived.Test.YtcgpnnbmflacnaaDoorBits8
import Derived.Test.YtcgpnnbmflacnaaDoorThen
import Derived.Laws.Rows
namespace Go.Proofs.YtcgpnnbmflacnaaDoor.S
open Go.RowKit Go.Proofs.YtcgpnnbmflacnaaDoorW.PrintWords
set_option linter.unusedVariables false
set_option linter.unusedSimpArgs false

/-- One of a set's eight bools. -/
def bit8 (x : BitVec 8) (i : Nat) : Bool := x.getLsbD i
theorem bit8_eq (x : BitVec 8) (i : Nat) : bit8 x i = decide (x.toNat / 2 ^ i % 2 = 1) := by
  unfold bit8 BitVec.getLsbD
  rw [Nat.testBit_eq_decide_div_mod_eq]
theorem c8_bits (x : BitVec 8) : (c8 x % 2 == 1) = bit8 x 0 ∧ (c8 x / 2 % 2 == 1) = bit8 x 1 ∧ (c8 x / 2 / 2 % 2 == 1) = bit8 x 2 ∧ (c8 x / 2 / 2 / 2 % 2 == 1) = bit8 x 3 ∧ (c8 x / 2 / 2 / 2 / 2 % 2 == 1) = bit8 x 4 ∧
    (c8 x / 2 / 2 / 2 / 2 / 2 % 2 == 1) = bit8 x 5 ∧ (c8 x / 2 / 2 / 2 / 2 / 2 / 2 % 2 == 1) = bit8 x 6 ∧ (c8 x / 2 / 2 / 2 / 2 / 2 / 2 / 2 % 2 == 1) = bit8 x 7 := by
  simp only [bit8_eq]
  unfold c8
  generalize x.toNat = n
  refine ⟨?_, ?_, ?_, ?_, ?_, ?_, ?_, ?_⟩ <;> rw [Bool.eq_iff_iff, beq_iff_eq, decide_eq_true_eq] <;> omega

set_option maxHeartbeats 1000000 in
set_option maxRecDepth 100000 in
theorem bits_any (x : BitVec 8) (w : World) :
    Calls Tryd.prog 27 #[.int .u8 (c8 x)] w fun e w' => e = .returned (.agg #[.bool (bit8 x 0), .bool (bit8 x 1), .bool (bit8 x 2), .bool (bit8 x 3), .bool (bit8 x 4), .bool (bit8 x 5), .bool (bit8 x 6), .bool (bit8 x 7)]) ∧ Below w.heap.size w w' := by
  have hr := c8_range x
  obtain ⟨hr0, hr1⟩ := hr
  have E := Lib.hid (c8_bits x)
  generalize c8 x = a at hr0 hr1 E
  go_enter Tryd.func27, Tryd.ntmps27
  go_wp2
  refine wp_loop_rounds 9 ?_
  rw [rounds_succ]
  go_wp2
  rw [rounds_succ]
  go_wp2
  rw [rounds_succ]
  go_wp2
  rw [rounds_succ]
  go_wp2
  rw [rounds_succ]
  go_wp2
  rw [rounds_succ]
  go_wp2
  rw [rounds_succ]
  go_wp2
  rw [rounds_succ]
  go_wp2
  rw [rounds_succ]
  go_wp2
  obtain ⟨e0, e1, e2, e3, e4, e5, e6, e7⟩ := E.out
  refine bodyPost_ret (v := .agg #[.bool (bit8 x 0), .bool (bit8 x 1), .bool (bit8 x 2), .bool (bit8 x 3), .bool (bit8 x 4), .bool (bit8 x 5), .bool (bit8 x 6), .bool (bit8 x 7)]) (by simp [results, Tryd.results27, go_sem, e0, e1, e2, e3, e4, e5, e6, e7]) rfl ⟨rfl, ?_⟩
  exact below_alloc (below_alloc (Below.refl _ _) _) _
/-- The number of the first k bools. -/
def sm (b : Nat → Bool) : Nat → Int
  | 0 => 0
  | k + 1 => sm b k + if b k = true then (2 ^ k : Nat) else 0
theorem sm_range (b : Nat → Bool) : ∀ k, 0 ≤ sm b k ∧ sm b k < (2 ^ k : Nat)
  | 0 => by simp [sm]
  | k + 1 => by
    have := sm_range b k
    have e : (2 : Nat) ^ (k + 1) = 2 ^ k * 2 := Nat.pow_succ ..
    unfold sm
    split <;> omega
theorem cell8 (b : Nat → Bool) (w : World) (t : TypeId) (k : Nat) (h : k < 8) : (w.alloc (.cells #[.bool (b 0), .bool (b 1), .bool (b 2), .bool (b 3), .bool (b 4), .bool (b 5), .bool (b 6), .bool (b 7)] t)).cell? ⟨w.heap.size, k, none⟩ = some (.bool (b k)) := by
  rw [World.cell?_alloc_new]
  rcases k with _ | _ | _ | _ | _ | _ | _ | _ | k <;> first | rfl | omega
set_option maxHeartbeats 1000000 in
set_option maxRecDepth 100000 in
theorem of_any (b : Nat → Bool) (w : World) :
    Calls Tryd.prog 28 #[.agg #[.bool (b 0), .bool (b 1), .bool (b 2), .bool (b 3), .bool (b 4), .bool (b 5), .bool (b 6), .bool (b 7)]] w fun e w' => e = .returned (.int .u8 (sm b 8)) ∧ Below w.heap.size w w' := by
  go_enter Tryd.func28, Tryd.ntmps28
  go_wp2
  go_loop [3, 4, 5] (fun n u i => ∃ (k : Nat) (a c : Int), k ≤ 8 ∧ 0 ≤ a ∧ a < c ∧ c ≤ 256 ∧ i = .int .i64 k ∧ n = .int .i64 a ∧ u = .int .i64 c ∧ Hid (a = sm b k ∧ c = (2 ^ k : Nat))) (fun _ _ i => 8 - (intOf i).toNat)
  case atStart => exact ⟨0, 0, 1, by omega, by omega, by omega, by omega, rfl, rfl, rfl, Lib.hid ⟨rfl, rfl⟩⟩
  case round =>
    obtain ⟨k, a, c, hk, ha, hc, hc2, rfl, rfl, rfl, H⟩ := hrel
    by_cases hlt : k < 8
    · have hcell := cell8 b w 37 k hlt
      have hc3 : c ≤ 128 := by
        rw [H.out.2]
        have : 2 ^ k ≤ 2 ^ 7 := Nat.pow_le_pow_right (by omega) (by omega)
        omega
      have hu : 2 ^ (k + 1) = 2 ^ k * 2 := Nat.pow_succ ..
      have HU := Lib.hid hu
      clear hu
      by_cases hb : b k = true
      · go_wp2
        go_round
        case rel => exact ⟨k + 1, a + c, c * 2, by omega, by omega, by omega, by omega, by go_num, rfl, rfl, Lib.hid ⟨by unfold sm; rw [if_pos hb, ← H.out.1, ← H.out.2], by rw [HU.out, H.out.2]; simp⟩⟩
        case measure => simp [intOf]; omega
      · have hb' : b k = false := by simpa using hb
        clear hb
        go_wp2
        go_round
        case rel => exact ⟨k + 1, a, c * 2, by omega, by omega, by omega, by omega, by go_num, rfl, rfl, Lib.hid ⟨by unfold sm; rw [if_neg (by simp [hb']), ← H.out.1]; simp, by rw [HU.out, H.out.2]; simp⟩⟩
        case measure => simp [intOf]; omega
    · have hk8 : k = 8 := by omega
      have ea : a = sm b 8 := by rw [H.out.1, hk8]
      have EA := Lib.hid ea
      clear ea H
      go_wp2
      go_ret
      exact ⟨by rw [show sm b 8 = a from EA.out.symm]; rfl, below_alloc (Below.refl _ _) _⟩
theorem at8 (b : Nat → Bool) (k : Nat) (h : k < 8) : (#[.bool (b 0), .bool (b 1), .bool (b 2), .bool (b 3), .bool (b 4), .bool (b 5), .bool (b 6), .bool (b 7)] : Array Value)[k]? = some (.bool (b k)) := by
  rcases k with _ | _ | _ | _ | _ | _ | _ | _ | k <;> first | rfl | omega
theorem two8 (a b : Nat → Bool) (w : World) (t : TypeId) (k : Nat) (h : k < 8) :
    ((w.alloc (.cells #[.bool (a 0), .bool (a 1), .bool (a 2), .bool (a 3), .bool (a 4), .bool (a 5), .bool (a 6), .bool (a 7)] t)).alloc (.cells #[.bool (b 0), .bool (b 1), .bool (b 2), .bool (b 3), .bool (b 4), .bool (b 5), .bool (b 6), .bool (b 7)] t)).cell? ⟨w.heap.size, k, none⟩ = some (.bool (a k)) ∧
    ((w.alloc (.cells #[.bool (a 0), .bool (a 1), .bool (a 2), .bool (a 3), .bool (a 4), .bool (a 5), .bool (a 6), .bool (a 7)] t)).alloc (.cells #[.bool (b 0), .bool (b 1), .bool (b 2), .bool (b 3), .bool (b 4), .bool (b 5), .bool (b 6), .bool (b 7)] t)).cell? ⟨w.heap.size + 1, k, none⟩ = some (.bool (b k)) := by
  refine ⟨?_, ?_⟩
  · rw [World.cell?_alloc_old _ _ _ (by simp), World.cell?_alloc_new]
    exact at8 a k h
  · have e : w.heap.size + 1 = (w.alloc (.cells #[.bool (a 0), .bool (a 1), .bool (a 2), .bool (a 3), .bool (a 4), .bool (a 5), .bool (a 6), .bool (a 7)] t)).heap.size := by simp
    rw [e, World.cell?_alloc_new]
    exact at8 b k h
set_option maxHeartbeats 1000000 in
set_option maxRecDepth 100000 in
theorem ref_covers (x y : BitVec 8) (w : World) :
    Calls Tryd.prog 17 #[.int .u8 (c8 x), .int .u8 (c8 y)] w fun e w' => e = .returned (.bool (decide (y &&& ~~~x = 0#8))) ∧ Below w.heap.size w w' := by
  go_enter Tryd.func17, Tryd.ntmps17
  go_wp2_with fail
  refine (bits_any x _).mono ?_
  rintro e w1 ⟨rfl, hb1⟩
  go_wp2_with fail
  refine (bits_any y _).mono ?_
  rintro e w2 ⟨rfl, hb2⟩
  go_wp2_with fail
  go_loop [7] (fun i => ∃ k : Nat, k ≤ 8 ∧ i = .int .i64 k ∧ Hid (∀ j, j < k → bit8 y j = true → bit8 x j = true)) (fun i => 8 - (intOf i).toNat)
  case atStart => exact ⟨0, by omega, rfl, Lib.hid (fun j h => by omega)⟩
  case round =>
    obtain ⟨k, hk, rfl, H⟩ := hrel
    by_cases hlt : k < 8
    · have hcell := two8 (bit8 x) (bit8 y) w2 37 k hlt
      obtain ⟨hcx, hcy⟩ := hcell
      cases hy : bit8 y k with
      | false =>
        go_wp2
        go_round
        case rel => exact ⟨k + 1, by omega, by go_num, Lib.hid (fun j hj h => by by_cases e : j = k; (subst e; rw [hy] at h; cases h); exact H.out j (by omega) h)⟩
        case measure => simp [intOf]; omega
      | true =>
        cases hx : bit8 x k with
        | true =>
          go_wp2
          go_round
          case rel => exact ⟨k + 1, by omega, by go_num, Lib.hid (fun j hj h => by by_cases e : j = k; (subst e; exact hx); exact H.out j (by omega) h)⟩
          case measure => simp [intOf]; omega
        | false =>
          have ne : decide (y &&& ~~~x = 0#8) = false := by
            rw [decide_eq_false_iff_not]
            intro h
            have z : (y &&& ~~~x).getLsbD k = false := by rw [h]; simp
            unfold bit8 at hx hy
            rw [BitVec.getLsbD_and, BitVec.getLsbD_not, hy, hx] at z
            simp [hlt] at z
          have NE := Lib.hid ne
          clear ne
          go_wp2
          go_ret
          exact ⟨by rw [NE.out]; rfl, below_alloc (below_alloc (bthen hb1 hb2) _) _⟩
    · have eq : decide (y &&& ~~~x = 0#8) = true := by
        rw [decide_eq_true_eq]
        apply BitVec.eq_of_getLsbD_eq
        intro i hi
        have := H.out i (by omega)
        unfold bit8 at this
        cases hy : y.getLsbD i with
        | false => simp [hy]
        | true => simp [hi, this hy]
      have EQ := Lib.hid eq
      clear eq H
      go_wp2
      go_ret
      exact ⟨by rw [EQ.out]; rfl, below_alloc (below_alloc (bthen hb1 hb2) _) _⟩
/-- The array behind k rounds. -/
def mixAnd (x y : Nat → Bool) (k : Nat) (i : Nat) : Bool := if i < k then x i && y i else x i
def mixOr (x y : Nat → Bool) (k : Nat) (i : Nat) : Bool := if i < k then x i || y i else x i
theorem set8 (f g : Nat → Bool) (k : Nat) (v : Bool) (h : k < 8) (hk : g k = v) (ho : ∀ i, i ≠ k → g i = f i) : (#[.bool (f 0), .bool (f 1), .bool (f 2), .bool (f 3), .bool (f 4), .bool (f 5), .bool (f 6), .bool (f 7)] : Array Value).setIfInBounds k (.bool v) = #[.bool (g 0), .bool (g 1), .bool (g 2), .bool (g 3), .bool (g 4), .bool (g 5), .bool (g 6), .bool (g 7)] := by
  subst hk
  rcases k with _ | _ | _ | _ | _ | _ | _ | _ | k
  · rw [ho 1 (by omega), ho 2 (by omega), ho 3 (by omega), ho 4 (by omega), ho 5 (by omega), ho 6 (by omega), ho 7 (by omega)]; rfl
  · rw [ho 0 (by omega), ho 2 (by omega), ho 3 (by omega), ho 4 (by omega), ho 5 (by omega), ho 6 (by omega), ho 7 (by omega)]; rfl
  · rw [ho 0 (by omega), ho 1 (by omega), ho 3 (by omega), ho 4 (by omega), ho 5 (by omega), ho 6 (by omega), ho 7 (by omega)]; rfl
  · rw [ho 0 (by omega), ho 1 (by omega), ho 2 (by omega), ho 4 (by omega), ho 5 (by omega), ho 6 (by omega), ho 7 (by omega)]; rfl
  · rw [ho 0 (by omega), ho 1 (by omega), ho 2 (by omega), ho 3 (by omega), ho 5 (by omega), ho 6 (by omega), ho 7 (by omega)]; rfl
  · rw [ho 0 (by omega), ho 1 (by omega), ho 2 (by omega), ho 3 (by omega), ho 4 (by omega), ho 6 (by omega), ho 7 (by omega)]; rfl
  · rw [ho 0 (by omega), ho 1 (by omega), ho 2 (by omega), ho 3 (by omega), ho 4 (by omega), ho 5 (by omega), ho 7 (by omega)]; rfl
  · rw [ho 0 (by omega), ho 1 (by omega), ho 2 (by omega), ho 3 (by omega), ho 4 (by omega), ho 5 (by omega), ho 6 (by omega)]; rfl
  · omega
theorem heap8 {w : World} {b k : Nat} {f g : Nat → Bool} {v : Bool} {t : TypeId} (hb : w.heap[b]? = some (.cells #[.bool (f 0), .bool (f 1), .bool (f 2), .bool (f 3), .bool (f 4), .bool (f 5), .bool (f 6), .bool (f 7)] t (0, 0))) (h : k < 8) (hk : g k = v) (ho : ∀ i, i ≠ k → g i = f i) :
    (w.setCell ⟨b, k, none⟩ (.bool v)).heap[b]? = some (.cells #[.bool (g 0), .bool (g 1), .bool (g 2), .bool (g 3), .bool (g 4), .bool (g 5), .bool (g 6), .bool (g 7)] t (0, 0)) := by
  rw [heap_setCell_same _ _ _ _ _ _ hb, set8 f g k v h hk ho]
theorem cell_of8 {w : World} {b k : Nat} {f : Nat → Bool} {t : TypeId} (hb : w.heap[b]? = some (.cells #[.bool (f 0), .bool (f 1), .bool (f 2), .bool (f 3), .bool (f 4), .bool (f 5), .bool (f 6), .bool (f 7)] t (0, 0))) (h : k < 8) : w.cell? ⟨b, k, none⟩ = some (.bool (f k)) := by
  simp only [World.cell?, hb]
  exact at8 f k h
theorem free_of8 {w : World} {b k : Nat} {f : Nat → Bool} {t : TypeId} (hb : w.heap[b]? = some (.cells #[.bool (f 0), .bool (f 1), .bool (f 2), .bool (f 3), .bool (f 4), .bool (f 5), .bool (f 6), .bool (f 7)] t (0, 0))) : w.frozen? ⟨b, k, none⟩ = false := by simp [World.frozen?, hb]
theorem heap_two (w : World) (A B : Obj) : ((w.alloc A).alloc B).heap[w.heap.size]? = some A ∧ ((w.alloc A).alloc B).heap[w.heap.size + 1]? = some B := by
  refine ⟨?_, ?_⟩ <;> (simp only [World.alloc, Array.getElem?_push, Array.size_push]; simp)
theorem mixAnd_zero (x y : Nat → Bool) (i : Nat) : mixAnd x y 0 i = x i := by unfold mixAnd; rw [if_neg (by omega)]
theorem mixOr_zero (x y : Nat → Bool) (i : Nat) : mixOr x y 0 i = x i := by unfold mixOr; rw [if_neg (by omega)]
theorem sm_congr {f g : Nat → Bool} : ∀ k, (∀ i, i < k → f i = g i) → sm f k = sm g k
  | 0, _ => rfl
  | k + 1, h => by unfold sm; rw [sm_congr k (fun i hi => h i (by omega)), h k (by omega)]
theorem sm_bits (z : BitVec 8) : sm (bit8 z) 8 = c8 z := by
  have e : ∀ k, ((if bit8 z k = true then 2 ^ k else 0 : Nat) : Int) = ((z.toNat / 2 ^ k % 2 * 2 ^ k : Nat) : Int) := by
    intro k
    rw [bit8_eq]
    by_cases h : z.toNat / 2 ^ k % 2 = 1
    · rw [if_pos (by simpa using h), h]; simp
    · rw [if_neg (by simpa using h)]
      have : z.toNat / 2 ^ k % 2 = 0 := by omega
      rw [this]; simp
  have hz := z.isLt
  simp only [sm, e]
  unfold c8
  generalize z.toNat = n at hz
  omega
theorem mixAnd_bits (x y : BitVec 8) : sm (mixAnd (bit8 x) (bit8 y) 8) 8 = c8 (x &&& y) := by
  rw [← sm_bits]
  refine sm_congr 8 fun i hi => ?_
  unfold mixAnd
  rw [if_pos hi]
  simp [bit8]
theorem mixOr_bits (x y : BitVec 8) : sm (mixOr (bit8 x) (bit8 y) 8) 8 = c8 (x ||| y) := by
  rw [← sm_bits]
  refine sm_congr 8 fun i hi => ?_
  unfold mixOr
  rw [if_pos hi]
  simp [bit8]
/-- What holds of memory at each round's head: the array that is written, the one that is read. -/
structure Two8 (w w' : World) (b : Nat) (f g : Nat → Bool) : Prop where mk :: (lo : w.heap.size ≤ b) (one : w'.heap[b]? = some (.cells #[.bool (f 0), .bool (f 1), .bool (f 2), .bool (f 3), .bool (f 4), .bool (f 5), .bool (f 6), .bool (f 7)] 37 (0, 0))) (two : w'.heap[b + 1]? = some (.cells #[.bool (g 0), .bool (g 1), .bool (g 2), .bool (g 3), .bool (g 4), .bool (g 5), .bool (g 6), .bool (g 7)] 37 (0, 0))) (below : Below w.heap.size w w')
set_option maxHeartbeats 1000000 in
set_option maxRecDepth 100000 in
theorem ref_meet (x y : BitVec 8) (w : World) :
    Calls Tryd.prog 18 #[.int .u8 (c8 x), .int .u8 (c8 y)] w fun e w' => e = .returned (.int .u8 (c8 (x &&& y))) ∧ Below w.heap.size w w' := by
  go_enter Tryd.func18, Tryd.ntmps18
  go_wp2_with fail
  refine (bits_any x _).mono ?_
  rintro e w1 ⟨rfl, hb1⟩
  go_wp2_with fail
  refine (bits_any y _).mono ?_
  rintro e w2 ⟨rfl, hb2⟩
  go_wp2_with fail
  go_loopw [7] (fun i wr => ∃ k : Nat, k ≤ 8 ∧ i = .int .i64 k ∧ Two8 w wr w2.heap.size (mixAnd (bit8 x) (bit8 y) k) (bit8 y)) (fun i _ => 8 - (intOf i).toNat)
  case atStart =>
    refine ⟨0, by omega, rfl, ⟨(bthen hb1 hb2).size, ?_, (heap_two _ _ _).2, below_alloc (below_alloc (bthen hb1 hb2) _) _⟩⟩
    simp only [mixAnd_zero]
    exact (heap_two _ _ _).1
  case round =>
    obtain ⟨k, hk, rfl, H⟩ := hrel
    by_cases hlt : k < 8
    · have hcx := cell_of8 (k := k) H.one hlt
      have hcy := cell_of8 (k := k) H.two hlt
      have hfr := free_of8 (k := k) H.one
      have ex : mixAnd (bit8 x) (bit8 y) k k = bit8 x k := by unfold mixAnd; rw [if_neg (by omega)]
      rw [ex] at hcx
      clear ex
      cases hx : bit8 x k with
      | false =>
        rw [hx] at hcx
        have HX := Lib.hid hx
        clear hx
        go_wp2
        go_roundw
        case rel => exact ⟨k + 1, by omega, by go_num, ⟨H.lo, heap8 H.one hlt (by unfold mixAnd; rw [if_pos (by omega), HX.out]; rfl) (fun i hi => by unfold mixAnd; by_cases h : i < k; (rw [if_pos h, if_pos (by omega)]); rw [if_neg h, if_neg (by omega)]), by rw [heap_setCell_other _ _ _ _ (by simp)]; exact H.two, H.below.setCell H.lo _⟩⟩
        case measure => simp [intOf]; omega
      | true =>
        rw [hx] at hcx
        have HX := Lib.hid hx
        clear hx
        go_wp2
        go_roundw
        case rel => exact ⟨k + 1, by omega, by go_num, ⟨H.lo, heap8 H.one hlt (by unfold mixAnd; rw [if_pos (by omega), HX.out]; rfl) (fun i hi => by unfold mixAnd; by_cases h : i < k; (rw [if_pos h, if_pos (by omega)]); rw [if_neg h, if_neg (by omega)]), by rw [heap_setCell_other _ _ _ _ (by simp)]; exact H.two, H.below.setCell H.lo _⟩⟩
        case measure => simp [intOf]; omega
    · have hk8 : k = 8 := by omega
      subst hk8
      have c0 := cell_of8 (k := 0) H.one (by omega)
      have c1 := cell_of8 (k := 1) H.one (by omega)
      have c2 := cell_of8 (k := 2) H.one (by omega)
      have c3 := cell_of8 (k := 3) H.one (by omega)
      have c4 := cell_of8 (k := 4) H.one (by omega)
      have c5 := cell_of8 (k := 5) H.one (by omega)
      have c6 := cell_of8 (k := 6) H.one (by omega)
      have c7 := cell_of8 (k := 7) H.one (by omega)
      go_wp2_with fail
      refine (of_any (mixAnd (bit8 x) (bit8 y) 8) _).mono ?_
      rintro e w3 ⟨rfl, hb3⟩
      go_wp2
      go_ret
      exact ⟨by rw [← mixAnd_bits]; rfl, bthen H.below hb3⟩
set_option maxHeartbeats 1000000 in
set_option maxRecDepth 100000 in
theorem ref_join (x y : BitVec 8) (w : World) :
    Calls Tryd.prog 19 #[.int .u8 (c8 x), .int .u8 (c8 y)] w fun e w' => e = .returned (.int .u8 (c8 (x ||| y))) ∧ Below w.heap.size w w' := by
  go_enter Tryd.func19, Tryd.ntmps19
  go_wp2_with fail
  refine (bits_any x _).mono ?_
  rintro e w1 ⟨rfl, hb1⟩
  go_wp2_with fail
  refine (bits_any y _).mono ?_
  rintro e w2 ⟨rfl, hb2⟩
  go_wp2_with fail
  go_loopw [7] (fun i wr => ∃ k : Nat, k ≤ 8 ∧ i = .int .i64 k ∧ Two8 w wr w2.heap.size (mixOr (bit8 x) (bit8 y) k) (bit8 y)) (fun i _ => 8 - (intOf i).toNat)
  case atStart =>
    refine ⟨0, by omega, rfl, ⟨(bthen hb1 hb2).size, ?_, (heap_two _ _ _).2, below_alloc (below_alloc (bthen hb1 hb2) _) _⟩⟩
    simp only [mixOr_zero]
    exact (heap_two _ _ _).1
  case round =>
    obtain ⟨k, hk, rfl, H⟩ := hrel
    by_cases hlt : k < 8
    · have hcx := cell_of8 (k := k) H.one hlt
      have hcy := cell_of8 (k := k) H.two hlt
      have hfr := free_of8 (k := k) H.one
      have ex : mixOr (bit8 x) (bit8 y) k k = bit8 x k := by unfold mixOr; rw [if_neg (by omega)]
      rw [ex] at hcx
      clear ex
      cases hx : bit8 x k with
      | false =>
        rw [hx] at hcx
        have HX := Lib.hid hx
        clear hx
        go_wp2
        go_roundw
        case rel => exact ⟨k + 1, by omega, by go_num, ⟨H.lo, heap8 H.one hlt (by unfold mixOr; rw [if_pos (by omega), HX.out]; rfl) (fun i hi => by unfold mixOr; by_cases h : i < k; (rw [if_pos h, if_pos (by omega)]); rw [if_neg h, if_neg (by omega)]), by rw [heap_setCell_other _ _ _ _ (by simp)]; exact H.two, H.below.setCell H.lo _⟩⟩
        case measure => simp [intOf]; omega
      | true =>
        rw [hx] at hcx
        have HX := Lib.hid hx
        clear hx
        go_wp2
        go_roundw
        case rel => exact ⟨k + 1, by omega, by go_num, ⟨H.lo, heap8 H.one hlt (by unfold mixOr; rw [if_pos (by omega), HX.out]; rfl) (fun i hi => by unfold mixOr; by_cases h : i < k; (rw [if_pos h, if_pos (by omega)]); rw [if_neg h, if_neg (by omega)]), by rw [heap_setCell_other _ _ _ _ (by simp)]; exact H.two, H.below.setCell H.lo _⟩⟩
        case measure => simp [intOf]; omega
    · have hk8 : k = 8 := by omega
      subst hk8
      have c0 := cell_of8 (k := 0) H.one (by omega)
      have c1 := cell_of8 (k := 1) H.one (by omega)
      have c2 := cell_of8 (k := 2) H.one (by omega)
      have c3 := cell_of8 (k := 3) H.one (by omega)
      have c4 := cell_of8 (k := 4) H.one (by omega)
      have c5 := cell_of8 (k := 5) H.one (by omega)
      have c6 := cell_of8 (k := 6) H.one (by omega)
      have c7 := cell_of8 (k := 7) H.one (by omega)
      go_wp2_with fail
      refine (of_any (mixOr (bit8 x) (bit8 y) 8) _).mono ?_
      rintro e w3 ⟨rfl, hb3⟩
      go_wp2
      go_ret
      exact ⟨by rw [← mixOr_bits]; rfl, bthen H.below hb3⟩
end Go.Proofs.YtcgpnnbmflacnaaDoor.S
