/-
  The reference's Take, walked: it answers what Take answers.
-/
import Derived.Test.YtnohcfgjhgfjkaaDoorRep25k
namespace Go.Proofs.YtnohcfgjhgfjkaaDoor.S
open Go.RowKit Go.Proofs.YtnohcfgjhgfjkaaDoorW.PrintWords
set_option linter.unusedVariables false
set_option linter.unusedSimpArgs false
structure RT (w wr : World) (g : Nat) : Prop where mk ::
  (below : Below w.heap.size w wr) (z : wr.heap[w.heap.size]? = some (.cells #[.int .i64 0, .slice none 0 0, .bool false] 24 (0, 0))) (l : wr.heap[g]? = some (.cells #[.int .i64 200, .int .i64 201, .int .i64 400, .int .i64 401, .int .i64 403, .int .i64 404, .int .i64 405, .int .i64 409, .int .i64 413, .int .i64 431, .int .i64 507] 37 (0, 0)))
theorem RT.step {w wr w1 : World} {g : Nat} (h : RT w wr g) (hb : Below wr.heap.size wr w1) : RT w w1 g :=
  ⟨bthen h.below hb, (hb.block _ (lt_of_block h.z)).trans h.z, (hb.block _ (lt_of_block h.l)).trans h.l⟩
theorem RT.cell {w wr : World} {g : Nat} (h : RT w wr g) (p : Nat) (hp : p < 11) : wr.cell? ⟨g, p, none⟩ = some (.int .i64 (nums11.getD p 0)) := by
  have := h.l
  simp only [World.cell?, this]
  have : ∀ p, p < 11 → (#[.int .i64 200, .int .i64 201, .int .i64 400, .int .i64 401, .int .i64 403, .int .i64 404, .int .i64 405, .int .i64 409, .int .i64 413, .int .i64 431, .int .i64 507] : Array Value)[p]? = some (.int .i64 (nums11.getD p 0)) := by
    intro p hp
    rcases (show p = 0 ∨ p = 1 ∨ p = 2 ∨ p = 3 ∨ p = 4 ∨ p = 5 ∨ p = 6 ∨ p = 7 ∨ p = 8 ∨ p = 9 ∨ p = 10 by omega) with rfl | rfl | rfl | rfl | rfl | rfl | rfl | rfl | rfl | rfl | rfl <;> rfl
  exact this p hp
theorem drop11 (p : Nat) (hp : p < 11) : nums11.drop p = nums11.getD p 0 :: nums11.drop (p + 1) ∧ nums11.getD p 0 ∈ nums11 := by
  have : ∀ p, p < 11 → nums11.drop p = nums11.getD p 0 :: nums11.drop (p + 1) ∧ nums11.getD p 0 ∈ nums11 := by decide
  exact this p hp
/-- A text as long as its list: what the walk asks of it. -/
theorem front_cut (st : Int) : (⟨(wholeL st 0 false).toArray⟩ : ByteArray).extract 0 (headL st).length = ⟨(headL st).toArray⟩ := by
  rw [extract_take]
  unfold wholeL
  rw [List.take_left]
theorem front_len (st : Int) : (wholeL st 0 false).length = (headL st).length + 5 := by
  unfold wholeL
  have : Lib.itoa 0 = [48] := by simp [Lib.itoa, Lib.decDigits]
  rw [this]; simp [tailL]
theorem refFrom_cons (st : Int) (l : List Int) (b : List UInt8) (s : Bool) : refFrom (st :: l) b s = (match (refRound st b).2 with | some (body, c, m) => (st, body, c, m, 0) | none => refFrom l b (s || (refRound st b).1)) := rfl
theorem from_none {st : Int} {l : List Int} {b : List UInt8} {s t : Bool} {r : Int × List UInt8 × Bool × Int × Int} (h : refFrom (st :: l) b s = r) (hr : refRound st b = (t, none)) : refFrom l b (s || t) = r := by
  rw [refFrom_cons, hr] at h
  exact h
theorem from_some {st : Int} {l : List Int} {b body : List UInt8} {s t c : Bool} {m : Int} {r : Int × List UInt8 × Bool × Int × Int} (h : refFrom (st :: l) b s = r) (hr : refRound st b = (t, some (body, c, m))) : r = (st, body, c, m, 0) := by
  rw [refFrom_cons, hr] at h
  exact h.symm
theorem mem_take_le {α : Type} {a : α} {x : List α} {i j : Nat} (h : a ∈ x.take i) (hij : i ≤ j) : a ∈ x.take j := by
  have e : x.take i = (x.take j).take i := by rw [List.take_take, Nat.min_eq_left hij]
  rw [e] at h
  exact List.mem_of_mem_take h
def InS (st n : Int) (s : List UInt8) (t : Bool) : Nat → Bool → Prop
  | 0, t2 => t2 = t
  | 1, t2 => (refEnd st n s false).2 = none ∧ t2 = (t || (refEnd st n s false).1)
  | _, t2 => (refBoth st n s).2 = none ∧ t2 = (t || (refBoth st n s).1)
theorem refEnd_no {st n : Int} {b : List UInt8} {c : Bool} (h : begL (wholeL st n c) b = false) : refEnd st n b c = (false, none) := by unfold refEnd; rw [if_pos h]
theorem refEnd_short {st n : Int} {b : List UInt8} {c : Bool} (h : ¬ begL (wholeL st n c) b = false) (h2 : b.length < (wholeL st n c).length ∨ (b.length : Int) - (wholeL st n c).length < n) : refEnd st n b c = (true, none) := by unfold refEnd; rw [if_neg h, if_pos h2]
theorem refEnd_some {st n : Int} {b : List UInt8} {c : Bool} (h : ¬ begL (wholeL st n c) b = false) (h2 : ¬ (b.length < (wholeL st n c).length ∨ (b.length : Int) - (wholeL st n c).length < n)) : refEnd st n b c = (false, some ((b.drop (wholeL st n c).length).take n.toNat, c, (wholeL st n c).length + n)) := by unfold refEnd; rw [if_neg h, if_neg h2]
theorem ins_skip0 {st n : Int} {s : List UInt8} {t t2 : Bool} (h : InS st n s t 0 t2) (h2 : refEnd st n s false = (false, none)) : InS st n s t 1 t2 := by
  obtain rfl : t2 = t := h
  exact ⟨by rw [h2], by rw [h2]; simp⟩
theorem ins_short0 {st n : Int} {s : List UInt8} {t t2 : Bool} (h : InS st n s t 0 t2) (h2 : refEnd st n s false = (true, none)) : InS st n s t 1 true := ⟨by rw [h2], by rw [h2]; simp⟩
theorem ins_skip1 {st n : Int} {s : List UInt8} {t t2 : Bool} (h : InS st n s t 1 t2) (h2 : refEnd st n s true = (false, none)) : InS st n s t 2 t2 := by
  obtain ⟨h3, h4⟩ := h
  have hb : refBoth st n s = ((refEnd st n s false).1, none) := by unfold refBoth; rw [h3, h2]; simp
  exact ⟨by rw [hb], by rw [hb]; exact h4⟩
theorem ins_short1 {st n : Int} {s : List UInt8} {t t2 : Bool} (h : InS st n s t 1 t2) (h2 : refEnd st n s true = (true, none)) : InS st n s t 2 true := by
  obtain ⟨h3, h4⟩ := h
  have hb : refBoth st n s = (true, none) := by unfold refBoth; rw [h3, h2]; simp
  exact ⟨by rw [hb], by rw [hb]; simp⟩
theorem ins_end {st n : Int} {s : List UInt8} {t t2 : Bool} {l : List Int} {r : Int × List UInt8 × Bool × Int × Int} (h : refFrom (st :: l) s t = r) (h2 : refRound st s = refBoth st n s) (h3 : InS st n s t 2 t2) : refFrom l s t2 = r := by
  obtain ⟨h4, h5⟩ := h3
  rw [h5]
  exact from_none h (by rw [h2]; exact Prod.ext rfl h4)
theorem some0 {st n : Int} {s body : List UInt8} {t c : Bool} {m : Int} {l : List Int} {r : Int × List UInt8 × Bool × Int × Int} (h : refFrom (st :: l) s t = r) (h2 : refRound st s = refBoth st n s) (h3 : refEnd st n s false = (false, some (body, c, m))) : r = (st, body, c, m, 0) := by
  refine from_some (t := false) h ?_
  rw [h2]; unfold refBoth; rw [h3]
theorem some1 {st n : Int} {s body : List UInt8} {t t2 c : Bool} {m : Int} {l : List Int} {r : Int × List UInt8 × Bool × Int × Int} (h : refFrom (st :: l) s t = r) (h2 : refRound st s = refBoth st n s) (hi : InS st n s t 1 t2) (h3 : refEnd st n s true = (false, some (body, c, m))) : r = (st, body, c, m, 0) := by
  refine from_some (t := (refEnd st n s false).1) h ?_
  rw [h2]; unfold refBoth; rw [hi.1, h3]; simp
theorem wholeN_len (st n : Int) (c : Bool) (h0 : -9223372036854775808 ≤ st) (h1 : st ≤ 9223372036854775807) (n0 : 0 ≤ n) (n1 : n ≤ 9223372036854775807) : (wholeL st n c).length ≤ 124 := by
  have := headL_len st h0 h1
  have := tailL_len c
  have := Lib.itoa_length_le n (by omega) n1
  unfold wholeL; simp; omega
/-- What is kept while the answer is put together. -/
def RQ (w w1 : World) (g : Nat) : Prop := Below w.heap.size w w1 ∧ g ≠ w.heap.size ∧ w.heap.size < w1.heap.size ∧ ∃ cs : Array Value, w1.heap[w.heap.size]? = some (.cells cs 24 (0, 0)) ∧ cs.size = 3
theorem RT.q {w wr : World} {g : Nat} (h : RT w wr g) : RQ w wr g := ⟨h.below, fun e => by
  have h1 := h.l
  rw [e, h.z] at h1
  simp at h1, lt_of_block h.z, _, h.z, rfl⟩
theorem keepQ {w w1 w2 : World} {g k : Nat} {u : Value} (h : w1.cell? ⟨g, k, none⟩ = some u ∧ RQ w w1 g) (hb : Below w1.heap.size w1 w2) : w2.cell? ⟨g, k, none⟩ = some u ∧ RQ w w2 g := by
  obtain ⟨h1, h2, h3, h5, cs, h4, h6⟩ := h
  exact ⟨pw_cell_below hb h1, bthen h2 hb, h3, Nat.lt_of_lt_of_le h5 hb.size, cs, (hb.block _ (lt_of_block h4)).trans h4, h6⟩
theorem keepD {w w1 : World} {g k : Nat} {u : Value} (h : w1.cell? ⟨g, k, none⟩ = some u ∧ RQ w w1 g) : w1.drew.cell? ⟨g, k, none⟩ = some u ∧ RQ w w1.drew g := ⟨h.1, h.2.1.drew, h.2.2⟩
theorem keepS {w w1 : World} {g k : Nat} {u : Value} (h : w1.cell? ⟨g, k, none⟩ = some u ∧ RQ w w1 g) (a b c : Value) : (w1.setRow w.heap.size #[a, b, c]).cell? ⟨g, k, none⟩ = some u ∧ RQ w (w1.setRow w.heap.size #[a, b, c]) g := by
  obtain ⟨h1, h2, h3, h5, cs, h4, h6⟩ := h
  refine ⟨?_, below_setRow h2 (Nat.le_refl _) _, h3, by simpa [World.setRow] using h5, _, setRow_heap _ _ _ _ _ _ h4, rfl⟩
  rw [← h1]
  have : w.heap.size ≠ g := fun e => h3 e.symm
  simp only [World.cell?, World.setRow]
  rw [Array.getElem?_modify, if_neg this]
section
variable {P : Program} {ops : Array Oper} {o : Oper} {a : Act} {K : Act → World → Prop} {Q : Exit → Act → World → Prop} {E : Prop} {w : World}
theorem step_store_row (hgd : o.guard = none) (ty : TypeId) (x y : Operand) (ho : o.op = .store ty x y) (g : Nat) (cells : Array Value) (hx : a.eval x = .pointer (some ⟨g, 0, none⟩)) (hy : a.eval y = .agg cells)
    (t : TypeId) (old : Array Value) (hg : w.heap[g]? = some (.cells old t (0, 0))) (hi : (P.info? ty).map (·.size) = some cells.size) (hold : old.size = cells.size) (h1 : cells.all (·.oneCell') = true)
    (h : K (a.put o.dst undef) (w.setRow g cells)) : if Region.wanted o (yielded ops a.tmps) = true then Oper.wp P o a w K Q else E := by
  rw [if_pos (by simp [Region.wanted, hgd])]
  exact wp_store_row ty x y ho g cells hx hy t old hg hi hold h1 h
theorem step_build (hg : o.guard = none) (t : TypeId) (parts : Array (Nat × Operand)) (ho : o.op = .build t parts) (cells : Array Value) (hf : P.built t (parts.map fun (i, x) => (i, a.eval x)).toList = some cells)
    (h : K (a.put o.dst (.agg cells)) w) : if Region.wanted o (yielded ops a.tmps) = true then Oper.wp P o a w K Q else E := by
  rw [if_pos (by simp [Region.wanted, hg])]
  refine wp_build t parts ho (by rw [hf]; rfl) ?_
  rw [hf]
  exact h
end
theorem refRound_a {st : Int} {b : List UInt8} (h : begL (headL st) b = false) : refRound st b = (false, none) := round_no h
theorem refRound_b {st : Int} {b : List UInt8} (h : ¬ begL (headL st) b = false) (h2 : b.length ≤ (headL st).length) : refRound st b = (true, none) := by unfold refRound; rw [if_neg h, if_pos h2]
theorem refRound_c {st : Int} {b : List UInt8} (h : ¬ begL (headL st) b = false) (h2 : ¬ b.length ≤ (headL st).length) (h3 : (numOfL (digW b (headL st).length)).2 ≠ 0) : refRound st b = (false, none) := by unfold refRound; rw [if_neg h, if_neg h2, if_pos h3]
theorem refRound_d {st : Int} {b : List UInt8} (h : ¬ begL (headL st) b = false) (h2 : ¬ b.length ≤ (headL st).length) (h3 : ¬ (numOfL (digW b (headL st).length)).2 ≠ 0) (h4 : b.length = (headL st).length + (digW b (headL st).length).length) : refRound st b = (true, none) := by unfold refRound; rw [if_neg h, if_neg h2, if_neg h3, if_pos h4]
theorem refRound_e {st : Int} {b : List UInt8} (h : ¬ begL (headL st) b = false) (h2 : ¬ b.length ≤ (headL st).length) (h3 : ¬ (numOfL (digW b (headL st).length)).2 ≠ 0) (h4 : ¬ b.length = (headL st).length + (digW b (headL st).length).length) : refRound st b = refBoth st (numOfL (digW b (headL st).length)).1 b := by unfold refRound; rw [if_neg h, if_neg h2, if_neg h3, if_neg h4]
set_option maxHeartbeats 4000000 in
set_option maxRecDepth 100000 in
theorem ref_take_any (s : List UInt8) (A : Option Addr) (cap : Nat) (l : List Int) (w : World) (hs : strOfNums l = ⟨s.toArray⟩) (hn : s.length = l.length) (hR : ReadsInt w .u8 A l.length l) (hlen : l.length ≤ 100000) :
    Calls Tryd.prog 16 #[.slice A l.length cap] w fun e w' => TakeOut s w w' e := by
  have hsl : s.length ≤ 100000 := by omega
  have cS := Lib.hid ref_statuses_any
  have cH : Hid (∀ st n c w, -9223372036854775808 ≤ st → st ≤ 9223372036854775807 → -9223372036854775808 ≤ n → n ≤ 9223372036854775807 → Calls Tryd.prog 22 #[.int .i64 st, .int .i64 n, .bool c] w fun e w' => e = .returned (.string ⟨(wholeL st n c).toArray⟩) ∧ Below w.heap.size w w') := Lib.hid fun st n c w h0 h1 h2 h3 => ref_head_any st n c h0 h1 h2 h3 w
  have hBz : (⟨s.toArray⟩ : ByteArray).size = s.length := size_mk _
  have cB : Hid (∀ (a : List UInt8) w, Calls Tryd.prog 26 #[.string ⟨a.toArray⟩, .string ⟨s.toArray⟩] w fun e w' => e = .returned (.bool (begL a s)) ∧ Below w.heap.size w w') := Lib.hid fun a w => begins_any a s w
  have cD : Hid (∀ (x : Nat) w, x ≤ s.length → Calls Tryd.prog 27 #[.string ⟨s.toArray⟩, .int .i64 x] w fun e w' => e = .returned (.string ⟨(digW s x).toArray⟩) ∧ Drawn0 w w') := Lib.hid fun x w hx => cofferref25_digits.calls _ _ _ _ w (digits_f s (by omega) x hx 21 (Nat.le_refl _))
  have cN : Hid (∀ (v : List UInt8) w, v.length ≤ 1048576 → Calls Tryd.prog 28 #[.string ⟨v.toArray⟩] w fun e w' => e = .returned (.tuple #[.int .i64 (numOfL v).1, .int .i64 (numOfL v).2]) ∧ Drawn0 w w') := Lib.hid fun v w hv => cofferref4_Number.calls _ _ _ _ w (by
    have := ref_number_f ⟨v.toArray⟩ (by rw [size_mk]; exact hv) _ (Nat.le_refl _)
    rw [size_mk] at this
    exact this)
  have hcx := Kd.C_string (P := Tryd.prog) (src := 22) (e := 5) (dst := 9) (c := cap) Tryd.underlying22 Tryd.underlying5 Tryd.underlying9 (C_of_reads (hR.below (below_alloc (Below.refl w.heap.size w) (.cells #[.int .i64 0, .slice none 0 0, .bool false] 24))))
  rw [hs] at hcx
  have HN := Lib.hid hn
  have hB1 : (⟨s.toArray⟩ : ByteArray).size ≤ 100000 := by omega
  have hsx : ∀ x y : Nat, (⟨s.toArray⟩ : ByteArray).extract x y = ⟨((s.drop x).take (y - x)).toArray⟩ := extract_mid s
  have HSX := Lib.hid hsx
  have HBZ := Lib.hid hBz
  clear hR hs hn hBz hsx
  generalize (⟨s.toArray⟩ : ByteArray) = B at *
  go_enter Tryd.func16, Tryd.ntmps16
  go_wp2_with fail
  refine (cS.out _).mono ?_
  rintro e w2 ⟨rfl, hb2⟩
  have hz2 : w2.heap[w.heap.size]? = some (.cells #[.int .i64 0, .slice none 0 0, .bool false] 24 (0, 0)) := (hb2.block _ (by simp)).trans (heap_alloc_new w _)
  have hbw : Below w.heap.size w w2 := bthen (below_alloc (Below.refl _ _) _) hb2
  have Z2 := Lib.hid hz2
  clear hz2 hb2 hcx
  go_wp2_with ((refine wpList_store_row rfl 37 _ _ rfl w2.heap.size #[.int .i64 200, .int .i64 201, .int .i64 400, .int .i64 401, .int .i64 403, .int .i64 404, .int .i64 405, .int .i64 409, .int .i64 413, .int .i64 431, .int .i64 507] rfl rfl 37 #[.int .i64 0, .int .i64 0, .int .i64 0, .int .i64 0, .int .i64 0, .int .i64 0, .int .i64 0, .int .i64 0, .int .i64 0, .int .i64 0, .int .i64 0] (heap_alloc_new w2 _) info11 rfl one11 ?_); refine Hid.out ?_)
  refine Lib.hid ?_
  have f1 := setRow_heap (w2.alloc (.cells #[.int .i64 0, .int .i64 0, .int .i64 0, .int .i64 0, .int .i64 0, .int .i64 0, .int .i64 0, .int .i64 0, .int .i64 0, .int .i64 0, .int .i64 0] 37)) w2.heap.size #[.int .i64 0, .int .i64 0, .int .i64 0, .int .i64 0, .int .i64 0, .int .i64 0, .int .i64 0, .int .i64 0, .int .i64 0, .int .i64 0, .int .i64 0] #[.int .i64 200, .int .i64 201, .int .i64 400, .int .i64 401, .int .i64 403, .int .i64 404, .int .i64 405, .int .i64 409, .int .i64 413, .int .i64 431, .int .i64 507] 37 _ (heap_alloc_new w2 _)
  have f2 := below_setRow (below_alloc (Below.refl w2.heap.size w2) (.cells #[.int .i64 0, .int .i64 0, .int .i64 0, .int .i64 0, .int .i64 0, .int .i64 0, .int .i64 0, .int .i64 0, .int .i64 0, .int .i64 0, .int .i64 0] 37)) (Nat.le_refl _) #[.int .i64 200, .int .i64 201, .int .i64 400, .int .i64 401, .int .i64 403, .int .i64 404, .int .i64 405, .int .i64 409, .int .i64 413, .int .i64 431, .int .i64 507]
  generalize (w2.alloc (.cells #[.int .i64 0, .int .i64 0, .int .i64 0, .int .i64 0, .int .i64 0, .int .i64 0, .int .i64 0, .int .i64 0, .int .i64 0, .int .i64 0, .int .i64 0] 37)).setRow w2.heap.size #[.int .i64 200, .int .i64 201, .int .i64 400, .int .i64 401, .int .i64 403, .int .i64 404, .int .i64 405, .int .i64 409, .int .i64 413, .int .i64 431, .int .i64 507] = w3 at f1 f2
  have hW : RT w w3 w2.heap.size := ⟨bthen hbw f2, (f2.block _ (lt_of_block Z2.out)).trans Z2.out, f1⟩
  have HW0 := Lib.hid hW
  clear f1 f2 hbw Z2 hW
  generalize w2.heap.size = g at HW0 ⊢
  go_wp2_with fail

  go_loopw [7, 8] (fun v7 i wr => ∃ (k : Nat) (t : Bool), k ≤ 11 ∧ i = .int .i64 k ∧ v7 = .bool t ∧ Hid (refFrom (nums11.drop k) s t = refFrom nums11 s false) ∧ RT w wr g) (fun _ i _ => 11 - (intOf i).toNat)
  case atStart => exact ⟨0, false, by omega, rfl, rfl, Lib.hid rfl, HW0.out⟩
  case round =>
    obtain ⟨k, t, hk, rfl, rfl, H, HW⟩ := hrel
    rename_i wr
    by_cases hk2 : k < 11
    · obtain ⟨hd, hm⟩ := drop11 k hk2
      have c0 := HW.cell k hk2
      rw [hd] at H
      generalize hSTT : nums11.getD k 0 = st at *
      have HST := Lib.hid hSTT
      clear hSTT
      have hs0 : -9223372036854775808 ≤ st ∧ st ≤ 9223372036854775807 := by
        have : ∀ a ∈ nums11, (-9223372036854775808 : Int) ≤ a ∧ a ≤ 9223372036854775807 := by decide
        exact this st hm
      have hfl := headL_len st hs0.1 hs0.2
      have hx1 : (⟨(wholeL st 0 false).toArray⟩ : ByteArray).size = (headL st).length + 5 := by rw [size_mk, front_len]
      have hx2 : (⟨(wholeL st 0 false).toArray⟩ : ByteArray).extract 0 (((⟨(wholeL st 0 false).toArray⟩ : ByteArray).size : Int) - 5).toNat = ⟨(headL st).toArray⟩ := by
        rw [hx1, show (((headL st).length + 5 : Nat) : Int) - 5 = ((headL st).length : Int) by omega, Int.toNat_natCast]; exact front_cut st
      have ch := Lib.hid (fun w => cH.out st 0 false w hs0.1 hs0.2 (by omega) (by omega))
      have HS0 := Lib.hid hs0
      have HM := Lib.hid hm
      have hx3 : 5 ≤ (⟨(wholeL st 0 false).toArray⟩ : ByteArray).size := by omega
      have hx4 : (⟨(wholeL st 0 false).toArray⟩ : ByteArray).size ≤ 200 := by omega
      have HX2 := Lib.hid hx2
      generalize (⟨(wholeL st 0 false).toArray⟩ : ByteArray) = x at *
      have cb := Lib.hid (cB.out (headL st))
      have hF : (⟨(headL st).toArray⟩ : ByteArray).size = (headL st).length := size_mk _
      have HF := Lib.hid hF
      have hdl : (digW s (headL st).length).length ≤ 20 := by unfold digW; rw [List.length_take]; omega
      have hwz : (⟨(digW s (headL st).length).toArray⟩ : ByteArray).size = (digW s (headL st).length).length := size_mk _
      have HWZ := Lib.hid hwz
      have hwz1 : (⟨(digW s (headL st).length).toArray⟩ : ByteArray).size ≤ 20 := by omega
      have cd : Hid (∀ w, (headL st).length ≤ s.length → Calls Tryd.prog 27 #[.string B, .int .i64 ((⟨(headL st).toArray⟩ : ByteArray).size : Int)] w fun e w' => e = .returned (.string ⟨(digW s (headL st).length).toArray⟩) ∧ Drawn0 w w') := Lib.hid fun w hx => by rw [hF]; exact cD.out _ w hx
      have cn : Hid (∀ w, Calls Tryd.prog 28 #[.string ⟨(digW s (headL st).length).toArray⟩] w fun e w' => e = .returned (.tuple #[.int .i64 (numOfL (digW s (headL st).length)).1, .int .i64 (numOfL (digW s (headL st).length)).2]) ∧ Drawn0 w w') := Lib.hid fun w => cN.out _ w (by omega)
      have hF1 : (⟨(headL st).toArray⟩ : ByteArray).size ≤ 80 := by omega
      have HWh := Lib.hid HW
      have hdd : ∀ c ∈ digW s (headL st).length, 48 ≤ c.toNat ∧ c.toNat ≤ 57 := fun c hc => dig_take _ c (by unfold digW at hc; exact mem_take_le hc (Nat.min_le_right _ _))
      have hnn := fun h => (itoa_of_num _ hdd h).2
      have HNN := Lib.hid hnn
      have hB1' : s.length ≤ 100000 := hsl
      generalize (⟨(headL st).toArray⟩ : ByteArray) = F at *
      have Ra := @refRound_a st s
      have Rb := @refRound_b st s
      have Rc := @refRound_c st s
      have Rd := @refRound_d st s
      have Re := @refRound_e st s
      generalize digW s (headL st).length = Wl at *
      generalize numOfL Wl = N at *
      generalize (⟨Wl.toArray⟩ : ByteArray) = W at *
      obtain ⟨n, e0⟩ := N
      have RA := Lib.hid Ra
      have RB := Lib.hid Rb
      have RC := Lib.hid Rc
      have RD := Lib.hid Rd
      have RE := Lib.hid Re
      clear hd hm hx1 hx2 HW hF hwz Ra Rb Rc Rd Re hdd hnn
      go_wp2_with fail
      refine (ch.out _).mono ?_
      rintro e w4 ⟨rfl, hb4⟩
      replace HWh := Lib.hid (HWh.out.step hb4)
      clear hb4 ch c0
      have hx2 := HX2.out
      go_wp2_with fail
      clear hx2
      refine (cb.out _).mono ?_
      rintro e w5 ⟨rfl, hb5⟩
      replace HWh := Lib.hid (HWh.out.step hb5)
      clear hb5 cb
      by_cases hbg : begL (headL st) s = false
      · rw [hbg]
        have hr := RA.out hbg
        have HR := Lib.hid (from_none H.out hr)
        clear hbg hr
        go_wp2
        go_roundw
        case rel => exact ⟨k + 1, t, by omega, by go_num, rfl, Lib.hid (by have := HR.out; simpa using this), HWh.out⟩
        case measure => simp [intOf]; omega
      · have hbt : begL (headL st) s = true := by simpa using hbg
        rw [hbt]
        have HBG := Lib.hid hbg
        clear hbg hbt
        by_cases hz1 : B.size ≤ F.size
        · have HR := Lib.hid (from_none H.out (RB.out HBG.out (by have := HF.out; have := HBZ.out; omega)))
          go_wp2
          go_roundw
          case rel => exact ⟨k + 1, true, by omega, by go_num, rfl, Lib.hid (by have := HR.out; simpa using this), HWh.out⟩
          case measure => simp [intOf]; omega
        · go_wp2_with fail
          refine (cd.out _ (by have := HF.out; have := HBZ.out; omega)).mono ?_
          rintro e w6 ⟨rfl, hd6⟩
          replace HWh := Lib.hid (HWh.out.step hd6.below)
          clear hd6 cd
          go_wp2_with fail
          refine (cn.out _).mono ?_
          rintro e w7 ⟨rfl, hd7⟩
          replace HWh := Lib.hid (HWh.out.step hd7.below)
          clear hd7 cn
          have HZ1 : Hid (¬ s.length ≤ (headL st).length) := Lib.hid (by have := HF.out; have := HBZ.out; omega)
          by_cases he0 : e0 = 0
          · subst he0
            have hn2 : 0 ≤ n ∧ n ≤ 9223372036854775807 := HNN.out rfl
            obtain ⟨hn20, hn21⟩ := hn2
            by_cases hz2 : B.size = F.size + W.size
            · have hzz : ((B.size : Int) == (F.size : Int) + (W.size : Int)) = true := by rw [beq_iff_eq]; omega
              have HR := Lib.hid (from_none H.out (RD.out HBG.out HZ1.out (by simp) (by have := HF.out; have := HBZ.out; have := HWZ.out; omega)))
              clear hz2
              go_wp2
              go_roundw
              case rel => exact ⟨k + 1, true, by omega, by go_num, rfl, Lib.hid (by have := HR.out; simpa using this), HWh.out⟩
              case measure => simp [intOf]; omega
            · have hzz : ((B.size : Int) == (F.size : Int) + (W.size : Int)) = false := by rw [beq_eq_false_iff_ne]; omega
              have HRE := Lib.hid (RE.out HBG.out HZ1.out (by simp) (by have := HF.out; have := HBZ.out; have := HWZ.out; omega))
              clear hz2
              go_wp2_with fail
              go_loopw [7, 13] (fun v7 j wr => ∃ (jj : Nat) (t2 : Bool), jj ≤ 2 ∧ j = .int .i64 jj ∧ v7 = .bool t2 ∧ Hid (InS st n s t jj t2) ∧ RT w wr g) (fun _ j _ => 2 - (intOf j).toNat)
              case atStart => exact ⟨0, t, by omega, rfl, rfl, Lib.hid rfl, HWh.out⟩
              case round =>
                obtain ⟨jj, t2, hjj, rfl, rfl, HI, HW⟩ := hrel
                clear HWh
                rcases (show jj = 0 ∨ jj = 1 ∨ jj = 2 by omega) with rfl | rfl | rfl
                · skip
                  have bw := wholeN_len st n false HS0.out.1 HS0.out.2 hn20 hn21
                  have ch := Lib.hid (fun w => cH.out st n false w HS0.out.1 HS0.out.2 (by omega) hn21)
                  have cb := Lib.hid (cB.out (wholeL st n false))
                  have hhz : (⟨(wholeL st n false).toArray⟩ : ByteArray).size = (wholeL st n false).length := size_mk _
                  have HHZ := Lib.hid hhz
                  have hh1 : (⟨(wholeL st n false).toArray⟩ : ByteArray).size ≤ 200 := by omega
                  generalize (⟨(wholeL st n false).toArray⟩ : ByteArray) = X at *
                  have HWh := Lib.hid HW
                  have c0 := HW.cell k hk2
                  rw [HST.out] at c0
                  clear HW hhz bw
                  go_wp2_with fail
                  refine (ch.out _).mono ?_
                  rintro e5 w5 ⟨rfl, hb5⟩
                  have HW := HWh.out.step hb5
                  clear HWh hb5 ch c0
                  go_wp2_with fail
                  refine (cb.out _).mono ?_
                  rintro e6 w6 ⟨rfl, hb6⟩
                  replace HW := HW.step hb6
                  clear hb6 cb
                  by_cases hbg : begL (wholeL st n false) s = false
                  · rw [hbg]
                    have HBG := Lib.hid hbg
                    have HWh := Lib.hid HW
                    clear hbg HW
                    go_wp2
                    go_roundw
                    case rel => exact ⟨1, t2, by omega, by go_num, rfl, Lib.hid (ins_skip0 HI.out (refEnd_no HBG.out)), HWh.out⟩
                    case measure => simp [intOf]
                  · have hbt : begL (wholeL st n false) s = true := by simpa using hbg
                    rw [hbt]
                    have HBG := Lib.hid hbg
                    have HWh := Lib.hid HW
                    clear hbg hbt HW
                    by_cases hz1 : B.size < X.size
                    · go_wp2
                      go_roundw
                      case rel => exact ⟨1, true, by omega, by go_num, rfl, Lib.hid (ins_short0 HI.out (refEnd_short HBG.out (by have := HHZ.out; have := HBZ.out; omega))), HWh.out⟩
                      case measure => simp [intOf]
                    · have hw1 : wrap64 ((B.size : Int) - (X.size : Int)) = (B.size : Int) - (X.size : Int) := by unfold wrap64; omega
                      by_cases hz2 : (B.size : Int) - (X.size : Int) < n
                      · go_wp2
                        go_roundw
                        case rel => exact ⟨1, true, by omega, by go_num, rfl, Lib.hid (ins_short0 HI.out (refEnd_short HBG.out (by have := HHZ.out; have := HBZ.out; omega))), HWh.out⟩
                        case measure => simp [intOf]
                      · have c0 := HWh.out.cell k hk2
                        rw [HST.out] at c0
                        have hsx := HSX.out X.size (X.size + n.toNat)
                        have hxn : wrap64 ((X.size : Int) + n) = (X.size : Int) + n := by unfold wrap64; omega
                        have hxt : ((X.size : Int) + n).toNat = X.size + n.toNat := by omega
                        have hxm : (X.size : Int) + n ≤ (B.size : Int) := by omega
                        have hxe : (⟨(List.take n.toNat (List.drop X.size s)).toArray⟩ : ByteArray).size ≤ 140737488355328 := by rw [size_mk, List.length_take, List.length_drop]; omega
                        have HXE := Lib.hid hxe
                        clear hxe
                        go_wp2_with fail
                        refine wp_region_noPanic ?_
                        refine wp_region_held_drew (S := (fun w' => w'.cell? ⟨g, k, none⟩ = some (.int .i64 st) ∧ RQ w w' g)) (by kernel_rfl) ?_ (fun hHeld => ?_)
                        · (try dsimp only); (first | exact ⟨c0, HWh.out.q⟩ | exact keepD ⟨c0, HWh.out.q⟩ | exact hHeld | exact keepD hHeld | exact keepQ hHeld HB6 | exact keepS hHeld _ _ _)
                        refine wpAnyH_take (i := 0) (oi := { dst := some 93, op := Op.move (Operand.tmp 8), type := 3, pos := "ref.go:93", after := #[], guard := none }) (v := ?_) rfl (by kernel_rfl) (by kernel_rfl) (by kernel_rfl) (fun _ _ _ h => h) (Or.inl ⟨by rfl, ?_⟩) (by assumption) ?_
                        rotate_left
                        · intro w hSw; (try dsimp only at hSw); first | (go_simp; done) | (go_simp; with_reducible rfl)
                        try simp only [Act.put, List.setIfInBounds_toArray, List.set_cons_zero, List.set_cons_succ]
                        refine wpAnyH_take (i := 1) (oi := { dst := some 94, op := Op.indexAddr 37 (Operand.tmp 6) (Operand.tmp 93), type := 0, pos := "ref.go:93", after := #[{ on := 0, ground := Ground.data }], guard := none }) (v := ?_) rfl (by kernel_rfl) (by kernel_rfl) (by kernel_rfl) (fun _ _ _ h => h) (Or.inl ⟨by rfl, ?_⟩) (by assumption) ?_
                        rotate_left
                        · intro w hSw; (try dsimp only at hSw); first | (go_simp; done) | (go_simp; with_reducible rfl)
                        try simp only [Act.put, List.setIfInBounds_toArray, List.set_cons_zero, List.set_cons_succ]
                        refine wpAnyH_take (i := 2) (oi := { dst := some 95, op := Op.load 3 (Operand.tmp 94), type := 3, pos := "ref.go:93", after := #[{ on := 1, ground := Ground.data }], guard := none }) (v := ?_) rfl (by kernel_rfl) (by kernel_rfl) (by kernel_rfl) (fun _ _ _ h => h) (Or.inl ⟨by rfl, ?_⟩) (by assumption) ?_
                        rotate_left
                        · intro w hSw; (try dsimp only at hSw); first | (go_simp; done) | (go_simp; with_reducible rfl)
                        try simp only [Act.put, List.setIfInBounds_toArray, List.set_cons_zero, List.set_cons_succ]
                        refine wpAnyH_take (i := 3) (oi := { dst := some 96, op := Op.move (Operand.tmp 5), type := 9, pos := "ref.go:93", after := #[], guard := none }) (v := ?_) rfl (by kernel_rfl) (by kernel_rfl) (by kernel_rfl) (fun _ _ _ h => h) (Or.inl ⟨by rfl, ?_⟩) (by assumption) ?_
                        rotate_left
                        · intro w hSw; (try dsimp only at hSw); first | (go_simp; done) | (go_simp; with_reducible rfl)
                        try simp only [Act.put, List.setIfInBounds_toArray, List.set_cons_zero, List.set_cons_succ]
                        refine wpAnyH_take (i := 4) (oi := { dst := some 97, op := Op.move (Operand.tmp 14), type := 9, pos := "ref.go:93", after := #[], guard := none }) (v := ?_) rfl (by kernel_rfl) (by kernel_rfl) (by kernel_rfl) (fun _ _ _ h => h) (Or.inl ⟨by rfl, ?_⟩) (by assumption) ?_
                        rotate_left
                        · intro w hSw; (try dsimp only at hSw); first | (go_simp; done) | (go_simp; with_reducible rfl)
                        try simp only [Act.put, List.setIfInBounds_toArray, List.set_cons_zero, List.set_cons_succ]
                        refine wpAnyH_take (i := 5) (oi := { dst := some 98, op := Op.call { callee := Callee.builtin Builtin.len, args := #[Operand.tmp 97], argTypes := #[9] }, type := 3, pos := "ref.go:93", after := #[{ on := 4, ground := Ground.data }], guard := none }) (v := ?_) rfl (by kernel_rfl) (by kernel_rfl) (by kernel_rfl) (fun _ _ _ h => h) (Or.inl ⟨by rfl, ?_⟩) (by assumption) ?_
                        rotate_left
                        · intro w hSw; (try dsimp only at hSw); first | (go_simp; done) | (go_simp; with_reducible rfl)
                        try simp only [Act.put, List.setIfInBounds_toArray, List.set_cons_zero, List.set_cons_succ]
                        refine wpAnyH_take (i := 6) (oi := { dst := some 99, op := Op.move (Operand.tmp 15), type := 3, pos := "ref.go:93", after := #[], guard := none }) (v := ?_) rfl (by kernel_rfl) (by kernel_rfl) (by kernel_rfl) (fun _ _ _ h => h) (Or.inl ⟨by rfl, ?_⟩) (by assumption) ?_
                        rotate_left
                        · intro w hSw; (try dsimp only at hSw); first | (go_simp; done) | (go_simp; with_reducible rfl)
                        try simp only [Act.put, List.setIfInBounds_toArray, List.set_cons_zero, List.set_cons_succ]
                        refine wpAnyH_take (i := 9) (oi := { dst := some 102, op := Op.move (Operand.tmp 13), type := 3, pos := "ref.go:93", after := #[], guard := none }) (v := ?_) rfl (by kernel_rfl) (by kernel_rfl) (by kernel_rfl) (fun _ _ _ h => h) (Or.inl ⟨by rfl, ?_⟩) (by assumption) ?_
                        rotate_left
                        · intro w hSw; (try dsimp only at hSw); first | (go_simp; done) | (go_simp; with_reducible rfl)
                        try simp only [Act.put, List.setIfInBounds_toArray, List.set_cons_zero, List.set_cons_succ]
                        refine wpAnyH_take (i := 10) (oi := { dst := some 103, op := Op.binOp BinOp.eql 3 (Operand.tmp 102) (Operand.const (Value.int IntKind.i64 1)) 3, type := 4, pos := "ref.go:93", after := #[{ on := 9, ground := Ground.data }], guard := none }) (v := ?_) rfl (by kernel_rfl) (by kernel_rfl) (by kernel_rfl) (fun _ _ _ h => h) (Or.inl ⟨by rfl, ?_⟩) (by assumption) ?_
                        rotate_left
                        · intro w hSw; (try dsimp only at hSw); first | (go_simp; done) | (go_simp; with_reducible rfl)
                        try simp only [Act.put, List.setIfInBounds_toArray, List.set_cons_zero, List.set_cons_succ]
                        refine wpAnyH_take (i := 12) (oi := { dst := some 105, op := Op.move (Operand.tmp 15), type := 3, pos := "ref.go:93", after := #[{ on := 13, ground := Ground.gcOnly Departure.lateStores }], guard := none }) (v := ?_) rfl (by kernel_rfl) (by kernel_rfl) (by kernel_rfl) (fun _ _ _ h => h) (Or.inl ⟨by rfl, ?_⟩) (by assumption) ?_
                        rotate_left
                        · intro w hSw; (try dsimp only at hSw); first | (go_simp; done) | (go_simp; with_reducible rfl)
                        try simp only [Act.put, List.setIfInBounds_toArray, List.set_cons_zero, List.set_cons_succ]
                        refine wpAnyH_ready (rs := [7]) (by kernel_rfl) (by simp) ?_
                        refine AllReadyH.cons (o := { dst := some 100, op := Op.slice 9 (Operand.tmp 96) (some (Operand.tmp 98)) (some (Operand.tmp 99)) none, type := 9, pos := "ref.go:93", after := #[{ on := 3, ground := Ground.data }, { on := 5, ground := Ground.data }, { on := 6, ground := Ground.data }], guard := none }) rfl (fun K hK => ?_) AllReadyH.nil
                        go_simp
                        go_wp2_with fail
                        refine hK.out _ _ ?_ (fun hHeld2 => ?_)
                        · (try dsimp only); (first | exact ⟨c0, HWh.out.q⟩ | exact keepD ⟨c0, HWh.out.q⟩ | exact hHeld | exact keepD hHeld | exact keepQ hHeld HB6 | exact keepS hHeld _ _ _)
                        clear hK K hHeld
                        have hHeld := hHeld2
                        clear hHeld2
                        try simp only [Act.put, List.setIfInBounds_toArray, List.set_cons_zero, List.set_cons_succ]
                        refine wpAnyH_ready (rs := [8]) (by kernel_rfl) (by simp) ?_
                        refine AllReadyH.cons (o := { dst := some 101, op := Op.convert 9 22 (Operand.tmp 100), type := 22, pos := "ref.go:93", after := #[{ on := 7, ground := Ground.data }], guard := none }) rfl (fun K hK => ?_) AllReadyH.nil
                        go_simp
                        have hlt6 : w.heap.size + 1 ≤ _ := hHeld.2.2.2.1
                        refine upon_conv 9 22 _ Tryd.underlying9 Tryd.underlying22 Tryd.underlying5 HXE.out ?_
                        intro v6 w6 HO HB6
                        obtain ⟨g6, m6, cap6, rfl⟩ := HO.form
                        go_wp2_with fail
                        refine hK.out _ _ ?_ (fun hHeld2 => ?_)
                        · (try dsimp only); (first | exact ⟨c0, HWh.out.q⟩ | exact keepD ⟨c0, HWh.out.q⟩ | exact hHeld | exact keepD hHeld | exact keepQ hHeld HB6 | exact keepS hHeld _ _ _)
                        clear hK K hHeld
                        have hHeld := hHeld2
                        clear hHeld2
                        try simp only [Act.put, List.setIfInBounds_toArray, List.set_cons_zero, List.set_cons_succ]
                        refine wpAnyH_ready (rs := [11]) (by kernel_rfl) (by simp) ?_
                        refine AllReadyH.cons (o := { dst := some 104, op := Op.build 24 #[(0, Operand.tmp 95), (1, Operand.tmp 101), (2, Operand.tmp 103)], type := 24, pos := "ref.go:93", after := #[{ on := 2, ground := Ground.data }, { on := 8, ground := Ground.data }, { on := 10, ground := Ground.data }], guard := none }) rfl (fun K hK => ?_) AllReadyH.nil
                        refine step_build rfl 24 _ rfl #[.int .i64 st, .slice (some ⟨g6, 0, none⟩) m6 cap6, .bool false] (by kernel_rfl) ?_
                        refine hK.out _ _ ?_ (fun hHeld2 => ?_)
                        · (try dsimp only); (first | exact ⟨c0, HWh.out.q⟩ | exact keepD ⟨c0, HWh.out.q⟩ | exact hHeld | exact keepD hHeld | exact keepQ hHeld HB6 | exact keepS hHeld _ _ _)
                        clear hK K hHeld
                        have hHeld := hHeld2
                        clear hHeld2
                        try simp only [Act.put, List.setIfInBounds_toArray, List.set_cons_zero, List.set_cons_succ]
                        refine wpAnyH_ready (rs := [13]) (by kernel_rfl) (by simp) ?_
                        refine AllReadyH.cons (o := { dst := none, op := Op.store 24 (Operand.tmp 2) (Operand.tmp 104), type := 0, pos := "ref.go:93", after := #[{ on := 11, ground := Ground.data }, { on := 0, ground := Ground.phase }, { on := 1, ground := Ground.phase }, { on := 2, ground := Ground.phase }, { on := 3, ground := Ground.phase }, { on := 4, ground := Ground.phase }, { on := 5, ground := Ground.phase }, { on := 6, ground := Ground.phase }, { on := 7, ground := Ground.phase }, { on := 8, ground := Ground.phase }, { on := 9, ground := Ground.phase }, { on := 10, ground := Ground.phase }, { on := 11, ground := Ground.phase }, { on := 12, ground := Ground.textOnly Departure.lateStores }], guard := none }) rfl (fun K hK => ?_) AllReadyH.nil
                        obtain ⟨cs, hcs, hcz⟩ := hHeld.2.2.2.2
                        refine step_store_row rfl 24 _ _ rfl w.heap.size #[.int .i64 st, .slice (some ⟨g6, 0, none⟩) m6 cap6, .bool false] rfl rfl 24 _ hcs info24 hcz (by simp [Value.oneCell']) ?_
                        have F1 := Lib.hid (setRow_heap _ w.heap.size _ #[.int .i64 st, .slice (some ⟨g6, 0, none⟩) m6 cap6, .bool false] 24 _ hcs)
                        have O1 := Lib.hid ((HO.lower hlt6).setRowOther #[.int .i64 st, .slice (some ⟨g6, 0, none⟩) m6 cap6, .bool false])
                        clear hcs hcz cs HO
                        refine hK.out _ _ ?_ (fun hHeld2 => ?_)
                        · (try dsimp only); (first | exact ⟨c0, HWh.out.q⟩ | exact keepD ⟨c0, HWh.out.q⟩ | exact hHeld | exact keepD hHeld | exact keepQ hHeld HB6 | exact keepS hHeld _ _ _)
                        clear hK K hHeld
                        have hHeld := hHeld2
                        clear hHeld2
                        try simp only [Act.put, List.setIfInBounds_toArray, List.set_cons_zero, List.set_cons_succ]
                        refine wpAnyH_take (i := 14) (oi := { dst := some 3, op := Op.assign (Operand.tmp 105), type := 3, pos := "ref.go:93", after := #[{ on := 12, ground := Ground.data }, { on := 13, ground := Ground.chain }, { on := 0, ground := Ground.phase }, { on := 1, ground := Ground.phase }, { on := 2, ground := Ground.phase }, { on := 3, ground := Ground.phase }, { on := 4, ground := Ground.phase }, { on := 5, ground := Ground.phase }, { on := 6, ground := Ground.phase }, { on := 7, ground := Ground.phase }, { on := 8, ground := Ground.phase }, { on := 9, ground := Ground.phase }, { on := 10, ground := Ground.phase }, { on := 11, ground := Ground.phase }, { on := 12, ground := Ground.phase }, { on := 13, ground := Ground.phase }], guard := none }) (v := ?_) rfl (by kernel_rfl) (by kernel_rfl) (by kernel_rfl) (fun _ _ _ h => h) (Or.inl ⟨by rfl, ?_⟩) (by assumption) ?_
                        rotate_left
                        · intro w hSw; (try dsimp only at hSw); first | (go_simp; done) | (go_simp; with_reducible rfl)
                        try simp only [Act.put, List.setIfInBounds_toArray, List.set_cons_zero, List.set_cons_succ]
                        refine wpAnyH_take (i := 15) (oi := { dst := some 4, op := Op.assign (Operand.const (Value.int IntKind.i64 0)), type := 27, pos := "ref.go:93", after := #[{ on := 14, ground := Ground.chain }, { on := 0, ground := Ground.phase }, { on := 1, ground := Ground.phase }, { on := 2, ground := Ground.phase }, { on := 3, ground := Ground.phase }, { on := 4, ground := Ground.phase }, { on := 5, ground := Ground.phase }, { on := 6, ground := Ground.phase }, { on := 7, ground := Ground.phase }, { on := 8, ground := Ground.phase }, { on := 9, ground := Ground.phase }, { on := 10, ground := Ground.phase }, { on := 11, ground := Ground.phase }, { on := 12, ground := Ground.phase }, { on := 13, ground := Ground.phase }, { on := 14, ground := Ground.phase }], guard := none }) (v := ?_) rfl (by kernel_rfl) (by kernel_rfl) (by kernel_rfl) (fun _ _ _ h => h) (Or.inl ⟨by rfl, ?_⟩) (by assumption) ?_
                        rotate_left
                        · intro w hSw; (try dsimp only at hSw); first | (go_simp; done) | (go_simp; with_reducible rfl)
                        try simp only [Act.put, List.setIfInBounds_toArray, List.set_cons_zero, List.set_cons_succ]
                        refine wpAnyH_done (by kernel_rfl) ?_ _
                        refine NoPanic.normal ?_
                        have hbl := hHeld.2.1
                        have ET := (agree s).symm.trans (some0 H.out HRE.out (refEnd_some HBG.out (by have := HHZ.out; have := HBZ.out; omega)))
                        have HET := Lib.hid ET
                        clear ET hHeld
                        go_wp2
                        refine bodyPost_ret (v := .tuple #[.agg #[.int .i64 st, (.slice (some ⟨g6, 0, none⟩) m6 cap6), .bool false], .int .i64 ((X.size : Int) + n), .int .i64 0]) (results_ctt (p := 2) (u := 3) (v := 4) rfl _ _ w.heap.size 24 #[.int .i64 st, (.slice (some ⟨g6, 0, none⟩) m6 cap6), .bool false] (0, 0) _ rfl F1.out Tryd.underlying24 rfl info24) rfl ?_
                        exact fin_ok HET.out (by have := HHZ.out; omega) (by rw [← HHZ.out]; exact O1.out) hbl
                · skip
                  have bw := wholeN_len st n true HS0.out.1 HS0.out.2 hn20 hn21
                  have ch := Lib.hid (fun w => cH.out st n true w HS0.out.1 HS0.out.2 (by omega) hn21)
                  have cb := Lib.hid (cB.out (wholeL st n true))
                  have hhz : (⟨(wholeL st n true).toArray⟩ : ByteArray).size = (wholeL st n true).length := size_mk _
                  have HHZ := Lib.hid hhz
                  have hh1 : (⟨(wholeL st n true).toArray⟩ : ByteArray).size ≤ 200 := by omega
                  generalize (⟨(wholeL st n true).toArray⟩ : ByteArray) = X at *
                  have HWh := Lib.hid HW
                  have c0 := HW.cell k hk2
                  rw [HST.out] at c0
                  clear HW hhz bw
                  go_wp2_with fail
                  refine (ch.out _).mono ?_
                  rintro e5 w5 ⟨rfl, hb5⟩
                  have HW := HWh.out.step hb5
                  clear HWh hb5 ch c0
                  go_wp2_with fail
                  refine (cb.out _).mono ?_
                  rintro e6 w6 ⟨rfl, hb6⟩
                  replace HW := HW.step hb6
                  clear hb6 cb
                  by_cases hbg : begL (wholeL st n true) s = false
                  · rw [hbg]
                    have HBG := Lib.hid hbg
                    have HWh := Lib.hid HW
                    clear hbg HW
                    go_wp2
                    go_roundw
                    case rel => exact ⟨2, t2, by omega, by go_num, rfl, Lib.hid (ins_skip1 HI.out (refEnd_no HBG.out)), HWh.out⟩
                    case measure => simp [intOf]
                  · have hbt : begL (wholeL st n true) s = true := by simpa using hbg
                    rw [hbt]
                    have HBG := Lib.hid hbg
                    have HWh := Lib.hid HW
                    clear hbg hbt HW
                    by_cases hz1 : B.size < X.size
                    · go_wp2
                      go_roundw
                      case rel => exact ⟨2, true, by omega, by go_num, rfl, Lib.hid (ins_short1 HI.out (refEnd_short HBG.out (by have := HHZ.out; have := HBZ.out; omega))), HWh.out⟩
                      case measure => simp [intOf]
                    · have hw1 : wrap64 ((B.size : Int) - (X.size : Int)) = (B.size : Int) - (X.size : Int) := by unfold wrap64; omega
                      by_cases hz2 : (B.size : Int) - (X.size : Int) < n
                      · go_wp2
                        go_roundw
                        case rel => exact ⟨2, true, by omega, by go_num, rfl, Lib.hid (ins_short1 HI.out (refEnd_short HBG.out (by have := HHZ.out; have := HBZ.out; omega))), HWh.out⟩
                        case measure => simp [intOf]
                      · have c0 := HWh.out.cell k hk2
                        rw [HST.out] at c0
                        have hsx := HSX.out X.size (X.size + n.toNat)
                        have hxn : wrap64 ((X.size : Int) + n) = (X.size : Int) + n := by unfold wrap64; omega
                        have hxt : ((X.size : Int) + n).toNat = X.size + n.toNat := by omega
                        have hxm : (X.size : Int) + n ≤ (B.size : Int) := by omega
                        have hxe : (⟨(List.take n.toNat (List.drop X.size s)).toArray⟩ : ByteArray).size ≤ 140737488355328 := by rw [size_mk, List.length_take, List.length_drop]; omega
                        have HXE := Lib.hid hxe
                        clear hxe
                        go_wp2_with fail
                        refine wp_region_noPanic ?_
                        refine wp_region_held_drew (S := (fun w' => w'.cell? ⟨g, k, none⟩ = some (.int .i64 st) ∧ RQ w w' g)) (by kernel_rfl) ?_ (fun hHeld => ?_)
                        · (try dsimp only); (first | exact ⟨c0, HWh.out.q⟩ | exact keepD ⟨c0, HWh.out.q⟩ | exact hHeld | exact keepD hHeld | exact keepQ hHeld HB6 | exact keepS hHeld _ _ _)
                        refine wpAnyH_take (i := 0) (oi := { dst := some 93, op := Op.move (Operand.tmp 8), type := 3, pos := "ref.go:93", after := #[], guard := none }) (v := ?_) rfl (by kernel_rfl) (by kernel_rfl) (by kernel_rfl) (fun _ _ _ h => h) (Or.inl ⟨by rfl, ?_⟩) (by assumption) ?_
                        rotate_left
                        · intro w hSw; (try dsimp only at hSw); first | (go_simp; done) | (go_simp; with_reducible rfl)
                        try simp only [Act.put, List.setIfInBounds_toArray, List.set_cons_zero, List.set_cons_succ]
                        refine wpAnyH_take (i := 1) (oi := { dst := some 94, op := Op.indexAddr 37 (Operand.tmp 6) (Operand.tmp 93), type := 0, pos := "ref.go:93", after := #[{ on := 0, ground := Ground.data }], guard := none }) (v := ?_) rfl (by kernel_rfl) (by kernel_rfl) (by kernel_rfl) (fun _ _ _ h => h) (Or.inl ⟨by rfl, ?_⟩) (by assumption) ?_
                        rotate_left
                        · intro w hSw; (try dsimp only at hSw); first | (go_simp; done) | (go_simp; with_reducible rfl)
                        try simp only [Act.put, List.setIfInBounds_toArray, List.set_cons_zero, List.set_cons_succ]
                        refine wpAnyH_take (i := 2) (oi := { dst := some 95, op := Op.load 3 (Operand.tmp 94), type := 3, pos := "ref.go:93", after := #[{ on := 1, ground := Ground.data }], guard := none }) (v := ?_) rfl (by kernel_rfl) (by kernel_rfl) (by kernel_rfl) (fun _ _ _ h => h) (Or.inl ⟨by rfl, ?_⟩) (by assumption) ?_
                        rotate_left
                        · intro w hSw; (try dsimp only at hSw); first | (go_simp; done) | (go_simp; with_reducible rfl)
                        try simp only [Act.put, List.setIfInBounds_toArray, List.set_cons_zero, List.set_cons_succ]
                        refine wpAnyH_take (i := 3) (oi := { dst := some 96, op := Op.move (Operand.tmp 5), type := 9, pos := "ref.go:93", after := #[], guard := none }) (v := ?_) rfl (by kernel_rfl) (by kernel_rfl) (by kernel_rfl) (fun _ _ _ h => h) (Or.inl ⟨by rfl, ?_⟩) (by assumption) ?_
                        rotate_left
                        · intro w hSw; (try dsimp only at hSw); first | (go_simp; done) | (go_simp; with_reducible rfl)
                        try simp only [Act.put, List.setIfInBounds_toArray, List.set_cons_zero, List.set_cons_succ]
                        refine wpAnyH_take (i := 4) (oi := { dst := some 97, op := Op.move (Operand.tmp 14), type := 9, pos := "ref.go:93", after := #[], guard := none }) (v := ?_) rfl (by kernel_rfl) (by kernel_rfl) (by kernel_rfl) (fun _ _ _ h => h) (Or.inl ⟨by rfl, ?_⟩) (by assumption) ?_
                        rotate_left
                        · intro w hSw; (try dsimp only at hSw); first | (go_simp; done) | (go_simp; with_reducible rfl)
                        try simp only [Act.put, List.setIfInBounds_toArray, List.set_cons_zero, List.set_cons_succ]
                        refine wpAnyH_take (i := 5) (oi := { dst := some 98, op := Op.call { callee := Callee.builtin Builtin.len, args := #[Operand.tmp 97], argTypes := #[9] }, type := 3, pos := "ref.go:93", after := #[{ on := 4, ground := Ground.data }], guard := none }) (v := ?_) rfl (by kernel_rfl) (by kernel_rfl) (by kernel_rfl) (fun _ _ _ h => h) (Or.inl ⟨by rfl, ?_⟩) (by assumption) ?_
                        rotate_left
                        · intro w hSw; (try dsimp only at hSw); first | (go_simp; done) | (go_simp; with_reducible rfl)
                        try simp only [Act.put, List.setIfInBounds_toArray, List.set_cons_zero, List.set_cons_succ]
                        refine wpAnyH_take (i := 6) (oi := { dst := some 99, op := Op.move (Operand.tmp 15), type := 3, pos := "ref.go:93", after := #[], guard := none }) (v := ?_) rfl (by kernel_rfl) (by kernel_rfl) (by kernel_rfl) (fun _ _ _ h => h) (Or.inl ⟨by rfl, ?_⟩) (by assumption) ?_
                        rotate_left
                        · intro w hSw; (try dsimp only at hSw); first | (go_simp; done) | (go_simp; with_reducible rfl)
                        try simp only [Act.put, List.setIfInBounds_toArray, List.set_cons_zero, List.set_cons_succ]
                        refine wpAnyH_take (i := 9) (oi := { dst := some 102, op := Op.move (Operand.tmp 13), type := 3, pos := "ref.go:93", after := #[], guard := none }) (v := ?_) rfl (by kernel_rfl) (by kernel_rfl) (by kernel_rfl) (fun _ _ _ h => h) (Or.inl ⟨by rfl, ?_⟩) (by assumption) ?_
                        rotate_left
                        · intro w hSw; (try dsimp only at hSw); first | (go_simp; done) | (go_simp; with_reducible rfl)
                        try simp only [Act.put, List.setIfInBounds_toArray, List.set_cons_zero, List.set_cons_succ]
                        refine wpAnyH_take (i := 10) (oi := { dst := some 103, op := Op.binOp BinOp.eql 3 (Operand.tmp 102) (Operand.const (Value.int IntKind.i64 1)) 3, type := 4, pos := "ref.go:93", after := #[{ on := 9, ground := Ground.data }], guard := none }) (v := ?_) rfl (by kernel_rfl) (by kernel_rfl) (by kernel_rfl) (fun _ _ _ h => h) (Or.inl ⟨by rfl, ?_⟩) (by assumption) ?_
                        rotate_left
                        · intro w hSw; (try dsimp only at hSw); first | (go_simp; done) | (go_simp; with_reducible rfl)
                        try simp only [Act.put, List.setIfInBounds_toArray, List.set_cons_zero, List.set_cons_succ]
                        refine wpAnyH_take (i := 12) (oi := { dst := some 105, op := Op.move (Operand.tmp 15), type := 3, pos := "ref.go:93", after := #[{ on := 13, ground := Ground.gcOnly Departure.lateStores }], guard := none }) (v := ?_) rfl (by kernel_rfl) (by kernel_rfl) (by kernel_rfl) (fun _ _ _ h => h) (Or.inl ⟨by rfl, ?_⟩) (by assumption) ?_
                        rotate_left
                        · intro w hSw; (try dsimp only at hSw); first | (go_simp; done) | (go_simp; with_reducible rfl)
                        try simp only [Act.put, List.setIfInBounds_toArray, List.set_cons_zero, List.set_cons_succ]
                        refine wpAnyH_ready (rs := [7]) (by kernel_rfl) (by simp) ?_
                        refine AllReadyH.cons (o := { dst := some 100, op := Op.slice 9 (Operand.tmp 96) (some (Operand.tmp 98)) (some (Operand.tmp 99)) none, type := 9, pos := "ref.go:93", after := #[{ on := 3, ground := Ground.data }, { on := 5, ground := Ground.data }, { on := 6, ground := Ground.data }], guard := none }) rfl (fun K hK => ?_) AllReadyH.nil
                        go_simp
                        go_wp2_with fail
                        refine hK.out _ _ ?_ (fun hHeld2 => ?_)
                        · (try dsimp only); (first | exact ⟨c0, HWh.out.q⟩ | exact keepD ⟨c0, HWh.out.q⟩ | exact hHeld | exact keepD hHeld | exact keepQ hHeld HB6 | exact keepS hHeld _ _ _)
                        clear hK K hHeld
                        have hHeld := hHeld2
                        clear hHeld2
                        try simp only [Act.put, List.setIfInBounds_toArray, List.set_cons_zero, List.set_cons_succ]
                        refine wpAnyH_ready (rs := [8]) (by kernel_rfl) (by simp) ?_
                        refine AllReadyH.cons (o := { dst := some 101, op := Op.convert 9 22 (Operand.tmp 100), type := 22, pos := "ref.go:93", after := #[{ on := 7, ground := Ground.data }], guard := none }) rfl (fun K hK => ?_) AllReadyH.nil
                        go_simp
                        have hlt6 : w.heap.size + 1 ≤ _ := hHeld.2.2.2.1
                        refine upon_conv 9 22 _ Tryd.underlying9 Tryd.underlying22 Tryd.underlying5 HXE.out ?_
                        intro v6 w6 HO HB6
                        obtain ⟨g6, m6, cap6, rfl⟩ := HO.form
                        go_wp2_with fail
                        refine hK.out _ _ ?_ (fun hHeld2 => ?_)
                        · (try dsimp only); (first | exact ⟨c0, HWh.out.q⟩ | exact keepD ⟨c0, HWh.out.q⟩ | exact hHeld | exact keepD hHeld | exact keepQ hHeld HB6 | exact keepS hHeld _ _ _)
                        clear hK K hHeld
                        have hHeld := hHeld2
                        clear hHeld2
                        try simp only [Act.put, List.setIfInBounds_toArray, List.set_cons_zero, List.set_cons_succ]
                        refine wpAnyH_ready (rs := [11]) (by kernel_rfl) (by simp) ?_
                        refine AllReadyH.cons (o := { dst := some 104, op := Op.build 24 #[(0, Operand.tmp 95), (1, Operand.tmp 101), (2, Operand.tmp 103)], type := 24, pos := "ref.go:93", after := #[{ on := 2, ground := Ground.data }, { on := 8, ground := Ground.data }, { on := 10, ground := Ground.data }], guard := none }) rfl (fun K hK => ?_) AllReadyH.nil
                        refine step_build rfl 24 _ rfl #[.int .i64 st, .slice (some ⟨g6, 0, none⟩) m6 cap6, .bool true] (by kernel_rfl) ?_
                        refine hK.out _ _ ?_ (fun hHeld2 => ?_)
                        · (try dsimp only); (first | exact ⟨c0, HWh.out.q⟩ | exact keepD ⟨c0, HWh.out.q⟩ | exact hHeld | exact keepD hHeld | exact keepQ hHeld HB6 | exact keepS hHeld _ _ _)
                        clear hK K hHeld
                        have hHeld := hHeld2
                        clear hHeld2
                        try simp only [Act.put, List.setIfInBounds_toArray, List.set_cons_zero, List.set_cons_succ]
                        refine wpAnyH_ready (rs := [13]) (by kernel_rfl) (by simp) ?_
                        refine AllReadyH.cons (o := { dst := none, op := Op.store 24 (Operand.tmp 2) (Operand.tmp 104), type := 0, pos := "ref.go:93", after := #[{ on := 11, ground := Ground.data }, { on := 0, ground := Ground.phase }, { on := 1, ground := Ground.phase }, { on := 2, ground := Ground.phase }, { on := 3, ground := Ground.phase }, { on := 4, ground := Ground.phase }, { on := 5, ground := Ground.phase }, { on := 6, ground := Ground.phase }, { on := 7, ground := Ground.phase }, { on := 8, ground := Ground.phase }, { on := 9, ground := Ground.phase }, { on := 10, ground := Ground.phase }, { on := 11, ground := Ground.phase }, { on := 12, ground := Ground.textOnly Departure.lateStores }], guard := none }) rfl (fun K hK => ?_) AllReadyH.nil
                        obtain ⟨cs, hcs, hcz⟩ := hHeld.2.2.2.2
                        refine step_store_row rfl 24 _ _ rfl w.heap.size #[.int .i64 st, .slice (some ⟨g6, 0, none⟩) m6 cap6, .bool true] rfl rfl 24 _ hcs info24 hcz (by simp [Value.oneCell']) ?_
                        have F1 := Lib.hid (setRow_heap _ w.heap.size _ #[.int .i64 st, .slice (some ⟨g6, 0, none⟩) m6 cap6, .bool true] 24 _ hcs)
                        have O1 := Lib.hid ((HO.lower hlt6).setRowOther #[.int .i64 st, .slice (some ⟨g6, 0, none⟩) m6 cap6, .bool true])
                        clear hcs hcz cs HO
                        refine hK.out _ _ ?_ (fun hHeld2 => ?_)
                        · (try dsimp only); (first | exact ⟨c0, HWh.out.q⟩ | exact keepD ⟨c0, HWh.out.q⟩ | exact hHeld | exact keepD hHeld | exact keepQ hHeld HB6 | exact keepS hHeld _ _ _)
                        clear hK K hHeld
                        have hHeld := hHeld2
                        clear hHeld2
                        try simp only [Act.put, List.setIfInBounds_toArray, List.set_cons_zero, List.set_cons_succ]
                        refine wpAnyH_take (i := 14) (oi := { dst := some 3, op := Op.assign (Operand.tmp 105), type := 3, pos := "ref.go:93", after := #[{ on := 12, ground := Ground.data }, { on := 13, ground := Ground.chain }, { on := 0, ground := Ground.phase }, { on := 1, ground := Ground.phase }, { on := 2, ground := Ground.phase }, { on := 3, ground := Ground.phase }, { on := 4, ground := Ground.phase }, { on := 5, ground := Ground.phase }, { on := 6, ground := Ground.phase }, { on := 7, ground := Ground.phase }, { on := 8, ground := Ground.phase }, { on := 9, ground := Ground.phase }, { on := 10, ground := Ground.phase }, { on := 11, ground := Ground.phase }, { on := 12, ground := Ground.phase }, { on := 13, ground := Ground.phase }], guard := none }) (v := ?_) rfl (by kernel_rfl) (by kernel_rfl) (by kernel_rfl) (fun _ _ _ h => h) (Or.inl ⟨by rfl, ?_⟩) (by assumption) ?_
                        rotate_left
                        · intro w hSw; (try dsimp only at hSw); first | (go_simp; done) | (go_simp; with_reducible rfl)
                        try simp only [Act.put, List.setIfInBounds_toArray, List.set_cons_zero, List.set_cons_succ]
                        refine wpAnyH_take (i := 15) (oi := { dst := some 4, op := Op.assign (Operand.const (Value.int IntKind.i64 0)), type := 27, pos := "ref.go:93", after := #[{ on := 14, ground := Ground.chain }, { on := 0, ground := Ground.phase }, { on := 1, ground := Ground.phase }, { on := 2, ground := Ground.phase }, { on := 3, ground := Ground.phase }, { on := 4, ground := Ground.phase }, { on := 5, ground := Ground.phase }, { on := 6, ground := Ground.phase }, { on := 7, ground := Ground.phase }, { on := 8, ground := Ground.phase }, { on := 9, ground := Ground.phase }, { on := 10, ground := Ground.phase }, { on := 11, ground := Ground.phase }, { on := 12, ground := Ground.phase }, { on := 13, ground := Ground.phase }, { on := 14, ground := Ground.phase }], guard := none }) (v := ?_) rfl (by kernel_rfl) (by kernel_rfl) (by kernel_rfl) (fun _ _ _ h => h) (Or.inl ⟨by rfl, ?_⟩) (by assumption) ?_
                        rotate_left
                        · intro w hSw; (try dsimp only at hSw); first | (go_simp; done) | (go_simp; with_reducible rfl)
                        try simp only [Act.put, List.setIfInBounds_toArray, List.set_cons_zero, List.set_cons_succ]
                        refine wpAnyH_done (by kernel_rfl) ?_ _
                        refine NoPanic.normal ?_
                        have hbl := hHeld.2.1
                        have ET := (agree s).symm.trans (some1 H.out HRE.out HI.out (refEnd_some HBG.out (by have := HHZ.out; have := HBZ.out; omega)))
                        have HET := Lib.hid ET
                        clear ET hHeld
                        go_wp2
                        refine bodyPost_ret (v := .tuple #[.agg #[.int .i64 st, (.slice (some ⟨g6, 0, none⟩) m6 cap6), .bool true], .int .i64 ((X.size : Int) + n), .int .i64 0]) (results_ctt (p := 2) (u := 3) (v := 4) rfl _ _ w.heap.size 24 #[.int .i64 st, (.slice (some ⟨g6, 0, none⟩) m6 cap6), .bool true] (0, 0) _ rfl F1.out Tryd.underlying24 rfl info24) rfl ?_
                        exact fin_ok HET.out (by have := HHZ.out; omega) (by rw [← HHZ.out]; exact O1.out) hbl
                · go_wp2
                  go_roundw
                  case rel => exact ⟨k + 1, t2, by omega, by go_num, rfl, Lib.hid (ins_end H.out HRE.out HI.out), HW⟩
                  case measure => simp [intOf]; omega
          · have he00 : (e0 != 0) = true := by simpa using he0
            have HR := Lib.hid (from_none H.out (RC.out HBG.out HZ1.out he0))
            clear he0
            go_wp2
            go_roundw
            case rel => exact ⟨k + 1, t, by omega, by go_num, rfl, Lib.hid (by have := HR.out; simpa using this), HWh.out⟩
            case measure => simp [intOf]; omega
    · obtain rfl : k = 11 := by omega
      have H3 : takeS s = (0, [], false, 0, if t then 3 else 4) := by rw [← agree s, ← H.out]; rfl
      have H4 := Lib.hid H3
      have HWh := Lib.hid HW
      clear H H3 HW hk2
      cases t with
      | true =>
        skip
        go_wp2_with (first | (refine build_to rfl 24 _ rfl #[.int .i64 0, .slice none 0 0, .bool false] (by kernel_rfl) ?_) | ((refine wpList_store_row rfl 24 _ _ rfl w.heap.size #[.int .i64 0, .slice none 0 0, .bool false] rfl rfl 24 #[.int .i64 0, .slice none 0 0, .bool false] HWh.out.z info24 rfl one24 ?_); refine Hid.out ?_))
        refine Lib.hid ?_
        have f1 := setRow_heap wr w.heap.size _ #[.int .i64 0, .slice none 0 0, .bool false] 24 _ HWh.out.z
        have f2 := below_setRow HWh.out.below (Nat.le_refl _) #[.int .i64 0, .slice none 0 0, .bool false]
        have F1 := Lib.hid f1
        clear f1
        generalize wr.setRow w.heap.size #[.int .i64 0, .slice none 0 0, .bool false] = wz at F1 f2
        go_wp2
        refine bodyPost_ret (v := .tuple #[.agg #[.int .i64 0, .slice none 0 0, .bool false], .int .i64 0, .int .i64 3]) (results_ctt (p := 2) (u := 3) (v := 4) rfl _ _ w.heap.size 24 #[.int .i64 0, .slice none 0 0, .bool false] (0, 0) _ rfl F1.out Tryd.underlying24 rfl info24) rfl ?_
        exact fin_err H4.out (by decide) f2
      | false =>
        skip
        go_wp2_with (first | (refine build_to rfl 24 _ rfl #[.int .i64 0, .slice none 0 0, .bool false] (by kernel_rfl) ?_) | ((refine wpList_store_row rfl 24 _ _ rfl w.heap.size #[.int .i64 0, .slice none 0 0, .bool false] rfl rfl 24 #[.int .i64 0, .slice none 0 0, .bool false] HWh.out.z info24 rfl one24 ?_); refine Hid.out ?_))
        refine Lib.hid ?_
        have f1 := setRow_heap wr w.heap.size _ #[.int .i64 0, .slice none 0 0, .bool false] 24 _ HWh.out.z
        have f2 := below_setRow HWh.out.below (Nat.le_refl _) #[.int .i64 0, .slice none 0 0, .bool false]
        have F1 := Lib.hid f1
        clear f1
        generalize wr.setRow w.heap.size #[.int .i64 0, .slice none 0 0, .bool false] = wz at F1 f2
        go_wp2
        refine bodyPost_ret (v := .tuple #[.agg #[.int .i64 0, .slice none 0 0, .bool false], .int .i64 0, .int .i64 4]) (results_ctt (p := 2) (u := 3) (v := 4) rfl _ _ w.heap.size 24 #[.int .i64 0, .slice none 0 0, .bool false] (0, 0) _ rfl F1.out Tryd.underlying24 rfl info24) rfl ?_
        exact fin_err H4.out (by decide) f2
end Go.Proofs.YtnohcfgjhgfjkaaDoor.S
