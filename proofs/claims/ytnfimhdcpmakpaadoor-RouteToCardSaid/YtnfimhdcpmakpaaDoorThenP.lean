/-
  Small laws on worlds that the walks by hand use.
-/
import Derived.Test.YtnfimhdcpmakpaaDoorWWordsP
import Derived.Lib.Hide
import Derived.OwnWalk
import Derived.WalkSpells
namespace Go.Proofs.YtnfimhdcpmakpaaDoor.S
open Go.RowKit Go.Proofs.YtnfimhdcpmakpaaDoorW.PrintWords
set_option linter.unusedVariables false
set_option linter.unusedSimpArgs false
theorem bthen {w w1 w2 : World} (h : Below w.heap.size w w1) (k : Below w1.heap.size w1 w2) : Below w.heap.size w w2 := below_then h h.size k
structure RowAt (w wr : World) (v : Value) (xs : List Int) : Prop where mk :: (own : wr.ownsRow w.heap.size 5 1 v xs.length (nums .u8 xs)) (below : Below w.heap.size w wr)
theorem RowAt.step {w wr w1 : World} {v : Value} {xs : List Int} (h : RowAt w wr v xs) (hb : Below wr.heap.size wr w1) : RowAt w w1 v xs := ⟨pw_own_below h.own hb, bthen h.below hb⟩
theorem row_app {P : Program} {ops : Array Oper} {rest : List Oper} {o : Oper} {a : Act} {Q : Exit → Act → World → Prop} {w W : World} (hgd : o.guard = none) (s x : Operand) (t : TypeId)
    (ho : o.op = .call { callee := .builtin .append, args := #[s, x], argTypes := #[t, t] }) (ht : P.underlying t = some (.slice 5)) (hinfo : (P.info? 5).map (fun i => (i.zero, i.size, i.bytes)) = some (some (.int .u8 0), 1, 1))
    {v : Value} {xs : List Int} (ys : List Int) (cs : Array Value) (hs : a.eval s = v) (hx : a.eval x = .slice (some ⟨W.heap.size, 0, none⟩) ys.length ys.length) (hcs : cs.toList = nums .u8 ys) (H : RowAt w W v xs) (hl : xs.length + ys.length ≤ 140737488355328)
    (h : ∀ v1 w1, RowAt w w1 v1 (xs ++ ys) → wpList P ops Q rest (a.put o.dst v1) w1) : wpList P ops Q (o :: rest) a (W.alloc (.cells cs 5)) := by
  obtain ⟨i0, hi, hz0, hz1, hz2⟩ := info_parts hinfo
  refine wpList_append_own _ hgd s x t ho w.heap.size 5 i0 (.int .u8 0) 1 1 ht hi hz0 hz1 hz2 rfl (by omega) v xs.length (nums .u8 xs) hs (H.own.alloc _) ⟨W.heap.size, 0, none⟩ ys.length ys.length (nums .u8 ys) hx (by simp [nums]) ?_ ?_ (by unfold maxLen; omega) (by omega) (by have := H.below.size; simp; omega) ?_
  · intro j u hj
    rw [add_plain, World.cell?_alloc_new]
    rw [← hcs] at hj
    simpa using hj
  · intro u hu
    obtain ⟨y, _, rfl⟩ := List.mem_map.1 hu
    rfl
  · intro v1 w1 hown hg _
    exact h v1 w1 ⟨by simpa [nums] using hown, (below_alloc H.below _).grown hg (by have := H.below.size; simp; omega) (own_base H.own)⟩
theorem R_of_nums {w : World} {base : Nat} {e : TypeId} {k : IntKind} {v : Value} {xs : List Int} (h : w.ownsRow base e 1 v xs.length (nums k xs)) : Kd.R (Kd.int k) e w base (fun _ => True) v xs := by
  refine ⟨fun _ _ => trivial, nums k xs, h, by simp [nums, Kd.int, Kd.scalar], fun j p hj => ?_⟩
  show ((nums k xs).drop (j * 1)).take 1 = [.int k p]
  rw [Nat.mul_one]
  have hl : j < xs.length := by
    rcases Nat.lt_or_ge j xs.length with h' | h'
    · exact h'
    · rw [List.getElem?_eq_none h'] at hj; cases hj
  rw [List.drop_eq_getElem_cons (by simpa [nums] using hl)]
  have : xs[j] = p := by rw [List.getElem?_eq_getElem hl] at hj; exact Option.some.inj hj
  simp [nums, this]
end Go.Proofs.YtnfimhdcpmakpaaDoor.S
