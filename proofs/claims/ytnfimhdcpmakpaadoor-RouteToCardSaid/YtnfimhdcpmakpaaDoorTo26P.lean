/-
  route.To, walked: at roads without a body and without a hash, and at queries of no parameters.
-/
import Derived.Test.YtnfimhdcpmakpaaDoorFil26P
import Derived.Test.YtnfimhdcpmakpaaDoorAsk26P
namespace Go.Proofs.YtnfimhdcpmakpaaDoor.S
open Go.RowKit Go.Proofs.YtnfimhdcpmakpaaDoorW.PrintWords
set_option linter.unusedVariables false
set_option linter.unusedSimpArgs false
def toScan (K : Nat) (m : ByteArray) (P : List ByteArray) (fs : List S41) : List S58 → Int → Option (OpV × List Int × Int)
  | [], st => some (zeroO, [], st)
  | x :: rs, st => (route_road_fits.f K x.f0 x.f1 x.f2 x.f3 x.f4 x.f5 P).bind fun b => if b = false then toScan K m P fs rs st else if x.f0.toList = m.toList then
      (route_token.f K fs).bind fun t => (route_road_parts.f x.f0 x.f1 x.f2 x.f3 x.f4 x.f5).bind fun form => if x.f3 = true ∨ form.length ≠ P.length then none else (fillF K form P { zeroO with dv := x.f2 }).bind fun q =>
        if q.1 = true ∧ (!x.f4 && !x.f5) = true then some (q.2, t, 0) else some (zeroO, [], 400)
    else toScan K m P fs rs 405
def toF (K : Nat) (m s : ByteArray) (fs : List S41) : Option (OpV × List Int × Int) :=
  (target_Parse.f K s).bind fun t => if t.2.2 = 0 then (if t.2.1.length = 0 ∧ t.1.length ≤ 1048576 then (route_roads.f).bind fun rs => toScan K m t.1 fs rs 404 else none) else some (zeroO, [], 400)
theorem size58 : (Tryd.prog.info? 58).map (·.size) = some 6 := by kernel_rfl
theorem size33 : (Tryd.prog.info? 33).map (·.size) = some 72 := by kernel_rfl
theorem size51 : (Tryd.prog.info? 51).map (·.size) = some 2 := by kernel_rfl
theorem build_to {P : Program} {ops : Array Oper} {rest : List Oper} {o : Oper} {a : Act} {w : World} {Q : Exit → Act → World → Prop} (hg : o.guard = none) (t : TypeId) (parts : Array (Nat × Operand)) (ho : o.op = .build t parts)
    (cells : Array Value) (hf : P.built t (parts.map fun (i, x) => (i, a.eval x)).toList = some cells)
    (h : wpList P ops Q rest (a.put o.dst (.agg cells)) w) : wpList P ops Q (o :: rest) a w := by
  refine wpList_build hg t parts ho (by rw [hf]; rfl) ?_
  rw [hf]
  exact h
theorem zero_cells : Tryd.zeroCells33 = opA zeroO := by kernel_rfl
theorem size33z : (Tryd.prog.info? 33).map (·.size) = some (opA zeroO).size := by kernel_rfl
theorem run_storeCells_row {P : Program} (w : World) (g : Nat) (t : TypeId) (old : Array Value) (l : List Value) (hg : w.heap[g]? = some (.cells old t (0, 0))) (ho : old.size = l.length) (h1 : ∀ v ∈ l, v.oneCell' = true) :
    (storeCells ⟨g, 0, none⟩ l).run P w = .ok () (w.setRow g l.toArray) := by
  have := run_storeCells_from (P := P) g t l 0 old w hg (by omega) h1
  simpa [ho] using this
theorem stored33 (w7 : World) (d : Int) (A : Option Addr) (n c : Nat) : (storeCells { block := w7.heap.size, off := 0 } ((Tryd.zeroCells33.toList.set 0 (.int .i64 d)).set 38 (.slice A n c))).run Tryd.prog (w7.alloc (.cells Tryd.zeroCells33 33)) = .ok () ((w7.alloc (.cells Tryd.zeroCells33 33)).setRow w7.heap.size (opA { zeroO with dv := d, tok := .slice A n c })) := by
  rw [run_storeCells_row (w7.alloc (.cells Tryd.zeroCells33 33)) w7.heap.size 33 Tryd.zeroCells33 _ (heap_alloc_new w7 _) (by kernel_rfl) (List.all_eq_true.1 (by kernel_rfl))]
  rfl
theorem stored33b (w7 : World) (g : Nat) (h : w7.heap[g]? = some (.cells Tryd.zeroCells33 33 (0, 0))) (d : Int) (A : Option Addr) (n c : Nat) : (storeCells { block := g, off := 0 } ((Tryd.zeroCells33.toList.set 0 (.int .i64 d)).set 38 (.slice A n c))).run Tryd.prog w7 = .ok () (w7.setRow g (opA { zeroO with dv := d, tok := .slice A n c })) := by
  rw [run_storeCells_row w7 g 33 Tryd.zeroCells33 _ h (by kernel_rfl) (List.all_eq_true.1 (by kernel_rfl))]
  rfl
theorem R_setRow {α : Type} {d : Kd α} {e : Nat} {w : World} {base : Nat} {ok : Nat → Prop} {v : Value} {xs : List α} {g : Nat} {cs : Array Value} (h : d.R e w base ok v xs) (hg : ∀ k, base ≤ k → k < w.heap.size → k ≠ g) : d.R e (w.setRow g cs) base ok v xs :=
  Kd.R_mono (Kd.R_step (Kd.R_bound h) (fun k hk hlt => setRow_other w g k cs (hg k hk.2.1 hlt))) (fun _ hk => hk.1)
theorem R_made {α : Type} {d : Kd α} {e : Nat} {w : World} {base : Nat} {ok : Nat → Prop} {v : Value} {xs : List α} (o : Obj) (cs : Array Value) (h : d.R e w base ok v xs) : d.R e ((w.alloc o).setRow w.heap.size cs) base ok v xs :=
  Kd.R_step h (fun k _ hlt => (setRow_other (w.alloc o) w.heap.size k cs (by omega)).trans (Below.heap_alloc w o k hlt))
theorem one_op (o : OpV) (h1 : o.body.oneCell' = true) (h2 : o.tok.oneCell' = true) : (opA o).all (·.oneCell') = true := by
  simp [opA, opL, h1, h2]
  refine ⟨rfl, rfl, fun _ _ => rfl, rfl, rfl, rfl, rfl, rfl⟩
theorem size_op (o : OpV) (h : o.of_.length = 32) : (Tryd.prog.info? 33).map (·.size) = some (opA o).size := by rw [opA_size h]; exact size33
theorem last3 {a b c : Prop} (h : a ∧ b ∧ c) : c := h.2.2
theorem oneZ : (opA zeroO).all (·.oneCell') = true := by kernel_rfl
end Go.Proofs.YtnfimhdcpmakpaaDoor.S
