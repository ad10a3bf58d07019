/-
  reply's small functions, and its reference's, by hand: a status's words, a head.
-/
import Derived.Test.YtnohcfgjhgfjkaaDoorSx
import Derived.Test.YtnohcfgjhgfjkaaDoorThen
import Derived.Test.YtnohcfgjhgfjkaaDoorDec
import Derived.Test.YtnohcfgjhgfjkaaDoorRefPrint
import Derived.Lib.ItoaLen
import Derived.Laws.Rows
import Derived.Laws.Tables
import Derived.Laws.CopyOwn
namespace Go.Proofs.YtnohcfgjhgfjkaaDoor.S
open Go.RowKit Go.Proofs.YtnohcfgjhgfjkaaDoorW.PrintWords
set_option linter.unusedVariables false
set_option linter.unusedSimpArgs false
/-- The statuses, and their words. -/
def statL : List (Int × List UInt8) := [(200, [79, 75]), (201, [67, 114, 101, 97, 116, 101, 100]), (400, [66, 97, 100, 32, 82, 101, 113, 117, 101, 115, 116]), (401, [85, 110, 97, 117, 116, 104, 111, 114, 105, 122, 101, 100]), (403, [70, 111, 114, 98, 105, 100, 100, 101, 110]), (404, [78, 111, 116, 32, 70, 111, 117, 110, 100]), (405, [77, 101, 116, 104, 111, 100, 32, 78, 111, 116, 32, 65, 108, 108, 111, 119, 101, 100]), (409, [67, 111, 110, 102, 108, 105, 99, 116]), (413, [67, 111, 110, 116, 101, 110, 116, 32, 84, 111, 111, 32, 76, 97, 114, 103, 101]), (431, [82, 101, 113, 117, 101, 115, 116, 32, 72, 101, 97, 100, 101, 114, 32, 70, 105, 101, 108, 100, 115, 32, 84, 111, 111, 32, 76, 97, 114, 103, 101]), (507, [73, 110, 115, 117, 102, 102, 105, 99, 105, 101, 110, 116, 32, 83, 116, 111, 114, 97, 103, 101])]
def look : List (Int × List UInt8) → Int → List UInt8
  | [], _ => []
  | (a, b) :: r, st => if a = st then b else look r st
def rs (st : Int) : List UInt8 := look statL st
theorem look_ne {a st : Int} {b : List UInt8} {r : List (Int × List UInt8)} (h : ¬ st = a) : look ((a, b) :: r) st = look r st := by rw [look, if_neg (fun e => h e.symm)]
theorem reason_f (st : Int) : reply_Reason.f st = some ⟨(rs st).toArray⟩ := by
  unfold reply_Reason.f rs statL
  by_cases h : st = 200
  · subst h; rfl
  rw [if_neg h, look_ne h]; clear h
  by_cases h : st = 201
  · subst h; rfl
  rw [if_neg h, look_ne h]; clear h
  by_cases h : st = 400
  · subst h; rfl
  rw [if_neg h, look_ne h]; clear h
  by_cases h : st = 401
  · subst h; rfl
  rw [if_neg h, look_ne h]; clear h
  by_cases h : st = 403
  · subst h; rfl
  rw [if_neg h, look_ne h]; clear h
  by_cases h : st = 404
  · subst h; rfl
  rw [if_neg h, look_ne h]; clear h
  by_cases h : st = 405
  · subst h; rfl
  rw [if_neg h, look_ne h]; clear h
  by_cases h : st = 409
  · subst h; rfl
  rw [if_neg h, look_ne h]; clear h
  by_cases h : st = 413
  · subst h; rfl
  rw [if_neg h, look_ne h]; clear h
  by_cases h : st = 431
  · subst h; rfl
  rw [if_neg h, look_ne h]; clear h
  by_cases h : st = 507
  · subst h; rfl
  rw [if_neg h, look_ne h]; clear h
  rfl
theorem one11 : (#[.int .i64 200, .int .i64 201, .int .i64 400, .int .i64 401, .int .i64 403, .int .i64 404, .int .i64 405, .int .i64 409, .int .i64 413, .int .i64 431, .int .i64 507] : Array Value).all (·.oneCell') = true := by simp [Value.oneCell']
theorem info11 : (Tryd.prog.info? 37).map (·.size) = some 11 := by kernel_rfl
theorem build_to {P : Program} {ops : Array Oper} {rest : List Oper} {o : Oper} {a : Act} {w : World} {Q : Exit → Act → World → Prop} (hg : o.guard = none) (t : TypeId) (parts : Array (Nat × Operand)) (ho : o.op = .build t parts)
    (cells : Array Value) (hf : P.built t (parts.map fun (i, x) => (i, a.eval x)).toList = some cells)
    (h : wpList P ops Q rest (a.put o.dst (.agg cells)) w) : wpList P ops Q (o :: rest) a w := by
  refine wpList_build hg t parts ho (by rw [hf]; rfl) ?_
  rw [hf]
  exact h
set_option maxRecDepth 100000 in
theorem statuses_any (w : World) : Calls Tryd.prog 23 #[] w fun e w' => e = .returned (.agg #[.int .i64 200, .int .i64 201, .int .i64 400, .int .i64 401, .int .i64 403, .int .i64 404, .int .i64 405, .int .i64 409, .int .i64 413, .int .i64 431, .int .i64 507]) ∧ Below w.heap.size w w' := by
  go_enter Tryd.func23, Tryd.ntmps23
  go_wp2_with (first | (refine build_to rfl 37 _ rfl #[.int .i64 200, .int .i64 201, .int .i64 400, .int .i64 401, .int .i64 403, .int .i64 404, .int .i64 405, .int .i64 409, .int .i64 413, .int .i64 431, .int .i64 507] (by kernel_rfl) ?_) | (refine wpList_store_row rfl 37 _ _ rfl w.heap.size #[.int .i64 200, .int .i64 201, .int .i64 400, .int .i64 401, .int .i64 403, .int .i64 404, .int .i64 405, .int .i64 409, .int .i64 413, .int .i64 431, .int .i64 507] rfl rfl 37 #[.int .i64 0, .int .i64 0, .int .i64 0, .int .i64 0, .int .i64 0, .int .i64 0, .int .i64 0, .int .i64 0, .int .i64 0, .int .i64 0, .int .i64 0] (heap_alloc_new w _) info11 rfl one11 ?_); refine Hid.out ?_)
  refine Lib.hid ?_
  have f1 := setRow_heap (w.alloc (.cells #[.int .i64 0, .int .i64 0, .int .i64 0, .int .i64 0, .int .i64 0, .int .i64 0, .int .i64 0, .int .i64 0, .int .i64 0, .int .i64 0, .int .i64 0] 37)) w.heap.size #[.int .i64 0, .int .i64 0, .int .i64 0, .int .i64 0, .int .i64 0, .int .i64 0, .int .i64 0, .int .i64 0, .int .i64 0, .int .i64 0, .int .i64 0] #[.int .i64 200, .int .i64 201, .int .i64 400, .int .i64 401, .int .i64 403, .int .i64 404, .int .i64 405, .int .i64 409, .int .i64 413, .int .i64 431, .int .i64 507] 37 _ (heap_alloc_new w _)
  have f2 := below_setRow (below_alloc (Below.refl w.heap.size w) (.cells #[.int .i64 0, .int .i64 0, .int .i64 0, .int .i64 0, .int .i64 0, .int .i64 0, .int .i64 0, .int .i64 0, .int .i64 0, .int .i64 0, .int .i64 0] 37)) (Nat.le_refl _) #[.int .i64 200, .int .i64 201, .int .i64 400, .int .i64 401, .int .i64 403, .int .i64 404, .int .i64 405, .int .i64 409, .int .i64 413, .int .i64 431, .int .i64 507]
  have F1 := Lib.hid f1
  clear f1
  generalize (w.alloc (.cells #[.int .i64 0, .int .i64 0, .int .i64 0, .int .i64 0, .int .i64 0, .int .i64 0, .int .i64 0, .int .i64 0, .int .i64 0, .int .i64 0, .int .i64 0] 37)).setRow w.heap.size #[.int .i64 200, .int .i64 201, .int .i64 400, .int .i64 401, .int .i64 403, .int .i64 404, .int .i64 405, .int .i64 409, .int .i64 413, .int .i64 431, .int .i64 507] = w3 at F1 f2
  go_wp2
  refine bodyPost_ret (v := .agg #[.int .i64 200, .int .i64 201, .int .i64 400, .int .i64 401, .int .i64 403, .int .i64 404, .int .i64 405, .int .i64 409, .int .i64 413, .int .i64 431, .int .i64 507]) (results_cell_row rfl _ _ w.heap.size 37 #[.int .i64 200, .int .i64 201, .int .i64 400, .int .i64 401, .int .i64 403, .int .i64 404, .int .i64 405, .int .i64 409, .int .i64 413, .int .i64 431, .int .i64 507] (0, 0) _ rfl F1.out Tryd.underlying37 rfl info11) rfl ⟨rfl, f2⟩
set_option maxRecDepth 100000 in
theorem ref_statuses_any (w : World) : Calls Tryd.prog 17 #[] w fun e w' => e = .returned (.agg #[.int .i64 200, .int .i64 201, .int .i64 400, .int .i64 401, .int .i64 403, .int .i64 404, .int .i64 405, .int .i64 409, .int .i64 413, .int .i64 431, .int .i64 507]) ∧ Below w.heap.size w w' := by
  go_enter Tryd.func17, Tryd.ntmps17
  go_wp2_with (first | (refine build_to rfl 37 _ rfl #[.int .i64 200, .int .i64 201, .int .i64 400, .int .i64 401, .int .i64 403, .int .i64 404, .int .i64 405, .int .i64 409, .int .i64 413, .int .i64 431, .int .i64 507] (by kernel_rfl) ?_) | (refine wpList_store_row rfl 37 _ _ rfl w.heap.size #[.int .i64 200, .int .i64 201, .int .i64 400, .int .i64 401, .int .i64 403, .int .i64 404, .int .i64 405, .int .i64 409, .int .i64 413, .int .i64 431, .int .i64 507] rfl rfl 37 #[.int .i64 0, .int .i64 0, .int .i64 0, .int .i64 0, .int .i64 0, .int .i64 0, .int .i64 0, .int .i64 0, .int .i64 0, .int .i64 0, .int .i64 0] (heap_alloc_new w _) info11 rfl one11 ?_); refine Hid.out ?_)
  refine Lib.hid ?_
  have f1 := setRow_heap (w.alloc (.cells #[.int .i64 0, .int .i64 0, .int .i64 0, .int .i64 0, .int .i64 0, .int .i64 0, .int .i64 0, .int .i64 0, .int .i64 0, .int .i64 0, .int .i64 0] 37)) w.heap.size #[.int .i64 0, .int .i64 0, .int .i64 0, .int .i64 0, .int .i64 0, .int .i64 0, .int .i64 0, .int .i64 0, .int .i64 0, .int .i64 0, .int .i64 0] #[.int .i64 200, .int .i64 201, .int .i64 400, .int .i64 401, .int .i64 403, .int .i64 404, .int .i64 405, .int .i64 409, .int .i64 413, .int .i64 431, .int .i64 507] 37 _ (heap_alloc_new w _)
  have f2 := below_setRow (below_alloc (Below.refl w.heap.size w) (.cells #[.int .i64 0, .int .i64 0, .int .i64 0, .int .i64 0, .int .i64 0, .int .i64 0, .int .i64 0, .int .i64 0, .int .i64 0, .int .i64 0, .int .i64 0] 37)) (Nat.le_refl _) #[.int .i64 200, .int .i64 201, .int .i64 400, .int .i64 401, .int .i64 403, .int .i64 404, .int .i64 405, .int .i64 409, .int .i64 413, .int .i64 431, .int .i64 507]
  have F1 := Lib.hid f1
  clear f1
  generalize (w.alloc (.cells #[.int .i64 0, .int .i64 0, .int .i64 0, .int .i64 0, .int .i64 0, .int .i64 0, .int .i64 0, .int .i64 0, .int .i64 0, .int .i64 0, .int .i64 0] 37)).setRow w.heap.size #[.int .i64 200, .int .i64 201, .int .i64 400, .int .i64 401, .int .i64 403, .int .i64 404, .int .i64 405, .int .i64 409, .int .i64 413, .int .i64 431, .int .i64 507] = w3 at F1 f2
  go_wp2
  refine bodyPost_ret (v := .agg #[.int .i64 200, .int .i64 201, .int .i64 400, .int .i64 401, .int .i64 403, .int .i64 404, .int .i64 405, .int .i64 409, .int .i64 413, .int .i64 431, .int .i64 507]) (results_cell_row rfl _ _ w.heap.size 37 #[.int .i64 200, .int .i64 201, .int .i64 400, .int .i64 401, .int .i64 403, .int .i64 404, .int .i64 405, .int .i64 409, .int .i64 413, .int .i64 431, .int .i64 507] (0, 0) _ rfl F1.out Tryd.underlying37 rfl info11) rfl ⟨rfl, f2⟩
end Go.Proofs.YtnohcfgjhgfjkaaDoor.S
