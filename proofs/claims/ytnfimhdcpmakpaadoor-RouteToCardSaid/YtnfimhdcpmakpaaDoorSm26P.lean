/-
  The reference's Same, walked at two operations that are the same.
-/
import Derived.Test.YtnfimhdcpmakpaaDoorFaP
import Derived.Deep.MidRow
namespace Go.Proofs.YtnfimhdcpmakpaaDoor.S
open Go.RowKit Go.Proofs.YtnfimhdcpmakpaaDoorW.PrintWords
set_option linter.unusedVariables false
set_option linter.unusedSimpArgs false
theorem eq_arr (X : Array Value) (w : World) (hX : ∀ i, i < 32 → ∃ a : Int, X[i]? = some (.int .u8 a)) : (Op.equalIn 10000 30 (.agg X) (.agg X)).run Tryd.prog w = .ok true w := by
  rw [show (10000 : Nat) = 9999 + 1 from rfl]
  have hu : Tryd.prog.underlying 30 = some (.array 32 5) := Tryd.underlying30
  have z5 := Tryd.sizeOf5
  have a5 := Tryd.isAgg5
  have part5 : ∀ i, i < 32 → ∀ a, X[i]? = some (.int .u8 a) → (part 5 X i).run Tryd.prog w = .ok (.int .u8 a) w := by
    intro i hi a ha
    unfold part
    rw [Sem.run_bind, a5]
    simp [ha]
  have eq5 : ∀ a : Int, (Op.equalIn 9999 5 (.int .u8 a) (.int .u8 a)).run Tryd.prog w = .ok true w := by
    intro a
    rw [show (9999 : Nat) = 9998 + 1 from rfl]
    unfold Op.equalIn
    rw [Sem.run_bind, run_underlying Tryd.underlying5 w]
    simp
  have key : ∀ l : List Nat, (∀ i ∈ l, i < 32) → (forIn l ((none : Option Bool), ()) fun i __s => (do
              let __do_lift ← part 5 X (i * 1)
              let __do_lift_1 ← part 5 X (i * 1)
              let __do_lift ← Op.equalIn 9999 5 __do_lift __do_lift_1
              if (!__do_lift) = true then pure (ForInStep.done (some false, ())) else pure (ForInStep.yield (none, ())) : Sem _)).run Tryd.prog w = .ok (none, ()) w := by
    intro l
    induction l with
    | nil => intro _; rfl
    | cons i l ih =>
      intro h
      have hi := h i (List.mem_cons_self)
      obtain ⟨a, ha⟩ := hX i hi
      have h1 := part5 i hi a ha
      rw [List.forIn_cons, Sem.run_bind]
      simp only [Sem.run_bind, Nat.mul_one, h1, Result.andThen_ok, eq5]
      simp only [Bool.not_true, Bool.false_eq_true, if_false, Sem.run_pure, Result.andThen_ok]
      simpa only [Nat.mul_one] using ih (fun j hj => h j (List.mem_cons_of_mem _ hj))
  unfold Op.equalIn
  rw [Sem.run_bind, run_underlying hu w]
  simp only [Result.andThen_ok]
  rw [Sem.run_bind, z5]
  simp only [Result.andThen_ok]
  rw [Sem.run_bind]
  simp only [Std.Legacy.Range.forIn_eq_forIn_range']
  rw [key _ (by intro i hi; simpa [Std.Legacy.Range.size] using hi)]
  rfl
theorem eq_id (xs : List Int) (h : xs.length = 32) (w : World) : (Op.equalIn 10000 30 (.agg (nums .u8 xs).toArray) (.agg (nums .u8 xs).toArray)).run Tryd.prog w = .ok true w :=
  eq_arr _ w fun i hi => ⟨xs[i], by simp [nums, h, hi]⟩
theorem of_range {o : OpV} (h : o.of_.length = 32) {w : World} {g : Nat} (hg : w.heap[g]? = some (.cells (opA o) 33 (0, 0))) : w.rangeAt g 2 (nums .u8 o.of_) := by
  intro j v hj
  have hjl : j < 32 := by
    rcases Nat.lt_or_ge j 32 with h' | h'
    · exact h'
    · rw [List.getElem?_eq_none (by simpa [nums, h] using h')] at hj; cases hj
  rw [blk_cell hg (2 + j)]
  unfold opA opL
  rw [List.getElem?_toArray, show 2 + j = j + 1 + 1 by omega, List.getElem?_cons_succ, List.getElem?_cons_succ, List.getElem?_append_left (by simp [h, hjl])]
  exact hj
theorem step_load_mid {P : Program} {ops : Array Oper} {o : Oper} {a : Act} {w : World} {Q : Exit → Act → World → Prop} {Kc : Act → World → Prop} (hw : Region.wanted o (yielded ops a.tmps) = true) (ty : TypeId) (x : Operand) (ho : o.op = .load ty x)
    (g : Nat) (hx : a.eval x = .pointer (some ⟨g, 2, none⟩)) (cs : List Value) (hL : (Instr.loadAt ty (.pointer (some ⟨g, 2, none⟩))).run P w = .ok (.agg cs.toArray) w)
    (h : Kc (a.put o.dst (.agg cs.toArray)) w) : if Region.wanted o (yielded ops a.tmps) = true then Oper.wp P o a w Kc Q else Kc (a.put o.dst undef) w := by
  rw [if_pos hw]
  unfold Oper.wp execOp
  simp only [ho, hx, hL, Sem.run_bind, Sem.run_pure, Result.andThen_ok]
  exact h
theorem wpList_load_mid_g {P : Program} {ops : Array Oper} {rest : List Oper} {o : Oper} {a : Act} {w : World} {Q : Exit → Act → World → Prop} (hw : Region.wanted o (yielded ops a.tmps) = true) (ty : TypeId) (x : Operand) (ho : o.op = .load ty x)
    (g : Nat) (hx : a.eval x = .pointer (some ⟨g, 2, none⟩)) (cs : List Value) (hL : (Instr.loadAt ty (.pointer (some ⟨g, 2, none⟩))).run P w = .ok (.agg cs.toArray) w)
    (h : wpList P ops Q rest (a.put o.dst (.agg cs.toArray)) w) : wpList P ops Q (o :: rest) a w :=
  wpList_step fun K hK => step_load_mid hw ty x ho g hx cs hL (hK _ _ h)
set_option maxHeartbeats 8000000 in
set_option maxRecDepth 100000 in
theorem same_any (o : OpV) (ho : o.of_.length = 32) (t b : List Int) (A1 B1 A2 B2 : Option Addr) (c1 d1 c2 d2 : Nat) (w : World)
    (h1 : Kd.C (Kd.int .u8) w A1 t.length t) (h2 : Kd.C (Kd.int .u8) w B1 b.length b) (h3 : Kd.C (Kd.int .u8) w A2 t.length t) (h4 : Kd.C (Kd.int .u8) w B2 b.length b) :
    Calls Tryd.prog 14 #[.agg (opA { o with tok := .slice A1 t.length c1, body := .slice B1 b.length d1 }), .agg (opA { o with tok := .slice A2 t.length c2, body := .slice B2 b.length d2 })] w
      fun e w' => e = .returned (.bool true) ∧ Below w.heap.size w w' := by
  have H1 := Lib.hid h1
  have H2 := Lib.hid h2
  have H3 := Lib.hid h3
  have H4 := Lib.hid h4
  obtain ⟨p, hp⟩ : ∃ p, p = ({ o with tok := .slice A1 t.length c1, body := .slice B1 b.length d1 } : OpV) := ⟨_, rfl⟩
  obtain ⟨q, hq⟩ : ∃ q, q = ({ o with tok := .slice A2 t.length c2, body := .slice B2 b.length d2 } : OpV) := ⟨_, rfl⟩
  have p32 : p.of_.length = 32 := by rw [hp]; exact ho
  have q32 : q.of_.length = 32 := by rw [hq]; exact ho
  have HPO := Lib.hid (show p.dv = o.dv ∧ p.ten = o.ten ∧ p.of_ = o.of_ ∧ p.num = o.num ∧ p.unt = o.unt ∧ p.rig = o.rig ∧ p.body = .slice B1 b.length d1 ∧ p.tok = .slice A1 t.length c1 by rw [hp]; exact ⟨rfl, rfl, rfl, rfl, rfl, rfl, rfl, rfl⟩)
  have HQO := Lib.hid (show q.dv = o.dv ∧ q.ten = o.ten ∧ q.of_ = o.of_ ∧ q.num = o.num ∧ q.unt = o.unt ∧ q.rig = o.rig ∧ q.body = .slice B2 b.length d2 ∧ q.tok = .slice A2 t.length c2 by rw [hq]; exact ⟨rfl, rfl, rfl, rfl, rfl, rfl, rfl, rfl⟩)
  rw [← hp, ← hq]
  have P32 := Lib.hid p32
  have Q32 := Lib.hid q32
  clear hp hq h1 h2 h3 h4 p32 q32
  go_enter Tryd.func14, Tryd.ntmps14
  go_upto_region 1 with fail
  have f1 : ((w.alloc (.cells (opA p) 33)).alloc (.cells (opA q) 33)).heap[w.heap.size]? = some (.cells (opA p) 33 (0, 0)) := blk_alloc (blk_new w _) _
  have f2 : ((w.alloc (.cells (opA p) 33)).alloc (.cells (opA q) 33)).heap[w.heap.size + 1]? = some (.cells (opA q) 33 (0, 0)) := by
    have := blk_new (w.alloc (.cells (opA p) 33)) (.cells (opA q) 33)
    simpa only [World.alloc, Array.size_push] using this
  have HB := Lib.hid (show Below w.heap.size w ((w.alloc (.cells (opA p) 33)).alloc (.cells (opA q) 33)) from below_alloc (below_alloc (Below.refl _ _) _) _)
  generalize ((w.alloc (.cells (opA p) 33)).alloc (.cells (opA q) 33)) = w1 at f1 f2 HB ⊢
  simp only [List.append]
  obtain ⟨e0, e1, e2, e3, e4, e5, e6, e7⟩ := HPO.out
  obtain ⟨g0, g1, g2, g3, g4, g5, g6, g7⟩ := HQO.out
  have x0 := (blk_cell f1 0).trans (opA_0 P32.out)
  have x1 := (blk_cell f1 1).trans (opA_1 P32.out)
  have x3 := (blk_cell f1 34).trans (opA_34 P32.out)
  have x4 := (blk_cell f1 35).trans (opA_35 P32.out)
  have x5 := (blk_cell f1 36).trans (opA_36 P32.out)
  have x6 := (blk_cell f1 37).trans (opA_37 P32.out)
  have x7 := (blk_cell f1 38).trans (opA_38 P32.out)
  have y0 := (blk_cell f2 0).trans (opA_0 Q32.out)
  have y1 := (blk_cell f2 1).trans (opA_1 Q32.out)
  have y3 := (blk_cell f2 34).trans (opA_34 Q32.out)
  have y4 := (blk_cell f2 35).trans (opA_35 Q32.out)
  have y5 := (blk_cell f2 36).trans (opA_36 Q32.out)
  have y6 := (blk_cell f2 37).trans (opA_37 Q32.out)
  have y7 := (blk_cell f2 38).trans (opA_38 Q32.out)
  rw [e0] at x0; rw [e1] at x1; rw [e3] at x3; rw [e4] at x4; rw [e5] at x5; rw [e6] at x6; rw [e7] at x7
  rw [g0] at y0; rw [g1] at y1; rw [g3] at y3; rw [g4] at y4; rw [g5] at y5; rw [g6] at y6; rw [g7] at y7
  have r1 := of_range P32.out f1
  have r2 := of_range Q32.out f2
  rw [e2] at r1
  rw [g2] at r2
  have i1 : (Tryd.prog.info? 30).map (·.size) = some (nums .u8 o.of_).length := by rw [info_id]; simp [nums, ho]
  have L1 := Lib.hid <| run_loadAt_mid w1 w.heap.size 2 30 (nums .u8 o.of_) _ r1 Tryd.underlying30 rfl i1
  have L2 := Lib.hid <| run_loadAt_mid w1 (w.heap.size + 1) 2 30 (nums .u8 o.of_) _ r2 Tryd.underlying30 rfl i1
  have hEQ := eq_id o.of_ ho
  clear r1 r2 i1
  have v1 := Kd.C_string (P := Tryd.prog) (src := 23) (dst := 9) (c := c1) Tryd.underlying23 Tryd.underlying5 Tryd.underlying9 (Kd.C_below H1.out HB.out)
  have v2 := Kd.C_string (P := Tryd.prog) (src := 23) (dst := 9) (c := d1) Tryd.underlying23 Tryd.underlying5 Tryd.underlying9 (Kd.C_below H2.out HB.out)
  have v3 := Kd.C_string (P := Tryd.prog) (src := 23) (dst := 9) (c := c2) Tryd.underlying23 Tryd.underlying5 Tryd.underlying9 (Kd.C_below H3.out HB.out)
  have v4 := Kd.C_string (P := Tryd.prog) (src := 23) (dst := 9) (c := d2) Tryd.underlying23 Tryd.underlying5 Tryd.underlying9 (Kd.C_below H4.out HB.out)
  clear f1 f2 e0 e1 e2 e3 e4 e5 e6 e7 g0 g1 g2 g3 g4 g5 g6 g7 HPO HQO P32 Q32 H1 H2 H3 H4 ho
  go_wp2_with (first | (refine step_load_mid rfl 30 _ rfl w.heap.size rfl _ L1.out ?_) | (refine step_load_mid rfl 30 _ rfl (w.heap.size + 1) rfl _ L2.out ?_) | (refine wpList_load_mid_g rfl 30 _ rfl w.heap.size rfl _ L1.out ?_) | (refine wpList_load_mid_g rfl 30 _ rfl (w.heap.size + 1) rfl _ L2.out ?_))
  go_ret
  exact ⟨rfl, HB.out⟩
end Go.Proofs.YtnfimhdcpmakpaaDoor.S
