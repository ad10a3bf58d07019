/-
  route.To, walked: at roads without a body and without a hash, and at queries of no parameters.
-/
import Derived.Test.YtnfimhdcpmakpaaDoorFil26
import Derived.Test.YtnfimhdcpmakpaaDoorAsk26
namespace Go.Proofs.YtnfimhdcpmakpaaDoor.S
open Go.RowKit Go.Proofs.YtnfimhdcpmakpaaDoorW.PrintWords
set_option linter.unusedVariables false
set_option linter.unusedSimpArgs false
/-- The roads, one by one. -/
def toScan (K : Nat) (m : ByteArray) (P : List ByteArray) (fs : List S41) : List S58 → Int → Option (OpV × List Int × Int)
  | [], st => some (zeroO, [], st)
  | x :: rs, st => (route_road_fits.f K x.f0 x.f1 x.f2 x.f3 x.f4 x.f5 P).bind fun b => if b = false then toScan K m P fs rs st else if x.f0.toList = m.toList then
      (route_token.f K fs).bind fun t => (route_road_parts.f x.f0 x.f1 x.f2 x.f3 x.f4 x.f5).bind fun form => if x.f3 = true ∨ form.length ≠ P.length then none else (fillF K form P { zeroO with dv := x.f2 }).bind fun q =>
        if q.1 = true ∧ (!x.f4 && !x.f5) = true then some (q.2, t, 0) else some (zeroO, [], 400)
    else toScan K m P fs rs 405
/-- What an operation comes of, or which status. -/
def toF (K : Nat) (m s : ByteArray) (fs : List S41) : Option (OpV × List Int × Int) :=
  (target_Parse.f K s).bind fun t => if t.2.2 = 0 then (if t.2.1.length = 0 ∧ t.1.length ≤ 1048576 then (route_roads.f).bind fun rs => toScan K m t.1 fs rs 404 else none) else some (zeroO, [], 400)
theorem fillF_tok (K : Nat) (v : Value) : ∀ (xs ps : List ByteArray) (o : OpV), fillF K xs ps { o with tok := v } = (fillF K xs ps o).map fun q => (q.1, { q.2 with tok := v })
  | [], _, o => rfl
  | _ :: _, [], _ => rfl
  | x :: xs, p :: ps, o => by
    rw [fillF_of, fillF_of]
    by_cases h1 : x.toList = [78, 65, 77, 69]
    · rw [if_pos h1, if_pos h1]
      rcases names_May.f K p with _ | b
      · rfl
      · simp only [Option.bind_some]
        by_cases hb : b = true
        · rw [if_pos hb, if_pos hb]; exact fillF_tok K v xs ps { o with ten := p }
        · rw [if_neg hb, if_neg hb]; rfl
    · rw [if_neg h1, if_neg h1]
      by_cases h2 : x.toList = [72, 69, 88]
      · rw [if_pos h2, if_pos h2]; rfl
      · rw [if_neg h2, if_neg h2]
        by_cases h3 : x.toList = [78]
        · rw [if_pos h3, if_pos h3]
          rcases names_Number.f K p with _ | n
          · rfl
          · simp only [Option.bind_some]
            by_cases hb : n.2 = 0
            · rw [if_pos hb, if_pos hb]; exact fillF_tok K v xs ps { o with num := n.1 }
            · rw [if_neg hb, if_neg hb]; rfl
        · rw [if_neg h3, if_neg h3]; exact fillF_tok K v xs ps o
theorem size58 : (Tryd.prog.info? 58).map (·.size) = some 6 := by kernel_rfl
theorem size33 : (Tryd.prog.info? 33).map (·.size) = some 72 := by kernel_rfl
theorem size51 : (Tryd.prog.info? 51).map (·.size) = some 2 := by kernel_rfl
theorem zero33 : Tryd.prog.built 33 [] = some (opA zeroO) := by kernel_rfl
theorem built33 (d : Int) (A : Option Addr) (n c : Nat) : Tryd.prog.built 33 [(0, .int .i64 d), (7, .slice A n c)] = some (opA { zeroO with dv := d, tok := .slice A n c }) := by kernel_rfl
theorem build_to {P : Program} {ops : Array Oper} {rest : List Oper} {o : Oper} {a : Act} {w : World} {Q : Exit → Act → World → Prop} (hg : o.guard = none) (t : TypeId) (parts : Array (Nat × Operand)) (ho : o.op = .build t parts)
    (cells : Array Value) (hf : P.built t (parts.map fun (i, x) => (i, a.eval x)).toList = some cells)
    (h : wpList P ops Q rest (a.put o.dst (.agg cells)) w) : wpList P ops Q (o :: rest) a w := by
  refine wpList_build hg t parts ho (by rw [hf]; rfl) ?_
  rw [hf]
  exact h
theorem zero_cells : Tryd.zeroCells33 = opA zeroO := by kernel_rfl
theorem size33z : (Tryd.prog.info? 33).map (·.size) = some (opA zeroO).size := by kernel_rfl
theorem run_storeCells_row {P : Program} (w : World) (g : Nat) (t : TypeId) (old : Array Value) (l : List Value) (hg : w.heap[g]? = some (.cells old t (0, 0))) (ho : old.size = l.length) (h1 : ∀ v ∈ l, v.oneCell' = true) :
    (storeCells ⟨g, 0, none⟩ l).run P w = .ok () (w.setRow g l.toArray) := by
  have := run_storeCells_from (P := P) g t l 0 old w hg (by omega) h1
  simpa [ho] using this
theorem stored33 (w7 : World) (d : Int) (A : Option Addr) (n c : Nat) : (storeCells { block := w7.heap.size, off := 0 } ((Tryd.zeroCells33.toList.set 0 (.int .i64 d)).set 38 (.slice A n c))).run Tryd.prog (w7.alloc (.cells Tryd.zeroCells33 33)) = .ok () ((w7.alloc (.cells Tryd.zeroCells33 33)).setRow w7.heap.size (opA { zeroO with dv := d, tok := .slice A n c })) := by
  rw [run_storeCells_row (w7.alloc (.cells Tryd.zeroCells33 33)) w7.heap.size 33 Tryd.zeroCells33 _ (heap_alloc_new w7 _) (by kernel_rfl) (List.all_eq_true.1 (by kernel_rfl))]
  rfl
theorem stored33b (w7 : World) (g : Nat) (h : w7.heap[g]? = some (.cells Tryd.zeroCells33 33 (0, 0))) (d : Int) (A : Option Addr) (n c : Nat) : (storeCells { block := g, off := 0 } ((Tryd.zeroCells33.toList.set 0 (.int .i64 d)).set 38 (.slice A n c))).run Tryd.prog w7 = .ok () (w7.setRow g (opA { zeroO with dv := d, tok := .slice A n c })) := by
  rw [run_storeCells_row w7 g 33 Tryd.zeroCells33 _ h (by kernel_rfl) (List.all_eq_true.1 (by kernel_rfl))]
  rfl
theorem R_setRow {α : Type} {d : Kd α} {e : Nat} {w : World} {base : Nat} {ok : Nat → Prop} {v : Value} {xs : List α} {g : Nat} {cs : Array Value} (h : d.R e w base ok v xs) (hg : ∀ k, base ≤ k → k < w.heap.size → k ≠ g) : d.R e (w.setRow g cs) base ok v xs :=
  Kd.R_mono (Kd.R_step (Kd.R_bound h) (fun k hk hlt => setRow_other w g k cs (hg k hk.2.1 hlt))) (fun _ hk => hk.1)
theorem R_made {α : Type} {d : Kd α} {e : Nat} {w : World} {base : Nat} {ok : Nat → Prop} {v : Value} {xs : List α} (o : Obj) (cs : Array Value) (h : d.R e w base ok v xs) : d.R e ((w.alloc o).setRow w.heap.size cs) base ok v xs :=
  Kd.R_step h (fun k _ hlt => (setRow_other (w.alloc o) w.heap.size k cs (by omega)).trans (Below.heap_alloc w o k hlt))
theorem fillF_keeps (K : Nat) : ∀ (xs ps : List ByteArray) (o : OpV) (b : Bool) (q : OpV), fillF K xs ps o = some (b, q) → q.body = o.body ∧ q.of_ = o.of_
  | [], _, o, b, q, h => by
    obtain ⟨_, rfl⟩ := Prod.mk.inj (Option.some.inj h)
    exact ⟨rfl, rfl⟩
  | _ :: _, [], o, b, q, h => by cases h
  | x :: xs, p :: ps, o, b, q, h => by
    rw [fillF_of] at h
    by_cases h1 : x.toList = [78, 65, 77, 69]
    · rw [if_pos h1] at h
      obtain ⟨r, _, h⟩ := Option.bind_eq_some_iff.1 h
      by_cases hr : r = true
      · rw [if_pos hr] at h
        exact fillF_keeps K xs ps { o with ten := p } b q h
      · rw [if_neg hr] at h
        obtain ⟨_, rfl⟩ := Prod.mk.inj (Option.some.inj h)
        exact ⟨rfl, rfl⟩
    · rw [if_neg h1] at h
      by_cases h2 : x.toList = [72, 69, 88]
      · rw [if_pos h2] at h; cases h
      · rw [if_neg h2] at h
        by_cases h3 : x.toList = [78]
        · rw [if_pos h3] at h
          obtain ⟨r, _, h⟩ := Option.bind_eq_some_iff.1 h
          by_cases hr : r.2 = 0
          · rw [if_pos hr] at h
            exact fillF_keeps K xs ps { o with num := r.1 } b q h
          · rw [if_neg hr] at h
            obtain ⟨_, rfl⟩ := Prod.mk.inj (Option.some.inj h)
            exact ⟨rfl, rfl⟩
        · rw [if_neg h3] at h
          exact fillF_keeps K xs ps o b q h
theorem one_op (o : OpV) (h1 : o.body.oneCell' = true) (h2 : o.tok.oneCell' = true) : (opA o).all (·.oneCell') = true := by
  simp [opA, opL, h1, h2]
  refine ⟨rfl, rfl, fun _ _ => rfl, rfl, rfl, rfl, rfl, rfl⟩
theorem size_op (o : OpV) (h : o.of_.length = 32) : (Tryd.prog.info? 33).map (·.size) = some (opA o).size := by rw [opA_size h]; exact size33
theorem last3 {a b c : Prop} (h : a ∧ b ∧ c) : c := h.2.2
theorem oneZ : (opA zeroO).all (·.oneCell') = true := by kernel_rfl
set_option maxHeartbeats 8000000 in
set_option maxRecDepth 100000 in
theorem to_any (K : Nat) (m s : ByteArray) (Af : Option Addr) (cf : Nat) (fs : List S41) (Ab : Option Addr) (nb cb : Nat) (kp : Bool) (w : World) (o' : OpV) (t' : List Int) (st : Int)
    (hf : Kd.C k41 w Af fs.length fs) (hc : fs.length ≤ cf) (h : toF K m s fs = some (o', t', st)) :
    Calls Tryd.prog 10 #[.agg #[.string m, .string s, .slice Af fs.length cf, .slice Ab nb cb, .bool kp]] w
      fun e w' => (∃ v, e = .returned (.tuple #[.agg (opA { o' with tok := v }), .int .i64 st]) ∧ Kd.R (Kd.int .u8) 5 w' w.heap.size (fun _ => True) v t') ∧ Below w.heap.size w w' := by
  have HF := Lib.hid hf
  have HS := Lib.hid h
  clear hf h
  unfold toF at HS
  obtain ⟨t, hP, hS⟩ := Option.bind_eq_some_iff.1 HS.out
  obtain ⟨P, Q, e⟩ := t
  have HP := Lib.hid hP
  have HS2 := Lib.hid hS
  clear HS hP hS
  go_enter Tryd.func10, Tryd.ntmps10
  go_wp2_with fail
  rw [zero_cells]
  have g0 : (((w.alloc (.cells #[.string m, .string s, .slice Af fs.length cf, .slice Ab nb cb, .bool kp] 25)).alloc (.cells (opA zeroO) 33)).heap[w.heap.size]?) = some (.cells #[.string m, .string s, .slice Af fs.length cf, .slice Ab nb cb, .bool kp] 25 (0, 0)) := blk_alloc (blk_new w _) _
  have g1 : (((w.alloc (.cells #[.string m, .string s, .slice Af fs.length cf, .slice Ab nb cb, .bool kp] 25)).alloc (.cells (opA zeroO) 33)).heap[w.heap.size + 1]?) = some (.cells (opA zeroO) 33 (0, 0)) := by
    have := blk_new (w.alloc (.cells #[.string m, .string s, .slice Af fs.length cf, .slice Ab nb cb, .bool kp] 25)) (.cells (opA zeroO) 33)
    simpa only [World.alloc, Array.size_push] using this
  have hb0 : Below w.heap.size w ((w.alloc (.cells #[.string m, .string s, .slice Af fs.length cf, .slice Ab nb cb, .bool kp] 25)).alloc (.cells (opA zeroO) 33)) := below_alloc (below_alloc (Below.refl _ _) _) _
  generalize ((w.alloc (.cells #[.string m, .string s, .slice Af fs.length cf, .slice Ab nb cb, .bool kp] 25)).alloc (.cells (opA zeroO) 33)) = w0 at g0 g1 hb0 ⊢
  refine (target_Parse.calls K s P Q e _ HP.out).mono ?_
  rintro _ w1 ⟨v0, v1, rfl, r0, r1, hb⟩
  obtain ⟨A0, n0, eo0⟩ := Kd.R_slice r0
  subst eo0
  obtain ⟨A1, n1, eo1⟩ := Kd.R_slice r1
  subst eo1
  have hb1 := below_then hb0 hb0.size hb
  have BR := Lib.hid (blk_below g0 hb)
  have BO := Lib.hid (blk_below g1 hb)
  have RP := Lib.hid (Kd.R_lower r0 hb0.size)
  clear g0 g1 r0 r1 hb hb0 HP
  have one1 : (#[.slice A0 P.length n0, .slice A1 Q.length n1] : Array Value).all (·.oneCell') = true := by simp [Value.oneCell']
  go_wp2_with ((refine wpList_store_row rfl 51 _ _ rfl w1.heap.size #[.slice A0 P.length n0, .slice A1 Q.length n1] rfl rfl 51 #[.slice none 0 0, .slice none 0 0] (heap_alloc_new w1 _) size51 rfl one1 ?_); refine Hid.out ?_)
  refine Lib.hid ?_
  have f1 := setRow_heap (w1.alloc (.cells #[.slice none 0 0, .slice none 0 0] 51)) w1.heap.size _ #[.slice A0 P.length n0, .slice A1 Q.length n1] 51 _ (heap_alloc_new w1 _)
  have f2 := below_setRow (below_alloc (Below.refl w1.heap.size w1) (.cells #[.slice none 0 0, .slice none 0 0] 51)) (Nat.le_refl _) #[.slice A0 P.length n0, .slice A1 Q.length n1]
  generalize (w1.alloc (.cells #[.slice none 0 0, .slice none 0 0] 51)).setRow w1.heap.size #[.slice A0 P.length n0, .slice A1 Q.length n1] = w2 at f1 f2 ⊢
  generalize hg4 : w1.heap.size = g4 at f1 f2 ⊢
  replace BR := Lib.hid (blk_below BR.out (hg4 ▸ f2))
  replace BO := Lib.hid (blk_below BO.out (hg4 ▸ f2))
  replace RP := Lib.hid (Kd.R_below RP.out (hg4 ▸ f2))
  have HB := Lib.hid (below_then hb1 hb1.size (hg4 ▸ f2))
  have BT := Lib.hid f1
  clear f1 f2 one1 hb1 hg4
  by_cases he : e = 0
  rotate_left
  · have hS := HS2.out
    rw [if_neg (show ¬ (P, Q, e).2.2 = 0 from he)] at hS
    obtain ⟨rfl, hS1⟩ := Prod.mk.inj (Option.some.inj hS)
    obtain ⟨rfl, rfl⟩ := Prod.mk.inj hS1
    have h1 : (e != 0) = true := by simpa using he
    clear hS hS1 HS2 he
    go_wp2_with (first | (refine build_to rfl 33 _ rfl (opA zeroO) (by kernel_rfl) ?_) | ((refine wpList_store_row rfl 33 _ _ rfl (w.heap.size + 1) (opA zeroO) rfl rfl 33 (opA zeroO) BO.out size33z rfl oneZ ?_); refine Hid.out ?_))
    refine Lib.hid ?_
    have f1 := setRow_heap w2 (w.heap.size + 1) _ (opA zeroO) 33 _ BO.out
    have f2 : Below w.heap.size w (w2.setRow (w.heap.size + 1) (opA zeroO)) := below_setRow HB.out (Nat.le_succ _) _
    generalize w2.setRow (w.heap.size + 1) (opA zeroO) = w3 at f1 f2 ⊢
    go_wp2
    refine bodyPost_ret (results_ct rfl _ _ (w.heap.size + 1) 33 (opA zeroO) (0, 0) _ rfl f1 Tryd.underlying33 rfl size33z) rfl ?_
    exact ⟨⟨.slice none 0 0, rfl, Kd.R_nil _ _ _ _ _⟩, f2⟩
  · subst he
    have hS := HS2.out
    rw [if_pos (show (P, Q, (0 : Int)).2.2 = 0 from rfl)] at hS
    by_cases hQ : Q.length = 0 ∧ P.length ≤ 1048576
    rotate_left
    · rw [if_neg hQ] at hS; cases hS
    rw [if_pos hQ] at hS
    obtain ⟨rs, hrs, hS⟩ := Option.bind_eq_some_iff.1 hS
    have hrl : rs.length = 17 := by obtain rfl := Option.some.inj hrs; rfl
    have HSC := Lib.hid hS
    have HRS := Lib.hid hrs
    clear hS HS2 hrs
    go_wp2_with fail
    refine (route_roads.calls rs _ HRS.out).mono ?_
    rintro _ w3 ⟨vr, rfl, rr, hb⟩
    obtain ⟨Ar, nr, eor⟩ := Kd.R_slice rr
    subst eor
    replace BR := Lib.hid (blk_below BR.out hb)
    replace BO := Lib.hid (blk_below BO.out hb)
    replace BT := Lib.hid (blk_below BT.out hb)
    replace RP := Lib.hid (Kd.R_below RP.out hb)
    have RR := Lib.hid (Kd.R_lower rr HB.out.size)
    replace HB := Lib.hid (below_then HB.out HB.out.size hb)
    clear rr hb HRS
    go_wp2_with fail
    go_loopw [6, 21] (fun sv i wr => ∃ (k : Nat) (sx : Int), k ≤ rs.length ∧ sv = .int .i64 sx ∧ i = .int .i64 k ∧ Hid (toScan K m P fs (rs.drop k) sx = some (o', t', st)) ∧ Hid (wr.heap[w.heap.size]? = some (.cells #[.string m, .string s, .slice Af fs.length cf, .slice Ab nb cb, .bool kp] 25 (0, 0))) ∧ Hid (wr.heap[w.heap.size + 1]? = some (.cells (opA zeroO) 33 (0, 0))) ∧ Hid (wr.heap[g4]? = some (.cells #[.slice A0 P.length n0, .slice A1 Q.length n1] 51 (0, 0))) ∧ Hid (Kd.R Kd.string 9 wr w.heap.size (fun _ => True) (.slice A0 P.length n0) P) ∧ Hid (Kd.R k58 58 wr w.heap.size (fun _ => True) (.slice Ar rs.length nr) rs) ∧ Hid (Below w.heap.size w wr)) (fun _ i _ => rs.length - (intOf i).toNat)
    case atStart => exact ⟨0, 404, by omega, rfl, rfl, HSC, BR, BO, BT, RP, RR, HB⟩
    case round =>
      clear HSC BR BO BT RP RR HB
      obtain ⟨k, sx, hk, rfl, rfl, HSC, BR, BO, BT, RP, RR, HB⟩ := hrel
      by_cases hlt : k < rs.length
      · obtain ⟨ad, e0, x0, x1, x2, x3, x4, x5⟩ := at_T58 (Kd.R_reads' RR.out).2.2 (k : Int) (by omega) (by omega)
        unfold rd_T58 at x0 x1 x2 x3 x4 x5
        rw [Int.toNat_natCast] at x0 x1 x2 x3 x4 x5
        have hdr : rs.drop k = rs.getD k z58 :: rs.drop (k + 1) := by rw [List.drop_eq_getElem_cons hlt, List.getD_eq_getElem?_getD, List.getElem?_eq_getElem hlt]; rfl
        have hsc := HSC.out
        rw [hdr, toScan] at hsc
        generalize rs.getD k z58 = x at *
        clear hdr HSC
        cases e0
        obtain ⟨b, hb, hsc⟩ := Option.bind_eq_some_iff.1 hsc
        have HFI := Lib.hid hb
        have HSC := Lib.hid hsc
        clear hb hsc
        have one6 : (#[.string x.f0, .string x.f1, .int .i64 x.f2, .bool x.f3, .bool x.f4, .bool x.f5] : Array Value).all (·.oneCell') = true := by simp [Value.oneCell']
        go_wp2_with ((refine wpList_store_row rfl 58 _ _ rfl wr.heap.size #[.string x.f0, .string x.f1, .int .i64 x.f2, .bool x.f3, .bool x.f4, .bool x.f5] rfl rfl 58 #[.string ⟨#[]⟩, .string ⟨#[]⟩, .int .i64 0, .bool false, .bool false, .bool false] (heap_alloc_new wr _) size58 rfl one6 ?_); refine Hid.out ?_)
        refine Lib.hid ?_
        have f1 := setRow_heap (wr.alloc (.cells #[.string ⟨#[]⟩, .string ⟨#[]⟩, .int .i64 0, .bool false, .bool false, .bool false] 58)) wr.heap.size _ #[.string x.f0, .string x.f1, .int .i64 x.f2, .bool x.f3, .bool x.f4, .bool x.f5] 58 _ (heap_alloc_new wr _)
        have f2 := below_setRow (below_alloc (Below.refl wr.heap.size wr) (.cells #[.string ⟨#[]⟩, .string ⟨#[]⟩, .int .i64 0, .bool false, .bool false, .bool false] 58)) (Nat.le_refl _) #[.string x.f0, .string x.f1, .int .i64 x.f2, .bool x.f3, .bool x.f4, .bool x.f5]
        generalize (wr.alloc (.cells #[.string ⟨#[]⟩, .string ⟨#[]⟩, .int .i64 0, .bool false, .bool false, .bool false] 58)).setRow wr.heap.size #[.string x.f0, .string x.f1, .int .i64 x.f2, .bool x.f3, .bool x.f4, .bool x.f5] = w4 at f1 f2 ⊢
        generalize hg8 : wr.heap.size = g8 at f1 f2 ⊢
        replace f2 : Below wr.heap.size wr w4 := hg8 ▸ f2
        replace BR := Lib.hid (blk_below BR.out f2)
        replace BO := Lib.hid (blk_below BO.out f2)
        replace BT := Lib.hid (blk_below BT.out f2)
        replace RP := Lib.hid (Kd.R_below RP.out f2)
        replace RR := Lib.hid (Kd.R_below RR.out f2)
        replace HB := Lib.hid (below_then HB.out HB.out.size f2)
        have BX := Lib.hid f1
        clear f1 f2 one6 hg8 x0 x1 x2 x3 x4 x5
        have y0 : w4.cell? ⟨g4, 0, none⟩ = some (.slice A0 P.length n0) := (blk_cell BT.out 0).trans rfl
        have c0 : w4.cell? ⟨g8, 0, none⟩ = some (.string x.f0) := (blk_cell BX.out 0).trans rfl
        have c1 : w4.cell? ⟨g8, 1, none⟩ = some (.string x.f1) := (blk_cell BX.out 1).trans rfl
        have c2 : w4.cell? ⟨g8, 2, none⟩ = some (.int .i64 x.f2) := (blk_cell BX.out 2).trans rfl
        have c3 : w4.cell? ⟨g8, 3, none⟩ = some (.bool x.f3) := (blk_cell BX.out 3).trans rfl
        have c4 : w4.cell? ⟨g8, 4, none⟩ = some (.bool x.f4) := (blk_cell BX.out 4).trans rfl
        have c5 : w4.cell? ⟨g8, 5, none⟩ = some (.bool x.f5) := (blk_cell BX.out 5).trans rfl
        go_wp2_with fail
        refine (route_road_fits.calls K x.f0 x.f1 x.f2 x.f3 x.f4 x.f5 A0 n0 P b _ (Kd.R_reads' RP.out).2.2 (Kd.R_reads' RP.out).2.1 HFI.out).mono ?_
        rintro _ w5 ⟨rfl, hb⟩
        replace BR := Lib.hid (blk_below BR.out hb)
        replace BO := Lib.hid (blk_below BO.out hb)
        replace BT := Lib.hid (blk_below BT.out hb)
        replace BX := Lib.hid (blk_below BX.out hb)
        replace RP := Lib.hid (Kd.R_below RP.out hb)
        replace RR := Lib.hid (Kd.R_below RR.out hb)
        replace HB := Lib.hid (below_then HB.out HB.out.size hb)
        clear hb y0 c0 c1 c2 c3 c4 c5 HFI
        cases b
        · have HSC2 := Lib.hid (show toScan K m P fs (rs.drop (k + 1)) sx = some (o', t', st) from HSC.out)
          clear HSC
          go_wp2
          go_roundw
          case rel => exact ⟨k + 1, sx, by omega, rfl, by go_num, HSC2, BR, BO, BT, RP, RR, HB⟩
          case measure => simp [intOf]; omega
        · have hsc := HSC.out
          rw [if_neg (by decide)] at hsc
          clear HSC
          have c0 : w5.cell? ⟨g8, 0, none⟩ = some (.string x.f0) := (blk_cell BX.out 0).trans rfl
          have d0 : w5.cell? ⟨w.heap.size, 0, none⟩ = some (.string m) := (blk_cell BR.out 0).trans rfl
          by_cases hm : x.f0.toList = m.toList
          rotate_left
          · rw [if_neg hm] at hsc
            have HSC2 := Lib.hid hsc
            have hm2 : (x.f0.toList != m.toList) = true := by simpa using hm
            have hm3 : (x.f0.toList == m.toList) = false := by simpa using hm
            clear hsc hm
            go_wp2
            go_roundw
            case rel => exact ⟨k + 1, 405, by omega, rfl, by go_num, HSC2, BR, BO, BT, RP, RR, HB⟩
            case measure => simp [intOf]; omega
          · rw [if_pos hm] at hsc
            have hm2 : (x.f0.toList != m.toList) = false := by simpa using hm
            have hm3 : (x.f0.toList == m.toList) = true := by simpa using hm
            clear hm
            obtain ⟨t, ht, hsc⟩ := Option.bind_eq_some_iff.1 hsc
            obtain ⟨form, hform, hsc⟩ := Option.bind_eq_some_iff.1 hsc
            by_cases hx : x.f3 = true ∨ form.length ≠ P.length
            · rw [if_pos hx] at hsc; cases hsc
            rw [if_neg hx] at hsc
            obtain ⟨q, hq, hsc⟩ := Option.bind_eq_some_iff.1 hsc
            obtain ⟨ok, q⟩ := q
            have HTK := Lib.hid ht
            have HFO := Lib.hid hform
            have HQQ := Lib.hid hq
            have HSC := Lib.hid hsc
            have hx3 : x.f3 = false := by
              cases h : x.f3
              · rfl
              · exact absurd (.inl h) hx
            have hxl : form.length = P.length := by
              by_cases h : form.length = P.length
              · exact h
              · exact absurd (.inr h) hx
            clear ht hform hq hsc hx
            have c2 : w5.cell? ⟨g8, 2, none⟩ = some (.int .i64 x.f2) := (blk_cell BX.out 2).trans rfl
            have d2 : w5.cell? ⟨w.heap.size, 2, none⟩ = some (.slice Af fs.length cf) := (blk_cell BR.out 2).trans rfl
            have HX := Lib.hid (fun (w' : World) (hb : Below w5.heap.size w5 w') => (⟨pw_cell_below hb c2, pw_cell_below hb d2, hb⟩ : (w'.cell? ⟨g8, 2, none⟩ = some (.int .i64 x.f2) ∧ w'.cell? ⟨w.heap.size, 2, none⟩ = some (.slice Af fs.length cf) ∧ Below w5.heap.size w5 w')))
            go_wp2_with fail
            clear c0 d0 c2 d2
            go_region_held3 (fun w' => w'.cell? ⟨g8, 2, none⟩ = some (.int .i64 x.f2) ∧ w'.cell? ⟨w.heap.size, 2, none⟩ = some (.slice Af fs.length cf) ∧ Below w5.heap.size w5 w')
              (first | exact HX.out _ (Below.refl _ _).drew | exact HX.out _ (bthen (last3 (by assumption)) (by assumption)) | exact HX.out _ (below_alloc (last3 (by assumption)) _) | exact HX.out _ (below_setRow (last3 (by assumption)) (by assumption) _) | exact HX.out _ (below_setRow (last3 (by assumption)) (Nat.le_refl _) _) | assumption)
              (first
                | (go_at_call 21; refine (route_token.calls K Af cf fs t _ (Kd.C_below HF.out (below_then HB.out HB.out.size (last3 (by assumption)))) hc HTK.out).mono ?_; rintro e7 w7 ⟨v7, rfl, hr7, hb7⟩; obtain ⟨A7, n7, eo7⟩ := Kd.R_slice hr7; subst eo7; have hle7 : w5.heap.size ≤ w7.heap.size := (bthen (last3 (by assumption)) hb7).size; first | (have hst := stored33b w7 w5.heap.size (blk_below (heap_alloc_new w5.drew _) hb7) x.f2 A7 t.length n7) | (have hst := stored33 w7 x.f2 A7 t.length n7)))
            all_goals
              first
              | (have B9 := Lib.hid (setRow_heap w7 w5.heap.size _ (opA { zeroO with dv := x.f2, tok := .slice A7 t.length n7 }) 33 _ (blk_below (heap_alloc_new w5.drew (.cells Tryd.zeroCells33 33)) hb7))
                 have R7 := Lib.hid (R_setRow (g := w5.heap.size) (cs := opA { zeroO with dv := x.f2, tok := .slice A7 t.length n7 }) (Kd.R_lower hr7 (show w5.heap.size + 1 ≤ _ from blk_lt (heap_alloc_new w5.drew (.cells Tryd.zeroCells33 33)))) (fun k h1 _ => by omega))
                 have hb9 : Below w5.heap.size w5 (w7.setRow w5.heap.size (opA { zeroO with dv := x.f2, tok := .slice A7 t.length n7 })) := below_setRow (bthen (below_alloc (Below.refl _ _).drew _) hb7) (Nat.le_refl _) _
                 have R8 := Lib.hid (Kd.R_lower R7.out (show w.heap.size ≤ _ by have := HB.out.size; omega))
                 clear R7
                 generalize w7.setRow w5.heap.size (opA { zeroO with dv := x.f2, tok := .slice A7 t.length n7 }) = w9 at *
                 obtain ⟨g9, hg9, hgq⟩ : ∃ g9, w5.heap.size ≤ g9 ∧ w5.heap.size = g9 := ⟨_, Nat.le_refl _, rfl⟩
                 rw [hgq] at B9 ⊢
                 clear hgq)
              | (have B9 := Lib.hid (setRow_heap (w7.alloc (.cells Tryd.zeroCells33 33)) w7.heap.size _ (opA { zeroO with dv := x.f2, tok := .slice A7 t.length n7 }) 33 _ (heap_alloc_new w7 _))
                 have R8 := Lib.hid (Kd.R_lower (R_made (.cells Tryd.zeroCells33 33) (opA { zeroO with dv := x.f2, tok := .slice A7 t.length n7 }) hr7) (show w.heap.size ≤ w5.drew.heap.size from HB.out.size))
                 have hb9 : Below w5.heap.size w5 ((w7.alloc (.cells Tryd.zeroCells33 33)).setRow w7.heap.size (opA { zeroO with dv := x.f2, tok := .slice A7 t.length n7 })) := below_setRow (below_alloc (bthen (Below.refl _ _).drew hb7) _) hle7 _
                 generalize (w7.alloc (.cells Tryd.zeroCells33 33)).setRow w7.heap.size (opA { zeroO with dv := x.f2, tok := .slice A7 t.length n7 }) = w9 at *
                 have hg9 : w5.heap.size ≤ w7.heap.size := hle7
                 generalize w7.heap.size = g9 at B9 hg9 ⊢)
            all_goals
              clear hst hr7 hb7 hle7
              have HGE := Lib.hid (show w.heap.size + 1 < g9 from Nat.lt_of_lt_of_le (blk_lt BO.out) hg9)
              replace BR := Lib.hid (blk_below BR.out hb9)
              replace BO := Lib.hid (blk_below BO.out hb9)
              replace BT := Lib.hid (blk_below BT.out hb9)
              replace BX := Lib.hid (blk_below BX.out hb9)
              replace RP := Lib.hid (Kd.R_below RP.out hb9)
              replace HB := Lib.hid (below_then HB.out HB.out.size hb9)
              clear hb9 hg9 HX RR HTK
              have y0 : w9.cell? ⟨g4, 0, none⟩ = some (.slice A0 P.length n0) := (blk_cell BT.out 0).trans rfl
              have y1 : w9.cell? ⟨g4, 1, none⟩ = some (.slice A1 Q.length n1) := (blk_cell BT.out 1).trans rfl
              have c0 : w9.cell? ⟨g8, 0, none⟩ = some (.string x.f0) := (blk_cell BX.out 0).trans rfl
              have c1 : w9.cell? ⟨g8, 1, none⟩ = some (.string x.f1) := (blk_cell BX.out 1).trans rfl
              have c2 : w9.cell? ⟨g8, 2, none⟩ = some (.int .i64 x.f2) := (blk_cell BX.out 2).trans rfl
              have c3 : w9.cell? ⟨g8, 3, none⟩ = some (.bool x.f3) := (blk_cell BX.out 3).trans rfl
              have c4 : w9.cell? ⟨g8, 4, none⟩ = some (.bool x.f4) := (blk_cell BX.out 4).trans rfl
              have c5 : w9.cell? ⟨g8, 5, none⟩ = some (.bool x.f5) := (blk_cell BX.out 5).trans rfl
              have HQ2 := Lib.hid (show fillF K form P { zeroO with dv := x.f2, tok := .slice A7 t.length n7 } = some (ok, { q with tok := .slice A7 t.length n7 }) by
                have h := fillF_tok K (.slice A7 t.length n7) form P { zeroO with dv := x.f2 }
                rw [HQQ.out] at h
                exact h)
              have hpA : ∀ ad, A0 = some ad → ad.block ≠ g9 := fun ad e => by
                have h := RP.out
                rw [e] at h
                exact Kd.own_blk (Kd.R_ne h B9.out (by decide))
              have HPA := Lib.hid hpA
              have HKP := Lib.hid (fillF_keeps K form P _ ok q HQQ.out)
              clear hpA HQQ
              go_wp2_with fail
              refine (fill_any K ⟨x.f0, x.f1, x.f2, false, x.f4, x.f5⟩ g9 { zeroO with dv := x.f2, tok := .slice A7 t.length n7 } rfl A0 n0 P w9 form ok _ B9.out (Kd.R_reads' RP.out).2.2 (Kd.R_reads' RP.out).2.1 HPA.out (by have := HFO.out; rw [hx3] at this; exact this) hxl hQ.2 HQ2.out).mono ?_
              rintro _ wA ⟨rfl, hol, BG, KB, hbA⟩
              replace BR := Lib.hid (KB.blk BR.out (by have := HGE.out; omega) (by simp))
              replace BO := Lib.hid (KB.blk BO.out (by have := HGE.out; omega) (by simp))
              replace BT := Lib.hid (KB.blk BT.out (blk_ne BT.out B9.out (by decide)) (by simp))
              replace BX := Lib.hid (KB.blk BX.out (blk_ne BX.out B9.out (by decide)) (by simp))
              replace R8 := Lib.hid (Kd.R_mono (Kd.R_keep (Kd.R_types R8.out B9.out (by decide)) KB (fun _ hk => hk.2)) (fun _ hk => hk.1))
              replace HB := Lib.hid (show Below w.heap.size w wA from HB.out.trans ⟨hbA.os, hbA.tape, hbA.output, hbA.size, fun i hi => hbA.block i (by have := HGE.out; omega)⟩)
              replace B9 := Lib.hid BG
              clear BG KB hbA y0 y1 c0 c1 c2 c3 c4 c5 HPA HQ2 HFO RP
              have y1 : wA.cell? ⟨g4, 1, none⟩ = some (.slice A1 Q.length n1) := (blk_cell BT.out 1).trans rfl
              have c0 : wA.cell? ⟨g8, 0, none⟩ = some (.string x.f0) := (blk_cell BX.out 0).trans rfl
              have c1 : wA.cell? ⟨g8, 1, none⟩ = some (.string x.f1) := (blk_cell BX.out 1).trans rfl
              have c2 : wA.cell? ⟨g8, 2, none⟩ = some (.int .i64 x.f2) := (blk_cell BX.out 2).trans rfl
              have c3 : wA.cell? ⟨g8, 3, none⟩ = some (.bool x.f3) := (blk_cell BX.out 3).trans rfl
              have c4 : wA.cell? ⟨g8, 4, none⟩ = some (.bool x.f4) := (blk_cell BX.out 4).trans rfl
              have c5 : wA.cell? ⟨g8, 5, none⟩ = some (.bool x.f5) := (blk_cell BX.out 5).trans rfl
              cases ok
              · have hsc := HSC.out
                rw [if_neg (by simp)] at hsc
                obtain ⟨rfl, hS1⟩ := Prod.mk.inj (Option.some.inj hsc)
                obtain ⟨rfl, rfl⟩ := Prod.mk.inj hS1
                clear hS1 HSC hsc
                go_wp2_with (first | (refine build_to rfl 33 _ rfl (opA zeroO) (by kernel_rfl) ?_) | ((refine wpList_store_row rfl 33 _ _ rfl (w.heap.size + 1) (opA zeroO) rfl rfl 33 (opA zeroO) BO.out size33z rfl oneZ ?_); refine Hid.out ?_))
                refine Lib.hid ?_
                have f1 := setRow_heap wA (w.heap.size + 1) _ (opA zeroO) 33 _ BO.out
                have f2 : Below w.heap.size w (wA.setRow (w.heap.size + 1) (opA zeroO)) := below_setRow HB.out (Nat.le_succ _) _
                generalize wA.setRow (w.heap.size + 1) (opA zeroO) = wZ at f1 f2 ⊢
                go_wp2
                refine bodyPost_ret (results_ct rfl _ _ (w.heap.size + 1) 33 (opA zeroO) (0, 0) _ rfl f1 Tryd.underlying33 rfl size33z) rfl ?_
                exact ⟨⟨.slice none 0 0, rfl, Kd.R_nil _ _ _ _ _⟩, f2⟩
              · go_wp2_with fail
                refine (ask_none ⟨x.f0, x.f1, x.f2, false, x.f4, x.f5⟩ g9 A1 n1 wA).mono ?_
                rintro _ wB ⟨rfl, hb⟩
                replace BO := Lib.hid (blk_below BO.out hb)
                replace BX := Lib.hid (blk_below BX.out hb)
                replace B9 := Lib.hid (blk_below B9.out hb)
                replace R8 := Lib.hid (Kd.R_below R8.out hb)
                replace HB := Lib.hid (below_then HB.out HB.out.size hb)
                clear hb y1 c0 c1 c2 c3 c4 c5 BR BT
                have c3 : wB.cell? ⟨g8, 3, none⟩ = some (.bool x.f3) := (blk_cell BX.out 3).trans rfl
                have hsc := HSC.out
                simp only
                simp only [true_and] at hsc
                generalize (!x.f4 && !x.f5) = bb at hsc ⊢
                clear HSC
                cases bb
                · rw [if_neg (by simp)] at hsc
                  obtain ⟨rfl, hS1⟩ := Prod.mk.inj (Option.some.inj hsc)
                  obtain ⟨rfl, rfl⟩ := Prod.mk.inj hS1
                  clear hS1 hsc
                  go_wp2_with (first | (refine build_to rfl 33 _ rfl (opA zeroO) (by kernel_rfl) ?_) | ((refine wpList_store_row rfl 33 _ _ rfl (w.heap.size + 1) (opA zeroO) rfl rfl 33 (opA zeroO) BO.out size33z rfl oneZ ?_); refine Hid.out ?_))
                  refine Lib.hid ?_
                  have f1 := setRow_heap wB (w.heap.size + 1) _ (opA zeroO) 33 _ BO.out
                  have f2 : Below w.heap.size w (wB.setRow (w.heap.size + 1) (opA zeroO)) := below_setRow HB.out (Nat.le_succ _) _
                  generalize wB.setRow (w.heap.size + 1) (opA zeroO) = wZ at f1 f2 ⊢
                  go_wp2
                  refine bodyPost_ret (results_ct rfl _ _ (w.heap.size + 1) 33 (opA zeroO) (0, 0) _ rfl f1 Tryd.underlying33 rfl size33z) rfl ?_
                  exact ⟨⟨.slice none 0 0, rfl, Kd.R_nil _ _ _ _ _⟩, f2⟩
                · rw [if_pos rfl] at hsc
                  obtain ⟨rfl, hS1⟩ := Prod.mk.inj (Option.some.inj hsc)
                  obtain ⟨rfl, rfl⟩ := Prod.mk.inj hS1
                  clear hS1 hsc
                  have one7 := one_op { q with tok := .slice A7 t.length n7 } (by show q.body.oneCell' = true; rw [HKP.out.1]; rfl) rfl
                  have hold : (opA zeroO).size = (opA { q with tok := .slice A7 t.length n7 }).size := by rw [opA_size (o := { q with tok := .slice A7 t.length n7 }) hol, opA_size (o := zeroO) rfl]
                  go_wp2_with (first | (refine wpList_load_row rfl 33 _ rfl g9 rfl 33 (opA { q with tok := .slice A7 t.length n7 }) (0, 0) _ B9.out Tryd.underlying33 rfl (size_op _ hol) ?_) | ((refine wpList_store_row rfl 33 _ _ rfl (w.heap.size + 1) (opA { q with tok := .slice A7 t.length n7 }) rfl rfl 33 (opA zeroO) BO.out (size_op _ hol) hold one7 ?_); refine Hid.out ?_))
                  refine Lib.hid ?_
                  have f1 := setRow_heap wB (w.heap.size + 1) _ (opA { q with tok := .slice A7 t.length n7 }) 33 _ BO.out
                  have f2 : Below w.heap.size w (wB.setRow (w.heap.size + 1) (opA { q with tok := .slice A7 t.length n7 })) := below_setRow HB.out (Nat.le_succ _) _
                  have f3 : Kd.R (Kd.int .u8) 5 (wB.setRow (w.heap.size + 1) (opA { q with tok := .slice A7 t.length n7 })) w.heap.size (fun _ => True) (.slice A7 t.length n7) t := Kd.R_mono (Kd.R_step (Kd.R_types R8.out BO.out (by decide)) (fun k hk hlt => setRow_other wB (w.heap.size + 1) k _ hk.2)) (fun _ hk => hk.1)
                  generalize wB.setRow (w.heap.size + 1) (opA { q with tok := .slice A7 t.length n7 }) = wZ at f1 f2 f3 ⊢
                  go_wp2
                  refine bodyPost_ret (results_ct rfl _ _ (w.heap.size + 1) 33 (opA { q with tok := .slice A7 t.length n7 }) (0, 0) _ rfl f1 Tryd.underlying33 rfl (size_op _ hol)) rfl ?_
                  exact ⟨⟨.slice A7 t.length n7, rfl, f3⟩, f2⟩
      · obtain rfl : k = rs.length := by omega
        have hsc := HSC.out
        rw [List.drop_length] at hsc
        obtain ⟨rfl, hS1⟩ := Prod.mk.inj (Option.some.inj hsc)
        obtain ⟨rfl, rfl⟩ := Prod.mk.inj hS1
        clear hS1 HSC hsc
        go_wp2_with (first | (refine build_to rfl 33 _ rfl (opA zeroO) (by kernel_rfl) ?_) | ((refine wpList_store_row rfl 33 _ _ rfl (w.heap.size + 1) (opA zeroO) rfl rfl 33 (opA zeroO) BO.out size33z rfl oneZ ?_); refine Hid.out ?_))
        refine Lib.hid ?_
        have f1 := setRow_heap wr (w.heap.size + 1) _ (opA zeroO) 33 _ BO.out
        have f2 : Below w.heap.size w (wr.setRow (w.heap.size + 1) (opA zeroO)) := below_setRow HB.out (Nat.le_succ _) _
        generalize wr.setRow (w.heap.size + 1) (opA zeroO) = w3 at f1 f2 ⊢
        go_wp2
        refine bodyPost_ret (results_ct rfl _ _ (w.heap.size + 1) 33 (opA zeroO) (0, 0) _ rfl f1 Tryd.underlying33 rfl size33z) rfl ?_
        exact ⟨⟨.slice none 0 0, rfl, Kd.R_nil _ _ _ _ _⟩, f2⟩
end Go.Proofs.YtnfimhdcpmakpaaDoor.S
