/-
  RouteTo, walked.
-/
import Derived.Test.YtnfimhdcpmakpaaDoorPuP
import Derived.Test.YtnfimhdcpmakpaaDoorSm26P
import Derived.Test.YtnfimhdcpmakpaaDoorTn26P
import Derived.Test.YtnfimhdcpmakpaaDoorBgw26P
namespace Go.Proofs.YtnfimhdcpmakpaaDoor.S
open Go.RowKit Go.Proofs.YtnfimhdcpmakpaaDoorW.PrintWords
set_option linter.unusedVariables false
set_option linter.unusedSimpArgs false
theorem lightG_ev (m s : ByteArray) (fs : List S41) (bd : List Int) (kp : Bool) : ∃ r, Ev (fun k => cofferlaw26_light.f k m s fs bd kp) r ∧ (r = true → s.size ≤ 2048 ∧ fs.length ≤ 40 ∧ bd.length ≤ 8192 ∧ ∀ f ∈ fs, f.f1.size ≤ 2048) := by
  have hf : Ev (fun k => cofferlaw26_light.j0 k true m s fs bd kp) false := .step (by
    simp only [cofferlaw26_light.j0]
    exact .pos trivial (.of rfl))
  unfold cofferlaw26_light.f
  by_cases c1 : (m.size : Int) > 20
  · exact ⟨false, .pos c1 hf, fun h => by cases h⟩
  · by_cases c2 : (s.size : Int) > 2048
    · exact ⟨false, .neg c1 (.pos c2 hf), fun h => by cases h⟩
    · by_cases c3 : (fs.length : Int) > 40
      · exact ⟨false, .neg c1 (.neg c2 (.pos c3 hf)), fun h => by cases h⟩
      · by_cases c4 : (bd.length : Int) > 8192
        · refine ⟨false, .neg c1 (.neg c2 (.neg c3 ?_)), fun h => by cases h⟩
          rw [show decide ((bd.length : Int) > 8192) = true from decide_eq_true c4]
          exact hf
        · obtain ⟨r, h1, h2⟩ := lightR_l0 m s fs bd kp (by omega) fs.length 0 (by omega)
          refine ⟨r, .neg c1 (.neg c2 (.neg c3 ?_)), fun h => ⟨by omega, by omega, by omega, by simpa using h2 h⟩⟩
          rw [show decide ((bd.length : Int) > 8192) = false from decide_eq_false c4]
          refine .step ?_
          simp only [cofferlaw26_light.j0]
          exact .neg (by simp) h1
theorem wpList_load_row_g {P : Program} {ops : Array Oper} {rest : List Oper} {o : Oper} {a : Act} {w : World} {Q : Exit → Act → World → Prop} (hw : Region.wanted o (yielded ops a.tmps) = true) (ty : TypeId) (x : Operand) (ho : o.op = .load ty x)
    (g : Nat) (hx : a.eval x = .pointer (some ⟨g, 0, none⟩)) (t : TypeId) (cs : Array Value) (fr : Nat × Nat) (d : TypeDesc) (hg : w.heap[g]? = some (.cells cs t fr))
    (hu : P.underlying ty = some d) (hd : (match d with | .struct _ | .array _ _ => true | _ => false) = true) (hi : (P.info? ty).map (·.size) = some cs.size)
    (h : wpList P ops Q rest (a.put o.dst (.agg cs)) w) : wpList P ops Q (o :: rest) a w :=
  wpList_step fun _ hK => by rw [if_pos hw]; exact wp_load_row ty x ho g hx t cs fr d hg hu hd hi (hK _ _ h)
theorem wpList_load_draw_g {P : Program} {ops : Array Oper} {rest : List Oper} {o : Oper} {a : Act} {w : World} {Q : Exit → Act → World → Prop} (hw : Region.wanted o (yielded ops a.tmps) = true) (ty : TypeId) (x : Operand) (ho : o.op = .load ty x)
    (g b : Nat) (hx : a.eval x = .pointer (some ⟨g, b, none⟩)) (cs : Array Value) (hL : (Instr.loadAt ty (.pointer (some ⟨g, b, none⟩))).run P w = .ok (.agg cs) w)
    (h : wpList P ops Q rest (a.put o.dst (.agg cs)) w) : wpList P ops Q (o :: rest) a w :=
  wpList_step fun K hK => by
    rw [if_pos hw]
    unfold Oper.wp execOp
    simp only [ho, hx, hL, Sem.run_bind, Sem.run_pure, Result.andThen_ok]
    exact hK _ _ h
theorem opA_39 {o : OpV} (h : o.of_.length = 32) : (opA o)[39]? = some (.int .i64 0) := by simp [opA, opL, List.getElem?_append, h]
theorem draw_range {o : OpV} (h : o.of_.length = 32) {w : World} {g : Nat} (hg : w.heap[g]? = some (.cells (opA o) 33 (0, 0))) : w.rangeAt g 40 (nums .u8 zero32) := by
  intro j v hj
  rw [show nums .u8 zero32 = List.replicate 32 (Value.int .u8 0) from rfl] at hj
  rw [blk_cell hg (40 + j), ← hj]
  unfold opA opL
  rw [List.getElem?_toArray, show 40 + j = 32 + (6 + j) + 1 + 1 by omega, List.getElem?_cons_succ, List.getElem?_cons_succ, List.getElem?_append_right (by rw [List.length_map, h]; omega)]
  rw [show 32 + (6 + j) - (o.of_.map (Value.int .u8)).length = j + 1 + 1 + 1 + 1 + 1 + 1 by rw [List.length_map, h]; omega]
  rfl
theorem R_spoil {w w' : World} {g base e : Nat} {v : Value} {xs : List Int} (h : Kd.R (Kd.int .u8) e w base (fun _ => True) v xs) (hk : KeepBut w w' g none) (hg : g < base) : Kd.R (Kd.int .u8) e w' base (fun _ => True) v xs :=
  Kd.R_mono (Kd.R_keep (Kd.R_bound h) hk (fun k hk => by have := hk.2.1; omega)) (fun _ _ => trivial)
theorem size25' : (Tryd.prog.info? 25).map (·.size) = some 5 := by kernel_rfl
set_option maxHeartbeats 8000000 in
set_option maxRecDepth 100000 in
theorem routeTo_walk (w : World) (m s : ByteArray) (Af : Option Addr) (cf : Nat) (fs : List S41) (Ab : Option Addr) (cb : Nat) (bd : List Int) (kp : Bool)
    (hf : Kd.C k41 w Af fs.length fs ∧ fs.length ≤ cf) (hbd : Kd.C (Kd.int .u8) w Ab bd.length bd ∧ bd.length ≤ cb) (hT : Tabs w) :
    Calls Tryd.prog 3 #[.agg #[.string m, .string s, .slice Af fs.length cf, .slice Ab bd.length cb, .bool kp]] w fun e w' => e = .returned (.bool true) ∧ Below w.heap.size w w' := by
  have HF := Lib.hid hf.1
  have hc := hf.2
  have HBD := Lib.hid hbd.1
  have hcb := hbd.2
  have HTT := Lib.hid (show ∀ w', Below w.heap.size w w' → Tabs w' from fun w' hb => hT.below hb)
  have c1 := Lib.hid begun_w
  obtain ⟨lr, ⟨K0, hK0⟩, hlr⟩ := lightG_ev m s fs bd kp
  have HLT := Lib.hid (hK0 K0 (Nat.le_refl _))
  have HLR := Lib.hid hlr
  clear hf hbd hT hK0 hlr
  go_enter Tryd.func3, Tryd.ntmps3
  go_upto_region 1 with fail
  have BR := Lib.hid (heap_alloc_new w (.cells #[.string m, .string s, .slice Af fs.length cf, .slice Ab bd.length cb, .bool kp] 25))
  have HB := Lib.hid (below_alloc (Below.refl w.heap.size w) (.cells #[.string m, .string s, .slice Af fs.length cf, .slice Ab bd.length cb, .bool kp] 25))
  generalize w.alloc (.cells #[.string m, .string s, .slice Af fs.length cf, .slice Ab bd.length cb, .bool kp] 25) = w0 at *
  go_wp2_with fail
  refine (c1.out _ (HTT.out _ HB.out)).mono ?_
  rintro _ w1 ⟨rfl, hb⟩
  replace BR := Lib.hid (blk_below BR.out hb)
  replace HB := Lib.hid (below_then HB.out HB.out.size hb)
  clear hb c1
  go_wp2_with (refine wpList_load_row rfl 25 _ rfl w.heap.size rfl 25 _ (0, 0) _ BR.out Tryd.underlying25 rfl size25' ?_)
  refine (cofferlaw26_light.calls K0 m s Af cf fs Ab cb bd kp lr _ (Kd.C_below HF.out HB.out) hc (Kd.C_below HBD.out HB.out) hcb HLT.out).mono ?_
  rintro _ w2 ⟨rfl, hb⟩
  replace BR := Lib.hid (blk_below BR.out hb)
  replace HB := Lib.hid (below_then HB.out HB.out.size hb)
  clear hb HLT
  cases lr
  · go_wp2
    go_ret
    exact ⟨rfl, HB.out⟩
  obtain ⟨b1, b2, b3, b4⟩ := HLR.out rfl
  clear HLR
  obtain ⟨r, ⟨K1, hK1⟩, ⟨K2, hK2⟩, ho32⟩ := to_agree m s.data.toList fs bd (by have : s.data.toList.length = s.size := Array.length_toList; omega) (by omega) (getF_size fs b4)
  rw [mk_data] at hK1 hK2
  obtain ⟨o', t', b', st⟩ := r
  have HK1 := Lib.hid (hK1 K1 (Nat.le_refl _))
  have HK2 := Lib.hid (hK2 K2 (Nat.le_refl _))
  simp only at ho32
  have B3 := Lib.hid b3
  clear hK1 hK2 b1 b2 b3 b4
  go_upto_region 6 with (refine wpList_load_row rfl 25 _ rfl w.heap.size rfl 25 _ (0, 0) _ BR.out Tryd.underlying25 rfl size25' ?_)
  have BT := Lib.hid (heap_alloc_new w2 (.cells #[.string m, .string s, .slice Af fs.length cf, .slice Ab bd.length cb, .bool kp] 25))
  have HL3 := Lib.hid (show w.heap.size < w2.heap.size from blk_lt BR.out)
  have hb3 : Below w2.heap.size w2 (w2.alloc (.cells #[.string m, .string s, .slice Af fs.length cf, .slice Ab bd.length cb, .bool kp] 25)) := below_alloc (Below.refl _ _) _
  replace BR := Lib.hid (blk_below BR.out hb3)
  replace HB := Lib.hid (below_then HB.out HB.out.size hb3)
  clear hb3
  generalize w2.alloc (.cells #[.string m, .string s, .slice Af fs.length cf, .slice Ab bd.length cb, .bool kp] 25) = w3 at *
  generalize w2.heap.size = g3 at *
  have d3 : w3.cell? ⟨w.heap.size, 3, none⟩ = some (.slice Ab bd.length cb) := (blk_cell BR.out 3).trans rfl
  have HLT := Lib.hid (show g3 < w3.heap.size from blk_lt BT.out)
  go_wp2_with fail
  refine (twin_any Ab cb bd _ bd.length (reads_of_C (Kd.C_below HBD.out HB.out)) rfl (by have := B3.out; omega)).mono ?_
  rintro _ w4 ⟨rfl, HTw, hb⟩
  replace BR := Lib.hid (blk_below BR.out hb)
  replace BT := Lib.hid (blk_below BT.out hb)
  replace HB := Lib.hid (below_then HB.out HB.out.size hb)
  clear hb d3
  generalize w3.heap.size = gT at *
  have hz : w4.cell? ⟨g3, 3, none⟩ = some (.slice Ab bd.length cb) := (blk_cell BT.out 3).trans rfl
  have hfz := blk_frozen BT.out 3
  go_upto_region 7 with fail
  replace BR := Lib.hid (blk_far (p := ⟨g3, 3, none⟩) BR.out (by show w.heap.size ≠ g3; have := HL3.out; omega) (.slice (some ⟨gT, 0, none⟩) bd.length (bd.length + 3)))
  replace HTw := Lib.hid (blk_far (p := ⟨g3, 3, none⟩) (show w4.heap[gT]? = some (.cells (nums .u8 (bd ++ e5)).toArray 5 (0, 0)) from HTw.out) (by show gT ≠ g3; have := HLT.out; omega) (.slice (some ⟨gT, 0, none⟩) bd.length (bd.length + 3)))
  replace BT := Lib.hid (blk_put (cs' := #[.string m, .string s, .slice Af fs.length cf, (.slice (some ⟨gT, 0, none⟩) bd.length (bd.length + 3)), .bool kp]) BT.out 3 (.slice (some ⟨gT, 0, none⟩) bd.length (bd.length + 3)) rfl)
  replace HB := Lib.hid (HB.out.setCell (p := ⟨g3, 3, none⟩) (by show w.heap.size ≤ g3; have := HL3.out; omega) (.slice (some ⟨gT, 0, none⟩) bd.length (bd.length + 3)))
  generalize w4.setCell ⟨g3, 3, none⟩ (.slice (some ⟨gT, 0, none⟩) bd.length (bd.length + 3)) = w5 at *
  clear hz hfz
  have HG5 := Lib.hid (show gT < w5.heap.size from blk_lt HTw.out)
  go_wp2_with (refine wpList_load_row rfl 25 _ rfl g3 rfl 25 _ (0, 0) _ BT.out Tryd.underlying25 rfl size25' ?_)
  refine (to_all K1 m s Af cf fs (some ⟨gT, 0, none⟩) (bd.length + 3) bd kp w5 o' t' b' st (Kd.C_below HF.out HB.out) hc (C_of_reads (Blk.reads (show Blk w5 gT (bd ++ e5) from HTw.out) rfl (by have := B3.out; omega))) (by omega) (by have := B3.out; omega) HK1.out (HTT.out _ HB.out)).mono ?_
  rintro _ w6 ⟨⟨v1, u1, rfl, rv1, ru1⟩, hb⟩
  replace BR := Lib.hid (blk_below BR.out hb)
  replace BT := Lib.hid (blk_below BT.out hb)
  replace HTw := Lib.hid (blk_below HTw.out hb)
  replace HB := Lib.hid (below_then HB.out HB.out.size hb)
  have HG6 := Lib.hid (show gT < w6.heap.size from blk_lt HTw.out)
  clear hb
  obtain ⟨Av1, nv1, ev⟩ := Kd.R_slice rv1
  subst ev
  obtain ⟨Au1, nu1, ev⟩ := Kd.R_slice ru1
  subst ev
  obtain ⟨o1, ho1⟩ : ∃ o, o = ({ o' with tok := .slice Av1 t'.length nv1, body := .slice Au1 b'.length nu1 } : OpV) := ⟨_, rfl⟩
  have hl1 : o1.of_.length = 32 := by rw [ho1]; exact ho32
  have hn1 : (opA o1).all (·.oneCell') = true := one_op o1 (by rw [ho1]; rfl) (by rw [ho1]; rfl)
  have HO1 := Lib.hid ho1
  rw [← ho1]
  clear ho1
  go_wp2_with ((refine wpList_store_row rfl 33 _ _ rfl w6.heap.size (opA o1) rfl rfl 33 Tryd.zeroCells33 (heap_alloc_new w6 _) (size_op _ hl1) (size_new _ hl1) hn1 ?_); refine Hid.out ?_)
  refine Lib.hid ?_
  obtain ⟨f1, f2⟩ := kept33 (w1 := w6) o1 hl1
  generalize (w6.alloc (.cells Tryd.zeroCells33 33)).setRow w6.heap.size (opA o1) = w7 at f1 f2 ⊢
  have RV1 := Lib.hid (Kd.R_below rv1 f2)
  have RU1 := Lib.hid (Kd.R_below ru1 f2)
  have B1_ := Lib.hid f1
  clear rv1 ru1 f1
  replace BR := Lib.hid (blk_below BR.out f2)
  replace BT := Lib.hid (blk_below BT.out f2)
  replace HTw := Lib.hid (blk_below HTw.out f2)
  replace HB := Lib.hid (below_then HB.out HB.out.size f2)
  clear f2
  generalize w6.heap.size = g4 at *
  have HG7 := Lib.hid (show gT < w7.heap.size from blk_lt HTw.out)
  go_wp2_with (refine wpList_load_row rfl 25 _ rfl w.heap.size rfl 25 _ (0, 0) _ BR.out Tryd.underlying25 rfl size25' ?_)
  refine (rto_all K2 m s Af cf fs Ab cb bd kp w7 o' t' b' st (Kd.C_below HF.out HB.out) hc (Kd.C_below HBD.out HB.out) hcb (by have := B3.out; omega) HK2.out).mono ?_
  rintro _ w8 ⟨⟨v2, u2, rfl, rv2, ru2⟩, hb⟩
  replace BR := Lib.hid (blk_below BR.out hb)
  replace BT := Lib.hid (blk_below BT.out hb)
  replace HTw := Lib.hid (blk_below HTw.out hb)
  replace B1_ := Lib.hid (blk_below B1_.out hb)
  replace RV1 := Lib.hid (Kd.R_below RV1.out hb)
  replace RU1 := Lib.hid (Kd.R_below RU1.out hb)
  replace HB := Lib.hid (below_then HB.out HB.out.size hb)
  clear hb
  have HG8 := Lib.hid (show gT < w8.heap.size from blk_lt HTw.out)
  obtain ⟨Av2, nv2, ev⟩ := Kd.R_slice rv2
  subst ev
  obtain ⟨Au2, nu2, ev⟩ := Kd.R_slice ru2
  subst ev
  obtain ⟨o2, ho2⟩ : ∃ o, o = ({ o' with tok := .slice Av2 t'.length nv2, body := .slice Au2 b'.length nu2 } : OpV) := ⟨_, rfl⟩
  have hl2 : o2.of_.length = 32 := by rw [ho2]; exact ho32
  have hn2 : (opA o2).all (·.oneCell') = true := one_op o2 (by rw [ho2]; rfl) (by rw [ho2]; rfl)
  have HO2 := Lib.hid ho2
  rw [← ho2]
  clear ho2
  go_wp2_with ((refine wpList_store_row rfl 33 _ _ rfl w8.heap.size (opA o2) rfl rfl 33 Tryd.zeroCells33 (heap_alloc_new w8 _) (size_op _ hl2) (size_new _ hl2) hn2 ?_); refine Hid.out ?_)
  refine Lib.hid ?_
  obtain ⟨f1, f2⟩ := kept33 (w1 := w8) o2 hl2
  generalize (w8.alloc (.cells Tryd.zeroCells33 33)).setRow w8.heap.size (opA o2) = w9 at f1 f2 ⊢
  have RV2 := Lib.hid (Kd.R_below rv2 f2)
  have RU2 := Lib.hid (Kd.R_below ru2 f2)
  have B2_ := Lib.hid f1
  clear rv2 ru2 f1
  replace BR := Lib.hid (blk_below BR.out f2)
  replace BT := Lib.hid (blk_below BT.out f2)
  replace HTw := Lib.hid (blk_below HTw.out f2)
  replace B1_ := Lib.hid (blk_below B1_.out f2)
  replace RV1 := Lib.hid (Kd.R_below RV1.out f2)
  replace RU1 := Lib.hid (Kd.R_below RU1.out f2)
  replace HB := Lib.hid (below_then HB.out HB.out.size f2)
  clear f2
  generalize w8.heap.size = g6 at *
  have d1 : w9.cell? ⟨g3, 3, none⟩ = some (.slice (some ⟨gT, 0, none⟩) bd.length (bd.length + 3)) := (blk_cell BT.out 3).trans rfl
  have d2 : w9.cell? ⟨w.heap.size, 3, none⟩ = some (.slice Ab bd.length cb) := (blk_cell BR.out 3).trans rfl
  go_wp2_with fail
  refine (kept_any gT Ab cb bd _ bd.length (show Blk w9 gT (bd ++ e5) from HTw.out) (reads_of_C (Kd.C_below HBD.out HB.out)) rfl (by have := B3.out; omega)).mono ?_
  rintro _ wA ⟨rfl, hd⟩
  obtain ⟨nd, rfl⟩ := hd
  have hb : Below w9.heap.size w9 (w9.drewN nd) := pw_below_drewN (Below.refl _ _) nd
  have d1 := pw_cell_below hb d1
  replace HTw := Lib.hid (blk_below HTw.out hb)
  replace B1_ := Lib.hid (blk_below B1_.out hb)
  replace B2_ := Lib.hid (blk_below B2_.out hb)
  replace RV1 := Lib.hid (Kd.R_below RV1.out hb)
  replace RU1 := Lib.hid (Kd.R_below RU1.out hb)
  replace RV2 := Lib.hid (Kd.R_below RV2.out hb)
  replace RU2 := Lib.hid (Kd.R_below RU2.out hb)
  replace HB := Lib.hid (below_then HB.out HB.out.size hb)
  clear hb d2 BR BT
  generalize w9.drewN nd = wA at *
  go_wp2_with fail
  refine (spoil_keep _ gT bd.length (bd.length + 3) _ HTw.out (by simp [nums, e5]) (by omega) (by have := B3.out; omega)).mono ?_
  rintro _ wB ⟨rfl, hk, hbk⟩
  replace B1_ := Lib.hid (hk.blk B1_.out (by have := HG6.out; omega) (by simp))
  replace B2_ := Lib.hid (hk.blk B2_.out (by have := HG8.out; omega) (by simp))
  have C1 := Lib.hid (Kd.R_reads' (R_spoil RV1.out hk HG5.out)).2.2
  have C2 := Lib.hid (Kd.R_reads' (R_spoil RU1.out hk HG5.out)).2.2
  have C3 := Lib.hid (Kd.R_reads' (R_spoil RV2.out hk HG7.out)).2.2
  have C4 := Lib.hid (Kd.R_reads' (R_spoil RU2.out hk HG7.out)).2.2
  replace HB := Lib.hid (show Below w.heap.size w wB from HB.out.trans ⟨hbk.os, hbk.tape, hbk.output, hbk.size, fun i hi => hbk.block i (by have := HL3.out; have := HLT.out; omega)⟩)
  clear hk hbk HTw RV1 RV2 RU1 RU2 d1 HK1 HK2 HTT HF HBD HG5 HG6 HG7 HG8 HLT HL3
  have hs := same_any o' ho32 t' b' Av1 Au1 Av2 Au2 nv1 nu1 nv2 nu2 wB C1.out C2.out C3.out C4.out
  rw [← HO1.out, ← HO2.out] at hs
  have HS := Lib.hid hs
  clear hs C1 C2 C3 C4 HO1 HO2
  have s1 := size_op _ hl1
  have s2 := size_op _ hl2
  go_wp2_with (first | (refine wpList_load_row_g rfl 33 _ rfl g4 rfl 33 (opA o1) (0, 0) _ B1_.out Tryd.underlying33 rfl (size_op _ hl1) ?_) | (refine wpList_load_row_g rfl 33 _ rfl g6 rfl 33 (opA o2) (0, 0) _ B2_.out Tryd.underlying33 rfl (size_op _ hl2) ?_))
  refine HS.out.mono ?_
  rintro _ wC ⟨rfl, hb⟩
  replace B1_ := Lib.hid (blk_below B1_.out hb)
  replace HB := Lib.hid (below_then HB.out HB.out.size hb)
  clear hb B2_ HS s1 s2
  have x9 := (blk_cell B1_.out 39).trans (opA_39 hl1)
  have LD := run_loadAt_mid wC g4 40 30 (nums .u8 zero32) _ (draw_range hl1 B1_.out) Tryd.underlying30 rfl info_Z
  rw [zero_Z] at LD
  have hEQ : ∀ w, (Op.equalIn 10000 30 (.agg Z32) (.agg #[.int .u8 0, .int .u8 0, .int .u8 0, .int .u8 0, .int .u8 0, .int .u8 0, .int .u8 0, .int .u8 0, .int .u8 0, .int .u8 0, .int .u8 0, .int .u8 0, .int .u8 0, .int .u8 0, .int .u8 0, .int .u8 0, .int .u8 0, .int .u8 0, .int .u8 0, .int .u8 0, .int .u8 0, .int .u8 0, .int .u8 0, .int .u8 0, .int .u8 0, .int .u8 0, .int .u8 0, .int .u8 0, .int .u8 0, .int .u8 0, .int .u8 0, .int .u8 0])).run Tryd.prog w = .ok true w := fun w => by
    rw [show (#[.int .u8 0, .int .u8 0, .int .u8 0, .int .u8 0, .int .u8 0, .int .u8 0, .int .u8 0, .int .u8 0, .int .u8 0, .int .u8 0, .int .u8 0, .int .u8 0, .int .u8 0, .int .u8 0, .int .u8 0, .int .u8 0, .int .u8 0, .int .u8 0, .int .u8 0, .int .u8 0, .int .u8 0, .int .u8 0, .int .u8 0, .int .u8 0, .int .u8 0, .int .u8 0, .int .u8 0, .int .u8 0, .int .u8 0, .int .u8 0, .int .u8 0, .int .u8 0] : Array Value) = Z32 from rfl]
    have h := eq_id zero32 rfl w
    rw [zero_Z] at h
    exact h
  have HLD := Lib.hid LD
  clear LD
  go_wp2_with (first | (refine wpList_load_draw_g rfl 30 _ rfl g4 40 rfl Z32 HLD.out ?_) | (refine build_to_g rfl 30 _ rfl Z32 built_Z ?_))
  go_ret
  exact ⟨rfl, HB.out⟩
end Go.Proofs.YtnfimhdcpmakpaaDoor.S
