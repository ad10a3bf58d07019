/-
 names.ID and the reference's ID: a name of 64 digits, as an array of 32 bytes.
-/
import Derived.Test.YtnfimhdcpmakpaaDoorRUh26P
import Derived.Test.YtnfimhdcpmakpaaDoorThenP
import Derived.Test.YtnfimhdcpmakpaaDoorTo26P
import Derived.Test.YtnfimhdcpmakpaaDoorSx4P
import Derived.Test.YtnfimhdcpmakpaaDoorSx5P
import Derived.Test.YtnfimhdcpmakpaaDoorSx6P
namespace Go.Proofs.YtnfimhdcpmakpaaDoor.S
open Go.RowKit Go.Proofs.YtnfimhdcpmakpaaDoorW.PrintWords
set_option linter.unusedVariables false
set_option linter.unusedSimpArgs false
theorem run_loadVar_at {P : Program} (w : World) (ad : Addr) (ty : TypeId) (cs : Array Value) (d : TypeDesc) (hc : ∀ j v, cs.toList[j]? = some v → w.cell? (ad.add j) = some v)
  (hu : P.underlying ty = some d) (hd : (match d with | .struct _ | .array _ _ => true | _ => false) = true) (hi : (P.info? ty).map (·.size) = some cs.size) :
  (loadVar ty ad).run P w = .ok (.agg cs) w := by
 have hl : (loadCells ad cs.toList.length).run P w = .ok cs.toList.toArray w := run_loadCells_list (P := P) w ad cs.toList hc
 cases hq : P.info? ty with
 | none => simp [hq] at hi
 | some i =>
  have hs : i.size = cs.size := by simpa [hq] using hi
  have hagg : (isAgg ty).run P w = .ok true w := by
   unfold isAgg
   rw [Sem.run_bind, run_underlying hu w]
   cases d <;> simp_all
  simp only [Array.length_toList, Array.toArray_toList] at hl
  simp [loadVar, Sem.run_bind, hagg, sizeOf, typeInfo, hq, hs, hl]
theorem wpList_load_at {P : Program} {ops : Array Oper} {rest : List Oper} {o : Oper} {a : Act} {w : World} {Q : Exit → Act → World → Prop} (hgd : o.guard = none) (ty : TypeId) (x : Operand) (ho : o.op = .load ty x)
  (ad : Addr) (hx : a.eval x = .pointer (some ad)) (cs : Array Value) (d : TypeDesc) (hc : ∀ j v, cs.toList[j]? = some v → w.cell? (ad.add j) = some v)
  (hu : P.underlying ty = some d) (hd : (match d with | .struct _ | .array _ _ => true | _ => false) = true) (hi : (P.info? ty).map (·.size) = some cs.size)
  (h : wpList P ops Q rest (a.put o.dst (.agg cs)) w) : wpList P ops Q (o :: rest) a w :=
 wpList_plain hgd fun K hK => by
  unfold Oper.wp execOp
  simp only [ho, hx, Instr.loadAt, Instr.sureAddr, Sem.run_bind, Sem.run_pure, Result.andThen_ok, run_loadVar_at w ad ty cs d hc hu hd hi]
  exact hK _ _ h
theorem mid_list {α : Type} (l : List α) (n : Nat) (v : α) (r : List α) (h : n < l.length) : (l.set n v).take (n + 1) ++ r ++ (l.set n v).drop (n + 1 + r.length) = l.take n ++ v :: r ++ l.drop (n + (r.length + 1)) := by
 have hA : (l.take n).length = n := by simp; omega
 rw [List.set_eq_take_append_cons_drop, if_pos h, List.take_append, List.drop_append, hA, List.take_of_length_le (show (l.take n).length ≤ n + 1 by omega), List.drop_eq_nil_of_le (show (l.take n).length ≤ n + 1 + r.length by omega), show n + 1 - n = 1 by omega, show n + 1 + r.length - n = r.length + 1 by omega]
 simp only [List.take_succ_cons, List.take_zero, List.drop_succ_cons, List.drop_drop, List.nil_append, List.append_assoc, List.cons_append]
 rw [show n + 1 + r.length = n + (r.length + 1) by omega]
theorem run_storeCells_mid {P : Program} (g : Nat) (t : TypeId) (b : Nat) : ∀ (vs : List Value) (i : Nat) (cur : Array Value) (w : World), w.heap[g]? = some (.cells cur t (0, 0)) → b + i + vs.length ≤ cur.size → (∀ v ∈ vs, v.oneCell' = true) →
  (storeCells ⟨g, b, none⟩ vs i).run P w = .ok () (w.setRow g (cur.toList.take (b + i) ++ vs ++ cur.toList.drop (b + i + vs.length)).toArray)
 | [], i, cur, w, hg, hl, _ => by
  have : cur.toList.take (b + i) ++ [] ++ cur.toList.drop (b + i + ([] : List Value).length) = cur.toList := by simp
  have hlt : g < w.heap.size := (Array.getElem?_eq_some_iff.1 hg).1
  have hv : w.heap[g] = .cells cur t (0, 0) := (Array.getElem?_eq_some_iff.1 hg).2
  rw [this]
  simp only [storeCells, Array.toArray_toList]
  show Result.ok () w = _
  congr 1
  unfold World.setRow
  cases w with
  | mk heap tape drawn os output =>
   congr 1
   apply Array.ext
   ·
    simp
   ·
    intro k h1 h2
    simp only [Array.getElem_modify]
    split
    ·
     rename_i hk; subst hk; simp at hv; simp [hv]
    ·
     rfl
 | v :: rest, i, cur, w, hg, hl, h1 => by
  have hi : b + i < cur.size := by simp at hl; omega
  have hadd : (⟨g, b, none⟩ : Addr).add i = ⟨g, b + i, none⟩ := by unfold Addr.add; split <;> simp_all
  have hcell : w.cell? ⟨g, b + i, none⟩ = some cur[b + i] := by simp [World.cell?, hg, hi]
  have hfro : w.frozen? ⟨g, b + i, none⟩ = false := by simp [World.frozen?, hg]
  have hst : (store ((⟨g, b, none⟩ : Addr).add i) v).run P w = .ok () (w.setRow g (cur.setIfInBounds (b + i) v)) := by
   rw [hadd, run_store P w _ v _ (h1 v (by simp)), hcell]
   simp [hfro, setCell_eq_setRow w g (b + i) cur t (0, 0) v hg]
  have ih := run_storeCells_mid (P := P) g t b rest (i + 1) (cur.setIfInBounds (b + i) v) (w.setRow g (cur.setIfInBounds (b + i) v)) (setRow_heap w g cur _ t _ hg) (by simp at hl ⊢; omega) (fun x hx => h1 x (by simp [hx]))
  simp only [storeCells, Sem.run_bind, hst, Result.andThen_ok, ih, setRow_setRow]
  congr 3
  rw [Array.toList_setIfInBounds]
  exact mid_list cur.toList (b + i) v rest (by simpa using hi)
theorem wpList_store_mid {P : Program} {ops : Array Oper} {rest : List Oper} {o : Oper} {a : Act} {w : World} {Q : Exit → Act → World → Prop} (hgd : o.guard = none) (ty : TypeId) (x y : Operand) (ho : o.op = .store ty x y)
  (g b : Nat) (cells : Array Value) (hx : a.eval x = .pointer (some ⟨g, b, none⟩)) (hy : a.eval y = .agg cells)
  (t : TypeId) (old new : Array Value) (hg : w.heap[g]? = some (.cells old t (0, 0))) (hi : (P.info? ty).map (·.size) = some cells.size)
  (hold : b + cells.size ≤ old.size) (h1 : cells.all (·.oneCell') = true) (hn : (old.toList.take b ++ cells.toList ++ old.toList.drop (b + cells.size)).toArray = new)
  (h : wpList P ops Q rest (a.put o.dst undef) (w.setRow g new)) : wpList P ops Q (o :: rest) a w :=
 wpList_plain hgd fun K hK => by
  subst hn
  have := run_storeCells_mid (P := P) g t b cells.toList 0 old w hg (by simpa using hold) (fun v hv => (Array.all_eq_true_iff_forall_mem.1 h1) v (by simpa using hv))
  have hst : (storeVar ty ⟨g, b, none⟩ (.agg cells)).run P w = .ok () (w.setRow g (old.toList.take b ++ cells.toList ++ old.toList.drop (b + cells.size)).toArray) := by
   cases hq : P.info? ty with
   | none => simp [hq] at hi
   | some i =>
    have hs : cells.size = i.size := by simp [hq] at hi; omega
    simp only [Nat.add_zero, Array.length_toList] at this
    simp [storeVar, sizeOf, typeInfo, hq, Value.cells, hs]
    rw [← hs]
    simpa using this
  unfold Oper.wp execOp
  simp only [ho, hx, hy, Instr.storeAt, Instr.sureAddr, Sem.run_bind, Sem.run_pure, Result.andThen_ok, hst]
  exact hK _ _ h
def zero32 : List Int := List.replicate 32 0
def Z32 : Array Value := #[.int .u8 0, .int .u8 0, .int .u8 0, .int .u8 0, .int .u8 0, .int .u8 0, .int .u8 0, .int .u8 0, .int .u8 0, .int .u8 0, .int .u8 0, .int .u8 0, .int .u8 0, .int .u8 0, .int .u8 0, .int .u8 0, .int .u8 0, .int .u8 0, .int .u8 0, .int .u8 0, .int .u8 0, .int .u8 0, .int .u8 0, .int .u8 0, .int .u8 0, .int .u8 0, .int .u8 0, .int .u8 0, .int .u8 0, .int .u8 0, .int .u8 0, .int .u8 0]
def idOf (u : List Int × Int) : List Int × Int := if u.2 = 0 then (if u.1.length = 32 then (u.1, 0) else (zero32, 9)) else (zero32, u.2)
theorem zero_Z : (nums .u8 zero32).toArray = Z32 := rfl
theorem one_nums (xs : List Int) : (nums .u8 xs).toArray.all (·.oneCell') = true := by
 simp [nums, Value.oneCell']
theorem zero_one : Z32.all (·.oneCell') = true := one_nums zero32
theorem info_id : (Tryd.prog.info? 30).map (·.size) = some 32 := by kernel_rfl
theorem info_Z : (Tryd.prog.info? 30).map (·.size) = some Z32.size := info_id
set_option maxHeartbeats 1000000 in
set_option maxRecDepth 100000 in
theorem id_any (s : ByteArray) (w : World) (hlen : s.size ≤ 1048576) :
  Calls Tryd.prog 43 #[.string s] w fun e w' => e = .returned (.tuple #[.agg (nums .u8 (idOf (unh s)).1).toArray, .int .i64 (idOf (unh s)).2]) ∧ Below w.heap.size w w' := by
 have cU : Hid (∀ w, Calls Tryd.prog 41 #[.string s] w fun e w' => ∃ v0_ : Value, e = .returned (.tuple #[v0_, .int .i64 (unh s).2]) ∧ Kd.R (Kd.int .u8) 5 w' w.heap.size (fun _ => True) v0_ (unh s).1 ∧ Below w.heap.size w w') :=
  Lib.hid fun w => xUnhex.calls s _ _ w (by unfold xUnhex.f; rw [if_pos hlen])
 generalize unh s = u at cU ⊢
 obtain ⟨l, c⟩ := u
 by_cases hc : c = 0
 ·
  subst hc
  by_cases hl : l.length = 32
  ·
   have e : idOf (l, 0) = (l, 0) := by unfold idOf; rw [if_pos rfl, if_pos hl]
   rw [e]
   clear e
   have HL := Lib.hid hl
   clear hl
   have O1 := Lib.hid (one_nums l)
   have O2 : Hid ((Tryd.prog.info? 30).map (·.size) = some ((nums .u8 l).toArray.size)) := Lib.hid (by rw [info_id]; simp [nums, HL.out])
   have O3 : Hid (Z32.size = (nums .u8 l).toArray.size) := Lib.hid (by simp [Z32, nums, HL.out])
   go_enter Tryd.func43, Tryd.ntmps43
   go_wp2_with fail
   refine (cU.out _).mono ?_
   rintro e w2 ⟨v, rfl, hR, hb⟩
   have HZ : Hid (w2.heap[w.heap.size]? = some (.cells Z32 30 (0, 0))) := Lib.hid ((hb.block w.heap.size (by simp)).trans (heap_alloc_new w _))
   have hb2 : Below w.heap.size w w2 := bthen (below_alloc (Below.refl _ _) _) hb
   obtain ⟨A, cp, rfl, hcp, hC⟩ := Kd.R_reads hR
   have hC := reads_of_C hC
   rw [HL.out] at hC hcp
   obtain ⟨ad, rfl, hcell⟩ := hC.2.2 (by omega)
   have hcell2 : ∀ j v, (nums .u8 l).toArray.toList[j]? = some v → w2.cell? (ad.add j) = some v := by
    intro j v hj
    have hjl : j < l.length := by
     rcases Nat.lt_or_ge j l.length with h' | h'
     ·
      exact h'
     ·
      rw [List.getElem?_eq_none (by simpa [nums] using h')] at hj; cases hj
    have h1 := hcell j (by rw [← HL.out]; exact hjl)
    rw [List.getD_eq_getElem?_getD, List.getElem?_eq_getElem hjl] at h1
    have h2 : v = .int .u8 l[j] := by simpa [nums, hjl] using hj.symm
    rw [h2]; exact h1
   have HC := Lib.hid hcell2
   rw [HL.out]
   have hAA : ∀ W, (Instr.arrayAt 30 (.slice (some ad) 32 cp)).run Tryd.prog W = .ok (.pointer (some ad)) W := fun W => by kernel_rfl
   clear hR hb cU hC hcell hcell2
   go_wp2_with (first | ((refine wpList_load_at rfl 30 _ rfl ad rfl (nums .u8 l).toArray _ HC.out Tryd.underlying30 rfl O2.out ?_)) | ((refine wpList_store_row rfl 30 _ _ rfl w.heap.size (nums .u8 l).toArray rfl rfl 30 Z32 HZ.out O2.out O3.out O1.out ?_); refine Hid.out ?_))
   refine Lib.hid ?_
   have f1 := setRow_heap w2 w.heap.size _ (nums .u8 l).toArray 30 _ HZ.out
   have f2 := below_setRow hb2 (Nat.le_refl _) (nums .u8 l).toArray
   have F1 := Lib.hid f1
   clear HZ f1 hb2
   generalize w2.setRow w.heap.size (nums .u8 l).toArray = w3 at F1 f2
   go_wp2
   refine bodyPost_ret (v := .tuple #[.agg (nums .u8 l).toArray, .int .i64 0]) (results_ct (p := 2) (u := 3) rfl _ _ w.heap.size 30 (nums .u8 l).toArray (0, 0) _ rfl F1.out Tryd.underlying30 rfl O2.out) rfl ⟨rfl, f2⟩
  ·
   have e : idOf (l, 0) = (zero32, 9) := by unfold idOf; rw [if_pos rfl, if_neg hl]
   rw [e]
   clear e
   have hl2 : ((l.length : Int) != 32) = true := by simpa using (by omega : ¬ (l.length : Int) = 32)
   clear hl
   go_enter Tryd.func43, Tryd.ntmps43
   go_wp2_with fail
   refine (cU.out _).mono ?_
   rintro e w2 ⟨v, rfl, hR, hb⟩
   have HZ : Hid (w2.heap[w.heap.size]? = some (.cells Z32 30 (0, 0))) := Lib.hid ((hb.block w.heap.size (by simp)).trans (heap_alloc_new w _))
   have hb2 : Below w.heap.size w w2 := bthen (below_alloc (Below.refl _ _) _) hb
   obtain ⟨A, cp, rfl, hcp, hC⟩ := Kd.R_reads hR
   clear hR hb cU hC
   go_wp2_with (first | (refine build_to rfl 30 _ rfl Z32 built_Z ?_) | ((refine wpList_store_row rfl 30 _ _ rfl w.heap.size Z32 rfl rfl 30 Z32 HZ.out info_Z rfl zero_one ?_); refine Hid.out ?_))
   refine Lib.hid ?_
   have f1 := setRow_heap w2 w.heap.size _ Z32 30 _ HZ.out
   have f2 := below_setRow hb2 (Nat.le_refl _) Z32
   have F1 := Lib.hid f1
   clear HZ f1 hb2
   generalize w2.setRow w.heap.size Z32 = w3 at F1 f2
   go_wp2
   refine bodyPost_ret (v := .tuple #[.agg Z32, .int .i64 9]) (results_ct (p := 2) (u := 3) rfl _ _ w.heap.size 30 Z32 (0, 0) _ rfl F1.out Tryd.underlying30 rfl info_Z) rfl ⟨rfl, f2⟩
 ·
  have e : idOf (l, c) = (zero32, c) := by unfold idOf; rw [if_neg hc]
  rw [e]
  have hc1 : (c != 0) = true := by simpa using hc
  clear e
  go_enter Tryd.func43, Tryd.ntmps43
  go_wp2_with fail
  refine (cU.out _).mono ?_
  rintro e w2 ⟨v, rfl, hR, hb⟩
  have HZ : Hid (w2.heap[w.heap.size]? = some (.cells Z32 30 (0, 0))) := Lib.hid ((hb.block w.heap.size (by simp)).trans (heap_alloc_new w _))
  have hb2 : Below w.heap.size w w2 := bthen (below_alloc (Below.refl _ _) _) hb
  clear hR hb cU
  go_wp2_with (first | (refine build_to rfl 30 _ rfl Z32 built_Z ?_) | ((refine wpList_store_row rfl 30 _ _ rfl w.heap.size Z32 rfl rfl 30 Z32 HZ.out info_Z rfl zero_one ?_); refine Hid.out ?_))
  refine Lib.hid ?_
  have f1 := setRow_heap w2 w.heap.size _ Z32 30 _ HZ.out
  have f2 := below_setRow hb2 (Nat.le_refl _) Z32
  have F1 := Lib.hid f1
  clear HZ f1 hb2
  generalize w2.setRow w.heap.size Z32 = w3 at F1 f2
  go_wp2
  refine bodyPost_ret (v := .tuple #[.agg Z32, .int .i64 c]) (results_ct (p := 2) (u := 3) rfl _ _ w.heap.size 30 Z32 (0, 0) _ rfl F1.out Tryd.underlying30 rfl info_Z) rfl ⟨rfl, f2⟩
set_option maxHeartbeats 1000000 in
set_option maxRecDepth 100000 in
theorem ref_id_any (s : ByteArray) (w : World) (hlen : s.size ≤ 1048576) :
  Calls Tryd.prog 50 #[.string s] w fun e w' => e = .returned (.tuple #[.agg (nums .u8 (idOf (unh s)).1).toArray, .int .i64 (idOf (unh s)).2]) ∧ Below w.heap.size w w' := by
 have cU : Hid (∀ w, Calls Tryd.prog 33 #[.string s] w fun e w' => ∃ v0_ : Value, e = .returned (.tuple #[v0_, .int .i64 (unh s).2]) ∧ Kd.R (Kd.int .u8) 5 w' w.heap.size (fun _ => True) v0_ (unh s).1 ∧ Below w.heap.size w w') :=
  Lib.hid fun w => cofferref4_Unhex.calls (s.size + 30) s _ _ w (ref_unhex_f s hlen _ (Nat.le_refl _))
 generalize unh s = u at cU ⊢
 obtain ⟨l, c⟩ := u
 by_cases hc : c = 0
 ·
  subst hc
  by_cases hl : l.length = 32
  ·
   have e : idOf (l, 0) = (l, 0) := by unfold idOf; rw [if_pos rfl, if_pos hl]
   rw [e]
   clear e
   have HL := Lib.hid hl
   clear hl
   have O1 := Lib.hid (one_nums l)
   have O2 : Hid ((Tryd.prog.info? 30).map (·.size) = some ((nums .u8 l).toArray.size)) := Lib.hid (by rw [info_id]; simp [nums, HL.out])
   have O3 : Hid (Z32.size = (nums .u8 l).toArray.size) := Lib.hid (by simp [Z32, nums, HL.out])
   go_enter Tryd.func50, Tryd.ntmps50
   go_wp2_with fail
   refine (cU.out _).mono ?_
   rintro e w2 ⟨v, rfl, hR, hb⟩
   have HZ : Hid (w2.heap[w.heap.size]? = some (.cells Z32 30 (0, 0))) := Lib.hid ((hb.block w.heap.size (by simp)).trans (heap_alloc_new w _))
   have hb2 : Below w.heap.size w w2 := bthen (below_alloc (Below.refl _ _) _) hb
   obtain ⟨A, cp, rfl, hcp, hC⟩ := Kd.R_reads hR
   have hC := reads_of_C hC
   rw [HL.out] at hC hcp
   obtain ⟨ad, rfl, hcell⟩ := hC.2.2 (by omega)
   have hcell2 : ∀ j v, (nums .u8 l).toArray.toList[j]? = some v → w2.cell? (ad.add j) = some v := by
    intro j v hj
    have hjl : j < l.length := by
     rcases Nat.lt_or_ge j l.length with h' | h'
     ·
      exact h'
     ·
      rw [List.getElem?_eq_none (by simpa [nums] using h')] at hj; cases hj
    have h1 := hcell j (by rw [← HL.out]; exact hjl)
    rw [List.getD_eq_getElem?_getD, List.getElem?_eq_getElem hjl] at h1
    have h2 : v = .int .u8 l[j] := by simpa [nums, hjl] using hj.symm
    rw [h2]; exact h1
   have HC := Lib.hid hcell2
   rw [HL.out]
   have hAA : ∀ W, (Instr.arrayAt 30 (.slice (some ad) 32 cp)).run Tryd.prog W = .ok (.pointer (some ad)) W := fun W => by kernel_rfl
   clear hR hb cU hC hcell hcell2
   go_wp2_with (first | ((refine wpList_load_at rfl 30 _ rfl ad rfl (nums .u8 l).toArray _ HC.out Tryd.underlying30 rfl O2.out ?_)) | ((refine wpList_store_row rfl 30 _ _ rfl w.heap.size (nums .u8 l).toArray rfl rfl 30 Z32 HZ.out O2.out O3.out O1.out ?_); refine Hid.out ?_))
   refine Lib.hid ?_
   have f1 := setRow_heap w2 w.heap.size _ (nums .u8 l).toArray 30 _ HZ.out
   have f2 := below_setRow hb2 (Nat.le_refl _) (nums .u8 l).toArray
   have F1 := Lib.hid f1
   clear HZ f1 hb2
   generalize w2.setRow w.heap.size (nums .u8 l).toArray = w3 at F1 f2
   go_wp2
   refine bodyPost_ret (v := .tuple #[.agg (nums .u8 l).toArray, .int .i64 0]) (results_ct (p := 2) (u := 3) rfl _ _ w.heap.size 30 (nums .u8 l).toArray (0, 0) _ rfl F1.out Tryd.underlying30 rfl O2.out) rfl ⟨rfl, f2⟩
  ·
   have e : idOf (l, 0) = (zero32, 9) := by unfold idOf; rw [if_pos rfl, if_neg hl]
   rw [e]
   clear e
   have hl2 : ((l.length : Int) != 32) = true := by simpa using (by omega : ¬ (l.length : Int) = 32)
   clear hl
   go_enter Tryd.func50, Tryd.ntmps50
   go_wp2_with fail
   refine (cU.out _).mono ?_
   rintro e w2 ⟨v, rfl, hR, hb⟩
   have HZ : Hid (w2.heap[w.heap.size]? = some (.cells Z32 30 (0, 0))) := Lib.hid ((hb.block w.heap.size (by simp)).trans (heap_alloc_new w _))
   have hb2 : Below w.heap.size w w2 := bthen (below_alloc (Below.refl _ _) _) hb
   obtain ⟨A, cp, rfl, hcp, hC⟩ := Kd.R_reads hR
   clear hR hb cU hC
   go_wp2_with (first | (refine build_to rfl 30 _ rfl Z32 built_Z ?_) | ((refine wpList_store_row rfl 30 _ _ rfl w.heap.size Z32 rfl rfl 30 Z32 HZ.out info_Z rfl zero_one ?_); refine Hid.out ?_))
   refine Lib.hid ?_
   have f1 := setRow_heap w2 w.heap.size _ Z32 30 _ HZ.out
   have f2 := below_setRow hb2 (Nat.le_refl _) Z32
   have F1 := Lib.hid f1
   clear HZ f1 hb2
   generalize w2.setRow w.heap.size Z32 = w3 at F1 f2
   go_wp2
   refine bodyPost_ret (v := .tuple #[.agg Z32, .int .i64 9]) (results_ct (p := 2) (u := 3) rfl _ _ w.heap.size 30 Z32 (0, 0) _ rfl F1.out Tryd.underlying30 rfl info_Z) rfl ⟨rfl, f2⟩
 ·
  have e : idOf (l, c) = (zero32, c) := by unfold idOf; rw [if_neg hc]
  rw [e]
  have hc1 : (c != 0) = true := by simpa using hc
  clear e
  go_enter Tryd.func50, Tryd.ntmps50
  go_wp2_with fail
  refine (cU.out _).mono ?_
  rintro e w2 ⟨v, rfl, hR, hb⟩
  have HZ : Hid (w2.heap[w.heap.size]? = some (.cells Z32 30 (0, 0))) := Lib.hid ((hb.block w.heap.size (by simp)).trans (heap_alloc_new w _))
  have hb2 : Below w.heap.size w w2 := bthen (below_alloc (Below.refl _ _) _) hb
  clear hR hb cU
  go_wp2_with (first | (refine build_to rfl 30 _ rfl Z32 built_Z ?_) | ((refine wpList_store_row rfl 30 _ _ rfl w.heap.size Z32 rfl rfl 30 Z32 HZ.out info_Z rfl zero_one ?_); refine Hid.out ?_))
  refine Lib.hid ?_
  have f1 := setRow_heap w2 w.heap.size _ Z32 30 _ HZ.out
  have f2 := below_setRow hb2 (Nat.le_refl _) Z32
  have F1 := Lib.hid f1
  clear HZ f1 hb2
  generalize w2.setRow w.heap.size Z32 = w3 at F1 f2
  go_wp2
  refine bodyPost_ret (v := .tuple #[.agg Z32, .int .i64 c]) (results_ct (p := 2) (u := 3) rfl _ _ w.heap.size 30 Z32 (0, 0) _ rfl F1.out Tryd.underlying30 rfl info_Z) rfl ⟨rfl, f2⟩
end Go.Proofs.YtnfimhdcpmakpaaDoor.S
namespace Go.Proofs.YtnfimhdcpmakpaaDoor.S
open Go.RowKit Go.Proofs.YtnfimhdcpmakpaaDoorW.PrintWords
set_option linter.unusedVariables false
set_option linter.unusedSimpArgs false
def fillG (K : Nat) : List ByteArray → List ByteArray → OpV → Option (Bool × OpV)
 | [], _, o => some (true, o)
 | _ :: _, [], _ => none
 | x :: xs, p :: ps, o =>
  if x.toList = [78, 65, 77, 69] then (names_May.f K p).bind fun b => if b = true then fillG K xs ps { o with ten := p } else some (false, { o with ten := p })
  else if x.toList = [72, 69, 88] then (if p.size ≤ 1048576 then (if (idOf (unh p)).2 = 0 then fillG K xs ps { o with of_ := (idOf (unh p)).1 } else some (false, { o with of_ := (idOf (unh p)).1 })) else none)
  else if x.toList = [78] then (names_Number.f K p).bind fun n => if n.2 = 0 then fillG K xs ps { o with num := n.1 } else some (false, { o with num := n.1 })
  else fillG K xs ps o
theorem idOf_len (u : List Int × Int) : (idOf u).1.length = 32 := by
 unfold idOf
 split
 ·
  split
  ·
   assumption
  ·
   rfl
 ·
  rfl
theorem set_of {o : OpV} (h : o.of_.length = 32) (l : List Int) (hl : l.length = 32) : ((opA o).toList.take 2 ++ (nums .u8 l).toArray.toList ++ (opA o).toList.drop (2 + (nums .u8 l).toArray.size)).toArray = opA { o with of_ := l } := by
 have e1 : (nums .u8 l).toArray.size = 32 := by simp [nums, hl]
 rw [e1]
 simp [opA, opL, nums, List.drop_append, h]
theorem keep_setRow {w W : World} {g : Nat} {row : Option Nat} (h : KeepBut w W g row) (cs : Array Value) : KeepBut w (W.setRow g cs) g row :=
 ⟨by have := h.1; simpa [World.setRow] using this, fun i hi hg hr => (setRow_other W g i cs hg).trans (h.2 i hi hg hr)⟩
theorem fillG_of (K : Nat) {x : ByteArray} {xs : List ByteArray} {p : ByteArray} {ps : List ByteArray} {o : OpV} : fillG K (x :: xs) (p :: ps) o = if x.toList = [78, 65, 77, 69] then (names_May.f K p).bind fun b => if b = true then fillG K xs ps { o with ten := p } else some (false, { o with ten := p })
  else if x.toList = [72, 69, 88] then (if p.size ≤ 1048576 then (if (idOf (unh p)).2 = 0 then fillG K xs ps { o with of_ := (idOf (unh p)).1 } else some (false, { o with of_ := (idOf (unh p)).1 })) else none)
  else if x.toList = [78] then (names_Number.f K p).bind fun n => if n.2 = 0 then fillG K xs ps { o with num := n.1 } else some (false, { o with num := n.1 })
  else fillG K xs ps o := rfl
set_option maxHeartbeats 8000000 in
set_option maxRecDepth 100000 in
theorem fill_all (K : Nat) (x : S58) (g : Nat) (o : OpV) (ho : o.of_.length = 32) (A : Option Addr) (c : Nat) (ps : List ByteArray) (w : World) (form : List ByteArray) (r : Bool) (o' : OpV)
  (hg : w.heap[g]? = some (.cells (opA o) 33 (0, 0))) (hp : Kd.C Kd.string w A ps.length ps) (hc : ps.length ≤ c) (hA : ∀ ad, A = some ad → ad.block ≠ g)
  (hform : route_road_parts.f x.f0 x.f1 x.f2 x.f3 x.f4 x.f5 = some form) (hl : form.length = ps.length) (hlp : ps.length ≤ 1048576) (h : fillG K form ps o = some (r, o')) :
  Calls Tryd.prog 22 #[.agg #[.string x.f0, .string x.f1, .int .i64 x.f2, .bool x.f3, .bool x.f4, .bool x.f5], .pointer (some ⟨g, 0, none⟩), .slice A ps.length c] w
   fun e w' => e = .returned (.bool r) ∧ o'.of_.length = 32 ∧ w'.heap[g]? = some (.cells (opA o') 33 (0, 0)) ∧ KeepBut w w' g none ∧ Below g w w' := by
 have HA := Lib.hid hA
 have HP := Lib.hid hp
 have HF := Lib.hid h
 have HG := Lib.hid hg
 have HOL := Lib.hid ho
 have HFM := Lib.hid hform
 obtain ⟨x0, x1, x2, x3, x4, x5⟩ := x
 simp only at HFM
 clear hA hp h hg hform
 go_enter Tryd.func22, Tryd.ntmps22
 go_wp2_with fail
 refine (route_road_parts.calls x0 x1 x2 x3 x4 x5 form _ HFM.out).mono ?_
 rintro e w1 ⟨v, rfl, hR, hb⟩
 obtain ⟨Ao, co, eo⟩ := Kd.R_slice hR
 subst eo
 have hb1 : Below w.heap.size w w1 := below_then (below_alloc (Below.refl _ _) _) (below_alloc (Below.refl w.heap.size w) _).size hb
 have HR := Lib.hid (Kd.R_lower hR (below_alloc (Below.refl w.heap.size w) _).size)
 have HG1 := Lib.hid (blk_below HG.out hb1)
 have HK1 := Lib.hid (KeepBut.of_below hb1 g none)
 have HL1 := Lib.hid (show Below g w w1 from ⟨hb1.os, hb1.tape, hb1.output, hb1.size, fun i hi => hb1.block i (Nat.lt_trans hi (blk_lt HG.out))⟩)
 clear hR hb hb1 HG HFM
 go_wp2_with fail
 go_loopw [13] (fun i wr => ∃ (k : Nat) (q : OpV), k ≤ form.length ∧ i = .int .i64 k ∧ Hid (fillG K (form.drop k) (ps.drop k) q = some (r, o')) ∧ Hid (q.of_.length = 32) ∧ Hid (wr.heap[g]? = some (.cells (opA q) 33 (0, 0))) ∧ Hid (Kd.R Kd.string 9 wr w.heap.size (fun _ => True) (.slice Ao form.length co) form) ∧ Hid (KeepBut w wr g none) ∧ Hid (Below g w wr)) (fun i _ => form.length - (intOf i).toNat)
 case atStart => exact ⟨0, o, by omega, rfl, HF, HOL, HG1, HR, HK1, HL1⟩
 case round =>
  obtain ⟨k, q, hk, rfl, HFk, HQ, HGk, HRk, HKk, HLk⟩ := hrel
  clear HF HOL HG1 HR HK1 HL1
  by_cases hlt : k < form.length
  ·
   have hltp : k < ps.length := by omega
   obtain ⟨ad, e0, hx⟩ := Kd.at_string (Kd.R_reads' HRk.out).2.2 (k : Int) (by omega) (by omega)
   obtain ⟨ap, e1, hy⟩ := Kd.at_string HP.out (k : Int) (by omega) (by omega)
   unfold rdOf at hx hy
   rw [Int.toNat_natCast] at hx hy
   have hne : (ap.add k).block ≠ g := by rw [add_block]; exact HA.out ap e1
   replace hy := keep_cell HKk.out hy hne
   have hdf : form.drop k = form.getD k ByteArray.empty :: form.drop (k + 1) := by rw [List.drop_eq_getElem_cons hlt, List.getD_eq_getElem?_getD, List.getElem?_eq_getElem hlt]; rfl
   have hdp : ps.drop k = ps.getD k ByteArray.empty :: ps.drop (k + 1) := by rw [List.drop_eq_getElem_cons hltp, List.getD_eq_getElem?_getD, List.getElem?_eq_getElem hltp]; rfl
   have hf := HFk.out
   rw [hdf, hdp, fillG_of] at hf
   generalize form.getD k ByteArray.empty = x at *
   generalize ps.getD k ByteArray.empty = p at *
   clear hdf hdp HFk hne
   cases e0
   cases e1
   have hgn : ad.block ≠ g := Kd.own_blk (Kd.R_ne HRk.out HGk.out (by decide))
   by_cases cN : x.toList = [78, 65, 77, 69]
   ·
    rw [if_pos cN] at hf
    obtain rfl := toList_lit _ _ cN
    obtain ⟨b, hM, hf⟩ := Option.bind_eq_some_iff.1 hf
    have HM := Lib.hid hM
    have HFn := Lib.hid hf
    clear hM hf cN
    have hz1 : wr.cell? ⟨g, 1, none⟩ = some (.string q.ten) := (blk_cell HGk.out 1).trans (opA_1 HQ.out)
    have hfz := blk_frozen HGk.out 1
    go_wp2_with fail
    refine (names_May.calls K p b _ HM.out).mono ?_
    rintro e w2 ⟨rfl, ⟨nd, rfl⟩⟩
    have HG2 := Lib.hid (blk_drewN (blk_put HGk.out 1 (.string p) (set_ten HQ.out p)) nd)
    have HK2 := Lib.hid (keep_drewN (KeepBut.set_ HKk.out 1 (.string p)) nd)
    have HL2 := Lib.hid (pw_below_drewN (HLk.out.setCell (p := ⟨g, 1, none⟩) (Nat.le_refl g) (.string p)) nd)
    have HR2 := Lib.hid (Kd.R_drewN (Kd.R_mono (Kd.R_far (p := ⟨g, 1, none⟩) (Kd.R_types HRk.out HGk.out (by decide)) (fun _ hk => hk.2) (.string p)) (fun _ h_ => h_.1)) nd)
    clear HGk HKk HRk HLk HM
    cases b
    ·
     have hf := Prod.mk.inj (Option.some.inj HFn.out)
     obtain ⟨rfl, rfl⟩ := hf
     go_wp2
     go_ret
     exact ⟨rfl, HQ.out, HG2.out, HK2.out, HL2.out⟩
    ·
     have HF2 := Lib.hid (show fillG K (form.drop (k + 1)) (ps.drop (k + 1)) { q with ten := p } = some (r, o') from HFn.out)
     clear HFn
     go_wp2
     go_roundw
     case rel => exact ⟨k + 1, _, by omega, by go_num, HF2, Lib.hid HQ.out, HG2, HR2, HK2, HL2⟩
     case measure => simp [intOf]; omega
   ·
    rw [if_neg cN] at hf
    by_cases cH : x.toList = [72, 69, 88]
    ·
     rw [if_pos cH] at hf
     obtain rfl := toList_lit _ _ cH
     by_cases hps : p.size ≤ 1048576
     rotate_left
     ·
      rw [if_neg hps] at hf; cases hf
     rw [if_pos hps] at hf
     have HFn := Lib.hid hf
     have hol := idOf_len (unh p)
     clear hf cN cH
     go_wp2_with fail
     refine (id_any p _ hps).mono ?_
     rintro e w2 ⟨rfl, hb⟩
     generalize idOf (unh p) = u at *
     obtain ⟨l, n2⟩ := u
     simp only at hol HFn ⊢
     have HLE := Lib.hid (show w.heap.size ≤ wr.heap.size from HKk.out.1)
     have hbg : Below g wr w2 := ⟨hb.os, hb.tape, hb.output, hb.size, fun i hi => hb.block i (Nat.lt_trans hi (blk_lt HGk.out))⟩
     have HG1 := Lib.hid (blk_below HGk.out hb)
     have HK1 := Lib.hid (HKk.out.trans (KeepBut.of_below hb g none) (.inl rfl))
     have HL1 := Lib.hid (HLk.out.trans hbg)
     have HR1 := Lib.hid (Kd.R_below HRk.out hb)
     have o1 := Lib.hid (show (Tryd.prog.info? 30).map (·.size) = some (nums .u8 l).toArray.size by rw [info_id]; simp [nums, hol])
     have o2 := Lib.hid (show 2 + (nums .u8 l).toArray.size ≤ (opA q).size by rw [opA_size HQ.out]; simp [nums, hol])
     clear HGk HKk HRk HLk hb hbg
     go_wp2_with ((refine wpList_store_mid rfl 30 _ _ rfl g 2 (nums .u8 l).toArray rfl rfl 33 (opA q) (opA { q with of_ := l }) HG1.out o1.out o2.out (one_nums l) (set_of HQ.out l hol) ?_); refine Hid.out ?_)
     refine Lib.hid ?_
     have HG2 := Lib.hid (setRow_heap w2 g _ (opA { q with of_ := l }) 33 _ HG1.out)
     have HK2 := Lib.hid (keep_setRow HK1.out (opA { q with of_ := l }))
     have HL2 := Lib.hid (below_setRow HL1.out (Nat.le_refl g) (opA { q with of_ := l }))
     have HR2 := Lib.hid (Kd.R_mono (Kd.R_step (Kd.R_types HR1.out HG1.out (by decide)) (fun k hk hlt => setRow_other w2 g k (opA { q with of_ := l }) hk.2)) (fun _ hk => hk.1))
     have HQ2 := Lib.hid (show ({ q with of_ := l } : OpV).of_.length = 32 from hol)
     clear HG1 HK1 HL1 HR1 o1 o2 hol
     generalize w2.setRow g (opA { q with of_ := l }) = w3 at HG2 HK2 HL2 HR2 ⊢
     by_cases h0 : n2 = 0
     ·
      subst h0
      have HF2 := Lib.hid (show fillG K (form.drop (k + 1)) (ps.drop (k + 1)) { q with of_ := l } = some (r, o') from HFn.out)
      clear HFn
      go_wp2
      go_roundw
      case rel => exact ⟨k + 1, _, by omega, by go_num, HF2, HQ2, HG2, HR2, HK2, HL2⟩
      case measure => simp [intOf]; omega
     ·
      have hf := HFn.out
      rw [if_neg h0] at hf
      obtain ⟨rfl, rfl⟩ := Prod.mk.inj (Option.some.inj hf)
      have h1 : (n2 != 0) = true := by simpa using h0
      have h2 : (n2 == 0) = false := by simpa using h0
      clear hf HFn
      go_wp2
      go_ret
      exact ⟨rfl, HQ2.out, HG2.out, HK2.out, HL2.out⟩
    ·
     rw [if_neg cH] at hf
     have qN : (x.toList == [78, 65, 77, 69]) = false := by simpa using cN
     have qH : (x.toList == [72, 69, 88]) = false := by simpa using cH
     by_cases c1 : x.toList = [78]
     ·
      rw [if_pos c1] at hf
      obtain rfl := toList_lit _ _ c1
      obtain ⟨n, hM, hf⟩ := Option.bind_eq_some_iff.1 hf
      obtain ⟨n1, n2⟩ := n
      have HM := Lib.hid hM
      have HFn := Lib.hid hf
      clear hM hf c1 cN cH qN qH
      have hz1 : wr.cell? ⟨g, 34, none⟩ = some (.int .i64 q.num) := (blk_cell HGk.out 34).trans (opA_34 HQ.out)
      have hfz := blk_frozen HGk.out 34
      go_wp2_with fail
      refine (names_Number.calls K p n1 n2 _ HM.out).mono ?_
      rintro e w2 ⟨rfl, ⟨nd, rfl⟩⟩
      have HG2 := Lib.hid (blk_put (blk_drewN HGk.out nd) 34 (.int .i64 n1) (set_num HQ.out n1))
      have HK2 := Lib.hid (KeepBut.set_ (keep_drewN HKk.out nd) 34 (.int .i64 n1))
      have HL2 := Lib.hid ((pw_below_drewN HLk.out nd).setCell (p := ⟨g, 34, none⟩) (Nat.le_refl g) (.int .i64 n1))
      have HR2 := Lib.hid (Kd.R_mono (Kd.R_far (p := ⟨g, 34, none⟩) (Kd.R_types (Kd.R_drewN HRk.out nd) (blk_drewN HGk.out nd) (by decide)) (fun _ hk => hk.2) (.int .i64 n1)) (fun _ h_ => h_.1))
      clear HGk HKk HRk HLk HM
      by_cases h0 : n2 = 0
      ·
       subst h0
       have HF2 := Lib.hid (show fillG K (form.drop (k + 1)) (ps.drop (k + 1)) { q with num := n1 } = some (r, o') from HFn.out)
       clear HFn
       go_wp2
       go_roundw
       case rel => exact ⟨k + 1, _, by omega, by go_num, HF2, Lib.hid HQ.out, HG2, HR2, HK2, HL2⟩
       case measure => simp [intOf]; omega
      ·
       have hf := HFn.out
       rw [if_neg (show ¬ (n1, n2).2 = 0 from h0)] at hf
       obtain ⟨rfl, rfl⟩ := Prod.mk.inj (Option.some.inj hf)
       have h1 : (n2 != 0) = true := by simpa using h0
       have h2 : (n2 == 0) = false := by simpa using h0
       clear hf HFn
       go_wp2
       go_ret
       exact ⟨rfl, HQ.out, HG2.out, HK2.out, HL2.out⟩
     ·
      rw [if_neg c1] at hf
      have q1 : (x.toList == [78]) = false := by simpa using c1
      have HF2 := Lib.hid hf
      clear hf c1 cN cH
      go_wp2
      go_roundw
      case rel => exact ⟨k + 1, q, by omega, by go_num, HF2, HQ, HGk, HRk, HKk, HLk⟩
      case measure => simp [intOf]; omega
  ·
   obtain rfl : k = form.length := by omega
   have hf := HFk.out
   rw [List.drop_length] at hf
   obtain ⟨rfl, rfl⟩ := Prod.mk.inj (Option.some.inj hf)
   clear hf HFk
   go_wp2
   go_ret
   exact ⟨rfl, HQ.out, HGk.out, HKk.out, HLk.out⟩
end Go.Proofs.YtnfimhdcpmakpaaDoor.S
namespace Go.Proofs.YtnfimhdcpmakpaaDoor.S
open Go.RowKit Go.Proofs.YtnfimhdcpmakpaaDoorW.PrintWords
set_option linter.unusedVariables false
set_option linter.unusedSimpArgs false
def askG (K : Nat) (q t : Bool) : List S91 → Int → OpV → Option (Bool × OpV)
 | [], m, o => some (m == 0, o)
 | p :: ps, m, o =>
  if q = true ∧ p.f0.toList = [113, 117, 111, 116, 97] then (names_Number.f K p.f1).bind fun n => if n.2 = 0 then askG K q t ps (m - 1) { o with num := n.1 } else some (false, { o with num := n.1 })
  else if t = true ∧ p.f0.toList = [114, 105, 103, 104, 116, 115] then (rights_Parse.f K p.f1).bind fun n => if n.2 = 0 then askG K q t ps (m - 1) { o with rig := n.1 } else some (false, { o with rig := n.1 })
  else if t = true ∧ p.f0.toList = [117, 110, 116, 105, 108] then (names_Number.f K p.f1).bind fun n => if n.2 = 0 then askG K q t ps (m - 1) { o with unt := n.1 } else some (false, { o with unt := n.1 })
  else if t = true ∧ p.f0.toList = [116, 101, 110, 97, 110, 116] then (names_May.f K p.f1).bind fun b => if b = true then askG K q t ps m { o with ten := p.f1 } else some (false, o)
  else some (false, o)
theorem askG_of (K : Nat) {q t : Bool} {p : S91} {ps : List S91} {m : Int} {o : OpV} : askG K q t (p :: ps) m o = if q = true ∧ p.f0.toList = [113, 117, 111, 116, 97] then (names_Number.f K p.f1).bind fun n => if n.2 = 0 then askG K q t ps (m - 1) { o with num := n.1 } else some (false, { o with num := n.1 })
  else if t = true ∧ p.f0.toList = [114, 105, 103, 104, 116, 115] then (rights_Parse.f K p.f1).bind fun n => if n.2 = 0 then askG K q t ps (m - 1) { o with rig := n.1 } else some (false, { o with rig := n.1 })
  else if t = true ∧ p.f0.toList = [117, 110, 116, 105, 108] then (names_Number.f K p.f1).bind fun n => if n.2 = 0 then askG K q t ps (m - 1) { o with unt := n.1 } else some (false, { o with unt := n.1 })
  else if t = true ∧ p.f0.toList = [116, 101, 110, 97, 110, 116] then (names_May.f K p.f1).bind fun b => if b = true then askG K q t ps m { o with ten := p.f1 } else some (false, o)
  else some (false, o) := rfl
def askR (K : Nat) (q t : Bool) (l : List S91) (o : OpV) : Option (Bool × OpV) := if (q = true ∧ t = true) ∨ ¬ l.length ≤ 1048576 then none else askG K q t l (if q = true then 1 else if t = true then 2 else 0) o
theorem size91 : (Tryd.prog.info? 91).map (·.size) = some 2 := by kernel_rfl
theorem Tabs.keep {w w' : World} {g : Nat} {o : OpV} (h : Tabs w) (ho : o.of_.length = 32) (hg : w.heap[g]? = some (.cells (opA o) 33 (0, 0))) (hk : KeepBut w w' g none) : Tabs w' := by
 refine ⟨?_⟩
 have h := h.out
 unfold Lib.TabIs World.var? at *
 cases hn : Tryd.prog.globalNamed "internal/strconv.uint64pow10" with
 | none => simp [hn] at h
 | some i =>
  simp only [hn, Option.bind_some] at h ⊢
  have hlt : i < w.heap.size := by
   rcases Nat.lt_or_ge i w.heap.size with h' | h'
   ·
    exact h'
   ·
    rw [Array.getElem?_eq_none h'] at h; simp at h
  have hne : i ≠ g := by
   rintro rfl
   rw [hg] at h
   have h2 := congrArg (Option.map Array.size) h
   simp [opA_size ho] at h2
   revert h2
   decide
  rw [hk.2 i hlt hne (by simp)]
  exact h
theorem lowB {w w' : World} {g : Nat} (hb : Below w.heap.size w w') (hg : g < w.heap.size) : Below g w w' := ⟨hb.os, hb.tape, hb.output, hb.size, fun i hi => hb.block i (Nat.lt_trans hi hg)⟩
theorem setCell_far (w : World) (g c i : Nat) (v : Value) (h : i ≠ g) : (w.setCell ⟨g, c, none⟩ v).heap[i]? = w.heap[i]? := by
 simp [World.setCell, Array.getElem?_modify, Ne.symm h]
theorem wrap_m (m : Int) (h0 : -1048580 ≤ m) (h1 : m ≤ 2) : IntKind.i64.wrap m = m := by rw [IntKind.wrap_i64]; omega
set_option maxHeartbeats 8000000 in
set_option maxRecDepth 100000 in
theorem ask_00 (K : Nat) (x0 x1 : ByteArray) (x2 : Int) (x3 : Bool) (g : Nat) (o : OpV) (ho : o.of_.length = 32) (A : Option Addr) (c : Nat) (l : List S91) (w : World) (r : Bool) (o' : OpV)
  (hg : w.heap[g]? = some (.cells (opA o) 33 (0, 0))) (hp : Kd.C k91 w A l.length l) (hc : l.length ≤ c) (hA : ∀ ad, A = some ad → ad.block ≠ g) (hll : l.length ≤ 1048576)
  (h : askG K false false l 0 o = some (r, o')) (hT : Tabs w) :
  Calls Tryd.prog 23 #[.agg #[.string x0, .string x1, .int .i64 x2, .bool x3, .bool false, .bool false], .pointer (some ⟨g, 0, none⟩), .slice A l.length c] w
   fun e w' => e = .returned (.bool r) ∧ o'.of_.length = 32 ∧ w'.heap[g]? = some (.cells (opA o') 33 (0, 0)) ∧ KeepBut w w' g none ∧ Below g w w' := by
 have HA := Lib.hid hA
 have HP := Lib.hid hp
 have HF := Lib.hid h
 have HG := Lib.hid hg
 have HOL := Lib.hid ho
 have HT := Lib.hid (show ∀ w', KeepBut w w' g none → Tabs w' from fun w' hk => hT.keep ho hg hk)
 have HGL := Lib.hid (show g < w.heap.size from blk_lt hg)
 clear hA hp h hg ho hT
 go_enter Tryd.func23, Tryd.ntmps23
 go_wp2_with fail
 have hb1 : Below w.heap.size w (w.alloc (.cells #[.string x0, .string x1, .int .i64 x2, .bool x3, .bool false, .bool false] 58)) := below_alloc (Below.refl _ _) _
 have HG1 := Lib.hid (blk_below HG.out hb1)
 have HX1 := Lib.hid (heap_alloc_new w (.cells #[.string x0, .string x1, .int .i64 x2, .bool x3, .bool false, .bool false] 58))
 have HK1 := Lib.hid (KeepBut.of_below hb1 g none)
 have HL1 := Lib.hid (show Below g w (w.alloc (.cells #[.string x0, .string x1, .int .i64 x2, .bool x3, .bool false, .bool false] 58)) from ⟨hb1.os, hb1.tape, hb1.output, hb1.size, fun i hi => hb1.block i (Nat.lt_trans hi HGL.out)⟩)
 clear hb1
 generalize w.alloc (.cells #[.string x0, .string x1, .int .i64 x2, .bool x3, .bool false, .bool false] 58) = w1 at HG1 HX1 HK1 HL1 ⊢
 clear HG
 go_loopw [7, 17] (fun mv i wr => ∃ (k : Nat) (q : OpV) (m : Int), k ≤ l.length ∧ -(k : Int) ≤ m ∧ m ≤ 2 ∧ mv = .int .i64 m ∧ i = .int .i64 k ∧ Hid (askG K false false (l.drop k) m q = some (r, o')) ∧ Hid (q.of_.length = 32) ∧ Hid (wr.heap[g]? = some (.cells (opA q) 33 (0, 0))) ∧ Hid (wr.heap[w.heap.size]? = some (.cells #[.string x0, .string x1, .int .i64 x2, .bool x3, .bool false, .bool false] 58 (0, 0))) ∧ Hid (KeepBut w wr g none) ∧ Hid (Below g w wr)) (fun _ i _ => l.length - (intOf i).toNat)
 case atStart => exact ⟨0, o, 0, by omega, by omega, by omega, rfl, rfl, HF, HOL, HG1, HX1, HK1, HL1⟩
 case round =>
  obtain ⟨k, q, m, hk, hm0, hm1, rfl, rfl, HFk, HQ, HGk, HXk, HKk, HLk⟩ := hrel
  clear HF HOL HG1 HX1 HK1 HL1
  by_cases hlt : k < l.length
  ·
   obtain ⟨ad, e0, y0, y1⟩ := at_T91 HP.out (k : Int) (by omega) (by omega)
   unfold rd_T91 at y0 y1
   rw [Int.toNat_natCast] at y0 y1
   have hne : ad.block ≠ g := HA.out ad e0
   replace y0 := keep_cell HKk.out y0 (by rw [add_block]; exact hne)
   replace y1 := keep_cell HKk.out y1 (by show (ad.add _).block ≠ g; rw [add_block]; exact hne)
   have hdl : l.drop k = l.getD k z91 :: l.drop (k + 1) := by rw [List.drop_eq_getElem_cons hlt, List.getD_eq_getElem?_getD, List.getElem?_eq_getElem hlt]; rfl
   have hf := HFk.out
   rw [hdl, askG_of] at hf
   generalize l.getD k z91 = p at *
   obtain ⟨n, v⟩ := p
   clear hdl HFk hne
   simp only at hf y0 y1
   cases e0
   have c4 : wr.cell? ⟨w.heap.size, 4, none⟩ = some (.bool false) := (blk_cell HXk.out 4).trans rfl
   have c5 : wr.cell? ⟨w.heap.size, 5, none⟩ = some (.bool false) := (blk_cell HXk.out 5).trans rfl
   have one2 : (#[.string n, .string v] : Array Value).all (·.oneCell') = true := by simp [Value.oneCell']
   go_wp2_with ((refine wpList_store_row rfl 91 _ _ rfl wr.heap.size #[.string n, .string v] rfl rfl 91 #[.string ⟨#[]⟩, .string ⟨#[]⟩] (heap_alloc_new wr _) size91 rfl one2 ?_); refine Hid.out ?_)
   refine Lib.hid ?_
   have f1 := setRow_heap (wr.alloc (.cells #[.string ⟨#[]⟩, .string ⟨#[]⟩] 91)) wr.heap.size _ #[.string n, .string v] 91 _ (heap_alloc_new wr _)
   have f2 := below_setRow (below_alloc (Below.refl wr.heap.size wr) (.cells #[.string ⟨#[]⟩, .string ⟨#[]⟩] 91)) (Nat.le_refl _) #[.string n, .string v]
   generalize (wr.alloc (.cells #[.string ⟨#[]⟩, .string ⟨#[]⟩] 91)).setRow wr.heap.size #[.string n, .string v] = wn at f1 f2 ⊢
   have z0 : wn.cell? ⟨wr.heap.size, 0, none⟩ = some (.string n) := (blk_cell f1 0).trans rfl
   have z1 : wn.cell? ⟨wr.heap.size, 1, none⟩ = some (.string v) := (blk_cell f1 1).trans rfl
   have HGn := Lib.hid (blk_below HGk.out f2)
   have HXn := Lib.hid (blk_below HXk.out f2)
   have HKn := Lib.hid (HKk.out.trans (KeepBut.of_below f2 g none) (.inl rfl))
   have HLn := Lib.hid (HLk.out.trans (lowB f2 (blk_lt HGk.out)))
   replace c4 := pw_cell_below f2 c4
   replace c5 := pw_cell_below f2 c5
   clear y0 y1 one2 f1 f2 HGk HXk HKk HLk
   generalize wr.heap.size = g9 at *
   rw [if_neg (by simp)] at hf
   rw [if_neg (by simp), if_neg (by simp), if_neg (by simp)] at hf
   obtain ⟨rfl, rfl⟩ := Prod.mk.inj (Option.some.inj hf)
   clear hf
   go_wp2
   go_ret
   exact ⟨rfl, HQ.out, HGn.out, HKn.out, HLn.out⟩
  ·
   obtain rfl : k = l.length := by omega
   have hf := HFk.out
   rw [List.drop_length] at hf
   obtain ⟨rfl, rfl⟩ := Prod.mk.inj (Option.some.inj hf)
   clear hf HFk
   go_wp2
   go_ret
   exact ⟨rfl, HQ.out, HGk.out, HKk.out, HLk.out⟩
set_option maxHeartbeats 8000000 in
set_option maxRecDepth 100000 in
theorem ask_10 (K : Nat) (x0 x1 : ByteArray) (x2 : Int) (x3 : Bool) (g : Nat) (o : OpV) (ho : o.of_.length = 32) (A : Option Addr) (c : Nat) (l : List S91) (w : World) (r : Bool) (o' : OpV)
  (hg : w.heap[g]? = some (.cells (opA o) 33 (0, 0))) (hp : Kd.C k91 w A l.length l) (hc : l.length ≤ c) (hA : ∀ ad, A = some ad → ad.block ≠ g) (hll : l.length ≤ 1048576)
  (h : askG K true false l 1 o = some (r, o')) (hT : Tabs w) :
  Calls Tryd.prog 23 #[.agg #[.string x0, .string x1, .int .i64 x2, .bool x3, .bool true, .bool false], .pointer (some ⟨g, 0, none⟩), .slice A l.length c] w
   fun e w' => e = .returned (.bool r) ∧ o'.of_.length = 32 ∧ w'.heap[g]? = some (.cells (opA o') 33 (0, 0)) ∧ KeepBut w w' g none ∧ Below g w w' := by
 have HA := Lib.hid hA
 have HP := Lib.hid hp
 have HF := Lib.hid h
 have HG := Lib.hid hg
 have HOL := Lib.hid ho
 have HT := Lib.hid (show ∀ w', KeepBut w w' g none → Tabs w' from fun w' hk => hT.keep ho hg hk)
 have HGL := Lib.hid (show g < w.heap.size from blk_lt hg)
 clear hA hp h hg ho hT
 go_enter Tryd.func23, Tryd.ntmps23
 go_wp2_with fail
 have hb1 : Below w.heap.size w (w.alloc (.cells #[.string x0, .string x1, .int .i64 x2, .bool x3, .bool true, .bool false] 58)) := below_alloc (Below.refl _ _) _
 have HG1 := Lib.hid (blk_below HG.out hb1)
 have HX1 := Lib.hid (heap_alloc_new w (.cells #[.string x0, .string x1, .int .i64 x2, .bool x3, .bool true, .bool false] 58))
 have HK1 := Lib.hid (KeepBut.of_below hb1 g none)
 have HL1 := Lib.hid (show Below g w (w.alloc (.cells #[.string x0, .string x1, .int .i64 x2, .bool x3, .bool true, .bool false] 58)) from ⟨hb1.os, hb1.tape, hb1.output, hb1.size, fun i hi => hb1.block i (Nat.lt_trans hi HGL.out)⟩)
 clear hb1
 generalize w.alloc (.cells #[.string x0, .string x1, .int .i64 x2, .bool x3, .bool true, .bool false] 58) = w1 at HG1 HX1 HK1 HL1 ⊢
 clear HG
 go_loopw [7, 17] (fun mv i wr => ∃ (k : Nat) (q : OpV) (m : Int), k ≤ l.length ∧ -(k : Int) ≤ m ∧ m ≤ 2 ∧ mv = .int .i64 m ∧ i = .int .i64 k ∧ Hid (askG K true false (l.drop k) m q = some (r, o')) ∧ Hid (q.of_.length = 32) ∧ Hid (wr.heap[g]? = some (.cells (opA q) 33 (0, 0))) ∧ Hid (wr.heap[w.heap.size]? = some (.cells #[.string x0, .string x1, .int .i64 x2, .bool x3, .bool true, .bool false] 58 (0, 0))) ∧ Hid (KeepBut w wr g none) ∧ Hid (Below g w wr)) (fun _ i _ => l.length - (intOf i).toNat)
 case atStart => exact ⟨0, o, 1, by omega, by omega, by omega, rfl, rfl, HF, HOL, HG1, HX1, HK1, HL1⟩
 case round =>
  obtain ⟨k, q, m, hk, hm0, hm1, rfl, rfl, HFk, HQ, HGk, HXk, HKk, HLk⟩ := hrel
  clear HF HOL HG1 HX1 HK1 HL1
  by_cases hlt : k < l.length
  ·
   obtain ⟨ad, e0, y0, y1⟩ := at_T91 HP.out (k : Int) (by omega) (by omega)
   unfold rd_T91 at y0 y1
   rw [Int.toNat_natCast] at y0 y1
   have hne : ad.block ≠ g := HA.out ad e0
   replace y0 := keep_cell HKk.out y0 (by rw [add_block]; exact hne)
   replace y1 := keep_cell HKk.out y1 (by show (ad.add _).block ≠ g; rw [add_block]; exact hne)
   have hdl : l.drop k = l.getD k z91 :: l.drop (k + 1) := by rw [List.drop_eq_getElem_cons hlt, List.getD_eq_getElem?_getD, List.getElem?_eq_getElem hlt]; rfl
   have hf := HFk.out
   rw [hdl, askG_of] at hf
   generalize l.getD k z91 = p at *
   obtain ⟨n, v⟩ := p
   clear hdl HFk hne
   simp only at hf y0 y1
   cases e0
   have c4 : wr.cell? ⟨w.heap.size, 4, none⟩ = some (.bool true) := (blk_cell HXk.out 4).trans rfl
   have c5 : wr.cell? ⟨w.heap.size, 5, none⟩ = some (.bool false) := (blk_cell HXk.out 5).trans rfl
   have one2 : (#[.string n, .string v] : Array Value).all (·.oneCell') = true := by simp [Value.oneCell']
   go_wp2_with ((refine wpList_store_row rfl 91 _ _ rfl wr.heap.size #[.string n, .string v] rfl rfl 91 #[.string ⟨#[]⟩, .string ⟨#[]⟩] (heap_alloc_new wr _) size91 rfl one2 ?_); refine Hid.out ?_)
   refine Lib.hid ?_
   have f1 := setRow_heap (wr.alloc (.cells #[.string ⟨#[]⟩, .string ⟨#[]⟩] 91)) wr.heap.size _ #[.string n, .string v] 91 _ (heap_alloc_new wr _)
   have f2 := below_setRow (below_alloc (Below.refl wr.heap.size wr) (.cells #[.string ⟨#[]⟩, .string ⟨#[]⟩] 91)) (Nat.le_refl _) #[.string n, .string v]
   generalize (wr.alloc (.cells #[.string ⟨#[]⟩, .string ⟨#[]⟩] 91)).setRow wr.heap.size #[.string n, .string v] = wn at f1 f2 ⊢
   have z0 : wn.cell? ⟨wr.heap.size, 0, none⟩ = some (.string n) := (blk_cell f1 0).trans rfl
   have z1 : wn.cell? ⟨wr.heap.size, 1, none⟩ = some (.string v) := (blk_cell f1 1).trans rfl
   have HGn := Lib.hid (blk_below HGk.out f2)
   have HXn := Lib.hid (blk_below HXk.out f2)
   have HKn := Lib.hid (HKk.out.trans (KeepBut.of_below f2 g none) (.inl rfl))
   have HLn := Lib.hid (HLk.out.trans (lowB f2 (blk_lt HGk.out)))
   replace c4 := pw_cell_below f2 c4
   replace c5 := pw_cell_below f2 c5
   clear y0 y1 one2 f1 f2 HGk HXk HKk HLk
   generalize wr.heap.size = g9 at *
   by_cases cQ : n.toList = [113, 117, 111, 116, 97]
   ·
    rw [if_pos (And.intro trivial cQ)] at hf
    obtain rfl := toList_lit _ _ cQ
    obtain ⟨⟨n1, n2⟩, hM, hf⟩ := Option.bind_eq_some_iff.1 hf
    have HM := Lib.hid hM
    have HFn := Lib.hid hf
    clear hM hf cQ
    go_wp2_with fail
    refine (names_Number.calls K v n1 n2 _ HM.out).mono ?_
    rintro e w2 ⟨rfl, hb⟩
    obtain ⟨nd, rfl⟩ := hb
    have hb : Below wn.heap.size wn (wn.drewN nd) := pw_below_drewN (Below.refl _ _) nd
    generalize wn.drewN nd = w2 at hb ⊢
    have HK2 := Lib.hid (KeepBut.set_ (HKn.out.trans (KeepBut.of_below hb g none) (.inl rfl)) 34 (.int .i64 n1))
    have HL2 := Lib.hid ((HLn.out.trans (lowB hb (blk_lt HGn.out))).setCell (p := ⟨g, 34, none⟩) (Nat.le_refl g) (.int .i64 n1))
    have HX2 := Lib.hid (show (w2.setCell ⟨g, 34, none⟩ (.int .i64 n1)).heap[w.heap.size]? = some (.cells #[.string x0, .string x1, .int .i64 x2, .bool x3, .bool true, .bool false] 58 (0, 0)) from (setCell_far w2 g 34 _ _ (Nat.ne_of_gt HGL.out)).trans (blk_below HXn.out hb))
    have hz1 : w2.cell? ⟨g, 34, none⟩ = some (.int .i64 q.num) := (blk_cell (blk_below HGn.out hb) 34).trans (opA_34 HQ.out)
    have hfz := blk_frozen (blk_below HGn.out hb) 34
    have hz2 := pw_cell_below hb z1
    have HG2 := Lib.hid (blk_put (blk_below HGn.out hb) 34 (.int .i64 n1) (set_num HQ.out n1))
    clear HGn HXn HKn HLn HM hb z0 z1 HGL
    by_cases h0 : n2 = 0
    ·
     subst h0
     have HF2 := Lib.hid (show askG K true false (l.drop (k + 1)) (m - 1) { q with num := n1 } = some (r, o') from HFn.out)
     have hw := wrap_m (m - 1) (by omega) (by omega)
     clear HFn
     go_wp2
     go_roundw
     case rel => exact ⟨k + 1, _, m - 1, by omega, by omega, by omega, (by first | trivial | rfl | go_num), by go_num, HF2, Lib.hid HQ.out, HG2, HX2, HK2, HL2⟩
     case measure => simp [intOf]; omega
    ·
     have hf := HFn.out
     rw [if_neg (show ¬ (n1, n2).2 = 0 from h0)] at hf
     obtain ⟨rfl, rfl⟩ := Prod.mk.inj (Option.some.inj hf)
     have h1 : (n2 != 0) = true := by simpa using h0
     have h2 : (n2 == 0) = false := by simpa using h0
     have hw := wrap_m (m - 1) (by omega) (by omega)
     clear hf HFn
     go_wp2
     go_ret
     exact ⟨rfl, HQ.out, HG2.out, HK2.out, HL2.out⟩
   have qQ : (n.toList == [113, 117, 111, 116, 97]) = false := by simpa using cQ
   rw [if_neg (fun h => cQ h.2)] at hf
   rw [if_neg (by simp), if_neg (by simp), if_neg (by simp)] at hf
   obtain ⟨rfl, rfl⟩ := Prod.mk.inj (Option.some.inj hf)
   clear hf
   go_wp2
   go_ret
   exact ⟨rfl, HQ.out, HGn.out, HKn.out, HLn.out⟩
  ·
   obtain rfl : k = l.length := by omega
   have hf := HFk.out
   rw [List.drop_length] at hf
   obtain ⟨rfl, rfl⟩ := Prod.mk.inj (Option.some.inj hf)
   clear hf HFk
   go_wp2
   go_ret
   exact ⟨rfl, HQ.out, HGk.out, HKk.out, HLk.out⟩
set_option maxHeartbeats 8000000 in
set_option maxRecDepth 100000 in
theorem ask_01 (K : Nat) (x0 x1 : ByteArray) (x2 : Int) (x3 : Bool) (g : Nat) (o : OpV) (ho : o.of_.length = 32) (A : Option Addr) (c : Nat) (l : List S91) (w : World) (r : Bool) (o' : OpV)
  (hg : w.heap[g]? = some (.cells (opA o) 33 (0, 0))) (hp : Kd.C k91 w A l.length l) (hc : l.length ≤ c) (hA : ∀ ad, A = some ad → ad.block ≠ g) (hll : l.length ≤ 1048576)
  (h : askG K false true l 2 o = some (r, o')) (hT : Tabs w) :
  Calls Tryd.prog 23 #[.agg #[.string x0, .string x1, .int .i64 x2, .bool x3, .bool false, .bool true], .pointer (some ⟨g, 0, none⟩), .slice A l.length c] w
   fun e w' => e = .returned (.bool r) ∧ o'.of_.length = 32 ∧ w'.heap[g]? = some (.cells (opA o') 33 (0, 0)) ∧ KeepBut w w' g none ∧ Below g w w' := by
 have HA := Lib.hid hA
 have HP := Lib.hid hp
 have HF := Lib.hid h
 have HG := Lib.hid hg
 have HOL := Lib.hid ho
 have HT := Lib.hid (show ∀ w', KeepBut w w' g none → Tabs w' from fun w' hk => hT.keep ho hg hk)
 have HGL := Lib.hid (show g < w.heap.size from blk_lt hg)
 clear hA hp h hg ho hT
 go_enter Tryd.func23, Tryd.ntmps23
 go_wp2_with fail
 have hb1 : Below w.heap.size w (w.alloc (.cells #[.string x0, .string x1, .int .i64 x2, .bool x3, .bool false, .bool true] 58)) := below_alloc (Below.refl _ _) _
 have HG1 := Lib.hid (blk_below HG.out hb1)
 have HX1 := Lib.hid (heap_alloc_new w (.cells #[.string x0, .string x1, .int .i64 x2, .bool x3, .bool false, .bool true] 58))
 have HK1 := Lib.hid (KeepBut.of_below hb1 g none)
 have HL1 := Lib.hid (show Below g w (w.alloc (.cells #[.string x0, .string x1, .int .i64 x2, .bool x3, .bool false, .bool true] 58)) from ⟨hb1.os, hb1.tape, hb1.output, hb1.size, fun i hi => hb1.block i (Nat.lt_trans hi HGL.out)⟩)
 clear hb1
 generalize w.alloc (.cells #[.string x0, .string x1, .int .i64 x2, .bool x3, .bool false, .bool true] 58) = w1 at HG1 HX1 HK1 HL1 ⊢
 clear HG
 go_loopw [7, 17] (fun mv i wr => ∃ (k : Nat) (q : OpV) (m : Int), k ≤ l.length ∧ -(k : Int) ≤ m ∧ m ≤ 2 ∧ mv = .int .i64 m ∧ i = .int .i64 k ∧ Hid (askG K false true (l.drop k) m q = some (r, o')) ∧ Hid (q.of_.length = 32) ∧ Hid (wr.heap[g]? = some (.cells (opA q) 33 (0, 0))) ∧ Hid (wr.heap[w.heap.size]? = some (.cells #[.string x0, .string x1, .int .i64 x2, .bool x3, .bool false, .bool true] 58 (0, 0))) ∧ Hid (KeepBut w wr g none) ∧ Hid (Below g w wr)) (fun _ i _ => l.length - (intOf i).toNat)
 case atStart => exact ⟨0, o, 2, by omega, by omega, by omega, rfl, rfl, HF, HOL, HG1, HX1, HK1, HL1⟩
 case round =>
  obtain ⟨k, q, m, hk, hm0, hm1, rfl, rfl, HFk, HQ, HGk, HXk, HKk, HLk⟩ := hrel
  clear HF HOL HG1 HX1 HK1 HL1
  by_cases hlt : k < l.length
  ·
   obtain ⟨ad, e0, y0, y1⟩ := at_T91 HP.out (k : Int) (by omega) (by omega)
   unfold rd_T91 at y0 y1
   rw [Int.toNat_natCast] at y0 y1
   have hne : ad.block ≠ g := HA.out ad e0
   replace y0 := keep_cell HKk.out y0 (by rw [add_block]; exact hne)
   replace y1 := keep_cell HKk.out y1 (by show (ad.add _).block ≠ g; rw [add_block]; exact hne)
   have hdl : l.drop k = l.getD k z91 :: l.drop (k + 1) := by rw [List.drop_eq_getElem_cons hlt, List.getD_eq_getElem?_getD, List.getElem?_eq_getElem hlt]; rfl
   have hf := HFk.out
   rw [hdl, askG_of] at hf
   generalize l.getD k z91 = p at *
   obtain ⟨n, v⟩ := p
   clear hdl HFk hne
   simp only at hf y0 y1
   cases e0
   have c4 : wr.cell? ⟨w.heap.size, 4, none⟩ = some (.bool false) := (blk_cell HXk.out 4).trans rfl
   have c5 : wr.cell? ⟨w.heap.size, 5, none⟩ = some (.bool true) := (blk_cell HXk.out 5).trans rfl
   have one2 : (#[.string n, .string v] : Array Value).all (·.oneCell') = true := by simp [Value.oneCell']
   go_wp2_with ((refine wpList_store_row rfl 91 _ _ rfl wr.heap.size #[.string n, .string v] rfl rfl 91 #[.string ⟨#[]⟩, .string ⟨#[]⟩] (heap_alloc_new wr _) size91 rfl one2 ?_); refine Hid.out ?_)
   refine Lib.hid ?_
   have f1 := setRow_heap (wr.alloc (.cells #[.string ⟨#[]⟩, .string ⟨#[]⟩] 91)) wr.heap.size _ #[.string n, .string v] 91 _ (heap_alloc_new wr _)
   have f2 := below_setRow (below_alloc (Below.refl wr.heap.size wr) (.cells #[.string ⟨#[]⟩, .string ⟨#[]⟩] 91)) (Nat.le_refl _) #[.string n, .string v]
   generalize (wr.alloc (.cells #[.string ⟨#[]⟩, .string ⟨#[]⟩] 91)).setRow wr.heap.size #[.string n, .string v] = wn at f1 f2 ⊢
   have z0 : wn.cell? ⟨wr.heap.size, 0, none⟩ = some (.string n) := (blk_cell f1 0).trans rfl
   have z1 : wn.cell? ⟨wr.heap.size, 1, none⟩ = some (.string v) := (blk_cell f1 1).trans rfl
   have HGn := Lib.hid (blk_below HGk.out f2)
   have HXn := Lib.hid (blk_below HXk.out f2)
   have HKn := Lib.hid (HKk.out.trans (KeepBut.of_below f2 g none) (.inl rfl))
   have HLn := Lib.hid (HLk.out.trans (lowB f2 (blk_lt HGk.out)))
   replace c4 := pw_cell_below f2 c4
   replace c5 := pw_cell_below f2 c5
   clear y0 y1 one2 f1 f2 HGk HXk HKk HLk
   generalize wr.heap.size = g9 at *
   rw [if_neg (by simp)] at hf
   by_cases cR : n.toList = [114, 105, 103, 104, 116, 115]
   ·
    rw [if_pos (And.intro trivial cR)] at hf
    obtain rfl := toList_lit _ _ cR
    obtain ⟨⟨n1, n2⟩, hM, hf⟩ := Option.bind_eq_some_iff.1 hf
    have HM := Lib.hid hM
    have HFn := Lib.hid hf
    clear hM hf cR
    go_wp2_with fail
    refine (rights_Parse.calls K v n1 n2 _ HM.out (HT.out _ HKn.out)).mono ?_
    rintro e w2 ⟨rfl, hb⟩
    have HK2 := Lib.hid (KeepBut.set_ (HKn.out.trans (KeepBut.of_below hb g none) (.inl rfl)) 36 (.int .u8 n1))
    have HL2 := Lib.hid ((HLn.out.trans (lowB hb (blk_lt HGn.out))).setCell (p := ⟨g, 36, none⟩) (Nat.le_refl g) (.int .u8 n1))
    have HX2 := Lib.hid (show (w2.setCell ⟨g, 36, none⟩ (.int .u8 n1)).heap[w.heap.size]? = some (.cells #[.string x0, .string x1, .int .i64 x2, .bool x3, .bool false, .bool true] 58 (0, 0)) from (setCell_far w2 g 36 _ _ (Nat.ne_of_gt HGL.out)).trans (blk_below HXn.out hb))
    have hz1 : w2.cell? ⟨g, 36, none⟩ = some (.int .u8 q.rig) := (blk_cell (blk_below HGn.out hb) 36).trans (opA_36 HQ.out)
    have hfz := blk_frozen (blk_below HGn.out hb) 36
    have hz2 := pw_cell_below hb z1
    have HG2 := Lib.hid (blk_put (blk_below HGn.out hb) 36 (.int .u8 n1) (set_rig HQ.out n1))
    clear HGn HXn HKn HLn HM hb z0 z1 HGL
    by_cases h0 : n2 = 0
    ·
     subst h0
     have HF2 := Lib.hid (show askG K false true (l.drop (k + 1)) (m - 1) { q with rig := n1 } = some (r, o') from HFn.out)
     have hw := wrap_m (m - 1) (by omega) (by omega)
     clear HFn
     go_wp2
     go_roundw
     case rel => exact ⟨k + 1, _, m - 1, by omega, by omega, by omega, (by first | trivial | rfl | go_num), by go_num, HF2, Lib.hid HQ.out, HG2, HX2, HK2, HL2⟩
     case measure => simp [intOf]; omega
    ·
     have hf := HFn.out
     rw [if_neg (show ¬ (n1, n2).2 = 0 from h0)] at hf
     obtain ⟨rfl, rfl⟩ := Prod.mk.inj (Option.some.inj hf)
     have h1 : (n2 != 0) = true := by simpa using h0
     have h2 : (n2 == 0) = false := by simpa using h0
     have hw := wrap_m (m - 1) (by omega) (by omega)
     clear hf HFn
     go_wp2
     go_ret
     exact ⟨rfl, HQ.out, HG2.out, HK2.out, HL2.out⟩
   have qR : (n.toList == [114, 105, 103, 104, 116, 115]) = false := by simpa using cR
   rw [if_neg (fun h => cR h.2)] at hf
   by_cases cU : n.toList = [117, 110, 116, 105, 108]
   ·
    rw [if_pos (And.intro trivial cU)] at hf
    obtain rfl := toList_lit _ _ cU
    obtain ⟨⟨n1, n2⟩, hM, hf⟩ := Option.bind_eq_some_iff.1 hf
    have HM := Lib.hid hM
    have HFn := Lib.hid hf
    clear hM hf cU
    go_wp2_with fail
    refine (names_Number.calls K v n1 n2 _ HM.out).mono ?_
    rintro e w2 ⟨rfl, hb⟩
    obtain ⟨nd, rfl⟩ := hb
    have hb : Below wn.heap.size wn (wn.drewN nd) := pw_below_drewN (Below.refl _ _) nd
    generalize wn.drewN nd = w2 at hb ⊢
    have HK2 := Lib.hid (KeepBut.set_ (HKn.out.trans (KeepBut.of_below hb g none) (.inl rfl)) 35 (.int .i64 n1))
    have HL2 := Lib.hid ((HLn.out.trans (lowB hb (blk_lt HGn.out))).setCell (p := ⟨g, 35, none⟩) (Nat.le_refl g) (.int .i64 n1))
    have HX2 := Lib.hid (show (w2.setCell ⟨g, 35, none⟩ (.int .i64 n1)).heap[w.heap.size]? = some (.cells #[.string x0, .string x1, .int .i64 x2, .bool x3, .bool false, .bool true] 58 (0, 0)) from (setCell_far w2 g 35 _ _ (Nat.ne_of_gt HGL.out)).trans (blk_below HXn.out hb))
    have hz1 : w2.cell? ⟨g, 35, none⟩ = some (.int .i64 q.unt) := (blk_cell (blk_below HGn.out hb) 35).trans (opA_35 HQ.out)
    have hfz := blk_frozen (blk_below HGn.out hb) 35
    have hz2 := pw_cell_below hb z1
    have HG2 := Lib.hid (blk_put (blk_below HGn.out hb) 35 (.int .i64 n1) (set_unt HQ.out n1))
    clear HGn HXn HKn HLn HM hb z0 z1 HGL
    by_cases h0 : n2 = 0
    ·
     subst h0
     have HF2 := Lib.hid (show askG K false true (l.drop (k + 1)) (m - 1) { q with unt := n1 } = some (r, o') from HFn.out)
     have hw := wrap_m (m - 1) (by omega) (by omega)
     clear HFn
     go_wp2
     go_roundw
     case rel => exact ⟨k + 1, _, m - 1, by omega, by omega, by omega, (by first | trivial | rfl | go_num), by go_num, HF2, Lib.hid HQ.out, HG2, HX2, HK2, HL2⟩
     case measure => simp [intOf]; omega
    ·
     have hf := HFn.out
     rw [if_neg (show ¬ (n1, n2).2 = 0 from h0)] at hf
     obtain ⟨rfl, rfl⟩ := Prod.mk.inj (Option.some.inj hf)
     have h1 : (n2 != 0) = true := by simpa using h0
     have h2 : (n2 == 0) = false := by simpa using h0
     have hw := wrap_m (m - 1) (by omega) (by omega)
     clear hf HFn
     go_wp2
     go_ret
     exact ⟨rfl, HQ.out, HG2.out, HK2.out, HL2.out⟩
   have qU : (n.toList == [117, 110, 116, 105, 108]) = false := by simpa using cU
   rw [if_neg (fun h => cU h.2)] at hf
   by_cases cT : n.toList = [116, 101, 110, 97, 110, 116]
   ·
    rw [if_pos (And.intro trivial cT)] at hf
    obtain rfl := toList_lit _ _ cT
    obtain ⟨b, hM, hf⟩ := Option.bind_eq_some_iff.1 hf
    have HM := Lib.hid hM
    have HFn := Lib.hid hf
    clear hM hf cT
    go_wp2_with fail
    refine (names_May.calls K v b _ HM.out).mono ?_
    rintro e w2 ⟨rfl, hb⟩
    obtain ⟨nd, rfl⟩ := hb
    have hb : Below wn.heap.size wn (wn.drewN nd) := pw_below_drewN (Below.refl _ _) nd
    generalize wn.drewN nd = w2 at hb ⊢
    have z1 := pw_cell_below hb z1
    have HG1 := Lib.hid (blk_below HGn.out hb)
    have HX1 := Lib.hid (blk_below HXn.out hb)
    have HK1 := Lib.hid (HKn.out.trans (KeepBut.of_below hb g none) (.inl rfl))
    have HL1 := Lib.hid (HLn.out.trans (lowB hb (blk_lt HGn.out)))
    have hz1 : w2.cell? ⟨g, 1, none⟩ = some (.string q.ten) := (blk_cell HG1.out 1).trans (opA_1 HQ.out)
    have hfz := blk_frozen HG1.out 1
    clear HGn HXn HKn HLn HM hb z0
    cases b
    ·
     have hf := HFn.out
     rw [if_neg (by decide)] at hf
     obtain ⟨rfl, rfl⟩ := Prod.mk.inj (Option.some.inj hf)
     clear hf HFn
     go_wp2
     go_ret
     exact ⟨rfl, HQ.out, HG1.out, HK1.out, HL1.out⟩
    ·
     have HF2 := Lib.hid (show askG K false true (l.drop (k + 1)) m { q with ten := v } = some (r, o') from HFn.out)
     have HG2 := Lib.hid (blk_put HG1.out 1 (.string v) (set_ten HQ.out v))
     have HK2 := Lib.hid (KeepBut.set_ HK1.out 1 (.string v))
     have HL2 := Lib.hid (HL1.out.setCell (p := ⟨g, 1, none⟩) (Nat.le_refl g) (.string v))
     have HX2 := Lib.hid (show (w2.setCell ⟨g, 1, none⟩ (.string v)).heap[w.heap.size]? = some (.cells #[.string x0, .string x1, .int .i64 x2, .bool x3, .bool false, .bool true] 58 (0, 0)) from (setCell_far w2 g 1 _ _ (Nat.ne_of_gt HGL.out)).trans HX1.out)
     clear HFn HG1 HX1 HK1 HL1
     go_wp2
     go_roundw
     case rel => exact ⟨k + 1, _, m, by omega, by omega, by omega, (by first | trivial | rfl | go_num), by go_num, HF2, Lib.hid HQ.out, HG2, HX2, HK2, HL2⟩
     case measure => simp [intOf]; omega
   have qT : (n.toList == [116, 101, 110, 97, 110, 116]) = false := by simpa using cT
   rw [if_neg (fun h => cT h.2)] at hf
   obtain ⟨rfl, rfl⟩ := Prod.mk.inj (Option.some.inj hf)
   clear hf
   go_wp2
   go_ret
   exact ⟨rfl, HQ.out, HGn.out, HKn.out, HLn.out⟩
  ·
   obtain rfl : k = l.length := by omega
   have hf := HFk.out
   rw [List.drop_length] at hf
   obtain ⟨rfl, rfl⟩ := Prod.mk.inj (Option.some.inj hf)
   clear hf HFk
   go_wp2
   go_ret
   exact ⟨rfl, HQ.out, HGk.out, HKk.out, HLk.out⟩
theorem ask_all (K : Nat) (x : S58) (g : Nat) (o : OpV) (ho : o.of_.length = 32) (A : Option Addr) (c : Nat) (l : List S91) (w : World) (r : Bool) (o' : OpV)
  (hg : w.heap[g]? = some (.cells (opA o) 33 (0, 0))) (hp : Kd.C k91 w A l.length l) (hc : l.length ≤ c) (hA : ∀ ad, A = some ad → ad.block ≠ g) (h : askR K x.f4 x.f5 l o = some (r, o')) (hT : Tabs w) :
  Calls Tryd.prog 23 #[.agg #[.string x.f0, .string x.f1, .int .i64 x.f2, .bool x.f3, .bool x.f4, .bool x.f5], .pointer (some ⟨g, 0, none⟩), .slice A l.length c] w
   fun e w' => e = .returned (.bool r) ∧ o'.of_.length = 32 ∧ w'.heap[g]? = some (.cells (opA o') 33 (0, 0)) ∧ KeepBut w w' g none ∧ Below g w w' := by
 obtain ⟨x0, x1, x2, x3, x4, x5⟩ := x
 unfold askR at h
 split at h
 ·
  cases h
 ·
  rename_i hn
  have hll : l.length ≤ 1048576 := Decidable.byContradiction fun h => hn (.inr h)
  cases x4 <;> cases x5
  ·
   exact ask_00 K x0 x1 x2 x3 g o ho A c l w r o' hg hp hc hA hll h hT
  ·
   exact ask_01 K x0 x1 x2 x3 g o ho A c l w r o' hg hp hc hA hll h hT
  ·
   exact ask_10 K x0 x1 x2 x3 g o ho A c l w r o' hg hp hc hA hll h hT
  ·
   exact absurd (.inl ⟨rfl, rfl⟩) hn
end Go.Proofs.YtnfimhdcpmakpaaDoor.S
