/-
  names.ID and the reference's ID: a name of 64 digits, as an array of 32 bytes.
-/
import Derived.Test.YtkpgefmmlcpnlaaDoorUnhex
import Derived.Test.YtkpgefmmlcpnlaaDoorTwin
import Derived.Test.YtkpgefmmlcpnlaaDoorSx
namespace Go.Proofs.YtkpgefmmlcpnlaaDoor.S
open Go.RowKit Go.Proofs.YtkpgefmmlcpnlaaDoorW.PrintWords Go.Proofs.YtkpgefmmlcpnlaaDoorW.PrintLast Go.Proofs.YtkpgefmmlcpnlaaDoorW.PrintMore
set_option linter.unusedVariables false
set_option linter.unusedSimpArgs false

/-- A whole array loaded out of a longer row. -/
theorem run_loadVar_at {P : Program} (w : World) (ad : Addr) (ty : TypeId) (cs : Array Value) (d : TypeDesc) (hc : ∀ j v, cs.toList[j]? = some v → w.cell? (ad.add j) = some v)
    (hu : P.underlying ty = some d) (hd : (match d with | .struct _ | .array _ _ => true | _ => false) = true) (hi : (P.info? ty).map (·.size) = some cs.size) :
    (loadVar ty ad).run P w = .ok (.agg cs) w := by
  have hl : (loadCells ad cs.toList.length).run P w = .ok cs.toList.toArray w := run_loadCells_list (P := P) w ad cs.toList hc
  cases hq : P.info? ty with
  | none => simp [hq] at hi
  | some i =>
    have hs : i.size = cs.size := by simpa [hq] using hi
    have hagg : (isAgg ty).run P w = .ok true w := by
      unfold isAgg
      rw [Sem.run_bind, run_underlying hu w]
      cases d <;> simp_all
    simp only [Array.length_toList, Array.toArray_toList] at hl
    simp [loadVar, Sem.run_bind, hagg, sizeOf, typeInfo, hq, hs, hl]
theorem wpList_load_at {P : Program} {ops : Array Oper} {rest : List Oper} {o : Oper} {a : Act} {w : World} {Q : Exit → Act → World → Prop} (hgd : o.guard = none) (ty : TypeId) (x : Operand) (ho : o.op = .load ty x)
    (ad : Addr) (hx : a.eval x = .pointer (some ad)) (cs : Array Value) (d : TypeDesc) (hc : ∀ j v, cs.toList[j]? = some v → w.cell? (ad.add j) = some v)
    (hu : P.underlying ty = some d) (hd : (match d with | .struct _ | .array _ _ => true | _ => false) = true) (hi : (P.info? ty).map (·.size) = some cs.size)
    (h : wpList P ops Q rest (a.put o.dst (.agg cs)) w) : wpList P ops Q (o :: rest) a w :=
  wpList_plain hgd fun K hK => by
    unfold Oper.wp execOp
    simp only [ho, hx, Instr.loadAt, Instr.sureAddr, Sem.run_bind, Sem.run_pure, Result.andThen_ok, run_loadVar_at w ad ty cs d hc hu hd hi]
    exact hK _ _ h
def zero32 : List Int := List.replicate 32 0
/-- What ID answers. -/
def idOf (u : List Int × Int) : List Int × Int := if u.2 = 0 then (if u.1.length = 32 then (u.1, 0) else (zero32, 9)) else (zero32, u.2)
theorem zero_cells : (nums .u8 zero32).toArray = #[.int .u8 0, .int .u8 0, .int .u8 0, .int .u8 0, .int .u8 0, .int .u8 0, .int .u8 0, .int .u8 0, .int .u8 0, .int .u8 0, .int .u8 0, .int .u8 0, .int .u8 0, .int .u8 0, .int .u8 0, .int .u8 0, .int .u8 0, .int .u8 0, .int .u8 0, .int .u8 0, .int .u8 0, .int .u8 0, .int .u8 0, .int .u8 0, .int .u8 0, .int .u8 0, .int .u8 0, .int .u8 0, .int .u8 0, .int .u8 0, .int .u8 0, .int .u8 0] := rfl
theorem one_nums (xs : List Int) : (nums .u8 xs).toArray.all (·.oneCell') = true := by
  simp [nums, Value.oneCell']
theorem zero_one : (#[.int .u8 0, .int .u8 0, .int .u8 0, .int .u8 0, .int .u8 0, .int .u8 0, .int .u8 0, .int .u8 0, .int .u8 0, .int .u8 0, .int .u8 0, .int .u8 0, .int .u8 0, .int .u8 0, .int .u8 0, .int .u8 0, .int .u8 0, .int .u8 0, .int .u8 0, .int .u8 0, .int .u8 0, .int .u8 0, .int .u8 0, .int .u8 0, .int .u8 0, .int .u8 0, .int .u8 0, .int .u8 0, .int .u8 0, .int .u8 0, .int .u8 0, .int .u8 0] : Array Value).all (·.oneCell') = true := one_nums zero32
theorem info_id : (Tryd.prog.info? 37).map (·.size) = some 32 := by kernel_rfl
set_option maxHeartbeats 1000000 in
set_option maxRecDepth 100000 in
theorem id_any (s : ByteArray) (w : World) (hlen : s.size ≤ 1048576) :
    Calls Tryd.prog 20 #[.string s] w fun e w' => e = .returned (.tuple #[.agg (nums .u8 (idOf (unh s)).1).toArray, .int .i64 (idOf (unh s)).2]) ∧ Below w.heap.size w w' := by
  have cU : Hid (∀ w, Calls Tryd.prog 18 #[.string s] w fun e w' => ∃ v0_ : Value, e = .returned (.tuple #[v0_, .int .i64 (unh s).2]) ∧ Kd.R (Kd.int .u8) 5 w' w.heap.size (fun _ => True) v0_ (unh s).1 ∧ Below w.heap.size w w') :=
    Lib.hid fun w => xUnhex.calls s _ _ w (by unfold xUnhex.f; rw [if_pos hlen])
  generalize unh s = u at cU ⊢
  obtain ⟨l, c⟩ := u
  by_cases hc : c = 0
  · subst hc
    by_cases hl : l.length = 32
    · have e : idOf (l, 0) = (l, 0) := by unfold idOf; rw [if_pos rfl, if_pos hl]
      rw [e]
      clear e
      have HL := Lib.hid hl
      clear hl
      have o1 := one_nums l
      have o2 : (Tryd.prog.info? 37).map (·.size) = some ((nums .u8 l).toArray.size) := by rw [info_id]; simp [nums, HL.out]
      have o3 : (#[.int .u8 0, .int .u8 0, .int .u8 0, .int .u8 0, .int .u8 0, .int .u8 0, .int .u8 0, .int .u8 0, .int .u8 0, .int .u8 0, .int .u8 0, .int .u8 0, .int .u8 0, .int .u8 0, .int .u8 0, .int .u8 0, .int .u8 0, .int .u8 0, .int .u8 0, .int .u8 0, .int .u8 0, .int .u8 0, .int .u8 0, .int .u8 0, .int .u8 0, .int .u8 0, .int .u8 0, .int .u8 0, .int .u8 0, .int .u8 0, .int .u8 0, .int .u8 0] : Array Value).size = (nums .u8 l).toArray.size := by simp [nums, HL.out]
      have O1 := Lib.hid o1
      have O2 := Lib.hid o2
      have O3 := Lib.hid o3
      clear o1 o2 o3
      go_enter Tryd.func20, Tryd.ntmps20
      go_wp2_with fail
      refine (cU.out _).mono ?_
      rintro e w2 ⟨v, rfl, hR, hb⟩
      have hz : w2.heap[w.heap.size]? = some (.cells #[.int .u8 0, .int .u8 0, .int .u8 0, .int .u8 0, .int .u8 0, .int .u8 0, .int .u8 0, .int .u8 0, .int .u8 0, .int .u8 0, .int .u8 0, .int .u8 0, .int .u8 0, .int .u8 0, .int .u8 0, .int .u8 0, .int .u8 0, .int .u8 0, .int .u8 0, .int .u8 0, .int .u8 0, .int .u8 0, .int .u8 0, .int .u8 0, .int .u8 0, .int .u8 0, .int .u8 0, .int .u8 0, .int .u8 0, .int .u8 0, .int .u8 0, .int .u8 0] 37 (0, 0)) := (hb.block w.heap.size (by simp)).trans (heap_alloc_new w _)
      have hb2 : Below w.heap.size w w2 := bthen (below_alloc (Below.refl _ _) _) hb
      have HZ := Lib.hid hz
      obtain ⟨A, cp, rfl, hcp, hC⟩ := Kd.R_reads hR
      have hC := reads_of_C hC
      rw [HL.out] at hC hcp
      obtain ⟨ad, rfl, hcell⟩ := hC.2.2 (by omega)
      have hcell2 : ∀ j v, (nums .u8 l).toArray.toList[j]? = some v → w2.cell? (ad.add j) = some v := by
        intro j v hj
        have hjl : j < l.length := by
          rcases Nat.lt_or_ge j l.length with h' | h'
          · exact h'
          · rw [List.getElem?_eq_none (by simpa [nums] using h')] at hj; cases hj
        have h1 := hcell j (by rw [← HL.out]; exact hjl)
        rw [List.getD_eq_getElem?_getD, List.getElem?_eq_getElem hjl] at h1
        have h2 : v = .int .u8 l[j] := by simpa [nums, hjl] using hj.symm
        rw [h2]; exact h1
      have HC := Lib.hid hcell2
      rw [HL.out]
      have hAA : ∀ W, (Instr.arrayAt 37 (.slice (some ad) 32 cp)).run Tryd.prog W = .ok (.pointer (some ad)) W := fun W => by kernel_rfl
      clear hR hb cU hz hC hcell hcell2
      go_wp2_with (first | ((refine wpList_load_at rfl 37 _ rfl ad rfl (nums .u8 l).toArray _ HC.out Tryd.underlying37 rfl O2.out ?_)) | ((refine wpList_store_row rfl 37 _ _ rfl w.heap.size (nums .u8 l).toArray rfl rfl 37 #[.int .u8 0, .int .u8 0, .int .u8 0, .int .u8 0, .int .u8 0, .int .u8 0, .int .u8 0, .int .u8 0, .int .u8 0, .int .u8 0, .int .u8 0, .int .u8 0, .int .u8 0, .int .u8 0, .int .u8 0, .int .u8 0, .int .u8 0, .int .u8 0, .int .u8 0, .int .u8 0, .int .u8 0, .int .u8 0, .int .u8 0, .int .u8 0, .int .u8 0, .int .u8 0, .int .u8 0, .int .u8 0, .int .u8 0, .int .u8 0, .int .u8 0, .int .u8 0] HZ.out O2.out O3.out O1.out ?_); refine Hid.out ?_))
      refine Lib.hid ?_
      have f1 := setRow_heap w2 w.heap.size _ (nums .u8 l).toArray 37 _ HZ.out
      have f2 := below_setRow hb2 (Nat.le_refl _) (nums .u8 l).toArray
      have F1 := Lib.hid f1
      clear HZ f1 hb2
      generalize w2.setRow w.heap.size (nums .u8 l).toArray = w3 at F1 f2
      go_wp2
      refine bodyPost_ret (v := .tuple #[.agg (nums .u8 l).toArray, .int .i64 0]) (results_ct (p := 2) (u := 3) rfl _ _ w.heap.size 37 (nums .u8 l).toArray (0, 0) _ rfl F1.out Tryd.underlying37 rfl O2.out) rfl ⟨rfl, f2⟩
    · have e : idOf (l, 0) = (zero32, 9) := by unfold idOf; rw [if_pos rfl, if_neg hl]
      rw [e]
      clear e
      have hl2 : ((l.length : Int) != 32) = true := by simpa using (by omega : ¬ (l.length : Int) = 32)
      clear hl
      go_enter Tryd.func20, Tryd.ntmps20
      go_wp2_with fail
      refine (cU.out _).mono ?_
      rintro e w2 ⟨v, rfl, hR, hb⟩
      have hz : w2.heap[w.heap.size]? = some (.cells #[.int .u8 0, .int .u8 0, .int .u8 0, .int .u8 0, .int .u8 0, .int .u8 0, .int .u8 0, .int .u8 0, .int .u8 0, .int .u8 0, .int .u8 0, .int .u8 0, .int .u8 0, .int .u8 0, .int .u8 0, .int .u8 0, .int .u8 0, .int .u8 0, .int .u8 0, .int .u8 0, .int .u8 0, .int .u8 0, .int .u8 0, .int .u8 0, .int .u8 0, .int .u8 0, .int .u8 0, .int .u8 0, .int .u8 0, .int .u8 0, .int .u8 0, .int .u8 0] 37 (0, 0)) := (hb.block w.heap.size (by simp)).trans (heap_alloc_new w _)
      have hb2 : Below w.heap.size w w2 := bthen (below_alloc (Below.refl _ _) _) hb
      have HZ := Lib.hid hz
      obtain ⟨A, cp, rfl, hcp, hC⟩ := Kd.R_reads hR
      clear hR hb cU hz hC
      go_wp2_with ((refine wpList_store_row rfl 37 _ _ rfl w.heap.size #[.int .u8 0, .int .u8 0, .int .u8 0, .int .u8 0, .int .u8 0, .int .u8 0, .int .u8 0, .int .u8 0, .int .u8 0, .int .u8 0, .int .u8 0, .int .u8 0, .int .u8 0, .int .u8 0, .int .u8 0, .int .u8 0, .int .u8 0, .int .u8 0, .int .u8 0, .int .u8 0, .int .u8 0, .int .u8 0, .int .u8 0, .int .u8 0, .int .u8 0, .int .u8 0, .int .u8 0, .int .u8 0, .int .u8 0, .int .u8 0, .int .u8 0, .int .u8 0] rfl rfl 37 #[.int .u8 0, .int .u8 0, .int .u8 0, .int .u8 0, .int .u8 0, .int .u8 0, .int .u8 0, .int .u8 0, .int .u8 0, .int .u8 0, .int .u8 0, .int .u8 0, .int .u8 0, .int .u8 0, .int .u8 0, .int .u8 0, .int .u8 0, .int .u8 0, .int .u8 0, .int .u8 0, .int .u8 0, .int .u8 0, .int .u8 0, .int .u8 0, .int .u8 0, .int .u8 0, .int .u8 0, .int .u8 0, .int .u8 0, .int .u8 0, .int .u8 0, .int .u8 0] HZ.out info_id rfl zero_one ?_); refine Hid.out ?_)
      refine Lib.hid ?_
      have f1 := setRow_heap w2 w.heap.size _ #[.int .u8 0, .int .u8 0, .int .u8 0, .int .u8 0, .int .u8 0, .int .u8 0, .int .u8 0, .int .u8 0, .int .u8 0, .int .u8 0, .int .u8 0, .int .u8 0, .int .u8 0, .int .u8 0, .int .u8 0, .int .u8 0, .int .u8 0, .int .u8 0, .int .u8 0, .int .u8 0, .int .u8 0, .int .u8 0, .int .u8 0, .int .u8 0, .int .u8 0, .int .u8 0, .int .u8 0, .int .u8 0, .int .u8 0, .int .u8 0, .int .u8 0, .int .u8 0] 37 _ HZ.out
      have f2 := below_setRow hb2 (Nat.le_refl _) #[.int .u8 0, .int .u8 0, .int .u8 0, .int .u8 0, .int .u8 0, .int .u8 0, .int .u8 0, .int .u8 0, .int .u8 0, .int .u8 0, .int .u8 0, .int .u8 0, .int .u8 0, .int .u8 0, .int .u8 0, .int .u8 0, .int .u8 0, .int .u8 0, .int .u8 0, .int .u8 0, .int .u8 0, .int .u8 0, .int .u8 0, .int .u8 0, .int .u8 0, .int .u8 0, .int .u8 0, .int .u8 0, .int .u8 0, .int .u8 0, .int .u8 0, .int .u8 0]
      have F1 := Lib.hid f1
      clear HZ f1 hb2
      generalize w2.setRow w.heap.size #[.int .u8 0, .int .u8 0, .int .u8 0, .int .u8 0, .int .u8 0, .int .u8 0, .int .u8 0, .int .u8 0, .int .u8 0, .int .u8 0, .int .u8 0, .int .u8 0, .int .u8 0, .int .u8 0, .int .u8 0, .int .u8 0, .int .u8 0, .int .u8 0, .int .u8 0, .int .u8 0, .int .u8 0, .int .u8 0, .int .u8 0, .int .u8 0, .int .u8 0, .int .u8 0, .int .u8 0, .int .u8 0, .int .u8 0, .int .u8 0, .int .u8 0, .int .u8 0] = w3 at F1 f2
      go_wp2
      refine bodyPost_ret (v := .tuple #[.agg #[.int .u8 0, .int .u8 0, .int .u8 0, .int .u8 0, .int .u8 0, .int .u8 0, .int .u8 0, .int .u8 0, .int .u8 0, .int .u8 0, .int .u8 0, .int .u8 0, .int .u8 0, .int .u8 0, .int .u8 0, .int .u8 0, .int .u8 0, .int .u8 0, .int .u8 0, .int .u8 0, .int .u8 0, .int .u8 0, .int .u8 0, .int .u8 0, .int .u8 0, .int .u8 0, .int .u8 0, .int .u8 0, .int .u8 0, .int .u8 0, .int .u8 0, .int .u8 0], .int .i64 9]) (results_ct (p := 2) (u := 3) rfl _ _ w.heap.size 37 #[.int .u8 0, .int .u8 0, .int .u8 0, .int .u8 0, .int .u8 0, .int .u8 0, .int .u8 0, .int .u8 0, .int .u8 0, .int .u8 0, .int .u8 0, .int .u8 0, .int .u8 0, .int .u8 0, .int .u8 0, .int .u8 0, .int .u8 0, .int .u8 0, .int .u8 0, .int .u8 0, .int .u8 0, .int .u8 0, .int .u8 0, .int .u8 0, .int .u8 0, .int .u8 0, .int .u8 0, .int .u8 0, .int .u8 0, .int .u8 0, .int .u8 0, .int .u8 0] (0, 0) _ rfl F1.out Tryd.underlying37 rfl info_id) rfl ⟨rfl, f2⟩
  · have e : idOf (l, c) = (zero32, c) := by unfold idOf; rw [if_neg hc]
    rw [e]
    have hc1 : (c != 0) = true := by simpa using hc
    clear e
    go_enter Tryd.func20, Tryd.ntmps20
    go_wp2_with fail
    refine (cU.out _).mono ?_
    rintro e w2 ⟨v, rfl, hR, hb⟩
    have hz : w2.heap[w.heap.size]? = some (.cells #[.int .u8 0, .int .u8 0, .int .u8 0, .int .u8 0, .int .u8 0, .int .u8 0, .int .u8 0, .int .u8 0, .int .u8 0, .int .u8 0, .int .u8 0, .int .u8 0, .int .u8 0, .int .u8 0, .int .u8 0, .int .u8 0, .int .u8 0, .int .u8 0, .int .u8 0, .int .u8 0, .int .u8 0, .int .u8 0, .int .u8 0, .int .u8 0, .int .u8 0, .int .u8 0, .int .u8 0, .int .u8 0, .int .u8 0, .int .u8 0, .int .u8 0, .int .u8 0] 37 (0, 0)) := (hb.block w.heap.size (by simp)).trans (heap_alloc_new w _)
    have hb2 : Below w.heap.size w w2 := bthen (below_alloc (Below.refl _ _) _) hb
    have HZ := Lib.hid hz
    clear hR hb cU hz
    go_wp2_with ((refine wpList_store_row rfl 37 _ _ rfl w.heap.size #[.int .u8 0, .int .u8 0, .int .u8 0, .int .u8 0, .int .u8 0, .int .u8 0, .int .u8 0, .int .u8 0, .int .u8 0, .int .u8 0, .int .u8 0, .int .u8 0, .int .u8 0, .int .u8 0, .int .u8 0, .int .u8 0, .int .u8 0, .int .u8 0, .int .u8 0, .int .u8 0, .int .u8 0, .int .u8 0, .int .u8 0, .int .u8 0, .int .u8 0, .int .u8 0, .int .u8 0, .int .u8 0, .int .u8 0, .int .u8 0, .int .u8 0, .int .u8 0] rfl rfl 37 #[.int .u8 0, .int .u8 0, .int .u8 0, .int .u8 0, .int .u8 0, .int .u8 0, .int .u8 0, .int .u8 0, .int .u8 0, .int .u8 0, .int .u8 0, .int .u8 0, .int .u8 0, .int .u8 0, .int .u8 0, .int .u8 0, .int .u8 0, .int .u8 0, .int .u8 0, .int .u8 0, .int .u8 0, .int .u8 0, .int .u8 0, .int .u8 0, .int .u8 0, .int .u8 0, .int .u8 0, .int .u8 0, .int .u8 0, .int .u8 0, .int .u8 0, .int .u8 0] HZ.out info_id rfl zero_one ?_); refine Hid.out ?_)
    refine Lib.hid ?_
    have f1 := setRow_heap w2 w.heap.size _ #[.int .u8 0, .int .u8 0, .int .u8 0, .int .u8 0, .int .u8 0, .int .u8 0, .int .u8 0, .int .u8 0, .int .u8 0, .int .u8 0, .int .u8 0, .int .u8 0, .int .u8 0, .int .u8 0, .int .u8 0, .int .u8 0, .int .u8 0, .int .u8 0, .int .u8 0, .int .u8 0, .int .u8 0, .int .u8 0, .int .u8 0, .int .u8 0, .int .u8 0, .int .u8 0, .int .u8 0, .int .u8 0, .int .u8 0, .int .u8 0, .int .u8 0, .int .u8 0] 37 _ HZ.out
    have f2 := below_setRow hb2 (Nat.le_refl _) #[.int .u8 0, .int .u8 0, .int .u8 0, .int .u8 0, .int .u8 0, .int .u8 0, .int .u8 0, .int .u8 0, .int .u8 0, .int .u8 0, .int .u8 0, .int .u8 0, .int .u8 0, .int .u8 0, .int .u8 0, .int .u8 0, .int .u8 0, .int .u8 0, .int .u8 0, .int .u8 0, .int .u8 0, .int .u8 0, .int .u8 0, .int .u8 0, .int .u8 0, .int .u8 0, .int .u8 0, .int .u8 0, .int .u8 0, .int .u8 0, .int .u8 0, .int .u8 0]
    have F1 := Lib.hid f1
    clear HZ f1 hb2
    generalize w2.setRow w.heap.size #[.int .u8 0, .int .u8 0, .int .u8 0, .int .u8 0, .int .u8 0, .int .u8 0, .int .u8 0, .int .u8 0, .int .u8 0, .int .u8 0, .int .u8 0, .int .u8 0, .int .u8 0, .int .u8 0, .int .u8 0, .int .u8 0, .int .u8 0, .int .u8 0, .int .u8 0, .int .u8 0, .int .u8 0, .int .u8 0, .int .u8 0, .int .u8 0, .int .u8 0, .int .u8 0, .int .u8 0, .int .u8 0, .int .u8 0, .int .u8 0, .int .u8 0, .int .u8 0] = w3 at F1 f2
    go_wp2
    refine bodyPost_ret (v := .tuple #[.agg #[.int .u8 0, .int .u8 0, .int .u8 0, .int .u8 0, .int .u8 0, .int .u8 0, .int .u8 0, .int .u8 0, .int .u8 0, .int .u8 0, .int .u8 0, .int .u8 0, .int .u8 0, .int .u8 0, .int .u8 0, .int .u8 0, .int .u8 0, .int .u8 0, .int .u8 0, .int .u8 0, .int .u8 0, .int .u8 0, .int .u8 0, .int .u8 0, .int .u8 0, .int .u8 0, .int .u8 0, .int .u8 0, .int .u8 0, .int .u8 0, .int .u8 0, .int .u8 0], .int .i64 c]) (results_ct (p := 2) (u := 3) rfl _ _ w.heap.size 37 #[.int .u8 0, .int .u8 0, .int .u8 0, .int .u8 0, .int .u8 0, .int .u8 0, .int .u8 0, .int .u8 0, .int .u8 0, .int .u8 0, .int .u8 0, .int .u8 0, .int .u8 0, .int .u8 0, .int .u8 0, .int .u8 0, .int .u8 0, .int .u8 0, .int .u8 0, .int .u8 0, .int .u8 0, .int .u8 0, .int .u8 0, .int .u8 0, .int .u8 0, .int .u8 0, .int .u8 0, .int .u8 0, .int .u8 0, .int .u8 0, .int .u8 0, .int .u8 0] (0, 0) _ rfl F1.out Tryd.underlying37 rfl info_id) rfl ⟨rfl, f2⟩
end Go.Proofs.YtkpgefmmlcpnlaaDoor.S
