/-
  reply.Take, walked: what stands at a text's beginning.
-/
import Derived.Test.YtnohcfgjhgfjkaaDoorRep25d
import Derived.Test.YtnohcfgjhgfjkaaDoorRep25f
namespace Go.Proofs.YtnohcfgjhgfjkaaDoor.S
open Go.RowKit Go.Proofs.YtnohcfgjhgfjkaaDoorW.PrintWords
set_option linter.unusedVariables false
set_option linter.unusedSimpArgs false
def nums11 : List Int := [200, 201, 400, 401, 403, 404, 405, 409, 413, 431, 507]
/-- The status whose head stands at the beginning, what stands behind it, what is told. -/
def find : List Int → List UInt8 → Int → Int × List UInt8 × Int
  | [], s, e => (0, s, e)
  | st :: r, s, e => if (behL s (headL st)).2 = 0 then (st, (behL s (headL st)).1, 0) else find r s (if (behL s (headL st)).2 = 3 then 3 else e)
/-- Behind the number: the body's beginning, what is told, whether it closes. -/
def ends (s : List UInt8) : List UInt8 × Int × Bool :=
  if (behL s (tailL false)).2 = 0 then ((behL s (tailL false)).1, 0, false)
  else if (behL s (tailL true)).2 = 0 ∨ (behL s (tailL false)).2 = 4 then ((behL s (tailL true)).1, (behL s (tailL true)).2, true) else ((behL s (tailL false)).1, (behL s (tailL false)).2, false)
/-- What Take answers: status, body, whether it closes, how many bytes, what is told. -/
def takeS (s : List UInt8) : Int × List UInt8 × Bool × Int × Int :=
  if (find nums11 s 4).2.2 ≠ 0 then (0, [], false, 0, (find nums11 s 4).2.2)
  else if (numL (find nums11 s 4).2.1).2.2 ≠ 0 then (0, [], false, 0, (numL (find nums11 s 4).2.1).2.2)
  else if (ends (numL (find nums11 s 4).2.1).2.1).2.1 ≠ 0 then (0, [], false, 0, (ends (numL (find nums11 s 4).2.1).2.1).2.1)
  else if ((ends (numL (find nums11 s 4).2.1).2.1).1.length : Int) < (numL (find nums11 s 4).2.1).1 then (0, [], false, 0, 3)
  else ((find nums11 s 4).1, (ends (numL (find nums11 s 4).2.1).2.1).1.take (numL (find nums11 s 4).2.1).1.toNat, (ends (numL (find nums11 s 4).2.1).2.1).2.2, (s.length : Int) - (ends (numL (find nums11 s 4).2.1).2.1).1.length + (numL (find nums11 s 4).2.1).1, 0)
/-- The two structs' blocks. -/
structure TW (w wr : World) (st : Int) (cl : Bool) : Prop where mk ::
  (below : Below w.heap.size w wr) (z : wr.heap[w.heap.size]? = some (.cells #[.int .i64 0, .slice none 0 0, .bool false] 24 (0, 0))) (r : wr.heap[w.heap.size + 1]? = some (.cells #[.int .i64 st, .slice none 0 0, .bool cl] 24 (0, 0)))
theorem TW.step {w wr w1 : World} {st : Int} {cl : Bool} (h : TW w wr st cl) (hb : Below wr.heap.size wr w1) : TW w w1 st cl :=
  ⟨bthen h.below hb, (hb.block _ (lt_of_block h.z)).trans h.z, (hb.block _ (lt_of_block h.r)).trans h.r⟩
theorem TW.set0 {w wr : World} {st : Int} {cl : Bool} (h : TW w wr st cl) (v : Int) : TW w (wr.setCell ⟨w.heap.size + 1, 0, none⟩ (.int .i64 v)) v cl :=
  ⟨h.below.setCell (Nat.le_succ _) _, (Below.heap_setCell wr _ _ _ (by simp)).trans h.z, heap_setCell_same _ _ _ _ _ _ h.r⟩
theorem TW.set2 {w wr : World} {st : Int} {cl : Bool} (h : TW w wr st cl) (v : Bool) : TW w (wr.setCell ⟨w.heap.size + 1, 2, none⟩ (.bool v)) st v :=
  ⟨h.below.setCell (Nat.le_succ _) _, (Below.heap_setCell wr _ _ _ (by simp)).trans h.z, heap_setCell_same _ _ _ _ _ _ h.r⟩
theorem TW.cells {w wr : World} {st : Int} {cl : Bool} (h : TW w wr st cl) : (wr.cell? ⟨w.heap.size + 1, 0, none⟩ = some (.int .i64 st) ∧ wr.cell? ⟨w.heap.size + 1, 1, none⟩ = some (.slice none 0 0) ∧ wr.cell? ⟨w.heap.size + 1, 2, none⟩ = some (.bool cl)) ∧ wr.frozen? ⟨w.heap.size + 1, 0, none⟩ = false ∧ wr.frozen? ⟨w.heap.size + 1, 1, none⟩ = false ∧ wr.frozen? ⟨w.heap.size + 1, 2, none⟩ = false := by
  have := h.r
  simp only [World.cell?, World.frozen?, this]
  simp
theorem find_le : ∀ (l : List Int) (s : List UInt8) (e : Int), (find l s e).2.1.length ≤ s.length
  | [], s, e => Nat.le_refl _
  | st :: r, s, e => by
    unfold find
    split
    · unfold behL; split <;> (try split) <;> simp
    · exact find_le r s _
theorem numL_le (s : List UInt8) : (numL s).2.1.length ≤ s.length := by
  unfold numL; split
  · simp
  · split <;> simp
theorem behL_le (s t : List UInt8) : (behL s t).1.length ≤ s.length := by
  unfold behL; split <;> (try split) <;> simp
theorem numS_nonneg (b : Nat → Int) (n : Nat) : 0 ≤ (numS b n).1 := by
  unfold numS
  by_cases ha : alld b n 0 = false
  · rw [if_pos ha]; exact Int.le_refl _
  · rw [if_neg ha]
    split
    · exact Int.le_refl _
    · split
      · exact Int.le_refl _
      · exact V_nonneg _ _ fun j hj => (alld_at _ _ 0 (by simpa using ha) j (by omega) (by omega)).1
theorem numL_nonneg (s : List UInt8) : 0 ≤ (numL s).1 := by
  unfold numL
  by_cases h : s = []
  · rw [if_pos h]; exact Int.le_refl _
  · rw [if_neg h]
    by_cases e : (numOfL (s.take (digL s))).2 = 0
    · rw [if_pos e]; exact numS_nonneg _ _
    · rw [if_neg e]; exact Int.le_refl _
theorem one3 {w : World} {base : Nat} {v : Value} {xs : List Int} {st : Int} {c : Bool} (h : OB w base v xs) : (#[.int .i64 st, v, .bool c] : Array Value).all (·.oneCell') = true := by
  obtain ⟨g, cap, rfl, _⟩ := h.out
  simp [Value.oneCell']
theorem OB.other {w w1 : World} {base : Nat} {v : Value} {xs : List Int} (h : OB w base v xs) (hsz : w1.heap.size = w.heap.size) (hb : ∀ k, base ≤ k → w1.heap[k]? = w.heap[k]?) : OB w1 base v xs := by
  obtain ⟨g, cap, e, h1, h2, h3, h4, h5, h6⟩ := h.out
  have hc : ∀ j, w1.cell? ⟨g, j, none⟩ = w.cell? ⟨g, j, none⟩ := fun j => World.cell?_of_block (hb g h1)
  have hf : ∀ j, w1.frozen? ⟨g, j, none⟩ = w.frozen? ⟨g, j, none⟩ := fun j => World.frozen?_of_block (hb g h1)
  exact ⟨g, cap, e, h1, by omega, h3, h4, fun j hj => (hc j).trans (h5 j hj), fun j hj => ⟨by rw [hc]; exact (h6 j hj).1, by rw [hf]; exact (h6 j hj).2⟩⟩
theorem OB.setOther {w : World} {base b o : Nat} {v u : Value} {xs : List Int} (h : OB w base v xs) (hb : b < base) : OB (w.setCell ⟨b, o, none⟩ u) base v xs :=
  h.other (by simp) fun k hk => Below.heap_setCell w _ _ _ (by simp; omega)
theorem OB.setRowOther {w : World} {base : Nat} {v : Value} {xs : List Int} (h : OB w (base + 1) v xs) (cs : Array Value) : OB (w.setRow base cs) base v xs :=
  (h.other (by simp [World.setRow]) fun k hk => by
    have hk2 : base ≠ k := by omega
    simp only [World.setRow]
    rw [Array.getElem?_modify, if_neg hk2]).lower (Nat.le_succ _)
/-- What is known behind Take. -/
def TakeOut (s : List UInt8) (w w' : World) (e : Ending) : Prop :=
  ∃ bv, e = .returned (.tuple #[.agg #[.int .i64 (takeS s).1, bv, .bool (takeS s).2.2.1], .int .i64 (takeS s).2.2.2.1, .int .i64 (takeS s).2.2.2.2]) ∧ (if (takeS s).2.2.2.2 = 0 then OB w' w.heap.size bv (bytesOf ⟨(takeS s).2.1.toArray⟩) else bv = .slice none 0 0) ∧ Below w.heap.size w w'
theorem fin_err {w w' : World} {s : List UInt8} {e : Int} (h : takeS s = (0, [], false, 0, e)) (he : e ≠ 0) (hb : Below w.heap.size w w') :
    TakeOut s w w' (.returned (.tuple #[.agg #[.int .i64 0, .slice none 0 0, .bool false], .int .i64 0, .int .i64 e])) := by
  unfold TakeOut
  rw [h]
  refine ⟨.slice none 0 0, rfl, ?_, hb⟩
  show if e = 0 then OB w' w.heap.size (.slice none 0 0) (bytesOf ⟨([] : List UInt8).toArray⟩) else Value.slice none 0 0 = .slice none 0 0
  rw [if_neg he]
theorem fin_ok {w w' : World} {s b : List UInt8} {st m m2 : Int} {c : Bool} {v : Value} (h : takeS s = (st, b, c, m, 0)) (hm : m2 = m) (ho : OB w' w.heap.size v (bytesOf ⟨b.toArray⟩)) (hb : Below w.heap.size w w') :
    TakeOut s w w' (.returned (.tuple #[.agg #[.int .i64 st, v, .bool c], .int .i64 m2, .int .i64 0])) := by
  subst hm
  unfold TakeOut
  rw [h]
  refine ⟨v, rfl, ?_, hb⟩
  show if (0 : Int) = 0 then OB w' w.heap.size v (bytesOf ⟨b.toArray⟩) else v = .slice none 0 0
  rw [if_pos rfl]
  exact ho
theorem OB.form {w : World} {base : Nat} {v : Value} {xs : List Int} (h : OB w base v xs) : ∃ g m cap, v = .slice (some ⟨g, 0, none⟩) m cap := by
  obtain ⟨g, cap, e, _⟩ := h.out
  exact ⟨g, _, cap, e⟩
theorem info24 : (Tryd.prog.info? 24).map (·.size) = some 3 := by kernel_rfl
theorem one24 : (#[.int .i64 0, .slice none 0 0, .bool false] : Array Value).all (·.oneCell') = true := by simp [Value.oneCell']
set_option maxHeartbeats 4000000 in
set_option maxRecDepth 100000 in
theorem take_any (s : List UInt8) (A : Option Addr) (cap : Nat) (l : List Int) (w : World) (hs : strOfNums l = ⟨s.toArray⟩) (hn : s.length = l.length) (hR : ReadsInt w .u8 A l.length l) (hlen : l.length ≤ 100000) (hT : Tabs w) :
    Calls Tryd.prog 15 #[.slice A l.length cap] w fun e w' => TakeOut s w w' e := by
  have cS := Lib.hid statuses_any
  have cH : Hid (∀ st w, -9223372036854775808 ≤ st → st ≤ 9223372036854775807 → Tabs w → Calls Tryd.prog 19 #[.int .i64 st] w fun e w' => e = .returned (.string ⟨(headL st).toArray⟩) ∧ Below w.heap.size w w') := Lib.hid fun st w h0 h1 hT => head_any st h0 h1 w hT
  have cB : Hid (∀ (s t : List UInt8) w, Calls Tryd.prog 24 #[.string ⟨s.toArray⟩, .string ⟨t.toArray⟩] w fun e w' => e = .returned (.tuple #[.string ⟨(behL s t).1.toArray⟩, .int .i64 (behL s t).2]) ∧ Drawn0 w w') := Lib.hid fun s t w => reply_behind.calls _ _ _ _ w (behind_f s t)
  have cN : Hid (∀ (s : List UInt8) w, s.length ≤ 1048576 → Calls Tryd.prog 25 #[.string ⟨s.toArray⟩] w fun e w' => e = .returned (.tuple #[.int .i64 (numL s).1, .string ⟨(numL s).2.1.toArray⟩, .int .i64 (numL s).2.2]) ∧ Drawn0 w w') := Lib.hid fun s w hs => reply_number.calls _ _ _ _ _ w (reply_number_f s hs _ (Nat.le_refl _))
  have cT : Hid (∀ c w, Calls Tryd.prog 21 #[.bool c] w fun e w' => e = .returned (.string ⟨(tailL c).toArray⟩) ∧ Drawn0 w w') := Lib.hid fun c w => reply_tail.calls _ _ w (tail_f c)
  have hcx := Kd.C_string (P := Tryd.prog) (src := 22) (e := 5) (dst := 9) (c := cap) Tryd.underlying22 Tryd.underlying5 Tryd.underlying9 (C_of_reads (hR.below (below_alloc (Below.refl w.heap.size w) (.cells #[.int .i64 0, .slice none 0 0, .bool false] 24))))
  rw [hs] at hcx
  have HT := Lib.hid hT
  have HN := Lib.hid hn
  clear hR hT hs hn
  go_enter Tryd.func15, Tryd.ntmps15
  go_wp2_with fail
  refine (cS.out _).mono ?_
  rintro e w2 ⟨rfl, hb2⟩
  have hW : TW w w2 0 false := TW.step ⟨below_alloc (below_alloc (Below.refl _ _) _) _, (Below.heap_alloc _ _ _ (by simp)).trans (heap_alloc_new w _), heap_alloc2_new w _ _⟩ hb2
  clear hb2 hcx
  iterate 8 (first | go_values | go_skip | go_guarded | go_step | go_upon | go_simp)
  go_cut [5, 6] (fun v5 v6 wc => v5 = .string ⟨(find nums11 s 4).2.1.toArray⟩ ∧ v6 = .int .i64 (find nums11 s 4).2.2 ∧ TW w wc (find nums11 s 4).1 false)
  case first =>
    go_wp2_with fail
    go_loopw [19, 5, 6] (fun i v5 v6 wr => ∃ (k : Nat) (e : Int), k ≤ 11 ∧ i = .int .i64 k ∧ v5 = .string ⟨s.toArray⟩ ∧ v6 = .int .i64 e ∧ Hid (find (nums11.drop k) s e = find nums11 s 4) ∧ TW w wr 0 false) (fun i _ _ _ => 11 - (intOf i).toNat)
    case atStart => exact ⟨0, 4, by omega, rfl, rfl, rfl, Lib.hid rfl, hW⟩
    case round =>
      obtain ⟨k, e, hk, rfl, rfl, rfl, H, HW⟩ := hrel
      rename_i wr
      rcases (show k = 0 ∨ k = 1 ∨ k = 2 ∨ k = 3 ∨ k = 4 ∨ k = 5 ∨ k = 6 ∨ k = 7 ∨ k = 8 ∨ k = 9 ∨ k = 10 ∨ k = 11 by omega) with rfl | rfl | rfl | rfl | rfl | rfl | rfl | rfl | rfl | rfl | rfl | rfl
      · have cb := Lib.hid (cB.out s (headL 200))
        have H2 : Hid ((if (behL s (headL 200)).2 = 0 then (200, (behL s (headL 200)).1, 0) else find (nums11.drop 1) s (if (behL s (headL 200)).2 = 3 then 3 else e)) = find nums11 s 4) := H
        clear H
        generalize behL s (headL 200) = b at cb H2
        obtain ⟨b1, b2⟩ := b
        have hix : ∀ W, (Instr.index 37 (.agg #[.int .i64 200, .int .i64 201, .int .i64 400, .int .i64 401, .int .i64 403, .int .i64 404, .int .i64 405, .int .i64 409, .int .i64 413, .int .i64 431, .int .i64 507]) (.int .i64 0)).run Tryd.prog W = .ok (.int .i64 200) W := fun W => by kernel_rfl
        go_wp2_with fail
        refine (cH.out 200 _ (by omega) (by omega) (HT.out.below HW.below)).mono ?_
        rintro e3 w3 ⟨rfl, hb3⟩
        have HW := HW.step hb3
        clear hb3
        go_wp2_with fail
        refine (cb.out _).mono ?_
        rintro e4 w4 ⟨rfl, hd4⟩
        have HW := HW.step hd4.below
        clear hd4
        by_cases hb0 : b2 = 0
        · subst hb0
          obtain ⟨⟨c0, _, _⟩, f0, _, _⟩ := HW.cells
          have E := H2.out.symm
          rw [if_pos rfl] at E
          have HE := Lib.hid E
          have HWh := Lib.hid HW
          clear E H2 HW
          go_wp2
          go_meet
          case rel => exact ⟨by rw [HE.out], by rw [HE.out], by rw [HE.out]; exact HWh.out.set0 _⟩
        · have E := H2.out
          rw [if_neg hb0] at E
          have hb00 : (b2 == 0) = false := by simpa using hb0
          by_cases hb3 : b2 = 3
          · subst hb3
            rw [if_pos rfl] at E
            have HE := Lib.hid E
            have HWh := Lib.hid HW
            clear E H2 HW hb0
            go_wp2
            go_roundw
            case rel => exact ⟨1, 3, by omega, rfl, rfl, rfl, HE, HWh.out⟩
            case measure => simp [intOf]
          · rw [if_neg hb3] at E
            have hb33 : (b2 == 3) = false := by simpa using hb3
            have HE := Lib.hid E
            have HWh := Lib.hid HW
            clear E H2 HW
            go_wp2
            go_roundw
            case rel => exact ⟨1, e, by omega, rfl, rfl, rfl, HE, HWh.out⟩
            case measure => simp [intOf]
      · have cb := Lib.hid (cB.out s (headL 201))
        have H2 : Hid ((if (behL s (headL 201)).2 = 0 then (201, (behL s (headL 201)).1, 0) else find (nums11.drop 2) s (if (behL s (headL 201)).2 = 3 then 3 else e)) = find nums11 s 4) := H
        clear H
        generalize behL s (headL 201) = b at cb H2
        obtain ⟨b1, b2⟩ := b
        have hix : ∀ W, (Instr.index 37 (.agg #[.int .i64 200, .int .i64 201, .int .i64 400, .int .i64 401, .int .i64 403, .int .i64 404, .int .i64 405, .int .i64 409, .int .i64 413, .int .i64 431, .int .i64 507]) (.int .i64 1)).run Tryd.prog W = .ok (.int .i64 201) W := fun W => by kernel_rfl
        go_wp2_with fail
        refine (cH.out 201 _ (by omega) (by omega) (HT.out.below HW.below)).mono ?_
        rintro e3 w3 ⟨rfl, hb3⟩
        have HW := HW.step hb3
        clear hb3
        go_wp2_with fail
        refine (cb.out _).mono ?_
        rintro e4 w4 ⟨rfl, hd4⟩
        have HW := HW.step hd4.below
        clear hd4
        by_cases hb0 : b2 = 0
        · subst hb0
          obtain ⟨⟨c0, _, _⟩, f0, _, _⟩ := HW.cells
          have E := H2.out.symm
          rw [if_pos rfl] at E
          have HE := Lib.hid E
          have HWh := Lib.hid HW
          clear E H2 HW
          go_wp2
          go_meet
          case rel => exact ⟨by rw [HE.out], by rw [HE.out], by rw [HE.out]; exact HWh.out.set0 _⟩
        · have E := H2.out
          rw [if_neg hb0] at E
          have hb00 : (b2 == 0) = false := by simpa using hb0
          by_cases hb3 : b2 = 3
          · subst hb3
            rw [if_pos rfl] at E
            have HE := Lib.hid E
            have HWh := Lib.hid HW
            clear E H2 HW hb0
            go_wp2
            go_roundw
            case rel => exact ⟨2, 3, by omega, rfl, rfl, rfl, HE, HWh.out⟩
            case measure => simp [intOf]
          · rw [if_neg hb3] at E
            have hb33 : (b2 == 3) = false := by simpa using hb3
            have HE := Lib.hid E
            have HWh := Lib.hid HW
            clear E H2 HW
            go_wp2
            go_roundw
            case rel => exact ⟨2, e, by omega, rfl, rfl, rfl, HE, HWh.out⟩
            case measure => simp [intOf]
      · have cb := Lib.hid (cB.out s (headL 400))
        have H2 : Hid ((if (behL s (headL 400)).2 = 0 then (400, (behL s (headL 400)).1, 0) else find (nums11.drop 3) s (if (behL s (headL 400)).2 = 3 then 3 else e)) = find nums11 s 4) := H
        clear H
        generalize behL s (headL 400) = b at cb H2
        obtain ⟨b1, b2⟩ := b
        have hix : ∀ W, (Instr.index 37 (.agg #[.int .i64 200, .int .i64 201, .int .i64 400, .int .i64 401, .int .i64 403, .int .i64 404, .int .i64 405, .int .i64 409, .int .i64 413, .int .i64 431, .int .i64 507]) (.int .i64 2)).run Tryd.prog W = .ok (.int .i64 400) W := fun W => by kernel_rfl
        go_wp2_with fail
        refine (cH.out 400 _ (by omega) (by omega) (HT.out.below HW.below)).mono ?_
        rintro e3 w3 ⟨rfl, hb3⟩
        have HW := HW.step hb3
        clear hb3
        go_wp2_with fail
        refine (cb.out _).mono ?_
        rintro e4 w4 ⟨rfl, hd4⟩
        have HW := HW.step hd4.below
        clear hd4
        by_cases hb0 : b2 = 0
        · subst hb0
          obtain ⟨⟨c0, _, _⟩, f0, _, _⟩ := HW.cells
          have E := H2.out.symm
          rw [if_pos rfl] at E
          have HE := Lib.hid E
          have HWh := Lib.hid HW
          clear E H2 HW
          go_wp2
          go_meet
          case rel => exact ⟨by rw [HE.out], by rw [HE.out], by rw [HE.out]; exact HWh.out.set0 _⟩
        · have E := H2.out
          rw [if_neg hb0] at E
          have hb00 : (b2 == 0) = false := by simpa using hb0
          by_cases hb3 : b2 = 3
          · subst hb3
            rw [if_pos rfl] at E
            have HE := Lib.hid E
            have HWh := Lib.hid HW
            clear E H2 HW hb0
            go_wp2
            go_roundw
            case rel => exact ⟨3, 3, by omega, rfl, rfl, rfl, HE, HWh.out⟩
            case measure => simp [intOf]
          · rw [if_neg hb3] at E
            have hb33 : (b2 == 3) = false := by simpa using hb3
            have HE := Lib.hid E
            have HWh := Lib.hid HW
            clear E H2 HW
            go_wp2
            go_roundw
            case rel => exact ⟨3, e, by omega, rfl, rfl, rfl, HE, HWh.out⟩
            case measure => simp [intOf]
      · have cb := Lib.hid (cB.out s (headL 401))
        have H2 : Hid ((if (behL s (headL 401)).2 = 0 then (401, (behL s (headL 401)).1, 0) else find (nums11.drop 4) s (if (behL s (headL 401)).2 = 3 then 3 else e)) = find nums11 s 4) := H
        clear H
        generalize behL s (headL 401) = b at cb H2
        obtain ⟨b1, b2⟩ := b
        have hix : ∀ W, (Instr.index 37 (.agg #[.int .i64 200, .int .i64 201, .int .i64 400, .int .i64 401, .int .i64 403, .int .i64 404, .int .i64 405, .int .i64 409, .int .i64 413, .int .i64 431, .int .i64 507]) (.int .i64 3)).run Tryd.prog W = .ok (.int .i64 401) W := fun W => by kernel_rfl
        go_wp2_with fail
        refine (cH.out 401 _ (by omega) (by omega) (HT.out.below HW.below)).mono ?_
        rintro e3 w3 ⟨rfl, hb3⟩
        have HW := HW.step hb3
        clear hb3
        go_wp2_with fail
        refine (cb.out _).mono ?_
        rintro e4 w4 ⟨rfl, hd4⟩
        have HW := HW.step hd4.below
        clear hd4
        by_cases hb0 : b2 = 0
        · subst hb0
          obtain ⟨⟨c0, _, _⟩, f0, _, _⟩ := HW.cells
          have E := H2.out.symm
          rw [if_pos rfl] at E
          have HE := Lib.hid E
          have HWh := Lib.hid HW
          clear E H2 HW
          go_wp2
          go_meet
          case rel => exact ⟨by rw [HE.out], by rw [HE.out], by rw [HE.out]; exact HWh.out.set0 _⟩
        · have E := H2.out
          rw [if_neg hb0] at E
          have hb00 : (b2 == 0) = false := by simpa using hb0
          by_cases hb3 : b2 = 3
          · subst hb3
            rw [if_pos rfl] at E
            have HE := Lib.hid E
            have HWh := Lib.hid HW
            clear E H2 HW hb0
            go_wp2
            go_roundw
            case rel => exact ⟨4, 3, by omega, rfl, rfl, rfl, HE, HWh.out⟩
            case measure => simp [intOf]
          · rw [if_neg hb3] at E
            have hb33 : (b2 == 3) = false := by simpa using hb3
            have HE := Lib.hid E
            have HWh := Lib.hid HW
            clear E H2 HW
            go_wp2
            go_roundw
            case rel => exact ⟨4, e, by omega, rfl, rfl, rfl, HE, HWh.out⟩
            case measure => simp [intOf]
      · have cb := Lib.hid (cB.out s (headL 403))
        have H2 : Hid ((if (behL s (headL 403)).2 = 0 then (403, (behL s (headL 403)).1, 0) else find (nums11.drop 5) s (if (behL s (headL 403)).2 = 3 then 3 else e)) = find nums11 s 4) := H
        clear H
        generalize behL s (headL 403) = b at cb H2
        obtain ⟨b1, b2⟩ := b
        have hix : ∀ W, (Instr.index 37 (.agg #[.int .i64 200, .int .i64 201, .int .i64 400, .int .i64 401, .int .i64 403, .int .i64 404, .int .i64 405, .int .i64 409, .int .i64 413, .int .i64 431, .int .i64 507]) (.int .i64 4)).run Tryd.prog W = .ok (.int .i64 403) W := fun W => by kernel_rfl
        go_wp2_with fail
        refine (cH.out 403 _ (by omega) (by omega) (HT.out.below HW.below)).mono ?_
        rintro e3 w3 ⟨rfl, hb3⟩
        have HW := HW.step hb3
        clear hb3
        go_wp2_with fail
        refine (cb.out _).mono ?_
        rintro e4 w4 ⟨rfl, hd4⟩
        have HW := HW.step hd4.below
        clear hd4
        by_cases hb0 : b2 = 0
        · subst hb0
          obtain ⟨⟨c0, _, _⟩, f0, _, _⟩ := HW.cells
          have E := H2.out.symm
          rw [if_pos rfl] at E
          have HE := Lib.hid E
          have HWh := Lib.hid HW
          clear E H2 HW
          go_wp2
          go_meet
          case rel => exact ⟨by rw [HE.out], by rw [HE.out], by rw [HE.out]; exact HWh.out.set0 _⟩
        · have E := H2.out
          rw [if_neg hb0] at E
          have hb00 : (b2 == 0) = false := by simpa using hb0
          by_cases hb3 : b2 = 3
          · subst hb3
            rw [if_pos rfl] at E
            have HE := Lib.hid E
            have HWh := Lib.hid HW
            clear E H2 HW hb0
            go_wp2
            go_roundw
            case rel => exact ⟨5, 3, by omega, rfl, rfl, rfl, HE, HWh.out⟩
            case measure => simp [intOf]
          · rw [if_neg hb3] at E
            have hb33 : (b2 == 3) = false := by simpa using hb3
            have HE := Lib.hid E
            have HWh := Lib.hid HW
            clear E H2 HW
            go_wp2
            go_roundw
            case rel => exact ⟨5, e, by omega, rfl, rfl, rfl, HE, HWh.out⟩
            case measure => simp [intOf]
      · have cb := Lib.hid (cB.out s (headL 404))
        have H2 : Hid ((if (behL s (headL 404)).2 = 0 then (404, (behL s (headL 404)).1, 0) else find (nums11.drop 6) s (if (behL s (headL 404)).2 = 3 then 3 else e)) = find nums11 s 4) := H
        clear H
        generalize behL s (headL 404) = b at cb H2
        obtain ⟨b1, b2⟩ := b
        have hix : ∀ W, (Instr.index 37 (.agg #[.int .i64 200, .int .i64 201, .int .i64 400, .int .i64 401, .int .i64 403, .int .i64 404, .int .i64 405, .int .i64 409, .int .i64 413, .int .i64 431, .int .i64 507]) (.int .i64 5)).run Tryd.prog W = .ok (.int .i64 404) W := fun W => by kernel_rfl
        go_wp2_with fail
        refine (cH.out 404 _ (by omega) (by omega) (HT.out.below HW.below)).mono ?_
        rintro e3 w3 ⟨rfl, hb3⟩
        have HW := HW.step hb3
        clear hb3
        go_wp2_with fail
        refine (cb.out _).mono ?_
        rintro e4 w4 ⟨rfl, hd4⟩
        have HW := HW.step hd4.below
        clear hd4
        by_cases hb0 : b2 = 0
        · subst hb0
          obtain ⟨⟨c0, _, _⟩, f0, _, _⟩ := HW.cells
          have E := H2.out.symm
          rw [if_pos rfl] at E
          have HE := Lib.hid E
          have HWh := Lib.hid HW
          clear E H2 HW
          go_wp2
          go_meet
          case rel => exact ⟨by rw [HE.out], by rw [HE.out], by rw [HE.out]; exact HWh.out.set0 _⟩
        · have E := H2.out
          rw [if_neg hb0] at E
          have hb00 : (b2 == 0) = false := by simpa using hb0
          by_cases hb3 : b2 = 3
          · subst hb3
            rw [if_pos rfl] at E
            have HE := Lib.hid E
            have HWh := Lib.hid HW
            clear E H2 HW hb0
            go_wp2
            go_roundw
            case rel => exact ⟨6, 3, by omega, rfl, rfl, rfl, HE, HWh.out⟩
            case measure => simp [intOf]
          · rw [if_neg hb3] at E
            have hb33 : (b2 == 3) = false := by simpa using hb3
            have HE := Lib.hid E
            have HWh := Lib.hid HW
            clear E H2 HW
            go_wp2
            go_roundw
            case rel => exact ⟨6, e, by omega, rfl, rfl, rfl, HE, HWh.out⟩
            case measure => simp [intOf]
      · have cb := Lib.hid (cB.out s (headL 405))
        have H2 : Hid ((if (behL s (headL 405)).2 = 0 then (405, (behL s (headL 405)).1, 0) else find (nums11.drop 7) s (if (behL s (headL 405)).2 = 3 then 3 else e)) = find nums11 s 4) := H
        clear H
        generalize behL s (headL 405) = b at cb H2
        obtain ⟨b1, b2⟩ := b
        have hix : ∀ W, (Instr.index 37 (.agg #[.int .i64 200, .int .i64 201, .int .i64 400, .int .i64 401, .int .i64 403, .int .i64 404, .int .i64 405, .int .i64 409, .int .i64 413, .int .i64 431, .int .i64 507]) (.int .i64 6)).run Tryd.prog W = .ok (.int .i64 405) W := fun W => by kernel_rfl
        go_wp2_with fail
        refine (cH.out 405 _ (by omega) (by omega) (HT.out.below HW.below)).mono ?_
        rintro e3 w3 ⟨rfl, hb3⟩
        have HW := HW.step hb3
        clear hb3
        go_wp2_with fail
        refine (cb.out _).mono ?_
        rintro e4 w4 ⟨rfl, hd4⟩
        have HW := HW.step hd4.below
        clear hd4
        by_cases hb0 : b2 = 0
        · subst hb0
          obtain ⟨⟨c0, _, _⟩, f0, _, _⟩ := HW.cells
          have E := H2.out.symm
          rw [if_pos rfl] at E
          have HE := Lib.hid E
          have HWh := Lib.hid HW
          clear E H2 HW
          go_wp2
          go_meet
          case rel => exact ⟨by rw [HE.out], by rw [HE.out], by rw [HE.out]; exact HWh.out.set0 _⟩
        · have E := H2.out
          rw [if_neg hb0] at E
          have hb00 : (b2 == 0) = false := by simpa using hb0
          by_cases hb3 : b2 = 3
          · subst hb3
            rw [if_pos rfl] at E
            have HE := Lib.hid E
            have HWh := Lib.hid HW
            clear E H2 HW hb0
            go_wp2
            go_roundw
            case rel => exact ⟨7, 3, by omega, rfl, rfl, rfl, HE, HWh.out⟩
            case measure => simp [intOf]
          · rw [if_neg hb3] at E
            have hb33 : (b2 == 3) = false := by simpa using hb3
            have HE := Lib.hid E
            have HWh := Lib.hid HW
            clear E H2 HW
            go_wp2
            go_roundw
            case rel => exact ⟨7, e, by omega, rfl, rfl, rfl, HE, HWh.out⟩
            case measure => simp [intOf]
      · have cb := Lib.hid (cB.out s (headL 409))
        have H2 : Hid ((if (behL s (headL 409)).2 = 0 then (409, (behL s (headL 409)).1, 0) else find (nums11.drop 8) s (if (behL s (headL 409)).2 = 3 then 3 else e)) = find nums11 s 4) := H
        clear H
        generalize behL s (headL 409) = b at cb H2
        obtain ⟨b1, b2⟩ := b
        have hix : ∀ W, (Instr.index 37 (.agg #[.int .i64 200, .int .i64 201, .int .i64 400, .int .i64 401, .int .i64 403, .int .i64 404, .int .i64 405, .int .i64 409, .int .i64 413, .int .i64 431, .int .i64 507]) (.int .i64 7)).run Tryd.prog W = .ok (.int .i64 409) W := fun W => by kernel_rfl
        go_wp2_with fail
        refine (cH.out 409 _ (by omega) (by omega) (HT.out.below HW.below)).mono ?_
        rintro e3 w3 ⟨rfl, hb3⟩
        have HW := HW.step hb3
        clear hb3
        go_wp2_with fail
        refine (cb.out _).mono ?_
        rintro e4 w4 ⟨rfl, hd4⟩
        have HW := HW.step hd4.below
        clear hd4
        by_cases hb0 : b2 = 0
        · subst hb0
          obtain ⟨⟨c0, _, _⟩, f0, _, _⟩ := HW.cells
          have E := H2.out.symm
          rw [if_pos rfl] at E
          have HE := Lib.hid E
          have HWh := Lib.hid HW
          clear E H2 HW
          go_wp2
          go_meet
          case rel => exact ⟨by rw [HE.out], by rw [HE.out], by rw [HE.out]; exact HWh.out.set0 _⟩
        · have E := H2.out
          rw [if_neg hb0] at E
          have hb00 : (b2 == 0) = false := by simpa using hb0
          by_cases hb3 : b2 = 3
          · subst hb3
            rw [if_pos rfl] at E
            have HE := Lib.hid E
            have HWh := Lib.hid HW
            clear E H2 HW hb0
            go_wp2
            go_roundw
            case rel => exact ⟨8, 3, by omega, rfl, rfl, rfl, HE, HWh.out⟩
            case measure => simp [intOf]
          · rw [if_neg hb3] at E
            have hb33 : (b2 == 3) = false := by simpa using hb3
            have HE := Lib.hid E
            have HWh := Lib.hid HW
            clear E H2 HW
            go_wp2
            go_roundw
            case rel => exact ⟨8, e, by omega, rfl, rfl, rfl, HE, HWh.out⟩
            case measure => simp [intOf]
      · have cb := Lib.hid (cB.out s (headL 413))
        have H2 : Hid ((if (behL s (headL 413)).2 = 0 then (413, (behL s (headL 413)).1, 0) else find (nums11.drop 9) s (if (behL s (headL 413)).2 = 3 then 3 else e)) = find nums11 s 4) := H
        clear H
        generalize behL s (headL 413) = b at cb H2
        obtain ⟨b1, b2⟩ := b
        have hix : ∀ W, (Instr.index 37 (.agg #[.int .i64 200, .int .i64 201, .int .i64 400, .int .i64 401, .int .i64 403, .int .i64 404, .int .i64 405, .int .i64 409, .int .i64 413, .int .i64 431, .int .i64 507]) (.int .i64 8)).run Tryd.prog W = .ok (.int .i64 413) W := fun W => by kernel_rfl
        go_wp2_with fail
        refine (cH.out 413 _ (by omega) (by omega) (HT.out.below HW.below)).mono ?_
        rintro e3 w3 ⟨rfl, hb3⟩
        have HW := HW.step hb3
        clear hb3
        go_wp2_with fail
        refine (cb.out _).mono ?_
        rintro e4 w4 ⟨rfl, hd4⟩
        have HW := HW.step hd4.below
        clear hd4
        by_cases hb0 : b2 = 0
        · subst hb0
          obtain ⟨⟨c0, _, _⟩, f0, _, _⟩ := HW.cells
          have E := H2.out.symm
          rw [if_pos rfl] at E
          have HE := Lib.hid E
          have HWh := Lib.hid HW
          clear E H2 HW
          go_wp2
          go_meet
          case rel => exact ⟨by rw [HE.out], by rw [HE.out], by rw [HE.out]; exact HWh.out.set0 _⟩
        · have E := H2.out
          rw [if_neg hb0] at E
          have hb00 : (b2 == 0) = false := by simpa using hb0
          by_cases hb3 : b2 = 3
          · subst hb3
            rw [if_pos rfl] at E
            have HE := Lib.hid E
            have HWh := Lib.hid HW
            clear E H2 HW hb0
            go_wp2
            go_roundw
            case rel => exact ⟨9, 3, by omega, rfl, rfl, rfl, HE, HWh.out⟩
            case measure => simp [intOf]
          · rw [if_neg hb3] at E
            have hb33 : (b2 == 3) = false := by simpa using hb3
            have HE := Lib.hid E
            have HWh := Lib.hid HW
            clear E H2 HW
            go_wp2
            go_roundw
            case rel => exact ⟨9, e, by omega, rfl, rfl, rfl, HE, HWh.out⟩
            case measure => simp [intOf]
      · have cb := Lib.hid (cB.out s (headL 431))
        have H2 : Hid ((if (behL s (headL 431)).2 = 0 then (431, (behL s (headL 431)).1, 0) else find (nums11.drop 10) s (if (behL s (headL 431)).2 = 3 then 3 else e)) = find nums11 s 4) := H
        clear H
        generalize behL s (headL 431) = b at cb H2
        obtain ⟨b1, b2⟩ := b
        have hix : ∀ W, (Instr.index 37 (.agg #[.int .i64 200, .int .i64 201, .int .i64 400, .int .i64 401, .int .i64 403, .int .i64 404, .int .i64 405, .int .i64 409, .int .i64 413, .int .i64 431, .int .i64 507]) (.int .i64 9)).run Tryd.prog W = .ok (.int .i64 431) W := fun W => by kernel_rfl
        go_wp2_with fail
        refine (cH.out 431 _ (by omega) (by omega) (HT.out.below HW.below)).mono ?_
        rintro e3 w3 ⟨rfl, hb3⟩
        have HW := HW.step hb3
        clear hb3
        go_wp2_with fail
        refine (cb.out _).mono ?_
        rintro e4 w4 ⟨rfl, hd4⟩
        have HW := HW.step hd4.below
        clear hd4
        by_cases hb0 : b2 = 0
        · subst hb0
          obtain ⟨⟨c0, _, _⟩, f0, _, _⟩ := HW.cells
          have E := H2.out.symm
          rw [if_pos rfl] at E
          have HE := Lib.hid E
          have HWh := Lib.hid HW
          clear E H2 HW
          go_wp2
          go_meet
          case rel => exact ⟨by rw [HE.out], by rw [HE.out], by rw [HE.out]; exact HWh.out.set0 _⟩
        · have E := H2.out
          rw [if_neg hb0] at E
          have hb00 : (b2 == 0) = false := by simpa using hb0
          by_cases hb3 : b2 = 3
          · subst hb3
            rw [if_pos rfl] at E
            have HE := Lib.hid E
            have HWh := Lib.hid HW
            clear E H2 HW hb0
            go_wp2
            go_roundw
            case rel => exact ⟨10, 3, by omega, rfl, rfl, rfl, HE, HWh.out⟩
            case measure => simp [intOf]
          · rw [if_neg hb3] at E
            have hb33 : (b2 == 3) = false := by simpa using hb3
            have HE := Lib.hid E
            have HWh := Lib.hid HW
            clear E H2 HW
            go_wp2
            go_roundw
            case rel => exact ⟨10, e, by omega, rfl, rfl, rfl, HE, HWh.out⟩
            case measure => simp [intOf]
      · have cb := Lib.hid (cB.out s (headL 507))
        have H2 : Hid ((if (behL s (headL 507)).2 = 0 then (507, (behL s (headL 507)).1, 0) else find (nums11.drop 11) s (if (behL s (headL 507)).2 = 3 then 3 else e)) = find nums11 s 4) := H
        clear H
        generalize behL s (headL 507) = b at cb H2
        obtain ⟨b1, b2⟩ := b
        have hix : ∀ W, (Instr.index 37 (.agg #[.int .i64 200, .int .i64 201, .int .i64 400, .int .i64 401, .int .i64 403, .int .i64 404, .int .i64 405, .int .i64 409, .int .i64 413, .int .i64 431, .int .i64 507]) (.int .i64 10)).run Tryd.prog W = .ok (.int .i64 507) W := fun W => by kernel_rfl
        go_wp2_with fail
        refine (cH.out 507 _ (by omega) (by omega) (HT.out.below HW.below)).mono ?_
        rintro e3 w3 ⟨rfl, hb3⟩
        have HW := HW.step hb3
        clear hb3
        go_wp2_with fail
        refine (cb.out _).mono ?_
        rintro e4 w4 ⟨rfl, hd4⟩
        have HW := HW.step hd4.below
        clear hd4
        by_cases hb0 : b2 = 0
        · subst hb0
          obtain ⟨⟨c0, _, _⟩, f0, _, _⟩ := HW.cells
          have E := H2.out.symm
          rw [if_pos rfl] at E
          have HE := Lib.hid E
          have HWh := Lib.hid HW
          clear E H2 HW
          go_wp2
          go_meet
          case rel => exact ⟨by rw [HE.out], by rw [HE.out], by rw [HE.out]; exact HWh.out.set0 _⟩
        · have E := H2.out
          rw [if_neg hb0] at E
          have hb00 : (b2 == 0) = false := by simpa using hb0
          by_cases hb3 : b2 = 3
          · subst hb3
            rw [if_pos rfl] at E
            have HE := Lib.hid E
            have HWh := Lib.hid HW
            clear E H2 HW hb0
            go_wp2
            go_roundw
            case rel => exact ⟨11, 3, by omega, rfl, rfl, rfl, HE, HWh.out⟩
            case measure => simp [intOf]
          · rw [if_neg hb3] at E
            have hb33 : (b2 == 3) = false := by simpa using hb3
            have HE := Lib.hid E
            have HWh := Lib.hid HW
            clear E H2 HW
            go_wp2
            go_roundw
            case rel => exact ⟨11, e, by omega, rfl, rfl, rfl, HE, HWh.out⟩
            case measure => simp [intOf]
      · have E : (0, s, e) = find nums11 s 4 := H.out
        have HE := Lib.hid E.symm
        have HWh := Lib.hid HW
        clear E H HW
        go_wp2
        go_meet
        case rel => exact ⟨by rw [HE.out], by rw [HE.out], by rw [HE.out]; exact HWh.out⟩
  case rest =>
    obtain ⟨rfl, rfl, HW⟩ := hcut
    have hl1 := find_le nums11 s 4
    have hsl0 : s.length ≤ 100000 := by rw [HN.out]; exact hlen
    have HE := Lib.hid (takeS.eq_1 s)
    generalize find nums11 s 4 = F at *
    obtain ⟨st, s1, e1⟩ := F
    by_cases h1 : e1 = 0
    · subst h1
      have cn := Lib.hid (cN.out s1)
      have hl2 := numL_le s1
      have hn0 := numL_nonneg s1
      generalize numL s1 = N at *
      obtain ⟨n, s2, e2⟩ := N
      go_wp2_with fail
      refine (cn.out _ (by omega)).mono ?_
      rintro e3 w3 ⟨rfl, hd3⟩
      have HW := HW.step hd3.below
      clear hd3
      by_cases h2 : e2 = 0
      · subst h2
        have cb0 := Lib.hid (cB.out s2 (tailL false))
        have cb1 := Lib.hid (cB.out s2 (tailL true))
        have HEn := Lib.hid (ends.eq_1 s2)
        have hl3 := behL_le s2 (tailL false)
        have hl4 := behL_le s2 (tailL true)
        generalize behL s2 (tailL false) = b0 at *
        generalize behL s2 (tailL true) = b1 at *
        obtain ⟨r0, f0⟩ := b0
        obtain ⟨r1, f1⟩ := b1
        go_wp2_with fail
        refine (cT.out false _).mono ?_
        rintro e4 w4 ⟨rfl, hd4⟩
        have HW := HW.step hd4.below
        clear hd4
        go_wp2_with fail
        refine (cb0.out _).mono ?_
        rintro e5 w5 ⟨rfl, hd5⟩
        have HW := HW.step hd5.below
        clear hd5
        by_cases h3 : f0 = 0
        · subst h3
          have en : ends s2 = (r0, 0, false) := by rw [HEn.out]; exact if_pos rfl
          rw [en] at HE
          clear HEn en
          by_cases hlt : (r0.length : Int) < n
          · have hlt2 : ((⟨r0.toArray⟩ : ByteArray).size : Int) < n := by rw [size_mk]; exact hlt
            have HWh := Lib.hid HW
            clear HW
            go_wp2_with (first | (refine build_to rfl 24 _ rfl #[.int .i64 0, .slice none 0 0, .bool false] (by kernel_rfl) ?_) | ((refine wpList_store_row rfl 24 _ _ rfl w.heap.size #[.int .i64 0, .slice none 0 0, .bool false] rfl rfl 24 #[.int .i64 0, .slice none 0 0, .bool false] HWh.out.z info24 rfl one24 ?_); refine Hid.out ?_))
            refine Lib.hid ?_
            have f1 := setRow_heap w5 w.heap.size _ #[.int .i64 0, .slice none 0 0, .bool false] 24 _ HWh.out.z
            have f2 := below_setRow HWh.out.below (Nat.le_refl _) #[.int .i64 0, .slice none 0 0, .bool false]
            have F1 := Lib.hid f1
            clear f1
            generalize w5.setRow w.heap.size #[.int .i64 0, .slice none 0 0, .bool false] = wz at F1 f2
            go_wp2
            have ET : takeS s = (0, [], false, 0, 3) := by rw [HE.out]; rw [if_neg (by simp), if_neg (by simp)]; rw [if_neg (by simp)]; exact if_pos hlt
            refine bodyPost_ret (v := .tuple #[.agg #[.int .i64 0, .slice none 0 0, .bool false], .int .i64 0, .int .i64 3]) (results_ctt (p := 2) (u := 3) (v := 4) rfl _ _ w.heap.size 24 #[.int .i64 0, .slice none 0 0, .bool false] (0, 0) _ rfl F1.out Tryd.underlying24 rfl info24) rfl ?_
            exact fin_err ET (by first | assumption | decide) f2
          · have hz : (⟨r0.toArray⟩ : ByteArray).size = r0.length := size_mk _
            have hlt2 : ¬ ((⟨r0.toArray⟩ : ByteArray).size : Int) < n := by rw [size_mk]; exact hlt
            have hn2 : n ≤ ((⟨r0.toArray⟩ : ByteArray).size : Int) := by omega
            have HWh := Lib.hid HW
            have hsl : (⟨r0.toArray⟩ : ByteArray).extract 0 n.toNat = ⟨(r0.take n.toNat).toArray⟩ := extract_take _ _
            have ET : takeS s = (st, r0.take n.toNat, false, (s.length : Int) - r0.length + n, 0) := by rw [HE.out]; rw [if_neg (by simp), if_neg (by simp)]; rw [if_neg (by simp)]; exact if_neg hlt
            have HET := Lib.hid ET
            have HSL := Lib.hid hsl
            have hw1 : wrap64 ((l.length : Int) - ((⟨r0.toArray⟩ : ByteArray).size : Int)) = (l.length : Int) - ((⟨r0.toArray⟩ : ByteArray).size : Int) := by unfold wrap64; omega
            have hw2 : wrap64 ((l.length : Int) - ((⟨r0.toArray⟩ : ByteArray).size : Int) + n) = (l.length : Int) - ((⟨r0.toArray⟩ : ByteArray).size : Int) + n := by unfold wrap64; omega
            have hbz : ((⟨r0.toArray⟩ : ByteArray).extract 0 n.toNat).size ≤ 140737488355328 := by rw [hsl, size_mk, List.length_take]; omega
            have HBZ := Lib.hid hbz
            have HNZ : Hid ((l.length : Int) - ((⟨r0.toArray⟩ : ByteArray).size : Int) + n = (s.length : Int) - r0.length + n) := Lib.hid (by rw [hz, HN.out])
            clear hz hsl ET HW hbz hlt
            generalize (⟨r0.toArray⟩ : ByteArray) = sr at *
            go_wp2_with (refine upon_conv 9 22 _ Tryd.underlying9 Tryd.underlying22 Tryd.underlying5 HBZ.out ?_; intro v6 w6 HO HB6; refine Hid.out ?_)
            refine Lib.hid ?_
            have HW6 := HWh.out.step HB6
            obtain ⟨g6, m6, cap6, rfl⟩ := HO.form
            obtain ⟨⟨q0, q1, q2⟩, y0, y1, y2⟩ := HW6.cells
            have r6 : (w6.setCell ⟨w.heap.size + 1, 1, none⟩ (.slice (some ⟨g6, 0, none⟩) m6 cap6)).heap[w.heap.size + 1]? = some (.cells #[.int .i64 st, (.slice (some ⟨g6, 0, none⟩) m6 cap6), .bool false] 24 (0, 0)) := heap_setCell_same _ _ _ _ _ _ HW6.r
            have z6 : (w6.setCell ⟨w.heap.size + 1, 1, none⟩ (.slice (some ⟨g6, 0, none⟩) m6 cap6)).heap[w.heap.size]? = some (.cells #[.int .i64 0, .slice none 0 0, .bool false] 24 (0, 0)) := (Below.heap_setCell w6 _ _ _ (by simp)).trans HW6.z
            have b6 : Below w.heap.size w (w6.setCell ⟨w.heap.size + 1, 1, none⟩ (.slice (some ⟨g6, 0, none⟩) m6 cap6)) := HW6.below.setCell (Nat.le_succ _) _
            have o6 : OB (w6.setCell ⟨w.heap.size + 1, 1, none⟩ (.slice (some ⟨g6, 0, none⟩) m6 cap6)) (w.heap.size + 1) (.slice (some ⟨g6, 0, none⟩) m6 cap6) (bytesOf (sr.extract 0 n.toNat)) := by
              have hlt := lt_of_block HWh.out.r
              exact (HO.setOther hlt).lower (by omega)
            have R6 := Lib.hid r6
            have Z6 := Lib.hid z6
            have O6 := Lib.hid o6
            have one6 : (#[.int .i64 st, (.slice (some ⟨g6, 0, none⟩) m6 cap6), .bool false] : Array Value).all (·.oneCell') = true := one3 HO
            have ONE := Lib.hid one6
            clear HW6 r6 z6 HO o6 one6
            go_wp2_with (first | (refine wpList_load_row rfl 24 _ rfl (w.heap.size + 1) rfl 24 _ (0, 0) _ R6.out Tryd.underlying24 rfl info24 ?_) | ((refine wpList_store_row rfl 24 _ _ rfl w.heap.size #[.int .i64 st, (.slice (some ⟨g6, 0, none⟩) m6 cap6), .bool false] rfl rfl 24 #[.int .i64 0, .slice none 0 0, .bool false] Z6.out info24 rfl ONE.out ?_); refine Hid.out ?_))
            refine Lib.hid ?_
            have f1 := setRow_heap _ w.heap.size _ #[.int .i64 st, (.slice (some ⟨g6, 0, none⟩) m6 cap6), .bool false] 24 _ Z6.out
            have f2 := below_setRow b6 (Nat.le_refl _) #[.int .i64 st, (.slice (some ⟨g6, 0, none⟩) m6 cap6), .bool false]
            have f3 := O6.out.setRowOther #[.int .i64 st, (.slice (some ⟨g6, 0, none⟩) m6 cap6), .bool false]
            have F1 := Lib.hid f1
            have F3 := Lib.hid f3
            clear f1 f3 O6 R6 Z6 b6
            generalize (w6.setCell ⟨w.heap.size + 1, 1, none⟩ (.slice (some ⟨g6, 0, none⟩) m6 cap6)).setRow w.heap.size #[.int .i64 st, (.slice (some ⟨g6, 0, none⟩) m6 cap6), .bool false] = wz at F1 F3 f2
            go_wp2
            refine bodyPost_ret (v := .tuple #[.agg #[.int .i64 st, (.slice (some ⟨g6, 0, none⟩) m6 cap6), .bool false], .int .i64 ((l.length : Int) - (sr.size : Int) + n), .int .i64 0]) (results_ctt (p := 2) (u := 3) (v := 4) rfl _ _ w.heap.size 24 #[.int .i64 st, (.slice (some ⟨g6, 0, none⟩) m6 cap6), .bool false] (0, 0) _ rfl F1.out Tryd.underlying24 rfl info24) rfl ?_
            exact fin_ok HET.out HNZ.out (by rw [← HSL.out]; exact F3.out) f2
        · have f00 : (f0 != 0) = true := by simpa using h3
          go_wp2_with fail
          refine (cT.out true _).mono ?_
          rintro e6 w6 ⟨rfl, hd6⟩
          have HW := HW.step hd6.below
          clear hd6
          go_wp2_with fail
          refine (cb1.out _).mono ?_
          rintro e7 w7 ⟨rfl, hd7⟩
          have HW := HW.step hd7.below
          clear hd7
          obtain ⟨⟨_, _, c2⟩, _, _, z2⟩ := HW.cells
          by_cases h4 : f1 = 0
          · subst h4
            have en : ends s2 = (r1, 0, true) := by rw [HEn.out]; exact (if_neg h3).trans (if_pos (Or.inl rfl))
            rw [en] at HE
            have HW := HW.set2 true
            clear HEn en
            by_cases hlt : (r1.length : Int) < n
            · have hlt2 : ((⟨r1.toArray⟩ : ByteArray).size : Int) < n := by rw [size_mk]; exact hlt
              have HWh := Lib.hid HW
              clear HW
              go_wp2_with (first | (refine build_to rfl 24 _ rfl #[.int .i64 0, .slice none 0 0, .bool false] (by kernel_rfl) ?_) | ((refine wpList_store_row rfl 24 _ _ rfl w.heap.size #[.int .i64 0, .slice none 0 0, .bool false] rfl rfl 24 #[.int .i64 0, .slice none 0 0, .bool false] HWh.out.z info24 rfl one24 ?_); refine Hid.out ?_))
              refine Lib.hid ?_
              have f1 := setRow_heap (w7.setCell ⟨w.heap.size + 1, 2, none⟩ (.bool true)) w.heap.size _ #[.int .i64 0, .slice none 0 0, .bool false] 24 _ HWh.out.z
              have f2 := below_setRow HWh.out.below (Nat.le_refl _) #[.int .i64 0, .slice none 0 0, .bool false]
              have F1 := Lib.hid f1
              clear f1
              generalize (w7.setCell ⟨w.heap.size + 1, 2, none⟩ (.bool true)).setRow w.heap.size #[.int .i64 0, .slice none 0 0, .bool false] = wz at F1 f2
              go_wp2
              have ET : takeS s = (0, [], false, 0, 3) := by rw [HE.out]; rw [if_neg (by simp), if_neg (by simp)]; rw [if_neg (by simp)]; exact if_pos hlt
              refine bodyPost_ret (v := .tuple #[.agg #[.int .i64 0, .slice none 0 0, .bool false], .int .i64 0, .int .i64 3]) (results_ctt (p := 2) (u := 3) (v := 4) rfl _ _ w.heap.size 24 #[.int .i64 0, .slice none 0 0, .bool false] (0, 0) _ rfl F1.out Tryd.underlying24 rfl info24) rfl ?_
              exact fin_err ET (by first | assumption | decide) f2
            · have hz : (⟨r1.toArray⟩ : ByteArray).size = r1.length := size_mk _
              have hlt2 : ¬ ((⟨r1.toArray⟩ : ByteArray).size : Int) < n := by rw [size_mk]; exact hlt
              have hn2 : n ≤ ((⟨r1.toArray⟩ : ByteArray).size : Int) := by omega
              have HWh := Lib.hid HW
              have hsl : (⟨r1.toArray⟩ : ByteArray).extract 0 n.toNat = ⟨(r1.take n.toNat).toArray⟩ := extract_take _ _
              have ET : takeS s = (st, r1.take n.toNat, true, (s.length : Int) - r1.length + n, 0) := by rw [HE.out]; rw [if_neg (by simp), if_neg (by simp)]; rw [if_neg (by simp)]; exact if_neg hlt
              have HET := Lib.hid ET
              have HSL := Lib.hid hsl
              have hw1 : wrap64 ((l.length : Int) - ((⟨r1.toArray⟩ : ByteArray).size : Int)) = (l.length : Int) - ((⟨r1.toArray⟩ : ByteArray).size : Int) := by unfold wrap64; omega
              have hw2 : wrap64 ((l.length : Int) - ((⟨r1.toArray⟩ : ByteArray).size : Int) + n) = (l.length : Int) - ((⟨r1.toArray⟩ : ByteArray).size : Int) + n := by unfold wrap64; omega
              have hbz : ((⟨r1.toArray⟩ : ByteArray).extract 0 n.toNat).size ≤ 140737488355328 := by rw [hsl, size_mk, List.length_take]; omega
              have HBZ := Lib.hid hbz
              have HNZ : Hid ((l.length : Int) - ((⟨r1.toArray⟩ : ByteArray).size : Int) + n = (s.length : Int) - r1.length + n) := Lib.hid (by rw [hz, HN.out])
              clear hz hsl ET HW hbz hlt
              generalize (⟨r1.toArray⟩ : ByteArray) = sr at *
              go_wp2_with (refine upon_conv 9 22 _ Tryd.underlying9 Tryd.underlying22 Tryd.underlying5 HBZ.out ?_; intro v6 w6 HO HB6; refine Hid.out ?_)
              refine Lib.hid ?_
              have HW6 := HWh.out.step HB6
              obtain ⟨g6, m6, cap6, rfl⟩ := HO.form
              obtain ⟨⟨q0, q1, q2⟩, y0, y1, y2⟩ := HW6.cells
              have r6 : (w6.setCell ⟨w.heap.size + 1, 1, none⟩ (.slice (some ⟨g6, 0, none⟩) m6 cap6)).heap[w.heap.size + 1]? = some (.cells #[.int .i64 st, (.slice (some ⟨g6, 0, none⟩) m6 cap6), .bool true] 24 (0, 0)) := heap_setCell_same _ _ _ _ _ _ HW6.r
              have z6 : (w6.setCell ⟨w.heap.size + 1, 1, none⟩ (.slice (some ⟨g6, 0, none⟩) m6 cap6)).heap[w.heap.size]? = some (.cells #[.int .i64 0, .slice none 0 0, .bool false] 24 (0, 0)) := (Below.heap_setCell w6 _ _ _ (by simp)).trans HW6.z
              have b6 : Below w.heap.size w (w6.setCell ⟨w.heap.size + 1, 1, none⟩ (.slice (some ⟨g6, 0, none⟩) m6 cap6)) := HW6.below.setCell (Nat.le_succ _) _
              have o6 : OB (w6.setCell ⟨w.heap.size + 1, 1, none⟩ (.slice (some ⟨g6, 0, none⟩) m6 cap6)) (w.heap.size + 1) (.slice (some ⟨g6, 0, none⟩) m6 cap6) (bytesOf (sr.extract 0 n.toNat)) := by
                have hlt := lt_of_block HWh.out.r
                exact (HO.setOther hlt).lower (by omega)
              have R6 := Lib.hid r6
              have Z6 := Lib.hid z6
              have O6 := Lib.hid o6
              have one6 : (#[.int .i64 st, (.slice (some ⟨g6, 0, none⟩) m6 cap6), .bool true] : Array Value).all (·.oneCell') = true := one3 HO
              have ONE := Lib.hid one6
              clear HW6 r6 z6 HO o6 one6
              go_wp2_with (first | (refine wpList_load_row rfl 24 _ rfl (w.heap.size + 1) rfl 24 _ (0, 0) _ R6.out Tryd.underlying24 rfl info24 ?_) | ((refine wpList_store_row rfl 24 _ _ rfl w.heap.size #[.int .i64 st, (.slice (some ⟨g6, 0, none⟩) m6 cap6), .bool true] rfl rfl 24 #[.int .i64 0, .slice none 0 0, .bool false] Z6.out info24 rfl ONE.out ?_); refine Hid.out ?_))
              refine Lib.hid ?_
              have f1 := setRow_heap _ w.heap.size _ #[.int .i64 st, (.slice (some ⟨g6, 0, none⟩) m6 cap6), .bool true] 24 _ Z6.out
              have f2 := below_setRow b6 (Nat.le_refl _) #[.int .i64 st, (.slice (some ⟨g6, 0, none⟩) m6 cap6), .bool true]
              have f3 := O6.out.setRowOther #[.int .i64 st, (.slice (some ⟨g6, 0, none⟩) m6 cap6), .bool true]
              have F1 := Lib.hid f1
              have F3 := Lib.hid f3
              clear f1 f3 O6 R6 Z6 b6
              generalize (w6.setCell ⟨w.heap.size + 1, 1, none⟩ (.slice (some ⟨g6, 0, none⟩) m6 cap6)).setRow w.heap.size #[.int .i64 st, (.slice (some ⟨g6, 0, none⟩) m6 cap6), .bool true] = wz at F1 F3 f2
              go_wp2
              refine bodyPost_ret (v := .tuple #[.agg #[.int .i64 st, (.slice (some ⟨g6, 0, none⟩) m6 cap6), .bool true], .int .i64 ((l.length : Int) - (sr.size : Int) + n), .int .i64 0]) (results_ctt (p := 2) (u := 3) (v := 4) rfl _ _ w.heap.size 24 #[.int .i64 st, (.slice (some ⟨g6, 0, none⟩) m6 cap6), .bool true] (0, 0) _ rfl F1.out Tryd.underlying24 rfl info24) rfl ?_
              exact fin_ok HET.out HNZ.out (by rw [← HSL.out]; exact F3.out) f2
          · have f10 : (f1 == 0) = false := by simpa using h4
            have f11 : (f1 != 0) = true := by simpa using h4
            by_cases h5 : f0 = 4
            · subst h5
              have en : ends s2 = (r1, f1, true) := by rw [HEn.out]; exact (if_neg h3).trans (if_pos (Or.inr rfl))
              rw [en] at HE
              have HW := HW.set2 true
              clear HEn en
              have HWh := Lib.hid HW
              clear HW
              go_wp2_with (first | (refine build_to rfl 24 _ rfl #[.int .i64 0, .slice none 0 0, .bool false] (by kernel_rfl) ?_) | ((refine wpList_store_row rfl 24 _ _ rfl w.heap.size #[.int .i64 0, .slice none 0 0, .bool false] rfl rfl 24 #[.int .i64 0, .slice none 0 0, .bool false] HWh.out.z info24 rfl one24 ?_); refine Hid.out ?_))
              refine Lib.hid ?_
              have f1 := setRow_heap (w7.setCell ⟨w.heap.size + 1, 2, none⟩ (.bool true)) w.heap.size _ #[.int .i64 0, .slice none 0 0, .bool false] 24 _ HWh.out.z
              have f2 := below_setRow HWh.out.below (Nat.le_refl _) #[.int .i64 0, .slice none 0 0, .bool false]
              have F1 := Lib.hid f1
              clear f1
              generalize (w7.setCell ⟨w.heap.size + 1, 2, none⟩ (.bool true)).setRow w.heap.size #[.int .i64 0, .slice none 0 0, .bool false] = wz at F1 f2
              go_wp2
              have ET : takeS s = (0, [], false, 0, f1) := by rw [HE.out]; rw [if_neg (by simp), if_neg (by simp)]; exact if_pos h4
              refine bodyPost_ret (v := .tuple #[.agg #[.int .i64 0, .slice none 0 0, .bool false], .int .i64 0, .int .i64 f1]) (results_ctt (p := 2) (u := 3) (v := 4) rfl _ _ w.heap.size 24 #[.int .i64 0, .slice none 0 0, .bool false] (0, 0) _ rfl F1.out Tryd.underlying24 rfl info24) rfl ?_
              exact fin_err ET (by first | assumption | decide) f2
            · have f04 : (f0 == 4) = false := by simpa using h5
              have en : ends s2 = (r0, f0, false) := by rw [HEn.out]; exact (if_neg h3).trans (if_neg (fun h => h.elim h4 h5))
              rw [en] at HE
              clear HEn en
              have HWh := Lib.hid HW
              clear HW
              go_wp2_with (first | (refine build_to rfl 24 _ rfl #[.int .i64 0, .slice none 0 0, .bool false] (by kernel_rfl) ?_) | ((refine wpList_store_row rfl 24 _ _ rfl w.heap.size #[.int .i64 0, .slice none 0 0, .bool false] rfl rfl 24 #[.int .i64 0, .slice none 0 0, .bool false] HWh.out.z info24 rfl one24 ?_); refine Hid.out ?_))
              refine Lib.hid ?_
              have f1 := setRow_heap w7 w.heap.size _ #[.int .i64 0, .slice none 0 0, .bool false] 24 _ HWh.out.z
              have f2 := below_setRow HWh.out.below (Nat.le_refl _) #[.int .i64 0, .slice none 0 0, .bool false]
              have F1 := Lib.hid f1
              clear f1
              generalize w7.setRow w.heap.size #[.int .i64 0, .slice none 0 0, .bool false] = wz at F1 f2
              go_wp2
              have ET : takeS s = (0, [], false, 0, f0) := by rw [HE.out]; rw [if_neg (by simp), if_neg (by simp)]; exact if_pos h3
              refine bodyPost_ret (v := .tuple #[.agg #[.int .i64 0, .slice none 0 0, .bool false], .int .i64 0, .int .i64 f0]) (results_ctt (p := 2) (u := 3) (v := 4) rfl _ _ w.heap.size 24 #[.int .i64 0, .slice none 0 0, .bool false] (0, 0) _ rfl F1.out Tryd.underlying24 rfl info24) rfl ?_
              exact fin_err ET (by first | assumption | decide) f2
      · have h22 : (e2 != 0) = true := by simpa using h2
        have HWh := Lib.hid HW
        clear HW
        go_wp2_with (first | (refine build_to rfl 24 _ rfl #[.int .i64 0, .slice none 0 0, .bool false] (by kernel_rfl) ?_) | ((refine wpList_store_row rfl 24 _ _ rfl w.heap.size #[.int .i64 0, .slice none 0 0, .bool false] rfl rfl 24 #[.int .i64 0, .slice none 0 0, .bool false] HWh.out.z info24 rfl one24 ?_); refine Hid.out ?_))
        refine Lib.hid ?_
        have f1 := setRow_heap w3 w.heap.size _ #[.int .i64 0, .slice none 0 0, .bool false] 24 _ HWh.out.z
        have f2 := below_setRow HWh.out.below (Nat.le_refl _) #[.int .i64 0, .slice none 0 0, .bool false]
        have F1 := Lib.hid f1
        clear f1
        generalize w3.setRow w.heap.size #[.int .i64 0, .slice none 0 0, .bool false] = wz at F1 f2
        go_wp2
        have ET : takeS s = (0, [], false, 0, e2) := by rw [HE.out]; exact (if_neg (by simp)).trans (if_pos h2)
        refine bodyPost_ret (v := .tuple #[.agg #[.int .i64 0, .slice none 0 0, .bool false], .int .i64 0, .int .i64 e2]) (results_ctt (p := 2) (u := 3) (v := 4) rfl _ _ w.heap.size 24 #[.int .i64 0, .slice none 0 0, .bool false] (0, 0) _ rfl F1.out Tryd.underlying24 rfl info24) rfl ?_
        exact fin_err ET (by first | assumption | decide) f2
    · have h11 : (e1 != 0) = true := by simpa using h1
      have HWh := Lib.hid HW
      clear HW
      go_wp2_with (first | (refine build_to rfl 24 _ rfl #[.int .i64 0, .slice none 0 0, .bool false] (by kernel_rfl) ?_) | ((refine wpList_store_row rfl 24 _ _ rfl w.heap.size #[.int .i64 0, .slice none 0 0, .bool false] rfl rfl 24 #[.int .i64 0, .slice none 0 0, .bool false] HWh.out.z info24 rfl one24 ?_); refine Hid.out ?_))
      refine Lib.hid ?_
      have f1 := setRow_heap wc w.heap.size _ #[.int .i64 0, .slice none 0 0, .bool false] 24 _ HWh.out.z
      have f2 := below_setRow HWh.out.below (Nat.le_refl _) #[.int .i64 0, .slice none 0 0, .bool false]
      have F1 := Lib.hid f1
      clear f1
      generalize wc.setRow w.heap.size #[.int .i64 0, .slice none 0 0, .bool false] = wz at F1 f2
      go_wp2
      have ET : takeS s = (0, [], false, 0, e1) := by rw [HE.out]; exact if_pos h1
      refine bodyPost_ret (v := .tuple #[.agg #[.int .i64 0, .slice none 0 0, .bool false], .int .i64 0, .int .i64 e1]) (results_ctt (p := 2) (u := 3) (v := 4) rfl _ _ w.heap.size 24 #[.int .i64 0, .slice none 0 0, .bool false] (0, 0) _ rfl F1.out Tryd.underlying24 rfl info24) rfl ?_
      exact fin_err ET (by first | assumption | decide) f2
end Go.Proofs.YtnohcfgjhgfjkaaDoor.S
