/-
  reply.Bytes and its reference, walked.
-/
import Derived.Test.YtnohcfgjhgfjkaaDoorRep25c
import Derived.Test.YtnohcfgjhgfjkaaDoorOwnB
import Derived.Deep.RegionHeld3
namespace Go.Proofs.YtnohcfgjhgfjkaaDoor.S
open Go.RowKit Go.Proofs.YtnohcfgjhgfjkaaDoorW.PrintWords
set_option linter.unusedVariables false
set_option linter.unusedSimpArgs false
section
variable {P : Program} {ops : Array Oper} {o : Oper} {a : Act} {K : Act → World → Prop} {Q : Exit → Act → World → Prop} {E : Prop} {w : World}
theorem step_app {base : Nat} {v : Value} {xs : List Int} {A : Option Addr} {m c : Nat} {ys : List Int} (hgd : o.guard = none) (s x : Operand) (t : TypeId)
    (ho : o.op = .call { callee := .builtin .append, args := #[s, x], argTypes := #[t, t] }) (ht : P.underlying t = some (.slice 5)) (hinfo : (P.info? 5).map (fun i => (i.zero, i.size, i.bytes)) = some (some (.int .u8 0), 1, 1))
    (hs : a.eval s = v) (hx : a.eval x = .slice A m c) (HO : OB w base v xs) (hR : ReadsInt w .u8 A m ys) (hl : xs.length + m ≤ 140737488355328) (h0 : 0 < xs.length) (hbase : base ≤ w.heap.size)
    (h : ∀ v1 w1, OB w1 base v1 (xs ++ ys) → Below base w w1 → K (a.put o.dst v1) w1) : if Region.wanted o (yielded ops a.tmps) = true then Oper.wp P o a w K Q else E := by
  rw [if_pos (by simp [Region.wanted, hgd])]
  obtain ⟨v1, w1, hr, h2, h3⟩ := run_app_ob (P := P) t o.type ht hinfo HO hR hl h0 hbase
  unfold Oper.wp execOp
  simp only [ho, resolve, invoke, builtin, Sem.run_bind, Sem.run_pure, Result.andThen_ok, List.map_toArray, List.map_cons, List.map_nil, hs, hx]
  rw [hr]
  exact h v1 w1 h2 h3
theorem upon_conv {F : Value → World → Result Next} (src dst : TypeId) (s : ByteArray) (hs : P.underlying src = some .string) (hd : P.underlying dst = some (.slice 5)) (he : P.underlying 5 = some (.int .u8)) (hl : s.size ≤ 140737488355328)
    (h : ∀ v1 w1, OB w1 w.heap.size v1 (bytesOf s) → Below w.heap.size w w1 → Oper.upon P o a K Q (F v1 w1)) : Oper.upon P o a K Q ((Sem.run P (convert src dst (.string s)) w).andThen F) := by
  obtain ⟨v1, w1, hr, h2, h3⟩ := run_conv_ob (P := P) w src dst s hs hd he hl
  rw [hr]
  exact h v1 w1 h2 h3
end
/-- An answer's bytes. -/
def repB (st : Int) (c : Bool) (l : List Int) : List Int := bytesOf ⟨(wholeL st l.length c).toArray⟩ ++ l
theorem bytesOf_len (l : List UInt8) : (bytesOf ⟨l.toArray⟩).length = l.length := by unfold bytesOf; simp
theorem info5 : (Tryd.prog.info? 5).map (fun i => (i.zero, i.size, i.bytes)) = some (some (.int .u8 0), 1, 1) := by kernel_rfl
theorem wholeL_pos (st n : Int) (c : Bool) : 0 < (wholeL st n c).length := by unfold wholeL headL; simp
theorem tailL_len (c : Bool) : (tailL c).length ≤ 23 := by cases c <;> decide
theorem headL_len (st : Int) (h0 : -9223372036854775808 ≤ st) (h1 : st ≤ 9223372036854775807) : (headL st).length ≤ 80 := by
  have := rs_len st
  have := Lib.itoa_length_le st h0 h1
  unfold headL; simp; omega
/-- What a struct's block says, and what is under it. -/
theorem keep4 {w0 w1 w2 : World} {g : Nat} {u0 u1 u2 : Value} (h : w1.cell? ⟨g, 0, none⟩ = some u0 ∧ w1.cell? ⟨g, 1, none⟩ = some u1 ∧ w1.cell? ⟨g, 2, none⟩ = some u2 ∧ Below w0.heap.size w0 w1) (hb : Below w1.heap.size w1 w2) :
    w2.cell? ⟨g, 0, none⟩ = some u0 ∧ w2.cell? ⟨g, 1, none⟩ = some u1 ∧ w2.cell? ⟨g, 2, none⟩ = some u2 ∧ Below w0.heap.size w0 w2 :=
  ⟨pw_cell_below hb h.1, pw_cell_below hb h.2.1, pw_cell_below hb h.2.2.1, bthen h.2.2.2 hb⟩
theorem keep4b {w0 w1 w2 : World} {g B : Nat} {u0 u1 u2 : Value} (h : w1.cell? ⟨g, 0, none⟩ = some u0 ∧ w1.cell? ⟨g, 1, none⟩ = some u1 ∧ w1.cell? ⟨g, 2, none⟩ = some u2 ∧ Below w0.heap.size w0 w1) (hg : g < B) (hw : w0.heap.size ≤ B) (hb : Below B w1 w2) :
    w2.cell? ⟨g, 0, none⟩ = some u0 ∧ w2.cell? ⟨g, 1, none⟩ = some u1 ∧ w2.cell? ⟨g, 2, none⟩ = some u2 ∧ Below w0.heap.size w0 w2 :=
  ⟨(hb.cell hg).trans h.1, (hb.cell hg).trans h.2.1, (hb.cell hg).trans h.2.2.1, h.2.2.2.trans (hb.mono hw)⟩
theorem blk4 {w0 w1 : World} {g : Nat} {u0 u1 u2 : Value} (h : w1.cell? ⟨g, 0, none⟩ = some u0 ∧ w1.cell? ⟨g, 1, none⟩ = some u1 ∧ w1.cell? ⟨g, 2, none⟩ = some u2 ∧ Below w0.heap.size w0 w1) : g < w1.heap.size ∧ w0.heap.size ≤ w1.heap.size := ⟨World.block_lt_of_cell? _ _ h.1, h.2.2.2.size⟩
theorem b4 {w0 w1 : World} {g : Nat} {u0 u1 u2 : Value} (h : w1.cell? ⟨g, 0, none⟩ = some u0 ∧ w1.cell? ⟨g, 1, none⟩ = some u1 ∧ w1.cell? ⟨g, 2, none⟩ = some u2 ∧ Below w0.heap.size w0 w1) : Below w0.heap.size w0 w1 := h.2.2.2
set_option maxHeartbeats 2000000 in
set_option maxRecDepth 100000 in
theorem bytes_bad (st : Int) (c : Bool) (A : Option Addr) (n cap : Nat) (w : World) (hst : rs st = []) :
    Calls Tryd.prog 9 #[.agg #[.int .i64 st, .slice A n cap, .bool c]] w fun e w' => e = .returned (.tuple #[.slice none 0 0, .int .i64 1]) ∧ Below w.heap.size w w' := by
  have cR : Hid (∀ w, Calls Tryd.prog 11 #[.int .i64 st] w fun e w' => e = .returned (.string ⟨#[]⟩) ∧ Drawn0 w w') := Lib.hid fun w => reply_Reason.calls st _ w (by rw [reason_f, hst])
  go_enter Tryd.func9, Tryd.ntmps9
  go_wp2_with fail
  refine (cR.out _).mono ?_
  rintro e w2 ⟨rfl, hb2⟩
  go_wp2
  go_ret2
  exact ⟨rfl, bthen (below_alloc (Below.refl _ _) _) hb2.below⟩
set_option maxHeartbeats 2000000 in
set_option maxRecDepth 100000 in
theorem bytes_ok (st : Int) (c : Bool) (A : Option Addr) (cap : Nat) (l : List Int) (w : World) (h0 : -9223372036854775808 ≤ st) (h1 : st ≤ 9223372036854775807) (hst : rs st ≠ []) (hR : ReadsInt w .u8 A l.length l) (hlen : l.length ≤ 1048576) (hT : Tabs w) :
    Calls Tryd.prog 9 #[.agg #[.int .i64 st, .slice A l.length cap, .bool c]] w fun e w' => ∃ v, e = .returned (.tuple #[v, .int .i64 0]) ∧ OB w' w.heap.size v (repB st c l) ∧ Below w.heap.size w w' := by
  have cR : Hid (∀ w, Calls Tryd.prog 11 #[.int .i64 st] w fun e w' => e = .returned (.string ⟨(rs st).toArray⟩) ∧ Drawn0 w w') := Lib.hid fun w => reply_Reason.calls st _ w (reason_f st)
  have cH : Hid (∀ w, Tabs w → Calls Tryd.prog 19 #[.int .i64 st] w fun e w' => e = .returned (.string ⟨(headL st).toArray⟩) ∧ Below w.heap.size w w') := Lib.hid fun w hT => head_any st h0 h1 w hT
  have cP : Hid (∀ w, Tabs w → Calls Tryd.prog 20 #[.int .i64 l.length] w fun e w' => e = .returned (.string ⟨(Lib.itoa l.length).toArray⟩) ∧ Below w.heap.size w w') := Lib.hid fun w hT => names_Print.calls _ _ w (print_f _ (by omega) (by omega)) hT
  have cT : Hid (∀ w, Calls Tryd.prog 21 #[.bool c] w fun e w' => e = .returned (.string ⟨(tailL c).toArray⟩) ∧ Drawn0 w w') := Lib.hid fun w => reply_tail.calls _ _ w (tail_f c)
  have hne : ((⟨(rs st).toArray⟩ : ByteArray).toList == []) = false := by rw [Lib.toList_data]; simpa using hst
  have z1 : (⟨(headL st).toArray⟩ : ByteArray).size ≤ 80 := by rw [size_mk]; exact headL_len st h0 h1
  have z2 : (⟨(Lib.itoa l.length).toArray⟩ : ByteArray).size ≤ 21 := by rw [size_mk]; exact Lib.itoa_length_le _ (by omega) (by omega)
  have z3 : (⟨(tailL c).toArray⟩ : ByteArray).size ≤ 23 := by rw [size_mk]; exact tailL_len c
  have e : (⟨(wholeL st l.length c).toArray⟩ : ByteArray) = (⟨(headL st).toArray⟩ ++ ⟨(Lib.itoa l.length).toArray⟩) ++ ⟨(tailL c).toArray⟩ := by
    unfold wholeL; apply ByteArray.ext; simp
  have hpos := wholeL_pos st l.length c
  rw [← size_mk] at hpos
  unfold repB
  rw [e] at hpos ⊢
  clear e hst
  have HR := Lib.hid hR
  have HT := Lib.hid hT
  clear hR hT h0 h1
  generalize (⟨(headL st).toArray⟩ : ByteArray) = s1 at *
  generalize (⟨(Lib.itoa l.length).toArray⟩ : ByteArray) = s2 at *
  generalize (⟨(tailL c).toArray⟩ : ByteArray) = s3 at *
  generalize (⟨(rs st).toArray⟩ : ByteArray) = s4 at *
  have hbl : (bytesOf (s1 ++ s2 ++ s3)).length = (s1 ++ s2 ++ s3).size := by unfold bytesOf; simp; omega
  have hl3 : (s1 ++ s2 ++ s3).size ≤ 124 := by simp only [ByteArray.size_append]; omega
  have HL : Hid ((bytesOf (s1 ++ s2 ++ s3)).length + l.length ≤ 140737488355328 ∧ 0 < (bytesOf (s1 ++ s2 ++ s3)).length) := Lib.hid ⟨by omega, by omega⟩
  clear hpos hbl hl3
  have f1 : (9223372036854775807 < s1.size + s2.size) = False := eq_false (by omega)
  have f2 : (s1.size + s2.size ≤ 9223372036854775807) = True := eq_true (by omega)
  have f3 : (9223372036854775807 < s1.size + s2.size + s3.size) = False := eq_false (by omega)
  have f4 : (s1.size + s2.size + s3.size ≤ 9223372036854775807) = True := eq_true (by omega)
  go_enter Tryd.func9, Tryd.ntmps9
  go_wp2_with fail
  refine (cR.out _).mono ?_
  rintro e w2 ⟨rfl, hb2⟩
  have hbe : Below w.heap.size w w2 := bthen (below_alloc (Below.refl _ _) _) hb2.below
  have k0 : w2.cell? ⟨w.heap.size, 0, none⟩ = some (.int .i64 st) := pw_cell_below hb2.below (by simp [World.cell?_alloc_new])
  have k1 : w2.cell? ⟨w.heap.size, 1, none⟩ = some (.slice A l.length cap) := pw_cell_below hb2.below (by simp [World.cell?_alloc_new])
  have k2 : w2.cell? ⟨w.heap.size, 2, none⟩ = some (.bool c) := pw_cell_below hb2.below (by simp [World.cell?_alloc_new])
  clear hb2
  go_wp2_with fail
  refine wp_region_noPanic ?_
  refine wp_region_held_drew (S := (fun w' => w'.cell? ⟨w.heap.size, 0, none⟩ = some (.int .i64 st) ∧ w'.cell? ⟨w.heap.size, 1, none⟩ = some (.slice A l.length cap) ∧ w'.cell? ⟨w.heap.size, 2, none⟩ = some (.bool c) ∧ Below w.heap.size w w')) (by kernel_rfl) ?_ (fun hHeld => ?_)
  · (try dsimp only); (first | exact ⟨k0, k1, k2, hbe⟩ | exact ⟨k0, k1, k2, hbe.drew⟩ | exact keep4 hHeld (by assumption) | exact keep4b hHeld hlt6 hle6 HB7)
  refine wpAnyH_take (i := 0) (oi := { dst := some 8, op := Op.fieldAddr 24 (Operand.tmp 1) 0, type := 0, pos := "reply.go:68", after := #[], guard := none }) (v := ?_) rfl (by kernel_rfl) (by kernel_rfl) (by kernel_rfl) (fun _ _ _ h => h) (Or.inl ⟨by rfl, ?_⟩) (by assumption) ?_
  rotate_left
  · intro w hSw; (try dsimp only at hSw); first | (go_simp; done) | (go_simp; with_reducible rfl)
  try simp only [Act.put, List.setIfInBounds_toArray, List.set_cons_zero, List.set_cons_succ]
  refine wpAnyH_take (i := 1) (oi := { dst := some 9, op := Op.load 3 (Operand.tmp 8), type := 3, pos := "reply.go:68", after := #[{ on := 0, ground := Ground.data }], guard := none }) (v := ?_) rfl (by kernel_rfl) (by kernel_rfl) (by kernel_rfl) (fun _ _ _ h => h) (Or.inl ⟨by rfl, ?_⟩) (by assumption) ?_
  rotate_left
  · intro w hSw; (try dsimp only at hSw); first | (go_simp; done) | (go_simp; with_reducible rfl)
  try simp only [Act.put, List.setIfInBounds_toArray, List.set_cons_zero, List.set_cons_succ]
  refine wpAnyH_take (i := 3) (oi := { dst := some 11, op := Op.fieldAddr 24 (Operand.tmp 1) 1, type := 0, pos := "reply.go:68", after := #[], guard := none }) (v := ?_) rfl (by kernel_rfl) (by kernel_rfl) (by kernel_rfl) (fun _ _ _ h => h) (Or.inl ⟨by rfl, ?_⟩) (by assumption) ?_
  rotate_left
  · intro w hSw; (try dsimp only at hSw); first | (go_simp; done) | (go_simp; with_reducible rfl)
  try simp only [Act.put, List.setIfInBounds_toArray, List.set_cons_zero, List.set_cons_succ]
  refine wpAnyH_take (i := 4) (oi := { dst := some 12, op := Op.load 22 (Operand.tmp 11), type := 22, pos := "reply.go:68", after := #[{ on := 3, ground := Ground.data }], guard := none }) (v := ?_) rfl (by kernel_rfl) (by kernel_rfl) (by kernel_rfl) (fun _ _ _ h => h) (Or.inl ⟨by rfl, ?_⟩) (by assumption) ?_
  rotate_left
  · intro w hSw; (try dsimp only at hSw); first | (go_simp; done) | (go_simp; with_reducible rfl)
  try simp only [Act.put, List.setIfInBounds_toArray, List.set_cons_zero, List.set_cons_succ]
  refine wpAnyH_take (i := 5) (oi := { dst := some 13, op := Op.call { callee := Callee.builtin Builtin.len, args := #[Operand.tmp 12], argTypes := #[22] }, type := 3, pos := "reply.go:68", after := #[{ on := 4, ground := Ground.data }], guard := none }) (v := ?_) rfl (by kernel_rfl) (by kernel_rfl) (by kernel_rfl) (fun _ _ _ h => h) (Or.inl ⟨by rfl, ?_⟩) (by assumption) ?_
  rotate_left
  · intro w hSw; (try dsimp only at hSw); first | (go_simp; done) | (go_simp; with_reducible rfl)
  try simp only [Act.put, List.setIfInBounds_toArray, List.set_cons_zero, List.set_cons_succ]
  refine wpAnyH_take (i := 8) (oi := { dst := some 16, op := Op.fieldAddr 24 (Operand.tmp 1) 2, type := 0, pos := "reply.go:68", after := #[], guard := none }) (v := ?_) rfl (by kernel_rfl) (by kernel_rfl) (by kernel_rfl) (fun _ _ _ h => h) (Or.inl ⟨by rfl, ?_⟩) (by assumption) ?_
  rotate_left
  · intro w hSw; (try dsimp only at hSw); first | (go_simp; done) | (go_simp; with_reducible rfl)
  try simp only [Act.put, List.setIfInBounds_toArray, List.set_cons_zero, List.set_cons_succ]
  refine wpAnyH_take (i := 9) (oi := { dst := some 17, op := Op.load 4 (Operand.tmp 16), type := 4, pos := "reply.go:68", after := #[{ on := 8, ground := Ground.data }], guard := none }) (v := ?_) rfl (by kernel_rfl) (by kernel_rfl) (by kernel_rfl) (fun _ _ _ h => h) (Or.inl ⟨by rfl, ?_⟩) (by assumption) ?_
  rotate_left
  · intro w hSw; (try dsimp only at hSw); first | (go_simp; done) | (go_simp; with_reducible rfl)
  try simp only [Act.put, List.setIfInBounds_toArray, List.set_cons_zero, List.set_cons_succ]
  refine wpAnyH_take (i := 13) (oi := { dst := some 21, op := Op.fieldAddr 24 (Operand.tmp 1) 1, type := 0, pos := "reply.go:68", after := #[], guard := none }) (v := ?_) rfl (by kernel_rfl) (by kernel_rfl) (by kernel_rfl) (fun _ _ _ h => h) (Or.inl ⟨by rfl, ?_⟩) (by assumption) ?_
  rotate_left
  · intro w hSw; (try dsimp only at hSw); first | (go_simp; done) | (go_simp; with_reducible rfl)
  try simp only [Act.put, List.setIfInBounds_toArray, List.set_cons_zero, List.set_cons_succ]
  refine wpAnyH_take (i := 14) (oi := { dst := some 22, op := Op.load 22 (Operand.tmp 21), type := 22, pos := "reply.go:68", after := #[{ on := 13, ground := Ground.data }], guard := none }) (v := ?_) rfl (by kernel_rfl) (by kernel_rfl) (by kernel_rfl) (fun _ _ _ h => h) (Or.inl ⟨by rfl, ?_⟩) (by assumption) ?_
  rotate_left
  · intro w hSw; (try dsimp only at hSw); first | (go_simp; done) | (go_simp; with_reducible rfl)
  try simp only [Act.put, List.setIfInBounds_toArray, List.set_cons_zero, List.set_cons_succ]
  refine wpAnyH_ready (rs := [2]) (by kernel_rfl) (by simp) ?_
  refine AllReadyH.cons (o := { dst := some 10, op := Op.call { callee := Callee.value (Operand.func 19), args := #[Operand.tmp 9], argTypes := #[3] }, type := 9, pos := "reply.go:68", after := #[{ on := 1, ground := Ground.data }], guard := none }) rfl (fun K hK => ?_) AllReadyH.nil
  go_simp
  go_at_call 19
  refine (cH.out _ (HT.out.below (b4 hHeld))).mono ?_
  rintro e w3 ⟨rfl, hb_w3⟩
  go_wp2_with fail
  refine hK.out _ _ ?_ (fun hHeld2 => ?_)
  · (try dsimp only); (first | exact ⟨k0, k1, k2, hbe⟩ | exact ⟨k0, k1, k2, hbe.drew⟩ | exact keep4 hHeld (by assumption) | exact keep4b hHeld hlt6 hle6 HB7)
  clear hK K hHeld
  have hHeld := hHeld2
  clear hHeld2
  try simp only [Act.put, List.setIfInBounds_toArray, List.set_cons_zero, List.set_cons_succ]
  refine wpAnyH_ready (rs := [6]) (by kernel_rfl) (by simp) ?_
  refine AllReadyH.cons (o := { dst := some 14, op := Op.call { callee := Callee.value (Operand.func 20), args := #[Operand.tmp 13], argTypes := #[2] }, type := 9, pos := "reply.go:68", after := #[{ on := 5, ground := Ground.data }, { on := 2, ground := Ground.chain }], guard := none }) rfl (fun K hK => ?_) AllReadyH.nil
  go_simp
  go_at_call 20
  refine (cP.out _ (HT.out.below (b4 hHeld))).mono ?_
  rintro e w4 ⟨rfl, hb_w4⟩
  go_wp2_with fail
  refine hK.out _ _ ?_ (fun hHeld2 => ?_)
  · (try dsimp only); (first | exact ⟨k0, k1, k2, hbe⟩ | exact ⟨k0, k1, k2, hbe.drew⟩ | exact keep4 hHeld (by assumption) | exact keep4b hHeld hlt6 hle6 HB7)
  clear hK K hHeld
  have hHeld := hHeld2
  clear hHeld2
  try simp only [Act.put, List.setIfInBounds_toArray, List.set_cons_zero, List.set_cons_succ]
  refine wpAnyH_take (i := 7) (oi := { dst := some 15, op := Op.binOp BinOp.add 9 (Operand.tmp 10) (Operand.tmp 14) 9, type := 9, pos := "reply.go:68", after := #[{ on := 2, ground := Ground.data }, { on := 6, ground := Ground.data }], guard := none }) (v := ?_) rfl (by kernel_rfl) (by kernel_rfl) (by kernel_rfl) (fun _ _ _ h => h) (Or.inl ⟨by rfl, ?_⟩) (by assumption) ?_
  rotate_left
  · intro w hSw; (try dsimp only at hSw); first | (go_simp; done) | (go_simp; with_reducible rfl)
  try simp only [Act.put, List.setIfInBounds_toArray, List.set_cons_zero, List.set_cons_succ]
  refine wpAnyH_ready (rs := [10]) (by kernel_rfl) (by simp) ?_
  refine AllReadyH.cons (o := { dst := some 18, op := Op.call { callee := Callee.value (Operand.func 21), args := #[Operand.tmp 17], argTypes := #[4] }, type := 9, pos := "reply.go:68", after := #[{ on := 9, ground := Ground.data }, { on := 6, ground := Ground.chain }], guard := none }) rfl (fun K hK => ?_) AllReadyH.nil
  go_simp
  go_at_call 21
  refine (cT.out _).mono ?_
  rintro e w5 ⟨rfl, hb_w5⟩
  replace hb_w5 := hb_w5.below
  go_wp2_with fail
  refine hK.out _ _ ?_ (fun hHeld2 => ?_)
  · (try dsimp only); (first | exact ⟨k0, k1, k2, hbe⟩ | exact ⟨k0, k1, k2, hbe.drew⟩ | exact keep4 hHeld (by assumption) | exact keep4b hHeld hlt6 hle6 HB7)
  clear hK K hHeld
  have hHeld := hHeld2
  clear hHeld2
  try simp only [Act.put, List.setIfInBounds_toArray, List.set_cons_zero, List.set_cons_succ]
  refine wpAnyH_take (i := 11) (oi := { dst := some 19, op := Op.binOp BinOp.add 9 (Operand.tmp 15) (Operand.tmp 18) 9, type := 9, pos := "reply.go:68", after := #[{ on := 7, ground := Ground.data }, { on := 10, ground := Ground.data }], guard := none }) (v := ?_) rfl (by kernel_rfl) (by kernel_rfl) (by kernel_rfl) (fun _ _ _ h => h) (Or.inl ⟨by rfl, ?_⟩) (by assumption) ?_
  rotate_left
  · intro w hSw; (try dsimp only at hSw); first | (go_simp; done) | (go_simp; with_reducible rfl)
  try simp only [Act.put, List.setIfInBounds_toArray, List.set_cons_zero, List.set_cons_succ]
  refine wpAnyH_ready (rs := [12]) (by kernel_rfl) (by simp) ?_
  refine AllReadyH.cons (o := { dst := some 20, op := Op.convert 9 22 (Operand.tmp 19), type := 22, pos := "reply.go:68", after := #[{ on := 11, ground := Ground.data }], guard := none }) rfl (fun K hK => ?_) AllReadyH.nil
  go_simp
  obtain ⟨hlt6, hle6⟩ := blk4 hHeld
  refine upon_conv 9 22 _ Tryd.underlying9 Tryd.underlying22 Tryd.underlying5 (by clear f1 f2 f3 f4; simp only [ByteArray.size_append]; omega) ?_
  intro v6 w6 HO HB6
  go_wp2_with fail
  refine hK.out _ _ ?_ (fun hHeld2 => ?_)
  · (try dsimp only); (first | exact ⟨k0, k1, k2, hbe⟩ | exact ⟨k0, k1, k2, hbe.drew⟩ | exact keep4 hHeld (by assumption) | exact keep4b hHeld hlt6 hle6 HB7)
  clear hK K hHeld
  have hHeld := hHeld2
  clear hHeld2
  try simp only [Act.put, List.setIfInBounds_toArray, List.set_cons_zero, List.set_cons_succ]
  refine wpAnyH_ready (rs := [15]) (by kernel_rfl) (by simp) ?_
  refine AllReadyH.cons (o := { dst := some 23, op := Op.call { callee := Callee.builtin Builtin.append, args := #[Operand.tmp 20, Operand.tmp 22], argTypes := #[22, 22] }, type := 22, pos := "reply.go:68", after := #[{ on := 12, ground := Ground.data }, { on := 14, ground := Ground.data }, { on := 10, ground := Ground.chain }], guard := none }) rfl (fun K hK => ?_) AllReadyH.nil
  refine step_app rfl _ _ 22 rfl Tryd.underlying22 info5 rfl rfl HO (HR.out.below (b4 hHeld)) HL.out.1 HL.out.2 HB6.size ?_
  intro v7 w7 HO7 HB7
  refine hK.out _ _ ?_ (fun hHeld2 => ?_)
  · (try dsimp only); (first | exact ⟨k0, k1, k2, hbe⟩ | exact ⟨k0, k1, k2, hbe.drew⟩ | exact keep4 hHeld (by assumption) | exact keep4b hHeld hlt6 hle6 HB7)
  clear hK K hHeld
  have hHeld := hHeld2
  clear hHeld2
  try simp only [Act.put, List.setIfInBounds_toArray, List.set_cons_zero, List.set_cons_succ]
  refine wpAnyH_take (i := 16) (oi := { dst := some 2, op := Op.assign (Operand.tmp 23), type := 22, pos := "reply.go:68", after := #[{ on := 15, ground := Ground.data }, { on := 15, ground := Ground.chain }, { on := 0, ground := Ground.phase }, { on := 1, ground := Ground.phase }, { on := 2, ground := Ground.phase }, { on := 3, ground := Ground.phase }, { on := 4, ground := Ground.phase }, { on := 5, ground := Ground.phase }, { on := 6, ground := Ground.phase }, { on := 7, ground := Ground.phase }, { on := 8, ground := Ground.phase }, { on := 9, ground := Ground.phase }, { on := 10, ground := Ground.phase }, { on := 11, ground := Ground.phase }, { on := 12, ground := Ground.phase }, { on := 13, ground := Ground.phase }, { on := 14, ground := Ground.phase }, { on := 15, ground := Ground.phase }], guard := none }) (v := ?_) rfl (by kernel_rfl) (by kernel_rfl) (by kernel_rfl) (fun _ _ _ h => h) (Or.inl ⟨by rfl, ?_⟩) (by assumption) ?_
  rotate_left
  · intro w hSw; (try dsimp only at hSw); first | (go_simp; done) | (go_simp; with_reducible rfl)
  try simp only [Act.put, List.setIfInBounds_toArray, List.set_cons_zero, List.set_cons_succ]
  refine wpAnyH_take (i := 17) (oi := { dst := some 3, op := Op.assign (Operand.const (Value.int IntKind.i64 0)), type := 27, pos := "reply.go:68", after := #[{ on := 16, ground := Ground.chain }, { on := 0, ground := Ground.phase }, { on := 1, ground := Ground.phase }, { on := 2, ground := Ground.phase }, { on := 3, ground := Ground.phase }, { on := 4, ground := Ground.phase }, { on := 5, ground := Ground.phase }, { on := 6, ground := Ground.phase }, { on := 7, ground := Ground.phase }, { on := 8, ground := Ground.phase }, { on := 9, ground := Ground.phase }, { on := 10, ground := Ground.phase }, { on := 11, ground := Ground.phase }, { on := 12, ground := Ground.phase }, { on := 13, ground := Ground.phase }, { on := 14, ground := Ground.phase }, { on := 15, ground := Ground.phase }, { on := 16, ground := Ground.phase }], guard := none }) (v := ?_) rfl (by kernel_rfl) (by kernel_rfl) (by kernel_rfl) (fun _ _ _ h => h) (Or.inl ⟨by rfl, ?_⟩) (by assumption) ?_
  rotate_left
  · intro w hSw; (try dsimp only at hSw); first | (go_simp; done) | (go_simp; with_reducible rfl)
  try simp only [Act.put, List.setIfInBounds_toArray, List.set_cons_zero, List.set_cons_succ]
  refine wpAnyH_done (by kernel_rfl) ?_ _
  refine NoPanic.normal ?_
  have hB7 := b4 hHeld
  have HF := Lib.hid (HO7.lower hle6)
  clear HO7
  go_wp2
  go_ret2
  exact ⟨_, rfl, HF.out, hB7⟩
set_option maxHeartbeats 2000000 in
set_option maxRecDepth 100000 in
theorem ref_bytes_bad (st : Int) (c : Bool) (A : Option Addr) (n cap : Nat) (w : World) (hst : rs st = []) :
    Calls Tryd.prog 10 #[.agg #[.int .i64 st, .slice A n cap, .bool c]] w fun e w' => e = .returned (.tuple #[.slice none 0 0, .int .i64 1]) ∧ Below w.heap.size w w' := by
  have cR : Hid (∀ w, Calls Tryd.prog 12 #[.int .i64 st] w fun e w' => e = .returned (.string ⟨#[]⟩) ∧ Below w.heap.size w w') := Lib.hid fun w => by
    have := ref_reason_any st w
    rw [hst] at this
    exact this
  go_enter Tryd.func10, Tryd.ntmps10
  go_wp2_with fail
  refine (cR.out _).mono ?_
  rintro e w2 ⟨rfl, hb2⟩
  go_wp2
  go_ret2
  exact ⟨rfl, bthen (below_alloc (Below.refl _ _) _) hb2⟩
set_option maxHeartbeats 2000000 in
set_option maxRecDepth 100000 in
theorem ref_bytes_ok (st : Int) (c : Bool) (A : Option Addr) (cap : Nat) (l : List Int) (w : World) (h0 : -9223372036854775808 ≤ st) (h1 : st ≤ 9223372036854775807) (hst : rs st ≠ []) (hR : ReadsInt w .u8 A l.length l) (hlen : l.length ≤ 1048576) :
    Calls Tryd.prog 10 #[.agg #[.int .i64 st, .slice A l.length cap, .bool c]] w fun e w' => ∃ v, e = .returned (.tuple #[v, .int .i64 0]) ∧ OB w' w.heap.size v (repB st c l) ∧ Below w.heap.size w w' := by
  have cR := Lib.hid (ref_reason_any st)
  have cH : Hid (∀ w, Calls Tryd.prog 22 #[.int .i64 st, .int .i64 l.length, .bool c] w fun e w' => e = .returned (.string ⟨(wholeL st l.length c).toArray⟩) ∧ Below w.heap.size w w') := Lib.hid fun w => ref_head_any st l.length c h0 h1 (by omega) (by omega) w
  have hne : ((⟨(rs st).toArray⟩ : ByteArray).toList == []) = false := by rw [Lib.toList_data]; simpa using hst
  have z1 : (⟨(wholeL st l.length c).toArray⟩ : ByteArray).size ≤ 124 := by
    have := headL_len st h0 h1
    have := tailL_len c
    have := Lib.itoa_length_le (l.length : Int) (by omega) (by omega)
    rw [size_mk]; unfold wholeL; simp; omega
  have hpos := wholeL_pos st l.length c
  rw [← size_mk] at hpos
  unfold repB
  clear hst
  have HR := Lib.hid hR
  clear hR h0 h1
  generalize (⟨(wholeL st l.length c).toArray⟩ : ByteArray) = s1 at *
  generalize (⟨(rs st).toArray⟩ : ByteArray) = s4 at *
  have hbl : (bytesOf s1).length = s1.size := by unfold bytesOf; simp
  have HL : Hid ((bytesOf s1).length + l.length ≤ 140737488355328 ∧ 0 < (bytesOf s1).length) := Lib.hid ⟨by omega, by omega⟩
  clear hpos hbl
  go_enter Tryd.func10, Tryd.ntmps10
  go_wp2_with fail
  refine (cR.out _).mono ?_
  rintro e w2 ⟨rfl, hb2⟩
  have hbe : Below w.heap.size w w2 := bthen (below_alloc (Below.refl _ _) _) hb2
  have k0 : w2.cell? ⟨w.heap.size, 0, none⟩ = some (.int .i64 st) := pw_cell_below hb2 (by simp [World.cell?_alloc_new])
  have k1 : w2.cell? ⟨w.heap.size, 1, none⟩ = some (.slice A l.length cap) := pw_cell_below hb2 (by simp [World.cell?_alloc_new])
  have k2 : w2.cell? ⟨w.heap.size, 2, none⟩ = some (.bool c) := pw_cell_below hb2 (by simp [World.cell?_alloc_new])
  clear hb2
  go_wp2_with fail
  refine wp_region_noPanic ?_
  refine wp_region_held_drew (S := (fun w' => w'.cell? ⟨w.heap.size, 0, none⟩ = some (.int .i64 st) ∧ w'.cell? ⟨w.heap.size, 1, none⟩ = some (.slice A l.length cap) ∧ w'.cell? ⟨w.heap.size, 2, none⟩ = some (.bool c) ∧ Below w.heap.size w w')) (by kernel_rfl) ?_ (fun hHeld => ?_)
  · (try dsimp only); (first | exact ⟨k0, k1, k2, hbe⟩ | exact ⟨k0, k1, k2, hbe.drew⟩ | exact keep4 hHeld (by assumption) | exact keep4b hHeld hlt6 hle6 HB7)
  refine wpAnyH_take (i := 0) (oi := { dst := some 8, op := Op.fieldAddr 24 (Operand.tmp 1) 0, type := 0, pos := "ref.go:38", after := #[], guard := none }) (v := ?_) rfl (by kernel_rfl) (by kernel_rfl) (by kernel_rfl) (fun _ _ _ h => h) (Or.inl ⟨by rfl, ?_⟩) (by assumption) ?_
  rotate_left
  · intro w hSw; (try dsimp only at hSw); first | (go_simp; done) | (go_simp; with_reducible rfl)
  try simp only [Act.put, List.setIfInBounds_toArray, List.set_cons_zero, List.set_cons_succ]
  refine wpAnyH_take (i := 1) (oi := { dst := some 9, op := Op.load 3 (Operand.tmp 8), type := 3, pos := "ref.go:38", after := #[{ on := 0, ground := Ground.data }], guard := none }) (v := ?_) rfl (by kernel_rfl) (by kernel_rfl) (by kernel_rfl) (fun _ _ _ h => h) (Or.inl ⟨by rfl, ?_⟩) (by assumption) ?_
  rotate_left
  · intro w hSw; (try dsimp only at hSw); first | (go_simp; done) | (go_simp; with_reducible rfl)
  try simp only [Act.put, List.setIfInBounds_toArray, List.set_cons_zero, List.set_cons_succ]
  refine wpAnyH_take (i := 2) (oi := { dst := some 10, op := Op.fieldAddr 24 (Operand.tmp 1) 1, type := 0, pos := "ref.go:38", after := #[], guard := none }) (v := ?_) rfl (by kernel_rfl) (by kernel_rfl) (by kernel_rfl) (fun _ _ _ h => h) (Or.inl ⟨by rfl, ?_⟩) (by assumption) ?_
  rotate_left
  · intro w hSw; (try dsimp only at hSw); first | (go_simp; done) | (go_simp; with_reducible rfl)
  try simp only [Act.put, List.setIfInBounds_toArray, List.set_cons_zero, List.set_cons_succ]
  refine wpAnyH_take (i := 3) (oi := { dst := some 11, op := Op.load 22 (Operand.tmp 10), type := 22, pos := "ref.go:38", after := #[{ on := 2, ground := Ground.data }], guard := none }) (v := ?_) rfl (by kernel_rfl) (by kernel_rfl) (by kernel_rfl) (fun _ _ _ h => h) (Or.inl ⟨by rfl, ?_⟩) (by assumption) ?_
  rotate_left
  · intro w hSw; (try dsimp only at hSw); first | (go_simp; done) | (go_simp; with_reducible rfl)
  try simp only [Act.put, List.setIfInBounds_toArray, List.set_cons_zero, List.set_cons_succ]
  refine wpAnyH_take (i := 4) (oi := { dst := some 12, op := Op.call { callee := Callee.builtin Builtin.len, args := #[Operand.tmp 11], argTypes := #[22] }, type := 3, pos := "ref.go:38", after := #[{ on := 3, ground := Ground.data }], guard := none }) (v := ?_) rfl (by kernel_rfl) (by kernel_rfl) (by kernel_rfl) (fun _ _ _ h => h) (Or.inl ⟨by rfl, ?_⟩) (by assumption) ?_
  rotate_left
  · intro w hSw; (try dsimp only at hSw); first | (go_simp; done) | (go_simp; with_reducible rfl)
  try simp only [Act.put, List.setIfInBounds_toArray, List.set_cons_zero, List.set_cons_succ]
  refine wpAnyH_take (i := 5) (oi := { dst := some 13, op := Op.fieldAddr 24 (Operand.tmp 1) 2, type := 0, pos := "ref.go:38", after := #[], guard := none }) (v := ?_) rfl (by kernel_rfl) (by kernel_rfl) (by kernel_rfl) (fun _ _ _ h => h) (Or.inl ⟨by rfl, ?_⟩) (by assumption) ?_
  rotate_left
  · intro w hSw; (try dsimp only at hSw); first | (go_simp; done) | (go_simp; with_reducible rfl)
  try simp only [Act.put, List.setIfInBounds_toArray, List.set_cons_zero, List.set_cons_succ]
  refine wpAnyH_take (i := 6) (oi := { dst := some 14, op := Op.load 4 (Operand.tmp 13), type := 4, pos := "ref.go:38", after := #[{ on := 5, ground := Ground.data }], guard := none }) (v := ?_) rfl (by kernel_rfl) (by kernel_rfl) (by kernel_rfl) (fun _ _ _ h => h) (Or.inl ⟨by rfl, ?_⟩) (by assumption) ?_
  rotate_left
  · intro w hSw; (try dsimp only at hSw); first | (go_simp; done) | (go_simp; with_reducible rfl)
  try simp only [Act.put, List.setIfInBounds_toArray, List.set_cons_zero, List.set_cons_succ]
  refine wpAnyH_take (i := 9) (oi := { dst := some 17, op := Op.fieldAddr 24 (Operand.tmp 1) 1, type := 0, pos := "ref.go:38", after := #[], guard := none }) (v := ?_) rfl (by kernel_rfl) (by kernel_rfl) (by kernel_rfl) (fun _ _ _ h => h) (Or.inl ⟨by rfl, ?_⟩) (by assumption) ?_
  rotate_left
  · intro w hSw; (try dsimp only at hSw); first | (go_simp; done) | (go_simp; with_reducible rfl)
  try simp only [Act.put, List.setIfInBounds_toArray, List.set_cons_zero, List.set_cons_succ]
  refine wpAnyH_take (i := 10) (oi := { dst := some 18, op := Op.load 22 (Operand.tmp 17), type := 22, pos := "ref.go:38", after := #[{ on := 9, ground := Ground.data }], guard := none }) (v := ?_) rfl (by kernel_rfl) (by kernel_rfl) (by kernel_rfl) (fun _ _ _ h => h) (Or.inl ⟨by rfl, ?_⟩) (by assumption) ?_
  rotate_left
  · intro w hSw; (try dsimp only at hSw); first | (go_simp; done) | (go_simp; with_reducible rfl)
  try simp only [Act.put, List.setIfInBounds_toArray, List.set_cons_zero, List.set_cons_succ]
  refine wpAnyH_ready (rs := [7]) (by kernel_rfl) (by simp) ?_
  refine AllReadyH.cons (o := { dst := some 15, op := Op.call { callee := Callee.value (Operand.func 22), args := #[Operand.tmp 9, Operand.tmp 12, Operand.tmp 14], argTypes := #[3, 2, 4] }, type := 9, pos := "ref.go:38", after := #[{ on := 1, ground := Ground.data }, { on := 4, ground := Ground.data }, { on := 6, ground := Ground.data }], guard := none }) rfl (fun K hK => ?_) AllReadyH.nil
  go_simp
  go_at_call 22
  refine (cH.out _).mono ?_
  rintro e w3 ⟨rfl, hb_w3⟩
  go_wp2_with fail
  refine hK.out _ _ ?_ (fun hHeld2 => ?_)
  · (try dsimp only); (first | exact ⟨k0, k1, k2, hbe⟩ | exact ⟨k0, k1, k2, hbe.drew⟩ | exact keep4 hHeld (by assumption) | exact keep4b hHeld hlt6 hle6 HB7)
  clear hK K hHeld
  have hHeld := hHeld2
  clear hHeld2
  try simp only [Act.put, List.setIfInBounds_toArray, List.set_cons_zero, List.set_cons_succ]
  refine wpAnyH_ready (rs := [8]) (by kernel_rfl) (by simp) ?_
  refine AllReadyH.cons (o := { dst := some 16, op := Op.convert 9 22 (Operand.tmp 15), type := 22, pos := "ref.go:38", after := #[{ on := 7, ground := Ground.data }], guard := none }) rfl (fun K hK => ?_) AllReadyH.nil
  go_simp
  obtain ⟨hlt6, hle6⟩ := blk4 hHeld
  refine upon_conv 9 22 _ Tryd.underlying9 Tryd.underlying22 Tryd.underlying5 (by omega) ?_
  intro v6 w6 HO HB6
  go_wp2_with fail
  refine hK.out _ _ ?_ (fun hHeld2 => ?_)
  · (try dsimp only); (first | exact ⟨k0, k1, k2, hbe⟩ | exact ⟨k0, k1, k2, hbe.drew⟩ | exact keep4 hHeld (by assumption) | exact keep4b hHeld hlt6 hle6 HB7)
  clear hK K hHeld
  have hHeld := hHeld2
  clear hHeld2
  try simp only [Act.put, List.setIfInBounds_toArray, List.set_cons_zero, List.set_cons_succ]
  refine wpAnyH_ready (rs := [11]) (by kernel_rfl) (by simp) ?_
  refine AllReadyH.cons (o := { dst := some 19, op := Op.call { callee := Callee.builtin Builtin.append, args := #[Operand.tmp 16, Operand.tmp 18], argTypes := #[22, 22] }, type := 22, pos := "ref.go:38", after := #[{ on := 8, ground := Ground.data }, { on := 10, ground := Ground.data }, { on := 7, ground := Ground.chain }], guard := none }) rfl (fun K hK => ?_) AllReadyH.nil
  refine step_app rfl _ _ 22 rfl Tryd.underlying22 info5 rfl rfl HO (HR.out.below (b4 hHeld)) HL.out.1 HL.out.2 HB6.size ?_
  intro v7 w7 HO7 HB7
  refine hK.out _ _ ?_ (fun hHeld2 => ?_)
  · (try dsimp only); (first | exact ⟨k0, k1, k2, hbe⟩ | exact ⟨k0, k1, k2, hbe.drew⟩ | exact keep4 hHeld (by assumption) | exact keep4b hHeld hlt6 hle6 HB7)
  clear hK K hHeld
  have hHeld := hHeld2
  clear hHeld2
  try simp only [Act.put, List.setIfInBounds_toArray, List.set_cons_zero, List.set_cons_succ]
  refine wpAnyH_take (i := 12) (oi := { dst := some 2, op := Op.assign (Operand.tmp 19), type := 22, pos := "ref.go:38", after := #[{ on := 11, ground := Ground.data }, { on := 11, ground := Ground.chain }, { on := 0, ground := Ground.phase }, { on := 1, ground := Ground.phase }, { on := 2, ground := Ground.phase }, { on := 3, ground := Ground.phase }, { on := 4, ground := Ground.phase }, { on := 5, ground := Ground.phase }, { on := 6, ground := Ground.phase }, { on := 7, ground := Ground.phase }, { on := 8, ground := Ground.phase }, { on := 9, ground := Ground.phase }, { on := 10, ground := Ground.phase }, { on := 11, ground := Ground.phase }], guard := none }) (v := ?_) rfl (by kernel_rfl) (by kernel_rfl) (by kernel_rfl) (fun _ _ _ h => h) (Or.inl ⟨by rfl, ?_⟩) (by assumption) ?_
  rotate_left
  · intro w hSw; (try dsimp only at hSw); first | (go_simp; done) | (go_simp; with_reducible rfl)
  try simp only [Act.put, List.setIfInBounds_toArray, List.set_cons_zero, List.set_cons_succ]
  refine wpAnyH_take (i := 13) (oi := { dst := some 3, op := Op.assign (Operand.const (Value.int IntKind.i64 0)), type := 27, pos := "ref.go:38", after := #[{ on := 12, ground := Ground.chain }, { on := 0, ground := Ground.phase }, { on := 1, ground := Ground.phase }, { on := 2, ground := Ground.phase }, { on := 3, ground := Ground.phase }, { on := 4, ground := Ground.phase }, { on := 5, ground := Ground.phase }, { on := 6, ground := Ground.phase }, { on := 7, ground := Ground.phase }, { on := 8, ground := Ground.phase }, { on := 9, ground := Ground.phase }, { on := 10, ground := Ground.phase }, { on := 11, ground := Ground.phase }, { on := 12, ground := Ground.phase }], guard := none }) (v := ?_) rfl (by kernel_rfl) (by kernel_rfl) (by kernel_rfl) (fun _ _ _ h => h) (Or.inl ⟨by rfl, ?_⟩) (by assumption) ?_
  rotate_left
  · intro w hSw; (try dsimp only at hSw); first | (go_simp; done) | (go_simp; with_reducible rfl)
  try simp only [Act.put, List.setIfInBounds_toArray, List.set_cons_zero, List.set_cons_succ]
  refine wpAnyH_done (by kernel_rfl) ?_ _
  refine NoPanic.normal ?_
  have hB7 := b4 hHeld
  have HF := Lib.hid (HO7.lower hle6)
  clear HO7
  go_wp2
  go_ret2
  exact ⟨_, rfl, HF.out, hB7⟩
end Go.Proofs.YtnohcfgjhgfjkaaDoor.S
