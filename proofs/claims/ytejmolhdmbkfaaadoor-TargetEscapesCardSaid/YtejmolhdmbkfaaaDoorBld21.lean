/-
  A strings.Builder that a call has made: its bytes are written one by one.
-/
import Derived.Test.YtejmolhdmbkfaaaDoorExt21
import Derived.Lib.Builder
import Derived.Lib.OthersKept
import Derived.Lib.UnsafeStr
import Derived.Test.YtejmolhdmbkfaaaDoorThen
namespace Go.Proofs.YtejmolhdmbkfaaaDoor.S
open Go.RowKit Go.Proofs.YtejmolhdmbkfaaaDoorW.PrintWords
set_option linter.unusedVariables false
set_option linter.unusedSimpArgs false
/-- What stands beside a builder's block and its row of bytes is as it was. -/
def KeptB (b : Nat) (w w1 : World) : Prop := Below b w w1 ∧ Lib.OthersKept 5 (some b) w w1
theorem KeptB.refl (b : Nat) (w : World) : KeptB b w w := ⟨Below.refl _ _, Lib.OthersKept.refl _ _ _⟩
theorem KeptB.trans {b : Nat} {w w1 w2 : World} (h : KeptB b w w1) (k : KeptB b w1 w2) : KeptB b w w2 := ⟨h.1.trans k.1, h.2.trans k.2⟩
/-- A block of another type stands. -/
theorem KeptB.blk {b : Nat} {w w1 : World} (h : KeptB b w w1) {k t : Nat} {cs : Array Value} {fr : Nat × Nat} (hk : w.heap[k]? = some (.cells cs t fr)) (hb : k ≠ b) (ht : t ≠ 5) : w1.heap[k]? = some (.cells cs t fr) :=
  h.2 k _ hk (fun e => hb (Option.some.inj e)) (fun c fz e => by injection e with _ e2; exact ht e2)
def BB (b : Nat) (l : List UInt8) (w : World) : Prop := Lib.IsBuilder 54 5 b b (Lib.byteCells l) w
theorem info_bld : (Tryd.prog.info? 54).map (·.size) = some 2 := by kernel_rfl
theorem lies_bld : liesAt Tryd.prog Tryd.prog.depth 54 (2 / Tryd.prog.cellsOf 54) 0 54 1 = true := by kernel_rfl
set_option maxHeartbeats 1000000 in
set_option maxRecDepth 100000 in
theorem copy_used (b : Nat) (w : World) (h0 : w.cell? ⟨b, 0, none⟩ = some (.pointer (some ⟨b, 0, none⟩))) :
    Calls Tryd.prog 35 #[.pointer (some ⟨b, 0, none⟩)] w fun e w' => e = .returned (.tuple #[]) ∧ w' = w := by
  obtain ⟨j, hj, _⟩ := Option.map_eq_some_iff.1 info_bld
  have hq := fun W => Lib.run_neq_ptr_same (P := Tryd.prog) W ⟨b, 0, none⟩ Tryd.underlying52 hj
  go_enter Tryd.func35, Tryd.ntmps35
  go_wp2
  go_end0
  exact ⟨rfl, rfl⟩
set_option maxHeartbeats 1000000 in
set_option maxRecDepth 100000 in
theorem copy_fresh (b : Nat) (w : World) (h0 : w.cell? ⟨b, 0, none⟩ = some (.pointer none)) (hsh : w.shape? b = some (54, 2)) (hfz : w.frozen? ⟨b, 0, none⟩ = false) :
    Calls Tryd.prog 35 #[.pointer (some ⟨b, 0, none⟩)] w fun e w' => e = .returned (.tuple #[]) ∧ w' = w.setCell ⟨b, 0, none⟩ (.pointer (some ⟨b, 0, none⟩)) := by
  obtain ⟨j, hj, hjs⟩ := Option.map_eq_some_iff.1 info_bld
  have q1 := Lib.run_to_unsafe (P := Tryd.prog) w ⟨b, 0, none⟩ Tryd.underlying52 Tryd.underlying72 hj (by rw [hjs]; decide) hsh (Nat.zero_lt_succ 1)
  have q2 := Lib.run_from_unsafe (P := Tryd.prog) w ⟨b, 0, none⟩ Tryd.underlying72 Tryd.underlying52 hj hsh lies_bld
  have q3 : ∀ x (W : World), (callFunc 42 #[x]).run Tryd.prog W = .ok (.value x) W := fun x W => by
    rw [run_callFunc_extern Tryd.func42 (by kernel_rfl) (by kernel_rfl) (by kernel_rfl) (e := Extern.AbiNoEscape.same) (by kernel_rfl), Lib.run_noEscape]
    rfl
  go_enter Tryd.func35, Tryd.ntmps35
  go_wp2
  go_end0
  exact ⟨rfl, rfl⟩
theorem copy_any (b : Nat) (l : List UInt8) (w : World) (h : BB b l w) :
    Calls Tryd.prog 35 #[.pointer (some ⟨b, 0, none⟩)] w fun e w' => e = .returned (.tuple #[]) ∧ Lib.BuilderAt 54 5 b b (.pointer (some ⟨b, 0, none⟩)) (Lib.byteCells l) w' ∧ KeptB b w w' := by
  rcases h with h | h
  · exact (copy_fresh b w h.cell0 h.shape h.frozen0).mono fun e w' ⟨he, hw⟩ => ⟨he, by rw [hw]; exact h.used _, by rw [hw]; exact ⟨(Below.refl b w).setCell (p := ⟨b, 0, none⟩) (Nat.le_refl _) _, (Lib.OthersKept.refl 5 (some b) w).setCell ⟨b, 0, none⟩ rfl _⟩⟩
  · exact (copy_used b w h.cell0).mono fun e w' ⟨he, hw⟩ => ⟨he, by rw [hw]; exact h, by rw [hw]; exact KeptB.refl _ _⟩
theorem info5b : (Tryd.prog.info? 5).map (fun i => (i.zero, i.size, i.bytes)) = some (some (.int .u8 0), 1, 1) := by kernel_rfl
theorem cells_snoc (l : List UInt8) (c : UInt8) : Lib.byteCells (l ++ [c]) = Lib.byteCells l ++ [.int .u8 c.toNat] := by unfold Lib.byteCells; rw [List.map_append]; rfl
set_option maxHeartbeats 2000000 in
set_option maxRecDepth 100000 in
theorem byte_any (b : Nat) (l : List UInt8) (c : UInt8) (w : World) (h : BB b l w) (hlen : l.length ≤ 1048576) :
    Calls Tryd.prog 24 #[.pointer (some ⟨b, 0, none⟩), .int .u8 c.toNat] w fun e w' => e = .returned .nilIface ∧ BB b (l ++ [c]) w' ∧ KeptB b w w' := by
  obtain ⟨i0, hi, hz0, hz1, hz2⟩ := info_parts info5b
  have hcl := Lib.byteCells_length l
  have HCL := Lib.hid hcl
  have CC := Lib.hid (fun w h => copy_any b l w h)
  have HH := Lib.hid h
  clear h hcl
  go_enter Tryd.func24, Tryd.ntmps24
  go_wp2_with fail
  refine (CC.out _ HH.out).mono ?_
  rintro e w1 ⟨rfl, h1, hk1⟩
  obtain ⟨hB, v, hbk, hown, hne⟩ := h1
  have c0 : w1.cell? ⟨b, 0, none⟩ = some (.pointer (some ⟨b, 0, none⟩)) := by rw [Lib.cell_of_heap hbk]; rfl
  have c1 : w1.cell? ⟨b, 1, none⟩ = some v := by rw [Lib.cell_of_heap hbk]; rfl
  have hlt : b < w1.heap.size := lt_of_block hbk
  have hol := hown.1
  have HBK := Lib.hid hbk
  have HOWN := Lib.hid hown
  have HNE := Lib.hid hne
  have HOL := Lib.hid hol
  clear hbk hown hne hol
  go_wp2_with (at_builtin; refine wpList_append_own _ rfl _ _ 40 rfl b 5 i0 (.int .u8 0) 1 1 Tryd.underlying40 hi hz0 hz1 hz2 rfl (by decide) _ _ _ rfl (HOWN.out.alloc _) ⟨w1.heap.size, 0, none⟩ 1 1 [.int .u8 c.toNat] rfl rfl ?c1 ?c2 ?c3 ?c4 ?c5 ?_)
  case c1 =>
    intro j u hj
    match j, hj with
    | 0, hj => simp at hj; subst hj; simp [Addr.add]
  case c2 => intro u hu; simp at hu; subst hu; rfl
  case c3 => have := HCL.out; unfold maxLen; omega
  case c4 => have := HCL.out; omega
  case c5 => have := hk1.1.size; simp; omega
  intro v' w2 hown' hgrow _
  have hb2 : w2.heap[b]? = some (.cells #[.pointer (some ⟨b, 0, none⟩), v] 54 (0, 0)) := by
    rw [hgrow.block b (by simp; omega) (fun e => HNE.out e.symm), Lib.alloc_old w1 _ b hlt]
    exact HBK.out
  have d0 : w2.cell? ⟨b, 0, none⟩ = some (.pointer (some ⟨b, 0, none⟩)) := by rw [Lib.cell_of_heap hb2]; rfl
  have d1 : w2.cell? ⟨b, 1, none⟩ = some v := by rw [Lib.cell_of_heap hb2]; rfl
  have f1 : w2.frozen? ⟨b, 1, none⟩ = false := Lib.frozen_of_heap hb2 1
  obtain ⟨g, cap, rfl⟩ : ∃ g cap, v' = .slice (some ⟨g, 0, none⟩) ((Lib.byteCells l).length + 1) cap := by
    rcases hown'.2 with ⟨_, h0⟩ | ⟨g, cap, cur, hv, _⟩
    · omega
    · exact ⟨g, cap, hv⟩
  have HO2 := Lib.hid hown'
  have HG2 := Lib.hid hgrow
  have HB2 := Lib.hid hb2
  clear hown' hgrow hb2
  go_wp2
  go_ret
  refine ⟨rfl, .inr ?_, hk1.trans ⟨?_, ?_⟩⟩
  · have := Lib.BuilderAt.put (T := 54) (e := 5) hB HB2.out (bs' := Lib.byteCells l ++ [.int .u8 c.toNat]) (by have := HO2.out; simpa using this) (by decide)
    rw [cells_snoc]
    exact this
  · exact (((Below.refl b w1).alloc (Nat.le_of_lt hlt) _).grown HG2.out (by simp; omega) (fun k hk => (HOWN.out.lt k hk).1)).setCell (p := ⟨b, 1, none⟩) (Nat.le_refl _) _
  · refine (((Lib.OthersKept.refl 5 (some b) w1).alloc _).grown HG2.out (fun q hq => ?_)).setCell ⟨b, 1, none⟩ rfl _
    obtain ⟨cells, hc⟩ := own_typed (HOWN.out.alloc (.cells #[.int .u8 c.toNat] 5)) q hq
    exact ⟨cells, _, hc⟩
/-- String: what the builder holds. -/
theorem string_any (b : Nat) (l : List UInt8) (w : World) (h : BB b l w) (hb : b ≤ w.heap.size) :
    Calls Tryd.prog 26 #[.pointer (some ⟨b, 0, none⟩)] w fun e w' => e = .returned (.string ⟨l.toArray⟩) ∧ Below b w w' := Tryd.Builder_String_any b b l w h hb
end Go.Proofs.YtejmolhdmbkfaaaDoor.S
