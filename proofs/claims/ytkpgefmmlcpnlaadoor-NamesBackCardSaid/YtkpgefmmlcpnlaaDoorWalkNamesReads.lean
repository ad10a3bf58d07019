/-
  NamesReads answers true at every string, in every world where the library's table stands.
-/
import Derived.Test.YtkpgefmmlcpnlaaDoorRefId
import Derived.Test.YtkpgefmmlcpnlaaDoorEqId
namespace Go.Proofs.YtkpgefmmlcpnlaaDoor.S
open Go.RowKit Go.Proofs.YtkpgefmmlcpnlaaDoorW.PrintWords
set_option linter.unusedVariables false
set_option linter.unusedSimpArgs false
theorem idOf_len (l : List Int) (c : Int) : (idOf (l, c)).1.length = 32 := by
  unfold idOf
  by_cases h : c = 0
  · rw [if_pos h]
    by_cases h2 : l.length = 32
    · rw [if_pos h2]; exact h2
    · rw [if_neg h2]; rfl
  · rw [if_neg h]; rfl
/-- A block that holds an array of 32 bytes. -/
def Arr (w : World) (g : Nat) (xs : List Int) : Prop := w.heap[g]? = some (.cells (nums .u8 xs).toArray 37 (0, 0))
theorem Arr.below {w w1 : World} {g : Nat} {xs : List Int} (h : Arr w g xs) (hb : Below w.heap.size w w1) : Arr w1 g xs := (hb.block g (lt_of_block h)).trans h
theorem arr_store (w : World) (xs : List Int) (o : Obj) (ho : o = .cells #[.int .u8 0, .int .u8 0, .int .u8 0, .int .u8 0, .int .u8 0, .int .u8 0, .int .u8 0, .int .u8 0, .int .u8 0, .int .u8 0, .int .u8 0, .int .u8 0, .int .u8 0, .int .u8 0, .int .u8 0, .int .u8 0, .int .u8 0, .int .u8 0, .int .u8 0, .int .u8 0, .int .u8 0, .int .u8 0, .int .u8 0, .int .u8 0, .int .u8 0, .int .u8 0, .int .u8 0, .int .u8 0, .int .u8 0, .int .u8 0, .int .u8 0, .int .u8 0] 37) : Arr ((w.alloc o).setRow w.heap.size (nums .u8 xs).toArray) w.heap.size xs ∧ Below w.heap.size w ((w.alloc o).setRow w.heap.size (nums .u8 xs).toArray) := by
  subst ho
  exact ⟨setRow_heap _ _ _ _ 37 _ (heap_alloc_new w _), below_setRow (below_alloc (Below.refl _ _) _) (Nat.le_refl _) _⟩
/-- A whole array out of its block under a guard that lets it through. -/
theorem wpList_load_row_g {P : Program} {ops : Array Oper} {rest : List Oper} {o : Oper} {a : Act} {w : World} {Q : Exit → Act → World → Prop} (hw : Region.wanted o (yielded ops a.tmps) = true) (ty : TypeId) (x : Operand) (ho : o.op = .load ty x)
    (g : Nat) (hx : a.eval x = .pointer (some ⟨g, 0, none⟩)) (t : TypeId) (cs : Array Value) (fr : Nat × Nat) (d : TypeDesc) (hg : w.heap[g]? = some (.cells cs t fr))
    (hu : P.underlying ty = some d) (hd : (match d with | .struct _ | .array _ _ => true | _ => false) = true) (hi : (P.info? ty).map (·.size) = some cs.size)
    (h : wpList P ops Q rest (a.put o.dst (.agg cs)) w) : wpList P ops Q (o :: rest) a w :=
  wpList_step fun _ hK => by rw [if_pos hw]; exact wp_load_row ty x ho g hx t cs fr d hg hu hd hi (hK _ _ h)
set_option maxHeartbeats 2000000 in
set_option maxRecDepth 100000 in
theorem namesReads_walk (s : ByteArray) (_h : s.size ≤ 140737488351232) (w : World) (hT : Tabs w) :
    Calls Tryd.prog 6 #[.string s] w fun e w' => e = .returned (.bool true) ∧ Below w.heap.size w w' := by
  have cB : Hid (∀ w, Tabs w → Calls Tryd.prog 8 #[] w fun e w' => e = .returned (.bool true) ∧ Below w.heap.size w w') := Lib.hid fun w hT => cofferlaw4_begun.calls 200 true w (begun_f 200 (by omega)) hT
  by_cases hlt : s.size ≤ 4096
  · have cU : Hid (∀ w, Calls Tryd.prog 18 #[.string s] w fun e w' => ∃ v0_ : Value, e = .returned (.tuple #[v0_, .int .i64 (unh s).2]) ∧ Kd.R (Kd.int .u8) 5 w' w.heap.size (fun _ => True) v0_ (unh s).1 ∧ Below w.heap.size w w') :=
      Lib.hid fun w => xUnhex.calls s _ _ w (by unfold xUnhex.f; rw [if_pos (by omega)])
    have cV : Hid (∀ w, Calls Tryd.prog 19 #[.string s] w fun e w' => ∃ v0_ : Value, e = .returned (.tuple #[v0_, .int .i64 (unh s).2]) ∧ Kd.R (Kd.int .u8) 5 w' w.heap.size (fun _ => True) v0_ (unh s).1 ∧ Below w.heap.size w w') :=
      Lib.hid fun w => cofferref4_Unhex.calls (s.size + 30) s _ _ w (ref_unhex_f s (by omega) _ (Nat.le_refl _))
    have cI : Hid (∀ w, Calls Tryd.prog 20 #[.string s] w fun e w' => e = .returned (.tuple #[.agg (nums .u8 (idOf (unh s)).1).toArray, .int .i64 (idOf (unh s)).2]) ∧ Below w.heap.size w w') := Lib.hid fun w => id_any s w (by omega)
    have cJ : Hid (∀ w, Calls Tryd.prog 21 #[.string s] w fun e w' => e = .returned (.tuple #[.agg (nums .u8 (idOf (unh s)).1).toArray, .int .i64 (idOf (unh s)).2]) ∧ Below w.heap.size w w') := Lib.hid fun w => ref_id_any s w (by omega)
    have cN : Hid (∀ w, Calls Tryd.prog 17 #[.string s] w fun e w' => e = .returned (.tuple #[.int .i64 (numS (byteAt s) s.size).1, .int .i64 (numS (byteAt s) s.size).2]) ∧ Drawn0 w w') := Lib.hid fun w => names_Number.calls _ s _ _ w (number_f s (by omega) _ (Nat.le_refl _))
    have cM : Hid (∀ w, Calls Tryd.prog 22 #[.string s] w fun e w' => e = .returned (.tuple #[.int .i64 (numS (byteAt s) s.size).1, .int .i64 (numS (byteAt s) s.size).2]) ∧ Drawn0 w w') := Lib.hid fun w => cofferref4_Number.calls _ s _ _ w (ref_number_f s (by omega) _ (Nat.le_refl _))
    generalize numS (byteAt s) s.size = u at cN cM
    obtain ⟨nv, ne⟩ := u
    generalize unh s = u at cU cV cI cJ
    obtain ⟨l, c⟩ := u
    have hl := idOf_len l c
    generalize idOf (l, c) = u at cI cJ hl
    obtain ⟨xs, ci⟩ := u
    have hEQ := eq_id xs hl
    have o1 := one_nums xs
    have o2 : (Tryd.prog.info? 37).map (·.size) = some ((nums .u8 xs).toArray.size) := by
      have hl' : xs.length = 32 := hl
      rw [info_id]; simp [nums, hl']
    have o3 : (#[.int .u8 0, .int .u8 0, .int .u8 0, .int .u8 0, .int .u8 0, .int .u8 0, .int .u8 0, .int .u8 0, .int .u8 0, .int .u8 0, .int .u8 0, .int .u8 0, .int .u8 0, .int .u8 0, .int .u8 0, .int .u8 0, .int .u8 0, .int .u8 0, .int .u8 0, .int .u8 0, .int .u8 0, .int .u8 0, .int .u8 0, .int .u8 0, .int .u8 0, .int .u8 0, .int .u8 0, .int .u8 0, .int .u8 0, .int .u8 0, .int .u8 0, .int .u8 0] : Array Value).size = (nums .u8 xs).toArray.size := by
      have hl' : xs.length = 32 := hl
      simp [nums, hl']
    have O1 := Lib.hid o1
    have O2 := Lib.hid o2
    have O3 := Lib.hid o3
    have OA := Lib.hid (fun w o => arr_store w xs o)
    clear o1 o2 o3 hl
    go_enter Tryd.func6, Tryd.ntmps6
    go_wp2_with fail
    refine (cB.out _ hT).mono ?_
    rintro e w0 ⟨rfl, hb0⟩
    go_wp2_with fail
    go_loopw [3] (fun i wr => ∃ k : Nat, k ≤ 2 ∧ i = .int .i64 k ∧ Below w.heap.size w wr) (fun i _ => 2 - (intOf i).toNat)
    case atStart => exact ⟨0, by omega, rfl, hb0⟩
    case round =>
      obtain ⟨k, hk, rfl, hbr⟩ := hrel
      rename_i wr
      by_cases hlt2 : k < 2
      · go_wp2_with fail
        refine (cU.out _).mono ?_
        rintro e w1 ⟨v1, rfl, hR1, hb1⟩
        go_wp2_with fail
        refine (cV.out _).mono ?_
        rintro e w2 ⟨v2, rfl, hR2, hb2⟩
        have HR1 := Lib.hid (Kd.R_below hR1 hb2)
        have hb2 := bthen hb1 hb2
        have HR2 := Lib.hid hR2
        clear hR1 hR2 hb1
        go_wp2_with fail
        refine (cI.out _).mono ?_
        rintro e w3 ⟨rfl, hb3⟩
        go_wp2_with ((refine wpList_store_row rfl 37 _ _ rfl w3.heap.size (nums .u8 xs).toArray rfl rfl 37 #[.int .u8 0, .int .u8 0, .int .u8 0, .int .u8 0, .int .u8 0, .int .u8 0, .int .u8 0, .int .u8 0, .int .u8 0, .int .u8 0, .int .u8 0, .int .u8 0, .int .u8 0, .int .u8 0, .int .u8 0, .int .u8 0, .int .u8 0, .int .u8 0, .int .u8 0, .int .u8 0, .int .u8 0, .int .u8 0, .int .u8 0, .int .u8 0, .int .u8 0, .int .u8 0, .int .u8 0, .int .u8 0, .int .u8 0, .int .u8 0, .int .u8 0, .int .u8 0] (heap_alloc_new w3 _) O2.out O3.out O1.out ?_); refine Hid.out ?_)
        refine Lib.hid ?_
        obtain ⟨A4, B4⟩ := OA.out w3 _ rfl
        generalize (w3.alloc (.cells #[.int .u8 0, .int .u8 0, .int .u8 0, .int .u8 0, .int .u8 0, .int .u8 0, .int .u8 0, .int .u8 0, .int .u8 0, .int .u8 0, .int .u8 0, .int .u8 0, .int .u8 0, .int .u8 0, .int .u8 0, .int .u8 0, .int .u8 0, .int .u8 0, .int .u8 0, .int .u8 0, .int .u8 0, .int .u8 0, .int .u8 0, .int .u8 0, .int .u8 0, .int .u8 0, .int .u8 0, .int .u8 0, .int .u8 0, .int .u8 0, .int .u8 0, .int .u8 0] 37)).setRow w3.heap.size (nums .u8 xs).toArray = w4 at A4 B4
        have hb4 := bthen (bthen hb2 hb3) B4
        have HR1 := Lib.hid (Kd.R_below HR1.out (bthen hb3 B4))
        have HR2 := Lib.hid (Kd.R_below HR2.out (bthen hb3 B4))
        have HA4 := Lib.hid A4
        clear hb3 B4 A4
        go_wp2_with fail
        refine (cJ.out _).mono ?_
        rintro e w5 ⟨rfl, hb5⟩
        go_wp2_with ((refine wpList_store_row rfl 37 _ _ rfl w5.heap.size (nums .u8 xs).toArray rfl rfl 37 #[.int .u8 0, .int .u8 0, .int .u8 0, .int .u8 0, .int .u8 0, .int .u8 0, .int .u8 0, .int .u8 0, .int .u8 0, .int .u8 0, .int .u8 0, .int .u8 0, .int .u8 0, .int .u8 0, .int .u8 0, .int .u8 0, .int .u8 0, .int .u8 0, .int .u8 0, .int .u8 0, .int .u8 0, .int .u8 0, .int .u8 0, .int .u8 0, .int .u8 0, .int .u8 0, .int .u8 0, .int .u8 0, .int .u8 0, .int .u8 0, .int .u8 0, .int .u8 0] (heap_alloc_new w5 _) O2.out O3.out O1.out ?_); refine Hid.out ?_)
        refine Lib.hid ?_
        obtain ⟨A6, B6⟩ := OA.out w5 _ rfl
        generalize (w5.alloc (.cells #[.int .u8 0, .int .u8 0, .int .u8 0, .int .u8 0, .int .u8 0, .int .u8 0, .int .u8 0, .int .u8 0, .int .u8 0, .int .u8 0, .int .u8 0, .int .u8 0, .int .u8 0, .int .u8 0, .int .u8 0, .int .u8 0, .int .u8 0, .int .u8 0, .int .u8 0, .int .u8 0, .int .u8 0, .int .u8 0, .int .u8 0, .int .u8 0, .int .u8 0, .int .u8 0, .int .u8 0, .int .u8 0, .int .u8 0, .int .u8 0, .int .u8 0, .int .u8 0] 37)).setRow w5.heap.size (nums .u8 xs).toArray = w6 at A6 B6
        have hb6 := bthen (bthen hb4 hb5) B6
        have HR1 := Lib.hid (Kd.R_below HR1.out (bthen hb5 B6))
        have HR2 := Lib.hid (Kd.R_below HR2.out (bthen hb5 B6))
        have HA4 := Lib.hid (HA4.out.below (bthen hb5 B6))
        have HA6 := Lib.hid A6
        clear hb5 B6 A6
        go_wp2_with fail
        refine (cN.out _).mono ?_
        rintro e w7 ⟨rfl, hd7⟩
        go_wp2_with fail
        refine (cM.out _).mono ?_
        rintro e w8 ⟨rfl, hd8⟩
        have hdd := bthen hd7.below hd8.below
        have hb8 := bthen hb6 hdd
        have HR1 := Lib.hid (Kd.R_below HR1.out hdd)
        have HR2 := Lib.hid (Kd.R_below HR2.out hdd)
        have HA4 := Lib.hid (HA4.out.below hdd)
        have HA6 := Lib.hid (HA6.out.below hdd)
        have hcx := own_string (P := Tryd.prog) (src := 24) (e := 5) (dst := 9) Tryd.underlying24 Tryd.underlying5 Tryd.underlying9 (nums_of_R HR1.out)
        have hcy := own_string (P := Tryd.prog) (src := 24) (e := 5) (dst := 9) Tryd.underlying24 Tryd.underlying5 Tryd.underlying9 (nums_of_R HR2.out)
        clear hd7 hd8 hdd
        go_wp2_with (first | (refine wpList_load_row_g rfl 37 _ rfl w3.heap.size rfl 37 _ (0, 0) _ HA4.out Tryd.underlying37 rfl O2.out ?_) | (refine wpList_load_row_g rfl 37 _ rfl w5.heap.size rfl 37 _ (0, 0) _ HA6.out Tryd.underlying37 rfl O2.out ?_))
        refine (spoil_any wr w8 wr.heap.size l.length v1 _ (nums_of_R HR1.out) hb8).mono ?_
        rintro e w9 ⟨rfl, hb9⟩
        go_wp2
        go_roundw
        case rel => exact ⟨k + 1, by omega, by go_num, bthen hbr hb9⟩
        case measure => simp [intOf]; omega
      · go_wp2
        go_ret
        exact ⟨rfl, hbr⟩
  · have hgt : 4096 < s.size := by omega
    clear hlt
    go_enter Tryd.func6, Tryd.ntmps6
    go_wp2_with fail
    refine (cB.out _ hT).mono ?_
    rintro e w0 ⟨rfl, hb0⟩
    go_wp2
    go_ret
    exact ⟨rfl, hb0⟩
end Go.Proofs.YtkpgefmmlcpnlaaDoor.S
