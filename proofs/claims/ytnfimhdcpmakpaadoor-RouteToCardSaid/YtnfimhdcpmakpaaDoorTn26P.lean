/-
 Twin, Kept and Spoil: lists with spare room that must stay, and such as are written over.
-/
import Derived.Test.YtnfimhdcpmakpaaDoorFaP
import Derived.Laws.CopyOwn
import Derived.Laws.OwnMore
namespace Go.Proofs.YtnfimhdcpmakpaaDoor.S
open Go.RowKit Go.Proofs.YtnfimhdcpmakpaaDoorW.PrintWords
set_option linter.unusedVariables false
set_option linter.unusedSimpArgs false
def Blk (w : World) (g : Nat) (xs : List Int) : Prop := w.heap[g]? = some (.cells (nums .u8 xs).toArray 5 (0, 0))
theorem Blk.cell {w : World} {g j : Nat} {xs : List Int} (h : Blk w g xs) (hj : j < xs.length) : w.cell? ⟨g, j, none⟩ = some (.int .u8 (xs.getD j 0)) := by
 have h' : w.heap[g]? = some (.cells (nums .u8 xs).toArray 5 (0, 0)) := h
 simp only [World.cell?, h']
 simp [nums, hj]
theorem Blk.free {w : World} {g j : Nat} {xs : List Int} (h : Blk w g xs) : w.frozen? ⟨g, j, none⟩ = false := by
 have h' : w.heap[g]? = some (.cells (nums .u8 xs).toArray 5 (0, 0)) := h
 simp [World.frozen?, h']
theorem Blk.set {w : World} {g j : Nat} {xs : List Int} (h : Blk w g xs) (v : Int) : Blk (w.setCell ⟨g, j, none⟩ (.int .u8 v)) g (xs.set j v) := by
 unfold Blk
 rw [heap_setCell_same _ _ _ _ _ _ h]
 congr 2
 apply Array.ext'
 simp [nums, List.map_set]
theorem blk_made (w : World) (m : Nat) : Blk (w.alloc (.cells (madeCells #[.int .u8 0] m) 5)) w.heap.size (List.replicate m 0) := by
 unfold Blk
 rw [heap_alloc_new]
 congr 2
 apply Array.ext'
 rw [toList_madeCells_one]
 simp [nums]
theorem Blk.reads {w : World} {g n : Nat} {xs ys : List Int} (h : Blk w g (xs ++ ys)) (hn : xs.length = n) (hm : n ≤ 9223372036854775807) : ReadsInt w .u8 (some ⟨g, 0, none⟩) n xs := by
 refine ⟨hn, hm, fun _ => ⟨_, rfl, fun j hj => ?_⟩⟩
 rw [add_plain, h.cell (by simp; omega)]
 rw [List.getD_eq_getElem?_getD, List.getElem?_append_left (by omega), ← List.getD_eq_getElem?_getD]
def e5 : List Int := [229, 229, 229]
def twinAt (l : List Int) (j : Nat) : List Int := l ++ (List.replicate j 229 ++ List.replicate (3 - j) 0)
theorem twinAt_set (l : List Int) (j : Nat) (h : j < 3) : (twinAt l j).set (l.length + j) 229 = twinAt l (j + 1) := by
 unfold twinAt
 rw [List.set_append_right _ _ (by omega)]
 have : l.length + j - l.length = j := by omega
 rw [this]
 rcases j with _ | _ | _ | j <;> first | rfl | omega
theorem twinAt_len (l : List Int) (j : Nat) (h : j ≤ 3) : (twinAt l j).length = l.length + 3 := by unfold twinAt; simp; omega
structure TwinRow (w wr : World) (l : List Int) (j : Nat) : Prop where mk :: (blk : Blk wr w.heap.size (twinAt l j)) (below : Below w.heap.size w wr)
set_option maxHeartbeats 1000000 in
set_option maxRecDepth 100000 in
theorem twin_any (A : Option Addr) (c : Nat) (l : List Int) (w : World) (n : Nat) (hR : ReadsInt w .u8 A n l) (hn : l.length = n) (hlen : n ≤ 1048576) :
  Calls Tryd.prog 9 #[.slice A n c] w fun e w' => e = .returned (.slice (some ⟨w.heap.size, 0, none⟩) n (n + 3)) ∧ Hid (Blk w' w.heap.size (l ++ e5)) ∧ Below w.heap.size w w' := by
 have hmk := print_make (P := Tryd.prog) 23 5 .u8 1 Tryd.underlying23 (by kernel_rfl) (by omega) (n + 3) (by omega)
 have ec : ((n + 3 : Nat) : Int) = (n : Int) + 3 := by omega
 rw [ec] at hmk
 clear ec
 have HR := Lib.hid hR
 have HN := Lib.hid hn
 clear hR hn
 go_enter Tryd.func9, Tryd.ntmps9
 have hg : ∀ o : Obj, o = .cells (madeCells #[.int .u8 0] (n + 3)) 5 → (w.alloc o).heap[w.heap.size]? = some (.cells (List.replicate (n + 3) (Value.int .u8 0)).toArray 5 (0, 0)) := by
  rintro o rfl
  have := blk_made w (n + 3)
  unfold Blk at this
  simpa [nums] using this
 have hcp : (nums .u8 l).length = Nat.min n (n + 3) := by rw [nums_length, HN.out]; exact (Nat.min_eq_left (by omega)).symm
 have hpos : ∀ o : Obj, 0 < (nums .u8 l).length → ∃ ad, A = some ad ∧ ∀ j v, (nums .u8 l)[j]? = some v → (w.alloc o).cell? (ad.add j) = some v := by
  intro o hp
  rw [nums_length, HN.out] at hp
  obtain ⟨ad, hA, hc⟩ := HR.out.2.2 hp
  refine ⟨ad, hA, fun j v hj => ?_⟩
  have hl : j < l.length := by
   rcases Nat.lt_or_ge j l.length with h' | h'
   ·
    exact h'
   ·
    rw [List.getElem?_eq_none (by simpa [nums] using h')] at hj; cases hj
  have h1 := hc j (by rw [← HN.out]; exact hl)
  rw [List.getD_eq_getElem?_getD, List.getElem?_eq_getElem hl] at h1
  have h2 : v = .int .u8 l[j] := by simpa [nums, hl] using hj.symm
  rw [h2]
  exact pw_cell_below (below_alloc (Below.refl _ _) _) h1
 have hone : ∀ v ∈ nums .u8 l, v.oneCell' = true := by intro v hv; obtain ⟨y, _, rfl⟩ := List.mem_map.1 hv; rfl
 have hfit : 0 + (nums .u8 l).length ≤ (List.replicate (n + 3) (Value.int .u8 0)).length := by simp [nums, HN.out]
 have HO := Lib.hid hone
 have HF := Lib.hid hfit
 have HG := Lib.hid hg
 have HP := Lib.hid hcp
 have HQ := Lib.hid hpos
 clear hg hcp hpos hone hfit
 go_wp2_with ((with_reducible refine wpList_copy_splice rfl _ _ 23 23 rfl 5 Tryd.underlying23 (by kernel_rfl) _ _ _ _ _ _ rfl rfl w.heap.size 0 (List.replicate (n + 3) (Value.int .u8 0)) 5 (HG.out _ rfl) (nums .u8 l) HP.out (fun hp => ⟨rfl, HQ.out _ hp⟩) HF.out HO.out w.heap.size w (below_alloc (Below.refl _ _) _) (Nat.le_refl _) ?_); intro w2 hblk hb2; refine Hid.out ?_)
 refine Lib.hid ?_
 clear hmk HP HQ HG HO HF
 have T0 : TwinRow w w2 l 0 := by
  refine ⟨?_, hb2⟩
  have h := hblk.out
  unfold Blk
  rw [h]
  congr 2
  unfold splice twinAt
  have hl : (nums .u8 l).length = n := by rw [nums_length, HN.out]
  rw [hl]
  simp only [List.take_zero, List.nil_append, Nat.zero_add, List.replicate_zero, Nat.sub_zero, List.drop_replicate, Nat.add_sub_cancel_left]
  simp [nums]
 clear hblk hb2
 go_wp2_with fail
 go_loopw [4] (fun i wr => ∃ j : Nat, j ≤ 3 ∧ i = .int .i64 ((n + j : Nat) : Int) ∧ TwinRow w wr l j) (fun i _ => n + 3 - (intOf i).toNat)
 case atStart => exact ⟨0, by omega, rfl, T0⟩
 case round =>
  obtain ⟨j, hj, rfl, H⟩ := hrel
  by_cases hlt : j < 3
  ·
   have hlen2 := twinAt_len l j hj
   rw [HN.out] at hlen2
   have hcell := H.blk.cell (j := n + j) (by omega)
   have hfree := H.blk.free (j := n + j)
   have HS := Lib.hid (twinAt_set l j hlt)
   clear hlen2
   go_wp2
   go_roundw
   case rel => exact ⟨j + 1, by omega, by go_num, ⟨by rw [← HS.out, HN.out]; exact H.blk.set 229, H.below.setCell (by simp) _⟩⟩
   case measure => simp [intOf]; omega
  ·
   have hj3 : j = 3 := by omega
   subst hj3
   go_wp2
   go_ret
   exact ⟨rfl, Lib.hid H.blk, H.below⟩
theorem e5_at (l : List Int) (n j : Nat) (hn : l.length = n) (h : j < 3) : (l ++ e5).getD (n + j) 0 = 229 := by
 rw [List.getD_eq_getElem?_getD, List.getElem?_append_right (by omega)]
 have : n + j - l.length = j := by omega
 rw [this]
 rcases j with _ | _ | _ | j <;> first | rfl | omega
set_option maxHeartbeats 1000000 in
set_option maxRecDepth 100000 in
theorem kept_any (g : Nat) (A : Option Addr) (c : Nat) (l : List Int) (w : World) (n : Nat) (hB : Blk w g (l ++ e5)) (hR : ReadsInt w .u8 A n l) (hn : l.length = n) (hlen : n ≤ 1048576) :
  Calls Tryd.prog 12 #[.slice (some ⟨g, 0, none⟩) n (n + 3), .slice A n c] w fun e w' => e = .returned (.bool true) ∧ Drawn0 w w' := by
 have hx := Kd.C_string (P := Tryd.prog) (src := 23) (e := 5) (dst := 9) (c := n + 3) Tryd.underlying23 Tryd.underlying5 Tryd.underlying9 (C_of_reads (hB.reads hn (by omega)))
 have hy := Kd.C_string (P := Tryd.prog) (src := 23) (e := 5) (dst := 9) (c := c) Tryd.underlying23 Tryd.underlying5 Tryd.underlying9 (C_of_reads hR)
 have HB := Lib.hid hB
 have HN := Lib.hid hn
 clear hB hn hR
 go_enter Tryd.func12, Tryd.ntmps12
 go_wp2_with fail
 go_loop [6] (fun i => ∃ j : Nat, j ≤ 3 ∧ i = .int .i64 ((n + j : Nat) : Int)) (fun i => n + 3 - (intOf i).toNat)
 case atStart => exact ⟨0, by omega, rfl⟩
 case round =>
  obtain ⟨j, hj, rfl⟩ := hrel
  by_cases hlt : j < 3
  ·
   have hcell := HB.out.cell (j := n + j) (by simp [e5, HN.out]; omega)
   rw [e5_at l n j HN.out hlt] at hcell
   go_wp2
   go_round
   case rel => exact ⟨j + 1, by omega, by go_num⟩
   case measure => simp [intOf]; omega
  ·
   have hj3 : j = 3 := by omega
   subst hj3
   go_wp2
   go_ret
   exact ⟨rfl, Drawn0.refl _⟩
structure SpRow (w0 wr : World) (base g cap : Nat) : Prop where mk :: (blk : ∃ cells : Array Value, cells.size = cap ∧ wr.heap[g]? = some (.cells cells 5 (0, 0))) (below : Below base w0 wr)
theorem SpRow.cell {w0 wr : World} {base g cap j : Nat} (h : SpRow w0 wr base g cap) (hj : j < cap) : ∃ u, wr.cell? ⟨g, j, none⟩ = some u := by
 obtain ⟨cells, hs, hh⟩ := h.blk
 exact ⟨cells[j], by simp only [World.cell?, hh]; simp [hs, hj]⟩
theorem SpRow.free {w0 wr : World} {base g cap j : Nat} (h : SpRow w0 wr base g cap) : wr.frozen? ⟨g, j, none⟩ = false := by
 obtain ⟨cells, hs, hh⟩ := h.blk
 simp [World.frozen?, hh]
theorem SpRow.set {w0 wr : World} {base g cap j : Nat} (h : SpRow w0 wr base g cap) (hb : base ≤ g) (u : Value) : SpRow w0 (wr.setCell ⟨g, j, none⟩ u) base g cap := by
 obtain ⟨cells, hs, hh⟩ := h.blk
 exact ⟨⟨cells.setIfInBounds j u, by simpa using hs, heap_setCell_same _ _ _ _ _ _ hh⟩, h.below.setCell hb _⟩
set_option maxHeartbeats 1000000 in
set_option maxRecDepth 100000 in
theorem spoil_keep (w : World) (g n cap : Nat) (cs : Array Value) (hb : w.heap[g]? = some (.cells cs 5 (0, 0))) (hs : cs.size = cap) (hn : n ≤ cap) (hm : cap ≤ 9223372036854775807) :
  Calls Tryd.prog 13 #[.slice (some ⟨g, 0, none⟩) n cap] w fun e w' => e = .returned (.tuple #[]) ∧ KeepBut w w' g none ∧ Below g w w' := by
 go_enter Tryd.func13, Tryd.ntmps13
 go_wp2_with fail
 go_loopw [3] (fun i wr => ∃ j : Nat, j ≤ cap ∧ i = .int .i64 j ∧ SpRow w wr g g cap ∧ KeepBut w wr g none) (fun i _ => cap - (intOf i).toNat)
 case atStart => exact ⟨0, by omega, rfl, ⟨⟨cs, hs, hb⟩, Below.refl _ _⟩, KeepBut.refl _ _ _⟩
 case round =>
  obtain ⟨j, hj, rfl, H, HK⟩ := hrel
  by_cases hlt : j < cap
  ·
   obtain ⟨u, hcell⟩ := H.cell hlt
   have hfree := H.free (j := j)
   have HKK := Lib.hid HK
   clear HK
   go_wp2
   go_roundw
   case rel => exact ⟨j + 1, by omega, by go_num, H.set (Nat.le_refl _) _, KeepBut.set_ HKK.out j _⟩
   case measure => simp [intOf]; omega
  ·
   go_wp2
   go_end0
   exact ⟨rfl, HK, H.below⟩
end Go.Proofs.YtnfimhdcpmakpaaDoor.S
