/-
  ReplyReads answers true at every byte slice, in every world where the library's table stands.
-/
import Derived.Test.YtnohcfgjhgfjkaaDoorWalkReplyTwo
import Derived.Test.YtnohcfgjhgfjkaaDoorSpoilOb
import Derived.Test.YtnohcfgjhgfjkaaDoorRep25p
namespace Go.Proofs.YtnohcfgjhgfjkaaDoor.S
open Go.RowKit Go.Proofs.YtnohcfgjhgfjkaaDoorW.PrintWords
set_option linter.unusedVariables false
set_option linter.unusedSimpArgs false
/-- A block is written over, and nothing else. -/
structure SpK (w0 wr : World) (g cap : Nat) : Prop where mk :: (blk : ∃ cells : Array Value, cells.size = cap ∧ wr.heap[g]? = some (.cells cells 5 (0, 0))) (rest : ∀ k, k ≠ g → wr.heap[k]? = w0.heap[k]?) (below : Below g w0 wr) (sz : wr.heap.size = w0.heap.size)
theorem SpK.cell {w0 wr : World} {g cap j : Nat} (h : SpK w0 wr g cap) (hj : j < cap) : ∃ u, wr.cell? ⟨g, j, none⟩ = some u := by
  obtain ⟨cells, hs, hh⟩ := h.blk
  exact ⟨cells[j], by simp only [World.cell?, hh]; simp [hs, hj]⟩
theorem SpK.free {w0 wr : World} {g cap j : Nat} (h : SpK w0 wr g cap) : wr.frozen? ⟨g, j, none⟩ = false := by
  obtain ⟨cells, hs, hh⟩ := h.blk
  simp [World.frozen?, hh]
theorem SpK.set {w0 wr : World} {g cap j : Nat} (h : SpK w0 wr g cap) (u : Value) : SpK w0 (wr.setCell ⟨g, j, none⟩ u) g cap := by
  obtain ⟨cells, hs, hh⟩ := h.blk
  exact ⟨⟨cells.setIfInBounds j u, by simpa using hs, heap_setCell_same _ _ _ _ _ _ hh⟩, fun k hk => (Below.heap_setCell wr _ _ _ (by simpa using hk)).trans (h.rest k hk), h.below.setCell (Nat.le_refl _) _, by simpa using h.sz⟩
set_option maxHeartbeats 1000000 in
set_option maxRecDepth 100000 in
theorem spoil_only (w : World) (g n cap : Nat) (hS : SpK w w g cap) (hn : n ≤ cap) (hm : cap ≤ 9223372036854775807) :
    Calls Tryd.prog 14 #[.slice (some ⟨g, 0, none⟩) n cap] w fun e w' => e = .returned (.tuple #[]) ∧ SpK w w' g cap := by
  have HS := Lib.hid hS
  clear hS
  go_enter Tryd.func14, Tryd.ntmps14
  go_wp2_with fail
  go_loopw [3] (fun i wr => ∃ j : Nat, j ≤ cap ∧ i = .int .i64 j ∧ SpK w wr g cap) (fun i _ => cap - (intOf i).toNat)
  case atStart => exact ⟨0, by omega, rfl, HS.out⟩
  case round =>
    obtain ⟨j, hj, rfl, H⟩ := hrel
    by_cases hlt : j < cap
    · obtain ⟨u, hcell⟩ := H.cell hlt
      have hfree := H.free (j := j)
      go_wp2
      go_roundw
      case rel => exact ⟨j + 1, by omega, by go_num, H.set _⟩
      case measure => simp [intOf]; omega
    · go_wp2
      go_end0
      exact ⟨rfl, H⟩
/-- What Take's body is: nil, or a row of its own. -/
def RB (w : World) (base : Nat) (v : Value) (xs : List Int) : Prop := OB w base v xs ∨ (v = .slice none 0 0 ∧ xs = [])
def xsT (s : List UInt8) : List Int := if (takeS s).2.2.2.2 = 0 then bytesOf ⟨(takeS s).2.1.toArray⟩ else []
theorem TakeOut.gen {s : List UInt8} {w w' : World} {e : Ending} (h : TakeOut s w w' e) :
    ∃ P n k, e = .returned (.tuple #[.agg #[.int .i64 (takeS s).1, .slice P n k, .bool (takeS s).2.2.1], .int .i64 (takeS s).2.2.2.1, .int .i64 (takeS s).2.2.2.2]) ∧ RB w' w.heap.size (.slice P n k) (xsT s) ∧ Below w.heap.size w w' := by
  obtain ⟨bv, he, ho, hb⟩ := h
  unfold xsT
  by_cases h0 : (takeS s).2.2.2.2 = 0
  · rw [if_pos h0] at ho ⊢
    obtain ⟨g, m, cap, rfl⟩ := ho.form
    exact ⟨_, _, _, he, .inl ho, hb⟩
  · rw [if_neg h0] at ho ⊢
    subst ho
    exact ⟨_, _, _, he, .inr ⟨rfl, rfl⟩, hb⟩
theorem RB.below {w w1 : World} {base : Nat} {v : Value} {xs : List Int} (h : RB w base v xs) (hb : Below w.heap.size w w1) : RB w1 base v xs := h.imp (·.below hb) id
theorem RB.lower {w : World} {base b2 : Nat} {v : Value} {xs : List Int} (h : RB w base v xs) (hb : b2 ≤ base) : RB w b2 v xs := h.imp (·.lower hb) id
theorem RB.other {w w1 : World} {base : Nat} {v : Value} {xs : List Int} (h : RB w base v xs) (hsz : w1.heap.size = w.heap.size) (hb : ∀ k, base ≤ k → w1.heap[k]? = w.heap[k]?) : RB w1 base v xs := h.imp (·.other hsz hb) id
theorem RB.reads {w : World} {base : Nat} {P : Option Addr} {n k : Nat} {xs : List Int} (h : RB w base (.slice P n k) xs) : n = xs.length ∧ ReadsInt w .u8 P xs.length xs := by
  rcases h with h | ⟨h, rfl⟩
  · obtain ⟨g, cap, e, _, hr⟩ := h.reads
    injection e with e1 e2 e3
    subst e1 e2
    exact ⟨rfl, hr⟩
  · injection h with e1 e2 e3
    subst e1 e2
    exact ⟨rfl, rfl, by simp, fun h => by simp at h⟩
set_option maxHeartbeats 4000000 in
set_option maxRecDepth 100000 in
theorem replyReads_walk (w : World) (A : Option Addr) (len cap : Nat) (l : List Int) (H1 : Bytes w A len cap l) (hT : Tabs w) :
    Calls Tryd.prog 4 #[.slice A len cap] w fun e w' => e = .returned (.bool true) ∧ Below w.heap.size w w' := by
  obtain ⟨rfl, hcap1, hR1, hwf1⟩ := H1
  have cB := Lib.hid begun_any
  have HR := Lib.hid hR1
  have HT := Lib.hid hT
  clear hR1 hwf1 hT
  by_cases hg1 : l.length ≤ 4096
  · have hU := u8_len l
    have HU := Lib.hid hU
    have hSU := str_u8 l
    have HSU := Lib.hid hSU
    clear hU hSU
    generalize u8 l = s at HU HSU
    have cT : Hid (∀ (A : Option Addr) (n cap : Nat) w, n = l.length → ReadsInt w .u8 A l.length l → Tabs w → Calls Tryd.prog 15 #[.slice A n cap] w fun e w' => ∃ P n k, e = .returned (.tuple #[.agg #[.int .i64 (takeS s).1, .slice P n k, .bool (takeS s).2.2.1], .int .i64 (takeS s).2.2.2.1, .int .i64 (takeS s).2.2.2.2]) ∧ RB w' w.heap.size (.slice P n k) (xsT s) ∧ Below w.heap.size w w') :=
      Lib.hid fun A n cap w hn hR hT => by subst hn; exact (take_any s A cap l w HSU.out HU.out hR (by omega) hT).mono fun e w' h => h.gen
    have cU : Hid (∀ (A : Option Addr) (n cap : Nat) w, n = l.length → ReadsInt w .u8 A l.length l → Calls Tryd.prog 16 #[.slice A n cap] w fun e w' => ∃ P n k, e = .returned (.tuple #[.agg #[.int .i64 (takeS s).1, .slice P n k, .bool (takeS s).2.2.1], .int .i64 (takeS s).2.2.2.1, .int .i64 (takeS s).2.2.2.2]) ∧ RB w' w.heap.size (.slice P n k) (xsT s) ∧ Below w.heap.size w w') :=
      Lib.hid fun A n cap w hn hR => by subst hn; exact (ref_take_any s A cap l w HSU.out HU.out hR (by omega)).mono fun e w' h => h.gen
    generalize takeS s = T at cT cU
    generalize xsT s = xs at cT cU
    obtain ⟨st, bd, c, m, er⟩ := T
    dsimp only at cT cU
    go_enter Tryd.func4, Tryd.ntmps4
    go_wp2_with fail
    refine (cB.out _ HT.out).mono ?_
    rintro e w1 ⟨rfl, hb⟩
    go_wp2_with fail
    refine (twin_any A cap l w1 l.length (HR.out.below hb) rfl (by omega)).mono ?_
    rintro e w2 ⟨rfl, HK, h2⟩
    have hk2 : w1.heap.size < w2.heap.size := HK.lt
    have h12 := hb.size
    replace hb := bthen hb h2
    have HKh := Lib.hid HK
    clear HK h2
    go_wp2_with fail
    refine (cT.out _ _ _ w2 rfl (HKh.out.reads rfl (by omega)) (HT.out.below hb)).mono ?_
    rintro e w3 ⟨P1, n1, k1, rfl, HB1, h3⟩
    replace hb := bthen hb h3
    replace HKh := Lib.hid (HKh.out.below hk2 h3)
    have h23 := h3.size
    have hB1 := Lib.hid HB1
    clear h3 HB1
    have one1 : (#[.int .i64 st, .slice P1 n1 k1, .bool c] : Array Value).all (·.oneCell') = true := by simp [Value.oneCell']
    have ONE1 := Lib.hid one1
    clear one1
    go_wp2_with ((refine wpList_store_row rfl 24 _ _ rfl w3.heap.size #[.int .i64 st, .slice P1 n1 k1, .bool c] rfl rfl 24 #[.int .i64 0, .slice none 0 0, .bool false] (heap_alloc_new w3 _) info24 rfl ONE1.out ?_); refine Hid.out ?_)
    refine Lib.hid ?_
    have f1 := setRow_heap (w3.alloc (.cells #[.int .i64 0, .slice none 0 0, .bool false] 24)) w3.heap.size _ #[.int .i64 st, .slice P1 n1 k1, .bool c] 24 _ (heap_alloc_new w3 _)
    have f2 := below_setRow (below_alloc (Below.refl w3.heap.size w3) (.cells #[.int .i64 0, .slice none 0 0, .bool false] 24)) (Nat.le_refl _) #[.int .i64 st, .slice P1 n1 k1, .bool c]
    generalize (w3.alloc (.cells #[.int .i64 0, .slice none 0 0, .bool false] 24)).setRow w3.heap.size #[.int .i64 st, .slice P1 n1 k1, .bool c] = w4 at f1 f2
    have F1 := Lib.hid f1
    replace hb := bthen hb f2
    have hk3 : w1.heap.size < w3.heap.size := by omega
    replace HKh := Lib.hid (HKh.out.below hk3 f2)
    replace hB1 := Lib.hid (hB1.out.below f2)
    have h34 := f2.size
    have hlt4 : w3.heap.size < w4.heap.size := lt_of_block f1
    clear f1 f2
    go_wp2_with fail
    refine (cU.out _ _ _ w4 rfl (HR.out.below hb)).mono ?_
    rintro e w5 ⟨P2, n2, k2, rfl, HB2, h5⟩
    replace hb := bthen hb h5
    have hk4 : w1.heap.size < w4.heap.size := by omega
    replace HKh := Lib.hid (HKh.out.below hk4 h5)
    replace hB1 := Lib.hid (hB1.out.below h5)
    replace F1 := Lib.hid ((h5.block _ (lt_of_block F1.out)).trans F1.out)
    have h45 := h5.size
    have hB2 := Lib.hid HB2
    clear h5 HB2
    have one2 : (#[.int .i64 st, .slice P2 n2 k2, .bool c] : Array Value).all (·.oneCell') = true := by simp [Value.oneCell']
    have ONE2 := Lib.hid one2
    clear one2
    go_wp2_with ((refine wpList_store_row rfl 24 _ _ rfl w5.heap.size #[.int .i64 st, .slice P2 n2 k2, .bool c] rfl rfl 24 #[.int .i64 0, .slice none 0 0, .bool false] (heap_alloc_new w5 _) info24 rfl ONE2.out ?_); refine Hid.out ?_)
    refine Lib.hid ?_
    have f1 := setRow_heap (w5.alloc (.cells #[.int .i64 0, .slice none 0 0, .bool false] 24)) w5.heap.size _ #[.int .i64 st, .slice P2 n2 k2, .bool c] 24 _ (heap_alloc_new w5 _)
    have f2 := below_setRow (below_alloc (Below.refl w5.heap.size w5) (.cells #[.int .i64 0, .slice none 0 0, .bool false] 24)) (Nat.le_refl _) #[.int .i64 st, .slice P2 n2 k2, .bool c]
    generalize (w5.alloc (.cells #[.int .i64 0, .slice none 0 0, .bool false] 24)).setRow w5.heap.size #[.int .i64 st, .slice P2 n2 k2, .bool c] = w6 at f1 f2
    have F2 := Lib.hid f1
    replace hb := bthen hb f2
    have hk5 : w1.heap.size < w5.heap.size := by omega
    replace HKh := Lib.hid (HKh.out.below hk5 f2)
    replace hB1 := Lib.hid (hB1.out.below f2)
    replace hB2 := Lib.hid (hB2.out.below f2)
    replace F1 := Lib.hid ((f2.block _ (lt_of_block F1.out)).trans F1.out)
    have hlt6 : w5.heap.size < w6.heap.size := lt_of_block f1
    clear f1 f2
    go_wp2_with fail
    refine (kept_any w1.heap.size A cap l w6 l.length HKh.out (HR.out.below hb) rfl (by omega)).mono ?_
    rintro e w7 ⟨rfl, hd7⟩
    have h7 := hd7.below
    clear hd7
    replace hb := bthen hb h7
    have hk6 : w1.heap.size < w6.heap.size := by omega
    replace HKh := Lib.hid (HKh.out.below hk6 h7)
    replace hB1 := Lib.hid (hB1.out.below h7)
    replace hB2 := Lib.hid (hB2.out.below h7)
    replace F1 := Lib.hid ((h7.block _ (lt_of_block F1.out)).trans F1.out)
    replace F2 := Lib.hid ((h7.block _ (lt_of_block F2.out)).trans F2.out)
    clear h7
    go_wp2_with fail
    have hSP : SpK w7 w7 w1.heap.size (l.length + 3) := ⟨⟨_, by simp [nums, e5], HKh.out⟩, fun _ _ => rfl, Below.refl _ _, rfl⟩
    refine (spoil_only w7 w1.heap.size l.length (l.length + 3) hSP (by omega) (by omega)).mono ?_
    clear hSP
    rintro e w8 ⟨rfl, hS8⟩
    have hb8 : Below w.heap.size w w8 := hb.trans (hS8.below.mono h12)
    have f1 := (hS8.rest _ (by omega : w3.heap.size ≠ w1.heap.size)).trans F1.out
    have f2 := (hS8.rest _ (by omega : w5.heap.size ≠ w1.heap.size)).trans F2.out
    have hB1 := hB1.out.other hS8.sz (fun k hk => hS8.rest k (by omega))
    have hB2 := hB2.out.other hS8.sz (fun k hk => hS8.rest k (by omega))
    clear hS8 F1 F2 hb HKh
    obtain ⟨rfl, hr1⟩ := hB1.reads
    obtain ⟨rfl, hr2⟩ := hB2.reads
    have x0 : w8.cell? ⟨w3.heap.size, 0, none⟩ = some (.int .i64 st) := by simp only [World.cell?, f1]; rfl
    have x1 : w8.cell? ⟨w3.heap.size, 1, none⟩ = some (.slice P1 xs.length k1) := by simp only [World.cell?, f1]; rfl
    have x2 : w8.cell? ⟨w3.heap.size, 2, none⟩ = some (.bool c) := by simp only [World.cell?, f1]; rfl
    have y0 : w8.cell? ⟨w5.heap.size, 0, none⟩ = some (.int .i64 st) := by simp only [World.cell?, f2]; rfl
    have y1 : w8.cell? ⟨w5.heap.size, 1, none⟩ = some (.slice P2 xs.length k2) := by simp only [World.cell?, f2]; rfl
    have y2 : w8.cell? ⟨w5.heap.size, 2, none⟩ = some (.bool c) := by simp only [World.cell?, f2]; rfl
    have hcx1 := Kd.C_string (P := Tryd.prog) (src := 22) (e := 5) (dst := 9) (c := k1) Tryd.underlying22 Tryd.underlying5 Tryd.underlying9 (C_of_reads hr1)
    have hcx2 := Kd.C_string (P := Tryd.prog) (src := 22) (e := 5) (dst := 9) (c := k2) Tryd.underlying22 Tryd.underlying5 Tryd.underlying9 (C_of_reads hr2)
    clear f1 f2 hB1 hB2 hr1 hr2
    go_wp2
    go_ret
    exact ⟨rfl, hb8⟩
  · have : 4096 < l.length := by omega
    clear hg1
    go_enter Tryd.func4, Tryd.ntmps4
    go_wp2_with fail
    refine (cB.out _ HT.out).mono ?_
    rintro e w1 ⟨rfl, hb⟩
    go_wp2
    go_ret
    exact ⟨rfl, hb⟩
end Go.Proofs.YtnohcfgjhgfjkaaDoor.S
