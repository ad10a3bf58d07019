/-
  ReplyWrites answers true at every reply, in every world where the library's table stands.
-/
import Derived.Test.YtnohcfgjhgfjkaaDoorWalkReplyTwo
import Derived.Test.YtnohcfgjhgfjkaaDoorSpoilOb
namespace Go.Proofs.YtnohcfgjhgfjkaaDoor.S
open Go.RowKit Go.Proofs.YtnohcfgjhgfjkaaDoorW.PrintWords
set_option linter.unusedVariables false
set_option linter.unusedSimpArgs false
theorem ref_bytes_gen (st : Int) (c : Bool) (A : Option Addr) (cap : Nat) (l : List Int) (w : World) (h0 : -9223372036854775808 ≤ st) (h1 : st ≤ 9223372036854775807) (hR : ReadsInt w .u8 A l.length l) (hlen : l.length ≤ 1048576) :
    Calls Tryd.prog 10 #[.agg #[.int .i64 st, .slice A l.length cap, .bool c]] w fun e w' => ∃ v er, e = .returned (.tuple #[v, .int .i64 er]) ∧ Hid ((rs st = [] ∧ er = 1 ∧ v = .slice none 0 0) ∨ (rs st ≠ [] ∧ er = 0 ∧ OB w' w.heap.size v (repB st c l))) ∧ Below w.heap.size w w' := by
  by_cases h : rs st = []
  · exact (ref_bytes_bad st c A l.length cap w h).mono fun e w' ⟨he, hb⟩ => ⟨_, _, he, Lib.hid (.inl ⟨h, rfl, rfl⟩), hb⟩
  · exact (ref_bytes_ok st c A cap l w h0 h1 h hR hlen).mono fun e w' ⟨v, he, ho, hb⟩ => ⟨v, _, he, Lib.hid (.inr ⟨h, rfl, ho⟩), hb⟩
/-- The three blocks that the law keeps: the reply, its twin, the twin's bytes. -/
structure WS (w wr : World) (st : Int) (A : Option Addr) (cap : Nat) (l : List Int) (c : Bool) (G gT : Nat) : Prop where mk ::
  (below : Below w.heap.size w wr) (r : wr.heap[w.heap.size]? = some (.cells #[.int .i64 st, .slice A l.length cap, .bool c] 24 (0, 0)))
  (t : wr.heap[G]? = some (.cells #[.int .i64 st, .slice (some ⟨gT, 0, none⟩) l.length (l.length + 3), .bool c] 24 (0, 0))) (k : Blk wr gT (l ++ e5))
section
variable {w wr w1 : World} {st : Int} {A : Option Addr} {cap : Nat} {l : List Int} {c : Bool} {G gT B : Nat}
theorem WS.step' (h : WS w wr st A cap l c G gT) (hB : wr.heap.size ≤ B) (hb : Below B wr w1) : WS w w1 st A cap l c G gT :=
  ⟨h.below.trans (hb.mono (Nat.le_trans h.below.size hB)), (hb.block _ (Nat.lt_of_lt_of_le (lt_of_block h.r) hB)).trans h.r, (hb.block _ (Nat.lt_of_lt_of_le (lt_of_block h.t) hB)).trans h.t, (hb.block _ (Nat.lt_of_lt_of_le (lt_of_block h.k) hB)).trans h.k⟩
theorem WS.step (h : WS w wr st A cap l c G gT) (hb : Below wr.heap.size wr w1) : WS w w1 st A cap l c G gT := h.step' (Nat.le_refl _) hb
theorem WS.cells (h : WS w wr st A cap l c G gT) : (wr.cell? ⟨w.heap.size, 0, none⟩ = some (.int .i64 st) ∧ wr.cell? ⟨w.heap.size, 1, none⟩ = some (.slice A l.length cap) ∧ wr.cell? ⟨w.heap.size, 2, none⟩ = some (.bool c)) ∧ wr.cell? ⟨G, 0, none⟩ = some (.int .i64 st) ∧ wr.cell? ⟨G, 1, none⟩ = some (.slice (some ⟨gT, 0, none⟩) l.length (l.length + 3)) ∧ wr.cell? ⟨G, 2, none⟩ = some (.bool c) := by
  have h1 := h.r
  have h2 := h.t
  simp only [World.cell?, h1, h2]
  simp
end
theorem last6 {a b c d e f : Prop} (h : a ∧ b ∧ c ∧ d ∧ e ∧ f) : f := h.2.2.2.2.2
theorem both {w5 w6 : World} {base2 base : Nat} {st : Int} {c : Bool} {l : List Int} {v1 v2 : Value} {er1 er2 : Int} (h1 : (rs st = [] ∧ er1 = 1 ∧ v1 = .slice none 0 0) ∨ (rs st ≠ [] ∧ er1 = 0 ∧ OB w5 base v1 (repB st c l))) (h2 : (rs st = [] ∧ er2 = 1 ∧ v2 = .slice none 0 0) ∨ (rs st ≠ [] ∧ er2 = 0 ∧ OB w6 base2 v2 (repB st c l))) (h6 : Below w5.heap.size w5 w6) :
    ∃ P1 k1 P2 k2 xs er, v1 = .slice P1 xs.length k1 ∧ v2 = .slice P2 xs.length k2 ∧ er1 = er ∧ er2 = er ∧ ReadsInt w6 .u8 P1 xs.length xs ∧ ReadsInt w6 .u8 P2 xs.length xs ∧ Hid (∀ w', Below w6.heap.size w6 w' → Calls Tryd.prog 14 #[.slice P1 xs.length k1] w' fun e w'' => e = .returned (.tuple #[]) ∧ Below base w' w'') := by
  rcases h1 with ⟨hs, rfl, rfl⟩ | ⟨hs, rfl, h1⟩
  · rcases h2 with ⟨_, rfl, rfl⟩ | ⟨hs2, _⟩
    · have hr : ReadsInt w6 .u8 none 0 [] := ⟨rfl, by omega, fun h => by omega⟩
      exact ⟨none, 0, none, 0, [], 1, rfl, rfl, rfl, rfl, hr, hr, Lib.hid fun w' _ => (spoil_nil w').mono fun e w'' ⟨he, hw⟩ => ⟨he, by rw [hw]; exact Below.refl _ _⟩⟩
    · exact absurd hs hs2
  · rcases h2 with ⟨hs2, _⟩ | ⟨_, rfl, h2⟩
    · exact absurd hs2 hs
    · obtain ⟨g1, k1, rfl, _, hr1⟩ := (h1.below h6).reads
      obtain ⟨g2, k2, rfl, _, hr2⟩ := h2.reads
      exact ⟨_, k1, _, k2, _, 0, rfl, rfl, rfl, rfl, hr1, hr2, Lib.hid fun w' hb => spoil_ob w' base _ _ ((h1.below h6).below hb)⟩
set_option maxHeartbeats 4000000 in
set_option maxRecDepth 100000 in
theorem replyWrites_walk (w : World) (st : Int) (A : Option Addr) (len cap : Nat) (l : List Int) (c : Bool) (s1 : (Lit.int .i64 st).wf = true) (H1 : Bytes w A len cap l) (hT : Tabs w) :
    Calls Tryd.prog 3 #[.agg #[.int .i64 st, .slice A len cap, .bool c]] w fun e w' => e = .returned (.bool true) ∧ Below w.heap.size w w' := by
  obtain ⟨rfl, hcap1, hR1, hwf1⟩ := H1
  have hb1 : -9223372036854775808 ≤ st ∧ st ≤ 9223372036854775807 := by simpa [Lit.wf, IntKind.min, IntKind.max, IntKind.signed, IntKind.bits] using s1
  have cB := Lib.hid begun_any
  have hb : Below w.heap.size w (w.alloc (.cells #[.int .i64 st, .slice A l.length cap, .bool c] 24)) := below_alloc (Below.refl _ _) _
  have q1 : (w.alloc (.cells #[.int .i64 st, .slice A l.length cap, .bool c] 24)).heap[w.heap.size]? = some (.cells #[.int .i64 st, .slice A l.length cap, .bool c] 24) := heap_alloc_new w _
  have HR1 := Lib.hid hR1
  have HB1 := Lib.hid hb1
  clear hR1 hwf1 hb1 s1
  go_enter Tryd.func3, Tryd.ntmps3
  go_wp2_with fail
  generalize w.alloc (.cells #[.int .i64 st, .slice A l.length cap, .bool c] 24) = w0 at *
  refine (cB.out _ (hT.below hb)).mono ?_
  rintro e w1 ⟨rfl, h1⟩
  have hb := bthen hb h1
  have q1 := (h1.block _ (lt_of_block q1)).trans q1
  have HT := Lib.hid hT
  clear h1 hT
  have a0 : w1.cell? ⟨w.heap.size, 0, none⟩ = some (.int .i64 st) := by simp only [World.cell?, q1]; rfl
  have a1 : w1.cell? ⟨w.heap.size, 1, none⟩ = some (.slice A l.length cap) := by simp only [World.cell?, q1]; rfl
  have a2 : w1.cell? ⟨w.heap.size, 2, none⟩ = some (.bool c) := by simp only [World.cell?, q1]; rfl
  by_cases hg1 : l.length ≤ 8192
  · have HQ := Lib.hid q1
    have one1 : (#[.int .i64 st, .slice A l.length cap, .bool c] : Array Value).all (·.oneCell') = true := by simp [Value.oneCell']
    have ONE := Lib.hid one1
    clear q1 one1
    go_wp2_with ((refine wpList_store_row rfl 24 _ _ rfl w1.heap.size #[.int .i64 st, .slice A l.length cap, .bool c] rfl rfl 24 #[.int .i64 0, .slice none 0 0, .bool false] (heap_alloc_new w1 _) info24 rfl ONE.out ?_); refine Hid.out ?_)
    refine Lib.hid ?_
    have f1 := setRow_heap (w1.alloc (.cells #[.int .i64 0, .slice none 0 0, .bool false] 24)) w1.heap.size _ #[.int .i64 st, .slice A l.length cap, .bool c] 24 _ (heap_alloc_new w1 _)
    have f2 := below_setRow (below_alloc (Below.refl w1.heap.size w1) (.cells #[.int .i64 0, .slice none 0 0, .bool false] 24)) (Nat.le_refl _) #[.int .i64 st, .slice A l.length cap, .bool c]
    generalize (w1.alloc (.cells #[.int .i64 0, .slice none 0 0, .bool false] 24)).setRow w1.heap.size #[.int .i64 st, .slice A l.length cap, .bool c] = w2 at f1 f2
    have HF1 := Lib.hid f1
    have HQ2 := Lib.hid ((f2.block _ (lt_of_block HQ.out)).trans HQ.out)
    have hb2 := bthen hb f2
    have a1 := pw_cell_below f2 a1
    have hlt := lt_of_block HQ.out
    clear f1
    go_wp2_with fail
    refine (twin_any A cap l w2 l.length (HR1.out.below hb2) rfl (by omega)).mono ?_
    rintro e w3 ⟨rfl, HK3, h3⟩
    have r3 := (h3.block _ (lt_of_block HQ2.out)).trans HQ2.out
    have t3 := (h3.block _ (lt_of_block HF1.out)).trans HF1.out
    have hlt2 := lt_of_block HF1.out
    have c1 : w3.cell? ⟨w1.heap.size, 1, none⟩ = some (.slice A l.length cap) := by simp only [World.cell?, t3]; rfl
    have z1 : w3.frozen? ⟨w1.heap.size, 1, none⟩ = false := by simp only [World.frozen?, t3]; simp
    have hWS : WS w (w3.setCell ⟨w1.heap.size, 1, none⟩ (.slice (some ⟨w2.heap.size, 0, none⟩) l.length (l.length + 3))) st A cap l c w1.heap.size w2.heap.size :=
      ⟨(bthen hb2 h3).setCell (by show w.heap.size ≤ w1.heap.size; omega) _, (Below.heap_setCell w3 _ _ _ (by show w.heap.size ≠ w1.heap.size; omega)).trans r3, heap_setCell_same _ _ _ _ _ _ t3, (Below.heap_setCell w3 _ _ _ (by show w2.heap.size ≠ w1.heap.size; omega)).trans HK3.out⟩
    have HWS := Lib.hid hWS
    clear r3 t3 hWS
    clear hb hb2 f2 h3 HK3
    have hGB := HWS.out.below.size
    go_wp2_with fail
    clear a0 a1 a2 c1 z1
    go_loopw [4] (fun i wr => ∃ k : Nat, k ≤ 2 ∧ i = .int .i64 k ∧ WS w wr st A cap l c w1.heap.size w2.heap.size) (fun i _ => 2 - (intOf i).toNat)
    case atStart => exact ⟨0, by omega, rfl, HWS.out⟩
    case round =>
      obtain ⟨k, hk, rfl, HW⟩ := hrel
      rename_i wr
      by_cases hk2 : k < 2
      · obtain ⟨⟨a0, a1, a2⟩, b0, b1, b2⟩ := HW.cells
        go_wp2_with fail
        refine (bytes_gen st c (some ⟨w2.heap.size, 0, none⟩) (l.length + 3) l wr HB1.out.1 HB1.out.2 (HW.k.reads rfl (by omega)) (by omega) (HT.out.below HW.below)).mono ?_
        rintro e w5 ⟨v1, er1, rfl, HV1, h5⟩
        have HW5 := HW.step h5
        replace a0 := pw_cell_below h5 a0
        replace a1 := pw_cell_below h5 a1
        replace a2 := pw_cell_below h5 a2
        replace b1 := pw_cell_below h5 b1
        clear b0 b2
        go_wp2_with fail
        refine (ref_bytes_gen st c A cap l w5 HB1.out.1 HB1.out.2 (HR1.out.below HW5.below) (by omega)).mono ?_
        rintro e w6 ⟨v2, er2, rfl, HV2, h6⟩
        have HW6 := HW5.step h6
        replace a0 := pw_cell_below h6 a0
        replace a1 := pw_cell_below h6 a1
        replace b1 := pw_cell_below h6 b1
        clear a2
        obtain ⟨P1, k1, P2, k2, xs, er, rfl, rfl, rfl, rfl, hr1, hr2, HSP⟩ := both HV1.out HV2.out h6
        have hx1 := Kd.C_string (P := Tryd.prog) (src := 22) (e := 5) (dst := 9) (c := k1) Tryd.underlying22 Tryd.underlying5 Tryd.underlying9 (C_of_reads hr1)
        have hx2 := Kd.C_string (P := Tryd.prog) (src := 22) (e := 5) (dst := 9) (c := k2) Tryd.underlying22 Tryd.underlying5 Tryd.underlying9 (C_of_reads hr2)
        have HH5 := Lib.hid h5.size
        have HH6 := Lib.hid h6.size
        have HWh := Lib.hid HW6
        have HX := Lib.hid (fun (w' : World) (hb : Below w6.heap.size w6 w') => (⟨pw_cell_below hb a0, pw_cell_below hb a1, pw_cell_below hb b1, Kd.C_string (P := Tryd.prog) (src := 22) (e := 5) (dst := 9) (c := k1) Tryd.underlying22 Tryd.underlying5 Tryd.underlying9 (C_of_reads (hr1.below hb)), Kd.C_string (P := Tryd.prog) (src := 22) (e := 5) (dst := 9) (c := k2) Tryd.underlying22 Tryd.underlying5 Tryd.underlying9 (C_of_reads (hr2.below hb)), hb⟩ : (w'.cell? ⟨w.heap.size, 0, none⟩ = some (.int .i64 st) ∧ w'.cell? ⟨w.heap.size, 1, none⟩ = some (.slice A l.length cap) ∧ w'.cell? ⟨w1.heap.size, 1, none⟩ = some (.slice (some ⟨w2.heap.size, 0, none⟩) l.length (l.length + 3)) ∧ _ ∧ _ ∧ Below w6.heap.size w6 w')))
        have HKEEP := Lib.hid (show WS w wr st A cap l c w1.heap.size w2.heap.size ∧ Below wr.heap.size wr w6 from ⟨HW, bthen h5 h6⟩)
        clear HV1 HV2 h5 h6 hr1 hr2 HW HW5 HW6 HH5 HH6
        have cR1 : Hid (∀ w, Calls Tryd.prog 11 #[.int .i64 st] w fun e w' => e = .returned (.string ⟨(rs st).toArray⟩) ∧ Drawn0 w w') := Lib.hid fun w => reply_Reason.calls st _ w (reason_f st)
        have cR2 := Lib.hid (ref_reason_any st)
        generalize (⟨(rs st).toArray⟩ : ByteArray) = sr at cR1 cR2
        go_wp2_with fail
        go_region_held3 (fun w' => w'.cell? ⟨w.heap.size, 0, none⟩ = some (.int .i64 st) ∧ w'.cell? ⟨w.heap.size, 1, none⟩ = some (.slice A l.length cap) ∧ w'.cell? ⟨w1.heap.size, 1, none⟩ = some (.slice (some ⟨w2.heap.size, 0, none⟩) l.length (l.length + 3)) ∧ (convert 22 9 (.slice P1 xs.length k1)).run Tryd.prog w' = .ok (.string (strOfNums xs)) w' ∧ (convert 22 9 (.slice P2 xs.length k2)).run Tryd.prog w' = .ok (.string (strOfNums xs)) w' ∧ Below w6.heap.size w6 w')
          (first | exact HX.out _ (Below.refl _ _).drew | exact HX.out _ (bthen (last6 (by assumption)) (by assumption)) | assumption)
          (first
            | (go_at_call 11; refine (cR1.out _).mono ?_; rintro e7 w7 ⟨rfl, hd7⟩; have hb7 := hd7.below; clear hd7)
            | (go_at_call 12; refine (cR2.out _).mono ?_; rintro e8 w8 ⟨rfl, hb8⟩)
            | (go_at_call 13; refine (kept_any w2.heap.size A cap l _ l.length (HWh.out.step (last6 (by assumption))).k (HR1.out.below (HWh.out.step (last6 (by assumption))).below) rfl (by omega)).mono ?_; rintro e9 w9 ⟨rfl, hd9⟩; have hb9 := hd9.below; clear hd9))
        have hB9 := last6 (by assumption)
        have HB9 := Lib.hid hB9
        clear hB9
        go_wp2_with fail
        refine (HSP.out _ HB9.out).mono ?_
        rintro eA wA ⟨rfl, hA⟩
        have hWA := HKEEP.out.1.step ((bthen HKEEP.out.2 HB9.out).trans hA)
        have HWA := Lib.hid hWA
        clear hWA hA
        go_wp2
        go_roundw
        case rel => exact ⟨k + 1, by omega, by go_num, HWA.out⟩
        case measure => simp [intOf]; omega
      · have hk3 : k = 2 := by omega
        subst hk3
        have hbb := HW.below
        clear HW hk hk2
        go_wp2
        go_ret
        exact ⟨rfl, hbb⟩
  · have : 8192 < l.length := by omega
    clear hg1 q1
    go_wp2
    go_ret
    exact ⟨rfl, hb⟩
end Go.Proofs.YtnohcfgjhgfjkaaDoor.S
