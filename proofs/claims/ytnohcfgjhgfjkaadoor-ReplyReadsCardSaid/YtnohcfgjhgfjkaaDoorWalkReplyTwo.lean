/-
  ReplyTwo answers true at every two replies, in every world where the library's table stands.
-/
import Derived.Test.YtnohcfgjhgfjkaaDoorRep25i
import Derived.Test.YtnohcfgjhgfjkaaDoorOpenRep
namespace Go.Proofs.YtnohcfgjhgfjkaaDoor.S
open Go.RowKit Go.Proofs.YtnohcfgjhgfjkaaDoorW.PrintWords
set_option linter.unusedVariables false
set_option linter.unusedSimpArgs false
theorem rs_mem {st : Int} (h : rs st ≠ []) : st ∈ nums11 := by
  have : ∀ l : List (Int × List UInt8), look l st ≠ [] → st ∈ l.map (·.1) := by
    intro l
    induction l with
    | nil => intro h; exact absurd rfl h
    | cons p l ih =>
      obtain ⟨a, b⟩ := p
      intro h
      by_cases e : st = a
      · subst e; simp
      · rw [look_ne e] at h
        simp [ih h]
  exact this _ h
theorem u8_inj {a b : List Int} (ha : ∀ c ∈ a, 0 ≤ c ∧ c ≤ 255) (hb : ∀ c ∈ b, 0 ≤ c ∧ c ≤ 255) (h : u8 a = u8 b) : a = b := by
  have := congrArg (fun l : List UInt8 => bytesOf ⟨l.toArray⟩) h
  simpa only [bytesOf_u8 a ha, bytesOf_u8 b hb] using this
theorem str_inj {a b : List Int} (ha : ∀ c ∈ a, 0 ≤ c ∧ c ≤ 255) (hb : ∀ c ∈ b, 0 ≤ c ∧ c ≤ 255) (h : strOfNums a = strOfNums b) : a = b := by
  rw [str_u8, str_u8] at h
  refine u8_inj ha hb ?_
  have := congrArg (fun s : ByteArray => s.data.toList) h
  simpa using this
/-- No two answers are the same bytes. -/
theorem rep_inj {st1 st2 : Int} {c1 c2 : Bool} {l1 l2 : List Int} (h1 : rs st1 ≠ []) (h2 : rs st2 ≠ []) (hl1 : l1.length ≤ 1048576) (hl2 : l2.length ≤ 1048576) (b1 : ∀ c ∈ l1, 0 ≤ c ∧ c ≤ 255) (b2 : ∀ c ∈ l2, 0 ≤ c ∧ c ≤ 255)
    (h : strOfNums (repB st1 c1 l1) = strOfNums (repB st2 c2 l2)) : st1 = st2 ∧ c1 = c2 ∧ l1 = l2 := by
  rw [str_repB, str_repB] at h
  have h3 : wholeL st1 l1.length c1 ++ u8 l1 = wholeL st2 l2.length c2 ++ u8 l2 := by
    have := congrArg (fun s : ByteArray => s.data.toList) h
    simpa using this
  have t1 := take_back st1 c1 (u8 l1) [] (rs_mem h1) (by rw [u8_len]; omega)
  have t2 := take_back st2 c2 (u8 l2) [] (rs_mem h2) (by rw [u8_len]; omega)
  rw [u8_len, List.append_nil] at t1 t2
  rw [h3, t2] at t1
  simp only [Prod.mk.injEq] at t1
  exact ⟨t1.1.symm, t1.2.2.1.symm, (u8_inj b2 b1 t1.2.1).symm⟩
theorem bytes_gen (st : Int) (c : Bool) (A : Option Addr) (cap : Nat) (l : List Int) (w : World) (h0 : -9223372036854775808 ≤ st) (h1 : st ≤ 9223372036854775807) (hR : ReadsInt w .u8 A l.length l) (hlen : l.length ≤ 1048576) (hT : Tabs w) :
    Calls Tryd.prog 9 #[.agg #[.int .i64 st, .slice A l.length cap, .bool c]] w fun e w' => ∃ v er, e = .returned (.tuple #[v, .int .i64 er]) ∧ Hid ((rs st = [] ∧ er = 1 ∧ v = .slice none 0 0) ∨ (rs st ≠ [] ∧ er = 0 ∧ OB w' w.heap.size v (repB st c l))) ∧ Below w.heap.size w w' := by
  by_cases h : rs st = []
  · exact (bytes_bad st c A l.length cap w h).mono fun e w' ⟨he, hb⟩ => ⟨_, _, he, Lib.hid (.inl ⟨h, rfl, rfl⟩), hb⟩
  · exact (bytes_ok st c A cap l w h0 h1 h hR hlen hT).mono fun e w' ⟨v, he, ho, hb⟩ => ⟨v, _, he, Lib.hid (.inr ⟨h, rfl, ho⟩), hb⟩
theorem str_ne {a b : ByteArray} (h : a ≠ b) : (a.toList == b.toList) = false := by
  rw [Lib.toList_data, Lib.toList_data]
  have : a.data.toList ≠ b.data.toList := fun e => h (ByteArray.ext (Array.ext' e))
  simpa using this
set_option maxHeartbeats 4000000 in
set_option maxRecDepth 100000 in
theorem replyTwo_walk (w : World) (st1 : Int) (A1 : Option Addr) (len1 cap1 : Nat) (l1 : List Int) (c1 : Bool) (s1 : (Lit.int .i64 st1).wf = true) (H1 : Bytes w A1 len1 cap1 l1) (st2 : Int) (A2 : Option Addr) (len2 cap2 : Nat) (l2 : List Int) (c2 : Bool) (s2 : (Lit.int .i64 st2).wf = true) (H2 : Bytes w A2 len2 cap2 l2) (hT : Tabs w) :
    Calls Tryd.prog 6 #[.agg #[.int .i64 st1, .slice A1 len1 cap1, .bool c1], .agg #[.int .i64 st2, .slice A2 len2 cap2, .bool c2]] w fun e w' => e = .returned (.bool true) ∧ Below w.heap.size w w' := by
  obtain ⟨rfl, hcap1, hR1, hwf1⟩ := H1
  obtain ⟨rfl, hcap2, hR2, hwf2⟩ := H2
  have hb1 : -9223372036854775808 ≤ st1 ∧ st1 ≤ 9223372036854775807 := by simpa [Lit.wf, IntKind.min, IntKind.max, IntKind.signed, IntKind.bits] using s1
  have hb2 : -9223372036854775808 ≤ st2 ∧ st2 ≤ 9223372036854775807 := by simpa [Lit.wf, IntKind.min, IntKind.max, IntKind.signed, IntKind.bits] using s2
  have cB := Lib.hid begun_any
  have hb : Below w.heap.size w ((w.alloc (.cells #[.int .i64 st1, .slice A1 l1.length cap1, .bool c1] 24)).alloc (.cells #[.int .i64 st2, .slice A2 l2.length cap2, .bool c2] 24)) := below_alloc (below_alloc (Below.refl _ _) _) _
  have q1 : ((w.alloc (.cells #[.int .i64 st1, .slice A1 l1.length cap1, .bool c1] 24)).alloc (.cells #[.int .i64 st2, .slice A2 l2.length cap2, .bool c2] 24)).heap[w.heap.size]? = some (.cells #[.int .i64 st1, .slice A1 l1.length cap1, .bool c1] 24) := (Below.heap_alloc _ _ _ (by simp)).trans (heap_alloc_new w _)
  have q2 : ((w.alloc (.cells #[.int .i64 st1, .slice A1 l1.length cap1, .bool c1] 24)).alloc (.cells #[.int .i64 st2, .slice A2 l2.length cap2, .bool c2] 24)).heap[w.heap.size + 1]? = some (.cells #[.int .i64 st2, .slice A2 l2.length cap2, .bool c2] 24) := heap_alloc2_new w _ _
  have HR1 := Lib.hid hR1
  have HR2 := Lib.hid hR2
  have HW1 := Lib.hid hwf1
  have HW2 := Lib.hid hwf2
  have HB1 := Lib.hid hb1
  have HB2 := Lib.hid hb2
  clear hR1 hR2 hwf1 hwf2 hb1 hb2 s1 s2
  go_enter Tryd.func6, Tryd.ntmps6
  go_wp2_with fail
  generalize (w.alloc (.cells #[.int .i64 st1, .slice A1 l1.length cap1, .bool c1] 24)).alloc (.cells #[.int .i64 st2, .slice A2 l2.length cap2, .bool c2] 24) = w0 at *
  refine (cB.out _ (hT.below hb)).mono ?_
  rintro e w1 ⟨rfl, h1⟩
  have hb := bthen hb h1
  have q1 := (h1.block _ (lt_of_block q1)).trans q1
  have q2 := (h1.block _ (lt_of_block q2)).trans q2
  have HT := Lib.hid hT
  clear h1 hT
  have a0 : w1.cell? ⟨w.heap.size, 0, none⟩ = some (.int .i64 st1) := by simp only [World.cell?, q1]; rfl
  have a1 : w1.cell? ⟨w.heap.size, 1, none⟩ = some (.slice A1 l1.length cap1) := by simp only [World.cell?, q1]; rfl
  have a2 : w1.cell? ⟨w.heap.size, 2, none⟩ = some (.bool c1) := by simp only [World.cell?, q1]; rfl
  have b0 : w1.cell? ⟨w.heap.size + 1, 0, none⟩ = some (.int .i64 st2) := by simp only [World.cell?, q2]; rfl
  have b1 : w1.cell? ⟨w.heap.size + 1, 1, none⟩ = some (.slice A2 l2.length cap2) := by simp only [World.cell?, q2]; rfl
  have b2 : w1.cell? ⟨w.heap.size + 1, 2, none⟩ = some (.bool c2) := by simp only [World.cell?, q2]; rfl
  by_cases hg1 : l1.length ≤ 4096
  · by_cases hg2 : l2.length ≤ 4096
    · have HQ1 := Lib.hid q1
      have HQ2 := Lib.hid q2
      clear q1 q2
      go_wp2_with fail
      refine (bytes_gen st1 c1 A1 cap1 l1 w1 HB1.out.1 HB1.out.2 (HR1.out.below hb) (by omega) (HT.out.below hb)).mono ?_
      rintro e w2 ⟨v1, er1, rfl, HV1, h2⟩
      replace hb := bthen hb h2
      replace a0 := pw_cell_below h2 a0
      replace a1 := pw_cell_below h2 a1
      replace a2 := pw_cell_below h2 a2
      replace b0 := pw_cell_below h2 b0
      replace b1 := pw_cell_below h2 b1
      replace b2 := pw_cell_below h2 b2
      go_wp2_with fail
      refine (bytes_gen st2 c2 A2 cap2 l2 w2 HB2.out.1 HB2.out.2 (HR2.out.below hb) (by omega) (HT.out.below hb)).mono ?_
      rintro e w3 ⟨v2, er2, rfl, HV2, h3⟩
      replace hb := bthen hb h3
      replace a0 := pw_cell_below h3 a0
      replace a1 := pw_cell_below h3 a1
      replace a2 := pw_cell_below h3 a2
      replace b0 := pw_cell_below h3 b0
      replace b1 := pw_cell_below h3 b1
      replace b2 := pw_cell_below h3 b2
      rcases HV1.out with ⟨_, rfl, rfl⟩ | ⟨hs1, rfl, HO1⟩
      · clear HV1 HV2
        go_wp2
        go_ret
        exact ⟨rfl, hb⟩
      · rcases HV2.out with ⟨_, rfl, rfl⟩ | ⟨hs2, rfl, HO2⟩
        · clear HV1 HV2
          have HO := Lib.hid HO1
          clear HO1 hs1
          go_wp2
          go_ret
          exact ⟨rfl, hb⟩
        · obtain ⟨g1, k1, rfl, _, hR1⟩ := (HO1.below h3).reads
          obtain ⟨g2, k2, rfl, _, hR2⟩ := HO2.reads
          have hcx1 := Kd.C_string (P := Tryd.prog) (src := 22) (e := 5) (dst := 9) (c := k1) Tryd.underlying22 Tryd.underlying5 Tryd.underlying9 (C_of_reads hR1)
          have hcx2 := Kd.C_string (P := Tryd.prog) (src := 22) (e := 5) (dst := 9) (c := k2) Tryd.underlying22 Tryd.underlying5 Tryd.underlying9 (C_of_reads hR2)
          have hcy1 := Kd.C_string (P := Tryd.prog) (src := 22) (e := 5) (dst := 9) (c := cap1) Tryd.underlying22 Tryd.underlying5 Tryd.underlying9 (C_of_reads (HR1.out.below hb))
          have hcy2 := Kd.C_string (P := Tryd.prog) (src := 22) (e := 5) (dst := 9) (c := cap2) Tryd.underlying22 Tryd.underlying5 Tryd.underlying9 (C_of_reads (HR2.out.below hb))
          have key : strOfNums (repB st1 c1 l1) = strOfNums (repB st2 c2 l2) → st1 = st2 ∧ c1 = c2 ∧ l1 = l2 := rep_inj hs1 hs2 (by omega) (by omega) HW1.out HW2.out
          clear HV1 HV2 HO1 HO2 hR1 hR2 hs1 hs2 h2 h3
          by_cases e1 : st1 = st2
          · subst e1
            by_cases e2 : c1 = c2
            · subst e2
              by_cases e3 : l1 = l2
              · subst e3
                clear key
                go_wp2
                go_ret
                exact ⟨rfl, hb⟩
              · have hS := str_ne (fun h => e3 (key h).2.2)
                have hT2 := str_ne (fun h => e3 (str_inj HW1.out HW2.out h))
                clear key e3
                generalize strOfNums (repB st1 c1 l1) = S1 at *
                generalize strOfNums (repB st1 c1 l2) = S2 at *
                generalize strOfNums l1 = S3 at *
                generalize strOfNums l2 = S4 at *
                go_wp2
                go_ret
                exact ⟨rfl, hb⟩
            · have hS := str_ne (fun h => e2 (key h).2.1)
              have hc : (c1 == c2) = false := by simpa using e2
              clear key e2
              generalize strOfNums (repB st1 c1 l1) = S1 at *
              generalize strOfNums (repB st1 c2 l2) = S2 at *
              go_wp2
              go_ret
              exact ⟨rfl, hb⟩
          · have hS := str_ne (fun h => e1 (key h).1)
            have hc : (st1 == st2) = false := by simpa using e1
            clear key e1
            generalize strOfNums (repB st1 c1 l1) = S1 at *
            generalize strOfNums (repB st2 c2 l2) = S2 at *
            go_wp2
            go_ret
            exact ⟨rfl, hb⟩
    · have : 4096 < l2.length := by omega
      clear hg2 q1 q2
      go_wp2
      go_ret
      exact ⟨rfl, hb⟩
  · have : 4096 < l1.length := by omega
    clear hg1 q1 q2
    go_wp2
    go_ret
    exact ⟨rfl, hb⟩
end Go.Proofs.YtnohcfgjhgfjkaaDoor.S
