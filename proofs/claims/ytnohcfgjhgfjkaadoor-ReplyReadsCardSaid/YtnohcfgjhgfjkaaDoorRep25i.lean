/-
  cofferlaw25.begun, walked: it answers true in every world where the library's table stands.
-/
import Derived.Test.YtnohcfgjhgfjkaaDoorRep25h
namespace Go.Proofs.YtnohcfgjhgfjkaaDoor.S
open Go.RowKit Go.Proofs.YtnohcfgjhgfjkaaDoorW.PrintWords
set_option linter.unusedVariables false
set_option linter.unusedSimpArgs false
theorem TakeOut.ok {s b : List UInt8} {w w' : World} {e : Ending} {st m : Int} {c : Bool} (h : TakeOut s w w' e) (ht : takeS s = (st, b, c, m, 0)) :
    ∃ g n cap, e = .returned (.tuple #[.agg #[.int .i64 st, .slice (some ⟨g, 0, none⟩) n cap, .bool c], .int .i64 m, .int .i64 0]) ∧ OB w' w.heap.size (.slice (some ⟨g, 0, none⟩) n cap) (bytesOf ⟨b.toArray⟩) ∧ Below w.heap.size w w' := by
  unfold TakeOut at h
  rw [ht] at h
  obtain ⟨bv, he, ho, hb⟩ := h
  have ho2 : OB w' w.heap.size bv (bytesOf ⟨b.toArray⟩) := by
    have : (if (0 : Int) = 0 then OB w' w.heap.size bv (bytesOf ⟨b.toArray⟩) else bv = .slice none 0 0) := ho
    rwa [if_pos rfl] at this
  obtain ⟨g, n, cap, rfl⟩ := ho2.form
  exact ⟨g, n, cap, he, ho2, hb⟩
theorem TakeOut.bad {s : List UInt8} {w w' : World} {e : Ending} {e0 : Int} (h : TakeOut s w w' e) (ht : takeS s = (0, [], false, 0, e0)) (h0 : e0 ≠ 0) :
    e = .returned (.tuple #[.agg #[.int .i64 0, .slice none 0 0, .bool false], .int .i64 0, .int .i64 e0]) ∧ Below w.heap.size w w' := by
  unfold TakeOut at h
  rw [ht] at h
  obtain ⟨bv, he, ho, hb⟩ := h
  have ho2 : bv = .slice none 0 0 := by
    have : (if e0 = 0 then OB w' w.heap.size bv (bytesOf ⟨([] : List UInt8).toArray⟩) else bv = .slice none 0 0) := ho
    rwa [if_neg h0] at this
  subst ho2
  exact ⟨he, hb⟩
/-- Bytes as the list of a text. -/
def u8 (l : List Int) : List UInt8 := l.map fun x => UInt8.ofNat x.toNat
theorem str_u8 (l : List Int) : strOfNums l = ⟨(u8 l).toArray⟩ := by unfold strOfNums u8; apply ByteArray.ext; simp
theorem u8_bytesOf (l : List UInt8) : u8 (bytesOf ⟨l.toArray⟩) = l := by unfold u8 bytesOf; simp only [List.map_map]; rw [List.map_congr_left (g := id) (fun c _ => by simp)]; simp
theorem bytesOf_u8 (l : List Int) (hl : ∀ c ∈ l, 0 ≤ c ∧ c ≤ 255) : bytesOf ⟨(u8 l).toArray⟩ = l := by
  unfold u8 bytesOf
  simp only [List.map_map]
  have : ∀ c ∈ l, ((fun b : UInt8 => (b.toNat : Int)) ∘ fun x : Int => UInt8.ofNat x.toNat) c = id c := fun c hc => by
    have := hl c hc
    simp; omega
  rw [List.map_congr_left this, List.map_id]
theorem str_repB (st : Int) (c : Bool) (l : List Int) : strOfNums (repB st c l) = ⟨(wholeL st l.length c ++ u8 l).toArray⟩ := by
  rw [str_u8]
  have e : u8 (repB st c l) = wholeL st l.length c ++ u8 l := by
    unfold repB
    have : ∀ a b : List Int, u8 (a ++ b) = u8 a ++ u8 b := fun a b => by simp [u8]
    rw [this, u8_bytesOf]
  rw [e]
theorem repB_len (st : Int) (c : Bool) (l : List Int) : (repB st c l).length = (wholeL st l.length c).length + l.length := by unfold repB; rw [List.length_append, bytesOf_len]
theorem u8_len (l : List Int) : (u8 l).length = l.length := by simp [u8]
theorem itoa200 : Lib.itoa 200 = [50, 48, 48] := by simp [Lib.itoa, Lib.decDigits]
theorem itoa1 : Lib.itoa 1 = [49] := by simp [Lib.itoa, Lib.decDigits]
theorem whole_lit : wholeL 200 1 false ++ u8 [97] = [72, 84, 84, 80, 47, 49, 46, 49, 32, 50, 48, 48, 32, 79, 75, 13, 10, 67, 111, 110, 116, 101, 110, 116, 45, 76, 101, 110, 103, 116, 104, 58, 32, 49, 13, 10, 13, 10, 97] := by
  unfold wholeL headL
  rw [itoa200, itoa1]
  rfl
theorem rep_lit : strOfNums (repB 200 false [97]) = ⟨#[72, 84, 84, 80, 47, 49, 46, 49, 32, 50, 48, 48, 32, 79, 75, 13, 10, 67, 111, 110, 116, 101, 110, 116, 45, 76, 101, 110, 103, 116, 104, 58, 32, 49, 13, 10, 13, 10, 97]⟩ := by
  rw [str_repB]
  show (⟨(wholeL 200 1 false ++ u8 [97]).toArray⟩ : ByteArray) = _
  rw [whole_lit]
theorem take_lit : takeS [72, 84, 84, 80, 47, 49, 46, 49, 32, 50, 48, 48, 32, 79, 75, 13, 10, 67, 111, 110, 116, 101, 110, 116, 45, 76, 101, 110, 103, 116, 104, 58, 32, 49, 13, 10, 13, 10, 97] = (200, [97], false, 39, 0) := by
  have h := take_back 200 false [97] [] (by decide) (by decide)
  have e : wholeL 200 ([97] : List UInt8).length false ++ ([97] ++ []) = [72, 84, 84, 80, 47, 49, 46, 49, 32, 50, 48, 48, 32, 79, 75, 13, 10, 67, 111, 110, 116, 101, 110, 116, 45, 76, 101, 110, 103, 116, 104, 58, 32, 49, 13, 10, 13, 10, 97] := whole_lit
  have e2 : (wholeL 200 ([97] : List UInt8).length false).length = 38 := by
    have := congrArg List.length e
    rw [List.length_append] at this
    simp at this ⊢
    omega
  rw [e, e2] at h
  exact h
/-- '[]byte' of a slice of bytes that has just been made: the block is marked, no cell of it is touched. -/
theorem conv_same (w : World) : (convert 22 22 (.slice (some ⟨w.heap.size, 0, none⟩) 1 1)).run Tryd.prog (w.alloc (.cells #[.int .u8 97] 5)) = .ok (.slice (some ⟨w.heap.size, 0, none⟩) 1 1) (w.alloc (.cells #[.int .u8 97] 5 (1, 2))) := by
  have hsh : (w.alloc (.cells #[.int .u8 97] 5)).shape? w.heap.size = some (5, 1) := by
    have : (w.alloc (.cells #[.int .u8 97] 5)).heap[w.heap.size]? = some (.cells #[.int .u8 97] 5) := heap_alloc_new w _
    unfold World.shape?
    rw [this]
    rfl
  have hfr : (w.alloc (.cells #[.int .u8 97] 5)).freeze ⟨w.heap.size, 1, none⟩ 1 = w.alloc (.cells #[.int .u8 97] 5 (1, 2)) := by
    have hm : ∀ (a : Array Obj) (x : Obj) (f : Obj → Obj), (a.push x).modify a.size f = a.push (f x) := by
      intro a x f
      apply Array.ext
      · simp
      · intro i h1 h2
        simp only [Array.getElem_modify, Array.getElem_push]
        by_cases h : a.size = i
        · subst h
          simp
        · have hi : i < a.size := by simp at h1; omega
          simp [h, hi]
    unfold World.freeze
    rw [if_neg (by decide)]
    show ({ w.alloc (.cells #[.int .u8 97] 5) with heap := (w.heap.push (.cells #[.int .u8 97] 5)).modify w.heap.size _ } : World) = _
    rw [hm]
    rfl
  simp [convert, run_underlying Tryd.underlying22, run_underlying Tryd.underlying5, markStringish, hsh]
  exact hfr
theorem read1 (w : World) : ReadsInt (w.alloc (.cells #[.int .u8 97] 5 (1, 2))) .u8 (some ⟨w.heap.size, 0, none⟩) 1 [97] := by
  refine ⟨rfl, by omega, fun _ => ⟨_, rfl, fun j hj => ?_⟩⟩
  obtain rfl : j = 0 := by omega
  rw [add_plain]
  have h : (w.alloc (.cells #[.int .u8 97] 5 (1, 2))).heap[w.heap.size]? = some (.cells #[.int .u8 97] 5 (1, 2)) := heap_alloc_new w _
  simp only [World.cell?, h]
  rfl
set_option maxHeartbeats 2000000 in
set_option maxRecDepth 100000 in
theorem begun_any (w : World) (hT : Tabs w) : Calls Tryd.prog 7 #[] w fun e w' => e = .returned (.bool true) ∧ Below w.heap.size w w' := by
  have cY : Hid (∀ (A : Option Addr) (cap : Nat) w, ReadsInt w .u8 A 1 [97] → Tabs w → Calls Tryd.prog 9 #[.agg #[.int .i64 200, .slice A 1 cap, .bool false]] w fun e w' => ∃ v, e = .returned (.tuple #[v, .int .i64 0]) ∧ OB w' w.heap.size v (repB 200 false [97]) ∧ Below w.heap.size w w') :=
    Lib.hid fun A cap w hR hT => bytes_ok 200 false A cap [97] w (by omega) (by omega) (by decide) hR (by decide) hT
  have cK : Hid (∀ (A : Option Addr) (n cap : Nat) w, n = (repB 200 false [97]).length → ReadsInt w .u8 A (repB 200 false [97]).length (repB 200 false [97]) → Tabs w → Calls Tryd.prog 15 #[.slice A n cap] w fun e w' => TakeOut [72, 84, 84, 80, 47, 49, 46, 49, 32, 50, 48, 48, 32, 79, 75, 13, 10, 67, 111, 110, 116, 101, 110, 116, 45, 76, 101, 110, 103, 116, 104, 58, 32, 49, 13, 10, 13, 10, 97] w w' e) :=
    Lib.hid fun A n cap w hn hR hT => by
      subst hn
      have hl : (repB 200 false [97]).length = 39 := by
        have := congrArg List.length whole_lit
        rw [List.length_append, u8_len] at this
        rw [repB_len]
        simpa using this
      exact take_any _ A cap _ w rep_lit (by rw [hl]; rfl) hR (by rw [hl]; decide) hT
  have hl : (repB 200 false [97]).length = 39 := by
    have := congrArg List.length whole_lit
    rw [List.length_append, u8_len] at this
    rw [repB_len]
    simpa using this
  have HT := Lib.hid hT
  have HR1 := Lib.hid (read1 w)
  have hb1 := below_alloc (Below.refl w.heap.size w) (.cells #[.int .u8 97] 5 (1, 2))
  have hrep := Lib.hid rep_lit
  have hcv := conv_same w
  go_enter Tryd.func7, Tryd.ntmps7
  go_wp2_with fail
  refine (cY.out _ _ _ HR1.out (HT.out.below hb1)).mono ?_
  rintro e w2 ⟨v2, rfl, HO2, hb2⟩
  obtain ⟨g2, cap2, rfl, hcap2, hR2⟩ := HO2.reads
  have hb2 := bthen hb1 hb2
  clear HR1 hb1
  rw [hl] at hcap2
  have HRR := Lib.hid hR2
  have HOO := Lib.hid HO2
  clear HO2 hR2
  rw [hl]
  go_wp2_with fail
  refine (cK.out _ _ _ _ hl.symm HRR.out (HT.out.below hb2)).mono ?_
  rintro e w3 hto
  obtain ⟨g3, n3, cap3, rfl, _, hb3⟩ := hto.ok take_lit
  clear hto
  have one3' : (#[.int .i64 200, .slice (some ⟨g3, 0, none⟩) n3 cap3, .bool false] : Array Value).all (·.oneCell') = true := by simp [Value.oneCell']
  have ONE := Lib.hid one3'
  clear one3'
  go_wp2_with ((refine wpList_store_row rfl 24 _ _ rfl w3.heap.size #[.int .i64 200, .slice (some ⟨g3, 0, none⟩) n3 cap3, .bool false] rfl rfl 24 #[.int .i64 0, .slice none 0 0, .bool false] (heap_alloc_new w3 _) info24 rfl ONE.out ?_); refine Hid.out ?_)
  refine Lib.hid ?_
  have f1 := setRow_heap (w3.alloc (.cells #[.int .i64 0, .slice none 0 0, .bool false] 24)) w3.heap.size _ #[.int .i64 200, .slice (some ⟨g3, 0, none⟩) n3 cap3, .bool false] 24 _ (heap_alloc_new w3 _)
  have f2 := below_setRow (below_alloc (Below.refl w3.heap.size w3) (.cells #[.int .i64 0, .slice none 0 0, .bool false] 24)) (Nat.le_refl _) #[.int .i64 200, .slice (some ⟨g3, 0, none⟩) n3 cap3, .bool false]
  generalize (w3.alloc (.cells #[.int .i64 0, .slice none 0 0, .bool false] 24)).setRow w3.heap.size #[.int .i64 200, .slice (some ⟨g3, 0, none⟩) n3 cap3, .bool false] = w4 at f1 f2
  have c0 : w4.cell? ⟨w3.heap.size, 0, none⟩ = some (.int .i64 200) := by simp only [World.cell?, f1]; rfl
  have h24 := bthen hb3 f2
  have hb4 := bthen hb2 h24
  have hcx := Kd.C_string (P := Tryd.prog) (src := 22) (e := 5) (dst := 9) (c := cap2) Tryd.underlying22 Tryd.underlying5 Tryd.underlying9 (C_of_reads (HRR.out.below h24))
  rw [hl, hrep.out] at hcx
  clear f1 f2 h24 hb3
  go_wp2
  go_ret
  exact ⟨rfl, hb4⟩
end Go.Proofs.YtnohcfgjhgfjkaaDoor.S
