/-
  A row of bytes that the call owns, said of its cells alone: what '[]byte(s)' makes, what 'append' makes of it, what Spoil does to it.
-/
import Derived.Test.YtnohcfgjhgfjkaaDoorReads
import Derived.ArgAppend
import Derived.Laws.IdiomStrings
import Derived.Deep.MidRow
import Derived.RegionTactic
namespace Go.Proofs.YtnohcfgjhgfjkaaDoor.S
open Go.RowKit Go.Proofs.YtnohcfgjhgfjkaaDoorW.PrintWords
set_option linter.unusedVariables false
set_option linter.unusedSimpArgs false
/-- Cells that may be written. -/
def Open (w : World) (g cap : Nat) : Prop := ∀ j, j < cap → (w.cell? ⟨g, j, none⟩).isSome = true ∧ w.frozen? ⟨g, j, none⟩ = false
structure OB (w : World) (base : Nat) (v : Value) (xs : List Int) : Prop where mk :: (out : ∃ g cap, v = .slice (some ⟨g, 0, none⟩) xs.length cap ∧ base ≤ g ∧ g < w.heap.size ∧ xs.length ≤ cap ∧ cap ≤ maxLen ∧ (∀ j, j < xs.length → w.cell? ⟨g, j, none⟩ = some (.int .u8 (xs.getD j 0))) ∧ Open w g cap)
theorem Open.below {w w1 : World} {g cap : Nat} (h : Open w g cap) (hb : Below w.heap.size w w1) : Open w1 g cap := fun j hj => by
  obtain ⟨h1, h2⟩ := h j hj
  obtain ⟨u, hu⟩ := Option.isSome_iff_exists.1 h1
  have hlt := World.block_lt_of_cell? w _ hu
  exact ⟨by rw [hb.cell hlt]; exact h1, by rw [hb.frozen hlt]; exact h2⟩
theorem OB.below {w w1 : World} {base : Nat} {v : Value} {xs : List Int} (h : OB w base v xs) (hb : Below w.heap.size w w1) : OB w1 base v xs := by
  obtain ⟨g, cap, e, h1, h2, h3, h4, h5, h6⟩ := h.out
  exact ⟨g, cap, e, h1, by have := hb.size; omega, h3, h4, fun j hj => pw_cell_below hb (h5 j hj), h6.below hb⟩
theorem OB.lower {w : World} {base base2 : Nat} {v : Value} {xs : List Int} (h : OB w base v xs) (hb : base2 ≤ base) : OB w base2 v xs := by
  obtain ⟨g, cap, e, h1, h2⟩ := h.out
  exact ⟨g, cap, e, Nat.le_trans hb h1, h2⟩
theorem OB.reads {w : World} {base : Nat} {v : Value} {xs : List Int} (h : OB w base v xs) : ∃ g cap, v = .slice (some ⟨g, 0, none⟩) xs.length cap ∧ xs.length ≤ cap ∧ ReadsInt w .u8 (some ⟨g, 0, none⟩) xs.length xs := by
  obtain ⟨g, cap, e, h1, h2, h3, h4, h5, h6⟩ := h.out
  exact ⟨g, cap, e, h3, rfl, by unfold maxLen at h4; omega, fun _ => ⟨_, rfl, fun j hj => by rw [add_plain]; exact h5 j hj⟩⟩
theorem below_setCells {B b : Nat} {w0 : World} : ∀ (vs : List Value) (o : Nat) (w : World), Below B w0 w → B ≤ b → Below B w0 (w.setCells b o vs)
  | [], _, _, h, _ => h
  | v :: r, o, w, h, hb => below_setCells r (o + 1) _ (h.setCell hb v) hb
theorem OB_of_own {w : World} {base : Nat} {v : Value} {xs : List Int} (h : w.ownsRow base 5 1 v xs.length (nums .u8 xs)) (h0 : 0 < xs.length) : OB w base v xs := by
  rcases h.2 with ⟨_, h1⟩ | ⟨g, cap, cur, rfl, hg, hh, h1, h2, h3, h4⟩
  · omega
  · refine ⟨g, cap, rfl, hg, lt_of_block hh, h1, h2, fun j hj => ?_, fun j hj => ?_⟩
    · have h5 : (cur.toList.take (xs.length * 1))[j]? = (nums .u8 xs)[j]? := by rw [h4]
      rw [List.getElem?_take_of_lt (by omega)] at h5
      simp only [World.cell?, hh]
      have h6 : cur[j]? = (nums .u8 xs)[j]? := by simpa using h5
      simp only [h6, nums, List.getElem?_map]
      simp [hj]
    · have : j < cur.size := by omega
      simp only [World.cell?, World.frozen?, hh]
      simp [this]
section
variable {P : Program}
/-- append onto such a row. -/
theorem run_app_ob {w : World} {base : Nat} {v : Value} {xs : List Int} {A : Option Addr} {m c : Nat} {ys : List Int} (t ty : TypeId) (ht : P.underlying t = some (.slice 5)) (hinfo : (P.info? 5).map (fun i => (i.zero, i.size, i.bytes)) = some (some (.int .u8 0), 1, 1))
    (HO : OB w base v xs) (hR : ReadsInt w .u8 A m ys) (hl : xs.length + m ≤ 140737488355328) (h0 : 0 < xs.length) (hbase : base ≤ w.heap.size) :
    ∃ v1 w1, (Builtin.append_ #[t, t] ty #[v, .slice A m c]).run P w = .ok v1 w1 ∧ OB w1 base v1 (xs ++ ys) ∧ Below base w w1 := by
  obtain ⟨i0, hi, hz0, hz1, hz2⟩ := info_parts hinfo
  obtain ⟨g, cap, rfl, h1, h2, h3, h4, h5, h6⟩ := HO.out
  have hyl := hR.1
  cases A with
  | none =>
    have hm : m = 0 := by
      rcases Nat.eq_zero_or_pos m with h | h
      · exact h
      · obtain ⟨ad, e, _⟩ := hR.2.2 h; cases e
    subst hm
    obtain rfl := List.eq_nil_of_length_eq_zero hyl
    refine ⟨.slice (some ⟨g, 0, none⟩) xs.length cap, w, ?_, by simpa using HO, Below.refl _ _⟩
    simp [Builtin.append_, run_underlying ht, sizeOf, typeInfo, hi, Builtin.lenOf, Builtin.firstCells, h3, storeCells]
  | some a =>
    have hnews : ∀ j u, (nums .u8 ys)[j]? = some u → w.cell? (a.add j) = some u := fun j u hj => by
      have hjl : j < ys.length := by
        rcases Nat.lt_or_ge j ys.length with h | h
        · exact h
        · rw [List.getElem?_eq_none (by simpa [nums] using h)] at hj; cases hj
      obtain ⟨ad, e, hc⟩ := hR.2.2 (by omega)
      obtain rfl := Option.some.inj e
      rw [hc j (by omega), ← hj]
      simp [nums, hjl]
    have holds : ∀ j u, (nums .u8 xs)[j]? = some u → w.cell? ((⟨g, 0, none⟩ : Addr).add j) = some u := fun j u hj => by
      have hjl : j < xs.length := by
        rcases Nat.lt_or_ge j xs.length with h | h
        · exact h
        · rw [List.getElem?_eq_none (by simpa [nums] using h)] at hj; cases hj
      rw [add_plain, h5 j hjl, ← hj]
      simp [nums, hjl]
    have hone : ∀ u ∈ nums .u8 ys, u.oneCell' = true := fun u hu => by
      obtain ⟨y, _, rfl⟩ := List.mem_map.1 hu
      rfl
    have hnl : (nums .u8 ys).length = m := by simpa [nums] using hyl
    by_cases hr : xs.length + m ≤ cap
    · have hsz : ∀ j, j < (nums .u8 ys).length → (w.cell? ⟨g, 0 + xs.length * i0.size + j, none⟩).isSome = true ∧ w.frozen? ⟨g, 0 + xs.length * i0.size + j, none⟩ = false := fun j hj => by
        rw [hz1]
        have := h6 (0 + xs.length * 1 + j) (by omega)
        exact this
      have hrun := run_append_room_cells (P := P) w t ty 5 i0 ht hi g 0 xs.length cap a m c (nums .u8 ys) (by rw [hz1, hnl]; omega) hnews hone hr (fun j hj => (hsz j hj).1) (fun j hj => (hsz j hj).2)
      rw [hz1] at hrun
      have e0 : 0 + xs.length * 1 = xs.length := by omega
      rw [e0] at hrun
      have hB : Below base w (w.setCells g xs.length (nums .u8 ys)) := below_setCells _ _ _ (Below.refl _ _) h1
      refine ⟨_, _, hrun, ⟨g, cap, by rw [List.length_append, hyl], h1, by have := hB.size; omega, by rw [List.length_append]; omega, h4, fun j hj => ?_, fun j hj => ?_⟩, hB⟩
      · rw [List.length_append] at hj
        by_cases hjx : j < xs.length
        · rw [World.cell?_setCells_out g _ _ _ _ (fun _ _ => Or.inl hjx), h5 j hjx, List.getD_eq_getElem?_getD, List.getD_eq_getElem?_getD, List.getElem?_append_left hjx]
        · have hi2 := World.cell?_setCells_in g (nums .u8 ys) xs.length w (fun j hj => (h6 _ (by omega)).1) (j - xs.length) (by omega)
          rw [show xs.length + (j - xs.length) = j by omega] at hi2
          rw [hi2, List.getD_eq_getElem?_getD, List.getElem?_append_right (by omega)]
          simp [nums, (by omega : j - xs.length < ys.length)]
      · exact ⟨World.isSome_setCells g _ _ _ _ (h6 j hj).1, by rw [World.frozen?_setCells]; exact (h6 j hj).2⟩
    · obtain ⟨v', w', hrun, r1, r2⟩ := run_append_arg_grows (P := P) w t ty 5 i0 (.int .u8 0) 1 1 ht hi hz0 hz1 hz2 rfl (by omega) ⟨g, 0, none⟩ xs.length cap (nums .u8 xs) (by simp [nums]) holds a m c (nums .u8 ys) (by rw [hnl]; omega) hnews (by omega) (by unfold maxLen; omega) (by omega)
      have e1 : nums .u8 xs ++ nums .u8 ys = nums .u8 (xs ++ ys) := by simp [nums]
      have e2 : xs.length + m = (xs ++ ys).length := by rw [List.length_append, hyl]
      rw [e1, e2] at r1
      exact ⟨v', w', hrun, (OB_of_own r1 (by rw [List.length_append]; omega)).lower hbase, (Below.refl _ _).grown r2 hbase (fun k h => by cases h)⟩
/-- '[]byte(s)' of a text that is not empty. -/
theorem run_conv_ob (w : World) (src dst : TypeId) (s : ByteArray) (hs : P.underlying src = some .string) (hd : P.underlying dst = some (.slice 5)) (he : P.underlying 5 = some (.int .u8)) (hl : s.size ≤ 140737488355328) :
    ∃ v1 w1, (convert src dst (.string s)).run P w = .ok v1 w1 ∧ OB w1 w.heap.size v1 (bytesOf s) ∧ Below w.heap.size w w1 := by
  have hr := run_bytes_of_string (P := P) w src dst 5 s hs hd he
  have hge := grownCap_ge w s.size 0 5
  have hcm : grownCap w s.size 0 5 ≤ maxLen := grownCap_le_maxLen w s.size 0 5 (by unfold maxLen; omega)
  generalize grownCap w s.size 0 5 = cap at *
  have hbs : (bytesRow s cap).size = cap := by
    unfold bytesRow
    have : s.data.size = s.size := rfl
    simp; omega
  rw [hbs] at hr
  have hh : (w.drew.alloc (.cells (bytesRow s cap) 5 (cap, cap + 1))).heap[w.heap.size]? = some (.cells (bytesRow s cap) 5 (cap, cap + 1)) := heap_alloc_new w.drew _
  have hbl : (bytesOf s).length = s.size := by unfold bytesOf; simp
  refine ⟨_, _, hr, ⟨w.heap.size, cap, by rw [hbl], Nat.le_refl _, lt_of_block hh, by omega, hcm, fun j hj => ?_, fun j hj => ?_⟩, below_alloc (Below.refl _ _).drew _⟩
  · simp only [World.cell?, hh]
    rw [hbl] at hj
    have hj2 : j < s.data.size := hj
    unfold bytesRow bytesOf
    simp [Array.getElem?_append, hj2]
    rw [if_pos hj, Array.getElem?_eq_getElem hj2]
    rfl
  · have : j < (bytesRow s cap).size := by omega
    simp only [World.cell?, World.frozen?, hh]
    simp [this]
    omega
end
end Go.Proofs.YtnohcfgjhgfjkaaDoor.S
