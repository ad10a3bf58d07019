/-
  target.Parse answers as the plain law has it.
-/
import Derived.Test.YtejmolhdmbkfaaaDoorPu21d
import Derived.Test.YtejmolhdmbkfaaaDoorSx4
namespace Go.Proofs.YtejmolhdmbkfaaaDoor.S
open Go.RowKit Go.Proofs.YtejmolhdmbkfaaaDoorW.PrintWords
set_option linter.unusedVariables false
set_option linter.unusedSimpArgs false
theorem extract_take (l : List UInt8) (m : Nat) : (⟨l.toArray⟩ : ByteArray).extract 0 m = ⟨(l.take m).toArray⟩ := by apply ByteArray.ext; simp
def cutT (c : UInt8) (l : List UInt8) : ByteArray × ByteArray × Bool := match cut1 c l with | some (a, b) => (⟨a.toArray⟩, ⟨b.toArray⟩, true) | none => (⟨l.toArray⟩, ⟨#[]⟩, false)
theorem cut_f (c : UInt8) (l : List UInt8) (hl : l.length ≤ 1000000) : strings_Cut.f ⟨l.toArray⟩ ⟨#[c]⟩ = some (cutT c l) := by
  unfold strings_Cut.f stringslite_Cut.f xIndex.f cutT
  have hs1 : (⟨#[c]⟩ : ByteArray).size = 1 := rfl
  rw [if_pos hs1]
  simp only [Option.bind_some]
  have hd : (⟨#[c]⟩ : ByteArray).data.toList.headD 0 = c := rfl
  rw [hd, hs1]
  rcases hc : cut1 c l with _ | ⟨a, b⟩
  · rw [(cut1_none hc).2, if_neg (by omega)]
    rfl
  · obtain ⟨h1, h2, h3⟩ := cut1_some hc
    have hz : l.length = a.length + 1 + b.length := by rw [h1]; simp; omega
    rw [h3, size_mk, wrap_add a.length 1 (by omega), if_pos (by omega), if_pos (by omega), if_pos (by omega), if_pos (by omega), if_pos (by omega), Int.toNat_natCast, Int.toNat_natCast]
    have e1 : l.take a.length = a := by rw [h1, List.take_left]
    have e2 : l.drop (a.length + 1) = b := by rw [h1, ← List.drop_drop, List.drop_left]; rfl
    have := drop_mk l (a.length + 1)
    rw [size_mk] at this
    rw [extract_take, e1, this, e2]
    rfl
theorem pref_f (s t : List UInt8) : strings_HasPrefix.f ⟨s.toArray⟩ ⟨t.toArray⟩ = some (decide (t.length ≤ s.length ∧ s.take t.length = t)) := by
  unfold strings_HasPrefix.f stringslite_HasPrefix.f
  rw [size_mk, size_mk]
  by_cases h : t.length ≤ s.length
  · rw [if_pos (by omega), if_pos (by omega), if_pos (by omega), Int.toNat_natCast, extract_take, toList_mk, toList_mk]
    simp only [Option.bind_some]
    congr 1
    by_cases h2 : s.take t.length = t
    · rw [h2]; simp [h]
    · have : (s.take t.length == t) = false := by simpa using h2
      rw [this]; simp [h2]
  · rw [if_neg (by omega)]
    simp [h]
theorem split_f (c : UInt8) (l : List UInt8) (hl : l.length ≤ 1000000) : xSplit.f ⟨l.toArray⟩ ⟨#[c]⟩ = some (mks (cutAll c l)) := by
  unfold xSplit.f
  rw [if_pos (show (⟨#[c]⟩ : ByteArray).size = 1 from rfl), if_pos (by rw [size_mk]; omega)]
  rfl
theorem cut_len (c : UInt8) : ∀ l, (cutAll c l).length ≤ l.length + 1
  | [] => by simp [cutAll]
  | b :: l => by
    have ih := cut_len c l
    unfold cutAll
    split
    · simp; omega
    · split
      · simp
      · rename_i h; rw [h] at ih; simpa using (by simp at ih; omega)
theorem cut_seg (c : UInt8) : ∀ l x, x ∈ cutAll c l → x.length ≤ l.length
  | [], x, hx => by simp [cutAll] at hx; simp [hx]
  | b :: l, x, hx => by
    unfold cutAll at hx
    split at hx
    · rcases List.mem_cons.1 hx with rfl | hx
      · simp
      · have := cut_seg c l x hx; simp; omega
    · rcases hc : cutAll c l with _ | ⟨y, r⟩
      · exact absurd hc (cutAll_ne c l)
      · rw [hc] at hx
        rcases List.mem_cons.1 hx with rfl | hx
        · have := cut_seg c l y (by rw [hc]; simp); simp; omega
        · have := cut_seg c l x (by rw [hc]; simp [hx]); simp; omega
theorem rd_mks (l : List (List UInt8)) (i : Nat) (h : i < l.length) : rdOf ByteArray.empty (mks l) (i : Int) = ⟨l[i].toArray⟩ := by
  unfold rdOf mks
  rw [Int.toNat_natCast, List.getD_eq_getElem?_getD, List.getElem?_map, List.getElem?_eq_getElem h]
  rfl
theorem mks_len (l : List (List UInt8)) : (mks l).length = l.length := by simp [mks]
theorem mks_snoc (l : List (List UInt8)) (o : List UInt8) : mks l ++ [⟨o.toArray⟩] = mks (l ++ [o]) := by simp [mks]
def pathAns (acc : List (List UInt8)) (p : Option (List (List UInt8))) : List ByteArray × Bool := match p with | some ps => (mks (acc ++ ps), true) | none => ([], false)
theorem path_l0 (segs : List (List UInt8)) (hseg : ∀ x ∈ segs, x.length ≤ 1000000) (hsl : segs.length ≤ 1000000) : ∀ (d i : Nat) (acc : List (List UInt8)), i + d = segs.length → acc.length ≤ i →
    Ev (fun k => target_path.l0 k (mks acc) (mks segs) (segs.length : Int) (i : Int)) (pathAns acc (allN (segs.drop i)))
  | 0, i, acc, hi, ha => by
    refine .step ?_
    simp only [target_path.l0]
    refine .neg (by omega) ?_
    rw [List.drop_of_length_le (by omega)]
    exact .of (by simp [pathAns, allN])
  | d + 1, i, acc, hi, ha => by
    have hlt : i < segs.length := by omega
    refine .step ?_
    simp only [target_path.l0]
    refine .pos (by omega) ?_
    refine .pos (by omega) ?_
    refine .pos (by rw [mks_len]; omega) ?_
    rw [rd_mks _ _ hlt, List.drop_eq_getElem_cons hlt]
    refine .bind (part_f segs[i] (hseg _ (List.getElem_mem hlt))) ?_
    unfold partT
    simp only [allN, nameL]
    rcases hp : partL segs[i] with _ | o
    · refine .neg (by simp) ?_
      exact .of rfl
    · refine .pos rfl ?_
      simp only []
      rw [toList_mk]
      by_cases ho : o = []
      · refine .pos ho ?_
        rw [if_pos ho]
        exact .of rfl
      · refine .neg ho ?_
        rw [if_neg ho]
        refine .pos (by rw [mks_len]; omega) ?_
        have ih := path_l0 segs hseg hsl d (i + 1) (acc ++ [o]) (by omega) (by simp; omega)
        rw [mks_snoc, wrap_succ i (by omega)]
        have : pathAns (acc ++ [o]) (allN (segs.drop (i + 1))) = pathAns acc ((allN (segs.drop (i + 1))).map (o :: ·)) := by
          cases allN (segs.drop (i + 1)) <;> simp [pathAns]
        rw [← this]
        exact ih
theorem path_f (l : List UInt8) (hl : l.length ≤ 100000) : Ev (fun k => target_path.f k ⟨l.toArray⟩) (pathAns [] (pathT l)) := by
  unfold target_path.f pathT
  rw [toList_mk]
  by_cases h : l = [47]
  · refine .pos h ?_
    rw [if_pos h]
    exact .of rfl
  · refine .neg h ?_
    rw [if_neg h]
    have hp := pref_f l [47]
    refine .bind (.of hp) ?_
    rcases l with _ | ⟨c, r⟩
    · refine .neg (by simp) ?_
      rw [if_neg (show ¬ ([] : List UInt8).headD 0 = 47 by decide)]
      exact .of rfl
    · rw [List.length_cons] at hl
      by_cases hc : c = 47
      · subst hc
        refine .pos (by simp) ?_
        refine .pos (by rw [size_mk, List.length_cons]; omega) ?_
        rw [if_pos (show (47 :: r : List UInt8).headD 0 = 47 from rfl)]
        have hd := drop_mk (47 :: r) 1
        rw [hd]
        refine .bind (.of (split_f 47 r (by omega))) ?_
        have := path_l0 (cutAll 47 r) (fun x hx => by have := cut_seg 47 r x hx; omega) (by have := cut_len 47 r; omega) (cutAll 47 r).length 0 [] (by omega) (by simp)
        rw [mks_len]
        exact this
      · refine .neg (by simp; exact fun h => hc h) ?_
        refine .of ?_
        rw [if_neg (show ¬ (c :: r : List UInt8).headD 0 = 47 from hc)]
        rfl
def queryAns (acc : List S32) (p : Option (List S32)) : List S32 × Bool := match p with | some ps => (acc ++ ps, true) | none => ([], false)
theorem query_l0 (segs : List (List UInt8)) (hseg : ∀ x ∈ segs, x.length ≤ 1000000) (hsl : segs.length ≤ 1000000) : ∀ (d i : Nat) (acc : List S32), i + d = segs.length → acc.length ≤ i →
    Ev (fun k => target_query.l0 k acc (mks segs) (segs.length : Int) (i : Int)) (queryAns acc (allQ (segs.drop i)))
  | 0, i, acc, hi, ha => by
    refine .step ?_
    simp only [target_query.l0]
    refine .neg (by omega) ?_
    rw [List.drop_of_length_le (by omega)]
    exact .of (by simp [queryAns, allQ])
  | d + 1, i, acc, hi, ha => by
    have hlt : i < segs.length := by omega
    have hx := hseg _ (List.getElem_mem hlt)
    refine .step ?_
    simp only [target_query.l0]
    refine .pos (by omega) ?_
    refine .pos (by omega) ?_
    refine .pos (by rw [mks_len]; omega) ?_
    rw [rd_mks _ _ hlt, List.drop_eq_getElem_cons hlt]
    refine .bind (.of (cut_f 61 segs[i] hx)) ?_
    unfold cutT
    simp only [allQ, paramL]
    rcases hc : cut1 61 segs[i] with _ | ⟨a, b⟩
    · refine .bind (part_f segs[i] hx) ?_
      refine .bind (part_f [] (by simp)) ?_
      refine .neg (by simp) ?_
      exact .of rfl
    · obtain ⟨h1, _, _⟩ := cut1_some hc
      have hz : segs[i].length = a.length + 1 + b.length := by rw [h1]; simp; omega
      refine .bind (part_f a (by omega)) ?_
      refine .bind (part_f b (by omega)) ?_
      refine .pos rfl ?_
      unfold partT
      simp only [nameL]
      rcases hp : partL a with _ | o
      · refine .neg (by simp) ?_
        exact .of rfl
      · refine .pos rfl ?_
        rcases hq : partL b with _ | v
        · refine .neg (by simp) ?_
          refine .of ?_
          by_cases ho : o = []
          · simp [ho, queryAns]
          · simp [ho, queryAns]
        · refine .pos rfl ?_
          simp only []
          rw [toList_mk]
          by_cases ho : o = []
          · refine .pos ho ?_
            exact .of (by simp [ho, queryAns])
          · refine .neg ho ?_
            rw [if_neg ho]
            refine .pos (by omega) ?_
            have ih := query_l0 segs hseg hsl d (i + 1) (acc ++ [⟨⟨o.toArray⟩, ⟨v.toArray⟩⟩]) (by omega) (by simp; omega)
            rw [wrap_succ i (by omega)]
            have : queryAns (acc ++ [⟨⟨o.toArray⟩, ⟨v.toArray⟩⟩]) (allQ (segs.drop (i + 1))) = queryAns acc ((allQ (segs.drop (i + 1))).map ((⟨⟨o.toArray⟩, ⟨v.toArray⟩⟩ : S32) :: ·)) := by
              cases allQ (segs.drop (i + 1)) <;> simp [queryAns]
            simp only []
            rw [← this]
            exact ih
theorem query_f (l : List UInt8) (hl : l.length ≤ 100000) : Ev (fun k => target_query.f k ⟨l.toArray⟩) (queryAns [] (queryT l)) := by
  unfold target_query.f queryT
  refine .bind (.of (split_f 38 l (by omega))) ?_
  have := query_l0 (cutAll 38 l) (fun x hx => by have := cut_seg 38 l x hx; omega) (by have := cut_len 38 l; omega) (cutAll 38 l).length 0 [] (by omega) (by simp)
  rw [mks_len]
  exact this
theorem partL_len : ∀ (n : Nat) (l o : List UInt8), l.length ≤ n → partL l = some o → o.length ≤ l.length
  | _, [], o, _, h => by simp [partL] at h; simp [← h]
  | 0, c :: r, o, hn, h => by simp at hn
  | n + 1, c :: r, o, hn, h => by
    rw [List.length_cons] at hn
    rw [partL_cons] at h
    by_cases hp : plainB c = true
    · rw [if_pos hp] at h
      obtain ⟨o', h1, rfl⟩ := Option.map_eq_some_iff.1 h
      have := partL_len n r o' (by omega) h1
      simp; omega
    · rw [if_neg hp] at h
      by_cases h37 : c = 37
      · rw [if_pos h37] at h
        rcases r with _ | ⟨a, _ | ⟨b, q⟩⟩
        · cases h
        · cases h
        · rw [List.length_cons, List.length_cons] at hn
          have h' : (match hexPair a b with | some v => (partL q).map (v :: ·) | none => none) = some o := h
          rcases hh : hexPair a b with _ | v
          · rw [hh] at h'; cases h'
          · rw [hh] at h'
            obtain ⟨o', h1, rfl⟩ := Option.map_eq_some_iff.1 h'
            have := partL_len n q o' (by omega) h1
            simp; omega
      · rw [if_neg h37] at h; cases h
theorem allN_len : ∀ (segs ps : List (List UInt8)), allN segs = some ps → ps.length = segs.length ∧ (∀ L, (∀ x ∈ segs, x.length ≤ L) → ∀ p ∈ ps, p.length ≤ L)
  | [], ps, h => by simp [allN] at h; subst h; simp
  | x :: r, ps, h => by
    unfold allN at h
    rcases hn : nameL x with _ | o
    · rw [hn] at h; cases h
    · rw [hn] at h
      obtain ⟨ps', h1, rfl⟩ := Option.map_eq_some_iff.1 h
      obtain ⟨h2, h3⟩ := allN_len r ps' h1
      refine ⟨by simp [h2], fun L hL p hp => ?_⟩
      rcases List.mem_cons.1 hp with rfl | hp
      · have hpx : partL x = some p := by
          unfold nameL at hn
          rcases hq : partL x with _ | q
          · rw [hq] at hn; cases hn
          · rw [hq] at hn
            by_cases hq0 : q = []
            · simp [hq0] at hn
            · simp [hq0] at hn; rw [hn]
        have := partL_len x.length x p (Nat.le_refl _) hpx
        have := hL x (by simp)
        omega
      · exact h3 L (fun y hy => hL y (by simp [hy])) p hp
theorem paramL_len {x : List UInt8} {p : S32} (h : paramL x = some p) : p.f0.size ≤ x.length ∧ p.f1.size ≤ x.length := by
  unfold paramL at h
  rcases hc : cut1 61 x with _ | ⟨a, b⟩
  · rw [hc] at h; cases h
  · obtain ⟨h1, _, _⟩ := cut1_some hc
    have hz : x.length = a.length + 1 + b.length := by rw [h1]; simp; omega
    rw [hc] at h
    simp only [nameL] at h
    rcases ha : partL a with _ | o
    · rw [ha] at h; cases h
    · rw [ha] at h
      simp only [] at h
      by_cases ho : o = []
      · rw [if_pos ho] at h; cases h
      · rw [if_neg ho] at h
        rcases hb : partL b with _ | v
        · rw [hb] at h; cases h
        · rw [hb] at h
          obtain rfl := Option.some.inj h
          have h2 := partL_len a.length a o (Nat.le_refl _) ha
          have h3 := partL_len b.length b v (Nat.le_refl _) hb
          exact ⟨by rw [size_mk]; omega, by rw [size_mk]; omega⟩
theorem allQ_len : ∀ (segs : List (List UInt8)) (qs : List S32), allQ segs = some qs → qs.length = segs.length ∧ (∀ L, (∀ x ∈ segs, x.length ≤ L) → ∀ p ∈ qs, p.f0.size ≤ L ∧ p.f1.size ≤ L)
  | [], qs, h => by simp [allQ] at h; subst h; simp
  | x :: r, qs, h => by
    unfold allQ at h
    rcases hn : paramL x with _ | o
    · rw [hn] at h; cases h
    · rw [hn] at h
      obtain ⟨qs', h1, rfl⟩ := Option.map_eq_some_iff.1 h
      obtain ⟨h2, h3⟩ := allQ_len r qs' h1
      refine ⟨by simp [h2], fun L hL p hp => ?_⟩
      rcases List.mem_cons.1 hp with rfl | hp
      · have := paramL_len hn
        have := hL x (by simp)
        omega
      · exact h3 L (fun y hy => hL y (by simp [hy])) p hp
theorem pathT_len {l : List UInt8} {ps : List (List UInt8)} (h : pathT l = some ps) : ps.length ≤ l.length + 1 ∧ ∀ p ∈ ps, p.length ≤ l.length := by
  unfold pathT at h
  by_cases h1 : l = [47]
  · rw [if_pos h1] at h; obtain rfl := Option.some.inj h; simp
  · rw [if_neg h1] at h
    by_cases h4 : l.headD 0 = 47
    · rw [if_pos h4] at h
      obtain ⟨h2, h3⟩ := allN_len _ _ h
      have := cut_len 47 (l.drop 1)
      have hd : (l.drop 1).length ≤ l.length := by rw [List.length_drop]; omega
      refine ⟨by omega, fun p hp => ?_⟩
      have := h3 (l.drop 1).length (fun x hx => cut_seg 47 _ x hx) p hp
      omega
    · rw [if_neg h4] at h; cases h
theorem queryT_len {l : List UInt8} {qs : List S32} (h : queryT l = some qs) : qs.length ≤ l.length + 1 ∧ ∀ p ∈ qs, p.f0.size ≤ l.length ∧ p.f1.size ≤ l.length := by
  obtain ⟨h2, h3⟩ := allQ_len _ _ h
  have := cut_len 38 l
  exact ⟨by omega, h3 l.length (fun x hx => cut_seg 38 l x hx)⟩
theorem may_small (ps : List ByteArray) (qs : List S32) (h0 : ps.length ≤ 1048576) (h1 : qs.length ≤ 1048576) (h2 : ∀ p ∈ qs, p.f0.size ≤ 1048576 ∧ p.f1.size ≤ 1048576) : xMay.f ps qs = some (mayB ps qs) := by
  unfold xMay.f
  rw [if_pos]
  refine ⟨List.all_eq_true.2 fun p hp => ?_, h0, h1⟩
  have := h2 p hp
  simpa using this
theorem parse_f (l : List UInt8) (hl : l.length ≤ 100000) : Ev (fun k => target_Parse.f k ⟨l.toArray⟩) (parseT l) := by
  unfold target_Parse.f parseT
  refine .bind (.of (cut_f 63 l (by omega))) ?_
  unfold cutT
  rcases hc : cut1 63 l with _ | ⟨a, b⟩
  · simp only []
    refine .bind (path_f l hl) ?_
    rcases hp : pathT l with _ | ps
    · refine .neg (by simp [pathAns]) ?_
      exact .of rfl
    · obtain ⟨h1, h2⟩ := pathT_len hp
      refine .pos (by simp [pathAns, queryAns]) ?_
      refine .neg (by simp) ?_
      refine .bind (.of (may_small _ _ (by simp [pathAns, mks]; omega) (by simp) (by simp))) ?_
      unfold endP
      show Ev (fun k => if mayB (mks ps) [] = true then _ else _) _
      by_cases hm : mayB (mks ps) [] = true
      · refine .pos hm ?_
        exact .of (by simp [hm, pathAns])
      · refine .neg hm ?_
        exact .of (by simp [hm])
  · obtain ⟨h0, _, _⟩ := cut1_some hc
    have hz : l.length = a.length + 1 + b.length := by rw [h0]; simp; omega
    simp only []
    refine .bind (path_f a (by omega)) ?_
    rcases hp : pathT a with _ | ps
    · refine .neg (by simp [pathAns]) ?_
      exact .of rfl
    · obtain ⟨h1, h2⟩ := pathT_len hp
      refine .pos (by simp [pathAns, queryAns]) ?_
      refine .pos (by simp [pathAns, queryAns]) ?_
      refine .bind (query_f b (by omega)) ?_
      rcases hq : queryT b with _ | qs
      · refine .neg (by simp [queryAns]) ?_
        exact .of rfl
      · obtain ⟨h3, h4⟩ := queryT_len hq
        refine .pos (by simp [pathAns, queryAns]) ?_
        refine .bind (.of (may_small _ _ (by simp [pathAns, mks]; omega) (by simp [queryAns]; omega) (fun p hp => by have := h4 p (by simpa [queryAns] using hp); omega))) ?_
        unfold endP
        show Ev (fun k => if mayB (mks ps) qs = true then _ else _) _
        by_cases hm : mayB (mks ps) qs = true
        · refine .pos hm ?_
          exact .of (by simp [hm, pathAns, queryAns])
        · refine .neg hm ?_
          exact .of (by simp [hm])
end Go.Proofs.YtejmolhdmbkfaaaDoor.S
