/-
  The reference's Parse answers as the program's.
-/
import Derived.Test.YtejmolhdmbkfaaaDoorPu21e
import Derived.Test.YtejmolhdmbkfaaaDoorSx8
namespace Go.Proofs.YtejmolhdmbkfaaaDoor.S
open Go.RowKit Go.Proofs.YtejmolhdmbkfaaaDoorW.PrintWords
set_option linter.unusedVariables false
set_option linter.unusedSimpArgs false
theorem partR_suffix : ∀ (n : Nat) (l o q : List UInt8), l.length ≤ n → partR l = some (o, q) → q <:+ l
  | _, [], o, q, _, h => by simp [partR] at h; rw [← h.2]; exact List.suffix_refl _
  | 0, c :: r, o, q, hn, h => by simp at hn
  | n + 1, c :: r, o, q, hn, h => by
    rw [List.length_cons] at hn
    rw [partR_cons] at h
    by_cases hp : plainB c = true
    · rw [if_pos hp] at h
      obtain ⟨⟨o', q'⟩, h1, h2⟩ := Option.map_eq_some_iff.1 h
      obtain ⟨_, rfl⟩ := Prod.mk.inj h2
      exact (partR_suffix n r o' q' (by omega) h1).trans (List.suffix_cons _ _)
    · rw [if_neg hp] at h
      by_cases h37 : c = 37
      · rw [if_pos h37] at h
        rcases r with _ | ⟨a, _ | ⟨b, t⟩⟩
        · cases h
        · cases h
        · rw [List.length_cons, List.length_cons] at hn
          have h' : (match hexPair a b with | some v => (partR t).map (fun p => (v :: p.1, p.2)) | none => none) = some (o, q) := h
          rcases hh : hexPair a b with _ | v
          · rw [hh] at h'; cases h'
          · rw [hh] at h'
            obtain ⟨⟨o', q'⟩, h1, h2⟩ := Option.map_eq_some_iff.1 h'
            obtain ⟨_, rfl⟩ := Prod.mk.inj h2
            exact (partR_suffix n t o' q' (by omega) h1).trans ((List.suffix_cons _ _).trans ((List.suffix_cons _ _).trans (List.suffix_cons _ _)))
      · rw [if_neg h37] at h
        obtain ⟨_, rfl⟩ := Prod.mk.inj (Option.some.inj h)
        exact List.suffix_refl _
theorem drop_suf {S q : List UInt8} (h : q <:+ S) : S.drop (S.length - q.length) = q := by
  obtain ⟨t, rfl⟩ := h
  rw [List.length_append, Nat.add_sub_cancel, List.drop_left]
theorem partL_nz : ∀ (n : Nat) (l o : List UInt8), l.length ≤ n → partL l = some o → ∀ b ∈ o, b ≠ 0
  | _, [], o, _, h => by
      have h2 : o = [] := by simpa [partL] using h.symm
      subst h2
      simp
  | 0, c :: r, o, hn, h => by simp at hn
  | n + 1, c :: r, o, hn, h => by
    rw [List.length_cons] at hn
    rw [partL_cons] at h
    by_cases hp : plainB c = true
    · rw [if_pos hp] at h
      obtain ⟨o', h1, rfl⟩ := Option.map_eq_some_iff.1 h
      intro b hb
      rcases List.mem_cons.1 hb with rfl | hb
      · intro h0; rw [h0] at hp; exact absurd hp (by decide)
      · exact partL_nz n r o' (by omega) h1 b hb
    · rw [if_neg hp] at h
      by_cases h37 : c = 37
      · rw [if_pos h37] at h
        rcases r with _ | ⟨x, _ | ⟨y, q⟩⟩
        · cases h
        · cases h
        · rw [List.length_cons, List.length_cons] at hn
          have h' : (match hexPair x y with | some v => (partL q).map (v :: ·) | none => none) = some o := h
          rcases hh : hexPair x y with _ | v
          · rw [hh] at h'; cases h'
          · rw [hh] at h'
            obtain ⟨o', h1, rfl⟩ := Option.map_eq_some_iff.1 h'
            intro b hb
            rcases List.mem_cons.1 hb with rfl | hb
            · unfold hexPair at hh
              rcases hx : hexV x with _ | i
              · rw [hx] at hh; cases hh
              · rcases hy : hexV y with _ | j
                · rw [hx, hy] at hh; cases hh
                · rw [hx, hy] at hh
                  have h3 := hexV_lt hx
                  have h4 := hexV_lt hy
                  simp only [] at hh
                  by_cases h0 : 16 * i + j = 0
                  · rw [if_pos h0] at hh; cases hh
                  · rw [if_neg h0] at hh
                    obtain rfl := Option.some.inj hh
                    intro e
                    have := congrArg UInt8.toNat e
                    rw [UInt8.toNat_ofNat', Nat.mod_eq_of_lt (by omega)] at this
                    exact h0 this
            · exact partL_nz n q o' (by omega) h1 b hb
      · rw [if_neg h37] at h; cases h
theorem zeroB_false {l : List UInt8} (h : ∀ b ∈ l, b ≠ 0) : zeroB l = false := by
  induction l with
  | nil => decide
  | cons b l ih =>
    rw [zeroB_cons, ih (fun c hc => h c (by simp [hc]))]
    have := h b (by simp)
    simpa using this
theorem nameL_some {x o : List UInt8} (h : nameL x = some o) : partL x = some o ∧ o ≠ [] := by
  unfold nameL at h
  rcases hq : partL x with _ | q
  · rw [hq] at h; cases h
  · rw [hq] at h
    by_cases hq0 : q = []
    · simp [hq0] at h
    · simp [hq0] at h; rw [← h]; exact ⟨rfl, hq0⟩
theorem mayP_all : ∀ (segs ps : List (List UInt8)), allN segs = some ps → mayP (mks ps) = true
  | [], ps, h => by simp [allN] at h; subst h; rfl
  | x :: r, ps, h => by
    unfold allN at h
    rcases hn : nameL x with _ | o
    · rw [hn] at h; cases h
    · rw [hn] at h
      obtain ⟨ps', h1, rfl⟩ := Option.map_eq_some_iff.1 h
      obtain ⟨h2, h3⟩ := nameL_some hn
      have ih := mayP_all r ps' h1
      have hz := zeroB_false (partL_nz x.length x o (Nat.le_refl _) h2)
      show mayP (⟨o.toArray⟩ :: mks ps') = true
      rw [mayP_cons, ih, size_mk]
      have hd : (⟨o.toArray⟩ : ByteArray).data.toList = o := by simp
      rw [hd, hz]
      have : o.length ≠ 0 := fun e => h3 (List.eq_nil_of_length_eq_zero e)
      simpa using this
theorem mayP_path {l : List UInt8} {ps : List (List UInt8)} (h : pathT l = some ps) : mayP (mks ps) = true := by
  unfold pathT at h
  by_cases h1 : l = [47]
  · rw [if_pos h1] at h; obtain rfl := Option.some.inj h; rfl
  · rw [if_neg h1] at h
    by_cases h4 : l.headD 0 = 47
    · rw [if_pos h4] at h; exact mayP_all _ _ h
    · rw [if_neg h4] at h; cases h
abbrev BAD : List ByteArray × List S32 × Int := ([], [], 4)
section
variable (S : List UInt8) (hS : S.length ≤ 100000)
include hS in
theorem part_ok (at_ : Nat) (l o q : List UInt8) (hl : S.drop at_ = l) (ha : at_ ≤ S.length) (h : partR l = some (o, q)) : Ev (fun k => cofferref21_part.f k ⟨S.toArray⟩ (at_ : Int)) ((⟨o.toArray⟩ : ByteArray), ((S.length - q.length : Nat) : Int), true) := by
  obtain ⟨j, hj⟩ := refpart_f S (by omega) at_ ha
  rw [hl, h] at hj
  exact hj
include hS in
theorem part_bad (at_ : Nat) (l : List UInt8) (hl : S.drop at_ = l) (ha : at_ ≤ S.length) (h : partR l = none) : ∃ j : Int, Ev (fun k => cofferref21_part.f k ⟨S.toArray⟩ (at_ : Int)) ((⟨#[]⟩ : ByteArray), j, false) := by
  obtain ⟨j, hj⟩ := refpart_f S (by omega) at_ ha
  rw [hl, h] at hj
  exact ⟨j, hj⟩
include hS in
theorem part_at (at_ : Nat) (l : List UInt8) (hl : S.drop at_ = l) (ha : at_ ≤ S.length) : ∃ j : Int, Ev (fun k => cofferref21_part.f k ⟨S.toArray⟩ (at_ : Int)) (ansR S [] (partR l) j) := by
  rw [← hl]; exact refpart_f S (by omega) at_ ha
/-- Where no name of a path begins. -/
theorem j4_other {P : List ByteArray} {y : UInt8} {q : List UInt8} {at_ : Nat} (h : S.drop at_ = y :: q) (h63 : y ≠ 63) : Ev (fun k => cofferref21_Parse.j4 k ⟨S.toArray⟩ (at_ : Int) false P) BAD := by
  obtain ⟨hlt, hbt, hdr, hSl⟩ := at_drop h
  refine .step ?_
  simp only [cofferref21_Parse.j4]
  refine .neg (by simp) ?_
  refine .neg (by rw [size_mk]; omega) ?_
  refine .pos (by omega) ?_
  refine .pos (by rw [size_mk]; omega) ?_
  rw [hbt]
  refine .neg (fun e => h63 (UInt8.toNat_inj.1 (by have : (63 : UInt8).toNat = 63 := rfl; omega))) ?_
  exact .of rfl
theorem l0_other {P : List ByteArray} {y : UInt8} {q : List UInt8} {at_ : Nat} (h : S.drop at_ = y :: q) (h63 : y ≠ 63) (h47 : y ≠ 47) : Ev (fun k => cofferref21_Parse.l0 k ⟨S.toArray⟩ (at_ : Int) P) BAD := by
  obtain ⟨hlt, hbt, hdr, hSl⟩ := at_drop h
  refine .step ?_
  simp only [cofferref21_Parse.l0]
  refine .pos (by rw [size_mk]; omega) ?_
  refine .pos (by omega) ?_
  rw [hbt, show ((y.toNat : Int) == 47) = false by
    rw [beq_eq_false_iff_ne]; exact fun e => h47 (UInt8.toNat_inj.1 (by have : (47 : UInt8).toNat = 47 := rfl; omega))]
  exact j4_other S h h63
include hS in
theorem refpath (more : List UInt8) (hm : more = [] ∨ ∃ r, more = 63 :: r) (R : List ByteArray × List S32 × Int) : ∀ (segs : List (List UInt8)) (at_ : Nat) (acc : List (List UInt8)), S.drop at_ = flat 47 segs ++ more → at_ ≤ S.length → (∀ x ∈ segs, ∀ b ∈ x, b ≠ 47 ∧ b ≠ 63) → acc.length ≤ at_ →
    (∀ ps, allN segs = some ps → Ev (fun k => cofferref21_Parse.l0 k ⟨S.toArray⟩ ((S.length - more.length : Nat) : Int) (mks (acc ++ ps))) R) → (allN segs = none → R = BAD) → Ev (fun k => cofferref21_Parse.l0 k ⟨S.toArray⟩ (at_ : Int) (mks acc)) R
  | [], at_, acc, hd, ha, hx, hac, h1, h2 => by
    have := h1 [] rfl
    rw [List.append_nil] at this
    have e : at_ = S.length - more.length := by
      have := congrArg List.length hd
      rw [List.length_drop] at this
      simp [flat] at this
      omega
    rw [e]
    exact this
  | x :: r, at_, acc, hd, ha, hx, hac, h1, h2 => by
    have hd' : S.drop at_ = 47 :: (x ++ (flat 47 r ++ more)) := by rw [hd]; simp [flat]
    obtain ⟨hlt, hbt, hdr, hSl⟩ := at_drop hd'
    have hst : StopL (flat 47 r ++ more) := by
      rcases r with _ | ⟨y, r⟩
      · rcases hm with rfl | ⟨t, rfl⟩
        · exact stopL_nil
        · exact stopL_cons stop63.1 stop63.2
      · exact stopL_cons stop47.1 stop47.2
    refine .step ?_
    simp only [cofferref21_Parse.l0]
    refine .pos (by rw [size_mk]; omega) ?_
    refine .pos (by omega) ?_
    rw [hbt, show (((47 : UInt8).toNat : Int) == 47) = true by decide]
    refine .step ?_
    simp only [cofferref21_Parse.j4]
    refine .pos (by simp) ?_
    rw [wrap_succ at_ (by omega)]
    rcases hp : partL x with _ | o
    · have hnone : allN (x :: r) = none := by simp [allN, nameL, hp]
      rw [h2 hnone]
      rcases part_none hst hp with h3 | ⟨o, y, q, h3, h4, h5⟩
      · obtain ⟨j, hpe⟩ := part_bad S hS (at_ + 1) _ hdr (by omega) h3
        refine .bind hpe ?_
        refine .neg (by simp) ?_
        exact .of rfl
      · have hsuf := partR_suffix _ _ _ _ (Nat.le_refl _) h3
        have hsuf2 : (y :: q) <:+ S := hsuf.trans (by rw [← hdr]; exact List.drop_suffix _ _)
        have hy := hx x (by simp) y h4
        refine .bind (part_ok S hS (at_ + 1) _ _ _ hdr (by omega) h3) ?_
        refine .pos rfl ?_
        simp only []
        rw [toList_mk]
        by_cases ho : o = []
        · refine .pos ho ?_
          exact .of rfl
        · refine .neg ho ?_
          refine .pos (by rw [mks_len]; omega) ?_
          exact l0_other S (drop_suf hsuf2) hy.2 hy.1
    · refine .bind (part_ok S hS (at_ + 1) _ _ _ hdr (by omega) (part_some hst hp)) ?_
      refine .pos rfl ?_
      simp only []
      rw [toList_mk]
      by_cases ho : o = []
      · refine .pos ho ?_
        rw [h2 (by simp [allN, nameL, hp, ho])]
        exact .of rfl
      · refine .neg ho ?_
        refine .pos (by rw [mks_len]; omega) ?_
        have hsuf : (flat 47 r ++ more) <:+ S := (List.suffix_append x _).trans (by rw [← hdr]; exact List.drop_suffix _ _)
        have hle := hsuf.length_le
        rw [mks_snoc]
        have hlx : S.length = at_ + 1 + (x.length + (flat 47 r ++ more).length) := by rw [hSl, List.length_append]
        refine refpath more hm R r (S.length - (flat 47 r ++ more).length) (acc ++ [o]) (drop_suf hsuf) (by omega) (fun z hz => hx z (by simp [hz])) (by rw [List.length_append, List.length_singleton]; omega) (fun ps hps => ?_) (fun hn => h2 (by simp [allN, nameL, hp, ho, hn]))
        have := h1 (o :: ps) (by simp [allN, nameL, hp, ho, hps])
        simpa using this
theorem j6_bad {nm : ByteArray} {i : Int} {P : List ByteArray} {Q : List S32} : Ev (fun k => cofferref21_Parse.j6 k ⟨S.toArray⟩ nm i true P Q) BAD := by
  refine .step ?_
  simp only [cofferref21_Parse.j6]
  refine .pos (by simp) ?_
  exact .of rfl
def queryE (P : List ByteArray) (Q : List S32) (p : Option (List S32)) : List ByteArray × List S32 × Int := match p with | some qs => endP P (Q ++ qs) | none => BAD
include hS in
theorem refquery (P : List ByteArray) (hP : ∀ s ∈ P, s.size ≤ 1048576) (hPl : P.length ≤ 1048576) : ∀ (r : List (List UInt8)) (x : List UInt8) (at_ : Nat) (Q : List S32), S.drop (at_ + 1) = x ++ flat 38 r → at_ < S.length → (∀ z ∈ x :: r, ∀ b ∈ z, b ≠ 38) → Q.length ≤ at_ → (∀ p ∈ Q, p.f0.size ≤ 1048576 ∧ p.f1.size ≤ 1048576) →
    Ev (fun k => cofferref21_Parse.l1 k ⟨S.toArray⟩ (at_ : Int) P Q) (queryE P Q (allQ (x :: r)))
  | r, x, at_, Q, hd, ha, hx, hQl, hQ => by
    have hst : StopL (flat 38 r) := by
      rcases r with _ | ⟨y, r⟩
      · exact stopL_nil
      · exact stopL_cons stop38.1 stop38.2
    have hxl := congrArg List.length hd
    rw [List.length_drop, List.length_append] at hxl
    have hsufm : flat 38 r <:+ S := (List.suffix_append x _).trans (by rw [← hd]; exact List.drop_suffix _ _)
    have hpar : paramL x = none → queryE P Q (allQ (x :: r)) = BAD := fun h => by simp [allQ, h, queryE]
    -- a name that stops at another byte than '='
    have stopbad : ∀ (o : List UInt8) (y : UInt8) (q : List UInt8), partR (x ++ flat 38 r) = some (o, y :: q) → y ≠ 61 → Ev (fun k => cofferref21_Parse.l1 k ⟨S.toArray⟩ (at_ : Int) P Q) BAD := by
      intro o y q h3 hy
      have hsuf := partR_suffix _ _ _ _ (Nat.le_refl _) h3
      have hsuf2 : (y :: q) <:+ S := hsuf.trans (by rw [← hd]; exact List.drop_suffix _ _)
      obtain ⟨hlt, hbt, _, _⟩ := at_drop (drop_suf hsuf2)
      refine .step ?_
      simp only [cofferref21_Parse.l1]
      rw [wrap_succ at_ (by omega)]
      refine .bind (part_ok S hS (at_ + 1) _ _ _ hd (by omega) h3) ?_
      refine .pos rfl ?_
      simp only []
      rw [toList_mk]
      by_cases ho : o = []
      · exact .pos ho (j6_bad S)
      · refine .neg ho ?_
        refine .neg (by rw [size_mk]; omega) ?_
        refine .pos (by omega) ?_
        refine .pos (by rw [size_mk]; omega) ?_
        rw [hbt, show ((y.toNat : Int) != 61) = true by
          rw [bne_iff_ne]; exact fun e => hy (UInt8.toNat_inj.1 (by have : (61 : UInt8).toNat = 61 := rfl; omega))]
        exact j6_bad S
    have nonebad : partR (x ++ flat 38 r) = none → Ev (fun k => cofferref21_Parse.l1 k ⟨S.toArray⟩ (at_ : Int) P Q) BAD := by
      intro h3
      refine .step ?_
      simp only [cofferref21_Parse.l1]
      rw [wrap_succ at_ (by omega)]
      obtain ⟨j, hpe⟩ := part_bad S hS (at_ + 1) _ hd (by omega) h3
      refine .bind hpe ?_
      refine .neg (by simp) ?_
      exact j6_bad S
    rcases hc : cut1 61 x with _ | ⟨a, b⟩
    · rw [hpar (by simp [paramL, hc])]
      obtain ⟨hno, _⟩ := cut1_none hc
      rcases hp : partL x with _ | n
      · rcases part_none hst hp with h3 | ⟨o, y, q, h3, h4, h5⟩
        · exact nonebad h3
        · exact stopbad o y q h3 (hno y h4)
      · have h3 := part_some hst hp
        rcases r with _ | ⟨z, r⟩
        · refine .step ?_
          simp only [cofferref21_Parse.l1]
          rw [wrap_succ at_ (by omega)]
          refine .bind (part_ok S hS (at_ + 1) _ _ _ hd (by omega) h3) ?_
          refine .pos rfl ?_
          simp only []
          rw [toList_mk]
          by_cases ho : n = []
          · exact .pos ho (j6_bad S)
          · refine .neg ho ?_
            exact .pos (by rw [size_mk]; simp [flat]) (j6_bad S)
        · exact stopbad n 38 _ h3 (by decide)
    · obtain ⟨he, hna, _⟩ := cut1_some hc
      have hst1 : StopL (61 :: (b ++ flat 38 r)) := stopL_cons stop61.1 stop61.2
      have hd1 : x ++ flat 38 r = a ++ (61 :: (b ++ flat 38 r)) := by rw [he]; simp
      rcases hp : partL a with _ | n
      · rw [hpar (by simp [paramL, hc, nameL, hp])]
        rcases part_none hst1 hp with h3 | ⟨o, y, q, h3, h4, h5⟩
        · exact nonebad (by rw [hd1]; exact h3)
        · exact stopbad o y q (by rw [hd1]; exact h3) (hna y h4)
      · have h3 := part_some hst1 hp
        rw [← hd1] at h3
        have hsuf1 : (61 :: (b ++ flat 38 r)) <:+ S := (List.suffix_append a _).trans (by rw [← hd1, ← hd]; exact List.drop_suffix _ _)
        obtain ⟨hlt, hbt, hdr, hSl⟩ := at_drop (drop_suf hsuf1)
        refine .step ?_
        simp only [cofferref21_Parse.l1]
        rw [wrap_succ at_ (by omega)]
        refine .bind (part_ok S hS (at_ + 1) _ _ _ hd (by omega) h3) ?_
        refine .pos rfl ?_
        simp only []
        rw [toList_mk]
        by_cases ho : n = []
        · rw [hpar (by simp [paramL, hc, nameL, hp, ho])]
          exact .pos ho (j6_bad S)
        · refine .neg ho ?_
          refine .neg (by rw [size_mk]; omega) ?_
          refine .pos (by omega) ?_
          refine .pos (by rw [size_mk]; omega) ?_
          rw [hbt, show (((61 : UInt8).toNat : Int) != 61) = false by decide]
          generalize hnx : S.length - (61 :: (b ++ flat 38 r)).length = nx at *
          have hbl : (b ++ flat 38 r).length = b.length + (flat 38 r).length := List.length_append
          refine .step ?_
          simp only [cofferref21_Parse.j6]
          refine .neg (by simp) ?_
          rw [wrap_succ nx (by omega)]
          have hbx : ∀ c ∈ b, c ≠ 38 := fun c hcb => hx x (by simp) c (by rw [he]; simp [hcb])
          rcases hq : partL b with _ | v
          · rw [hpar (by simp [paramL, hc, nameL, hp, hq])]
            rcases part_none hst hq with h4 | ⟨o, y, q, h4, h5, h6⟩
            · obtain ⟨j2, hpe2⟩ := part_bad S hS (nx + 1) _ hdr (by omega) h4
              refine .bind hpe2 ?_
              refine .neg (by simp) ?_
              exact .of rfl
            · have hsuf := partR_suffix _ _ _ _ (Nat.le_refl _) h4
              have hsuf2 : (y :: q) <:+ S := hsuf.trans (by rw [← hdr]; exact List.drop_suffix _ _)
              obtain ⟨hlt3, hbt3, _, _⟩ := at_drop (drop_suf hsuf2)
              refine .bind (part_ok S hS (nx + 1) _ _ _ hdr (by omega) h4) ?_
              refine .pos rfl ?_
              simp only []
              refine .pos (by omega) ?_
              refine .bind (f := fun _ => some (Q ++ [(⟨⟨n.toArray⟩, ⟨o.toArray⟩⟩ : S32)])) (.of rfl) ?_
              refine .neg (by rw [size_mk]; omega) ?_
              refine .pos (by omega) ?_
              refine .pos (by rw [size_mk]; omega) ?_
              rw [hbt3]
              refine .neg (fun e => hbx y h5 (UInt8.toNat_inj.1 (by have : (38 : UInt8).toNat = 38 := rfl; omega))) ?_
              exact .of rfl
          · have h4 := part_some hst hq
            have hpx : paramL x = some ⟨⟨n.toArray⟩, ⟨v.toArray⟩⟩ := by simp [paramL, hc, nameL, hp, hq, ho]
            have hpl := paramL_len hpx
            have hQ2 : ∀ p ∈ Q ++ [(⟨⟨n.toArray⟩, ⟨v.toArray⟩⟩ : S32)], p.f0.size ≤ 1048576 ∧ p.f1.size ≤ 1048576 := by
              intro p hp
              rcases List.mem_append.1 hp with hp | hp
              · exact hQ p hp
              · obtain rfl := List.mem_singleton.1 hp
                dsimp only at hpl ⊢
                omega
            refine .bind (part_ok S hS (nx + 1) _ _ _ hdr (by omega) h4) ?_
            refine .pos rfl ?_
            simp only []
            refine .pos (by omega) ?_
            refine .bind (f := fun _ => some (Q ++ [(⟨⟨n.toArray⟩, ⟨v.toArray⟩⟩ : S32)])) (.of rfl) ?_
            rcases r with _ | ⟨z, r⟩
            · simp only [flat, List.length_nil, Nat.sub_zero]
              refine .pos (by rw [size_mk]) ?_
              have hmay := refmay_ev P (Q ++ [⟨⟨n.toArray⟩, ⟨v.toArray⟩⟩]) (List.all_eq_true.2 fun p hp => by have := hQ2 p hp; simpa using this) hPl (by simp; omega) hP
              refine .bind hmay ?_
              simp only [allQ, hpx, Option.map, queryE, endP]
              by_cases hm : mayB P (Q ++ [⟨⟨n.toArray⟩, ⟨v.toArray⟩⟩]) = true
              · refine .pos hm ?_
                exact .of (by rw [if_pos hm])
              · refine .neg hm ?_
                exact .of (by rw [if_neg hm])
            · obtain ⟨hlt3, hbt3, hdr3, hSl3⟩ := at_drop (show S.drop (S.length - (flat 38 (z :: r)).length) = 38 :: (z ++ flat 38 r) from drop_suf hsufm)
              refine .neg (by rw [size_mk]; omega) ?_
              refine .pos (by omega) ?_
              refine .pos (by rw [size_mk]; omega) ?_
              rw [hbt3]
              refine .pos (by decide) ?_
              have ih := refquery P hP hPl r z (S.length - (flat 38 (z :: r)).length) (Q ++ [⟨⟨n.toArray⟩, ⟨v.toArray⟩⟩]) hdr3 hlt3 (fun y hy => hx y (by rcases List.mem_cons.1 hy with rfl | hy <;> simp [*])) (by rw [List.length_append, List.length_singleton]; omega) hQ2
              have e : queryE P (Q ++ [⟨⟨n.toArray⟩, ⟨v.toArray⟩⟩]) (allQ (z :: r)) = queryE P Q (allQ (x :: z :: r)) := by
                rw [show allQ (x :: z :: r) = (allQ (z :: r)).map ((⟨⟨n.toArray⟩, ⟨v.toArray⟩⟩ : S32) :: ·) by simp only [allQ, hpx]]
                cases allQ (z :: r) <;> simp [queryE]
              rw [← e]
              exact ih
end
end Go.Proofs.YtejmolhdmbkfaaaDoor.S
