/-
  How the two ways to read a target's parts stand to each other.
-/
import Derived.Test.YtejmolhdmbkfaaaDoorPu21c
namespace Go.Proofs.YtejmolhdmbkfaaaDoor.S
open Go.RowKit Go.Proofs.YtejmolhdmbkfaaaDoorW.PrintWords
set_option linter.unusedVariables false
set_option linter.unusedSimpArgs false
/-- A byte at which a part stops. -/
def Stop (c : UInt8) : Prop := plainB c = false ∧ c ≠ 37
def StopL (l : List UInt8) : Prop := ∀ c r, l = c :: r → Stop c ∧ hexV c = none
theorem stopL_nil : StopL [] := fun c r h => by cases h
theorem stopL_cons {c : UInt8} {r : List UInt8} (h : Stop c) (h2 : hexV c = none) : StopL (c :: r) := fun d q e => by injection e with e1 e2; subst e1; exact ⟨h, h2⟩
theorem partR_stop {l : List UInt8} (h : StopL l) : partR l = some ([], l) := by
  rcases l with _ | ⟨c, r⟩
  · rfl
  · obtain ⟨⟨h1, h2⟩, _⟩ := h c r rfl
    rw [partR_cons, if_neg (by rw [h1]; simp), if_neg h2]
theorem hexPair_none_r {a b : UInt8} (h : hexV b = none) : hexPair a b = none := by
  unfold hexPair
  rw [h]
  cases hexV a <;> rfl
theorem hexPair_none_l {a b : UInt8} (h : hexV a = none) : hexPair a b = none := by
  unfold hexPair
  rw [h]
/-- What is read of a part that something else follows. -/
theorem part_both : ∀ (n : Nat) (x m : List UInt8), x.length ≤ n → StopL m →
    (∀ o, partL x = some o → partR (x ++ m) = some (o, m)) ∧
    (partL x = none → partR (x ++ m) = none ∨ ∃ o y r, partR (x ++ m) = some (o, y :: r) ∧ y ∈ x ∧ Stop y)
  | _, [], m, _, hm => ⟨fun o h => by
      have : o = [] := by simpa [partL] using h.symm
      rw [this]; exact partR_stop hm, fun h => by simp [partL] at h⟩
  | 0, c :: x, m, hn, hm => by simp at hn
  | n + 1, c :: x, m, hn, hm => by
    rw [List.length_cons] at hn
    rw [List.cons_append, partL_cons, partR_cons]
    by_cases hp : plainB c = true
    · obtain ⟨h1, h2⟩ := part_both n x m (by omega) hm
      rw [if_pos hp, if_pos hp]
      refine ⟨fun o h => ?_, fun h => ?_⟩
      · obtain ⟨o', ho, rfl⟩ := Option.map_eq_some_iff.1 h
        rw [h1 o' ho]; rfl
      · have hx : partL x = none := by simpa using h
        rcases h2 hx with h3 | ⟨o, y, r, h3, h4, h5⟩
        · left; rw [h3]; rfl
        · right; exact ⟨c :: o, y, r, by rw [h3]; rfl, by simp [h4], h5⟩
    · rw [if_neg hp, if_neg hp]
      by_cases h37 : c = 37
      · rw [if_pos h37, if_pos h37]
        rcases x with _ | ⟨a, _ | ⟨b, q⟩⟩
        · refine ⟨(fun o h => by cases h), fun _ => ?_⟩
          left
          rcases m with _ | ⟨d, _ | ⟨e, m⟩⟩
          · rfl
          · rfl
          · have := (hm d (e :: m) rfl).2
            show (match hexPair d e with | some v => (partR m).map (fun p => (v :: p.1, p.2)) | none => none) = none
            rw [hexPair_none_l this]
        · refine ⟨(fun o h => by cases h), fun _ => ?_⟩
          left
          rcases m with _ | ⟨d, m⟩
          · rfl
          · have := (hm d m rfl).2
            show (match hexPair a d with | some v => (partR m).map (fun p => (v :: p.1, p.2)) | none => none) = none
            rw [hexPair_none_r this]
        · rw [List.length_cons, List.length_cons] at hn
          obtain ⟨h1, h2⟩ := part_both n q m (by omega) hm
          show (∀ o, (match hexPair a b with | some v => (partL q).map (v :: ·) | none => none) = some o → (match hexPair a b with | some v => (partR (q ++ m)).map (fun p => (v :: p.1, p.2)) | none => none) = some (o, m)) ∧
            ((match hexPair a b with | some v => (partL q).map (v :: ·) | none => none) = none → (match hexPair a b with | some v => (partR (q ++ m)).map (fun p => (v :: p.1, p.2)) | none => none) = none ∨ ∃ o y r, (match hexPair a b with | some v => (partR (q ++ m)).map (fun p => (v :: p.1, p.2)) | none => none) = some (o, y :: r) ∧ y ∈ c :: a :: b :: q ∧ Stop y)
          rcases hexPair a b with _ | v
          · exact ⟨(fun o h => by cases h), fun _ => .inl rfl⟩
          · refine ⟨fun o h => ?_, fun h => ?_⟩
            · obtain ⟨o', ho, rfl⟩ := Option.map_eq_some_iff.1 h
              rw [h1 o' ho]; rfl
            · have hx : partL q = none := by simpa using h
              rcases h2 hx with h3 | ⟨o, y, r, h3, h4, h5⟩
              · left; rw [h3]; rfl
              · right; exact ⟨v :: o, y, r, by rw [h3]; rfl, by simp [h4], h5⟩
      · rw [if_neg h37, if_neg h37]
        exact ⟨(fun o h => by cases h), fun _ => .inr ⟨[], c, x ++ m, rfl, by simp, by simpa using hp, h37⟩⟩
theorem part_some {x m o : List UInt8} (hm : StopL m) (h : partL x = some o) : partR (x ++ m) = some (o, m) := (part_both x.length x m (Nat.le_refl _) hm).1 o h
theorem part_none {x m : List UInt8} (hm : StopL m) (h : partL x = none) : partR (x ++ m) = none ∨ ∃ o y r, partR (x ++ m) = some (o, y :: r) ∧ y ∈ x ∧ Stop y := (part_both x.length x m (Nat.le_refl _) hm).2 h
theorem stop47 : Stop 47 ∧ hexV 47 = none := by refine ⟨⟨by decide, by decide⟩, by decide⟩
theorem stop63 : Stop 63 ∧ hexV 63 = none := by refine ⟨⟨by decide, by decide⟩, by decide⟩
theorem stop38 : Stop 38 ∧ hexV 38 = none := by refine ⟨⟨by decide, by decide⟩, by decide⟩
theorem stop61 : Stop 61 ∧ hexV 61 = none := by refine ⟨⟨by decide, by decide⟩, by decide⟩
/-- A part that is no name's is none. -/
def nameL (x : List UInt8) : Option (List UInt8) := match partL x with | some o => if o = [] then none else some o | none => none
def allN : List (List UInt8) → Option (List (List UInt8))
  | [] => some []
  | x :: r => match nameL x with | some o => (allN r).map (o :: ·) | none => none
def flat (c : UInt8) : List (List UInt8) → List UInt8
  | [] => []
  | x :: r => c :: (x ++ flat c r)
theorem flat_cut (c : UInt8) : ∀ l, flat c (cutAll c l) = c :: l
  | [] => rfl
  | b :: l => by
    have ih := flat_cut c l
    unfold cutAll
    by_cases hb : b = c
    · rw [if_pos hb, flat, ih, hb]; rfl
    · rw [if_neg hb]
      rcases hc : cutAll c l with _ | ⟨x, r⟩
      · exact absurd hc (cutAll_ne c l)
      · rw [hc] at ih
        simp only [flat] at ih ⊢
        injection ih with _ ih
        rw [List.cons_append, ih]
theorem cut_mem (c : UInt8) : ∀ (l : List UInt8) (x : List UInt8), x ∈ cutAll c l → ∀ b ∈ x, b ∈ l ∧ b ≠ c
  | [], x, hx, b, hb => by
    simp [cutAll] at hx; subst hx; simp at hb
  | a :: l, x, hx, b, hb => by
    unfold cutAll at hx
    by_cases ha : a = c
    · rw [if_pos ha] at hx
      rcases List.mem_cons.1 hx with rfl | hx
      · simp at hb
      · have := cut_mem c l x hx b hb
        exact ⟨by simp [this.1], this.2⟩
    · rw [if_neg ha] at hx
      rcases hc : cutAll c l with _ | ⟨y, r⟩
      · exact absurd hc (cutAll_ne c l)
      · rw [hc] at hx
        rcases List.mem_cons.1 hx with rfl | hx
        · rcases List.mem_cons.1 hb with rfl | hb
          · exact ⟨by simp, ha⟩
          · have := cut_mem c l y (by rw [hc]; simp) b hb
            exact ⟨by simp [this.1], this.2⟩
        · have := cut_mem c l x (by rw [hc]; simp [hx]) b hb
          exact ⟨by simp [this.1], this.2⟩
/-- A text before and behind the first sign. -/
def cut1 (c : UInt8) : List UInt8 → Option (List UInt8 × List UInt8)
  | [] => none
  | b :: l => if b = c then some ([], l) else (cut1 c l).map fun p => (b :: p.1, p.2)
theorem cut1_some {c : UInt8} : ∀ {l a b : List UInt8}, cut1 c l = some (a, b) → l = a ++ c :: b ∧ (∀ x ∈ a, x ≠ c) ∧ Lib.indexByte l c = a.length
  | [], a, b, h => by cases h
  | d :: l, a, b, h => by
    unfold cut1 at h
    by_cases hd : d = c
    · rw [if_pos hd] at h
      obtain ⟨rfl, rfl⟩ := Prod.mk.inj (Option.some.inj h)
      refine ⟨by rw [hd]; rfl, by simp, ?_⟩
      show (if d == c then (0 : Int) else _) = _
      rw [if_pos (by simpa using hd)]; rfl
    · rw [if_neg hd] at h
      obtain ⟨⟨a', b'⟩, h1, h2⟩ := Option.map_eq_some_iff.1 h
      obtain ⟨rfl, rfl⟩ := Prod.mk.inj h2
      obtain ⟨h3, h4, h5⟩ := cut1_some h1
      refine ⟨by rw [h3]; rfl, by simpa using ⟨hd, h4⟩, ?_⟩
      show (if d == c then (0 : Int) else if Lib.indexByte l c == -1 then -1 else Lib.indexByte l c + 1) = _
      rw [if_neg (by simpa using hd), h5, if_neg (by simp)]
      simp
theorem cut1_none {c : UInt8} : ∀ {l : List UInt8}, cut1 c l = none → (∀ x ∈ l, x ≠ c) ∧ Lib.indexByte l c = -1
  | [], h => ⟨by simp, rfl⟩
  | d :: l, h => by
    unfold cut1 at h
    by_cases hd : d = c
    · rw [if_pos hd] at h; cases h
    · rw [if_neg hd] at h
      obtain ⟨h3, h4⟩ := cut1_none (by simpa using h : cut1 c l = none)
      refine ⟨by simpa using ⟨hd, h3⟩, ?_⟩
      show (if d == c then (0 : Int) else if Lib.indexByte l c == -1 then -1 else Lib.indexByte l c + 1) = _
      rw [if_neg (by simpa using hd), h4]; rfl
/-- A parameter. -/
def paramL (x : List UInt8) : Option S32 :=
  match cut1 61 x with
  | some (a, b) => (match nameL a, partL b with | some n, some v => some ⟨⟨n.toArray⟩, ⟨v.toArray⟩⟩ | _, _ => none)
  | none => none
def allQ : List (List UInt8) → Option (List S32)
  | [] => some []
  | x :: r => match paramL x with | some o => (allQ r).map (o :: ·) | none => none
def mks (l : List (List UInt8)) : List ByteArray := l.map fun x => ⟨x.toArray⟩
/-- What a path says. -/
def pathT (l : List UInt8) : Option (List (List UInt8)) := if l = [47] then some [] else if l.headD 0 = 47 then allN (cutAll 47 (l.drop 1)) else none
def queryT (l : List UInt8) : Option (List S32) := allQ (cutAll 38 l)
def endP (ps : List ByteArray) (qs : List S32) : List ByteArray × List S32 × Int := if mayB ps qs = true then (ps, qs, 0) else ([], [], 6)
/-- What a target says. -/
def parseT (s : List UInt8) : List ByteArray × List S32 × Int :=
  match cut1 63 s with
  | none => (match pathT s with | some ps => endP (mks ps) [] | none => ([], [], 4))
  | some (a, b) => (match pathT a with | some ps => (match queryT b with | some qs => endP (mks ps) qs | none => ([], [], 4)) | none => ([], [], 4))
end Go.Proofs.YtejmolhdmbkfaaaDoor.S
