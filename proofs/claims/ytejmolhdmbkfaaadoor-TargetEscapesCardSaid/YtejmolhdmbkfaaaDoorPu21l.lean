/-
  What is printed of a target that may be is read as that target.
-/
import Derived.Test.YtejmolhdmbkfaaaDoorPu21e
import Derived.Test.YtejmolhdmbkfaaaDoorPu21j
namespace Go.Proofs.YtejmolhdmbkfaaaDoor.S
open Go.RowKit Go.Proofs.YtejmolhdmbkfaaaDoorW.PrintWords
set_option linter.unusedVariables false
set_option linter.unusedSimpArgs false
theorem esc_clean_all : ∀ n : Fin 256, (escC (UInt8.ofNat n.val)).all (fun x => x != 47 && x != 63 && x != 38 && x != 61) = true := by decide +kernel
theorem esc_clean (c x : UInt8) (h : x ∈ escC c) : x ≠ 47 ∧ x ≠ 63 ∧ x ≠ 38 ∧ x ≠ 61 := by
  have := esc_clean_all ⟨c.toNat, c.toNat_lt⟩
  rw [show UInt8.ofNat c.toNat = c by simp] at this
  have := List.all_eq_true.1 this x h
  simp only [Bool.and_eq_true, bne_iff_ne, ne_eq] at this
  exact ⟨this.1.1.1, this.1.1.2, this.1.2, this.2⟩
theorem escL_clean : ∀ (l : List UInt8) (x : UInt8), x ∈ escL l → x ≠ 47 ∧ x ≠ 63 ∧ x ≠ 38 ∧ x ≠ 61
  | [], x, h => by cases h
  | c :: r, x, h => by
    rcases List.mem_append.1 h with h | h
    · exact esc_clean c x h
    · exact escL_clean r x h
theorem cut1_of {c : UInt8} : ∀ {a : List UInt8} (b : List UInt8), (∀ x ∈ a, x ≠ c) → cut1 c (a ++ c :: b) = some (a, b)
  | [], b, _ => by
    show (if c = c then some ([], b) else _) = _
    rw [if_pos rfl]
  | d :: a, b, h => by
    show (if d = c then _ else (cut1 c (a ++ c :: b)).map _) = _
    rw [if_neg (h d List.mem_cons_self), cut1_of b fun x hx => h x (List.mem_cons_of_mem _ hx)]
    rfl
theorem cut1_no {c : UInt8} : ∀ {a : List UInt8}, (∀ x ∈ a, x ≠ c) → cut1 c a = none
  | [], _ => rfl
  | d :: a, h => by
    show (if d = c then _ else (cut1 c a).map _) = _
    rw [if_neg (h d List.mem_cons_self), cut1_no fun x hx => h x (List.mem_cons_of_mem _ hx)]
    rfl
theorem cutAll_no {c : UInt8} : ∀ {a : List UInt8}, (∀ x ∈ a, x ≠ c) → cutAll c a = [a]
  | [], _ => rfl
  | d :: a, h => by
    unfold cutAll
    rw [if_neg (h d List.mem_cons_self), cutAll_no fun x hx => h x (List.mem_cons_of_mem _ hx)]
theorem cutAll_of {c : UInt8} : ∀ {a : List UInt8} (b : List UInt8), (∀ x ∈ a, x ≠ c) → cutAll c (a ++ c :: b) = a :: cutAll c b
  | [], b, _ => by
    show (if c = c then [] :: cutAll c b else _) = _
    rw [if_pos rfl]
  | d :: a, b, h => by
    show cutAll c (d :: (a ++ c :: b)) = _
    rw [cutAll, if_neg (h d List.mem_cons_self), cutAll_of b fun x hx => h x (List.mem_cons_of_mem _ hx)]
theorem hex_all : ∀ n : Fin 256, n.val ≠ 0 → hexPair (hexU (n.val / 16)) (hexU (n.val % 16)) = some (UInt8.ofNat n.val) := by decide +kernel
theorem partL_esc (c : UInt8) (r : List UInt8) (h : c ≠ 0) : partL (escC c ++ r) = (partL r).map (c :: ·) := by
  unfold escC
  by_cases hp : plainB c = true
  · rw [if_pos hp]
    show partL (c :: r) = _
    rw [partL_cons, if_pos hp]
  · rw [if_neg hp]
    show partL (37 :: hexU (c.toNat / 16) :: hexU (c.toNat % 16) :: r) = _
    have := hex_all ⟨c.toNat, c.toNat_lt⟩ (fun e => h (by
      have e' : c.toNat = 0 := e
      rw [← UInt8.ofNat_toNat (x := c), e']
      rfl))
    simp only at this
    rw [partL_cons, if_neg (by decide), if_pos rfl]
    simp only
    rw [this]
    simp
theorem partL_escL : ∀ l : List UInt8, (∀ c ∈ l, c ≠ 0) → partL (escL l) = some l
  | [], _ => rfl
  | c :: r, h => by
    show partL (escC c ++ escL r) = _
    rw [partL_esc c _ (h c List.mem_cons_self), partL_escL r fun x hx => h x (List.mem_cons_of_mem _ hx)]
    rfl
theorem nameL_escL (l : List UInt8) (h : ∀ c ∈ l, c ≠ 0) (hn : l ≠ []) : nameL (escL l) = some l := by
  unfold nameL
  rw [partL_escL l h]
  simp only
  rw [if_neg hn]
theorem zeroB_no : ∀ l : List UInt8, zeroB l = false → ∀ c ∈ l, c ≠ 0
  | [], _, c, hc => by cases hc
  | b :: l, h, c, hc => by
    rw [zeroB_cons] at h
    simp only [Bool.or_eq_false_iff, beq_eq_false_iff_ne, ne_eq] at h
    rcases List.mem_cons.1 hc with rfl | hc
    · exact h.1
    · exact zeroB_no l h.2 c hc
theorem size_ne (s : ByteArray) (h : s.size ≠ 0) : s.data.toList ≠ [] := fun e => h (by
  show s.data.size = 0
  rw [← Array.length_toList, e]
  rfl)
theorem mks_data (P : List ByteArray) : mks (P.map fun s : ByteArray => s.data.toList) = P := by
  unfold mks
  rw [List.map_map]
  exact List.map_id'' (fun s => mk_data s) P
theorem mayP_all : ∀ P : List ByteArray, mayP P = true → ∀ s ∈ P, s.size ≠ 0 ∧ ∀ c ∈ s.data.toList, c ≠ 0
  | [], _, s, hs => by cases hs
  | a :: r, h, s, hs => by
    rw [mayP_cons] at h
    simp only [Bool.and_eq_true, Bool.not_eq_true', beq_eq_false_iff_ne, ne_eq] at h
    rcases List.mem_cons.1 hs with rfl | hs
    · exact ⟨h.1.1, zeroB_no _ h.1.2⟩
    · exact mayP_all r h.2 s hs
theorem app_data (a b : ByteArray) : (a ++ b).data.toList = a.data.toList ++ b.data.toList := by simp
theorem mayQ_all : ∀ (Q : List S32) (acc : List (List UInt8)), mayQ acc Q = true → ∀ q ∈ Q, q.f0.size ≠ 0 ∧ (∀ c ∈ q.f0.data.toList, c ≠ 0) ∧ ∀ c ∈ q.f1.data.toList, c ≠ 0
  | [], _, _, s, hs => by cases hs
  | a :: r, acc, h, s, hs => by
    rw [mayQ_cons] at h
    simp only [Bool.and_eq_true, Bool.not_eq_true', beq_eq_false_iff_ne, ne_eq] at h
    rcases List.mem_cons.1 hs with rfl | hs
    · have hz := zeroB_no _ h.1.1.2
      rw [app_data] at hz
      exact ⟨h.1.1.1, fun c hc => hz c (List.mem_append_left _ hc), fun c hc => hz c (List.mem_append_right _ hc)⟩
    · exact mayQ_all r _ h.2 s hs
theorem cut_path (s : ByteArray) : ∀ r : List ByteArray, cutAll 47 (escL s.data.toList ++ pathL r) = (s :: r).map fun x : ByteArray => escL x.data.toList
  | [] => by
    rw [pathL, List.append_nil, cutAll_no fun x hx => (escL_clean _ x hx).1]
    rfl
  | t :: r => by
    rw [pathL, cutAll_of _ fun x hx => (escL_clean _ x hx).1, cut_path t r]
    rfl
theorem allN_esc : ∀ P : List ByteArray, mayP P = true → allN (P.map fun x : ByteArray => escL x.data.toList) = some (P.map fun x : ByteArray => x.data.toList)
  | [], _ => rfl
  | s :: r, h => by
    obtain ⟨h1, h2⟩ := mayP_all _ h s List.mem_cons_self
    have h3 : mayP r = true := by
      rw [mayP_cons] at h
      simp only [Bool.and_eq_true] at h
      exact h.2
    show (match nameL (escL s.data.toList) with | some o => (allN (r.map fun x : ByteArray => escL x.data.toList)).map (o :: ·) | none => none) = _
    rw [nameL_escL _ h2 (size_ne s h1), allN_esc r h3]
    rfl
theorem pathT_print (P : List ByteArray) (h : mayP P = true) : pathT (pathS P) = some (P.map fun x : ByteArray => x.data.toList) := by
  rcases P with _ | ⟨s, r⟩
  · rfl
  · have hs : pathS (s :: r) = 47 :: (escL s.data.toList ++ pathL r) := by
      unfold pathS
      rw [if_neg (by simp), List.append_nil]
      rfl
    have hne : escL s.data.toList ++ pathL r ≠ [] := fun e => by
      have h1 := (mayP_all _ h s List.mem_cons_self)
      have h2 := (List.append_eq_nil_iff.1 e).1
      have h3 := partL_escL _ h1.2
      rw [h2] at h3
      exact size_ne s h1.1 (by simpa [partL] using h3.symm)
    rw [hs]
    unfold pathT
    rw [if_neg (by simpa using hne), if_pos (show (47 :: (escL s.data.toList ++ pathL r)).headD 0 = 47 from rfl)]
    show allN (cutAll 47 (escL s.data.toList ++ pathL r)) = _
    rw [cut_path, allN_esc _ h]
theorem path_clean : ∀ (P : List ByteArray) (x : UInt8), x ∈ pathL P → x ≠ 63
  | [], x, h => by cases h
  | s :: r, x, h => by
    rcases List.mem_cons.1 h with rfl | h
    · decide
    · rcases List.mem_append.1 h with h | h
      · exact (escL_clean _ x h).2.1
      · exact path_clean r x h
theorem pathS_clean (P : List ByteArray) (x : UInt8) (h : x ∈ pathS P) : x ≠ 63 := by
  rcases List.mem_append.1 h with h | h
  · exact path_clean P x h
  · split at h
    · obtain rfl := List.mem_singleton.1 h
      decide
    · cases h
theorem param_print (q : S32) (h : q.f0.size ≠ 0 ∧ (∀ c ∈ q.f0.data.toList, c ≠ 0) ∧ ∀ c ∈ q.f1.data.toList, c ≠ 0) : paramL (parL q) = some q := by
  unfold paramL parL
  rw [cut1_of _ fun x hx => (escL_clean _ x hx).2.2.2]
  simp only
  rw [nameL_escL _ h.2.1 (size_ne _ h.1), partL_escL _ h.2.2]
theorem par_clean (q : S32) (x : UInt8) (h : x ∈ parL q) : x ≠ 38 := by
  rcases List.mem_append.1 h with h | h
  · exact (escL_clean _ x h).2.2.1
  · rcases List.mem_cons.1 h with rfl | h
    · decide
    · exact (escL_clean _ x h).2.2.1
theorem cut_query (q : S32) : ∀ r : List S32, cutAll 38 (parL q ++ queryL 38 r) = (q :: r).map parL
  | [] => by
    rw [queryL, List.append_nil, cutAll_no (par_clean q)]
    rfl
  | t :: r => by
    rw [queryL, cutAll_of _ (par_clean q), cut_query t r]
    rfl
theorem allQ_print : ∀ Q : List S32, (∀ q ∈ Q, q.f0.size ≠ 0 ∧ (∀ c ∈ q.f0.data.toList, c ≠ 0) ∧ ∀ c ∈ q.f1.data.toList, c ≠ 0) → allQ (Q.map parL) = some Q
  | [], _ => rfl
  | q :: r, h => by
    show (match paramL (parL q) with | some o => (allQ (r.map parL)).map (o :: ·) | none => none) = _
    rw [param_print q (h q List.mem_cons_self), allQ_print r fun x hx => h x (List.mem_cons_of_mem _ hx)]
    rfl
theorem parse_print (P : List ByteArray) (Q : List S32) (h : mayB P Q = true) : parseT (printL P Q) = (P, Q, 0) := by
  have hs := h
  unfold mayB at hs
  rw [Bool.and_eq_true] at hs
  unfold parseT printL
  rcases Q with _ | ⟨q, r⟩
  · rw [queryL, List.append_nil, cut1_no (pathS_clean P)]
    simp only
    rw [pathT_print P hs.1]
    simp only [endP]
    rw [mks_data, if_pos h]
  · rw [queryL, cut1_of _ (pathS_clean P)]
    simp only
    rw [pathT_print P hs.1]
    simp only [queryT]
    rw [cut_query, allQ_print _ (mayQ_all _ _ hs.2)]
    simp only [endP]
    rw [mks_data, if_pos h]
end Go.Proofs.YtejmolhdmbkfaaaDoor.S
