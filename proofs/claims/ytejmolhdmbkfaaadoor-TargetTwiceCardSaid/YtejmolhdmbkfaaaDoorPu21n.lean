/-
  TargetTwice answers true.
-/
import Derived.Test.YtejmolhdmbkfaaaDoorPu21l
import Derived.Test.YtejmolhdmbkfaaaDoorSx15
namespace Go.Proofs.YtejmolhdmbkfaaaDoor.S
open Go.RowKit Go.Proofs.YtejmolhdmbkfaaaDoorW.PrintWords
set_option linter.unusedVariables false
set_option linter.unusedSimpArgs false
theorem parse_end (P : List ByteArray) (Q : List S32) (h : mayP P = true) (hq : ∀ q ∈ Q, q.f0.size ≠ 0 ∧ (∀ c ∈ q.f0.data.toList, c ≠ 0) ∧ ∀ c ∈ q.f1.data.toList, c ≠ 0) : parseT (printL P Q) = endP P Q := by
  unfold parseT printL
  rcases Q with _ | ⟨q, r⟩
  · rw [queryL, List.append_nil, cut1_no (pathS_clean P)]
    simp only
    rw [pathT_print P h]
    simp only
    rw [mks_data]
  · rw [queryL, cut1_of _ (pathS_clean P)]
    simp only
    rw [pathT_print P h]
    simp only [queryT]
    rw [cut_query, allQ_print _ hq]
    simp only
    rw [mks_data]
section
variable (p n v : ByteArray)
def twoQ : List S32 := [⟨n, v⟩, ⟨n ++ (⟨#[120]⟩ : ByteArray), (⟨#[]⟩ : ByteArray)⟩]
theorem may_parts (h : mayB [p] (twoQ n v) = true) : mayP [p] = true ∧ n.size ≠ 0 ∧ (∀ c ∈ n.data.toList, c ≠ 0) ∧ (∀ c ∈ v.data.toList, c ≠ 0) := by
  unfold mayB at h
  rw [Bool.and_eq_true] at h
  obtain ⟨h1, h2, h3⟩ := mayQ_all _ _ h.2 _ List.mem_cons_self
  exact ⟨h.1, h1, h2, h3⟩
theorem app_size (a b : ByteArray) : (a ++ b).size = a.size + b.size := ByteArray.size_append
theorem zeroB_of {l : List UInt8} (h : ∀ c ∈ l, c ≠ 0) : zeroB l = false := by
  induction l with
  | nil => rfl
  | cons b l ih =>
    rw [zeroB_cons, ih fun c hc => h c (List.mem_cons_of_mem _ hc)]
    have := h b List.mem_cons_self
    simpa using this
theorem parts_ok (h2 : n.size ≠ 0) (h3 : ∀ c ∈ n.data.toList, c ≠ 0) (h4 : ∀ c ∈ v.data.toList, c ≠ 0) (e : ByteArray) (he : ∀ c ∈ e.data.toList, c ≠ 0) : ∀ q ∈ twoQ n v ++ [⟨n ++ e, ⟨#[49]⟩⟩], q.f0.size ≠ 0 ∧ (∀ c ∈ q.f0.data.toList, c ≠ 0) ∧ ∀ c ∈ q.f1.data.toList, c ≠ 0 := by
  intro q hq
  have hx : ∀ e : ByteArray, (∀ c ∈ e.data.toList, c ≠ 0) → (n ++ e).size ≠ 0 ∧ ∀ c ∈ (n ++ e).data.toList, c ≠ 0 := fun e he => by
    refine ⟨by rw [app_size]; omega, fun c hc => ?_⟩
    rw [app_data] at hc
    rcases List.mem_append.1 hc with hc | hc
    · exact h3 c hc
    · exact he c hc
  have h120 : ∀ c ∈ (⟨#[120]⟩ : ByteArray).data.toList, c ≠ 0 := fun c hc => by
    obtain rfl : c = 120 := by simpa using hc
    decide
  have h49 : ∀ c ∈ (⟨#[49]⟩ : ByteArray).data.toList, c ≠ 0 := fun c hc => by
    obtain rfl : c = 49 := by simpa using hc
    decide
  unfold twoQ at hq
  simp only [List.cons_append, List.nil_append, List.mem_cons, List.not_mem_nil, or_false] at hq
  rcases hq with rfl | rfl | rfl
  · exact ⟨h2, h3, h4⟩
  · exact ⟨(hx _ h120).1, (hx _ h120).2, fun c hc => by simp at hc⟩
  · exact ⟨(hx _ he).1, (hx _ he).2, h49⟩
/-- What stands behind the two parameters. -/
theorem print_snoc (e : ByteArray) (le : List UInt8) (he : e.data.toList = le) (hp : escL le = le) : ((⟨(printL [p] (twoQ n v)).toArray⟩ ++ (⟨#[38]⟩ : ByteArray)) ++ (⟨(escL n.data.toList).toArray⟩ : ByteArray)) ++ (⟨(le ++ [61, 49]).toArray⟩ : ByteArray) =
    ⟨(printL [p] (twoQ n v ++ [⟨n ++ e, ⟨#[49]⟩⟩])).toArray⟩ := by
  rw [show (⟨#[38]⟩ : ByteArray) = ⟨([38] : List UInt8).toArray⟩ from rfl, app_lit, app_lit, app_lit]
  congr 2
  unfold printL
  rw [queryL_snoc, if_neg (by simp [twoQ])]
  unfold parL
  simp only
  rw [app_data, he, escL_app, hp, show escL (⟨#[49]⟩ : ByteArray).data.toList = [49] by decide]
  simp
theorem parse_twice (hn : n.size ≤ 100) (h : mayB [p] (twoQ n v) = true) : parseT (printL [p] (twoQ n v ++ [⟨n ++ (⟨#[]⟩ : ByteArray), ⟨#[49]⟩⟩])) = ([], [], 6) := by
  obtain ⟨h1, h2, h3, h4⟩ := may_parts p n v h
  rw [parse_end _ _ h1 (parts_ok n v h2 h3 h4 _ (fun c hc => by simp at hc))]
  unfold endP
  rw [if_neg]
  unfold mayB
  intro hm
  rw [Bool.and_eq_true] at hm
  have hm := hm.2
  unfold twoQ at hm
  simp only [List.cons_append, List.nil_append, mayQ_cons] at hm
  simp at hm
theorem parse_more (hn : n.size ≤ 100) (h : mayB [p] (twoQ n v) = true) : parseT (printL [p] (twoQ n v ++ [⟨n ++ (⟨#[121]⟩ : ByteArray), ⟨#[49]⟩⟩])) = ([p], twoQ n v ++ [⟨n ++ (⟨#[121]⟩ : ByteArray), ⟨#[49]⟩⟩], 0) := by
  obtain ⟨h1, h2, h3, h4⟩ := may_parts p n v h
  have h121 : ∀ c ∈ (⟨#[121]⟩ : ByteArray).data.toList, c ≠ 0 := fun c hc => by
    obtain rfl : c = 121 := by simpa using hc
    decide
  have hok := parts_ok n v h2 h3 h4 _ h121
  rw [parse_end _ _ h1 hok]
  unfold endP
  rw [if_pos]
  unfold mayB
  rw [h1, Bool.true_and]
  unfold mayB at h
  rw [Bool.and_eq_true] at h
  have hm := h.2
  unfold twoQ at hm hok ⊢
  simp only [List.cons_append, List.nil_append, mayQ_cons, Bool.and_eq_true] at hm ⊢
  refine ⟨hm.1, hm.2.1, ⟨⟨?_, ?_⟩, ?_⟩, rfl⟩
  · have := (hok _ (List.mem_cons_of_mem _ (List.mem_cons_of_mem _ List.mem_cons_self))).1
    simpa using this
  · rw [app_data, zeroB_of]
    · rfl
    · intro c hc
      obtain ⟨_, h5, h6⟩ := hok _ (List.mem_cons_of_mem _ (List.mem_cons_of_mem _ List.mem_cons_self))
      rcases List.mem_append.1 hc with hc | hc
      · exact h5 c hc
      · exact h6 c hc
  · rw [app_data, app_data]
    have e1 : (n.data.toList ++ (⟨#[121]⟩ : ByteArray).data.toList == n.data.toList) = false := by
      rw [beq_eq_false_iff_ne]
      intro e
      have := congrArg List.length e
      simp at this
    have e2 : (n.data.toList ++ (⟨#[121]⟩ : ByteArray).data.toList == n.data.toList ++ (⟨#[120]⟩ : ByteArray).data.toList) = false := by
      rw [beq_eq_false_iff_ne]
      intro e
      have := List.append_cancel_left e
      simp at this
    simp only [List.contains_cons, List.contains_nil, e1, e2, Bool.or_false, Bool.not_false]
theorem two_light (hp : p.size ≤ 100) (hn : n.size ≤ 100) (hv : v.size ≤ 100) : Light [p] (twoQ n v) := by
  refine ⟨by simp, by simp [twoQ], fun s hs => ?_, fun q hq => ?_⟩
  · obtain rfl := List.mem_singleton.1 hs
    omega
  · unfold twoQ at hq
    simp only [List.mem_cons, List.not_mem_nil, or_false] at hq
    rcases hq with rfl | rfl
    · exact ⟨by show n.size ≤ 200; omega, by show v.size ≤ 200; omega⟩
    · refine ⟨?_, by show (0 : Nat) ≤ 200; omega⟩
      show (n ++ (⟨#[120]⟩ : ByteArray)).size ≤ 200
      rw [app_size]
      show n.size + 1 ≤ 200
      omega
end
theorem twice_j0 (p n v : ByteArray) (hp : p.size ≤ 100) (hn : n.size ≤ 100) (hv : v.size ≤ 100) : Ev (fun k => cofferlaw21_TargetTwice.j0 k p n v false) true := by
  have hL := two_light p n v hp hn hv
  have hl := printL_len hL
  have hes : xEsc.f n = some ⟨(escL n.data.toList).toArray⟩ := by
    unfold xEsc.f
    rw [if_pos (by omega)]
  have hel := escL_le n.data.toList
  have hnl : n.data.toList.length = n.size := Array.length_toList
  refine .step ?_
  simp only [cofferlaw21_TargetTwice.j0]
  refine .neg (by simp) ?_
  refine .bind (.of rfl) ?_
  refine .pos (by omega) ?_
  refine .bind (b := twoQ n v) (.of rfl) ?_
  refine .bind (.of (light_print hL)) ?_
  by_cases hm : mayB [p] (twoQ n v) = true
  · rw [if_pos hm]
    have s1 : (⟨(printL [p] (twoQ n v)).toArray⟩ : ByteArray).size ≤ 50000 := by rw [size_mk]; exact hl
    have s2 : (⟨(escL n.data.toList).toArray⟩ : ByteArray).size ≤ 300 := by rw [size_mk]; omega
    have s3 : (⟨#[38]⟩ : ByteArray).size = 1 := rfl
    refine .pos rfl ?_
    refine .pos (by show (⟨(printL [p] (twoQ n v)).toArray⟩ : ByteArray).size + 1 ≤ _; omega) ?_
    refine .bind (.of hes) ?_
    refine .pos (by simp only [app_size, s3]; omega) ?_
    refine .pos (by simp only [app_size, s3]; omega) ?_
    refine .bind (b := ([], [], 6)) ?_ ?_
    · have h0 := print_snoc p n v ⟨#[]⟩ [] rfl rfl
      have h1 := parse_twice p n v hn hm
      rw [show (⟨#[61, 49]⟩ : ByteArray) = ⟨(([] : List UInt8) ++ [61, 49]).toArray⟩ from rfl, h0, ← h1]
      refine parse_f _ ?_
      have := congrArg ByteArray.size h0
      simp only [app_size, size_mk, s3] at this
      simp at this
      omega
    · refine .bind (.of hes) ?_
      refine .pos (by simp only [app_size, s3]; omega) ?_
      refine .pos (by simp only [app_size, s3]; omega) ?_
      refine .bind (b := ([p], twoQ n v ++ [⟨n ++ (⟨#[121]⟩ : ByteArray), ⟨#[49]⟩⟩], 0)) ?_ ?_
      · have h0 := print_snoc p n v ⟨#[121]⟩ [121] rfl (by decide)
        have h1 := parse_more p n v hn hm
        rw [show (⟨#[121, 61, 49]⟩ : ByteArray) = ⟨(([121] : List UInt8) ++ [61, 49]).toArray⟩ from rfl, h0, ← h1]
        refine parse_f _ ?_
        have := congrArg ByteArray.size h0
        simp only [app_size, size_mk, s3] at this
        simp at this
        omega
      · refine .pos rfl ?_
        refine .pos (by simp [wrap64]) ?_
        refine .pos rfl ?_
        exact .of (by simp [twoQ])
  · rw [if_neg hm]
    refine .neg (by decide) ?_
    refine .bind (.of (light_may hL)) ?_
    exact .of (by simp [hm])
theorem targetTwice_ev (p n v : ByteArray) (a : Int) : Ev (fun k => cofferlaw21_TargetTwice.f k p n v a) true := by
  have yes : Ev (fun k => cofferlaw21_TargetTwice.j0 k p n v true) true := .step (by
    simp only [cofferlaw21_TargetTwice.j0]
    refine .pos trivial ?_
    exact .of rfl)
  unfold cofferlaw21_TargetTwice.f
  refine .bind (.of rfl) ?_
  refine .pos rfl ?_
  by_cases hp : (p.size : Int) > 100
  · exact .pos hp yes
  · refine .neg hp ?_
    by_cases hn : (n.size : Int) > 100
    · exact .pos hn yes
    · refine .neg hn ?_
      by_cases hv : (v.size : Int) > 100
      · rw [decide_eq_true hv]
        exact yes
      · rw [decide_eq_false hv]
        exact twice_j0 p n v (by omega) (by omega) (by omega)
theorem targetTwice_walk (p : ByteArray) (_p : p.size ≤ 140737488351232) (n : ByteArray) (_n : n.size ≤ 140737488351232) (v : ByteArray) (_v : v.size ≤ 140737488351232) (a : Int) (_a : (Lit.int .i64 a).wf = true) (w : World) :
    Calls Tryd.prog 7 #[.string p, .string n, .string v, .int .i64 a] w fun e w' => e = .returned (.bool true) ∧ Below w.heap.size w w' := by
  obtain ⟨k, hk⟩ := (targetTwice_ev p n v a).at
  exact cofferlaw21_TargetTwice.calls k p n v a true w hk
end Go.Proofs.YtejmolhdmbkfaaaDoor.S
