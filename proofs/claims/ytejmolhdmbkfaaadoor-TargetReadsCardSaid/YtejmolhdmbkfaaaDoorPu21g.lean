/-
  The reference's Parse answers as the program's: the whole.
-/
import Derived.Test.YtejmolhdmbkfaaaDoorPu21f
namespace Go.Proofs.YtejmolhdmbkfaaaDoor.S
open Go.RowKit Go.Proofs.YtejmolhdmbkfaaaDoorW.PrintWords
set_option linter.unusedVariables false
set_option linter.unusedSimpArgs false
theorem flat_step (c : UInt8) (b : List UInt8) : ∃ x r, cutAll c b = x :: r ∧ b = x ++ flat c r := by
  rcases h : cutAll c b with _ | ⟨x, r⟩
  · exact absurd h (cutAll_ne c b)
  · refine ⟨x, r, rfl, ?_⟩
    have := flat_cut c b
    rw [h] at this
    simp only [flat] at this
    injection this with _ h2
    exact h2.symm
section
variable (S : List UInt8) (hS : S.length ≤ 100000)
include hS in
/-- Behind '?'. -/
theorem ref_query_at (P : List ByteArray) (hP : ∀ s ∈ P, s.size ≤ 1048576) (hPl : P.length ≤ 1048576) (at_ : Nat) (b : List UInt8) (hd : S.drop at_ = 63 :: b) :
    Ev (fun k => cofferref21_Parse.l0 k ⟨S.toArray⟩ (at_ : Int) P) (queryE P [] (queryT b)) := by
  obtain ⟨hlt, hbt, hdr, hSl⟩ := at_drop hd
  obtain ⟨x, r, hc, hb⟩ := flat_step 38 b
  refine .step ?_
  simp only [cofferref21_Parse.l0]
  refine .pos (by rw [size_mk]; omega) ?_
  refine .pos (by omega) ?_
  rw [hbt, show (((63 : UInt8).toNat : Int) == 47) = false by decide]
  refine .step ?_
  simp only [cofferref21_Parse.j4]
  refine .neg (by simp) ?_
  refine .neg (by rw [size_mk]; omega) ?_
  refine .pos (by omega) ?_
  refine .pos (by rw [size_mk]; omega) ?_
  rw [hbt]
  refine .pos (by decide) ?_
  have := refquery S hS P hP hPl r x at_ [] (by rw [hdr]; exact hb) hlt (fun z hz c hcz => (cut_mem 38 b z (by rw [hc]; exact hz) c hcz).2) (by simp) (by simp)
  unfold queryT
  rw [hc]
  exact this
/-- At the end. -/
theorem ref_end_at (P : List ByteArray) : Ev (fun k => cofferref21_Parse.l0 k ⟨S.toArray⟩ ((S.length : Nat) : Int) P) (P, [], 0) := by
  refine .step ?_
  simp only [cofferref21_Parse.l0]
  refine .neg (by rw [size_mk]; omega) ?_
  refine .step ?_
  simp only [cofferref21_Parse.j4]
  refine .neg (by simp) ?_
  refine .pos (by rw [size_mk]) ?_
  exact .of rfl
end
theorem mks_size {ps : List (List UInt8)} {L : Nat} (h : ∀ p ∈ ps, p.length ≤ L) : ∀ s ∈ mks ps, s.size ≤ L := by
  intro s hs
  obtain ⟨p, hp, rfl⟩ := List.mem_map.1 hs
  rw [size_mk]
  exact h p hp
theorem endP_path {l : List UInt8} {ps : List (List UInt8)} (h : pathT l = some ps) : endP (mks ps) [] = (mks ps, [], 0) := by
  unfold endP mayB
  rw [mayP_path h]
  rfl
theorem path_slash (a : List UInt8) (h : 47 :: a ≠ [47]) : pathT (47 :: a) = allN (cutAll 47 a) := by
  unfold pathT
  rw [if_neg h, if_pos (show (47 :: a : List UInt8).headD 0 = 47 from rfl)]
  rfl
theorem refparse_f (l : List UInt8) (hl : l.length ≤ 100000) : Ev (fun k => cofferref21_Parse.f k ⟨l.toArray⟩) (parseT l) := by
  have hj0 : Ev (fun k => cofferref21_Parse.j0 k ⟨l.toArray⟩ true) BAD := by
    refine .step ?_
    simp only [cofferref21_Parse.j0]
    refine .pos (by simp) ?_
    exact .of rfl
  have hbad : ∀ a : List UInt8, a.headD 0 ≠ 47 → pathT a = none := fun a h => by
    unfold pathT
    rw [if_neg (fun e => h (by rw [e]; rfl)), if_neg h]
  unfold cofferref21_Parse.f
  rw [toList_mk]
  rcases l with _ | ⟨c, r⟩
  · refine .pos rfl ?_
    exact hj0
  · rw [List.length_cons] at hl
    refine .neg (by simp) ?_
    refine .pos (by rw [size_mk, List.length_cons]; omega) ?_
    rw [bt_zero]
    by_cases hc : c = 47
    · subst hc
      rw [show (((47 : UInt8).toNat : Int) != 47) = false by decide]
      have toj1 : ∀ {R}, (r = [] → Ev (fun k => cofferref21_Parse.j1 k ⟨(47 :: r).toArray⟩ 0 true) R) → (∀ d q, r = d :: q → Ev (fun k => cofferref21_Parse.j1 k ⟨(47 :: r).toArray⟩ 0 ((d.toNat : Int) == 63)) R) → Ev (fun k => cofferref21_Parse.j0 k ⟨(47 :: r).toArray⟩ false) R := by
        intro R h1 h2
        refine .step ?_
        simp only [cofferref21_Parse.j0]
        refine .neg (by simp) ?_
        rcases r with _ | ⟨d, q⟩
        · refine .pos (by rw [size_mk]; rfl) ?_
          exact h1 rfl
        · refine .neg (by rw [size_mk, List.length_cons, List.length_cons]; omega) ?_
          refine .pos (by rw [size_mk, List.length_cons, List.length_cons]; omega) ?_
          rw [bt_one]
          exact h2 d q rfl
      have j1t : ∀ {R}, Ev (fun k => cofferref21_Parse.l0 k ⟨(47 :: r).toArray⟩ 1 []) R → Ev (fun k => cofferref21_Parse.j1 k ⟨(47 :: r).toArray⟩ 0 true) R := by
        intro R h
        refine .step ?_
        simp only [cofferref21_Parse.j1]
        refine .pos (by simp) ?_
        refine .step ?_
        simp only [cofferref21_Parse.j2]
        exact h
      have j1f : ∀ {R}, Ev (fun k => cofferref21_Parse.l0 k ⟨(47 :: r).toArray⟩ 0 []) R → Ev (fun k => cofferref21_Parse.j1 k ⟨(47 :: r).toArray⟩ 0 false) R := by
        intro R h
        refine .step ?_
        simp only [cofferref21_Parse.j1]
        refine .neg (by simp) ?_
        refine .step ?_
        simp only [cofferref21_Parse.j2]
        exact h
      refine toj1 (fun hr => j1t ?_) (fun d q hr => ?_)
      · subst hr
        exact ref_end_at [47] []
      · by_cases hd : d = 63
        · subst hd
          subst hr
          rw [show (((63 : UInt8).toNat : Int) == 63) = true by decide]
          have hpt : parseT (47 :: 63 :: q) = queryE [] [] (queryT q) := by
            have h1 : cut1 63 (47 :: 63 :: q) = some ([47], q) := by
              rw [cut1, if_neg (by decide), cut1, if_pos rfl]; rfl
            unfold parseT
            rw [h1]
            show (match pathT [47] with | some ps => (match queryT q with | some qs => endP (mks ps) qs | none => ([], [], 4)) | none => ([], [], 4)) = _
            rw [show pathT [47] = some [] from by unfold pathT; rw [if_pos rfl]]
            show (match queryT q with | some qs => endP (mks []) qs | none => ([], [], 4)) = _
            cases queryT q <;> rfl
          rw [hpt]
          exact j1t (ref_query_at (47 :: 63 :: q) (by simpa using hl) [] (by simp) (by simp) 1 q rfl)
        · rw [show ((d.toNat : Int) == 63) = false by
            rw [beq_eq_false_iff_ne]; exact fun e => hd (UInt8.toNat_inj.1 (by have : (63 : UInt8).toNat = 63 := rfl; omega))]
          refine j1f ?_
          have hne : 47 :: r ≠ [47] := by rw [hr]; simp
          rcases hcut : cut1 63 (47 :: r) with _ | ⟨a, b⟩
          · obtain ⟨hno, _⟩ := cut1_none hcut
            have hpt : parseT (47 :: r) = (match allN (cutAll 47 r) with | some ps => endP (mks ps) [] | none => ([], [], 4)) := by
              unfold parseT
              rw [hcut]
              show (match pathT (47 :: r) with | some ps => endP (mks ps) [] | none => ([], [], 4)) = _
              rw [path_slash r hne]
            refine refpath (47 :: r) (by simpa using hl) [] (.inl rfl) (parseT (47 :: r)) (cutAll 47 r) 0 [] (by rw [flat_cut]; simp) (by simp) (fun x hx b hb => ⟨(cut_mem 47 r x hx b hb).2, hno b (by simp [(cut_mem 47 r x hx b hb).1])⟩) (by simp) (fun ps hps => ?_) (fun hn => ?_)
            · rw [hpt, hps]
              have h2 : pathT (47 :: r) = some ps := (path_slash r hne).trans hps
              show Ev _ (endP (mks ps) [])
              rw [endP_path h2]
              exact ref_end_at (47 :: r) (mks ps)
            · rw [hpt, hn]
          · obtain ⟨he, hno, _⟩ := cut1_some hcut
            rcases a with _ | ⟨a0, a⟩
            · exact absurd he (by simp)
            · injection he with h1 he
              subst h1
              have hne2 : 47 :: a ≠ [47] := fun e => by
                injection e with _ e
                rw [e] at he
                rw [hr] at he
                injection he with e2
                exact hd e2
              have hz : r.length = a.length + 1 + b.length := by rw [he]; simp; omega
              have hpp : pathT (47 :: a) = allN (cutAll 47 a) := path_slash a hne2
              have hpt : parseT (47 :: r) = (match allN (cutAll 47 a) with | some ps => queryE (mks ps) [] (queryT b) | none => ([], [], 4)) := by
                unfold parseT
                rw [hcut]
                show (match pathT (47 :: a) with | some ps => (match queryT b with | some qs => endP (mks ps) qs | none => ([], [], 4)) | none => ([], [], 4)) = _
                rw [hpp]
                cases allN (cutAll 47 a) with
                | none => rfl
                | some ps => cases queryT b <;> rfl
              refine refpath (47 :: r) (by simpa using hl) (63 :: b) (.inr ⟨b, rfl⟩) (parseT (47 :: r)) (cutAll 47 a) 0 [] (by rw [flat_cut, he]; simp) (by simp) (fun x hx c hc => ⟨(cut_mem 47 a x hx c hc).2, hno c (by simp [(cut_mem 47 a x hx c hc).1])⟩) (by simp) (fun ps hps => ?_) (fun hn => ?_)
              · rw [hpt, hps]
                obtain ⟨h4, h5⟩ := pathT_len (hpp.trans hps)
                rw [List.length_cons] at h4
                refine ref_query_at (47 :: r) (by simpa using hl) (mks ([] ++ ps)) ?_ (by rw [mks_len]; simp; omega) _ b ?_
                · refine mks_size (fun p hp => ?_)
                  have := h5 p (by simpa using hp)
                  rw [List.length_cons] at this
                  omega
                · exact drop_suf ⟨47 :: a, by rw [he]; rfl⟩
              · rw [hpt, hn]
    · have hpb : parseT (c :: r) = BAD := by
        unfold parseT
        rcases hcut : cut1 63 (c :: r) with _ | ⟨a, b⟩
        · show (match pathT (c :: r) with | some ps => endP (mks ps) [] | none => ([], [], 4)) = _
          rw [hbad (c :: r) hc]
        · obtain ⟨he, _, _⟩ := cut1_some hcut
          show (match pathT a with | some ps => (match queryT b with | some qs => endP (mks ps) qs | none => ([], [], 4)) | none => ([], [], 4)) = _
          rw [hbad a]
          rcases a with _ | ⟨a0, a⟩
          · decide
          · injection he with h1 _
            subst h1
            exact hc
      rw [hpb, show ((c.toNat : Int) != 47) = true by
        rw [bne_iff_ne]; exact fun e => hc (UInt8.toNat_inj.1 (by have : (47 : UInt8).toNat = 47 := rfl; omega))]
      exact hj0
end Go.Proofs.YtejmolhdmbkfaaaDoor.S
