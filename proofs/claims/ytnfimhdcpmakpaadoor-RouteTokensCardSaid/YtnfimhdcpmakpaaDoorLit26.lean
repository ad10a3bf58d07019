/-
  What the law's light says of a request for the head.
-/
import Derived.Test.YtnfimhdcpmakpaaDoorTkn26
import Derived.Test.YtnfimhdcpmakpaaDoorSx7
namespace Go.Proofs.YtnfimhdcpmakpaaDoor.S
open Go.RowKit Go.Proofs.YtnfimhdcpmakpaaDoorW.PrintWords
set_option linter.unusedVariables false
set_option linter.unusedSimpArgs false
theorem lightR_l0 (m s : ByteArray) (fs : List S41) (bd : List Int) (kp : Bool) (hl : fs.length ≤ 100000) : ∀ (d i : Nat), i + d = fs.length → ∃ r, Ev (fun k => cofferlaw26_light.l0 k (i : Int) m s fs bd kp) r ∧ (r = true → ∀ f ∈ fs.drop i, f.f1.size ≤ 2048)
  | 0, i, hi => by
    refine ⟨true, .step ?_, fun _ f hf => ?_⟩
    · simp only [cofferlaw26_light.l0]
      refine .neg (by omega) ?_
      exact .of rfl
    · rw [List.drop_of_length_le (by omega)] at hf
      cases hf
  | d + 1, i, hi => by
    have hlt : i < fs.length := by omega
    obtain ⟨r, h1, h2⟩ := lightR_l0 m s fs bd kp hl d (i + 1) (by omega)
    by_cases ha : (((rd_T41 fs (i : Int)).f0).size : Int) > 200
    · refine ⟨false, .step ?_, fun h => by cases h⟩
      simp only [cofferlaw26_light.l0]
      refine .pos (by omega) ?_
      refine .pos (by omega) ?_
      refine .pos ha ?_
      exact .of rfl
    · by_cases hb : (((rd_T41 fs (i : Int)).f1).size : Int) > 2048
      · refine ⟨false, .step ?_, fun h => by cases h⟩
        simp only [cofferlaw26_light.l0]
        refine .pos (by omega) ?_
        refine .pos (by omega) ?_
        refine .neg ha ?_
        refine .pos hb ?_
        exact .of rfl
      · refine ⟨r, .step ?_, fun h f hf => ?_⟩
        · simp only [cofferlaw26_light.l0]
          refine .pos (by omega) ?_
          refine .pos (by omega) ?_
          refine .neg ha ?_
          refine .neg hb ?_
          rw [wrap_one i (by omega)]
          exact h1
        · rw [List.drop_eq_getElem_cons hlt] at hf
          rw [rd41_at fs i hlt] at hb
          rcases List.mem_cons.1 hf with rfl | hf
          · omega
          · exact h2 h f hf
theorem lightR_ev (fs : List S41) (hl : fs.length ≤ 10) : ∃ r, Ev (fun k => cofferlaw26_light.f k GET ⟨#[47, 97, 47, 104, 101, 97, 100]⟩ fs [] false) r ∧ (r = true → ∀ f ∈ fs, f.f1.size ≤ 2048) := by
  obtain ⟨r, h1, h2⟩ := lightR_l0 GET ⟨#[47, 97, 47, 104, 101, 97, 100]⟩ fs [] false (by omega) fs.length 0 (by omega)
  refine ⟨r, ?_, by simpa using h2⟩
  unfold cofferlaw26_light.f
  refine .neg (by decide) ?_
  refine .neg (by decide) ?_
  refine .neg (by omega) ?_
  refine .step ?_
  simp only [cofferlaw26_light.j0]
  refine .neg (by decide) ?_
  exact h1
theorem fstF_mem (n : ByteArray) : ∀ (fs : List S41) (v : ByteArray), fstF n fs = some v → ∃ f ∈ fs, f.f1 = v
  | [], v, h => by cases h
  | f :: r, v, h => by
    unfold fstF at h
    split at h
    · exact ⟨f, List.mem_cons_self, Option.some.inj h⟩
    · obtain ⟨g, hg, e⟩ := fstF_mem n r v h
      exact ⟨g, List.mem_cons_of_mem _ hg, e⟩
theorem getF_size (fs : List S41) (h : ∀ f ∈ fs, f.f1.size ≤ 2048) : (getF AU fs).1.size ≤ 100000 := by
  unfold getF
  split
  · decide
  · split
    · rcases hf : fstF AU fs with _ | v
      · decide
      · obtain ⟨f, hm, rfl⟩ := fstF_mem AU fs v hf
        have := h f hm
        show f.f1.size ≤ 100000
        omega
    · decide
end Go.Proofs.YtnfimhdcpmakpaaDoor.S
