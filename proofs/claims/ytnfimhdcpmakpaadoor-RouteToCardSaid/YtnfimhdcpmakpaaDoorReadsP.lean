/-
  A slice of whole numbers that is read, in the print's two spellings.
-/
import Derived.Test.YtnfimhdcpmakpaaDoorThenP
namespace Go.Proofs.YtnfimhdcpmakpaaDoor.S
open Go.RowKit Go.Proofs.YtnfimhdcpmakpaaDoorW.PrintWords
set_option linter.unusedVariables false
set_option linter.unusedSimpArgs false
theorem reads_of_C {w : World} {k : IntKind} {A : Option Addr} {n : Nat} {xs : List Int} (h : Kd.C (Kd.int k) w A n xs) : ReadsInt w k A n xs := by
  refine ⟨h.1, h.2.1, fun hn => ?_⟩
  obtain ⟨ad, hA, hc⟩ := h.2.2 hn
  refine ⟨ad, hA, fun j hj => ?_⟩
  have hl : j < xs.length := by have := h.1; omega
  obtain ⟨c, _, hk, hcell⟩ := hc j _ (List.getElem?_eq_getElem hl)
  have hk' : c = [.int k xs[j]] := hk
  subst hk'
  have := hcell 0 _ rfl
  rw [List.getD_eq_getElem?_getD, List.getElem?_eq_getElem hl]
  simpa [Kd.int, Kd.scalar] using this
theorem C_of_reads {w : World} {k : IntKind} {A : Option Addr} {n : Nat} {xs : List Int} (h : ReadsInt w k A n xs) : Kd.C (Kd.int k) w A n xs := by
  refine ⟨h.1, h.2.1, fun hn => ?_⟩
  obtain ⟨ad, hA, hc⟩ := h.2.2 hn
  refine ⟨ad, hA, fun j p hj => ⟨[.int k p], rfl, rfl, fun i u hu => ?_⟩⟩
  have hl : j < xs.length := by
    rcases Nat.lt_or_ge j xs.length with h' | h'
    · exact h'
    · rw [List.getElem?_eq_none h'] at hj; cases hj
  rcases i with _ | i
  · have : u = .int k p := by simpa using hu.symm
    subst this
    have e := hc j (by have := h.1; omega)
    rw [List.getD_eq_getElem?_getD, hj] at e
    simpa [Kd.int, Kd.scalar] using e
  · simp at hu
end Go.Proofs.YtnfimhdcpmakpaaDoor.S
