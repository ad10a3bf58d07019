/-
  How a row's proof hands its slices of bytes to a walk.
-/
import Derived.Test.YtnohcfgjhgfjkaaDoorThen
namespace Go.Proofs.YtnohcfgjhgfjkaaDoor.S
open Go.RowKit Go.Proofs.YtnohcfgjhgfjkaaDoorW.PrintWords
set_option linter.unusedVariables false
set_option linter.unusedSimpArgs false
/-- A []byte that came in, as the row's proof opens it. -/
def IsRow (k : IntKind) (w : World) (a : Option Addr) (len cap : Nat) (zs : List Int) : Prop :=
  (a = none ∧ len = 0 ∧ cap = 0 ∧ zs = []) ∨
  ∃ x, a = some x ∧ len ≤ cap ∧ cap ≤ maxLen ∧ zs.length = cap ∧ (∀ i, i < zs.length → w.cell? (x.add i) = some (.int k (zs.getD i 0))) ∧ ∀ n ∈ zs, (Lit.int k n).wf = true
/-- What a law may know of a []byte: its bytes, up to its length. -/
structure Bytes (w : World) (a : Option Addr) (len cap : Nat) (l : List Int) : Prop where mk :: (hlen : l.length = len) (hcap : len ≤ cap) (reads : ReadsInt w .u8 a len l) (wf : ∀ c ∈ l, 0 ≤ c ∧ c ≤ 255)
theorem row_reads {w : World} {a : Option Addr} {len cap : Nat} {zs : List Int} (h : IsRow .u8 w a len cap zs) : Bytes w a len cap (zs.take len) := by
  rcases h with ⟨rfl, rfl, rfl, rfl⟩ | ⟨x, rfl, h1, h2, h3, h4, h5⟩
  · exact ⟨rfl, Nat.le_refl _, ⟨rfl, Nat.zero_le _, fun h => absurd h (Nat.lt_irrefl 0)⟩, fun c hc => by simp at hc⟩
  · have hl : (zs.take len).length = len := by rw [List.length_take]; omega
    refine ⟨hl, h1, ⟨hl, by unfold maxLen at h2; omega, fun _ => ⟨x, rfl, fun j hj => ?_⟩⟩, fun c hc => ?_⟩
    · rw [h4 j (by omega)]
      congr 2
      rw [List.getD_eq_getElem?_getD, List.getD_eq_getElem?_getD, List.getElem?_take_of_lt hj]
    · have := h5 c (List.mem_of_mem_take hc)
      simpa [Lit.wf, IntKind.min, IntKind.max, IntKind.signed, IntKind.bits] using this
end Go.Proofs.YtnohcfgjhgfjkaaDoor.S
