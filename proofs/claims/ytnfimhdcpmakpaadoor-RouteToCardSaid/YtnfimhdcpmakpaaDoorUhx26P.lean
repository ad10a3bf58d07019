/-
  What names.Unhex says of bytes in digits.
-/
import Derived.Test.YtnfimhdcpmakpaaDoorUnh26P
import Derived.Test.YtnfimhdcpmakpaaDoorRHx26P
namespace Go.Proofs.YtnfimhdcpmakpaaDoor.S
open Go.RowKit Go.Proofs.YtnfimhdcpmakpaaDoorW.PrintWords
set_option linter.unusedVariables false
set_option linter.unusedSimpArgs false
theorem hx_hv (i c : Int) (h0 : 0 ≤ i) (h1 : i < 16) : hx i = c ↔ hv c = some i := by
  unfold hx hv
  constructor
  · rintro rfl
    by_cases g : i < 10
    · rw [if_pos g, if_pos (by omega)]; congr 1; omega
    · rw [if_neg g, if_neg (by omega), if_pos (by omega)]; congr 1; omega
  · intro h
    by_cases a : 48 ≤ c ∧ c ≤ 57
    · rw [if_pos a] at h; have := Option.some.inj h; rw [if_pos (by omega)]; omega
    · rw [if_neg a] at h
      by_cases b : 97 ≤ c ∧ c ≤ 102
      · rw [if_pos b] at h; have := Option.some.inj h; rw [if_neg (by omega)]; omega
      · rw [if_neg b] at h; cases h
end Go.Proofs.YtnfimhdcpmakpaaDoor.S
