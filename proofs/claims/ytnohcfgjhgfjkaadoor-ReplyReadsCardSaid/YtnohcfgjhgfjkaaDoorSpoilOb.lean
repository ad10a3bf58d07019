/-
  Spoil writes into no other row than the one it is handed: for the rows that '[]byte(s)' makes, too.
-/
import Derived.Test.YtnohcfgjhgfjkaaDoorOwnB
import Derived.Test.YtnohcfgjhgfjkaaDoorTwin
namespace Go.Proofs.YtnohcfgjhgfjkaaDoor.S
open Go.RowKit Go.Proofs.YtnohcfgjhgfjkaaDoorW.PrintWords
set_option linter.unusedVariables false
set_option linter.unusedSimpArgs false
structure SpOb (w0 wr : World) (base g cap : Nat) : Prop where mk :: (cells : Open wr g cap) (below : Below base w0 wr)
theorem SpOb.set {w0 wr : World} {base g cap j : Nat} (h : SpOb w0 wr base g cap) (hb : base ≤ g) (u : Value) : SpOb w0 (wr.setCell ⟨g, j, none⟩ u) base g cap := by
  refine ⟨fun k hk => ?_, h.below.setCell hb _⟩
  obtain ⟨h1, h2⟩ := h.cells k hk
  have := World.isSome_setCells g [u] j wr ⟨g, k, none⟩ h1
  exact ⟨this, by rw [World.frozen?_setCell]; exact h2⟩
set_option maxHeartbeats 1000000 in
set_option maxRecDepth 100000 in
theorem spoil_open (w0 w : World) (base g n cap : Nat) (hS : SpOb w0 w base g cap) (hbg : base ≤ g) (hn : n ≤ cap) (hm : cap ≤ 9223372036854775807) :
    Calls Tryd.prog 14 #[.slice (some ⟨g, 0, none⟩) n cap] w fun e w' => e = .returned (.tuple #[]) ∧ Below base w0 w' := by
  go_enter Tryd.func14, Tryd.ntmps14
  go_wp2_with fail
  go_loopw [3] (fun i wr => ∃ j : Nat, j ≤ cap ∧ i = .int .i64 j ∧ SpOb w0 wr base g cap) (fun i _ => cap - (intOf i).toNat)
  case atStart => exact ⟨0, by omega, rfl, hS⟩
  case round =>
    obtain ⟨j, hj, rfl, H⟩ := hrel
    by_cases hlt : j < cap
    · obtain ⟨hc, hfree⟩ := H.cells j hlt
      obtain ⟨u, hcell⟩ := Option.isSome_iff_exists.1 hc
      clear hc
      go_wp2
      go_roundw
      case rel => exact ⟨j + 1, by omega, by go_num, H.set hbg _⟩
      case measure => simp [intOf]; omega
    · go_wp2
      go_end0
      exact ⟨rfl, H.below⟩
theorem spoil_ob (w : World) (base : Nat) (v : Value) (xs : List Int) (h : OB w base v xs) :
    Calls Tryd.prog 14 #[v] w fun e w' => e = .returned (.tuple #[]) ∧ Below base w w' := by
  obtain ⟨g, cap, rfl, h1, h2, h3, h4, h5, h6⟩ := h.out
  exact spoil_open w w base g _ cap ⟨h6, Below.refl _ _⟩ h1 h3 (by unfold maxLen at h4; omega)
end Go.Proofs.YtnohcfgjhgfjkaaDoor.S
