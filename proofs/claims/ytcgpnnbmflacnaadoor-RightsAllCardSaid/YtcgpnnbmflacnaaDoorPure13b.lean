/-
  The plain laws of rights, the second part: the lattice, and what each operation needs.
-/
import Derived.Test.YtcgpnnbmflacnaaDoorPure13
import Derived.Test.YtcgpnnbmflacnaaDoorBits8
import Derived.Test.YtcgpnnbmflacnaaDoorSx2
import Derived.Test.YtcgpnnbmflacnaaDoorSx3
namespace Go.Proofs.YtcgpnnbmflacnaaDoor.S
open Go.RowKit Go.Proofs.YtcgpnnbmflacnaaDoorW.PrintWords Go.Proofs.YtcgpnnbmflacnaaDoorW.PrintLast Go.Proofs.YtcgpnnbmflacnaaDoorW.PrintMore
set_option linter.unusedVariables false
set_option linter.unusedSimpArgs false

theorem needs_same (k : Nat) (x : Int) : ∃ r, rights_Needs.f (k + 3) x = some r ∧ cofferref13_Needs.f (k + 3) x = some r := by
  have hR : rights_Rules.f x = some (decide (10 ≤ x ∧ x ≤ 17)) ∧ cofferref13_Rules.f x = some (decide (10 ≤ x ∧ x ≤ 17)) := by
    unfold rights_Rules.f cofferref13_Rules.f
    by_cases h : x ≥ 10 <;> simp [h]
  have j2 : ∀ (k : Nat) (b : Bool), ∃ r, rights_Needs.j2 (k + 1) x b = some r ∧ cofferref13_Needs.j2 (k + 1) x b = some r := by
    intro k b
    simp only [rights_Needs.j2, cofferref13_Needs.j2]
    rw [hR.1, hR.2]
    simp only [Option.bind_some]
    cases b with
    | true => exact ⟨(4, 0), by simp, by simp⟩
    | false => by_cases h : decide (10 ≤ x ∧ x ≤ 17) = true <;> exact ⟨_, by rw [if_neg (by simp)]; simp only [h]; rfl, by rw [if_neg (by simp)]; simp only [h]; rfl⟩
  have j1 : ∀ (k : Nat) (b : Bool), ∃ r, rights_Needs.j1 (k + 2) x b = some r ∧ cofferref13_Needs.j1 (k + 2) x x b = some r := by
    intro k b
    simp only [rights_Needs.j1, cofferref13_Needs.j1]
    cases b with
    | true => exact ⟨(2, 0), by simp, by simp⟩
    | false =>
      by_cases h : x = 7
      · obtain ⟨r, h1, h2⟩ := j2 k (x == 7)
        exact ⟨r, by rw [if_neg (by simp), if_pos h]; exact h1, by rw [if_neg (by simp), if_pos h]; exact h2⟩
      · obtain ⟨r, h1, h2⟩ := j2 k (x == 8)
        exact ⟨r, by rw [if_neg (by simp), if_neg h]; exact h1, by rw [if_neg (by simp), if_neg h]; exact h2⟩
  have j0 : ∀ (b : Bool), ∃ r, rights_Needs.j0 (k + 3) x b = some r ∧ cofferref13_Needs.j0 (k + 3) x x b = some r := by
    intro b
    simp only [rights_Needs.j0, cofferref13_Needs.j0]
    cases b with
    | true => exact ⟨(1, 0), by simp, by simp⟩
    | false =>
      by_cases h : x = 1
      · obtain ⟨r, h1, h2⟩ := j1 k (x == 1)
        exact ⟨r, by rw [if_neg (by simp), if_pos h]; exact h1, by rw [if_neg (by simp), if_pos h]; exact h2⟩
      · obtain ⟨r, h1, h2⟩ := j1 k (x == 3)
        exact ⟨r, by rw [if_neg (by simp), if_neg h]; exact h1, by rw [if_neg (by simp), if_neg h]; exact h2⟩
  unfold rights_Needs.f cofferref13_Needs.f
  by_cases h2 : x = 2
  · rw [if_pos h2, if_pos h2]; exact j0 _
  rw [if_neg h2, if_neg h2]
  by_cases h4 : x = 4
  · rw [if_pos h4, if_pos h4]; exact j0 _
  rw [if_neg h4, if_neg h4]
  by_cases h5 : x = 5
  · rw [if_pos h5, if_pos h5]; exact j0 _
  rw [if_neg h5, if_neg h5]
  by_cases h6 : x = 6
  · rw [if_pos h6, if_pos h6]; exact j0 _
  rw [if_neg h6, if_neg h6]
  exact j0 _
theorem RightsNeeds_pure (x : Int) : cofferlaw13_RightsNeeds.f 200 x = some true := by
  unfold cofferlaw13_RightsNeeds.f
  obtain ⟨r, h1, h2⟩ := needs_same 197 x
  rw [h1, h2, begun_f 200 (by omega)]
  simp only [Option.bind_some, if_true]
  have hR : rights_Rules.f x = cofferref13_Rules.f x := rfl
  have hs : ∃ b, cofferref13_Rules.f x = some b := by
    unfold cofferref13_Rules.f
    by_cases h : x ≥ 10 <;> simp [h]
  obtain ⟨b, hb⟩ := hs
  rw [hR, hb]
  simp

theorem meet_f (x y : BitVec 8) : rights_Meet.f (c8 x) (c8 y) = some (c8 (x &&& y)) := by unfold rights_Meet.f; rw [and_c]
theorem join_f (x y : BitVec 8) : rights_Join.f (c8 x) (c8 y) = some (c8 (x ||| y)) := by unfold rights_Join.f; rw [or_c]
theorem covers_f (x y : BitVec 8) : rights_Covers.f (c8 x) (c8 y) = some (decide (y &&& ~~~x = 0#8)) := by
  unfold rights_Covers.f; rw [andNot_c, c8_zero]
  congr 1
  rw [Bool.eq_iff_iff]
  simp [c8_inj]
theorem beq_c (x y : BitVec 8) : (c8 x == c8 y) = decide (x = y) := by rw [Bool.eq_iff_iff]; simp [c8_inj]
theorem RightsLattice_pure (x y z : BitVec 8) : cofferlaw13_RightsLattice.f 200 (c8 x) (c8 y) (c8 z) = some true := by
  have j2 : ∀ k, cofferlaw13_RightsLattice.j2 (k + 1) (c8 x) (c8 y) (c8 z) (c8 (x &&& y)) (c8 (x ||| y)) true true true = some true := by
    intro k
    simp only [cofferlaw13_RightsLattice.j2, covers_f, Option.bind_some, beq_c]
    rw [if_pos (by rw [beq_iff_eq, decide_eq_decide]; exact covers_and x y), if_pos (by rw [beq_iff_eq, decide_eq_decide]; exact covers_or x y)]
    by_cases h1 : x &&& ~~~z = 0#8
    · rw [if_pos (decide_eq_true h1)]
      by_cases h2 : y &&& ~~~z = 0#8
      · rw [if_pos (decide_eq_true h2)]
        simp only [if_true]
        rw [decide_eq_true (covers_join x y z h1 h2)]
      · rw [if_neg (by simp [h2])]; simp
    · rw [if_neg (by simp [h1])]; simp
  have j1 : ∀ k, cofferlaw13_RightsLattice.j1 (k + 2) (c8 x) (c8 y) (c8 z) (c8 (x &&& y)) (c8 (x ||| y)) true true = some true := by
    intro k
    simp only [cofferlaw13_RightsLattice.j1, meet_f, join_f, Option.bind_some]
    rw [if_pos (by rw [absorb1]), if_pos (by rw [absorb2]), beq_c, decide_eq_true (distrib x y z)]
    exact j2 k
  have j0 : ∀ k, cofferlaw13_RightsLattice.j0 (k + 3) (c8 x) (c8 y) (c8 z) (c8 (x &&& y)) (c8 (x ||| y)) true = some true := by
    intro k
    simp only [cofferlaw13_RightsLattice.j0, meet_f, join_f, Option.bind_some]
    rw [if_pos (by rw [BitVec.and_assoc]), beq_c, decide_eq_true (BitVec.or_assoc x y z)]
    exact j1 k
  unfold cofferlaw13_RightsLattice.f
  rw [begun_f 200 (by omega)]
  simp only [Option.bind_some, if_true, meet_f, join_f]
  rw [if_pos (by rw [BitVec.and_self]), if_pos (by rw [BitVec.or_self]), if_pos (by rw [BitVec.and_comm]), beq_c, decide_eq_true (BitVec.or_comm x y)]
  exact j0 197
end Go.Proofs.YtcgpnnbmflacnaaDoor.S
