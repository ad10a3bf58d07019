/-
  RightsBack answers true at every uint8, in every world where the library's table stands.
-/
import Derived.Test.YtcgpnnbmflacnaaDoorWalkRightsLattice
import Derived.Test.YtcgpnnbmflacnaaDoorThen
namespace Go.Proofs.YtcgpnnbmflacnaaDoor.S
open Go.RowKit Go.Proofs.YtcgpnnbmflacnaaDoorW.PrintWords
set_option linter.unusedVariables false
set_option linter.unusedSimpArgs false

theorem may_small (a : Int) (h0 : 0 ≤ a) (h1 : a < 16) : rights_May.f a = some true := by
  unfold rights_May.f
  have hn : a.toNat < 16 := by omega
  have e : a = ((a.toNat : Nat) : Int) := by omega
  rw [e]
  generalize a.toNat = n at hn
  have : n = 0 ∨ n = 1 ∨ n = 2 ∨ n = 3 ∨ n = 4 ∨ n = 5 ∨ n = 6 ∨ n = 7 ∨ n = 8 ∨ n = 9 ∨ n = 10 ∨ n = 11 ∨ n = 12 ∨ n = 13 ∨ n = 14 ∨ n = 15 := by omega
  rcases this with rfl | rfl | rfl | rfl | rfl | rfl | rfl | rfl | rfl | rfl | rfl | rfl | rfl | rfl | rfl | rfl <;> rfl
theorem may_large (a : Int) (h0 : 16 ≤ a) (h1 : a ≤ 255) : rights_May.f a = some false := by
  obtain ⟨x, rfl⟩ := c8_of a (by omega) h1
  unfold rights_May.f
  have e : (15 : Int) = c8 15#8 := rfl
  rw [e, andNot_c, c8_zero, beq_c]
  congr 1
  rw [decide_eq_false_iff_not]
  have key : ∀ y : BitVec 8, y &&& ~~~15#8 = 0#8 → y.toNat < 16 := by decide
  intro h
  have := key x h
  unfold c8 at h0; omega
set_option maxHeartbeats 1000000 in
set_option maxRecDepth 100000 in
theorem rightsBack_walk (a0 : Int) (h0 : (Lit.int .u8 a0).wf = true) (w : World) (hT : Tabs w) :
    Calls Tryd.prog 4 #[.int .u8 a0] w fun e w' => e = .returned (.bool true) ∧ Below w.heap.size w w' := by
  have hb : 0 ≤ a0 ∧ a0 ≤ 255 := by simpa [Lit.wf, IntKind.min, IntKind.max, IntKind.signed, IntKind.bits] using h0
  clear h0
  have cW : Hid (∀ w, Tabs w → Calls Tryd.prog 11 #[.int .u8 a0] w fun e w' => e = .returned (.string ⟨(W a0).toArray⟩) ∧ Below w.heap.size w w') := Lib.hid fun w hT => rights_Word.calls a0 _ w (word_f a0 hb.1 hb.2) hT
  have cB : Hid (∀ w, Tabs w → Calls Tryd.prog 8 #[] w fun e w' => e = .returned (.bool true) ∧ Below w.heap.size w w') := Lib.hid fun w hT => cofferlaw13_begun.calls 100 true w (begun_f 100 (by omega)) hT
  have hpr := pr_back a0 hb.2 16 0 (by omega) (by omega) hb.1
  by_cases hs : a0 < 16
  · rw [if_pos hs] at hpr
    have cP : Hid (∀ w, Tabs w → Calls Tryd.prog 9 #[.string ⟨(W a0).toArray⟩] w fun e w' => e = .returned (.tuple #[.int .u8 a0, .int .i64 0]) ∧ Below w.heap.size w w') :=
      Lib.hid fun w hT => rights_Parse.calls 100 _ a0 0 w (by rw [parse_f 100 (by omega)]; exact congrArg some hpr) hT
    have cM : Hid (∀ w, Calls Tryd.prog 12 #[.int .u8 a0] w fun e w' => e = .returned (.bool true) ∧ Drawn0 w w') := Lib.hid fun w => rights_May.calls a0 true w (may_small a0 hb.1 hs)
    clear hpr hs hb
    go_enter Tryd.func4, Tryd.ntmps4
    go_wp2_with (first | (go_at_call 11; refine (cW.out _ hT).mono ?_; rintro e w1 ⟨rfl, hb1⟩; have hT1 := hT.below hb1) | (go_at_call 9; refine (cP.out _ (by assumption)).mono ?_; rintro e w2 ⟨rfl, hb2⟩; have hT2 := Tabs.below (by assumption) hb2) | (go_at_call 8; refine (cB.out _ (by assumption)).mono ?_; rintro e w3 ⟨rfl, hb3⟩) | (go_at_call 12; refine (cM.out _).mono ?_; rintro e w' ⟨rfl, ⟨nd, rfl⟩⟩))
    go_ret
    exact ⟨rfl, pw_below_drewN (bthen (bthen hb1 hb2) hb3) _⟩
  · rw [if_neg hs] at hpr
    have cP : Hid (∀ w, Tabs w → Calls Tryd.prog 9 #[.string ⟨(W a0).toArray⟩] w fun e w' => e = .returned (.tuple #[.int .u8 0, .int .i64 4]) ∧ Below w.heap.size w w') :=
      Lib.hid fun w hT => rights_Parse.calls 100 _ 0 4 w (by rw [parse_f 100 (by omega)]; exact congrArg some hpr) hT
    have cM : Hid (∀ w, Calls Tryd.prog 12 #[.int .u8 a0] w fun e w' => e = .returned (.bool false) ∧ Drawn0 w w') := Lib.hid fun w => rights_May.calls a0 false w (may_large a0 (by omega) hb.2)
    clear hpr hs hb
    go_enter Tryd.func4, Tryd.ntmps4
    go_wp2_with (first | (go_at_call 11; refine (cW.out _ hT).mono ?_; rintro e w1 ⟨rfl, hb1⟩; have hT1 := hT.below hb1) | (go_at_call 9; refine (cP.out _ (by assumption)).mono ?_; rintro e w2 ⟨rfl, hb2⟩; have hT2 := Tabs.below (by assumption) hb2) | (go_at_call 8; refine (cB.out _ (by assumption)).mono ?_; rintro e w3 ⟨rfl, hb3⟩) | (go_at_call 12; refine (cM.out _).mono ?_; rintro e w' ⟨rfl, ⟨nd, rfl⟩⟩))
    go_ret
    exact ⟨rfl, by repeat (first | exact bthen (bthen hb1 hb2) hb3 | apply pw_below_drewN)⟩
end Go.Proofs.YtcgpnnbmflacnaaDoor.S
