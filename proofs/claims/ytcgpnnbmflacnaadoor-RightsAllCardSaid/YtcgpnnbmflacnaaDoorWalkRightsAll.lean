/-
  RightsAll answers true at every two uint8, in every world where the library's table stands.
-/
import Derived.Test.YtcgpnnbmflacnaaDoorWalkRightsBack
import Derived.Test.YtcgpnnbmflacnaaDoorArr13
namespace Go.Proofs.YtcgpnnbmflacnaaDoor.S
open Go.RowKit Go.Proofs.YtcgpnnbmflacnaaDoorW.PrintWords
set_option linter.unusedVariables false
set_option linter.unusedSimpArgs false

theorem may_same (x : BitVec 8) : ∃ m, rights_May.f (c8 x) = some m ∧ cofferref13_May.f (c8 x) = some m := by
  have hr := c8_range x
  by_cases h : c8 x < 16
  · exact ⟨true, may_small _ hr.1 h, by unfold cofferref13_May.f; rw [decide_eq_true h]⟩
  · exact ⟨false, may_large _ (by omega) hr.2, by unfold cofferref13_May.f; rw [decide_eq_false h]⟩
set_option maxHeartbeats 1000000 in
set_option maxRecDepth 100000 in
theorem rightsAll_walk (a0 : Int) (h0 : (Lit.int .u8 a0).wf = true) (a1 : Int) (h1 : (Lit.int .u8 a1).wf = true) (w : World) (hT : Tabs w) :
    Calls Tryd.prog 6 #[.int .u8 a0, .int .u8 a1] w fun e w' => e = .returned (.bool true) ∧ Below w.heap.size w w' := by
  obtain ⟨x, rfl⟩ := u8_vec a0 h0
  obtain ⟨y, rfl⟩ := u8_vec a1 h1
  clear h0 h1
  obtain ⟨m, m1, m2⟩ := may_same x
  have cB : Hid (∀ w, Tabs w → Calls Tryd.prog 8 #[] w fun e w' => e = .returned (.bool true) ∧ Below w.heap.size w w') := Lib.hid fun w hT => cofferlaw13_begun.calls 100 true w (begun_f 100 (by omega)) hT
  have cM : Hid (∀ w, Calls Tryd.prog 12 #[.int .u8 (c8 x)] w fun e w' => e = .returned (.bool m) ∧ Drawn0 w w') := Lib.hid fun w => rights_May.calls (c8 x) m w m1
  have cN : Hid (∀ w, Calls Tryd.prog 16 #[.int .u8 (c8 x)] w fun e w' => e = .returned (.bool m) ∧ Drawn0 w w') := Lib.hid fun w => cofferref13_May.calls (c8 x) m w m2
  have cC : Hid (∀ w, Calls Tryd.prog 15 #[.int .u8 (c8 x), .int .u8 (c8 y)] w fun e w' => e = .returned (.bool (decide (y &&& ~~~x = 0#8))) ∧ Drawn0 w w') := Lib.hid fun w => rights_Covers.calls (c8 x) (c8 y) _ w (covers_f x y)
  have cI : Hid (∀ w, Calls Tryd.prog 13 #[.int .u8 (c8 x), .int .u8 (c8 y)] w fun e w' => e = .returned (.int .u8 (c8 (x &&& y))) ∧ Drawn0 w w') := Lib.hid fun w => rights_Meet.calls (c8 x) (c8 y) _ w (meet_f x y)
  have cJ : Hid (∀ w, Calls Tryd.prog 14 #[.int .u8 (c8 x), .int .u8 (c8 y)] w fun e w' => e = .returned (.int .u8 (c8 (x ||| y))) ∧ Drawn0 w w') := Lib.hid fun w => rights_Join.calls (c8 x) (c8 y) _ w (join_f x y)
  have cW : Hid (∀ w, Tabs w → Calls Tryd.prog 11 #[.int .u8 (c8 x)] w fun e w' => e = .returned (.string ⟨(W (c8 x)).toArray⟩) ∧ Below w.heap.size w w') := Lib.hid fun w hT => rights_Word.calls _ _ w (word_f _ (c8_range x).1 (c8_range x).2) hT
  have cV : Hid (∀ w, Calls Tryd.prog 20 #[.int .u8 (c8 x)] w fun e w' => e = .returned (.string ⟨(W (c8 x)).toArray⟩) ∧ Drawn0 w w') := Lib.hid fun w => cofferref13_Word.calls 200 _ _ w (ref_word_f 200 (by omega) _ (c8_range x).1 (c8_range x).2)
  have cD : Hid (∀ w, Calls Tryd.prog 17 #[.int .u8 (c8 x), .int .u8 (c8 y)] w fun e w' => e = .returned (.bool (decide (y &&& ~~~x = 0#8))) ∧ Below w.heap.size w w') := Lib.hid fun w => ref_covers x y w
  clear m1 m2
  generalize decide (y &&& ~~~x = 0#8) = c at cC cD
  go_enter Tryd.func6, Tryd.ntmps6
  go_wp2_with fail
  refine (cB.out _ hT).mono ?_
  rintro e w1 ⟨rfl, hb1⟩
  have hT1 := hT.below hb1
  go_wp2_with fail
  refine (cM.out _).mono ?_
  rintro e w' ⟨rfl, ⟨n2, rfl⟩⟩
  go_wp2_with fail
  refine (cN.out _).mono ?_
  rintro e w' ⟨rfl, ⟨n3, rfl⟩⟩
  go_wp2_with fail
  refine (cC.out _).mono ?_
  rintro e w' ⟨rfl, ⟨n4, rfl⟩⟩
  go_wp2_with fail
  refine (cD.out _).mono ?_
  rintro e w5 ⟨rfl, hb5⟩
  go_wp2_with fail
  refine (cI.out _).mono ?_
  rintro e w' ⟨rfl, ⟨n6, rfl⟩⟩
  go_wp2_with fail
  refine (ref_meet x y _).mono ?_
  rintro e w7 ⟨rfl, hb7⟩
  go_wp2_with fail
  refine (cJ.out _).mono ?_
  rintro e w' ⟨rfl, ⟨n8, rfl⟩⟩
  go_wp2_with fail
  refine (ref_join x y _).mono ?_
  rintro e w9 ⟨rfl, hb9⟩
  have hbb := bthen (pw_below_drewN (bthen (pw_below_drewN hb1 (n2 + n3 + n4)) hb5) n6) hb7
  have hbc := bthen (pw_below_drewN hbb n8) hb9
  have hT9 := hT.below hbc
  clear hbb hb5 hb7 hb9 hb1 hT1
  go_wp2_with fail
  refine (cW.out _ hT9).mono ?_
  rintro e w10 ⟨rfl, hb10⟩
  have hbd := bthen hbc hb10
  go_wp2_with fail
  refine (cV.out _).mono ?_
  rintro e w' ⟨rfl, ⟨n11, rfl⟩⟩
  go_wp2
  go_ret
  exact ⟨rfl, pw_below_drewN hbd _⟩
end Go.Proofs.YtcgpnnbmflacnaaDoor.S
