/-
  The reference's head, and what begins with what; the tail.
-/
import Derived.Test.YtnohcfgjhgfjkaaDoorRep25b
namespace Go.Proofs.YtnohcfgjhgfjkaaDoor.S
open Go.RowKit Go.Proofs.YtnohcfgjhgfjkaaDoorW.PrintWords
set_option linter.unusedVariables false
set_option linter.unusedSimpArgs false
/-- What stands between a body's length and the body. -/
def tailL (c : Bool) : List UInt8 := if c then [13, 10, 67, 111, 110, 110, 101, 99, 116, 105, 111, 110, 58, 32, 99, 108, 111, 115, 101, 13, 10, 13, 10] else [13, 10, 13, 10]
theorem tail_f (c : Bool) : reply_tail.f c = some ⟨(tailL c).toArray⟩ := by cases c <;> rfl
/-- A whole head. -/
def wholeL (st n : Int) (c : Bool) : List UInt8 := headL st ++ (Lib.itoa n ++ tailL c)
set_option maxHeartbeats 1000000 in
set_option maxRecDepth 100000 in
theorem ref_head_any (st n : Int) (c : Bool) (h0 : -9223372036854775808 ≤ st) (h1 : st ≤ 9223372036854775807) (n0 : -9223372036854775808 ≤ n) (n1 : n ≤ 9223372036854775807) (w : World) :
    Calls Tryd.prog 22 #[.int .i64 st, .int .i64 n, .bool c] w fun e w' => e = .returned (.string ⟨(wholeL st n c).toArray⟩) ∧ Below w.heap.size w w' := by
  have cP : Hid (∀ w, Calls Tryd.prog 30 #[.int .i64 st] w fun e w' => e = .returned (.string ⟨(Lib.itoa st).toArray⟩) ∧ Drawn0 w w') := Lib.hid fun w => cofferref4_Print.calls 200 st _ w (ref_print 200 st h0 h1 (by omega))
  have cN : Hid (∀ w, Calls Tryd.prog 30 #[.int .i64 n] w fun e w' => e = .returned (.string ⟨(Lib.itoa n).toArray⟩) ∧ Drawn0 w w') := Lib.hid fun w => cofferref4_Print.calls 200 n _ w (ref_print 200 n n0 n1 (by omega))
  have cR := Lib.hid (ref_reason_any st)
  have z1 : (⟨(Lib.itoa st).toArray⟩ : ByteArray).size ≤ 21 := by rw [size_mk]; exact Lib.itoa_length_le st h0 h1
  have z2 : (⟨(rs st).toArray⟩ : ByteArray).size ≤ 31 := by rw [size_mk]; exact rs_len st
  have z3 : (⟨(Lib.itoa n).toArray⟩ : ByteArray).size ≤ 21 := by rw [size_mk]; exact Lib.itoa_length_le n n0 n1
  cases c with
  | true =>
    have e : (⟨(wholeL st n true).toArray⟩ : ByteArray) = (((((((⟨#[72, 84, 84, 80, 47, 49, 46, 49, 32]⟩ ++ ⟨(Lib.itoa st).toArray⟩) ++ ⟨#[32]⟩) ++ ⟨(rs st).toArray⟩) ++ ⟨#[13, 10, 67, 111, 110, 116, 101, 110, 116, 45, 76, 101, 110, 103, 116, 104, 58, 32]⟩) ++ ⟨(Lib.itoa n).toArray⟩) ++ ⟨#[13, 10]⟩) ++ ⟨#[67, 111, 110, 110, 101, 99, 116, 105, 111, 110, 58, 32, 99, 108, 111, 115, 101, 13, 10]⟩) ++ ⟨#[13, 10]⟩ := by
      unfold wholeL headL tailL; apply ByteArray.ext; simp
    rw [e]
    clear e
    generalize (⟨(Lib.itoa st).toArray⟩ : ByteArray) = s1 at *
    generalize (⟨(rs st).toArray⟩ : ByteArray) = s2 at *
    generalize (⟨(Lib.itoa n).toArray⟩ : ByteArray) = s3 at *
    go_enter Tryd.func22, Tryd.ntmps22
    go_wp2_with fail
    refine (cP.out _).mono ?_
    rintro e w1 ⟨rfl, hb1⟩
    go_wp2_with fail
    refine (cR.out _).mono ?_
    rintro e w2 ⟨rfl, hb2⟩
    go_wp2_with fail
    refine (cN.out _).mono ?_
    rintro e w3 ⟨rfl, hb3⟩
    go_wp2
    go_ret
    exact ⟨rfl, bthen (bthen hb1.below hb2) hb3.below⟩
  | false =>
    have e : (⟨(wholeL st n false).toArray⟩ : ByteArray) = ((((((⟨#[72, 84, 84, 80, 47, 49, 46, 49, 32]⟩ ++ ⟨(Lib.itoa st).toArray⟩) ++ ⟨#[32]⟩) ++ ⟨(rs st).toArray⟩) ++ ⟨#[13, 10, 67, 111, 110, 116, 101, 110, 116, 45, 76, 101, 110, 103, 116, 104, 58, 32]⟩) ++ ⟨(Lib.itoa n).toArray⟩) ++ ⟨#[13, 10]⟩) ++ ⟨#[13, 10]⟩ := by
      unfold wholeL headL tailL; apply ByteArray.ext; simp
    rw [e]
    clear e
    generalize (⟨(Lib.itoa st).toArray⟩ : ByteArray) = s1 at *
    generalize (⟨(rs st).toArray⟩ : ByteArray) = s2 at *
    generalize (⟨(Lib.itoa n).toArray⟩ : ByteArray) = s3 at *
    go_enter Tryd.func22, Tryd.ntmps22
    go_wp2_with fail
    refine (cP.out _).mono ?_
    rintro e w1 ⟨rfl, hb1⟩
    go_wp2_with fail
    refine (cR.out _).mono ?_
    rintro e w2 ⟨rfl, hb2⟩
    go_wp2_with fail
    refine (cN.out _).mono ?_
    rintro e w3 ⟨rfl, hb3⟩
    go_wp2
    go_ret
    exact ⟨rfl, bthen (bthen hb1.below hb2) hb3.below⟩
/-- Is one the beginning of the other? -/
def begL (a b : List UInt8) : Bool := a.take b.length == b.take a.length
def begB (a b : ByteArray) : Bool := (a.extract 0 (min a.size b.size)).toList == (b.extract 0 (min a.size b.size)).toList
theorem begB_list (a b : List UInt8) : begB ⟨a.toArray⟩ ⟨b.toArray⟩ = begL a b := by
  unfold begB begL
  rw [Lib.toList_data, Lib.toList_data, size_mk, size_mk]
  have e : ∀ (l : List UInt8) (m : Nat), ((⟨l.toArray⟩ : ByteArray).extract 0 m).data.toList = l.take m := fun l m => by simp
  rw [e, e]
  congr 1
  · rcases Nat.le_total a.length b.length with h | h
    · rw [Nat.min_eq_left h, List.take_of_length_le (Nat.le_refl _), List.take_of_length_le h]
    · rw [Nat.min_eq_right h]
  · rcases Nat.le_total a.length b.length with h | h
    · rw [Nat.min_eq_left h]
    · rw [Nat.min_eq_right h, List.take_of_length_le (Nat.le_refl _), List.take_of_length_le h]
set_option maxHeartbeats 1000000 in
set_option maxRecDepth 100000 in
theorem begins_raw (a b : ByteArray) (w : World) : Calls Tryd.prog 26 #[.string a, .string b] w fun e w' => e = .returned (.bool (begB a b)) ∧ Below w.heap.size w w' := by
  have e : min a.size b.size = (min (a.size : Int) b.size).toNat := by omega
  unfold begB
  rw [e]
  clear e
  go_enter Tryd.func26, Tryd.ntmps26
  go_wp2_with fail
  go_quiet (fail)
  go_wp2
  go_ret
  exact ⟨rfl, by repeat (first | exact Below.refl _ _ | apply pw_below_drewN | apply below_drew1)⟩
theorem begins_any (a b : List UInt8) (w : World) : Calls Tryd.prog 26 #[.string ⟨a.toArray⟩, .string ⟨b.toArray⟩] w fun e w' => e = .returned (.bool (begL a b)) ∧ Below w.heap.size w w' := by
  rw [← begB_list]; exact begins_raw _ _ w
/-- What stands behind b's beginning t, and what is told. -/
def behL (s t : List UInt8) : List UInt8 × Int := if t.length ≤ s.length ∧ s.take t.length = t then (s.drop t.length, 0) else if s.length ≤ t.length ∧ t.take s.length = s then ([], 3) else ([], 4)
theorem pref_f (s t : List UInt8) : strings_HasPrefix.f ⟨s.toArray⟩ ⟨t.toArray⟩ = some (decide (t.length ≤ s.length ∧ s.take t.length = t)) := by
  unfold strings_HasPrefix.f stringslite_HasPrefix.f
  rw [size_mk, size_mk]
  by_cases h : t.length ≤ s.length
  · rw [if_pos (by omega), if_pos (by omega), if_pos (by omega)]
    have e : ∀ (l : List UInt8) (m : Nat), ((⟨l.toArray⟩ : ByteArray).extract 0 m).data.toList = l.take m := fun l m => by simp
    simp only [Option.bind_some, Lib.toList_data, Int.toNat_natCast, e]
    congr 1
    by_cases h2 : s.take t.length = t
    · rw [decide_eq_true ⟨h, h2⟩]; simpa using h2
    · rw [decide_eq_false (fun h3 => h2 h3.2)]; simpa using h2
  · rw [if_neg (by omega), decide_eq_false (fun h3 => h h3.1)]; rfl
theorem behind_f (s t : List UInt8) : reply_behind.f ⟨s.toArray⟩ ⟨t.toArray⟩ = some (⟨(behL s t).1.toArray⟩, (behL s t).2) := by
  unfold reply_behind.f behL
  rw [pref_f, pref_f, size_mk, size_mk]
  simp only [Option.bind_some]
  by_cases h : t.length ≤ s.length ∧ s.take t.length = t
  · rw [if_pos (decide_eq_true h), if_pos h, if_pos (by omega), if_pos (by omega)]
    congr 2
    apply ByteArray.ext; simp
    rw [List.take_of_length_le (by simp)]
  · rw [if_neg (by simpa using h), if_neg h]
    by_cases h2 : s.length ≤ t.length ∧ t.take s.length = s
    · rw [if_pos (decide_eq_true h2), if_pos h2]
    · rw [if_neg (by simpa using h2), if_neg h2]
end Go.Proofs.YtnohcfgjhgfjkaaDoor.S
