/-
  The plain laws of rights: what the printed functions of the program and of the reference answer, in numbers and lists alone.
-/
import Derived.Test.YtcgpnnbmflacnaaDoorRefPrint
import Derived.Test.YtcgpnnbmflacnaaDoorDec
namespace Go.Proofs.YtcgpnnbmflacnaaDoor.S
set_option linter.unusedVariables false
set_option linter.unusedSimpArgs false
open Go.RowKit Go.Proofs.YtcgpnnbmflacnaaDoorW.PrintWords Go.Proofs.YtcgpnnbmflacnaaDoorW.PrintLast Go.Proofs.YtcgpnnbmflacnaaDoorW.PrintMore

/-- A set's word. -/
def W (r : Int) : List UInt8 := if r = 1 then [114, 101, 97, 100] else if r = 3 then [97, 100, 100] else if r = 7 then [102, 117, 108, 108] else if r = 15 then [114, 117, 108, 101] else Lib.itoa r
theorem wrap_u8 (x : Int) (h0 : 0 ≤ x) (h1 : x ≤ 255) : wrap64 x = x := by unfold wrap64; omega
theorem itoa_f (x : Int) (h0 : 0 ≤ x) (h1 : x ≤ 255) : xItoa.f (wrap64 x) = some ⟨(Lib.itoa x).toArray⟩ := by
  rw [wrap_u8 x h0 h1]; unfold xItoa.f; rw [if_pos (by omega)]
theorem word_f (x : Int) (h0 : 0 ≤ x) (h1 : x ≤ 255) : rights_Word.f x = some ⟨(W x).toArray⟩ := by
  unfold rights_Word.f W
  by_cases e1 : x = 1
  · rw [if_pos e1, if_pos e1]
  rw [if_neg e1, if_neg e1]
  by_cases e3 : x = 3
  · rw [if_pos e3, if_pos e3]
  rw [if_neg e3, if_neg e3]
  by_cases e7 : x = 7
  · rw [if_pos e7, if_pos e7]
  rw [if_neg e7, if_neg e7]
  by_cases e15 : x = 15
  · rw [if_pos e15, if_pos e15]
  rw [if_neg e15, if_neg e15, itoa_f x h0 h1]; rfl
theorem ref_word_f (k : Nat) (hk : 100 ≤ k) (x : Int) (h0 : 0 ≤ x) (h1 : x ≤ 255) : cofferref13_Word.f k x = some ⟨(W x).toArray⟩ := by
  unfold cofferref13_Word.f W
  by_cases e1 : x = 1
  · rw [if_pos e1, if_pos e1]
  rw [if_neg e1, if_neg e1]
  by_cases e3 : x = 3
  · rw [if_pos e3, if_pos e3]
  rw [if_neg e3, if_neg e3]
  by_cases e7 : x = 7
  · rw [if_pos e7, if_pos e7]
  rw [if_neg e7, if_neg e7]
  by_cases e15 : x = 15
  · rw [if_pos e15, if_pos e15]
  rw [if_neg e15, if_neg e15, wrap_u8 x h0 h1, ref_print k x (by omega) (by omega) hk]; rfl
/-- Which set a word is, from x on. -/
def pr (s : List UInt8) : Nat → Int → Int × Int
  | 0, _ => (0, 4)
  | d + 1, x => if s = W x then (x, 0) else if s = Lib.itoa x then (x, 0) else pr s d (x + 1)
theorem parse_l0 (s : ByteArray) : ∀ (d k : Nat) (x : Int), 0 ≤ x → x + d = 16 → d < k → rights_Parse.l0 k s x = some (pr s.data.toList d x)
  | 0, k, x, h0, h1, hk => by
    obtain ⟨k, rfl⟩ : ∃ j, k = j + 1 := ⟨k - 1, by omega⟩
    simp only [rights_Parse.l0, pr]; rw [if_neg (by omega)]
  | d + 1, k, x, h0, h1, hk => by
    obtain ⟨k, rfl⟩ : ∃ j, k = j + 1 := ⟨k - 1, by omega⟩
    simp only [rights_Parse.l0, pr]
    rw [if_pos (by omega), word_f x h0 (by omega), itoa_f x h0 (by omega)]
    simp only [Option.bind_some, Lib.toList_data]
    have e : (x + 1) % 256 = x + 1 := by omega
    rw [e, parse_l0 s d k (x + 1) (by omega) (by omega) (by omega)]
    by_cases b : s.data.toList = W x <;> by_cases a : s.data.toList = Lib.itoa x <;> simp [a, b]
theorem ref_parse_l0 (s : ByteArray) : ∀ (d k : Nat) (x : Int), 0 ≤ x → x + d = 16 → d + 100 < k → cofferref13_Parse.l0 k s x = some (pr s.data.toList d x)
  | 0, k, x, h0, h1, hk => by
    obtain ⟨k, rfl⟩ : ∃ j, k = j + 1 := ⟨k - 1, by omega⟩
    simp only [cofferref13_Parse.l0, pr]; rw [if_neg (by omega)]
  | d + 1, k, x, h0, h1, hk => by
    obtain ⟨k, rfl⟩ : ∃ j, k = j + 1 := ⟨k - 1, by omega⟩
    simp only [cofferref13_Parse.l0, pr]
    have em : x % 256 = x := by omega
    have e : wrap64 (x + 1) = x + 1 := by unfold wrap64; omega
    rw [if_pos (by omega), em, e, ref_word_f k (by omega) x h0 (by omega), ref_print k x (by omega) (by omega) (by omega)]
    simp only [Option.bind_some, Lib.toList_data]
    rw [ref_parse_l0 s d k (x + 1) (by omega) (by omega) (by omega)]
    by_cases a : s.data.toList = Lib.itoa x <;> by_cases b : s.data.toList = W x <;> simp [a, b]
theorem parse_f (k : Nat) (hk : 16 < k) (s : ByteArray) : rights_Parse.f k s = some (pr s.data.toList 16 0) := by
  unfold rights_Parse.f; exact parse_l0 s 16 k 0 (by omega) (by omega) hk
theorem ref_parse_f (k : Nat) (hk : 116 < k) (s : ByteArray) : cofferref13_Parse.f k s = some (pr s.data.toList 16 0) := by
  unfold cofferref13_Parse.f; exact ref_parse_l0 s 16 k 0 (by omega) (by omega) hk
/-- No other set has a set's word. -/
theorem W_ne (a x : Int) (h0 : 0 ≤ x) (h1 : x < a) (h2 : a ≤ 255) : W a ≠ W x ∧ W a ≠ Lib.itoa x := by
  have letter : ∀ (n : Int) (c : UInt8) (r : List UInt8), 58 ≤ c.toNat → Lib.itoa n ≠ c :: r := fun n c r hc h => itoa_no_letter n c hc (by rw [h]; simp)
  have letter' : ∀ (n : Int) (c : UInt8) (r : List UInt8), 58 ≤ c.toNat → c :: r ≠ Lib.itoa n := fun n c r hc h => letter n c r hc h.symm
  have inj : Lib.itoa a ≠ Lib.itoa x := fun h => by have := itoa_inj h; omega
  have p : ∀ n : Int, W n = [114, 101, 97, 100] ∧ n = 1 ∨ W n = [97, 100, 100] ∧ n = 3 ∨ W n = [102, 117, 108, 108] ∧ n = 7 ∨ W n = [114, 117, 108, 101] ∧ n = 15 ∨ W n = Lib.itoa n := by
    intro n; unfold W
    by_cases e1 : n = 1
    · simp [e1]
    by_cases e3 : n = 3
    · simp [e3]
    by_cases e7 : n = 7
    · simp [e7]
    by_cases e15 : n = 15
    · simp [e15]
    simp [e1, e3, e7, e15]
  rcases p a with ⟨ea, ha⟩ | ⟨ea, ha⟩ | ⟨ea, ha⟩ | ⟨ea, ha⟩ | ea <;> rcases p x with ⟨ex, hx⟩ | ⟨ex, hx⟩ | ⟨ex, hx⟩ | ⟨ex, hx⟩ | ex <;> rw [ea, ex] <;>
    first
    | omega
    | exact ⟨by decide, letter' _ _ _ (by decide)⟩
    | exact ⟨letter' _ _ _ (by decide), letter' _ _ _ (by decide)⟩
    | exact ⟨letter _ _ _ (by decide), inj⟩
    | exact ⟨inj, inj⟩
theorem pr_back (a : Int) (h2 : a ≤ 255) : ∀ (d : Nat) (x : Int), 0 ≤ x → x + d = 16 → x ≤ a → pr (W a) d x = if a < 16 then (a, 0) else (0, 4)
  | 0, x, h0, h1, hx => by simp only [pr]; rw [if_neg (by omega)]
  | d + 1, x, h0, h1, hx => by
    simp only [pr]
    by_cases e : a = x
    · subst e; rw [if_pos rfl, if_pos (by omega)]
    · have := W_ne a x h0 (by omega) h2
      rw [if_neg this.1, if_neg this.2, pr_back a h2 d (x + 1) (by omega) (by omega) (by omega)]
theorem begun_f (k : Nat) (hk : 16 < k) : cofferlaw13_begun.f k = some true := by
  unfold cofferlaw13_begun.f
  rw [parse_f k hk]
  have e : (⟨#[114, 117, 108, 101]⟩ : ByteArray).data.toList = W 15 := by rfl
  rw [e, pr_back 15 (by omega) 16 0 (by omega) (by omega) (by omega)]
  simp only [Option.bind_some]
  rw [if_pos (show (15 : Int) < 16 by omega)]
  simp only [if_true]
  rw [word_f 3 (by omega) (by omega)]
  simp only [Option.bind_some, Lib.toList_data]
  rw [if_pos (show W 3 = [97, 100, 100] by rfl)]
  have c1 : rights_Covers.f 7 3 = some true := by rfl
  have c2 : rights_Covers.f 3 7 = some false := by rfl
  rw [c1, c2]; rfl
theorem RightsReads_pure (a0 : ByteArray) : cofferlaw13_RightsReads.f 200 a0 = some true := by
  unfold cofferlaw13_RightsReads.f
  rw [begun_f 200 (by omega), parse_f 200 (by omega), ref_parse_f 200 (by omega)]
  simp only [Option.bind_some, if_true]
  split
  · rfl
  · simp
end Go.Proofs.YtcgpnnbmflacnaaDoor.S
