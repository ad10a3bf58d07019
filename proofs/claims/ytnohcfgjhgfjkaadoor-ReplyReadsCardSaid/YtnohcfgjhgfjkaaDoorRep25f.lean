/-
  The number that a text begins with, as reply reads it.
-/
import Derived.Test.YtnohcfgjhgfjkaaDoorRep25c
import Derived.Test.YtnohcfgjhgfjkaaDoorNum
namespace Go.Proofs.YtnohcfgjhgfjkaaDoor.S
open Go.RowKit Go.Proofs.YtnohcfgjhgfjkaaDoorW.PrintWords
set_option linter.unusedVariables false
set_option linter.unusedSimpArgs false
theorem byteAt_list (l : List UInt8) (j : Nat) (h : j < l.length) : byteAt ⟨l.toArray⟩ j = ((l.getD j 0).toNat : Int) := by
  unfold byteAt bt
  rw [dif_pos (show ((j : Int)).toNat < (⟨l.toArray⟩ : ByteArray).size by simpa [ByteArray.size] using h)]
  rw [List.getD_eq_getElem?_getD, List.getElem?_eq_getElem h]
  rfl
theorem extract_take (l : List UInt8) (m : Nat) : (⟨l.toArray⟩ : ByteArray).extract 0 m = ⟨(l.take m).toArray⟩ := by apply ByteArray.ext; simp
theorem extract_drop (l : List UInt8) (m : Nat) : (⟨l.toArray⟩ : ByteArray).extract m l.length = ⟨(l.drop m).toArray⟩ := by
  apply ByteArray.ext; simp
  rw [List.take_of_length_le (by simp)]
/-- So many digits stand at the beginning. -/
def digL : List UInt8 → Nat
  | [] => 0
  | c :: r => if 48 ≤ (c.toNat : Int) ∧ (c.toNat : Int) ≤ 57 then digL r + 1 else 0
theorem digL_le : ∀ l : List UInt8, digL l ≤ l.length
  | [] => Nat.le_refl _
  | c :: r => by
    have := digL_le r
    unfold digL; split <;> simp; omega
/-- What a text of digits says. -/
def numOfL (l : List UInt8) : Int × Int := numS (byteAt ⟨l.toArray⟩) l.length
def numL (s : List UInt8) : Int × List UInt8 × Int :=
  if s = [] then (0, [], 3) else if (numOfL (s.take (digL s))).2 = 0 then ((numOfL (s.take (digL s))).1, s.drop (digL s), 0) else (0, [], 4)
theorem number_end (s : List UInt8) (hs : s.length ≤ 1048576) (k i : Nat) (hk : 2 * s.length + 5 ≤ k) (hi : digL s = i) : reply_number.j1 k ⟨s.toArray⟩ (i : Int) = some ((numL s).1, ⟨(numL s).2.1.toArray⟩, (numL s).2.2) := by
  obtain ⟨k, rfl⟩ : ∃ j, k = j + 1 := ⟨k - 1, by omega⟩
  have hle := digL_le s
  subst hi
  rw [reply_number.j1, size_mk]
  unfold numL
  by_cases h : s = []
  · subst h; rfl
  · have hl : s.length ≠ 0 := fun e => h (List.eq_nil_of_length_eq_zero e)
    rw [if_neg (by omega), if_pos (by omega), if_pos (by omega), if_neg h, Int.toNat_natCast, extract_take, extract_drop]
    have hz : (⟨(s.take (digL s)).toArray⟩ : ByteArray).size = (s.take (digL s)).length := size_mk _
    have hlt : (s.take (digL s)).length ≤ s.length := by rw [List.length_take]; omega
    rw [number_f _ (by omega) k (by omega), hz]
    simp only [Option.bind_some]
    unfold numOfL
    by_cases e : (numS (byteAt ⟨(s.take (digL s)).toArray⟩) (s.take (digL s)).length).2 = 0
    · rw [if_pos e, if_pos e]
    · rw [if_neg e, if_neg e]
theorem number_l0 (s : List UInt8) (hs : s.length ≤ 1048576) : ∀ (d k i : Nat), i + d = s.length → d + 2 * s.length + 6 ≤ k → digL s = i + digL (s.drop i) →
    reply_number.l0 k ⟨s.toArray⟩ (i : Int) = some ((numL s).1, ⟨(numL s).2.1.toArray⟩, (numL s).2.2)
  | 0, k, i, hd, hk, hg => by
    obtain ⟨k, rfl⟩ : ∃ j, k = j + 1 := ⟨k - 1, by omega⟩
    rw [reply_number.l0, size_mk, if_neg (by omega)]
    rw [List.drop_of_length_le (by omega)] at hg
    exact number_end s hs k i (by omega) (by simpa [digL] using hg)
  | d + 1, k, i, hd, hk, hg => by
    obtain ⟨k, rfl⟩ : ∃ j, k = j + 1 := ⟨k - 1, by omega⟩
    have hil : i < s.length := by omega
    have e : wrap64 ((i : Int) + 1) = ((i + 1 : Nat) : Int) := by unfold wrap64; omega
    have hb : bt ⟨s.toArray⟩ (i : Int) = (s[i].toNat : Int) := by
      have := byteAt_list s i hil
      rw [List.getD_eq_getElem?_getD, List.getElem?_eq_getElem hil] at this
      exact this
    rw [List.drop_eq_getElem_cons hil, digL] at hg
    rw [reply_number.l0, size_mk, if_pos (by omega), if_pos (by omega), hb]
    by_cases a : 48 ≤ (s[i].toNat : Int)
    · by_cases b : (s[i].toNat : Int) ≤ 57
      · rw [if_pos ⟨a, b⟩] at hg
        rw [if_pos a, if_pos b, e]
        exact number_l0 s hs d k (i + 1) (by omega) (by omega) (by omega)
      · rw [if_neg (fun h => b h.2)] at hg
        rw [if_pos a, if_neg b]
        exact number_end s hs k i (by omega) (by omega)
    · rw [if_neg (fun h => a h.1)] at hg
      rw [if_neg a]
      exact number_end s hs k i (by omega) (by omega)
theorem reply_number_f (s : List UInt8) (hs : s.length ≤ 1048576) (k : Nat) (hk : 3 * s.length + 6 ≤ k) : reply_number.f k ⟨s.toArray⟩ = some ((numL s).1, ⟨(numL s).2.1.toArray⟩, (numL s).2.2) :=
  number_l0 s hs s.length k 0 (by omega) (by omega) (by simp)
end Go.Proofs.YtnohcfgjhgfjkaaDoor.S
