/-
  Bytes in digits of base sixteen, as lists.
-/
import Derived.Test.YtnfimhdcpmakpaaDoorReads
import Derived.Laws.BitsLemmas
import Derived.WalkSpells
namespace Go.Proofs.YtnfimhdcpmakpaaDoor.S
open Go.RowKit Go.Proofs.YtnfimhdcpmakpaaDoorW.PrintWords
set_option linter.unusedVariables false
set_option linter.unusedSimpArgs false
/-- A digit of base sixteen. -/
def hx (n : Int) : Int := if n < 10 then 48 + n else 87 + n
def hexl (l : List Int) : List Int := l.flatMap fun c => [hx (c / 16), hx (c % 16)]
theorem hexl_snoc (l : List Int) (c : Int) : hexl (l ++ [c]) = hexl l ++ [hx (c / 16), hx (c % 16)] := by simp [hexl]
theorem hexl_length (l : List Int) : (hexl l).length = 2 * l.length := by
  induction l with
  | nil => rfl
  | cons c l ih => simp [hexl] at ih ⊢; omega
theorem take_getD (l : List Int) (k : Nat) (h : k < l.length) : l.take (k + 1) = l.take k ++ [l.getD k 0] := by
  rw [List.take_succ_eq_append_getElem h, List.getD_eq_getElem?_getD, List.getElem?_eq_getElem h]; rfl
theorem getD_mem (l : List Int) (k : Nat) (h : k < l.length) : l.getD k 0 ∈ l := by
  rw [List.getD_eq_getElem?_getD, List.getElem?_eq_getElem h]; exact List.getElem_mem h
end Go.Proofs.YtnfimhdcpmakpaaDoor.S
