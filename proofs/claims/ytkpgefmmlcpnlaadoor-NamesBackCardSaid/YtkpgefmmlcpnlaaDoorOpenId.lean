/-
  How a row's proof hands an array of bytes, by value, to a walk.
-/
import Derived.Test.YtkpgefmmlcpnlaaDoorThen
import Derived.OpenShut
import Derived.WideShapes
namespace Go.Proofs.YtkpgefmmlcpnlaaDoor.S
open Go.RowKit Go.Proofs.YtkpgefmmlcpnlaaDoorW.PrintWords
set_option linter.unusedVariables false
set_option linter.unusedSimpArgs false
def numOf : Value → Int
  | .int _ z => z
  | _ => 0
/-- An array of n bytes, by value: its bytes. -/
theorem open_arr {P : Program} {H : Type} {enc : TypeId × Value → H} {W : World} {base base2 n : Nat} {t e : TypeId} {sp : Nat → Bool} {v : Value} {d : DataW H} {p : List MemPlace}
    (ht : P.underlying t = some (.array n e)) (he : P.underlying e = some (.int .u8)) (hce : P.cellsOf e = 1) (hct : P.cellsOf t = n)
    (hv : Value.okWide P W .any base t v) (h : DataW.Trod enc P W base2 sp true t v d p) :
    ∃ xs : List Int, v = .agg (nums .u8 xs).toArray ∧ xs.length = n ∧ ∀ c ∈ xs, 0 ≤ c ∧ c ≤ 255 := by
  obtain ⟨cs, rfl, hsz, _⟩ : ∃ cs, v = .agg cs ∧ cs.size = P.cellsOf t ∧ Row.okWide P W .any base t cs := by
    simpa [Value.okWide, ht] using hv
  rw [hct] at hsz
  obtain ⟨fuel, hf⟩ := h
  obtain ⟨ys, m, _, _, _, hl, hel⟩ := DataW.trod_array ht hf
  have hcell : ∀ i (hi : i < cs.toList.length), ∃ z : Int, cs.toList[i] = .int .u8 z ∧ 0 ≤ z ∧ z ≤ 255 := fun i hi => by
    have hE := hel i (by simpa [hsz] using hi)
    rw [hce, Nat.mul_one, List.getElem?_eq_getElem (by rw [hl]; simpa [hsz] using hi)] at hE
    obtain ⟨z, e1, e2, hwf⟩ := DataW.trod_int he hE
    refine ⟨z, ?_, ?_⟩
    · have : ((cs.toList.drop i).take 1)[0]? = some (.int .u8 z) := by
        have e1' : ((cs.toList.drop i).take 1) = [.int .u8 z] := e1
        rw [e1']; rfl
      have h2 : cs.toList[i]? = some (.int .u8 z) := by simpa using this
      rw [List.getElem?_eq_getElem hi] at h2
      exact Option.some.inj h2
    · simpa [Lit.wf, IntKind.min, IntKind.max, IntKind.signed, IntKind.bits] using hwf
  refine ⟨cs.toList.map numOf, ?_, by simpa using hsz, ?_⟩
  · congr 1
    apply Array.ext'
    simp only [nums, List.toList_toArray, List.map_map]
    apply List.ext_getElem (by simp)
    intro i h1 h2
    obtain ⟨z, hz, _⟩ := hcell i h1
    simp only [List.getElem_map, Function.comp, hz, numOf]
  · intro c hc
    obtain ⟨u, hu, rfl⟩ := List.mem_map.1 hc
    obtain ⟨i, hi, rfl⟩ := List.getElem_of_mem hu
    obtain ⟨z, hz, hb⟩ := hcell i hi
    rw [hz]; exact hb
end Go.Proofs.YtkpgefmmlcpnlaaDoor.S
