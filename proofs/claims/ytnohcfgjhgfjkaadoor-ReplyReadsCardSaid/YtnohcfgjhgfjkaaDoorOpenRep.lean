/-
  How a row's proof hands an api.Reply, by value, to a walk.
-/
import Derived.Test.YtnohcfgjhgfjkaaDoorOpen
import Derived.Test.YtnohcfgjhgfjkaaDoorProg
import Derived.OpenShut
import Derived.WideShapes
namespace Go.Proofs.YtnohcfgjhgfjkaaDoor.S
open Go.RowKit Go.WideShapes Go.ChangeShapes Go.Proofs.YtnohcfgjhgfjkaaDoorW.PrintWords
set_option linter.unusedVariables false
set_option linter.unusedSimpArgs false
theorem open_reply {H : Type} {enc : TypeId × Value → H} {W : World} {base : Nat} {v : Value} {d : DataW H} {p : List MemPlace}
    (hv : Value.okWide Tryd.prog W .any base 24 v) (h : DataW.Trod enc Tryd.prog W 0 (fun _ => true) true 24 v d p) :
    ∃ (st : Int) (a : Option Addr) (len cap : Nat) (l : List Int) (c : Bool), v = .agg #[.int .i64 st, .slice a len cap, .bool c] ∧ (Lit.int .i64 st).wf = true ∧ Bytes W a len cap l := by
  obtain ⟨cs, rfl, hsz⟩ := okWide_struct Tryd.underlying24 hv
  have hct : Tryd.prog.cellsOf 24 = 3 := by kernel_rfl
  rw [hct] at hsz
  obtain ⟨fuel, hf⟩ := h
  obtain ⟨xs, m, _, _, _, hl, hel⟩ := DataW.trod_struct Tryd.underlying24 hf
  have h0 := hel 0 _ rfl
  have h1 := hel 1 _ rfl
  have h2 := hel 2 _ rfl
  have hl3 : xs.length = 3 := hl
  have k3 : Tryd.prog.cellsOf 3 = 1 := by kernel_rfl
  have k22 : Tryd.prog.cellsOf 22 = 1 := by kernel_rfl
  have k4 : Tryd.prog.cellsOf 4 = 1 := by kernel_rfl
  obtain ⟨l⟩ := cs
  obtain ⟨c0, c1, c2, rfl⟩ : ∃ c0 c1 c2, l = [c0, c1, c2] := by
    rcases l with _ | ⟨c0, _ | ⟨c1, _ | ⟨c2, _ | ⟨c3, l⟩⟩⟩⟩ <;> simp at hsz <;> exact ⟨_, _, _, rfl⟩
  have e0 : DataW.trod enc Tryd.prog W 0 (fun _ => true) true m 3 [c0] = xs[0]? := by simpa [k3, Value.cells] using h0
  have e1 : DataW.trod enc Tryd.prog W 0 (fun _ => true) true m 22 [c1] = xs[1]? := by simpa [k22, Value.cells] using h1
  have e2 : DataW.trod enc Tryd.prog W 0 (fun _ => true) true m 4 [c2] = xs[2]? := by simpa [k4, Value.cells] using h2
  rw [List.getElem?_eq_getElem (by omega)] at e0 e1 e2
  obtain ⟨st, hs, _, hwf⟩ := DataW.trod_int Tryd.underlying3 e0
  obtain ⟨b, hb, _⟩ := DataW.trod_bool Tryd.underlying4 e2
  obtain rfl : c0 = .int .i64 st := by simpa using hs
  obtain rfl : c2 = .bool b := by simpa using hb
  rcases open_ints Tryd.underlying22 Tryd.underlying5 (by kernel_rfl) e1 with ⟨hcs, _⟩ | ⟨x, len, cap, zs, hcs, _, hl, hm, hz, _, hcell, hwz⟩
  · obtain rfl : c1 = .slice none 0 0 := by simpa using hcs
    exact ⟨st, none, 0, 0, _, b, rfl, hwf, row_reads (zs := []) (.inl ⟨rfl, rfl, rfl, rfl⟩)⟩
  · obtain rfl : c1 = .slice (some x) len cap := by simpa using hcs
    exact ⟨st, some x, len, cap, _, b, rfl, hwf, row_reads (.inr ⟨x, rfl, hl, hm, by simpa using hz, hcell, hwz⟩)⟩
end Go.Proofs.YtnohcfgjhgfjkaaDoor.S
