/-
  How a row's proof hands an api.Target, by value, to a walk.
-/
import Derived.Test.YtejmolhdmbkfaaaDoorSx0
import Derived.OpenShut
import Derived.WideShapes
import Derived.Deep.Strs
import Derived.Deep.SlicePairs
namespace Go.Proofs.YtejmolhdmbkfaaaDoor.S
open Go.RowKit Go.WideShapes Go.ChangeShapes Go.Proofs.YtejmolhdmbkfaaaDoorW.PrintWords
set_option linter.unusedVariables false
set_option linter.unusedSimpArgs false
theorem open_target {H : Type} {enc : TypeId × Value → H} {W : World} {base : Nat} {v : Value} {d : DataW H} {p : List MemPlace}
    (hv : Value.okWide Tryd.prog W .any base 26 v) (h : DataW.Trod enc Tryd.prog W 0 (fun _ => true) true 26 v d p) :
    ∃ (A0 : Option Addr) (c0 : Nat) (P : List ByteArray) (A1 : Option Addr) (c1 : Nat) (Q : List S32), v = .agg #[.slice A0 P.length c0, .slice A1 Q.length c1] ∧
      (Kd.C Kd.string W A0 P.length P ∧ P.length ≤ c0) ∧ (Kd.C k32 W A1 Q.length Q ∧ Q.length ≤ c1) := by
  obtain ⟨cs, rfl, hsz⟩ := okWide_struct Tryd.underlying26 hv
  have hct : Tryd.prog.cellsOf 26 = 2 := by kernel_rfl
  rw [hct] at hsz
  obtain ⟨fuel, hf⟩ := h
  obtain ⟨xs, m, _, _, _, hl, hel⟩ := DataW.trod_struct Tryd.underlying26 hf
  have h0 := hel 0 _ rfl
  have h1 := hel 1 _ rfl
  have hl2 : xs.length = 2 := hl
  have k23 : Tryd.prog.cellsOf 23 = 1 := by kernel_rfl
  have k24 : Tryd.prog.cellsOf 24 = 1 := by kernel_rfl
  have k9 : Tryd.prog.cellsOf 9 = 1 := by kernel_rfl
  have k32' : Tryd.prog.cellsOf 32 = 2 := by kernel_rfl
  obtain ⟨l⟩ := cs
  obtain ⟨c0, c1, rfl⟩ : ∃ c0 c1, l = [c0, c1] := by
    rcases l with _ | ⟨c0, _ | ⟨c1, _ | ⟨c2, l⟩⟩⟩ <;> simp at hsz <;> exact ⟨_, _, rfl⟩
  have e0 : DataW.trod enc Tryd.prog W 0 (fun _ => true) true m 23 [c0] = xs[0]? := by simpa [k23, Value.cells] using h0
  have e1 : DataW.trod enc Tryd.prog W 0 (fun _ => true) true m 24 [c1] = xs[1]? := by simpa [k24, Value.cells] using h1
  rw [List.getElem?_eq_getElem (by omega)] at e0 e1
  have A : ∃ (A0 : Option Addr) (n0 : Nat) (P : List ByteArray), c0 = .slice A0 P.length n0 ∧ Kd.C Kd.string W A0 P.length P ∧ P.length ≤ n0 := by
    rcases Go.Deep.open_strs Tryd.underlying23 Tryd.underlying9 k9 e0 with ⟨hcs, _⟩ | ⟨a, len, cap, m', Sx, hcs, _, hlc, hcm, hm, _, hc⟩
    · obtain rfl : c0 = .slice none 0 0 := by simpa using hcs
      exact ⟨none, 0, [], rfl, ⟨rfl, by decide, fun h => absurd h (by decide)⟩, Nat.zero_le _⟩
    · obtain rfl : c0 = .slice (some a) len cap := by simpa using hcs
      have hm' : m' = cap := by simpa using hm
      refine ⟨some a, cap, (List.range len).map Sx, by simp, ?_, by simpa using hlc⟩
      have hlen : ((List.range len).map Sx).length = len := by simp
      rw [hlen]
      refine ⟨hlen, Nat.le_trans (Nat.le_trans hlc hcm) (by decide), fun _ => ⟨a, rfl, fun j q hj => ⟨[.string q], rfl, rfl, fun i u hu => ?_⟩⟩⟩
      have hjl : j < len := by have := List.getElem?_eq_some_iff.1 hj; obtain ⟨h, _⟩ := this; simpa using h
      obtain rfl : q = Sx j := by simpa [hjl] using hj.symm
      rcases i with _ | i
      · obtain rfl : u = .string (Sx j) := by simpa using hu.symm
        simpa [Kd.string, Kd.scalar] using (hc j (by omega)).1
      · simp at hu
  have B : ∃ (A1 : Option Addr) (n1 : Nat) (Q : List S32), c1 = .slice A1 Q.length n1 ∧ Kd.C k32 W A1 Q.length Q ∧ Q.length ≤ n1 := by
    rcases Go.Deep.open_slice_pairs Tryd.underlying24 Tryd.underlying32 k32' rfl rfl k9 k9 e1 with ⟨hcs, _⟩ | ⟨a, len, cap, m', n', V0, V1, D0, D1, P0, P1, hcs, _, hlc, hcm, hm, _, hc⟩
    · obtain rfl : c1 = .slice none 0 0 := by simpa using hcs
      exact ⟨none, 0, [], rfl, ⟨rfl, by decide, fun h => absurd h (by decide)⟩, Nat.zero_le _⟩
    · obtain rfl : c1 = .slice (some a) len cap := by simpa using hcs
      have hm' : m' = cap := by simpa using hm
      have each : ∀ i, i < m' → ∃ q : S32, W.cell? (a.add (i * 2)) = some (.string q.f0) ∧ W.cell? (a.add (i * 2 + 1)) = some (.string q.f1) := fun i hi => by
        obtain ⟨x0, x1, y0, y1⟩ := hc i hi
        obtain ⟨s0, r0, _⟩ := DataW.trod_string Tryd.underlying9 y0
        obtain ⟨s1, r1, _⟩ := DataW.trod_string Tryd.underlying9 y1
        obtain z0 : V0 i = .string s0 := by simpa using r0
        obtain z1 : V1 i = .string s1 := by simpa using r1
        exact ⟨⟨s0, s1⟩, by rw [x0, z0], by rw [x1, z1]⟩
      obtain ⟨F, hF⟩ : ∃ F : Nat → S32, ∀ i, i < m' → W.cell? (a.add (i * 2)) = some (.string (F i).f0) ∧ W.cell? (a.add (i * 2 + 1)) = some (.string (F i).f1) := by
        refine ⟨fun i => if hi : i < m' then (each i hi).choose else z32, fun i hi => ?_⟩
        simp only [dif_pos hi]
        exact (each i hi).choose_spec
      refine ⟨some a, cap, (List.range len).map F, by simp, ?_, by simpa using hlc⟩
      have hlen : ((List.range len).map F).length = len := by simp
      rw [hlen]
      refine ⟨hlen, Nat.le_trans (Nat.le_trans hlc hcm) (by decide), fun _ => ⟨a, rfl, fun j q hj => ⟨[.string q.f0, .string q.f1], rfl, k32_mk _ _, fun i u hu => ?_⟩⟩⟩
      have hjl : j < len := by have := List.getElem?_eq_some_iff.1 hj; obtain ⟨h, _⟩ := this; simpa using h
      obtain rfl : q = F j := by simpa [hjl] using hj.symm
      have hs : k32.sz = 2 := rfl
      rw [hs]
      rcases i with _ | _ | i
      · obtain rfl : u = .string (F j).f0 := by simpa using hu.symm
        exact (hF j (by omega)).1
      · obtain rfl : u = .string (F j).f1 := by simpa using hu.symm
        exact (hF j (by omega)).2
      · simp at hu
  obtain ⟨A0, n0, P, rfl, a1, a2⟩ := A
  obtain ⟨A1, n1, Q, rfl, b1, b2⟩ := B
  exact ⟨A0, n0, P, A1, n1, Q, rfl, ⟨a1, a2⟩, ⟨b1, b2⟩⟩
end Go.Proofs.YtejmolhdmbkfaaaDoor.S
