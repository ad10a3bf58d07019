/-
  How a row's proof hands texts and fields to a walk.
-/
import Derived.Test.YtnfimhdcpmakpaaDoorSx0
import Derived.OpenShut
import Derived.WideShapes
import Derived.Deep.Strs
import Derived.Deep.SlicePairs
namespace Go.Proofs.YtnfimhdcpmakpaaDoor.S
open Go.RowKit Go.WideShapes Go.ChangeShapes Go.Proofs.YtnfimhdcpmakpaaDoorW.PrintWords
set_option linter.unusedVariables false
set_option linter.unusedSimpArgs false
theorem open_texts_ {H : Type} {enc : TypeId × Value → H} {W : World} {m : Nat} {x : DataW H × List MemPlace} {c0 : Value}
    (e0 : DataW.trod enc Tryd.prog W 0 (fun _ => true) true m 39 [c0] = some x) :
    ∃ (A0 : Option Addr) (n0 : Nat) (P : List ByteArray), c0 = .slice A0 P.length n0 ∧ Kd.C Kd.string W A0 P.length P ∧ P.length ≤ n0 := by
  have k9 : Tryd.prog.cellsOf 9 = 1 := by kernel_rfl
  rcases Go.Deep.open_strs Tryd.underlying39 Tryd.underlying9 k9 e0 with ⟨hcs, _⟩ | ⟨a, len, cap, m', Sx, hcs, _, hlc, hcm, hm, _, hc⟩
  · obtain rfl : c0 = .slice none 0 0 := by simpa using hcs
    exact ⟨none, 0, [], rfl, ⟨rfl, by decide, fun h => absurd h (by decide)⟩, Nat.zero_le _⟩
  · obtain rfl : c0 = .slice (some a) len cap := by simpa using hcs
    have hm' : m' = cap := by simpa using hm
    refine ⟨some a, cap, (List.range len).map Sx, by simp, ?_, by simpa using hlc⟩
    have hlen : ((List.range len).map Sx).length = len := by simp
    rw [hlen]
    refine ⟨hlen, Nat.le_trans (Nat.le_trans hlc hcm) (by decide), fun _ => ⟨a, rfl, fun j q hj => ⟨[.string q], rfl, rfl, fun i u hu => ?_⟩⟩⟩
    have hjl : j < len := by have := List.getElem?_eq_some_iff.1 hj; obtain ⟨h, _⟩ := this; simpa using h
    obtain rfl : q = Sx j := by simpa [hjl] using hj.symm
    rcases i with _ | i
    · obtain rfl : u = .string (Sx j) := by simpa using hu.symm
      simpa [Kd.string, Kd.scalar] using (hc j (by omega)).1
    · simp at hu
theorem open_fields_ {H : Type} {enc : TypeId × Value → H} {W : World} {m : Nat} {x : DataW H × List MemPlace} {c1 : Value}
    (e1 : DataW.trod enc Tryd.prog W 0 (fun _ => true) true m 22 [c1] = some x) :
    ∃ (A1 : Option Addr) (n1 : Nat) (Q : List S41), c1 = .slice A1 Q.length n1 ∧ Kd.C k41 W A1 Q.length Q ∧ Q.length ≤ n1 := by
  have k9 : Tryd.prog.cellsOf 9 = 1 := by kernel_rfl
  have k41' : Tryd.prog.cellsOf 41 = 2 := by kernel_rfl
  rcases Go.Deep.open_slice_pairs Tryd.underlying22 Tryd.underlying41 k41' rfl rfl k9 k9 e1 with ⟨hcs, _⟩ | ⟨a, len, cap, m', n', V0, V1, D0, D1, P0, P1, hcs, _, hlc, hcm, hm, _, hc⟩
  · obtain rfl : c1 = .slice none 0 0 := by simpa using hcs
    exact ⟨none, 0, [], rfl, ⟨rfl, by decide, fun h => absurd h (by decide)⟩, Nat.zero_le _⟩
  · obtain rfl : c1 = .slice (some a) len cap := by simpa using hcs
    have hm' : m' = cap := by simpa using hm
    have each : ∀ i, i < m' → ∃ q : S41, W.cell? (a.add (i * 2)) = some (.string q.f0) ∧ W.cell? (a.add (i * 2 + 1)) = some (.string q.f1) := fun i hi => by
      obtain ⟨x0, x1, y0, y1⟩ := hc i hi
      obtain ⟨s0, r0, _⟩ := DataW.trod_string Tryd.underlying9 y0
      obtain ⟨s1, r1, _⟩ := DataW.trod_string Tryd.underlying9 y1
      obtain z0 : V0 i = .string s0 := by simpa using r0
      obtain z1 : V1 i = .string s1 := by simpa using r1
      exact ⟨⟨s0, s1⟩, by rw [x0, z0], by rw [x1, z1]⟩
    obtain ⟨F, hF⟩ : ∃ F : Nat → S41, ∀ i, i < m' → W.cell? (a.add (i * 2)) = some (.string (F i).f0) ∧ W.cell? (a.add (i * 2 + 1)) = some (.string (F i).f1) := by
      refine ⟨fun i => if hi : i < m' then (each i hi).choose else ⟨ByteArray.empty, ByteArray.empty⟩, fun i hi => ?_⟩
      simp only [dif_pos hi]
      exact (each i hi).choose_spec
    refine ⟨some a, cap, (List.range len).map F, by simp, ?_, by simpa using hlc⟩
    have hlen : ((List.range len).map F).length = len := by simp
    rw [hlen]
    refine ⟨hlen, Nat.le_trans (Nat.le_trans hlc hcm) (by decide), fun _ => ⟨a, rfl, fun j q hj => ⟨[.string q.f0, .string q.f1], rfl, k41_mk _ _, fun i u hu => ?_⟩⟩⟩
    have hjl : j < len := by have := List.getElem?_eq_some_iff.1 hj; obtain ⟨h, _⟩ := this; simpa using h
    obtain rfl : q = F j := by simpa [hjl] using hj.symm
    have hs : k41.sz = 2 := rfl
    rw [hs]
    rcases i with _ | _ | i
    · obtain rfl : u = .string (F j).f0 := by simpa using hu.symm
      exact (hF j (by omega)).1
    · obtain rfl : u = .string (F j).f1 := by simpa using hu.symm
      exact (hF j (by omega)).2
    · simp at hu
set_option maxRecDepth 100000 in
theorem open_texts {H : Type} {enc : TypeId × Value → H} {W : World} {base : Nat} {v : Value} {d : DataW H} {p : List MemPlace}
    (hv : Value.okWide Tryd.prog W .any base 39 v) (h : DataW.Trod enc Tryd.prog W 0 (fun _ => true) true 39 v d p) :
    ∃ (A : Option Addr) (c : Nat) (b : List ByteArray), v = .slice A b.length c ∧ Kd.C Kd.string W A b.length b ∧ b.length ≤ c := by
  obtain ⟨A0, len0, cap0, rfl⟩ := okWide_slice Tryd.underlying39 hv
  obtain ⟨fuel, hf⟩ := h
  exact open_texts_ hf
set_option maxRecDepth 100000 in
theorem open_fields {H : Type} {enc : TypeId × Value → H} {W : World} {base : Nat} {v : Value} {d : DataW H} {p : List MemPlace}
    (hv : Value.okWide Tryd.prog W .any base 22 v) (h : DataW.Trod enc Tryd.prog W 0 (fun _ => true) true 22 v d p) :
    ∃ (A : Option Addr) (c : Nat) (b : List S41), v = .slice A b.length c ∧ Kd.C k41 W A b.length b ∧ b.length ≤ c := by
  obtain ⟨A0, len0, cap0, rfl⟩ := okWide_slice Tryd.underlying22 hv
  obtain ⟨fuel, hf⟩ := h
  exact open_fields_ hf
end Go.Proofs.YtnfimhdcpmakpaaDoor.S
