/-
  How a row's proof hands a byte slice to a walk.
-/
import Derived.Test.YtnfimhdcpmakpaaDoorProg
import Derived.Test.YtnfimhdcpmakpaaDoorSx0
import Derived.OpenShut
import Derived.WideShapes
import Derived.ChangeSlices
namespace Go.Proofs.YtnfimhdcpmakpaaDoor.S
open Go.RowKit Go.WideShapes Go.ChangeShapes Go.Proofs.YtnfimhdcpmakpaaDoorW.PrintWords
set_option linter.unusedVariables false
set_option linter.unusedSimpArgs false
set_option maxRecDepth 100000 in
theorem open_byteslice {H : Type} {enc : TypeId × Value → H} {W : World} {base : Nat} {v : Value} {d : DataW H} {p : List MemPlace}
    (hv : Value.okWide Tryd.prog W .any base 23 v) (h : DataW.Trod enc Tryd.prog W 0 (fun _ => true) true 23 v d p) :
    ∃ (A : Option Addr) (c : Nat) (b : List UInt8), v = .slice A b.length c ∧ Kd.C (Kd.int .u8) W A b.length (b.map fun x => (x.toNat : Int)) ∧ b.length ≤ c := by
  obtain ⟨A0, len0, cap0, rfl⟩ := okWide_slice Tryd.underlying23 hv
  obtain ⟨fuel, hf⟩ := h
  rcases open_ints Tryd.underlying23 Tryd.underlying5 (by kernel_rfl) hf with ⟨hcs, _⟩ | ⟨a, len, cap, zs, hcs, _, hlc, hcm, hz, _, hcell, hwz⟩
  · simp [Value.cells] at hcs
    obtain ⟨rfl, rfl, rfl⟩ := hcs
    exact ⟨none, 0, [], rfl, ⟨rfl, by decide, fun h => absurd h (by decide)⟩, Nat.zero_le _⟩
  · simp [Value.cells] at hcs
    obtain ⟨rfl, rfl, rfl⟩ := hcs
    have hzl : zs.length = cap0 := by simpa using hz
    have hback : ∀ z ∈ zs, ((UInt8.ofNat z.toNat).toNat : Int) = z := fun z hz => by
      have := hwz z hz
      simp only [Lit.wf, Bool.and_eq_true, decide_eq_true_eq] at this
      have h0 : IntKind.u8.min = 0 := by decide
      have h1 : IntKind.u8.max = 255 := by decide
      rw [h0, h1] at this
      rw [UInt8.toNat_ofNat']
      omega
    have hlen : ((zs.take len0).map fun z => UInt8.ofNat z.toNat).length = len0 := by
      rw [List.length_map, List.length_take]; omega
    refine ⟨some a, cap0, (zs.take len0).map fun z => UInt8.ofNat z.toNat, by rw [hlen], ?_, by rw [hlen]; exact hlc⟩
    have hmap : ((zs.take len0).map fun z => UInt8.ofNat z.toNat).map (fun x => (x.toNat : Int)) = zs.take len0 := by
      rw [List.map_map]
      refine (List.map_congr_left (g := id) fun z hz => ?_).trans (List.map_id _)
      exact hback z (List.mem_of_mem_take hz)
    rw [hmap, hlen]
    refine ⟨by rw [List.length_take]; omega, Nat.le_trans (Nat.le_trans hlc hcm) (by decide), fun _ => ⟨a, rfl, fun j q hj => ⟨[.int .u8 q], rfl, rfl, fun i u hu => ?_⟩⟩⟩
    have hjl : j < len0 := by
      have := List.getElem?_eq_some_iff.1 hj
      obtain ⟨h, _⟩ := this
      rw [List.length_take] at h
      omega
    have hq : zs.getD j 0 = q := by
      rw [List.getElem?_take, if_pos hjl] at hj
      rw [List.getD_eq_getElem?_getD, hj]
      rfl
    rcases i with _ | i
    · obtain rfl : u = .int .u8 q := by simpa using hu.symm
      have := hcell j (by omega)
      rw [hq] at this
      simpa [Kd.int, Kd.scalar] using this
    · simp at hu
end Go.Proofs.YtnfimhdcpmakpaaDoor.S
