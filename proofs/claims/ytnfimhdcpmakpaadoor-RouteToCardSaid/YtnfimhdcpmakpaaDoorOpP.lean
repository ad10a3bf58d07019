/-
 How a row's proof hands texts and fields to a walk.
-/
import Derived.Test.YtnfimhdcpmakpaaDoorSx0P
import Derived.OpenShut
import Derived.WideShapes
import Derived.Deep.Strs
import Derived.Deep.SlicePairs
import Derived.ChangeSlices
namespace Go.Proofs.YtnfimhdcpmakpaaDoor.S
open Go.RowKit Go.WideShapes Go.ChangeShapes Go.Proofs.YtnfimhdcpmakpaaDoorW.PrintWords
set_option linter.unusedVariables false
set_option linter.unusedSimpArgs false
theorem open_fields_ {H : Type} {enc : TypeId × Value → H} {W : World} {m : Nat} {x : DataW H × List MemPlace} {c1 : Value}
  (e1 : DataW.trod enc Tryd.prog W 0 (fun _ => true) true m 22 [c1] = some x) :
  ∃ (A1 : Option Addr) (n1 : Nat) (Q : List S41), c1 = .slice A1 Q.length n1 ∧ Kd.C k41 W A1 Q.length Q ∧ Q.length ≤ n1 := by
 have k9 : Tryd.prog.cellsOf 9 = 1 := by kernel_rfl
 have k41' : Tryd.prog.cellsOf 41 = 2 := by kernel_rfl
 rcases Go.Deep.open_slice_pairs Tryd.underlying22 Tryd.underlying41 k41' rfl rfl k9 k9 e1 with ⟨hcs, _⟩ | ⟨a, len, cap, m', n', V0, V1, D0, D1, P0, P1, hcs, _, hlc, hcm, hm, _, hc⟩
 ·
  obtain rfl : c1 = .slice none 0 0 := by simpa using hcs
  exact ⟨none, 0, [], rfl, ⟨rfl, by decide, fun h => absurd h (by decide)⟩, Nat.zero_le _⟩
 ·
  obtain rfl : c1 = .slice (some a) len cap := by simpa using hcs
  have hm' : m' = cap := by simpa using hm
  have each : ∀ i, i < m' → ∃ q : S41, W.cell? (a.add (i * 2)) = some (.string q.f0) ∧ W.cell? (a.add (i * 2 + 1)) = some (.string q.f1) := fun i hi => by
   obtain ⟨x0, x1, y0, y1⟩ := hc i hi
   obtain ⟨s0, r0, _⟩ := DataW.trod_string Tryd.underlying9 y0
   obtain ⟨s1, r1, _⟩ := DataW.trod_string Tryd.underlying9 y1
   obtain z0 : V0 i = .string s0 := by simpa using r0
   obtain z1 : V1 i = .string s1 := by simpa using r1
   exact ⟨⟨s0, s1⟩, by rw [x0, z0], by rw [x1, z1]⟩
  obtain ⟨F, hF⟩ : ∃ F : Nat → S41, ∀ i, i < m' → W.cell? (a.add (i * 2)) = some (.string (F i).f0) ∧ W.cell? (a.add (i * 2 + 1)) = some (.string (F i).f1) := by
   refine ⟨fun i => if hi : i < m' then (each i hi).choose else ⟨ByteArray.empty, ByteArray.empty⟩, fun i hi => ?_⟩
   simp only [dif_pos hi]
   exact (each i hi).choose_spec
  refine ⟨some a, cap, (List.range len).map F, by simp, ?_, by simpa using hlc⟩
  have hlen : ((List.range len).map F).length = len := by simp
  rw [hlen]
  refine ⟨hlen, Nat.le_trans (Nat.le_trans hlc hcm) (by decide), fun _ => ⟨a, rfl, fun j q hj => ⟨[.string q.f0, .string q.f1], rfl, k41_mk _ _, fun i u hu => ?_⟩⟩⟩
  have hjl : j < len := by have := List.getElem?_eq_some_iff.1 hj; obtain ⟨h, _⟩ := this; simpa using h
  obtain rfl : q = F j := by simpa [hjl] using hj.symm
  have hs : k41.sz = 2 := rfl
  rw [hs]
  rcases i with _ | _ | i
  ·
   obtain rfl : u = .string (F j).f0 := by simpa using hu.symm
   exact (hF j (by omega)).1
  ·
   obtain rfl : u = .string (F j).f1 := by simpa using hu.symm
   exact (hF j (by omega)).2
  ·
   simp at hu
end Go.Proofs.YtnfimhdcpmakpaaDoor.S
namespace Go.Proofs.YtnfimhdcpmakpaaDoor.S
open Go.RowKit Go.WideShapes Go.ChangeShapes Go.Proofs.YtnfimhdcpmakpaaDoorW.PrintWords
set_option linter.unusedVariables false
set_option linter.unusedSimpArgs false
set_option maxRecDepth 100000 in
theorem open_bytes_ {H : Type} {enc : TypeId × Value → H} {W : World} {m : Nat} {x : DataW H × List MemPlace} {c1 : Value}
  (hf : DataW.trod enc Tryd.prog W 0 (fun _ => true) true m 23 [c1] = some x) :
  ∃ (A : Option Addr) (c : Nat) (l : List Int), c1 = .slice A l.length c ∧ Kd.C (Kd.int .u8) W A l.length l ∧ l.length ≤ c := by
 rcases open_ints Tryd.underlying23 Tryd.underlying5 (by kernel_rfl) hf with ⟨hcs, _⟩ | ⟨a, len, cap, zs, hcs, _, hlc, hcm, hz, _, hcell, hwz⟩
 ·
  obtain rfl : c1 = .slice none 0 0 := by simpa using hcs
  exact ⟨none, 0, [], rfl, ⟨rfl, by decide, fun h => absurd h (by decide)⟩, Nat.zero_le _⟩
 ·
  obtain rfl : c1 = .slice (some a) len cap := by simpa using hcs
  have hzl : zs.length = cap := by simpa using hz
  have hlen : (zs.take len).length = len := by rw [List.length_take]; omega
  refine ⟨some a, cap, zs.take len, by rw [hlen], ?_, by rw [hlen]; exact hlc⟩
  rw [hlen]
  refine ⟨by rw [List.length_take]; omega, Nat.le_trans (Nat.le_trans hlc hcm) (by decide), fun _ => ⟨a, rfl, fun j q hj => ⟨[.int .u8 q], rfl, rfl, fun i u hu => ?_⟩⟩⟩
  have hjl : j < len := by
   obtain ⟨h, _⟩ := List.getElem?_eq_some_iff.1 hj
   rw [List.length_take] at h
   omega
  have hq : zs.getD j 0 = q := by
   rw [List.getElem?_take, if_pos hjl] at hj
   rw [List.getD_eq_getElem?_getD, hj]
   rfl
  rcases i with _ | i
  ·
   obtain rfl : u = .int .u8 q := by simpa using hu.symm
   have := hcell j (by omega)
   rw [hq] at this
   simpa [Kd.int, Kd.scalar] using this
  ·
   simp at hu
set_option maxRecDepth 100000 in
theorem open_request {H : Type} {enc : TypeId × Value → H} {W : World} {base : Nat} {v : Value} {d : DataW H} {p : List MemPlace}
  (hv : Value.okWide Tryd.prog W .any base 25 v) (h : DataW.Trod enc Tryd.prog W 0 (fun _ => true) true 25 v d p) :
  ∃ (m s : ByteArray) (A : Option Addr) (c : Nat) (fs : List S41) (B : Option Addr) (e : Nat) (bd : List Int) (kp : Bool), v = .agg #[.string m, .string s, .slice A fs.length c, .slice B bd.length e, .bool kp] ∧
   (Kd.C k41 W A fs.length fs ∧ fs.length ≤ c) ∧ (Kd.C (Kd.int .u8) W B bd.length bd ∧ bd.length ≤ e) := by
 obtain ⟨cs, rfl, hsz⟩ := okWide_struct Tryd.underlying25 hv
 have hct : Tryd.prog.cellsOf 25 = 5 := by kernel_rfl
 rw [hct] at hsz
 obtain ⟨fuel, hf⟩ := h
 obtain ⟨xs, m, _, _, _, hl, hel⟩ := DataW.trod_struct Tryd.underlying25 hf
 have h0 := hel 0 _ rfl
 have h1 := hel 1 _ rfl
 have h2 := hel 2 _ rfl
 have h3 := hel 3 _ rfl
 have h4 := hel 4 _ rfl
 have hl2 : xs.length = 5 := hl
 have k9 : Tryd.prog.cellsOf 9 = 1 := by kernel_rfl
 have k22 : Tryd.prog.cellsOf 22 = 1 := by kernel_rfl
 have k23 : Tryd.prog.cellsOf 23 = 1 := by kernel_rfl
 have k4 : Tryd.prog.cellsOf 4 = 1 := by kernel_rfl
 obtain ⟨l⟩ := cs
 obtain ⟨c0, c1, c2, c3, c4, rfl⟩ : ∃ c0 c1 c2 c3 c4, l = [c0, c1, c2, c3, c4] := by
  rcases l with _ | ⟨c0, _ | ⟨c1, _ | ⟨c2, _ | ⟨c3, _ | ⟨c4, _ | ⟨c5, l⟩⟩⟩⟩⟩⟩ <;> simp at hsz <;> exact ⟨_, _, _, _, _, rfl⟩
 have e0 : DataW.trod enc Tryd.prog W 0 (fun _ => true) true m 9 [c0] = xs[0]? := by simpa [k9, Value.cells] using h0
 have e1 : DataW.trod enc Tryd.prog W 0 (fun _ => true) true m 9 [c1] = xs[1]? := by simpa [k9, Value.cells] using h1
 have e2 : DataW.trod enc Tryd.prog W 0 (fun _ => true) true m 22 [c2] = xs[2]? := by simpa [k9, k22, Value.cells] using h2
 have e3 : DataW.trod enc Tryd.prog W 0 (fun _ => true) true m 23 [c3] = xs[3]? := by simpa [k9, k22, k23, Value.cells] using h3
 have e4 : DataW.trod enc Tryd.prog W 0 (fun _ => true) true m 4 [c4] = xs[4]? := by simpa [k9, k22, k23, k4, Value.cells] using h4
 rw [List.getElem?_eq_getElem (by omega)] at e0 e1 e2 e3 e4
 obtain ⟨s0, g0, _⟩ := DataW.trod_string Tryd.underlying9 e0
 obtain ⟨s1, g1, _⟩ := DataW.trod_string Tryd.underlying9 e1
 obtain ⟨A, c, fs, g2, q1, q2⟩ := open_fields_ e2
 obtain ⟨B, e, bd, g3, q3, q4⟩ := open_bytes_ e3
 obtain ⟨kp, g4, _⟩ := DataW.trod_bool Tryd.underlying4 e4
 obtain rfl : c0 = .string s0 := by simpa using g0
 obtain rfl : c1 = .string s1 := by simpa using g1
 obtain rfl : c4 = .bool kp := by simpa using g4
 subst g2
 subst g3
 exact ⟨s0, s1, A, c, fs, B, e, bd, kp, rfl, ⟨q1, q2⟩, ⟨q3, q4⟩⟩
end Go.Proofs.YtnfimhdcpmakpaaDoor.S
