/-
  The printed functions of target, as they answer with enough rounds: a part of a target, in the program and in the reference.
-/
import Derived.Test.YtejmolhdmbkfaaaDoorEsc21
import Derived.Test.YtejmolhdmbkfaaaDoorSx3
import Derived.Test.YtejmolhdmbkfaaaDoorSx7
namespace Go.Proofs.YtejmolhdmbkfaaaDoor.S
open Go.RowKit Go.Proofs.YtejmolhdmbkfaaaDoorW.PrintWords
set_option linter.unusedVariables false
set_option linter.unusedSimpArgs false
/-- With enough rounds it answers r. -/
def Ev {α : Type} (g : Nat → Option α) (r : α) : Prop := ∃ K, ∀ k, K ≤ k → g k = some r
section
variable {α β : Type} {g h : Nat → Option α} {r : α} {c : Prop} [Decidable c]
theorem Ev.of {x : Option α} (hx : x = some r) : Ev (fun _ => x) r := ⟨0, fun _ _ => hx⟩
theorem Ev.step (hg : Ev (fun k => g (k + 1)) r) : Ev g r := by
  obtain ⟨K, hK⟩ := hg
  refine ⟨K + 1, fun k hk => ?_⟩
  obtain ⟨j, rfl⟩ : ∃ j, k = j + 1 := ⟨k - 1, by omega⟩
  exact hK j (by omega)
theorem Ev.pos (hc : c) (hg : Ev g r) : Ev (fun k => if c then g k else h k) r := by
  obtain ⟨K, hK⟩ := hg
  exact ⟨K, fun k hk => by show (if c then g k else h k) = some r; rw [if_pos hc]; exact hK k hk⟩
theorem Ev.neg (hc : ¬ c) (hg : Ev h r) : Ev (fun k => if c then g k else h k) r := by
  obtain ⟨K, hK⟩ := hg
  exact ⟨K, fun k hk => by show (if c then g k else h k) = some r; rw [if_neg hc]; exact hK k hk⟩
theorem Ev.bind {f : Nat → Option β} {b : β} {q : Nat → β → Option α} (hf : Ev f b) (hq : Ev (fun k => q k b) r) : Ev (fun k => (f k).bind (q k)) r := by
  obtain ⟨K, hK⟩ := hf
  obtain ⟨L, hL⟩ := hq
  refine ⟨max K L, fun k hk => ?_⟩
  show (f k).bind (q k) = some r
  rw [hK k (by omega)]
  exact hL k (by omega)
theorem Ev.mono (hm : ∀ k, LeO (g k) (g (k + 1))) {K : Nat} (hK : g K = some r) : Ev g r := ⟨K, fun k hk => at_rounds hm hk hK⟩
theorem Ev.at (hg : Ev g r) : ∃ k, g k = some r := let ⟨K, hK⟩ := hg; ⟨K, hK K (Nat.le_refl _)⟩
end
theorem size_mk (l : List UInt8) : (⟨l.toArray⟩ : ByteArray).size = l.length := by simp [ByteArray.size]
theorem toList_mk (l : List UInt8) : (⟨l.toArray⟩ : ByteArray).toList = l := by rw [Lib.toList_data]
theorem bt_mk (l : List UInt8) (j : Nat) (h : j < l.length) : bt ⟨l.toArray⟩ (j : Int) = (l[j].toNat : Int) := by
  unfold bt
  rw [dif_pos (show ((j : Int)).toNat < (⟨l.toArray⟩ : ByteArray).size by rw [size_mk]; omega)]
  rfl
theorem bt_zero (c : UInt8) (r : List UInt8) : bt ⟨(c :: r).toArray⟩ 0 = (c.toNat : Int) := bt_mk (c :: r) 0 (by simp)
theorem bt_one (c d : UInt8) (r : List UInt8) : bt ⟨(c :: d :: r).toArray⟩ 1 = (d.toNat : Int) := bt_mk (c :: d :: r) 1 (by simp)
theorem bt_two (c d e : UInt8) (r : List UInt8) : bt ⟨(c :: d :: e :: r).toArray⟩ 2 = (e.toNat : Int) := bt_mk (c :: d :: e :: r) 2 (by simp)
theorem drop_mk (l : List UInt8) (m : Nat) : (⟨l.toArray⟩ : ByteArray).extract m (⟨l.toArray⟩ : ByteArray).size = ⟨(l.drop m).toArray⟩ := by
  apply ByteArray.ext
  rw [size_mk]
  simp
  exact List.take_of_length_le (by simp)
def ints (l : List UInt8) : List Int := l.map fun c => (c.toNat : Int)
theorem str_ints (l : List UInt8) : strOfNums (ints l) = ⟨l.toArray⟩ := by
  unfold strOfNums ints
  apply ByteArray.ext
  simp only [List.map_map]
  rw [List.map_congr_left (g := id) (fun c _ => by simp)]
  simp
theorem ints_snoc (l : List UInt8) (c : UInt8) : ints l ++ [(c.toNat : Int)] = ints (l ++ [c]) := by simp [ints]
theorem ints_len (l : List UInt8) : (ints l).length = l.length := by simp [ints]
/-- What a digit of base sixteen says. -/
def hexV (c : UInt8) : Option Nat := if 48 ≤ c.toNat ∧ c.toNat ≤ 57 then some (c.toNat - 48) else if 97 ≤ c.toNat ∧ c.toNat ≤ 102 then some (c.toNat - 87) else if 65 ≤ c.toNat ∧ c.toNat ≤ 70 then some (c.toNat - 55) else none
def halfT (c : UInt8) : Int × Bool := match hexV c with | some v => ((v : Int), true) | none => (0, false)
def halfR (c : UInt8) : Int := match hexV c with | some v => (v : Int) | none => -1
theorem half_all : ∀ n : Fin 256, target_half.f 3 (n.val : Int) = some (halfT (UInt8.ofNat n.val)) := by decide +kernel
theorem half_ev (c : UInt8) : Ev (fun k => target_half.f k (c.toNat : Int)) (halfT c) := by
  have := half_all ⟨c.toNat, c.toNat_lt⟩
  exact Ev.mono (fun k => target_half.mono _ k) (K := 3) (by simpa using this)
theorem refhalf_all : ∀ n : Fin 256, cofferref21_half.f 3 (n.val : Int) = some (halfR (UInt8.ofNat n.val)) := by decide +kernel
theorem refhalf_ev (c : UInt8) : Ev (fun k => cofferref21_half.f k (c.toNat : Int)) (halfR c) := by
  have := refhalf_all ⟨c.toNat, c.toNat_lt⟩
  exact Ev.mono (fun k => cofferref21_half.mono _ k) (K := 3) (by simpa using this)
theorem hexV_lt {c : UInt8} {v : Nat} (h : hexV c = some v) : v < 16 := by
  unfold hexV at h
  split at h
  · have := Option.some.inj h; omega
  · split at h
    · have := Option.some.inj h; omega
    · split at h
      · have := Option.some.inj h; omega
      · cases h
theorem bits_all : ∀ x y : Fin 16, Go.bits .or .u8 (((x.val : Int) * 16) % 256) (y.val : Int) = ((16 * x.val + y.val : Nat) : Int) := by decide +kernel
theorem bits_or {x y : Nat} (hx : x < 16) (hy : y < 16) : Go.bits .or .u8 (((x : Int) * 16) % 256) (y : Int) = ((16 * x + y : Nat) : Int) := bits_all ⟨x, hx⟩ ⟨y, hy⟩
/-- What two digits stand for: none, if it's no byte that may stand there. -/
def hexPair (a b : UInt8) : Option UInt8 := match hexV a, hexV b with | some x, some y => if 16 * x + y = 0 then none else some (UInt8.ofNat (16 * x + y)) | _, _ => none
/-- What a part stands for. -/
def partL : List UInt8 → Option (List UInt8)
  | [] => some []
  | c :: r => if plainB c then (partL r).map (c :: ·) else if c = 37 then (match r with | a :: b :: q => (match hexPair a b with | some v => (partL q).map (v :: ·) | none => none) | _ => none) else none
theorem partL_cons (c : UInt8) (r : List UInt8) : partL (c :: r) = if plainB c then (partL r).map (c :: ·) else if c = 37 then (match r with | a :: b :: q => (match hexPair a b with | some v => (partL q).map (v :: ·) | none => none) | _ => none) else none := by rw [partL.eq_def]
def partT (l : List UInt8) : ByteArray × Bool := match partL l with | some o => (⟨o.toArray⟩, true) | none => (⟨#[]⟩, false)
def partTo (out l : List UInt8) : ByteArray × Bool := match partL l with | some o => (⟨(out ++ o).toArray⟩, true) | none => (⟨#[]⟩, false)
theorem partTo_nil : partTo [] = partT := by
  funext l
  unfold partTo partT
  cases partL l <;> rfl
theorem partTo_map (out : List UInt8) (v : UInt8) (l q : List UInt8) (h : partL l = (partL q).map (v :: ·)) : partTo out l = partTo (out ++ [v]) q := by
  unfold partTo
  rw [h]
  cases partL q <;> simp
theorem part_ev : ∀ (n : Nat) (l out : List UInt8), l.length ≤ n → l.length + out.length ≤ 1000000 → Ev (fun k => target_part.l0 k ⟨l.toArray⟩ (ints out)) (partTo out l)
  | 0, l, out, hn, hb => by
    obtain rfl : l = [] := List.eq_nil_of_length_eq_zero (by omega)
    refine .step ?_
    simp only [target_part.l0]
    refine .neg (by rw [size_mk]; simp) ?_
    refine .of ?_
    rw [str_ints]
    simp [partTo, partL]
  | n + 1, [], out, hn, hb => by
    refine .step ?_
    simp only [target_part.l0]
    refine .neg (by rw [size_mk]; simp) ?_
    refine .of ?_
    rw [str_ints]
    simp [partTo, partL]
  | n + 1, c :: r, out, hn, hb => by
    rw [List.length_cons] at hn hb
    have hsz : (⟨(c :: r).toArray⟩ : ByteArray).size = r.length + 1 := by rw [size_mk]; rfl
    refine .step ?_
    simp only [target_part.l0]
    refine .pos (by omega) ?_
    refine .pos (by omega) ?_
    rw [bt_zero]
    refine .bind (.of (plain_f c)) ?_
    by_cases hp : plainB c = true
    · refine .pos hp ?_
      refine .pos (by rw [ints_len]; omega) ?_
      refine .pos (by omega) ?_
      rw [drop_mk, ints_snoc, partTo_map out c (c :: r) r (by rw [partL_cons, if_pos hp])]
      exact part_ev n r (out ++ [c]) (by omega) (by simp; omega)
    · refine .neg hp ?_
      by_cases h37 : c = 37
      · subst h37
        refine .pos (by decide) ?_
        rcases r with _ | ⟨a, _ | ⟨b, q⟩⟩
        · have hpl : partL [37] = none := by rw [partL_cons, if_neg hp, if_pos rfl]
          refine .step ?_
          simp only [target_part.j1]
          refine .pos (by rw [hsz]; simp) ?_
          exact .of (by unfold partTo; rw [hpl])
        · have hpl : partL [37, a] = none := by rw [partL_cons, if_neg hp, if_pos rfl]
          refine .step ?_
          simp only [target_part.j1]
          refine .pos (by rw [hsz]; simp) ?_
          exact .of (by unfold partTo; rw [hpl])
        · have hpl : partL (37 :: a :: b :: q) = (match hexPair a b with | some v => (partL q).map (v :: ·) | none => none) := by rw [partL_cons, if_neg hp, if_pos rfl]
          rw [List.length_cons, List.length_cons] at hsz hn hb
          refine .step ?_
          simp only [target_part.j1]
          refine .neg (by rw [hsz]; simp; omega) ?_
          refine .pos (by omega) ?_
          rw [bt_one, bt_two]
          refine .bind (half_ev a) ?_
          refine .pos (by omega) ?_
          refine .bind (half_ev b) ?_
          unfold halfT
          rcases ha : hexV a with _ | x
          · refine .neg (by simp) ?_
            exact .of (by unfold partTo; rw [hpl]; simp only [hexPair, ha])
          · refine .pos rfl ?_
            rcases hbx : hexV b with _ | y
            · refine .neg (by simp) ?_
              exact .of (by unfold partTo; rw [hpl]; simp only [hexPair, ha, hbx])
            · refine .pos rfl ?_
              have hx := hexV_lt ha
              have hy := hexV_lt hbx
              simp only []
              rw [bits_or hx hy]
              by_cases h0 : 16 * x + y = 0
              · refine .pos (by omega) ?_
                exact .of (by unfold partTo; rw [hpl]; simp only [hexPair, ha, hbx]; rw [if_pos h0])
              · refine .neg (by omega) ?_
                refine .pos (by rw [ints_len]; omega) ?_
                refine .pos (by omega) ?_
                have hv : ((16 * x + y : Nat) : Int) = ((UInt8.ofNat (16 * x + y)).toNat : Int) := by
                  rw [UInt8.toNat_ofNat', Nat.mod_eq_of_lt (by omega)]
                rw [hv, drop_mk, ints_snoc, partTo_map out (UInt8.ofNat (16 * x + y)) (37 :: a :: b :: q) q (by rw [hpl]; simp only [hexPair, ha, hbx]; rw [if_neg h0])]
                exact part_ev n q (out ++ [UInt8.ofNat (16 * x + y)]) (by omega) (by simp; omega)
      · have hne : ¬ ((c.toNat : Int) = 37) := fun h => h37 (UInt8.toNat_inj.1 (by have : (37 : UInt8).toNat = 37 := rfl; omega))
        refine .neg hne ?_
        refine .step ?_
        simp only [target_part.j1]
        refine .pos (by simp) ?_
        exact .of (by unfold partTo; rw [partL_cons, if_neg hp, if_neg h37])
theorem part_f (l : List UInt8) (h : l.length ≤ 1000000) : Ev (fun k => target_part.f k ⟨l.toArray⟩) (partT l) := by
  have := part_ev l.length l [] (Nat.le_refl _) (by simpa using h)
  rw [partTo_nil] at this
  exact this
end Go.Proofs.YtejmolhdmbkfaaaDoor.S
