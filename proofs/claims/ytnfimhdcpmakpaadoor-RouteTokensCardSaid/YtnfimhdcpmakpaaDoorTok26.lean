/-
  RouteTokens, without Go and memory: what route.To makes of the head's road (to be gone on with: the two tokens agree).
-/
import Derived.Test.YtnfimhdcpmakpaaDoorBgn26
import Derived.Test.YtnfimhdcpmakpaaDoorUhx26
import Derived.Test.YtnfimhdcpmakpaaDoorSx8
namespace Go.Proofs.YtnfimhdcpmakpaaDoor.S
open Go.RowKit Go.Proofs.YtnfimhdcpmakpaaDoorW.PrintWords
set_option linter.unusedVariables false
set_option linter.unusedSimpArgs false
theorem to_head (fs : List S41) : toF 60 GET ⟨#[47, 97, 47, 104, 101, 97, 100]⟩ fs = (route_token.f 60 fs).bind fun t => some ({ zeroO with dv := 17 }, t, 0) := by kernel_rfl
/-- With enough rounds it answers r. -/
def Ev {α : Type} (g : Nat → Option α) (r : α) : Prop := ∃ K, ∀ k, K ≤ k → g k = some r
section
variable {α β : Type} {g h : Nat → Option α} {r : α} {c : Prop} [Decidable c]
theorem Ev.of {x : Option α} (hx : x = some r) : Ev (fun _ => x) r := ⟨0, fun _ _ => hx⟩
theorem Ev.step (hg : Ev (fun k => g (k + 1)) r) : Ev g r := by
  obtain ⟨K, hK⟩ := hg
  refine ⟨K + 1, fun k hk => ?_⟩
  obtain ⟨j, rfl⟩ : ∃ j, k = j + 1 := ⟨k - 1, by omega⟩
  exact hK j (by omega)
theorem Ev.pos (hc : c) (hg : Ev g r) : Ev (fun k => if c then g k else h k) r := by
  obtain ⟨K, hK⟩ := hg
  exact ⟨K, fun k hk => by show (if c then g k else h k) = some r; rw [if_pos hc]; exact hK k hk⟩
theorem Ev.neg (hc : ¬ c) (hg : Ev h r) : Ev (fun k => if c then g k else h k) r := by
  obtain ⟨K, hK⟩ := hg
  exact ⟨K, fun k hk => by show (if c then g k else h k) = some r; rw [if_neg hc]; exact hK k hk⟩
theorem Ev.bind {f : Nat → Option β} {b : β} {q : Nat → β → Option α} (hf : Ev f b) (hq : Ev (fun k => q k b) r) : Ev (fun k => (f k).bind (q k)) r := by
  obtain ⟨K, hK⟩ := hf
  obtain ⟨L, hL⟩ := hq
  refine ⟨max K L, fun k hk => ?_⟩
  show (f k).bind (q k) = some r
  rw [hK k (by omega)]
  exact hL k (by omega)
theorem Ev.mono (hm : ∀ k, LeO (g k) (g (k + 1))) {K : Nat} (hK : g K = some r) : Ev g r := ⟨K, fun k hk => at_rounds hm hk hK⟩
theorem Ev.at (hg : Ev g r) : ∃ k, g k = some r := let ⟨K, hK⟩ := hg; ⟨K, hK K (Nat.le_refl _)⟩
end
def AU : ByteArray := ⟨#[97, 117, 116, 104, 111, 114, 105, 122, 97, 116, 105, 111, 110]⟩
/-- How many fields have that name. -/
def cntF (n : ByteArray) (fs : List S41) : Nat := (fs.filter fun f => decide (f.f0.toList = n.toList)).length
def fstF (n : ByteArray) : List S41 → Option ByteArray
  | [] => none
  | f :: r => if f.f0.toList = n.toList then some f.f1 else fstF n r
theorem wrap_one (c : Nat) (h : c ≤ 1000000) : wrap64 ((c : Int) + 1) = ((c + 1 : Nat) : Int) := by unfold wrap64; omega
theorem rd41_at (l : List S41) (i : Nat) (h : i < l.length) : rd_T41 l (i : Int) = l[i] := by
  unfold rd_T41
  rw [Int.toNat_natCast, List.getD_eq_getElem?_getD, List.getElem?_eq_getElem h]
  rfl
theorem cntF_cons (n : ByteArray) (f : S41) (r : List S41) : cntF n (f :: r) = (if f.f0.toList = n.toList then 1 else 0) + cntF n r := by
  unfold cntF
  rw [List.filter_cons]
  by_cases h : f.f0.toList = n.toList
  · simp [h]; omega
  · simp [h]
theorem cntF_le (n : ByteArray) (fs : List S41) : cntF n fs ≤ fs.length := List.length_filter_le _ _
section
variable (n : ByteArray) (fs : List S41) (hl : fs.length ≤ 100000)
include hl
theorem count_l0 : ∀ (d i c : Nat), i + d = fs.length → c ≤ i → Ev (fun k => field_Count.l0 k n (c : Int) fs (fs.length : Int) (i : Int)) ((c + cntF n (fs.drop i) : Nat) : Int)
  | 0, i, c, hi, hc => by
    refine .step ?_
    simp only [field_Count.l0]
    refine .neg (by omega) ?_
    rw [List.drop_of_length_le (by omega)]
    exact .of rfl
  | d + 1, i, c, hi, hc => by
    have hlt : i < fs.length := by omega
    refine .step ?_
    simp only [field_Count.l0]
    refine .pos (by omega) ?_
    refine .pos (by omega) ?_
    refine .pos (by omega) ?_
    rw [rd41_at fs i hlt, List.drop_eq_getElem_cons hlt, cntF_cons, wrap_one i (by omega)]
    by_cases h : fs[i].f0.toList = n.toList
    · refine .pos h ?_
      rw [if_pos h, wrap_one c (by omega), show c + (1 + cntF n (fs.drop (i + 1))) = (c + 1) + cntF n (fs.drop (i + 1)) by omega]
      exact count_l0 d (i + 1) (c + 1) (by omega) (by omega)
    · refine .neg h ?_
      rw [if_neg h, Nat.zero_add]
      exact count_l0 d (i + 1) c (by omega) (by omega)
theorem refcount_l0 : ∀ (d i c : Nat), i + d = fs.length → c ≤ i → Ev (fun k => cofferref22_Count.l0 k fs n (c : Int) (i : Int)) ((c + cntF n (fs.drop i) : Nat) : Int)
  | 0, i, c, hi, hc => by
    refine .step ?_
    simp only [cofferref22_Count.l0]
    refine .neg (by omega) ?_
    rw [List.drop_of_length_le (by omega)]
    exact .of rfl
  | d + 1, i, c, hi, hc => by
    have hlt : i < fs.length := by omega
    refine .step ?_
    simp only [cofferref22_Count.l0]
    refine .pos (by omega) ?_
    refine .pos (by omega) ?_
    rw [rd41_at fs i hlt, List.drop_eq_getElem_cons hlt, cntF_cons, wrap_one i (by omega)]
    by_cases h : fs[i].f0.toList = n.toList
    · refine .pos h ?_
      rw [if_pos h, wrap_one c (by omega), show c + (1 + cntF n (fs.drop (i + 1))) = (c + 1) + cntF n (fs.drop (i + 1)) by omega]
      exact refcount_l0 d (i + 1) (c + 1) (by omega) (by omega)
    · refine .neg h ?_
      rw [if_neg h, Nat.zero_add]
      exact refcount_l0 d (i + 1) c (by omega) (by omega)
theorem get_l0 : ∀ (d i : Nat), i + d = fs.length → cntF n (fs.drop i) ≠ 0 → Ev (fun k => field_Get.l0 k n fs (fs.length : Int) (i : Int)) ((fstF n (fs.drop i)).getD ⟨#[]⟩, 0)
  | 0, i, hi, hc => by
    rw [List.drop_of_length_le (by omega)] at hc
    exact absurd rfl hc
  | d + 1, i, hi, hc => by
    have hlt : i < fs.length := by omega
    refine .step ?_
    simp only [field_Get.l0]
    refine .pos (by omega) ?_
    refine .pos (by omega) ?_
    refine .pos (by omega) ?_
    rw [List.drop_eq_getElem_cons hlt, cntF_cons] at hc
    rw [rd41_at fs i hlt, List.drop_eq_getElem_cons hlt, fstF]
    by_cases h : fs[i].f0.toList = n.toList
    · refine .pos h ?_
      rw [if_pos h]
      exact .of rfl
    · refine .neg h ?_
      rw [if_neg h] at hc ⊢
      rw [wrap_one i (by omega)]
      exact get_l0 d (i + 1) (by omega) (by omega)
theorem refget22_l0 : ∀ (d i : Nat), i + d = fs.length → cntF n (fs.drop i) ≠ 0 → Ev (fun k => cofferref22_Get.l0 k fs n (i : Int)) ((fstF n (fs.drop i)).getD ⟨#[]⟩, 0)
  | 0, i, hi, hc => by
    rw [List.drop_of_length_le (by omega)] at hc
    exact absurd rfl hc
  | d + 1, i, hi, hc => by
    have hlt : i < fs.length := by omega
    refine .step ?_
    simp only [cofferref22_Get.l0]
    refine .pos (by omega) ?_
    refine .pos (by omega) ?_
    rw [List.drop_eq_getElem_cons hlt, cntF_cons] at hc
    rw [rd41_at fs i hlt, List.drop_eq_getElem_cons hlt, fstF]
    by_cases h : fs[i].f0.toList = n.toList
    · refine .pos h ?_
      rw [if_pos h]
      exact .of rfl
    · refine .neg h ?_
      rw [if_neg h] at hc ⊢
      rw [wrap_one i (by omega)]
      exact refget22_l0 d (i + 1) (by omega) (by omega)
/-- A field's value, by its name. -/
def getF (n : ByteArray) (fs : List S41) : ByteArray × Int := if cntF n fs = 0 then (⟨#[]⟩, 5) else if cntF n fs = 1 then ((fstF n fs).getD ⟨#[]⟩, 0) else (⟨#[]⟩, 6)
theorem get_f : Ev (fun k => field_Get.f k fs n) (getF n fs) := by
  have h := count_l0 n fs hl fs.length 0 0 (by omega) (by omega)
  unfold field_Get.f getF
  refine .bind h ?_
  simp only [Nat.zero_add, List.drop_zero]
  by_cases h0 : cntF n fs = 0
  · refine .pos (by omega) ?_
    rw [if_pos h0]
    exact .of rfl
  · refine .neg (by omega) ?_
    rw [if_neg h0]
    by_cases h1 : cntF n fs = 1
    · refine .pos (by omega) ?_
      rw [if_pos h1]
      exact get_l0 n fs hl fs.length 0 (by omega) h0
    · refine .neg (by omega) ?_
      rw [if_neg h1]
      exact .of rfl
theorem refcount_f : Ev (fun k => cofferref22_Count.f k fs n) ((cntF n fs : Nat) : Int) := by
  have h := refcount_l0 n fs hl fs.length 0 0 (by omega) (by omega)
  simp only [Nat.zero_add, List.drop_zero] at h
  exact h
theorem refget22_f : Ev (fun k => cofferref22_Get.f k fs n) (getF n fs) := by
  unfold cofferref22_Get.f getF
  refine .bind (refcount_f n fs hl) ?_
  by_cases h0 : cntF n fs = 0
  · refine .pos (by omega) ?_
    rw [if_pos h0]
    exact .of rfl
  · refine .neg (by omega) ?_
    rw [if_neg h0]
    by_cases h1 : cntF n fs = 1
    · refine .pos (by omega) ?_
      rw [if_pos h1]
      exact refget22_l0 n fs hl fs.length 0 (by omega) h0
    · refine .neg (by omega) ?_
      rw [if_neg h1]
      exact .of rfl
end
end Go.Proofs.YtnfimhdcpmakpaaDoor.S
