/-
 RouteTokens, without Go and memory: what route.To makes of the head's road (to be gone on with: the two tokens agree).
-/
import Derived.Test.YtnfimhdcpmakpaaDoorBgn26P
import Derived.Test.YtnfimhdcpmakpaaDoorUhx26P
import Derived.Test.YtnfimhdcpmakpaaDoorSx8P
import Derived.Test.YtnfimhdcpmakpaaDoorRUh26P
import Derived.Test.YtnfimhdcpmakpaaDoorSx7P
import Derived.Test.YtnfimhdcpmakpaaDoorMay26P
import Derived.Test.YtnfimhdcpmakpaaDoorSx15P
import Derived.Test.YtnfimhdcpmakpaaDoorSx6P
import Derived.Test.YtnfimhdcpmakpaaDoorSx12P
import Derived.Test.YtnfimhdcpmakpaaDoorSx13P
import Derived.Lib.ItoaNum
import Derived.Lib.Strings
import Derived.Test.YtnfimhdcpmakpaaDoorRt26P
namespace Go.Proofs.YtnfimhdcpmakpaaDoor.S
open Go.RowKit Go.Proofs.YtnfimhdcpmakpaaDoorW.PrintWords
set_option linter.unusedVariables false
set_option linter.unusedSimpArgs false
def Ev {α : Type} (g : Nat → Option α) (r : α) : Prop := ∃ K, ∀ k, K ≤ k → g k = some r
section
variable {α β : Type} {g h : Nat → Option α} {r : α} {c : Prop} [Decidable c]
theorem Ev.of {x : Option α} (hx : x = some r) : Ev (fun _ => x) r := ⟨0, fun _ _ => hx⟩
theorem Ev.step (hg : Ev (fun k => g (k + 1)) r) : Ev g r := by
 obtain ⟨K, hK⟩ := hg
 refine ⟨K + 1, fun k hk => ?_⟩
 obtain ⟨j, rfl⟩ : ∃ j, k = j + 1 := ⟨k - 1, by omega⟩
 exact hK j (by omega)
theorem Ev.pos (hc : c) (hg : Ev g r) : Ev (fun k => if c then g k else h k) r := by
 obtain ⟨K, hK⟩ := hg
 exact ⟨K, fun k hk => by show (if c then g k else h k) = some r; rw [if_pos hc]; exact hK k hk⟩
theorem Ev.neg (hc : ¬ c) (hg : Ev h r) : Ev (fun k => if c then g k else h k) r := by
 obtain ⟨K, hK⟩ := hg
 exact ⟨K, fun k hk => by show (if c then g k else h k) = some r; rw [if_neg hc]; exact hK k hk⟩
theorem Ev.bind {f : Nat → Option β} {b : β} {q : Nat → β → Option α} (hf : Ev f b) (hq : Ev (fun k => q k b) r) : Ev (fun k => (f k).bind (q k)) r := by
 obtain ⟨K, hK⟩ := hf
 obtain ⟨L, hL⟩ := hq
 refine ⟨max K L, fun k hk => ?_⟩
 show (f k).bind (q k) = some r
 rw [hK k (by omega)]
 exact hL k (by omega)
theorem Ev.mono (hm : ∀ k, LeO (g k) (g (k + 1))) {K : Nat} (hK : g K = some r) : Ev g r := ⟨K, fun k hk => at_rounds hm hk hK⟩
end
def AU : ByteArray := ⟨#[97, 117, 116, 104, 111, 114, 105, 122, 97, 116, 105, 111, 110]⟩
def cntF (n : ByteArray) (fs : List S41) : Nat := (fs.filter fun f => decide (f.f0.toList = n.toList)).length
def fstF (n : ByteArray) : List S41 → Option ByteArray
 | [] => none
 | f :: r => if f.f0.toList = n.toList then some f.f1 else fstF n r
theorem wrap_one (c : Nat) (h : c ≤ 1000000) : wrap64 ((c : Int) + 1) = ((c + 1 : Nat) : Int) := by unfold wrap64; omega
theorem rd41_at (l : List S41) (i : Nat) (h : i < l.length) : rd_T41 l (i : Int) = l[i] := by
 unfold rd_T41
 rw [Int.toNat_natCast, List.getD_eq_getElem?_getD, List.getElem?_eq_getElem h]
 rfl
theorem cntF_cons (n : ByteArray) (f : S41) (r : List S41) : cntF n (f :: r) = (if f.f0.toList = n.toList then 1 else 0) + cntF n r := by
 unfold cntF
 rw [List.filter_cons]
 by_cases h : f.f0.toList = n.toList
 ·
  simp [h]; omega
 ·
  simp [h]
section
variable (n : ByteArray) (fs : List S41) (hl : fs.length ≤ 100000)
include hl
theorem count_l0 : ∀ (d i c : Nat), i + d = fs.length → c ≤ i → Ev (fun k => field_Count.l0 k n (c : Int) fs (fs.length : Int) (i : Int)) ((c + cntF n (fs.drop i) : Nat) : Int)
 | 0, i, c, hi, hc => by
  refine .step ?_
  simp only [field_Count.l0]
  refine .neg (by omega) ?_
  rw [List.drop_of_length_le (by omega)]
  exact .of rfl
 | d + 1, i, c, hi, hc => by
  have hlt : i < fs.length := by omega
  refine .step ?_
  simp only [field_Count.l0]
  refine .pos (by omega) ?_
  refine .pos (by omega) ?_
  refine .pos (by omega) ?_
  rw [rd41_at fs i hlt, List.drop_eq_getElem_cons hlt, cntF_cons, wrap_one i (by omega)]
  by_cases h : fs[i].f0.toList = n.toList
  ·
   refine .pos h ?_
   rw [if_pos h, wrap_one c (by omega), show c + (1 + cntF n (fs.drop (i + 1))) = (c + 1) + cntF n (fs.drop (i + 1)) by omega]
   exact count_l0 d (i + 1) (c + 1) (by omega) (by omega)
  ·
   refine .neg h ?_
   rw [if_neg h, Nat.zero_add]
   exact count_l0 d (i + 1) c (by omega) (by omega)
theorem refcount_l0 : ∀ (d i c : Nat), i + d = fs.length → c ≤ i → Ev (fun k => cofferref22_Count.l0 k fs n (c : Int) (i : Int)) ((c + cntF n (fs.drop i) : Nat) : Int)
 | 0, i, c, hi, hc => by
  refine .step ?_
  simp only [cofferref22_Count.l0]
  refine .neg (by omega) ?_
  rw [List.drop_of_length_le (by omega)]
  exact .of rfl
 | d + 1, i, c, hi, hc => by
  have hlt : i < fs.length := by omega
  refine .step ?_
  simp only [cofferref22_Count.l0]
  refine .pos (by omega) ?_
  refine .pos (by omega) ?_
  rw [rd41_at fs i hlt, List.drop_eq_getElem_cons hlt, cntF_cons, wrap_one i (by omega)]
  by_cases h : fs[i].f0.toList = n.toList
  ·
   refine .pos h ?_
   rw [if_pos h, wrap_one c (by omega), show c + (1 + cntF n (fs.drop (i + 1))) = (c + 1) + cntF n (fs.drop (i + 1)) by omega]
   exact refcount_l0 d (i + 1) (c + 1) (by omega) (by omega)
  ·
   refine .neg h ?_
   rw [if_neg h, Nat.zero_add]
   exact refcount_l0 d (i + 1) c (by omega) (by omega)
theorem get_l0 : ∀ (d i : Nat), i + d = fs.length → cntF n (fs.drop i) ≠ 0 → Ev (fun k => field_Get.l0 k n fs (fs.length : Int) (i : Int)) ((fstF n (fs.drop i)).getD ⟨#[]⟩, 0)
 | 0, i, hi, hc => by
  rw [List.drop_of_length_le (by omega)] at hc
  exact absurd rfl hc
 | d + 1, i, hi, hc => by
  have hlt : i < fs.length := by omega
  refine .step ?_
  simp only [field_Get.l0]
  refine .pos (by omega) ?_
  refine .pos (by omega) ?_
  refine .pos (by omega) ?_
  rw [List.drop_eq_getElem_cons hlt, cntF_cons] at hc
  rw [rd41_at fs i hlt, List.drop_eq_getElem_cons hlt, fstF]
  by_cases h : fs[i].f0.toList = n.toList
  ·
   refine .pos h ?_
   rw [if_pos h]
   exact .of rfl
  ·
   refine .neg h ?_
   rw [if_neg h] at hc ⊢
   rw [wrap_one i (by omega)]
   exact get_l0 d (i + 1) (by omega) (by omega)
theorem refget22_l0 : ∀ (d i : Nat), i + d = fs.length → cntF n (fs.drop i) ≠ 0 → Ev (fun k => cofferref22_Get.l0 k fs n (i : Int)) ((fstF n (fs.drop i)).getD ⟨#[]⟩, 0)
 | 0, i, hi, hc => by
  rw [List.drop_of_length_le (by omega)] at hc
  exact absurd rfl hc
 | d + 1, i, hi, hc => by
  have hlt : i < fs.length := by omega
  refine .step ?_
  simp only [cofferref22_Get.l0]
  refine .pos (by omega) ?_
  refine .pos (by omega) ?_
  rw [List.drop_eq_getElem_cons hlt, cntF_cons] at hc
  rw [rd41_at fs i hlt, List.drop_eq_getElem_cons hlt, fstF]
  by_cases h : fs[i].f0.toList = n.toList
  ·
   refine .pos h ?_
   rw [if_pos h]
   exact .of rfl
  ·
   refine .neg h ?_
   rw [if_neg h] at hc ⊢
   rw [wrap_one i (by omega)]
   exact refget22_l0 d (i + 1) (by omega) (by omega)
def getF (n : ByteArray) (fs : List S41) : ByteArray × Int := if cntF n fs = 0 then (⟨#[]⟩, 5) else if cntF n fs = 1 then ((fstF n fs).getD ⟨#[]⟩, 0) else (⟨#[]⟩, 6)
theorem get_f : Ev (fun k => field_Get.f k fs n) (getF n fs) := by
 have h := count_l0 n fs hl fs.length 0 0 (by omega) (by omega)
 unfold field_Get.f getF
 refine .bind h ?_
 simp only [Nat.zero_add, List.drop_zero]
 by_cases h0 : cntF n fs = 0
 ·
  refine .pos (by omega) ?_
  rw [if_pos h0]
  exact .of rfl
 ·
  refine .neg (by omega) ?_
  rw [if_neg h0]
  by_cases h1 : cntF n fs = 1
  ·
   refine .pos (by omega) ?_
   rw [if_pos h1]
   exact get_l0 n fs hl fs.length 0 (by omega) h0
  ·
   refine .neg (by omega) ?_
   rw [if_neg h1]
   exact .of rfl
theorem refcount_f : Ev (fun k => cofferref22_Count.f k fs n) ((cntF n fs : Nat) : Int) := by
 have h := refcount_l0 n fs hl fs.length 0 0 (by omega) (by omega)
 simp only [Nat.zero_add, List.drop_zero] at h
 exact h
theorem refget22_f : Ev (fun k => cofferref22_Get.f k fs n) (getF n fs) := by
 unfold cofferref22_Get.f getF
 refine .bind (refcount_f n fs hl) ?_
 by_cases h0 : cntF n fs = 0
 ·
  refine .pos (by omega) ?_
  rw [if_pos h0]
  exact .of rfl
 ·
  refine .neg (by omega) ?_
  rw [if_neg h0]
  by_cases h1 : cntF n fs = 1
  ·
   refine .pos (by omega) ?_
   rw [if_pos h1]
   exact refget22_l0 n fs hl fs.length 0 (by omega) h0
  ·
   refine .neg (by omega) ?_
   rw [if_neg h1]
   exact .of rfl
end
end Go.Proofs.YtnfimhdcpmakpaaDoor.S
namespace Go.Proofs.YtnfimhdcpmakpaaDoor.S
open Go.RowKit Go.Proofs.YtnfimhdcpmakpaaDoorW.PrintWords
set_option linter.unusedVariables false
set_option linter.unusedSimpArgs false
def BE7 : ByteArray := ⟨#[66, 101, 97, 114, 101, 114, 32]⟩
theorem cutP_f (v : ByteArray) : strings_CutPrefix.f v ⟨#[66, 101, 97, 114, 101, 114, 32]⟩ = some (if 7 ≤ v.size ∧ (v.extract 0 7).toList = [66, 101, 97, 114, 101, 114, 32] then (v.extract 7 v.size, true) else (v, false)) := by
 have h7 : (⟨#[66, 101, 97, 114, 101, 114, 32]⟩ : ByteArray).size = 7 := rfl
 have hb : (⟨#[66, 101, 97, 114, 101, 114, 32]⟩ : ByteArray).toList = [66, 101, 97, 114, 101, 114, 32] := by rw [Lib.toList_data]
 unfold strings_CutPrefix.f stringslite_CutPrefix.f stringslite_HasPrefix.f
 simp only [h7, hb]
 by_cases hs : 7 ≤ v.size
 ·
  rw [if_pos (by omega), if_pos (by omega), if_pos (by omega)]
  simp only [Option.bind_some]
  by_cases hp : (v.extract 0 7).toList = [66, 101, 97, 114, 101, 114, 32]
  ·
   rw [show (if 7 ≤ v.size ∧ (v.extract 0 7).toList = [66, 101, 97, 114, 101, 114, 32] then (v.extract 7 v.size, true) else (v, false)) = (v.extract 7 v.size, true) from if_pos ⟨hs, hp⟩]
   have e : ((v.extract 0 ((7 : Nat) : Int).toNat).toList == [66, 101, 97, 114, 101, 114, 32]) = true := by simpa using hp
   first | (rw [if_pos e, if_pos (by omega), if_pos (by omega)]; rfl) | (rw [if_pos (by omega), if_pos (by omega)]; rfl)
  ·
   rw [show (if 7 ≤ v.size ∧ (v.extract 0 7).toList = [66, 101, 97, 114, 101, 114, 32] then (v.extract 7 v.size, true) else (v, false)) = (v, false) from if_neg (fun h => hp h.2)]
   have e : ¬ ((v.extract 0 ((7 : Nat) : Int).toNat).toList == [66, 101, 97, 114, 101, 114, 32]) = true := by simpa using hp
   rw [if_neg e]
   rfl
 ·
  rw [show (if 7 ≤ v.size ∧ (v.extract 0 7).toList = [66, 101, 97, 114, 101, 114, 32] then (v.extract 7 v.size, true) else (v, false)) = (v, false) from if_neg (fun h => hs h.1), if_neg (by omega)]
  rfl
theorem unh_len (s : ByteArray) (h : (unh s).2 = 0) : (unh s).1.length = s.size / 2 ∧ s.size % 2 = 0 := by
 unfold unh at h ⊢
 by_cases hc : okd (byteAt s) s.size ∧ s.size % 2 = 0
 ·
  rw [if_pos hc]
  exact ⟨uh_len _ _, hc.2⟩
 ·
  rw [if_neg hc] at h
  exact absurd h (by decide)
def valT (v : ByteArray) : List Int := if 9 ≤ v.size ∧ (v.extract 0 7).toList = [66, 101, 97, 114, 101, 114, 32] ∧ (unh (v.extract 7 v.size)).2 = 0 then (unh (v.extract 7 v.size)).1 else [0]
def tokF (fs : List S41) : List Int := if (getF AU fs).2 = 5 then [] else if (getF AU fs).2 = 0 then valT (getF AU fs).1 else [0]
section
variable (fs : List S41) (hl : fs.length ≤ 100000) (hv : (getF AU fs).1.size ≤ 100000)
theorem ext7_size (v : ByteArray) : (v.extract 7 v.size).size = v.size - 7 := by rw [ByteArray.size_extract]; omega
include hl hv in
theorem token_f : Ev (fun k => route_token.f k fs) (tokF fs) := by
 have hg := get_f AU fs hl
 unfold route_token.f tokF
 refine .bind hg ?_
 by_cases h5 : (getF AU fs).2 = 5
 ·
  refine .pos h5 ?_
  rw [if_pos h5]
  exact .of rfl
 ·
  refine .neg h5 ?_
  rw [if_neg h5]
  refine .bind (.of (cutP_f _)) ?_
  generalize getF AU fs = g at *
  obtain ⟨v, e⟩ := g
  simp only at hv h5 ⊢
  by_cases hc : 7 ≤ v.size ∧ (v.extract 0 7).toList = [66, 101, 97, 114, 101, 114, 32]
  ·
   rw [if_pos hc]
   have hu : xUnhex.f (v.extract 7 v.size) = some (unh (v.extract 7 v.size)) := by
    unfold xUnhex.f
    rw [if_pos (by rw [ext7_size]; omega)]
   refine .bind (.of hu) ?_
   have hlen := unh_len (v.extract 7 v.size)
   rw [ext7_size] at hlen
   by_cases h0 : e = 0
   ·
    refine .pos h0 ?_
    rw [if_pos h0]
    refine .pos rfl ?_
    by_cases hb : (unh (v.extract 7 v.size)).2 = 0
    ·
     refine .pos hb ?_
     obtain ⟨q1, q2⟩ := hlen hb
     by_cases hz : ((unh (v.extract 7 v.size)).1.length : Int) = 0
     ·
      refine .pos hz ?_
      unfold valT
      rw [if_neg (by intro h; omega)]
      exact .of rfl
     ·
      refine .neg hz ?_
      unfold valT
      rw [if_pos ⟨by omega, hc.2, hb⟩]
      exact .of rfl
    ·
     refine .neg hb ?_
     unfold valT
     rw [if_neg (fun h => hb h.2.2)]
     exact .of rfl
   ·
    refine .neg h0 ?_
    rw [if_neg h0]
    exact .of rfl
  ·
   rw [if_neg hc]
   have hu : xUnhex.f v = some (unh v) := by
    unfold xUnhex.f
    rw [if_pos (by omega)]
   refine .bind (.of hu) ?_
   by_cases h0 : e = 0
   ·
    refine .pos h0 ?_
    rw [if_pos h0]
    refine .neg (by simp) ?_
    unfold valT
    rw [if_neg (fun h => hc ⟨by omega, h.2.1⟩)]
    exact .of rfl
   ·
    refine .neg h0 ?_
    rw [if_neg h0]
    exact .of rfl
theorem getF_five (n : ByteArray) : (getF n fs).2 = 5 ↔ cntF n fs = 0 := by
 unfold getF
 by_cases h0 : cntF n fs = 0
 ·
  rw [if_pos h0]; simp [h0]
 ·
  rw [if_neg h0]
  by_cases h1 : cntF n fs = 1
  ·
   rw [if_pos h1]; simp [h0]
  ·
   rw [if_neg h1]; simp [h0]
theorem j0_true (v : ByteArray) : Ev (fun k => cofferref26_Token.j0 k v true) [0] := .step (by
 simp only [cofferref26_Token.j0]
 refine .pos trivial ?_
 exact .of rfl)
include hl hv in
theorem reftoken_f : Ev (fun k => cofferref26_Token.f k fs) (tokF fs) := by
 have h5 := getF_five fs AU
 have hg := refget22_f AU fs hl
 unfold cofferref26_Token.f tokF
 refine .bind (refcount_f AU fs hl) ?_
 by_cases h0 : cntF AU fs = 0
 ·
  refine .pos (by omega) ?_
  rw [if_pos (h5.2 h0)]
  exact .of rfl
 ·
  refine .neg (by omega) ?_
  rw [if_neg (fun h => h0 (h5.1 h))]
  refine .bind hg ?_
  generalize getF AU fs = g at *
  obtain ⟨v, e⟩ := g
  simp only at hv ⊢
  by_cases he : e = 0
  ·
   refine .pos he ?_
   rw [if_pos he]
   by_cases h9 : (v.size : Int) < 9
   ·
    refine .pos h9 ?_
    unfold valT
    rw [if_neg (by intro h; omega)]
    exact j0_true v
   ·
    refine .neg h9 ?_
    refine .pos (by omega) ?_
    refine .pos (by omega) ?_
    by_cases hp : (v.extract 0 7).toList = [66, 101, 97, 114, 101, 114, 32]
    ·
     rw [show ((v.extract 0 7).toList != ([66, 101, 97, 114, 101, 114, 32] : List UInt8)) = false by simpa using hp]
     refine .step ?_
     simp only [cofferref26_Token.j0]
     refine .neg (by simp) ?_
     refine .pos (by omega) ?_
     refine .bind (b := unh (v.extract 7 v.size)) ⟨(v.extract 7 v.size).size + 30, fun k hk => ref_unhex_f _ (by rw [ext7_size]; omega) k hk⟩ ?_
     by_cases hb : (unh (v.extract 7 v.size)).2 = 0
     ·
      refine .pos hb ?_
      unfold valT
      rw [if_pos ⟨by omega, hp, hb⟩]
      exact .of rfl
     ·
      refine .neg hb ?_
      unfold valT
      rw [if_neg (fun h => hb h.2.2)]
      exact .of rfl
    ·
     rw [show ((v.extract 0 7).toList != ([66, 101, 97, 114, 101, 114, 32] : List UInt8)) = true by simpa using hp]
     unfold valT
     rw [if_neg (fun h => hp h.2.1)]
     exact j0_true v
  ·
   refine .neg he ?_
   rw [if_neg he]
   exact j0_true v
end
end Go.Proofs.YtnfimhdcpmakpaaDoor.S
namespace Go.Proofs.YtnfimhdcpmakpaaDoor.S
open Go.RowKit Go.Proofs.YtnfimhdcpmakpaaDoorW.PrintWords
set_option linter.unusedVariables false
set_option linter.unusedSimpArgs false
theorem lightR_l0 (m s : ByteArray) (fs : List S41) (bd : List Int) (kp : Bool) (hl : fs.length ≤ 100000) : ∀ (d i : Nat), i + d = fs.length → ∃ r, Ev (fun k => cofferlaw26_light.l0 k (i : Int) m s fs bd kp) r ∧ (r = true → ∀ f ∈ fs.drop i, f.f1.size ≤ 2048)
  | 0, i, hi => by
    refine ⟨true, .step ?_, fun _ f hf => ?_⟩
    · simp only [cofferlaw26_light.l0]
      refine .neg (by omega) ?_
      exact .of rfl
    · rw [List.drop_of_length_le (by omega)] at hf
      cases hf
  | d + 1, i, hi => by
    have hlt : i < fs.length := by omega
    obtain ⟨r, h1, h2⟩ := lightR_l0 m s fs bd kp hl d (i + 1) (by omega)
    by_cases ha : (((rd_T41 fs (i : Int)).f0).size : Int) > 200
    · refine ⟨false, .step ?_, fun h => by cases h⟩
      simp only [cofferlaw26_light.l0]
      refine .pos (by omega) ?_
      refine .pos (by omega) ?_
      refine .pos ha ?_
      exact .of rfl
    · by_cases hb : (((rd_T41 fs (i : Int)).f1).size : Int) > 2048
      · refine ⟨false, .step ?_, fun h => by cases h⟩
        simp only [cofferlaw26_light.l0]
        refine .pos (by omega) ?_
        refine .pos (by omega) ?_
        refine .neg ha ?_
        refine .pos hb ?_
        exact .of rfl
      · refine ⟨r, .step ?_, fun h f hf => ?_⟩
        · simp only [cofferlaw26_light.l0]
          refine .pos (by omega) ?_
          refine .pos (by omega) ?_
          refine .neg ha ?_
          refine .neg hb ?_
          rw [wrap_one i (by omega)]
          exact h1
        · rw [List.drop_eq_getElem_cons hlt] at hf
          rw [rd41_at fs i hlt] at hb
          rcases List.mem_cons.1 hf with rfl | hf
          · omega
          · exact h2 h f hf
theorem fstF_mem (n : ByteArray) : ∀ (fs : List S41) (v : ByteArray), fstF n fs = some v → ∃ f ∈ fs, f.f1 = v
  | [], v, h => by cases h
  | f :: r, v, h => by
    unfold fstF at h
    split at h
    · exact ⟨f, List.mem_cons_self, Option.some.inj h⟩
    · obtain ⟨g, hg, e⟩ := fstF_mem n r v h
      exact ⟨g, List.mem_cons_of_mem _ hg, e⟩
theorem getF_size (fs : List S41) (h : ∀ f ∈ fs, f.f1.size ≤ 2048) : (getF AU fs).1.size ≤ 100000 := by
  unfold getF
  split
  · decide
  · split
    · rcases hf : fstF AU fs with _ | v
      · decide
      · obtain ⟨f, hm, rfl⟩ := fstF_mem AU fs v hf
        have := h f hm
        show f.f1.size ≤ 100000
        omega
    · decide
end Go.Proofs.YtnfimhdcpmakpaaDoor.S
namespace Go.Proofs.YtnfimhdcpmakpaaDoor.S
open Go.RowKit Go.Proofs.YtnfimhdcpmakpaaDoorW.PrintWords
set_option linter.unusedVariables false
set_option linter.unusedSimpArgs false
def plainB (c : UInt8) : Bool := (97 ≤ c && c ≤ 122) || (65 ≤ c && c ≤ 90) || (48 ≤ c && c ≤ 57) || c == 45 || c == 46 || c == 95 || c == 126
theorem plain_all : ∀ n : Fin 256, target_plain.f (n.val : Int) = some (plainB (UInt8.ofNat n.val)) := by decide +kernel
theorem plain_f (c : UInt8) : target_plain.f (c.toNat : Int) = some (plainB c) := by
 have := plain_all ⟨c.toNat, c.toNat_lt⟩
 simpa using this
theorem refplain_all : ∀ n : Fin 256, cofferref21_Plain.f (n.val : Int) = some (plainB (UInt8.ofNat n.val)) := by decide +kernel
theorem refplain_f (c : UInt8) : cofferref21_Plain.f (c.toNat : Int) = some (plainB c) := by
 have := refplain_all ⟨c.toNat, c.toNat_lt⟩
 simpa using this
theorem size_mk (l : List UInt8) : (⟨l.toArray⟩ : ByteArray).size = l.length := by simp [ByteArray.size]
theorem toList_mk (l : List UInt8) : (⟨l.toArray⟩ : ByteArray).toList = l := by rw [Lib.toList_data]
theorem bt_mk (l : List UInt8) (j : Nat) (h : j < l.length) : bt ⟨l.toArray⟩ (j : Int) = (l[j].toNat : Int) := by
 unfold bt
 rw [dif_pos (show ((j : Int)).toNat < (⟨l.toArray⟩ : ByteArray).size by rw [size_mk]; omega)]
 rfl
theorem bt_zero (c : UInt8) (r : List UInt8) : bt ⟨(c :: r).toArray⟩ 0 = (c.toNat : Int) := bt_mk (c :: r) 0 (by simp)
theorem bt_one (c d : UInt8) (r : List UInt8) : bt ⟨(c :: d :: r).toArray⟩ 1 = (d.toNat : Int) := bt_mk (c :: d :: r) 1 (by simp)
theorem bt_two (c d e : UInt8) (r : List UInt8) : bt ⟨(c :: d :: e :: r).toArray⟩ 2 = (e.toNat : Int) := bt_mk (c :: d :: e :: r) 2 (by simp)
theorem drop_mk (l : List UInt8) (m : Nat) : (⟨l.toArray⟩ : ByteArray).extract m (⟨l.toArray⟩ : ByteArray).size = ⟨(l.drop m).toArray⟩ := by
 apply ByteArray.ext
 rw [size_mk]
 simp
 exact List.take_of_length_le (by simp)
def ints (l : List UInt8) : List Int := l.map fun c => (c.toNat : Int)
theorem str_ints (l : List UInt8) : strOfNums (ints l) = ⟨l.toArray⟩ := by
 unfold strOfNums ints
 apply ByteArray.ext
 simp only [List.map_map]
 rw [List.map_congr_left (g := id) (fun c _ => by simp)]
 simp
theorem ints_snoc (l : List UInt8) (c : UInt8) : ints l ++ [(c.toNat : Int)] = ints (l ++ [c]) := by simp [ints]
theorem ints_len (l : List UInt8) : (ints l).length = l.length := by simp [ints]
def hexV (c : UInt8) : Option Nat := if 48 ≤ c.toNat ∧ c.toNat ≤ 57 then some (c.toNat - 48) else if 97 ≤ c.toNat ∧ c.toNat ≤ 102 then some (c.toNat - 87) else if 65 ≤ c.toNat ∧ c.toNat ≤ 70 then some (c.toNat - 55) else none
def halfT (c : UInt8) : Int × Bool := match hexV c with | some v => ((v : Int), true) | none => (0, false)
def halfR (c : UInt8) : Int := match hexV c with | some v => (v : Int) | none => -1
theorem half_all : ∀ n : Fin 256, target_half.f 3 (n.val : Int) = some (halfT (UInt8.ofNat n.val)) := by decide +kernel
theorem half_ev (c : UInt8) : Ev (fun k => target_half.f k (c.toNat : Int)) (halfT c) := by
 have := half_all ⟨c.toNat, c.toNat_lt⟩
 exact Ev.mono (fun k => target_half.mono _ k) (K := 3) (by simpa using this)
theorem refhalf_all : ∀ n : Fin 256, cofferref21_half.f 3 (n.val : Int) = some (halfR (UInt8.ofNat n.val)) := by decide +kernel
theorem refhalf_ev (c : UInt8) : Ev (fun k => cofferref21_half.f k (c.toNat : Int)) (halfR c) := by
 have := refhalf_all ⟨c.toNat, c.toNat_lt⟩
 exact Ev.mono (fun k => cofferref21_half.mono _ k) (K := 3) (by simpa using this)
theorem hexV_lt {c : UInt8} {v : Nat} (h : hexV c = some v) : v < 16 := by
 unfold hexV at h
 split at h
 ·
  have := Option.some.inj h; omega
 ·
  split at h
  ·
   have := Option.some.inj h; omega
  ·
   split at h
   ·
    have := Option.some.inj h; omega
   ·
    cases h
theorem bits_all : ∀ x y : Fin 16, Go.bits .or .u8 (((x.val : Int) * 16) % 256) (y.val : Int) = ((16 * x.val + y.val : Nat) : Int) := by decide +kernel
theorem bits_or {x y : Nat} (hx : x < 16) (hy : y < 16) : Go.bits .or .u8 (((x : Int) * 16) % 256) (y : Int) = ((16 * x + y : Nat) : Int) := bits_all ⟨x, hx⟩ ⟨y, hy⟩
def hexPair (a b : UInt8) : Option UInt8 := match hexV a, hexV b with | some x, some y => if 16 * x + y = 0 then none else some (UInt8.ofNat (16 * x + y)) | _, _ => none
def partL : List UInt8 → Option (List UInt8)
 | [] => some []
 | c :: r => if plainB c then (partL r).map (c :: ·) else if c = 37 then (match r with | a :: b :: q => (match hexPair a b with | some v => (partL q).map (v :: ·) | none => none) | _ => none) else none
theorem partL_cons (c : UInt8) (r : List UInt8) : partL (c :: r) = if plainB c then (partL r).map (c :: ·) else if c = 37 then (match r with | a :: b :: q => (match hexPair a b with | some v => (partL q).map (v :: ·) | none => none) | _ => none) else none := by rw [partL.eq_def]
def partT (l : List UInt8) : ByteArray × Bool := match partL l with | some o => (⟨o.toArray⟩, true) | none => (⟨#[]⟩, false)
def partTo (out l : List UInt8) : ByteArray × Bool := match partL l with | some o => (⟨(out ++ o).toArray⟩, true) | none => (⟨#[]⟩, false)
theorem partTo_nil : partTo [] = partT := by
 funext l
 unfold partTo partT
 cases partL l <;> rfl
theorem partTo_map (out : List UInt8) (v : UInt8) (l q : List UInt8) (h : partL l = (partL q).map (v :: ·)) : partTo out l = partTo (out ++ [v]) q := by
 unfold partTo
 rw [h]
 cases partL q <;> simp
theorem part_ev : ∀ (n : Nat) (l out : List UInt8), l.length ≤ n → l.length + out.length ≤ 1000000 → Ev (fun k => target_part.l0 k ⟨l.toArray⟩ (ints out)) (partTo out l)
 | 0, l, out, hn, hb => by
  obtain rfl : l = [] := List.eq_nil_of_length_eq_zero (by omega)
  refine .step ?_
  simp only [target_part.l0]
  refine .neg (by rw [size_mk]; simp) ?_
  refine .of ?_
  rw [str_ints]
  simp [partTo, partL]
 | n + 1, [], out, hn, hb => by
  refine .step ?_
  simp only [target_part.l0]
  refine .neg (by rw [size_mk]; simp) ?_
  refine .of ?_
  rw [str_ints]
  simp [partTo, partL]
 | n + 1, c :: r, out, hn, hb => by
  rw [List.length_cons] at hn hb
  have hsz : (⟨(c :: r).toArray⟩ : ByteArray).size = r.length + 1 := by rw [size_mk]; rfl
  refine .step ?_
  simp only [target_part.l0]
  refine .pos (by omega) ?_
  refine .pos (by omega) ?_
  rw [bt_zero]
  refine .bind (.of (plain_f c)) ?_
  by_cases hp : plainB c = true
  ·
   refine .pos hp ?_
   refine .pos (by rw [ints_len]; omega) ?_
   refine .pos (by omega) ?_
   rw [drop_mk, ints_snoc, partTo_map out c (c :: r) r (by rw [partL_cons, if_pos hp])]
   exact part_ev n r (out ++ [c]) (by omega) (by simp; omega)
  ·
   refine .neg hp ?_
   by_cases h37 : c = 37
   ·
    subst h37
    refine .pos (by decide) ?_
    rcases r with _ | ⟨a, _ | ⟨b, q⟩⟩
    ·
     have hpl : partL [37] = none := by rw [partL_cons, if_neg hp, if_pos rfl]
     refine .step ?_
     simp only [target_part.j1]
     refine .pos (by rw [hsz]; simp) ?_
     exact .of (by unfold partTo; rw [hpl])
    ·
     have hpl : partL [37, a] = none := by rw [partL_cons, if_neg hp, if_pos rfl]
     refine .step ?_
     simp only [target_part.j1]
     refine .pos (by rw [hsz]; simp) ?_
     exact .of (by unfold partTo; rw [hpl])
    ·
     have hpl : partL (37 :: a :: b :: q) = (match hexPair a b with | some v => (partL q).map (v :: ·) | none => none) := by rw [partL_cons, if_neg hp, if_pos rfl]
     rw [List.length_cons, List.length_cons] at hsz hn hb
     refine .step ?_
     simp only [target_part.j1]
     refine .neg (by rw [hsz]; simp; omega) ?_
     refine .pos (by omega) ?_
     rw [bt_one, bt_two]
     refine .bind (half_ev a) ?_
     refine .pos (by omega) ?_
     refine .bind (half_ev b) ?_
     unfold halfT
     rcases ha : hexV a with _ | x
     ·
      refine .neg (by simp) ?_
      exact .of (by unfold partTo; rw [hpl]; simp only [hexPair, ha])
     ·
      refine .pos rfl ?_
      rcases hbx : hexV b with _ | y
      ·
       refine .neg (by simp) ?_
       exact .of (by unfold partTo; rw [hpl]; simp only [hexPair, ha, hbx])
      ·
       refine .pos rfl ?_
       have hx := hexV_lt ha
       have hy := hexV_lt hbx
       simp only []
       rw [bits_or hx hy]
       by_cases h0 : 16 * x + y = 0
       ·
        refine .pos (by omega) ?_
        exact .of (by unfold partTo; rw [hpl]; simp only [hexPair, ha, hbx]; rw [if_pos h0])
       ·
        refine .neg (by omega) ?_
        refine .pos (by rw [ints_len]; omega) ?_
        refine .pos (by omega) ?_
        have hv : ((16 * x + y : Nat) : Int) = ((UInt8.ofNat (16 * x + y)).toNat : Int) := by
         rw [UInt8.toNat_ofNat', Nat.mod_eq_of_lt (by omega)]
        rw [hv, drop_mk, ints_snoc, partTo_map out (UInt8.ofNat (16 * x + y)) (37 :: a :: b :: q) q (by rw [hpl]; simp only [hexPair, ha, hbx]; rw [if_neg h0])]
        exact part_ev n q (out ++ [UInt8.ofNat (16 * x + y)]) (by omega) (by simp; omega)
   ·
    have hne : ¬ ((c.toNat : Int) = 37) := fun h => h37 (UInt8.toNat_inj.1 (by have : (37 : UInt8).toNat = 37 := rfl; omega))
    refine .neg hne ?_
    refine .step ?_
    simp only [target_part.j1]
    refine .pos (by simp) ?_
    exact .of (by unfold partTo; rw [partL_cons, if_neg hp, if_neg h37])
theorem part_f (l : List UInt8) (h : l.length ≤ 1000000) : Ev (fun k => target_part.f k ⟨l.toArray⟩) (partT l) := by
 have := part_ev l.length l [] (Nat.le_refl _) (by simpa using h)
 rw [partTo_nil] at this
 exact this
theorem wrap_succ (i : Nat) (h : i ≤ 1000000000) : wrap64 ((i : Int) + 1) = ((i + 1 : Nat) : Int) := by unfold wrap64; omega
theorem zeroB_cons (b : UInt8) (l : List UInt8) : zeroB (b :: l) = (b == 0 || zeroB l) := by
 have he : Lib.indexByte (b :: l) 0 = if b == 0 then 0 else if Lib.indexByte l 0 == -1 then -1 else Lib.indexByte l 0 + 1 := rfl
 unfold zeroB
 rw [he]
 have := Lib.indexByte_ge l 0
 by_cases hb : b = 0
 ·
  subst hb; simp
 ·
  rw [if_neg (by simpa using hb)]
  have hb2 : (b == 0) = false := by simpa using hb
  rw [hb2, Bool.false_or]
  by_cases h : Lib.indexByte l 0 = -1
  ·
   rw [if_pos (by simpa using h), h]
  ·
   rw [if_neg (by simpa using h)]
   rw [Bool.eq_iff_iff, decide_eq_true_iff, decide_eq_true_iff]
   omega
theorem zeroB_app (a b : List UInt8) : zeroB (a ++ b) = (zeroB a || zeroB b) := by
 induction a with
 | nil =>
   have : zeroB [] = false := by decide
   rw [this]; rfl
 | cons c a ih => rw [List.cons_append, zeroB_cons, zeroB_cons, ih, Bool.or_assoc]
theorem mk_data (s : ByteArray) : (⟨s.data.toList.toArray⟩ : ByteArray) = s := by apply ByteArray.ext; simp
theorem bt_at_list (s : ByteArray) (i : Nat) (h : i < s.data.toList.length) : bt s (i : Int) = (s.data.toList[i].toNat : Int) := by
 have := bt_mk s.data.toList i h
 rwa [mk_data] at this
theorem zero_ev (s : ByteArray) (hs : s.size ≤ 1000000000) : ∀ (d i : Nat), i + d = s.size → Ev (fun k => cofferref21_zero.l0 k s (i : Int)) (zeroB (s.data.toList.drop i))
 | 0, i, hi => by
  refine .step ?_
  simp only [cofferref21_zero.l0]
  refine .neg (by omega) ?_
  refine .of ?_
  rw [List.drop_of_length_le (by rw [Array.length_toList]; show s.size ≤ i; omega)]
  rfl
 | d + 1, i, hi => by
  have hlt : i < s.data.toList.length := by rw [Array.length_toList]; show i < s.size; omega
  refine .step ?_
  simp only [cofferref21_zero.l0]
  refine .pos (by omega) ?_
  refine .pos (by omega) ?_
  rw [bt_at_list s i hlt, List.drop_eq_getElem_cons hlt, zeroB_cons]
  by_cases h0 : s.data.toList[i] = 0
  ·
   refine .pos (by rw [h0]; rfl) ?_
   exact .of (by rw [h0]; rfl)
  ·
   refine .neg (fun h => h0 (UInt8.toNat_inj.1 (by have : (0 : UInt8).toNat = 0 := rfl; omega))) ?_
   rw [wrap_succ i (by omega), show (s.data.toList[i] == 0) = false by simpa using h0, Bool.false_or]
   exact zero_ev s hs d (i + 1) (by omega)
theorem zero_f (s : ByteArray) (hs : s.size ≤ 1000000000) : Ev (fun k => cofferref21_zero.f k s) (zeroB s.data.toList) := by
 have := zero_ev s hs s.size 0 (by omega)
 rwa [List.drop_zero] at this
theorem toList_eq_nil (s : ByteArray) : s.toList = ([] : List UInt8) ↔ s.size = 0 := by
 rw [Lib.toList_data]
 constructor
 ·
  intro h; have := congrArg List.length h; rwa [Array.length_toList] at this
 ·
  intro h; exact List.eq_nil_of_length_eq_zero (by rw [Array.length_toList]; exact h)
theorem contains_any (l : List S91) (n : List UInt8) : (l.map fun p => p.f0.data.toList).contains n = l.any fun p => p.f0.data.toList == n := by
 induction l with
 | nil => rfl
 | cons a l ih =>
  rw [List.map_cons, List.contains_cons, List.any_cons, ih]
  congr 1
  rw [Bool.eq_iff_iff, beq_iff_eq, beq_iff_eq]
  exact ⟨Eq.symm, Eq.symm⟩
def nmAt (l : List S91) (i : Nat) : List UInt8 := (l.getD i z91).f0.data.toList
section
variable (l0 : List ByteArray) (l1 : List S91) (hsm : smallQ l1 = true) (hl0 : l0.length ≤ 1048576) (hl1 : l1.length ≤ 1048576)
def nextQ (i : Nat) : Bool := mayQ ((l1.take i).map fun p => p.f0.data.toList) (l1.drop i)
include hl1 in
theorem may_l2 (i : Nat) (hi : i < l1.length) (b : Bool) (hn : Ev (fun k => cofferref21_May.l1 k ((i + 1 : Nat) : Int) l0 l1) b) : ∀ (d j : Nat), j + d = i →
  Ev (fun k => cofferref21_May.l2 k (i : Int) (j : Int) l0 l1) (!(((l1.take i).drop j).any fun p => p.f0.data.toList == nmAt l1 i) && b)
 | 0, j, hj => by
  refine .step ?_
  simp only [cofferref21_May.l2]
  refine .neg (by omega) ?_
  rw [wrap_succ i (by omega), List.drop_of_length_le (by rw [List.length_take]; omega)]
  exact hn
 | d + 1, j, hj => by
  refine .step ?_
  simp only [cofferref21_May.l2]
  refine .pos (by omega) ?_
  refine .pos (by omega) ?_
  refine .pos (by omega) ?_
  refine .pos (by omega) ?_
  refine .pos (by omega) ?_
  have hjt : j < (l1.take i).length := by rw [List.length_take]; omega
  have hdr := List.drop_eq_getElem_cons hjt
  have hg : (l1.take i)[j] = l1.getD j z91 := by rw [List.getElem_take, List.getD_eq_getElem?_getD, List.getElem?_eq_getElem (by omega)]; rfl
  rw [hdr, hg, List.any_cons]
  unfold rd_T91
  rw [Int.toNat_natCast, Int.toNat_natCast, Lib.toList_data, Lib.toList_data]
  by_cases h : (l1.getD j z91).f0.data.toList = (l1.getD i z91).f0.data.toList
  ·
   refine .pos h ?_
   have : ((l1.getD j z91).f0.data.toList == nmAt l1 i) = true := beq_iff_eq.2 h
   rw [this]
   exact .of rfl
  ·
   refine .neg h ?_
   have : ((l1.getD j z91).f0.data.toList == nmAt l1 i) = false := beq_eq_false_iff_ne.2 h
   rw [this, Bool.false_or, wrap_succ j (by omega)]
   exact may_l2 i hi b hn d (j + 1) (by omega)
include hl1 hsm in
theorem may_l1 : ∀ (d i : Nat), i + d = l1.length → Ev (fun k => cofferref21_May.l1 k (i : Int) l0 l1) (nextQ l1 i)
 | 0, i, hi => by
  refine .step ?_
  simp only [cofferref21_May.l1]
  refine .neg (by omega) ?_
  refine .of ?_
  unfold nextQ
  rw [List.drop_of_length_le (by omega)]
  rfl
 | d + 1, i, hi => by
  have hlt : i < l1.length := by omega
  have hdr := drop_rd z91 l1 i hlt
  have hsz : (l1.getD i z91).f0.size ≤ 1048576 ∧ (l1.getD i z91).f1.size ≤ 1048576 := by
   have := List.all_eq_true.1 hsm (l1.getD i z91) (by rw [List.getD_eq_getElem?_getD, List.getElem?_eq_getElem hlt]; exact List.getElem_mem hlt)
   simpa using this
  have hnx : nextQ l1 i = (!((l1.getD i z91).f0.size == 0) && !zeroB ((l1.getD i z91).f0 ++ (l1.getD i z91).f1).data.toList && !(((l1.take i).any fun p => p.f0.data.toList == nmAt l1 i)) && nextQ l1 (i + 1)) := by
   unfold nextQ
   rw [hdr, mayQ_cons, contains_any, List.take_succ_eq_append_getElem hlt, List.map_append]
   have : l1.getD i z91 = l1[i] := by rw [List.getD_eq_getElem?_getD, List.getElem?_eq_getElem hlt]; rfl
   unfold nmAt
   rw [this]
   rfl
  have hap : ((l1.getD i z91).f0 ++ (l1.getD i z91).f1).data.toList = (l1.getD i z91).f0.data.toList ++ (l1.getD i z91).f1.data.toList := by simp
  rw [hap, zeroB_app] at hnx
  have ih := may_l1 d (i + 1) (by omega)
  have hl2 := may_l2 l0 l1 hl1 i hlt _ ih i 0 (by omega)
  rw [List.drop_zero] at hl2
  have j2f : Ev (fun k => cofferref21_May.j2 k (i : Int) false l0 l1) (!((l1.take i).any fun p => p.f0.data.toList == nmAt l1 i) && nextQ l1 (i + 1)) := by
   refine .step ?_
   simp only [cofferref21_May.j2]
   refine .neg (by simp) ?_
   exact hl2
  have j2t : Ev (fun k => cofferref21_May.j2 k (i : Int) true l0 l1) false := by
   refine .step ?_
   simp only [cofferref21_May.j2]
   refine .pos (by simp) ?_
   exact .of rfl
  refine .step ?_
  simp only [cofferref21_May.l1]
  refine .pos (by omega) ?_
  refine .pos (by omega) ?_
  unfold rd_T91
  rw [Int.toNat_natCast]
  generalize l1.getD i z91 = p at *
  rw [hnx]
  by_cases hz : p.f0.size = 0
  ·
   refine .pos ((toList_eq_nil _).2 hz) ?_
   rw [show (p.f0.size == 0) = true by rw [beq_iff_eq]; exact hz]
   exact j2t
  ·
   refine .neg (fun h => hz ((toList_eq_nil _).1 h)) ?_
   rw [beq_eq_false_iff_ne.2 hz]
   refine .bind (zero_f p.f0 (by omega)) ?_
   rcases h1 : zeroB p.f0.data.toList with _ | _
   ·
    refine .neg (by simp) ?_
    refine .bind (zero_f p.f1 (by omega)) ?_
    rcases h2 : zeroB p.f1.data.toList with _ | _
    ·
     simpa using j2f
    ·
     simpa using j2t
   ·
    refine .pos (by simp) ?_
    simpa using j2t
include hl0 hl1 hsm in
theorem may_l0 (hP : ∀ s ∈ l0, s.size ≤ 1048576) : ∀ (d i : Nat), i + d = l0.length → Ev (fun k => cofferref21_May.l0 k (i : Int) l0 l1) (mayP (l0.drop i) && mayQ [] l1)
 | 0, i, hi => by
  refine .step ?_
  simp only [cofferref21_May.l0]
  refine .neg (by omega) ?_
  rw [List.drop_of_length_le (by omega)]
  have := may_l1 l0 l1 hsm hl1 l1.length 0 (by omega)
  simpa [nextQ, mayP] using this
 | d + 1, i, hi => by
  have hlt : i < l0.length := by omega
  have hdr := drop_rd ByteArray.empty l0 i hlt
  have hm : l0.getD i ByteArray.empty ∈ l0 := by rw [List.getD_eq_getElem?_getD, List.getElem?_eq_getElem hlt]; exact List.getElem_mem hlt
  have hs := hP _ hm
  have ih := may_l0 hP d (i + 1) (by omega)
  refine .step ?_
  simp only [cofferref21_May.l0]
  refine .pos (by omega) ?_
  refine .pos (by omega) ?_
  unfold rdOf
  rw [Int.toNat_natCast, hdr, mayP_cons]
  generalize l0.getD i ByteArray.empty = s at *
  by_cases hz : s.size = 0
  ·
   refine .pos ((toList_eq_nil _).2 hz) ?_
   exact .of (by rw [show (s.size == 0) = true by rw [beq_iff_eq]; exact hz]; rfl)
  ·
   refine .neg (fun h => hz ((toList_eq_nil _).1 h)) ?_
   rw [beq_eq_false_iff_ne.2 hz]
   refine .bind (zero_f s (by omega)) ?_
   rcases h1 : zeroB s.data.toList with _ | _
   ·
    refine .neg (by simp) ?_
    rw [wrap_succ i (by omega)]
    simpa using ih
   ·
    refine .pos (by simp) ?_
    exact .of (by simp)
include hl0 hl1 hsm in
theorem refmay_ev (hP : ∀ s ∈ l0, s.size ≤ 1048576) : Ev (fun k => cofferref21_May.f k l0 l1) (mayB l0 l1) := by
 have := may_l0 l0 l1 hsm hl0 hl1 hP l0.length 0 (by omega)
 exact this
end
def partR : List UInt8 → Option (List UInt8 × List UInt8)
 | [] => some ([], [])
 | c :: r => if plainB c then (partR r).map (fun p => (c :: p.1, p.2)) else if c = 37 then (match r with | a :: b :: q => (match hexPair a b with | some v => (partR q).map (fun p => (v :: p.1, p.2)) | none => none) | _ => none) else some ([], c :: r)
theorem partR_cons (c : UInt8) (r : List UInt8) : partR (c :: r) = if plainB c then (partR r).map (fun p => (c :: p.1, p.2)) else if c = 37 then (match r with | a :: b :: q => (match hexPair a b with | some v => (partR q).map (fun p => (v :: p.1, p.2)) | none => none) | _ => none) else some ([], c :: r) := by rw [partR.eq_def]
def ansR (S out : List UInt8) (p : Option (List UInt8 × List UInt8)) (j : Int) : ByteArray × Int × Bool :=
 match p with | some (o, q) => (⟨(out ++ o).toArray⟩, ((S.length - q.length : Nat) : Int), true) | none => (⟨#[]⟩, j, false)
theorem ansR_map (S out : List UInt8) (v : UInt8) (p : Option (List UInt8 × List UInt8)) (j : Int) : ansR S out (p.map fun p => (v :: p.1, p.2)) j = ansR S (out ++ [v]) p j := by
 cases p <;> simp [ansR]
theorem at_drop {S r : List UInt8} {at_ : Nat} {c : UInt8} (h : S.drop at_ = c :: r) : at_ < S.length ∧ bt ⟨S.toArray⟩ (at_ : Int) = (c.toNat : Int) ∧ S.drop (at_ + 1) = r ∧ S.length = at_ + 1 + r.length := by
 have hlt : at_ < S.length := by
  rcases Nat.lt_or_ge at_ S.length with h1 | h1
  ·
   exact h1
  ·
   rw [List.drop_of_length_le h1] at h; cases h
 have h2 := List.drop_eq_getElem_cons hlt
 rw [h2] at h
 injection h with h3 h4
 refine ⟨hlt, by rw [bt_mk S at_ hlt, h3], h4, ?_⟩
 have := congrArg List.length h4
 rw [List.length_drop] at this
 omega
theorem ext_one {S r : List UInt8} {at_ : Nat} {c : UInt8} (h : S.drop at_ = c :: r) : (⟨S.toArray⟩ : ByteArray).extract at_ (at_ + 1) = ⟨[c].toArray⟩ := by
 apply ByteArray.ext
 simp [h]
theorem app_mk (a b : List UInt8) : (⟨a.toArray⟩ : ByteArray) ++ ⟨b.toArray⟩ = ⟨(a ++ b).toArray⟩ := by
 apply ByteArray.ext
 simp
theorem wrap_add (i j : Nat) (h : i + j ≤ 1000000000) : wrap64 ((i : Int) + (j : Int)) = ((i + j : Nat) : Int) := by unfold wrap64; omega
theorem wrap_two (i : Nat) (h : i ≤ 1000000000) : wrap64 ((i : Int) + 2) = ((i + 2 : Nat) : Int) := by unfold wrap64; omega
theorem wrap_three (i : Nat) (h : i ≤ 1000000000) : wrap64 ((i : Int) + 3) = ((i + 3 : Nat) : Int) := by unfold wrap64; omega
theorem wrap_id (z : Int) (h0 : -1000000000 ≤ z) (h1 : z ≤ 1000000000) : wrap64 z = z := by unfold wrap64; omega
theorem str_one (v : Nat) (h : v < 256) : strOfNums [(v : Int)] = ⟨[UInt8.ofNat v].toArray⟩ := by
 have := str_ints [UInt8.ofNat v]
 unfold ints at this
 simpa [Nat.mod_eq_of_lt h] using this
theorem j1_bad (S : ByteArray) (at_ : Int) (out : ByteArray) : Ev (fun k => cofferref21_part.j1 k S at_ out true) (⟨#[]⟩, at_, false) := by
 refine .step ?_
 simp only [cofferref21_part.j1]
 refine .pos (by simp) ?_
 exact .of rfl
set_option maxHeartbeats 1000000 in
theorem refpart_ev (S : List UInt8) (hS : S.length ≤ 1000000) : ∀ (n : Nat) (l : List UInt8) (at_ : Nat) (out : List UInt8), l.length ≤ n → S.drop at_ = l → at_ ≤ S.length → out.length + l.length ≤ 2000000 →
  ∃ j : Int, Ev (fun k => cofferref21_part.l0 k ⟨S.toArray⟩ (at_ : Int) ⟨out.toArray⟩) (ansR S out (partR l) j)
 | n, [], at_, out, hn, hd, ha, ho => by
  refine ⟨0, ?_⟩
  have hl := congrArg List.length hd
  rw [List.length_drop] at hl
  have hl2 : at_ = S.length := by simp at hl; omega
  refine .step ?_
  simp only [cofferref21_part.l0]
  refine .neg (by rw [size_mk]; omega) ?_
  exact .of (by simp [ansR, partR, hl2])
 | 0, c :: r, at_, out, hn, hd, ha, ho => by simp at hn
 | n + 1, c :: r, at_, out, hn, hd, ha, ho => by
  rw [List.length_cons] at hn ho
  obtain ⟨hlt, hbt, hdr, hSl⟩ := at_drop hd
  have hsz : (⟨S.toArray⟩ : ByteArray).size = at_ + 1 + r.length := by rw [size_mk]; exact hSl
  by_cases hp : plainB c = true
  ·
   obtain ⟨j, ih⟩ := refpart_ev S hS n r (at_ + 1) (out ++ [c]) (by omega) hdr (by omega) (by simp; omega)
   refine ⟨j, ?_⟩
   refine .step ?_
   simp only [cofferref21_part.l0]
   refine .pos (by omega) ?_
   refine .pos (by omega) ?_
   rw [hbt]
   refine .bind (.of (refplain_f c)) ?_
   refine .pos hp ?_
   rw [wrap_succ at_ (by omega)]
   refine .pos (by omega) ?_
   refine .pos (by omega) ?_
   rw [Int.toNat_natCast, Int.toNat_natCast, ext_one hd]
   refine .pos (by rw [size_mk, size_mk]; simp; omega) ?_
   rw [app_mk, partR_cons, if_pos hp, ansR_map]
   exact ih
  ·
   by_cases h37 : c = 37
   ·
    subst h37
    have hbad : ∀ p, partR (37 :: r) = p → p = none → Ev (fun k => cofferref21_part.l0 k ⟨S.toArray⟩ (at_ : Int) ⟨out.toArray⟩) ((⟨#[]⟩ : ByteArray), (at_ : Int), false) → ∃ j : Int, Ev (fun k => cofferref21_part.l0 k ⟨S.toArray⟩ (at_ : Int) ⟨out.toArray⟩) (ansR S out (partR (37 :: r)) j) := by
     intro p hp1 hp2 he
     refine ⟨(at_ : Int), ?_⟩
     rw [hp1, hp2]
     exact he
    have hjb := j1_bad ⟨S.toArray⟩ (at_ : Int) ⟨out.toArray⟩
    have start : ∀ {res}, Ev (fun k => (if (wrap64 ((at_ : Int) + 2)) ≥ ((⟨S.toArray⟩ : ByteArray).size : Int) then (cofferref21_part.j1 k ⟨S.toArray⟩ (at_ : Int) ⟨out.toArray⟩ true) else (if 0 ≤ (wrap64 ((at_ : Int) + 1)) then (if (wrap64 ((at_ : Int) + 1)) < ((⟨S.toArray⟩ : ByteArray).size : Int) then ((cofferref21_half.f k (bt ⟨S.toArray⟩ (wrap64 ((at_ : Int) + 1)))).bind fun t192 => (if t192 < 0 then (cofferref21_part.j1 k ⟨S.toArray⟩ (at_ : Int) ⟨out.toArray⟩ true) else (if 0 ≤ (wrap64 ((at_ : Int) + 2)) then (if (wrap64 ((at_ : Int) + 2)) < ((⟨S.toArray⟩ : ByteArray).size : Int) then ((cofferref21_half.f k (bt ⟨S.toArray⟩ (wrap64 ((at_ : Int) + 2)))).bind fun t193 => (if t193 < 0 then (cofferref21_part.j1 k ⟨S.toArray⟩ (at_ : Int) ⟨out.toArray⟩ true) else ((cofferref21_half.f k (bt ⟨S.toArray⟩ (wrap64 ((at_ : Int) + 1)))).bind fun t194 => ((cofferref21_half.f k (bt ⟨S.toArray⟩ (wrap64 ((at_ : Int) + 2)))).bind fun t195 => (cofferref21_part.j1 k ⟨S.toArray⟩ (at_ : Int) ⟨out.toArray⟩ ((wrap64 (t194 + t195)) == 0)))))) else (none)) else (none)))) else (none)) else (none)))) res → Ev (fun k => cofferref21_part.l0 k ⟨S.toArray⟩ (at_ : Int) ⟨out.toArray⟩) res := by
     intro res he
     refine .step ?_
     simp only [cofferref21_part.l0]
     refine .pos (by omega) ?_
     refine .pos (by omega) ?_
     rw [hbt]
     refine .bind (.of (refplain_f 37)) ?_
     refine .neg hp ?_
     refine .pos (by decide) ?_
     exact he
    rcases r with _ | ⟨a, _ | ⟨b, q⟩⟩
    ·
     refine hbad _ (by rw [partR_cons, if_neg hp, if_pos rfl]) rfl (start ?_)
     rw [wrap_two at_ (by omega)]
     exact .pos (by rw [hsz]; simp) hjb
    ·
     refine hbad _ (by rw [partR_cons, if_neg hp, if_pos rfl]) rfl (start ?_)
     rw [wrap_two at_ (by omega)]
     exact .pos (by rw [hsz]; simp; omega) hjb
    ·
     obtain ⟨hlt1, hbt1, hdr1, hSl1⟩ := at_drop hdr
     obtain ⟨hlt2, hbt2, hdr2, hSl2⟩ := at_drop hdr1
     rw [List.length_cons, List.length_cons] at hsz hn ho
     have hpl : partR (37 :: a :: b :: q) = (match hexPair a b with | some v => (partR q).map (fun p => (v :: p.1, p.2)) | none => none) := by rw [partR_cons, if_neg hp, if_pos rfl]
     rw [wrap_succ at_ (by omega), wrap_two at_ (by omega), hbt1, hbt2] at start
     rcases hax : hexV a with _ | x
     ·
      refine hbad _ hpl (by simp only [hexPair, hax]) (start ?_)
      refine .neg (by omega) ?_
      refine .pos (by omega) ?_
      refine .pos (by omega) ?_
      refine .bind (refhalf_ev a) ?_
      exact .pos (by simp [halfR, hax]) hjb
     ·
      have hx := hexV_lt hax
      have ha1 : halfR a = (x : Int) := by simp [halfR, hax]
      rcases hbx : hexV b with _ | y
      ·
       refine hbad _ hpl (by simp only [hexPair, hax, hbx]) (start ?_)
       refine .neg (by omega) ?_
       refine .pos (by omega) ?_
       refine .pos (by omega) ?_
       refine .bind (refhalf_ev a) ?_
       refine .neg (by rw [ha1]; omega) ?_
       refine .pos (by omega) ?_
       refine .pos (by omega) ?_
       refine .bind (refhalf_ev b) ?_
       exact .pos (by simp [halfR, hbx]) hjb
      ·
       have hy := hexV_lt hbx
       have hb1 : halfR b = (y : Int) := by simp [halfR, hbx]
       have st2 : ∀ {res}, Ev (fun k => cofferref21_part.j1 k ⟨S.toArray⟩ (at_ : Int) ⟨out.toArray⟩ ((wrap64 ((x : Int) + (y : Int))) == 0)) res → Ev (fun k => cofferref21_part.l0 k ⟨S.toArray⟩ (at_ : Int) ⟨out.toArray⟩) res := by
        intro res he
        refine start ?_
        refine .neg (by omega) ?_
        refine .pos (by omega) ?_
        refine .pos (by omega) ?_
        refine .bind (refhalf_ev a) ?_
        refine .neg (by rw [ha1]; omega) ?_
        refine .pos (by omega) ?_
        refine .pos (by omega) ?_
        refine .bind (refhalf_ev b) ?_
        refine .neg (by rw [hb1]; omega) ?_
        refine .bind (refhalf_ev a) ?_
        refine .bind (refhalf_ev b) ?_
        rw [ha1, hb1]
        exact he
       rw [wrap_add x y (by omega)] at st2
       by_cases h0 : 16 * x + y = 0
       ·
        refine hbad _ hpl (by simp only [hexPair, hax, hbx]; rw [if_pos h0]) (st2 ?_)
        rw [show (((x + y : Nat) : Int) == 0) = true by rw [beq_iff_eq]; omega]
        exact hjb
       ·
        obtain ⟨j, ih⟩ := refpart_ev S hS n q (at_ + 3) (out ++ [UInt8.ofNat (16 * x + y)]) (by omega) hdr2 (by omega) (by simp; omega)
        refine ⟨j, st2 ?_⟩
        rw [show (((x + y : Nat) : Int) == 0) = false by rw [beq_eq_false_iff_ne]; omega]
        refine .step ?_
        simp only [cofferref21_part.j1]
        refine .neg (by simp) ?_
        rw [wrap_succ at_ (by omega), wrap_two at_ (by omega), wrap_three at_ (by omega), hbt1, hbt2]
        refine .pos (by omega) ?_
        refine .pos (by omega) ?_
        refine .bind (refhalf_ev a) ?_
        refine .pos (by omega) ?_
        refine .pos (by omega) ?_
        refine .bind (refhalf_ev b) ?_
        have hv : wrap64 (wrap64 (16 * halfR a) + halfR b) % 256 = ((16 * x + y : Nat) : Int) := by
         rw [ha1, hb1, wrap_id (16 * (x : Int)) (by omega) (by omega), wrap_id (16 * (x : Int) + (y : Int)) (by omega) (by omega)]
         omega
        rw [hv]
        refine .bind (f := fun _ => some [((16 * x + y : Nat) : Int)]) (.of rfl) ?_
        rw [str_one _ (by omega)]
        refine .pos (by rw [size_mk, size_mk]; simp; omega) ?_
        rw [app_mk, hpl]
        simp only [hexPair, hax, hbx]
        rw [if_neg h0]
        simp only []
        rw [ansR_map]
        exact ih
   ·
    refine ⟨0, ?_⟩
    refine .step ?_
    simp only [cofferref21_part.l0]
    refine .pos (by omega) ?_
    refine .pos (by omega) ?_
    rw [hbt]
    refine .bind (.of (refplain_f c)) ?_
    refine .neg hp ?_
    refine .neg (fun h => h37 (UInt8.toNat_inj.1 (by have : (37 : UInt8).toNat = 37 := rfl; omega))) ?_
    refine .of ?_
    rw [partR_cons, if_neg hp, if_neg h37]
    simp only [ansR]
    rw [List.append_nil]
    congr 2
    simp; omega
theorem refpart_f (S : List UInt8) (hS : S.length ≤ 1000000) (at_ : Nat) (ha : at_ ≤ S.length) : ∃ j : Int, Ev (fun k => cofferref21_part.f k ⟨S.toArray⟩ (at_ : Int)) (ansR S [] (partR (S.drop at_)) j) :=
 refpart_ev S hS (S.drop at_).length (S.drop at_) at_ [] (Nat.le_refl _) rfl ha (by simp; omega)
def Stop (c : UInt8) : Prop := plainB c = false ∧ c ≠ 37
def StopL (l : List UInt8) : Prop := ∀ c r, l = c :: r → Stop c ∧ hexV c = none
theorem stopL_nil : StopL [] := fun c r h => by cases h
theorem stopL_cons {c : UInt8} {r : List UInt8} (h : Stop c) (h2 : hexV c = none) : StopL (c :: r) := fun d q e => by injection e with e1 e2; subst e1; exact ⟨h, h2⟩
theorem partR_stop {l : List UInt8} (h : StopL l) : partR l = some ([], l) := by
 rcases l with _ | ⟨c, r⟩
 ·
  rfl
 ·
  obtain ⟨⟨h1, h2⟩, _⟩ := h c r rfl
  rw [partR_cons, if_neg (by rw [h1]; simp), if_neg h2]
theorem hexPair_none_r {a b : UInt8} (h : hexV b = none) : hexPair a b = none := by
 unfold hexPair
 rw [h]
 cases hexV a <;> rfl
theorem hexPair_none_l {a b : UInt8} (h : hexV a = none) : hexPair a b = none := by
 unfold hexPair
 rw [h]
theorem part_both : ∀ (n : Nat) (x m : List UInt8), x.length ≤ n → StopL m →
  (∀ o, partL x = some o → partR (x ++ m) = some (o, m)) ∧
  (partL x = none → partR (x ++ m) = none ∨ ∃ o y r, partR (x ++ m) = some (o, y :: r) ∧ y ∈ x ∧ Stop y)
 | _, [], m, _, hm => ⟨fun o h => by
   have : o = [] := by simpa [partL] using h.symm
   rw [this]; exact partR_stop hm, fun h => by simp [partL] at h⟩
 | 0, c :: x, m, hn, hm => by simp at hn
 | n + 1, c :: x, m, hn, hm => by
  rw [List.length_cons] at hn
  rw [List.cons_append, partL_cons, partR_cons]
  by_cases hp : plainB c = true
  ·
   obtain ⟨h1, h2⟩ := part_both n x m (by omega) hm
   rw [if_pos hp, if_pos hp]
   refine ⟨fun o h => ?_, fun h => ?_⟩
   ·
    obtain ⟨o', ho, rfl⟩ := Option.map_eq_some_iff.1 h
    rw [h1 o' ho]; rfl
   ·
    have hx : partL x = none := by simpa using h
    rcases h2 hx with h3 | ⟨o, y, r, h3, h4, h5⟩
    ·
     left; rw [h3]; rfl
    ·
     right; exact ⟨c :: o, y, r, by rw [h3]; rfl, by simp [h4], h5⟩
  ·
   rw [if_neg hp, if_neg hp]
   by_cases h37 : c = 37
   ·
    rw [if_pos h37, if_pos h37]
    rcases x with _ | ⟨a, _ | ⟨b, q⟩⟩
    ·
     refine ⟨(fun o h => by cases h), fun _ => ?_⟩
     left
     rcases m with _ | ⟨d, _ | ⟨e, m⟩⟩
     ·
      rfl
     ·
      rfl
     ·
      have := (hm d (e :: m) rfl).2
      show (match hexPair d e with | some v => (partR m).map (fun p => (v :: p.1, p.2)) | none => none) = none
      rw [hexPair_none_l this]
    ·
     refine ⟨(fun o h => by cases h), fun _ => ?_⟩
     left
     rcases m with _ | ⟨d, m⟩
     ·
      rfl
     ·
      have := (hm d m rfl).2
      show (match hexPair a d with | some v => (partR m).map (fun p => (v :: p.1, p.2)) | none => none) = none
      rw [hexPair_none_r this]
    ·
     rw [List.length_cons, List.length_cons] at hn
     obtain ⟨h1, h2⟩ := part_both n q m (by omega) hm
     show (∀ o, (match hexPair a b with | some v => (partL q).map (v :: ·) | none => none) = some o → (match hexPair a b with | some v => (partR (q ++ m)).map (fun p => (v :: p.1, p.2)) | none => none) = some (o, m)) ∧
      ((match hexPair a b with | some v => (partL q).map (v :: ·) | none => none) = none → (match hexPair a b with | some v => (partR (q ++ m)).map (fun p => (v :: p.1, p.2)) | none => none) = none ∨ ∃ o y r, (match hexPair a b with | some v => (partR (q ++ m)).map (fun p => (v :: p.1, p.2)) | none => none) = some (o, y :: r) ∧ y ∈ c :: a :: b :: q ∧ Stop y)
     rcases hexPair a b with _ | v
     ·
      exact ⟨(fun o h => by cases h), fun _ => .inl rfl⟩
     ·
      refine ⟨fun o h => ?_, fun h => ?_⟩
      ·
       obtain ⟨o', ho, rfl⟩ := Option.map_eq_some_iff.1 h
       rw [h1 o' ho]; rfl
      ·
       have hx : partL q = none := by simpa using h
       rcases h2 hx with h3 | ⟨o, y, r, h3, h4, h5⟩
       ·
        left; rw [h3]; rfl
       ·
        right; exact ⟨v :: o, y, r, by rw [h3]; rfl, by simp [h4], h5⟩
   ·
    rw [if_neg h37, if_neg h37]
    exact ⟨(fun o h => by cases h), fun _ => .inr ⟨[], c, x ++ m, rfl, by simp, by simpa using hp, h37⟩⟩
theorem part_some {x m o : List UInt8} (hm : StopL m) (h : partL x = some o) : partR (x ++ m) = some (o, m) := (part_both x.length x m (Nat.le_refl _) hm).1 o h
theorem part_none {x m : List UInt8} (hm : StopL m) (h : partL x = none) : partR (x ++ m) = none ∨ ∃ o y r, partR (x ++ m) = some (o, y :: r) ∧ y ∈ x ∧ Stop y := (part_both x.length x m (Nat.le_refl _) hm).2 h
theorem stop47 : Stop 47 ∧ hexV 47 = none := by refine ⟨⟨by decide, by decide⟩, by decide⟩
theorem stop63 : Stop 63 ∧ hexV 63 = none := by refine ⟨⟨by decide, by decide⟩, by decide⟩
theorem stop38 : Stop 38 ∧ hexV 38 = none := by refine ⟨⟨by decide, by decide⟩, by decide⟩
theorem stop61 : Stop 61 ∧ hexV 61 = none := by refine ⟨⟨by decide, by decide⟩, by decide⟩
def nameL (x : List UInt8) : Option (List UInt8) := match partL x with | some o => if o = [] then none else some o | none => none
def allN : List (List UInt8) → Option (List (List UInt8))
 | [] => some []
 | x :: r => match nameL x with | some o => (allN r).map (o :: ·) | none => none
def flat (c : UInt8) : List (List UInt8) → List UInt8
 | [] => []
 | x :: r => c :: (x ++ flat c r)
theorem flat_cut (c : UInt8) : ∀ l, flat c (cutAll c l) = c :: l
 | [] => rfl
 | b :: l => by
  have ih := flat_cut c l
  unfold cutAll
  by_cases hb : b = c
  ·
   rw [if_pos hb, flat, ih, hb]; rfl
  ·
   rw [if_neg hb]
   rcases hc : cutAll c l with _ | ⟨x, r⟩
   ·
    exact absurd hc (cutAll_ne c l)
   ·
    rw [hc] at ih
    simp only [flat] at ih ⊢
    injection ih with _ ih
    rw [List.cons_append, ih]
theorem cut_mem (c : UInt8) : ∀ (l : List UInt8) (x : List UInt8), x ∈ cutAll c l → ∀ b ∈ x, b ∈ l ∧ b ≠ c
 | [], x, hx, b, hb => by
  simp [cutAll] at hx; subst hx; simp at hb
 | a :: l, x, hx, b, hb => by
  unfold cutAll at hx
  by_cases ha : a = c
  ·
   rw [if_pos ha] at hx
   rcases List.mem_cons.1 hx with rfl | hx
   ·
    simp at hb
   ·
    have := cut_mem c l x hx b hb
    exact ⟨by simp [this.1], this.2⟩
  ·
   rw [if_neg ha] at hx
   rcases hc : cutAll c l with _ | ⟨y, r⟩
   ·
    exact absurd hc (cutAll_ne c l)
   ·
    rw [hc] at hx
    rcases List.mem_cons.1 hx with rfl | hx
    ·
     rcases List.mem_cons.1 hb with rfl | hb
     ·
      exact ⟨by simp, ha⟩
     ·
      have := cut_mem c l y (by rw [hc]; simp) b hb
      exact ⟨by simp [this.1], this.2⟩
    ·
     have := cut_mem c l x (by rw [hc]; simp [hx]) b hb
     exact ⟨by simp [this.1], this.2⟩
def cut1 (c : UInt8) : List UInt8 → Option (List UInt8 × List UInt8)
 | [] => none
 | b :: l => if b = c then some ([], l) else (cut1 c l).map fun p => (b :: p.1, p.2)
theorem cut1_some {c : UInt8} : ∀ {l a b : List UInt8}, cut1 c l = some (a, b) → l = a ++ c :: b ∧ (∀ x ∈ a, x ≠ c) ∧ Lib.indexByte l c = a.length
 | [], a, b, h => by cases h
 | d :: l, a, b, h => by
  unfold cut1 at h
  by_cases hd : d = c
  ·
   rw [if_pos hd] at h
   obtain ⟨rfl, rfl⟩ := Prod.mk.inj (Option.some.inj h)
   refine ⟨by rw [hd]; rfl, by simp, ?_⟩
   show (if d == c then (0 : Int) else _) = _
   rw [if_pos (by simpa using hd)]; rfl
  ·
   rw [if_neg hd] at h
   obtain ⟨⟨a', b'⟩, h1, h2⟩ := Option.map_eq_some_iff.1 h
   obtain ⟨rfl, rfl⟩ := Prod.mk.inj h2
   obtain ⟨h3, h4, h5⟩ := cut1_some h1
   refine ⟨by rw [h3]; rfl, by simpa using ⟨hd, h4⟩, ?_⟩
   show (if d == c then (0 : Int) else if Lib.indexByte l c == -1 then -1 else Lib.indexByte l c + 1) = _
   rw [if_neg (by simpa using hd), h5, if_neg (by simp)]
   simp
theorem cut1_none {c : UInt8} : ∀ {l : List UInt8}, cut1 c l = none → (∀ x ∈ l, x ≠ c) ∧ Lib.indexByte l c = -1
 | [], h => ⟨by simp, rfl⟩
 | d :: l, h => by
  unfold cut1 at h
  by_cases hd : d = c
  ·
   rw [if_pos hd] at h; cases h
  ·
   rw [if_neg hd] at h
   obtain ⟨h3, h4⟩ := cut1_none (by simpa using h : cut1 c l = none)
   refine ⟨by simpa using ⟨hd, h3⟩, ?_⟩
   show (if d == c then (0 : Int) else if Lib.indexByte l c == -1 then -1 else Lib.indexByte l c + 1) = _
   rw [if_neg (by simpa using hd), h4]; rfl
def paramL (x : List UInt8) : Option S91 :=
 match cut1 61 x with
 | some (a, b) => (match nameL a, partL b with | some n, some v => some ⟨⟨n.toArray⟩, ⟨v.toArray⟩⟩ | _, _ => none)
 | none => none
def allQ : List (List UInt8) → Option (List S91)
 | [] => some []
 | x :: r => match paramL x with | some o => (allQ r).map (o :: ·) | none => none
def mks (l : List (List UInt8)) : List ByteArray := l.map fun x => ⟨x.toArray⟩
def pathT (l : List UInt8) : Option (List (List UInt8)) := if l = [47] then some [] else if l.headD 0 = 47 then allN (cutAll 47 (l.drop 1)) else none
def queryT (l : List UInt8) : Option (List S91) := allQ (cutAll 38 l)
def endP (ps : List ByteArray) (qs : List S91) : List ByteArray × List S91 × Int := if mayB ps qs = true then (ps, qs, 0) else ([], [], 6)
def parseT (s : List UInt8) : List ByteArray × List S91 × Int :=
 match cut1 63 s with
 | none => (match pathT s with | some ps => endP (mks ps) [] | none => ([], [], 4))
 | some (a, b) => (match pathT a with | some ps => (match queryT b with | some qs => endP (mks ps) qs | none => ([], [], 4)) | none => ([], [], 4))
theorem extract_take (l : List UInt8) (m : Nat) : (⟨l.toArray⟩ : ByteArray).extract 0 m = ⟨(l.take m).toArray⟩ := by apply ByteArray.ext; simp
def cutT (c : UInt8) (l : List UInt8) : ByteArray × ByteArray × Bool := match cut1 c l with | some (a, b) => (⟨a.toArray⟩, ⟨b.toArray⟩, true) | none => (⟨l.toArray⟩, ⟨#[]⟩, false)
theorem cut_f (c : UInt8) (l : List UInt8) (hl : l.length ≤ 1000000) : strings_Cut.f ⟨l.toArray⟩ ⟨#[c]⟩ = some (cutT c l) := by
 unfold strings_Cut.f stringslite_Cut.f xIndex.f cutT
 have hs1 : (⟨#[c]⟩ : ByteArray).size = 1 := rfl
 rw [if_pos hs1]
 simp only [Option.bind_some]
 have hd : (⟨#[c]⟩ : ByteArray).data.toList.headD 0 = c := rfl
 rw [hd, hs1]
 rcases hc : cut1 c l with _ | ⟨a, b⟩
 ·
  rw [(cut1_none hc).2, if_neg (by omega)]
  rfl
 ·
  obtain ⟨h1, h2, h3⟩ := cut1_some hc
  have hz : l.length = a.length + 1 + b.length := by rw [h1]; simp; omega
  rw [h3, size_mk, wrap_add a.length 1 (by omega), if_pos (by omega), if_pos (by omega), if_pos (by omega), if_pos (by omega), if_pos (by omega), Int.toNat_natCast, Int.toNat_natCast]
  have e1 : l.take a.length = a := by rw [h1, List.take_left]
  have e2 : l.drop (a.length + 1) = b := by rw [h1, ← List.drop_drop, List.drop_left]; rfl
  have := drop_mk l (a.length + 1)
  rw [size_mk] at this
  rw [extract_take, e1, this, e2]
  rfl
theorem pref_f (s t : List UInt8) : strings_HasPrefix.f ⟨s.toArray⟩ ⟨t.toArray⟩ = some (decide (t.length ≤ s.length ∧ s.take t.length = t)) := by
 unfold strings_HasPrefix.f stringslite_HasPrefix.f
 rw [size_mk, size_mk]
 by_cases h : t.length ≤ s.length
 ·
  rw [if_pos (by omega), if_pos (by omega), if_pos (by omega), Int.toNat_natCast, extract_take, toList_mk, toList_mk]
  simp only [Option.bind_some]
  congr 1
  by_cases h2 : s.take t.length = t
  ·
   rw [h2]; simp [h]
  ·
   have : (s.take t.length == t) = false := by simpa using h2
   rw [this]; simp [h2]
 ·
  rw [if_neg (by omega)]
  simp [h]
theorem split_f (c : UInt8) (l : List UInt8) (hl : l.length ≤ 1000000) : xSplit.f ⟨l.toArray⟩ ⟨#[c]⟩ = some (mks (cutAll c l)) := by
 unfold xSplit.f
 rw [if_pos (show (⟨#[c]⟩ : ByteArray).size = 1 from rfl), if_pos (by rw [size_mk]; omega)]
 rfl
theorem cut_len (c : UInt8) : ∀ l, (cutAll c l).length ≤ l.length + 1
 | [] => by simp [cutAll]
 | b :: l => by
  have ih := cut_len c l
  unfold cutAll
  split
  ·
   simp; omega
  ·
   split
   ·
    simp
   ·
    rename_i h; rw [h] at ih; simpa using (by simp at ih; omega)
theorem cut_seg (c : UInt8) : ∀ l x, x ∈ cutAll c l → x.length ≤ l.length
 | [], x, hx => by simp [cutAll] at hx; simp [hx]
 | b :: l, x, hx => by
  unfold cutAll at hx
  split at hx
  ·
   rcases List.mem_cons.1 hx with rfl | hx
   ·
    simp
   ·
    have := cut_seg c l x hx; simp; omega
  ·
   rcases hc : cutAll c l with _ | ⟨y, r⟩
   ·
    exact absurd hc (cutAll_ne c l)
   ·
    rw [hc] at hx
    rcases List.mem_cons.1 hx with rfl | hx
    ·
     have := cut_seg c l y (by rw [hc]; simp); simp; omega
    ·
     have := cut_seg c l x (by rw [hc]; simp [hx]); simp; omega
theorem rd_mks (l : List (List UInt8)) (i : Nat) (h : i < l.length) : rdOf ByteArray.empty (mks l) (i : Int) = ⟨l[i].toArray⟩ := by
 unfold rdOf mks
 rw [Int.toNat_natCast, List.getD_eq_getElem?_getD, List.getElem?_map, List.getElem?_eq_getElem h]
 rfl
theorem mks_len (l : List (List UInt8)) : (mks l).length = l.length := by simp [mks]
theorem mks_snoc (l : List (List UInt8)) (o : List UInt8) : mks l ++ [⟨o.toArray⟩] = mks (l ++ [o]) := by simp [mks]
def pathAns (acc : List (List UInt8)) (p : Option (List (List UInt8))) : List ByteArray × Bool := match p with | some ps => (mks (acc ++ ps), true) | none => ([], false)
theorem path_l0 (segs : List (List UInt8)) (hseg : ∀ x ∈ segs, x.length ≤ 1000000) (hsl : segs.length ≤ 1000000) : ∀ (d i : Nat) (acc : List (List UInt8)), i + d = segs.length → acc.length ≤ i →
  Ev (fun k => target_path.l0 k (mks acc) (mks segs) (segs.length : Int) (i : Int)) (pathAns acc (allN (segs.drop i)))
 | 0, i, acc, hi, ha => by
  refine .step ?_
  simp only [target_path.l0]
  refine .neg (by omega) ?_
  rw [List.drop_of_length_le (by omega)]
  exact .of (by simp [pathAns, allN])
 | d + 1, i, acc, hi, ha => by
  have hlt : i < segs.length := by omega
  refine .step ?_
  simp only [target_path.l0]
  refine .pos (by omega) ?_
  refine .pos (by omega) ?_
  refine .pos (by rw [mks_len]; omega) ?_
  rw [rd_mks _ _ hlt, List.drop_eq_getElem_cons hlt]
  refine .bind (part_f segs[i] (hseg _ (List.getElem_mem hlt))) ?_
  unfold partT
  simp only [allN, nameL]
  rcases hp : partL segs[i] with _ | o
  ·
   refine .neg (by simp) ?_
   exact .of rfl
  ·
   refine .pos rfl ?_
   simp only []
   rw [toList_mk]
   by_cases ho : o = []
   ·
    refine .pos ho ?_
    rw [if_pos ho]
    exact .of rfl
   ·
    refine .neg ho ?_
    rw [if_neg ho]
    refine .pos (by rw [mks_len]; omega) ?_
    have ih := path_l0 segs hseg hsl d (i + 1) (acc ++ [o]) (by omega) (by simp; omega)
    rw [mks_snoc, wrap_succ i (by omega)]
    have : pathAns (acc ++ [o]) (allN (segs.drop (i + 1))) = pathAns acc ((allN (segs.drop (i + 1))).map (o :: ·)) := by
     cases allN (segs.drop (i + 1)) <;> simp [pathAns]
    rw [← this]
    exact ih
theorem path_f (l : List UInt8) (hl : l.length ≤ 100000) : Ev (fun k => target_path.f k ⟨l.toArray⟩) (pathAns [] (pathT l)) := by
 unfold target_path.f pathT
 rw [toList_mk]
 by_cases h : l = [47]
 ·
  refine .pos h ?_
  rw [if_pos h]
  exact .of rfl
 ·
  refine .neg h ?_
  rw [if_neg h]
  have hp := pref_f l [47]
  refine .bind (.of hp) ?_
  rcases l with _ | ⟨c, r⟩
  ·
   refine .neg (by simp) ?_
   rw [if_neg (show ¬ ([] : List UInt8).headD 0 = 47 by decide)]
   exact .of rfl
  ·
   rw [List.length_cons] at hl
   by_cases hc : c = 47
   ·
    subst hc
    refine .pos (by simp) ?_
    refine .pos (by rw [size_mk, List.length_cons]; omega) ?_
    rw [if_pos (show (47 :: r : List UInt8).headD 0 = 47 from rfl)]
    have hd := drop_mk (47 :: r) 1
    rw [hd]
    refine .bind (.of (split_f 47 r (by omega))) ?_
    have := path_l0 (cutAll 47 r) (fun x hx => by have := cut_seg 47 r x hx; omega) (by have := cut_len 47 r; omega) (cutAll 47 r).length 0 [] (by omega) (by simp)
    rw [mks_len]
    exact this
   ·
    refine .neg (by simp; exact fun h => hc h) ?_
    refine .of ?_
    rw [if_neg (show ¬ (c :: r : List UInt8).headD 0 = 47 from hc)]
    rfl
def queryAns (acc : List S91) (p : Option (List S91)) : List S91 × Bool := match p with | some ps => (acc ++ ps, true) | none => ([], false)
theorem query_l0 (segs : List (List UInt8)) (hseg : ∀ x ∈ segs, x.length ≤ 1000000) (hsl : segs.length ≤ 1000000) : ∀ (d i : Nat) (acc : List S91), i + d = segs.length → acc.length ≤ i →
  Ev (fun k => target_query.l0 k acc (mks segs) (segs.length : Int) (i : Int)) (queryAns acc (allQ (segs.drop i)))
 | 0, i, acc, hi, ha => by
  refine .step ?_
  simp only [target_query.l0]
  refine .neg (by omega) ?_
  rw [List.drop_of_length_le (by omega)]
  exact .of (by simp [queryAns, allQ])
 | d + 1, i, acc, hi, ha => by
  have hlt : i < segs.length := by omega
  have hx := hseg _ (List.getElem_mem hlt)
  refine .step ?_
  simp only [target_query.l0]
  refine .pos (by omega) ?_
  refine .pos (by omega) ?_
  refine .pos (by rw [mks_len]; omega) ?_
  rw [rd_mks _ _ hlt, List.drop_eq_getElem_cons hlt]
  refine .bind (.of (cut_f 61 segs[i] hx)) ?_
  unfold cutT
  simp only [allQ, paramL]
  rcases hc : cut1 61 segs[i] with _ | ⟨a, b⟩
  ·
   refine .bind (part_f segs[i] hx) ?_
   refine .bind (part_f [] (by simp)) ?_
   refine .neg (by simp) ?_
   exact .of rfl
  ·
   obtain ⟨h1, _, _⟩ := cut1_some hc
   have hz : segs[i].length = a.length + 1 + b.length := by rw [h1]; simp; omega
   refine .bind (part_f a (by omega)) ?_
   refine .bind (part_f b (by omega)) ?_
   refine .pos rfl ?_
   unfold partT
   simp only [nameL]
   rcases hp : partL a with _ | o
   ·
    refine .neg (by simp) ?_
    exact .of rfl
   ·
    refine .pos rfl ?_
    rcases hq : partL b with _ | v
    ·
     refine .neg (by simp) ?_
     refine .of ?_
     by_cases ho : o = []
     ·
      simp [ho, queryAns]
     ·
      simp [ho, queryAns]
    ·
     refine .pos rfl ?_
     simp only []
     rw [toList_mk]
     by_cases ho : o = []
     ·
      refine .pos ho ?_
      exact .of (by simp [ho, queryAns])
     ·
      refine .neg ho ?_
      rw [if_neg ho]
      refine .pos (by omega) ?_
      have ih := query_l0 segs hseg hsl d (i + 1) (acc ++ [⟨⟨o.toArray⟩, ⟨v.toArray⟩⟩]) (by omega) (by simp; omega)
      rw [wrap_succ i (by omega)]
      have : queryAns (acc ++ [⟨⟨o.toArray⟩, ⟨v.toArray⟩⟩]) (allQ (segs.drop (i + 1))) = queryAns acc ((allQ (segs.drop (i + 1))).map ((⟨⟨o.toArray⟩, ⟨v.toArray⟩⟩ : S91) :: ·)) := by
       cases allQ (segs.drop (i + 1)) <;> simp [queryAns]
      simp only []
      rw [← this]
      exact ih
theorem query_f (l : List UInt8) (hl : l.length ≤ 100000) : Ev (fun k => target_query.f k ⟨l.toArray⟩) (queryAns [] (queryT l)) := by
 unfold target_query.f queryT
 refine .bind (.of (split_f 38 l (by omega))) ?_
 have := query_l0 (cutAll 38 l) (fun x hx => by have := cut_seg 38 l x hx; omega) (by have := cut_len 38 l; omega) (cutAll 38 l).length 0 [] (by omega) (by simp)
 rw [mks_len]
 exact this
theorem partL_len : ∀ (n : Nat) (l o : List UInt8), l.length ≤ n → partL l = some o → o.length ≤ l.length
 | _, [], o, _, h => by simp [partL] at h; simp [← h]
 | 0, c :: r, o, hn, h => by simp at hn
 | n + 1, c :: r, o, hn, h => by
  rw [List.length_cons] at hn
  rw [partL_cons] at h
  by_cases hp : plainB c = true
  ·
   rw [if_pos hp] at h
   obtain ⟨o', h1, rfl⟩ := Option.map_eq_some_iff.1 h
   have := partL_len n r o' (by omega) h1
   simp; omega
  ·
   rw [if_neg hp] at h
   by_cases h37 : c = 37
   ·
    rw [if_pos h37] at h
    rcases r with _ | ⟨a, _ | ⟨b, q⟩⟩
    ·
     cases h
    ·
     cases h
    ·
     rw [List.length_cons, List.length_cons] at hn
     have h' : (match hexPair a b with | some v => (partL q).map (v :: ·) | none => none) = some o := h
     rcases hh : hexPair a b with _ | v
     ·
      rw [hh] at h'; cases h'
     ·
      rw [hh] at h'
      obtain ⟨o', h1, rfl⟩ := Option.map_eq_some_iff.1 h'
      have := partL_len n q o' (by omega) h1
      simp; omega
   ·
    rw [if_neg h37] at h; cases h
theorem allN_len : ∀ (segs ps : List (List UInt8)), allN segs = some ps → ps.length = segs.length ∧ (∀ L, (∀ x ∈ segs, x.length ≤ L) → ∀ p ∈ ps, p.length ≤ L)
 | [], ps, h => by simp [allN] at h; subst h; simp
 | x :: r, ps, h => by
  unfold allN at h
  rcases hn : nameL x with _ | o
  ·
   rw [hn] at h; cases h
  ·
   rw [hn] at h
   obtain ⟨ps', h1, rfl⟩ := Option.map_eq_some_iff.1 h
   obtain ⟨h2, h3⟩ := allN_len r ps' h1
   refine ⟨by simp [h2], fun L hL p hp => ?_⟩
   rcases List.mem_cons.1 hp with rfl | hp
   ·
    have hpx : partL x = some p := by
     unfold nameL at hn
     rcases hq : partL x with _ | q
     ·
      rw [hq] at hn; cases hn
     ·
      rw [hq] at hn
      by_cases hq0 : q = []
      ·
       simp [hq0] at hn
      ·
       simp [hq0] at hn; rw [hn]
    have := partL_len x.length x p (Nat.le_refl _) hpx
    have := hL x (by simp)
    omega
   ·
    exact h3 L (fun y hy => hL y (by simp [hy])) p hp
theorem paramL_len {x : List UInt8} {p : S91} (h : paramL x = some p) : p.f0.size ≤ x.length ∧ p.f1.size ≤ x.length := by
 unfold paramL at h
 rcases hc : cut1 61 x with _ | ⟨a, b⟩
 ·
  rw [hc] at h; cases h
 ·
  obtain ⟨h1, _, _⟩ := cut1_some hc
  have hz : x.length = a.length + 1 + b.length := by rw [h1]; simp; omega
  rw [hc] at h
  simp only [nameL] at h
  rcases ha : partL a with _ | o
  ·
   rw [ha] at h; cases h
  ·
   rw [ha] at h
   simp only [] at h
   by_cases ho : o = []
   ·
    rw [if_pos ho] at h; cases h
   ·
    rw [if_neg ho] at h
    rcases hb : partL b with _ | v
    ·
     rw [hb] at h; cases h
    ·
     rw [hb] at h
     obtain rfl := Option.some.inj h
     have h2 := partL_len a.length a o (Nat.le_refl _) ha
     have h3 := partL_len b.length b v (Nat.le_refl _) hb
     exact ⟨by rw [size_mk]; omega, by rw [size_mk]; omega⟩
theorem allQ_len : ∀ (segs : List (List UInt8)) (qs : List S91), allQ segs = some qs → qs.length = segs.length ∧ (∀ L, (∀ x ∈ segs, x.length ≤ L) → ∀ p ∈ qs, p.f0.size ≤ L ∧ p.f1.size ≤ L)
 | [], qs, h => by simp [allQ] at h; subst h; simp
 | x :: r, qs, h => by
  unfold allQ at h
  rcases hn : paramL x with _ | o
  ·
   rw [hn] at h; cases h
  ·
   rw [hn] at h
   obtain ⟨qs', h1, rfl⟩ := Option.map_eq_some_iff.1 h
   obtain ⟨h2, h3⟩ := allQ_len r qs' h1
   refine ⟨by simp [h2], fun L hL p hp => ?_⟩
   rcases List.mem_cons.1 hp with rfl | hp
   ·
    have := paramL_len hn
    have := hL x (by simp)
    omega
   ·
    exact h3 L (fun y hy => hL y (by simp [hy])) p hp
theorem pathT_len {l : List UInt8} {ps : List (List UInt8)} (h : pathT l = some ps) : ps.length ≤ l.length + 1 ∧ ∀ p ∈ ps, p.length ≤ l.length := by
 unfold pathT at h
 by_cases h1 : l = [47]
 ·
  rw [if_pos h1] at h; obtain rfl := Option.some.inj h; simp
 ·
  rw [if_neg h1] at h
  by_cases h4 : l.headD 0 = 47
  ·
   rw [if_pos h4] at h
   obtain ⟨h2, h3⟩ := allN_len _ _ h
   have := cut_len 47 (l.drop 1)
   have hd : (l.drop 1).length ≤ l.length := by rw [List.length_drop]; omega
   refine ⟨by omega, fun p hp => ?_⟩
   have := h3 (l.drop 1).length (fun x hx => cut_seg 47 _ x hx) p hp
   omega
  ·
   rw [if_neg h4] at h; cases h
theorem queryT_len {l : List UInt8} {qs : List S91} (h : queryT l = some qs) : qs.length ≤ l.length + 1 ∧ ∀ p ∈ qs, p.f0.size ≤ l.length ∧ p.f1.size ≤ l.length := by
 obtain ⟨h2, h3⟩ := allQ_len _ _ h
 have := cut_len 38 l
 exact ⟨by omega, h3 l.length (fun x hx => cut_seg 38 l x hx)⟩
theorem may_small (ps : List ByteArray) (qs : List S91) (h0 : ps.length ≤ 1048576) (h1 : qs.length ≤ 1048576) (h2 : ∀ p ∈ qs, p.f0.size ≤ 1048576 ∧ p.f1.size ≤ 1048576) : xMay.f ps qs = some (mayB ps qs) := by
 unfold xMay.f
 rw [if_pos]
 refine ⟨List.all_eq_true.2 fun p hp => ?_, h0, h1⟩
 have := h2 p hp
 simpa using this
theorem parse_f (l : List UInt8) (hl : l.length ≤ 100000) : Ev (fun k => target_Parse.f k ⟨l.toArray⟩) (parseT l) := by
 unfold target_Parse.f parseT
 refine .bind (.of (cut_f 63 l (by omega))) ?_
 unfold cutT
 rcases hc : cut1 63 l with _ | ⟨a, b⟩
 ·
  simp only []
  refine .bind (path_f l hl) ?_
  rcases hp : pathT l with _ | ps
  ·
   refine .neg (by simp [pathAns]) ?_
   exact .of rfl
  ·
   obtain ⟨h1, h2⟩ := pathT_len hp
   refine .pos (by simp [pathAns, queryAns]) ?_
   refine .neg (by simp) ?_
   refine .bind (.of (may_small _ _ (by simp [pathAns, mks]; omega) (by simp) (by simp))) ?_
   unfold endP
   show Ev (fun k => if mayB (mks ps) [] = true then _ else _) _
   by_cases hm : mayB (mks ps) [] = true
   ·
    refine .pos hm ?_
    exact .of (by simp [hm, pathAns])
   ·
    refine .neg hm ?_
    exact .of (by simp [hm])
 ·
  obtain ⟨h0, _, _⟩ := cut1_some hc
  have hz : l.length = a.length + 1 + b.length := by rw [h0]; simp; omega
  simp only []
  refine .bind (path_f a (by omega)) ?_
  rcases hp : pathT a with _ | ps
  ·
   refine .neg (by simp [pathAns]) ?_
   exact .of rfl
  ·
   obtain ⟨h1, h2⟩ := pathT_len hp
   refine .pos (by simp [pathAns, queryAns]) ?_
   refine .pos (by simp [pathAns, queryAns]) ?_
   refine .bind (query_f b (by omega)) ?_
   rcases hq : queryT b with _ | qs
   ·
    refine .neg (by simp [queryAns]) ?_
    exact .of rfl
   ·
    obtain ⟨h3, h4⟩ := queryT_len hq
    refine .pos (by simp [pathAns, queryAns]) ?_
    refine .bind (.of (may_small _ _ (by simp [pathAns, mks]; omega) (by simp [queryAns]; omega) (fun p hp => by have := h4 p (by simpa [queryAns] using hp); omega))) ?_
    unfold endP
    show Ev (fun k => if mayB (mks ps) qs = true then _ else _) _
    by_cases hm : mayB (mks ps) qs = true
    ·
     refine .pos hm ?_
     exact .of (by simp [hm, pathAns, queryAns])
    ·
     refine .neg hm ?_
     exact .of (by simp [hm])
theorem partR_suffix : ∀ (n : Nat) (l o q : List UInt8), l.length ≤ n → partR l = some (o, q) → q <:+ l
 | _, [], o, q, _, h => by simp [partR] at h; rw [← h.2]; exact List.suffix_refl _
 | 0, c :: r, o, q, hn, h => by simp at hn
 | n + 1, c :: r, o, q, hn, h => by
  rw [List.length_cons] at hn
  rw [partR_cons] at h
  by_cases hp : plainB c = true
  ·
   rw [if_pos hp] at h
   obtain ⟨⟨o', q'⟩, h1, h2⟩ := Option.map_eq_some_iff.1 h
   obtain ⟨_, rfl⟩ := Prod.mk.inj h2
   exact (partR_suffix n r o' q' (by omega) h1).trans (List.suffix_cons _ _)
  ·
   rw [if_neg hp] at h
   by_cases h37 : c = 37
   ·
    rw [if_pos h37] at h
    rcases r with _ | ⟨a, _ | ⟨b, t⟩⟩
    ·
     cases h
    ·
     cases h
    ·
     rw [List.length_cons, List.length_cons] at hn
     have h' : (match hexPair a b with | some v => (partR t).map (fun p => (v :: p.1, p.2)) | none => none) = some (o, q) := h
     rcases hh : hexPair a b with _ | v
     ·
      rw [hh] at h'; cases h'
     ·
      rw [hh] at h'
      obtain ⟨⟨o', q'⟩, h1, h2⟩ := Option.map_eq_some_iff.1 h'
      obtain ⟨_, rfl⟩ := Prod.mk.inj h2
      exact (partR_suffix n t o' q' (by omega) h1).trans ((List.suffix_cons _ _).trans ((List.suffix_cons _ _).trans (List.suffix_cons _ _)))
   ·
    rw [if_neg h37] at h
    obtain ⟨_, rfl⟩ := Prod.mk.inj (Option.some.inj h)
    exact List.suffix_refl _
theorem drop_suf {S q : List UInt8} (h : q <:+ S) : S.drop (S.length - q.length) = q := by
 obtain ⟨t, rfl⟩ := h
 rw [List.length_append, Nat.add_sub_cancel, List.drop_left]
theorem partL_nz : ∀ (n : Nat) (l o : List UInt8), l.length ≤ n → partL l = some o → ∀ b ∈ o, b ≠ 0
 | _, [], o, _, h => by
   have h2 : o = [] := by simpa [partL] using h.symm
   subst h2
   simp
 | 0, c :: r, o, hn, h => by simp at hn
 | n + 1, c :: r, o, hn, h => by
  rw [List.length_cons] at hn
  rw [partL_cons] at h
  by_cases hp : plainB c = true
  ·
   rw [if_pos hp] at h
   obtain ⟨o', h1, rfl⟩ := Option.map_eq_some_iff.1 h
   intro b hb
   rcases List.mem_cons.1 hb with rfl | hb
   ·
    intro h0; rw [h0] at hp; exact absurd hp (by decide)
   ·
    exact partL_nz n r o' (by omega) h1 b hb
  ·
   rw [if_neg hp] at h
   by_cases h37 : c = 37
   ·
    rw [if_pos h37] at h
    rcases r with _ | ⟨x, _ | ⟨y, q⟩⟩
    ·
     cases h
    ·
     cases h
    ·
     rw [List.length_cons, List.length_cons] at hn
     have h' : (match hexPair x y with | some v => (partL q).map (v :: ·) | none => none) = some o := h
     rcases hh : hexPair x y with _ | v
     ·
      rw [hh] at h'; cases h'
     ·
      rw [hh] at h'
      obtain ⟨o', h1, rfl⟩ := Option.map_eq_some_iff.1 h'
      intro b hb
      rcases List.mem_cons.1 hb with rfl | hb
      ·
       unfold hexPair at hh
       rcases hx : hexV x with _ | i
       ·
        rw [hx] at hh; cases hh
       ·
        rcases hy : hexV y with _ | j
        ·
         rw [hx, hy] at hh; cases hh
        ·
         rw [hx, hy] at hh
         have h3 := hexV_lt hx
         have h4 := hexV_lt hy
         simp only [] at hh
         by_cases h0 : 16 * i + j = 0
         ·
          rw [if_pos h0] at hh; cases hh
         ·
          rw [if_neg h0] at hh
          obtain rfl := Option.some.inj hh
          intro e
          have := congrArg UInt8.toNat e
          rw [UInt8.toNat_ofNat', Nat.mod_eq_of_lt (by omega)] at this
          exact h0 this
      ·
       exact partL_nz n q o' (by omega) h1 b hb
   ·
    rw [if_neg h37] at h; cases h
theorem zeroB_false {l : List UInt8} (h : ∀ b ∈ l, b ≠ 0) : zeroB l = false := by
 induction l with
 | nil => decide
 | cons b l ih =>
  rw [zeroB_cons, ih (fun c hc => h c (by simp [hc]))]
  have := h b (by simp)
  simpa using this
theorem nameL_some {x o : List UInt8} (h : nameL x = some o) : partL x = some o ∧ o ≠ [] := by
 unfold nameL at h
 rcases hq : partL x with _ | q
 ·
  rw [hq] at h; cases h
 ·
  rw [hq] at h
  by_cases hq0 : q = []
  ·
   simp [hq0] at h
  ·
   simp [hq0] at h; rw [← h]; exact ⟨rfl, hq0⟩
theorem mayP_all : ∀ (segs ps : List (List UInt8)), allN segs = some ps → mayP (mks ps) = true
 | [], ps, h => by simp [allN] at h; subst h; rfl
 | x :: r, ps, h => by
  unfold allN at h
  rcases hn : nameL x with _ | o
  ·
   rw [hn] at h; cases h
  ·
   rw [hn] at h
   obtain ⟨ps', h1, rfl⟩ := Option.map_eq_some_iff.1 h
   obtain ⟨h2, h3⟩ := nameL_some hn
   have ih := mayP_all r ps' h1
   have hz := zeroB_false (partL_nz x.length x o (Nat.le_refl _) h2)
   show mayP (⟨o.toArray⟩ :: mks ps') = true
   rw [mayP_cons, ih, size_mk]
   have hd : (⟨o.toArray⟩ : ByteArray).data.toList = o := by simp
   rw [hd, hz]
   have : o.length ≠ 0 := fun e => h3 (List.eq_nil_of_length_eq_zero e)
   simpa using this
theorem mayP_path {l : List UInt8} {ps : List (List UInt8)} (h : pathT l = some ps) : mayP (mks ps) = true := by
 unfold pathT at h
 by_cases h1 : l = [47]
 ·
  rw [if_pos h1] at h; obtain rfl := Option.some.inj h; rfl
 ·
  rw [if_neg h1] at h
  by_cases h4 : l.headD 0 = 47
  ·
   rw [if_pos h4] at h; exact mayP_all _ _ h
  ·
   rw [if_neg h4] at h; cases h
abbrev BAD : List ByteArray × List S91 × Int := ([], [], 4)
section
variable (S : List UInt8) (hS : S.length ≤ 100000)
include hS in
theorem part_ok (at_ : Nat) (l o q : List UInt8) (hl : S.drop at_ = l) (ha : at_ ≤ S.length) (h : partR l = some (o, q)) : Ev (fun k => cofferref21_part.f k ⟨S.toArray⟩ (at_ : Int)) ((⟨o.toArray⟩ : ByteArray), ((S.length - q.length : Nat) : Int), true) := by
 obtain ⟨j, hj⟩ := refpart_f S (by omega) at_ ha
 rw [hl, h] at hj
 exact hj
include hS in
theorem part_bad (at_ : Nat) (l : List UInt8) (hl : S.drop at_ = l) (ha : at_ ≤ S.length) (h : partR l = none) : ∃ j : Int, Ev (fun k => cofferref21_part.f k ⟨S.toArray⟩ (at_ : Int)) ((⟨#[]⟩ : ByteArray), j, false) := by
 obtain ⟨j, hj⟩ := refpart_f S (by omega) at_ ha
 rw [hl, h] at hj
 exact ⟨j, hj⟩
theorem j4_other {P : List ByteArray} {y : UInt8} {q : List UInt8} {at_ : Nat} (h : S.drop at_ = y :: q) (h63 : y ≠ 63) : Ev (fun k => cofferref21_Parse.j4 k ⟨S.toArray⟩ (at_ : Int) false P) BAD := by
 obtain ⟨hlt, hbt, hdr, hSl⟩ := at_drop h
 refine .step ?_
 simp only [cofferref21_Parse.j4]
 refine .neg (by simp) ?_
 refine .neg (by rw [size_mk]; omega) ?_
 refine .pos (by omega) ?_
 refine .pos (by rw [size_mk]; omega) ?_
 rw [hbt]
 refine .neg (fun e => h63 (UInt8.toNat_inj.1 (by have : (63 : UInt8).toNat = 63 := rfl; omega))) ?_
 exact .of rfl
theorem l0_other {P : List ByteArray} {y : UInt8} {q : List UInt8} {at_ : Nat} (h : S.drop at_ = y :: q) (h63 : y ≠ 63) (h47 : y ≠ 47) : Ev (fun k => cofferref21_Parse.l0 k ⟨S.toArray⟩ (at_ : Int) P) BAD := by
 obtain ⟨hlt, hbt, hdr, hSl⟩ := at_drop h
 refine .step ?_
 simp only [cofferref21_Parse.l0]
 refine .pos (by rw [size_mk]; omega) ?_
 refine .pos (by omega) ?_
 rw [hbt, show ((y.toNat : Int) == 47) = false by
  rw [beq_eq_false_iff_ne]; exact fun e => h47 (UInt8.toNat_inj.1 (by have : (47 : UInt8).toNat = 47 := rfl; omega))]
 exact j4_other S h h63
include hS in
theorem refpath (more : List UInt8) (hm : more = [] ∨ ∃ r, more = 63 :: r) (R : List ByteArray × List S91 × Int) : ∀ (segs : List (List UInt8)) (at_ : Nat) (acc : List (List UInt8)), S.drop at_ = flat 47 segs ++ more → at_ ≤ S.length → (∀ x ∈ segs, ∀ b ∈ x, b ≠ 47 ∧ b ≠ 63) → acc.length ≤ at_ →
  (∀ ps, allN segs = some ps → Ev (fun k => cofferref21_Parse.l0 k ⟨S.toArray⟩ ((S.length - more.length : Nat) : Int) (mks (acc ++ ps))) R) → (allN segs = none → R = BAD) → Ev (fun k => cofferref21_Parse.l0 k ⟨S.toArray⟩ (at_ : Int) (mks acc)) R
 | [], at_, acc, hd, ha, hx, hac, h1, h2 => by
  have := h1 [] rfl
  rw [List.append_nil] at this
  have e : at_ = S.length - more.length := by
   have := congrArg List.length hd
   rw [List.length_drop] at this
   simp [flat] at this
   omega
  rw [e]
  exact this
 | x :: r, at_, acc, hd, ha, hx, hac, h1, h2 => by
  have hd' : S.drop at_ = 47 :: (x ++ (flat 47 r ++ more)) := by rw [hd]; simp [flat]
  obtain ⟨hlt, hbt, hdr, hSl⟩ := at_drop hd'
  have hst : StopL (flat 47 r ++ more) := by
   rcases r with _ | ⟨y, r⟩
   ·
    rcases hm with rfl | ⟨t, rfl⟩
    ·
     exact stopL_nil
    ·
     exact stopL_cons stop63.1 stop63.2
   ·
    exact stopL_cons stop47.1 stop47.2
  refine .step ?_
  simp only [cofferref21_Parse.l0]
  refine .pos (by rw [size_mk]; omega) ?_
  refine .pos (by omega) ?_
  rw [hbt, show (((47 : UInt8).toNat : Int) == 47) = true by decide]
  refine .step ?_
  simp only [cofferref21_Parse.j4]
  refine .pos (by simp) ?_
  rw [wrap_succ at_ (by omega)]
  rcases hp : partL x with _ | o
  ·
   have hnone : allN (x :: r) = none := by simp [allN, nameL, hp]
   rw [h2 hnone]
   rcases part_none hst hp with h3 | ⟨o, y, q, h3, h4, h5⟩
   ·
    obtain ⟨j, hpe⟩ := part_bad S hS (at_ + 1) _ hdr (by omega) h3
    refine .bind hpe ?_
    refine .neg (by simp) ?_
    exact .of rfl
   ·
    have hsuf := partR_suffix _ _ _ _ (Nat.le_refl _) h3
    have hsuf2 : (y :: q) <:+ S := hsuf.trans (by rw [← hdr]; exact List.drop_suffix _ _)
    have hy := hx x (by simp) y h4
    refine .bind (part_ok S hS (at_ + 1) _ _ _ hdr (by omega) h3) ?_
    refine .pos rfl ?_
    simp only []
    rw [toList_mk]
    by_cases ho : o = []
    ·
     refine .pos ho ?_
     exact .of rfl
    ·
     refine .neg ho ?_
     refine .pos (by rw [mks_len]; omega) ?_
     exact l0_other S (drop_suf hsuf2) hy.2 hy.1
  ·
   refine .bind (part_ok S hS (at_ + 1) _ _ _ hdr (by omega) (part_some hst hp)) ?_
   refine .pos rfl ?_
   simp only []
   rw [toList_mk]
   by_cases ho : o = []
   ·
    refine .pos ho ?_
    rw [h2 (by simp [allN, nameL, hp, ho])]
    exact .of rfl
   ·
    refine .neg ho ?_
    refine .pos (by rw [mks_len]; omega) ?_
    have hsuf : (flat 47 r ++ more) <:+ S := (List.suffix_append x _).trans (by rw [← hdr]; exact List.drop_suffix _ _)
    have hle := hsuf.length_le
    rw [mks_snoc]
    have hlx : S.length = at_ + 1 + (x.length + (flat 47 r ++ more).length) := by rw [hSl, List.length_append]
    refine refpath more hm R r (S.length - (flat 47 r ++ more).length) (acc ++ [o]) (drop_suf hsuf) (by omega) (fun z hz => hx z (by simp [hz])) (by rw [List.length_append, List.length_singleton]; omega) (fun ps hps => ?_) (fun hn => h2 (by simp [allN, nameL, hp, ho, hn]))
    have := h1 (o :: ps) (by simp [allN, nameL, hp, ho, hps])
    simpa using this
theorem j6_bad {nm : ByteArray} {i : Int} {P : List ByteArray} {Q : List S91} : Ev (fun k => cofferref21_Parse.j6 k ⟨S.toArray⟩ nm i true P Q) BAD := by
 refine .step ?_
 simp only [cofferref21_Parse.j6]
 refine .pos (by simp) ?_
 exact .of rfl
def queryE (P : List ByteArray) (Q : List S91) (p : Option (List S91)) : List ByteArray × List S91 × Int := match p with | some qs => endP P (Q ++ qs) | none => BAD
include hS in
theorem refquery (P : List ByteArray) (hP : ∀ s ∈ P, s.size ≤ 1048576) (hPl : P.length ≤ 1048576) : ∀ (r : List (List UInt8)) (x : List UInt8) (at_ : Nat) (Q : List S91), S.drop (at_ + 1) = x ++ flat 38 r → at_ < S.length → (∀ z ∈ x :: r, ∀ b ∈ z, b ≠ 38) → Q.length ≤ at_ → (∀ p ∈ Q, p.f0.size ≤ 1048576 ∧ p.f1.size ≤ 1048576) →
  Ev (fun k => cofferref21_Parse.l1 k ⟨S.toArray⟩ (at_ : Int) P Q) (queryE P Q (allQ (x :: r)))
 | r, x, at_, Q, hd, ha, hx, hQl, hQ => by
  have hst : StopL (flat 38 r) := by
   rcases r with _ | ⟨y, r⟩
   ·
    exact stopL_nil
   ·
    exact stopL_cons stop38.1 stop38.2
  have hxl := congrArg List.length hd
  rw [List.length_drop, List.length_append] at hxl
  have hsufm : flat 38 r <:+ S := (List.suffix_append x _).trans (by rw [← hd]; exact List.drop_suffix _ _)
  have hpar : paramL x = none → queryE P Q (allQ (x :: r)) = BAD := fun h => by simp [allQ, h, queryE]
  -- a name that stops at another byte than '='
  have stopbad : ∀ (o : List UInt8) (y : UInt8) (q : List UInt8), partR (x ++ flat 38 r) = some (o, y :: q) → y ≠ 61 → Ev (fun k => cofferref21_Parse.l1 k ⟨S.toArray⟩ (at_ : Int) P Q) BAD := by
   intro o y q h3 hy
   have hsuf := partR_suffix _ _ _ _ (Nat.le_refl _) h3
   have hsuf2 : (y :: q) <:+ S := hsuf.trans (by rw [← hd]; exact List.drop_suffix _ _)
   obtain ⟨hlt, hbt, _, _⟩ := at_drop (drop_suf hsuf2)
   refine .step ?_
   simp only [cofferref21_Parse.l1]
   rw [wrap_succ at_ (by omega)]
   refine .bind (part_ok S hS (at_ + 1) _ _ _ hd (by omega) h3) ?_
   refine .pos rfl ?_
   simp only []
   rw [toList_mk]
   by_cases ho : o = []
   ·
    exact .pos ho (j6_bad S)
   ·
    refine .neg ho ?_
    refine .neg (by rw [size_mk]; omega) ?_
    refine .pos (by omega) ?_
    refine .pos (by rw [size_mk]; omega) ?_
    rw [hbt, show ((y.toNat : Int) != 61) = true by
     rw [bne_iff_ne]; exact fun e => hy (UInt8.toNat_inj.1 (by have : (61 : UInt8).toNat = 61 := rfl; omega))]
    exact j6_bad S
  have nonebad : partR (x ++ flat 38 r) = none → Ev (fun k => cofferref21_Parse.l1 k ⟨S.toArray⟩ (at_ : Int) P Q) BAD := by
   intro h3
   refine .step ?_
   simp only [cofferref21_Parse.l1]
   rw [wrap_succ at_ (by omega)]
   obtain ⟨j, hpe⟩ := part_bad S hS (at_ + 1) _ hd (by omega) h3
   refine .bind hpe ?_
   refine .neg (by simp) ?_
   exact j6_bad S
  rcases hc : cut1 61 x with _ | ⟨a, b⟩
  ·
   rw [hpar (by simp [paramL, hc])]
   obtain ⟨hno, _⟩ := cut1_none hc
   rcases hp : partL x with _ | n
   ·
    rcases part_none hst hp with h3 | ⟨o, y, q, h3, h4, h5⟩
    ·
     exact nonebad h3
    ·
     exact stopbad o y q h3 (hno y h4)
   ·
    have h3 := part_some hst hp
    rcases r with _ | ⟨z, r⟩
    ·
     refine .step ?_
     simp only [cofferref21_Parse.l1]
     rw [wrap_succ at_ (by omega)]
     refine .bind (part_ok S hS (at_ + 1) _ _ _ hd (by omega) h3) ?_
     refine .pos rfl ?_
     simp only []
     rw [toList_mk]
     by_cases ho : n = []
     ·
      exact .pos ho (j6_bad S)
     ·
      refine .neg ho ?_
      exact .pos (by rw [size_mk]; simp [flat]) (j6_bad S)
    ·
     exact stopbad n 38 _ h3 (by decide)
  ·
   obtain ⟨he, hna, _⟩ := cut1_some hc
   have hst1 : StopL (61 :: (b ++ flat 38 r)) := stopL_cons stop61.1 stop61.2
   have hd1 : x ++ flat 38 r = a ++ (61 :: (b ++ flat 38 r)) := by rw [he]; simp
   rcases hp : partL a with _ | n
   ·
    rw [hpar (by simp [paramL, hc, nameL, hp])]
    rcases part_none hst1 hp with h3 | ⟨o, y, q, h3, h4, h5⟩
    ·
     exact nonebad (by rw [hd1]; exact h3)
    ·
     exact stopbad o y q (by rw [hd1]; exact h3) (hna y h4)
   ·
    have h3 := part_some hst1 hp
    rw [← hd1] at h3
    have hsuf1 : (61 :: (b ++ flat 38 r)) <:+ S := (List.suffix_append a _).trans (by rw [← hd1, ← hd]; exact List.drop_suffix _ _)
    obtain ⟨hlt, hbt, hdr, hSl⟩ := at_drop (drop_suf hsuf1)
    refine .step ?_
    simp only [cofferref21_Parse.l1]
    rw [wrap_succ at_ (by omega)]
    refine .bind (part_ok S hS (at_ + 1) _ _ _ hd (by omega) h3) ?_
    refine .pos rfl ?_
    simp only []
    rw [toList_mk]
    by_cases ho : n = []
    ·
     rw [hpar (by simp [paramL, hc, nameL, hp, ho])]
     exact .pos ho (j6_bad S)
    ·
     refine .neg ho ?_
     refine .neg (by rw [size_mk]; omega) ?_
     refine .pos (by omega) ?_
     refine .pos (by rw [size_mk]; omega) ?_
     rw [hbt, show (((61 : UInt8).toNat : Int) != 61) = false by decide]
     generalize hnx : S.length - (61 :: (b ++ flat 38 r)).length = nx at *
     have hbl : (b ++ flat 38 r).length = b.length + (flat 38 r).length := List.length_append
     refine .step ?_
     simp only [cofferref21_Parse.j6]
     refine .neg (by simp) ?_
     rw [wrap_succ nx (by omega)]
     have hbx : ∀ c ∈ b, c ≠ 38 := fun c hcb => hx x (by simp) c (by rw [he]; simp [hcb])
     rcases hq : partL b with _ | v
     ·
      rw [hpar (by simp [paramL, hc, nameL, hp, hq])]
      rcases part_none hst hq with h4 | ⟨o, y, q, h4, h5, h6⟩
      ·
       obtain ⟨j2, hpe2⟩ := part_bad S hS (nx + 1) _ hdr (by omega) h4
       refine .bind hpe2 ?_
       refine .neg (by simp) ?_
       exact .of rfl
      ·
       have hsuf := partR_suffix _ _ _ _ (Nat.le_refl _) h4
       have hsuf2 : (y :: q) <:+ S := hsuf.trans (by rw [← hdr]; exact List.drop_suffix _ _)
       obtain ⟨hlt3, hbt3, _, _⟩ := at_drop (drop_suf hsuf2)
       refine .bind (part_ok S hS (nx + 1) _ _ _ hdr (by omega) h4) ?_
       refine .pos rfl ?_
       simp only []
       refine .pos (by omega) ?_
       refine .bind (f := fun _ => some (Q ++ [(⟨⟨n.toArray⟩, ⟨o.toArray⟩⟩ : S91)])) (.of rfl) ?_
       refine .neg (by rw [size_mk]; omega) ?_
       refine .pos (by omega) ?_
       refine .pos (by rw [size_mk]; omega) ?_
       rw [hbt3]
       refine .neg (fun e => hbx y h5 (UInt8.toNat_inj.1 (by have : (38 : UInt8).toNat = 38 := rfl; omega))) ?_
       exact .of rfl
     ·
      have h4 := part_some hst hq
      have hpx : paramL x = some ⟨⟨n.toArray⟩, ⟨v.toArray⟩⟩ := by simp [paramL, hc, nameL, hp, hq, ho]
      have hpl := paramL_len hpx
      have hQ2 : ∀ p ∈ Q ++ [(⟨⟨n.toArray⟩, ⟨v.toArray⟩⟩ : S91)], p.f0.size ≤ 1048576 ∧ p.f1.size ≤ 1048576 := by
       intro p hp
       rcases List.mem_append.1 hp with hp | hp
       ·
        exact hQ p hp
       ·
        obtain rfl := List.mem_singleton.1 hp
        dsimp only at hpl ⊢
        omega
      refine .bind (part_ok S hS (nx + 1) _ _ _ hdr (by omega) h4) ?_
      refine .pos rfl ?_
      simp only []
      refine .pos (by omega) ?_
      refine .bind (f := fun _ => some (Q ++ [(⟨⟨n.toArray⟩, ⟨v.toArray⟩⟩ : S91)])) (.of rfl) ?_
      rcases r with _ | ⟨z, r⟩
      ·
       simp only [flat, List.length_nil, Nat.sub_zero]
       refine .pos (by rw [size_mk]) ?_
       have hmay := refmay_ev P (Q ++ [⟨⟨n.toArray⟩, ⟨v.toArray⟩⟩]) (List.all_eq_true.2 fun p hp => by have := hQ2 p hp; simpa using this) hPl (by simp; omega) hP
       refine .bind hmay ?_
       simp only [allQ, hpx, Option.map, queryE, endP]
       by_cases hm : mayB P (Q ++ [⟨⟨n.toArray⟩, ⟨v.toArray⟩⟩]) = true
       ·
        refine .pos hm ?_
        exact .of (by rw [if_pos hm])
       ·
        refine .neg hm ?_
        exact .of (by rw [if_neg hm])
      ·
       obtain ⟨hlt3, hbt3, hdr3, hSl3⟩ := at_drop (show S.drop (S.length - (flat 38 (z :: r)).length) = 38 :: (z ++ flat 38 r) from drop_suf hsufm)
       refine .neg (by rw [size_mk]; omega) ?_
       refine .pos (by omega) ?_
       refine .pos (by rw [size_mk]; omega) ?_
       rw [hbt3]
       refine .pos (by decide) ?_
       have ih := refquery P hP hPl r z (S.length - (flat 38 (z :: r)).length) (Q ++ [⟨⟨n.toArray⟩, ⟨v.toArray⟩⟩]) hdr3 hlt3 (fun y hy => hx y (by rcases List.mem_cons.1 hy with rfl | hy <;> simp [*])) (by rw [List.length_append, List.length_singleton]; omega) hQ2
       have e : queryE P (Q ++ [⟨⟨n.toArray⟩, ⟨v.toArray⟩⟩]) (allQ (z :: r)) = queryE P Q (allQ (x :: z :: r)) := by
        rw [show allQ (x :: z :: r) = (allQ (z :: r)).map ((⟨⟨n.toArray⟩, ⟨v.toArray⟩⟩ : S91) :: ·) by simp only [allQ, hpx]]
        cases allQ (z :: r) <;> simp [queryE]
       rw [← e]
       exact ih
end
theorem flat_step (c : UInt8) (b : List UInt8) : ∃ x r, cutAll c b = x :: r ∧ b = x ++ flat c r := by
 rcases h : cutAll c b with _ | ⟨x, r⟩
 ·
  exact absurd h (cutAll_ne c b)
 ·
  refine ⟨x, r, rfl, ?_⟩
  have := flat_cut c b
  rw [h] at this
  simp only [flat] at this
  injection this with _ h2
  exact h2.symm
section
variable (S : List UInt8) (hS : S.length ≤ 100000)
include hS in
theorem ref_query_at (P : List ByteArray) (hP : ∀ s ∈ P, s.size ≤ 1048576) (hPl : P.length ≤ 1048576) (at_ : Nat) (b : List UInt8) (hd : S.drop at_ = 63 :: b) :
  Ev (fun k => cofferref21_Parse.l0 k ⟨S.toArray⟩ (at_ : Int) P) (queryE P [] (queryT b)) := by
 obtain ⟨hlt, hbt, hdr, hSl⟩ := at_drop hd
 obtain ⟨x, r, hc, hb⟩ := flat_step 38 b
 refine .step ?_
 simp only [cofferref21_Parse.l0]
 refine .pos (by rw [size_mk]; omega) ?_
 refine .pos (by omega) ?_
 rw [hbt, show (((63 : UInt8).toNat : Int) == 47) = false by decide]
 refine .step ?_
 simp only [cofferref21_Parse.j4]
 refine .neg (by simp) ?_
 refine .neg (by rw [size_mk]; omega) ?_
 refine .pos (by omega) ?_
 refine .pos (by rw [size_mk]; omega) ?_
 rw [hbt]
 refine .pos (by decide) ?_
 have := refquery S hS P hP hPl r x at_ [] (by rw [hdr]; exact hb) hlt (fun z hz c hcz => (cut_mem 38 b z (by rw [hc]; exact hz) c hcz).2) (by simp) (by simp)
 unfold queryT
 rw [hc]
 exact this
theorem ref_end_at (P : List ByteArray) : Ev (fun k => cofferref21_Parse.l0 k ⟨S.toArray⟩ ((S.length : Nat) : Int) P) (P, [], 0) := by
 refine .step ?_
 simp only [cofferref21_Parse.l0]
 refine .neg (by rw [size_mk]; omega) ?_
 refine .step ?_
 simp only [cofferref21_Parse.j4]
 refine .neg (by simp) ?_
 refine .pos (by rw [size_mk]) ?_
 exact .of rfl
end
theorem mks_size {ps : List (List UInt8)} {L : Nat} (h : ∀ p ∈ ps, p.length ≤ L) : ∀ s ∈ mks ps, s.size ≤ L := by
 intro s hs
 obtain ⟨p, hp, rfl⟩ := List.mem_map.1 hs
 rw [size_mk]
 exact h p hp
theorem endP_path {l : List UInt8} {ps : List (List UInt8)} (h : pathT l = some ps) : endP (mks ps) [] = (mks ps, [], 0) := by
 unfold endP mayB
 rw [mayP_path h]
 rfl
theorem path_slash (a : List UInt8) (h : 47 :: a ≠ [47]) : pathT (47 :: a) = allN (cutAll 47 a) := by
 unfold pathT
 rw [if_neg h, if_pos (show (47 :: a : List UInt8).headD 0 = 47 from rfl)]
 rfl
theorem refparse_f (l : List UInt8) (hl : l.length ≤ 100000) : Ev (fun k => cofferref21_Parse.f k ⟨l.toArray⟩) (parseT l) := by
 have hj0 : Ev (fun k => cofferref21_Parse.j0 k ⟨l.toArray⟩ true) BAD := by
  refine .step ?_
  simp only [cofferref21_Parse.j0]
  refine .pos (by simp) ?_
  exact .of rfl
 have hbad : ∀ a : List UInt8, a.headD 0 ≠ 47 → pathT a = none := fun a h => by
  unfold pathT
  rw [if_neg (fun e => h (by rw [e]; rfl)), if_neg h]
 unfold cofferref21_Parse.f
 rw [toList_mk]
 rcases l with _ | ⟨c, r⟩
 ·
  refine .pos rfl ?_
  exact hj0
 ·
  rw [List.length_cons] at hl
  refine .neg (by simp) ?_
  refine .pos (by rw [size_mk, List.length_cons]; omega) ?_
  rw [bt_zero]
  by_cases hc : c = 47
  ·
   subst hc
   rw [show (((47 : UInt8).toNat : Int) != 47) = false by decide]
   have toj1 : ∀ {R}, (r = [] → Ev (fun k => cofferref21_Parse.j1 k ⟨(47 :: r).toArray⟩ 0 true) R) → (∀ d q, r = d :: q → Ev (fun k => cofferref21_Parse.j1 k ⟨(47 :: r).toArray⟩ 0 ((d.toNat : Int) == 63)) R) → Ev (fun k => cofferref21_Parse.j0 k ⟨(47 :: r).toArray⟩ false) R := by
    intro R h1 h2
    refine .step ?_
    simp only [cofferref21_Parse.j0]
    refine .neg (by simp) ?_
    rcases r with _ | ⟨d, q⟩
    ·
     refine .pos (by rw [size_mk]; rfl) ?_
     exact h1 rfl
    ·
     refine .neg (by rw [size_mk, List.length_cons, List.length_cons]; omega) ?_
     refine .pos (by rw [size_mk, List.length_cons, List.length_cons]; omega) ?_
     rw [bt_one]
     exact h2 d q rfl
   have j1t : ∀ {R}, Ev (fun k => cofferref21_Parse.l0 k ⟨(47 :: r).toArray⟩ 1 []) R → Ev (fun k => cofferref21_Parse.j1 k ⟨(47 :: r).toArray⟩ 0 true) R := by
    intro R h
    refine .step ?_
    simp only [cofferref21_Parse.j1]
    refine .pos (by simp) ?_
    refine .step ?_
    simp only [cofferref21_Parse.j2]
    exact h
   have j1f : ∀ {R}, Ev (fun k => cofferref21_Parse.l0 k ⟨(47 :: r).toArray⟩ 0 []) R → Ev (fun k => cofferref21_Parse.j1 k ⟨(47 :: r).toArray⟩ 0 false) R := by
    intro R h
    refine .step ?_
    simp only [cofferref21_Parse.j1]
    refine .neg (by simp) ?_
    refine .step ?_
    simp only [cofferref21_Parse.j2]
    exact h
   refine toj1 (fun hr => j1t ?_) (fun d q hr => ?_)
   ·
    subst hr
    exact ref_end_at [47] []
   ·
    by_cases hd : d = 63
    ·
     subst hd
     subst hr
     rw [show (((63 : UInt8).toNat : Int) == 63) = true by decide]
     have hpt : parseT (47 :: 63 :: q) = queryE [] [] (queryT q) := by
      have h1 : cut1 63 (47 :: 63 :: q) = some ([47], q) := by
       rw [cut1, if_neg (by decide), cut1, if_pos rfl]; rfl
      unfold parseT
      rw [h1]
      show (match pathT [47] with | some ps => (match queryT q with | some qs => endP (mks ps) qs | none => ([], [], 4)) | none => ([], [], 4)) = _
      rw [show pathT [47] = some [] from by unfold pathT; rw [if_pos rfl]]
      show (match queryT q with | some qs => endP (mks []) qs | none => ([], [], 4)) = _
      cases queryT q <;> rfl
     rw [hpt]
     exact j1t (ref_query_at (47 :: 63 :: q) (by simpa using hl) [] (by simp) (by simp) 1 q rfl)
    ·
     rw [show ((d.toNat : Int) == 63) = false by
      rw [beq_eq_false_iff_ne]; exact fun e => hd (UInt8.toNat_inj.1 (by have : (63 : UInt8).toNat = 63 := rfl; omega))]
     refine j1f ?_
     have hne : 47 :: r ≠ [47] := by rw [hr]; simp
     rcases hcut : cut1 63 (47 :: r) with _ | ⟨a, b⟩
     ·
      obtain ⟨hno, _⟩ := cut1_none hcut
      have hpt : parseT (47 :: r) = (match allN (cutAll 47 r) with | some ps => endP (mks ps) [] | none => ([], [], 4)) := by
       unfold parseT
       rw [hcut]
       show (match pathT (47 :: r) with | some ps => endP (mks ps) [] | none => ([], [], 4)) = _
       rw [path_slash r hne]
      refine refpath (47 :: r) (by simpa using hl) [] (.inl rfl) (parseT (47 :: r)) (cutAll 47 r) 0 [] (by rw [flat_cut]; simp) (by simp) (fun x hx b hb => ⟨(cut_mem 47 r x hx b hb).2, hno b (by simp [(cut_mem 47 r x hx b hb).1])⟩) (by simp) (fun ps hps => ?_) (fun hn => ?_)
      ·
       rw [hpt, hps]
       have h2 : pathT (47 :: r) = some ps := (path_slash r hne).trans hps
       show Ev _ (endP (mks ps) [])
       rw [endP_path h2]
       exact ref_end_at (47 :: r) (mks ps)
      ·
       rw [hpt, hn]
     ·
      obtain ⟨he, hno, _⟩ := cut1_some hcut
      rcases a with _ | ⟨a0, a⟩
      ·
       exact absurd he (by simp)
      ·
       injection he with h1 he
       subst h1
       have hne2 : 47 :: a ≠ [47] := fun e => by
        injection e with _ e
        rw [e] at he
        rw [hr] at he
        injection he with e2
        exact hd e2
       have hz : r.length = a.length + 1 + b.length := by rw [he]; simp; omega
       have hpp : pathT (47 :: a) = allN (cutAll 47 a) := path_slash a hne2
       have hpt : parseT (47 :: r) = (match allN (cutAll 47 a) with | some ps => queryE (mks ps) [] (queryT b) | none => ([], [], 4)) := by
        unfold parseT
        rw [hcut]
        show (match pathT (47 :: a) with | some ps => (match queryT b with | some qs => endP (mks ps) qs | none => ([], [], 4)) | none => ([], [], 4)) = _
        rw [hpp]
        cases allN (cutAll 47 a) with
        | none => rfl
        | some ps => cases queryT b <;> rfl
       refine refpath (47 :: r) (by simpa using hl) (63 :: b) (.inr ⟨b, rfl⟩) (parseT (47 :: r)) (cutAll 47 a) 0 [] (by rw [flat_cut, he]; simp) (by simp) (fun x hx c hc => ⟨(cut_mem 47 a x hx c hc).2, hno c (by simp [(cut_mem 47 a x hx c hc).1])⟩) (by simp) (fun ps hps => ?_) (fun hn => ?_)
       ·
        rw [hpt, hps]
        obtain ⟨h4, h5⟩ := pathT_len (hpp.trans hps)
        rw [List.length_cons] at h4
        refine ref_query_at (47 :: r) (by simpa using hl) (mks ([] ++ ps)) ?_ (by rw [mks_len]; simp; omega) _ b ?_
        ·
         refine mks_size (fun p hp => ?_)
         have := h5 p (by simpa using hp)
         rw [List.length_cons] at this
         omega
        ·
         exact drop_suf ⟨47 :: a, by rw [he]; rfl⟩
       ·
        rw [hpt, hn]
  ·
   have hpb : parseT (c :: r) = BAD := by
    unfold parseT
    rcases hcut : cut1 63 (c :: r) with _ | ⟨a, b⟩
    ·
     show (match pathT (c :: r) with | some ps => endP (mks ps) [] | none => ([], [], 4)) = _
     rw [hbad (c :: r) hc]
    ·
     obtain ⟨he, _, _⟩ := cut1_some hcut
     show (match pathT a with | some ps => (match queryT b with | some qs => endP (mks ps) qs | none => ([], [], 4)) | none => ([], [], 4)) = _
     rw [hbad a]
     rcases a with _ | ⟨a0, a⟩
     ·
      decide
     ·
      injection he with h1 _
      subst h1
      exact hc
   rw [hpb, show ((c.toNat : Int) != 47) = true by
    rw [bne_iff_ne]; exact fun e => hc (UInt8.toNat_inj.1 (by have : (47 : UInt8).toNat = 47 := rfl; omega))]
   exact hj0
end Go.Proofs.YtnfimhdcpmakpaaDoor.S
namespace Go.Proofs.YtnfimhdcpmakpaaDoor.S
open Go.RowKit Go.Proofs.YtnfimhdcpmakpaaDoorW.PrintWords
set_option linter.unusedVariables false
set_option linter.unusedSimpArgs false
open Go.RowKit Go.Proofs.YtnfimhdcpmakpaaDoorW.PrintWords Go.Proofs.YtnfimhdcpmakpaaDoorW.PrintLast Go.Proofs.YtnfimhdcpmakpaaDoorW.PrintMore
theorem digit_of (d : Int) (h0 : 0 ≤ d) (h1 : d ≤ 9) :
  (⟨#[48, 49, 50, 51, 52, 53, 54, 55, 56, 57, 97, 98, 99, 100, 101, 102]⟩ : ByteArray).extract (d : Int).toNat ((wrap64 (d + 1)) : Int).toNat = ⟨#[UInt8.ofNat (48 + d.toNat)]⟩ := by
 have hw : wrap64 (d + 1) = d + 1 := by unfold wrap64; omega
 rw [hw]
 obtain ⟨n, rfl⟩ := Int.eq_ofNat_of_zero_le h0
 have hn : n ≤ 9 := by omega
 rcases n with _ | _ | _ | _ | _ | _ | _ | _ | _ | _ | n <;> first | omega | rfl
theorem app_toArray (a b : List UInt8) : (⟨a.toArray⟩ : ByteArray) ++ ⟨b.toArray⟩ = ⟨(a ++ b).toArray⟩ := by
 apply ByteArray.ext; simp
theorem tm10 (x : Int) : (0 ≤ x ∧ x.tmod 10 = x % 10 ∧ x.tdiv 10 = x / 10) ∨ (x < 0 ∧ x.tmod 10 = -((-x) % 10) ∧ x.tdiv 10 = -((-x) / 10)) := by
 by_cases h : 0 ≤ x
 ·
  exact .inl ⟨h, Int.tmod_eq_emod_of_nonneg h, Int.tdiv_eq_ediv_of_nonneg h⟩
 ·
  refine .inr ⟨by omega, ?_, ?_⟩
  ·
   have e : x = -(-x) := by omega
   rw [e, Int.neg_tmod, Int.tmod_eq_emod_of_nonneg (by omega)]
   simp
  ·
   have e : x = -(-x) := by omega
   rw [e, Int.neg_tdiv, Int.tdiv_eq_ediv_of_nonneg (by omega)]
   simp
theorem print_round (k : Nat) (x0 : Int) (s : ByteArray) (neg : Bool) (x5 : Int) (h0 : -9223372036854775808 ≤ x0) (h1 : x0 ≤ 9223372036854775807) (hs : s.size ≤ 1000) (h5 : 0 ≤ x5) (h6 : x5 ≤ 1000) :
  cofferref4_Print.j1 (k + 1) x0 s neg x5 true = cofferref4_Print.l0 k (x0.tdiv 10) (⟨#[UInt8.ofNat (48 + x0.natAbs % 10)]⟩ ++ s) neg (x5 + 1) := by
 have T := tm10 x0
 have e5 : wrap64 (x5 + 1) = x5 + 1 := by unfold wrap64; omega
 have hq : wrap64 (x0.tdiv 10) = x0.tdiv 10 := by unfold wrap64; omega
 simp only [cofferref4_Print.j1]
 rw [if_pos trivial, e5, hq]
 by_cases hn : x0.tmod 10 < 0
 ·
  have hd : wrap64 (-(x0.tmod 10)) = -(x0.tmod 10) := by unfold wrap64; omega
  have hw : wrap64 (-(x0.tmod 10) + 1) = -(x0.tmod 10) + 1 := by unfold wrap64; omega
  rw [if_pos hn, hd, digit_of _ (by omega) (by omega), hw, if_pos (by omega), if_pos (by omega), if_pos (by omega), if_pos (by have : (⟨#[UInt8.ofNat (48 + ((-(x0.tmod 10)).toNat))]⟩ : ByteArray).size = 1 := rfl; omega)]
  have e : (-(x0.tmod 10)).toNat = x0.natAbs % 10 := by omega
  rw [e]
 ·
  have hw : wrap64 (x0.tmod 10 + 1) = x0.tmod 10 + 1 := by unfold wrap64; omega
  rw [if_neg hn, digit_of _ (by omega) (by omega), hw, if_pos (by omega), if_pos (by omega), if_pos (by omega), if_pos (by have : (⟨#[UInt8.ofNat (48 + ((x0.tmod 10).toNat))]⟩ : ByteArray).size = 1 := rfl; omega)]
  have e : (x0.tmod 10).toNat = x0.natAbs % 10 := by omega
  rw [e]
theorem print_end (k : Nat) (s : ByteArray) (neg : Bool) (x5 : Int) (hs : s.size ≤ 1000) (h5 : 1 ≤ x5) :
  cofferref4_Print.l0 (k + 2) 0 s neg x5 = some ((if neg = true then ⟨#[45]⟩ else ⟨#[]⟩) ++ s) := by
 simp only [cofferref4_Print.l0]
 rw [if_neg (by omega)]
 simp only [cofferref4_Print.j1]
 rw [if_neg (by simp)]
 cases neg with
 | true => rw [if_pos rfl, if_pos (by omega), if_pos rfl]
 | false =>
  rw [if_neg (by simp), if_neg (by simp)]
  congr 1
theorem print_digits : ∀ (m k : Nat) (x0 : Int) (s : List UInt8) (neg : Bool) (x5 : Int), 2 * m + 4 ≤ k → x0.natAbs < 10 ^ (m + 1) → -9223372036854775808 ≤ x0 → x0 ≤ 9223372036854775807 → s.length + m ≤ 900 → 0 ≤ x5 → x5 + m ≤ 900 →
  (x5 = 0 ∨ x0 ≠ 0) → cofferref4_Print.l0 k x0 ⟨s.toArray⟩ neg x5 = some ((if neg = true then ⟨#[45]⟩ else ⟨#[]⟩) ++ ⟨(Lib.decDigits x0.natAbs ++ s).toArray⟩) := by
 intro m
 induction m with
 | zero =>
  intro k x0 s neg x5 hk hx h0 h1 hs h5 h6 hor
  obtain ⟨k, rfl⟩ : ∃ j, k = j + 4 := ⟨k - 4, by omega⟩
  have hx' : x0.natAbs < 10 := by simpa using hx
  have T := tm10 x0
  have hsz : (⟨s.toArray⟩ : ByteArray).size ≤ 900 := by simp [ByteArray.size]; omega
  have e1 : cofferref4_Print.l0 (k + 4) x0 ⟨s.toArray⟩ neg x5 = cofferref4_Print.j1 (k + 3) x0 ⟨s.toArray⟩ neg x5 true := by
   simp only [cofferref4_Print.l0]
   by_cases h : x5 = 0
   ·
    rw [if_pos h]
   ·
    rw [if_neg h]
    have : (x0 != 0) = true := by simp; omega
    rw [this]
  rw [e1, print_round _ _ _ _ _ h0 h1 (by omega) h5 (by omega)]
  have hz : x0.tdiv 10 = 0 := by omega
  rw [hz, print_end k _ neg _ (by simp [ByteArray.size]; omega) (by omega), Lib.decDigits, dif_pos hx']
  have hm : x0.natAbs % 10 = x0.natAbs := by omega
  rw [hm]
  congr 2
 | succ m ih =>
  intro k x0 s neg x5 hk hx h0 h1 hs h5 h6 hor
  by_cases hx' : x0.natAbs < 10 ^ (m + 1)
  ·
   exact ih k x0 s neg x5 (by omega) hx' h0 h1 (by omega) h5 (by omega) hor
  ·
   have T := tm10 x0
   obtain ⟨k, rfl⟩ : ∃ j, k = j + 2 := ⟨k - 2, by omega⟩
   have hpos : 10 ≤ x0.natAbs := by
    have : 10 ^ 1 ≤ 10 ^ (m + 1) := Nat.pow_le_pow_right (by omega) (by omega)
    omega
   have e1 : cofferref4_Print.l0 (k + 2) x0 ⟨s.toArray⟩ neg x5 = cofferref4_Print.j1 (k + 1) x0 ⟨s.toArray⟩ neg x5 true := by
    simp only [cofferref4_Print.l0]
    by_cases h : x5 = 0
    ·
     rw [if_pos h]
    ·
     rw [if_neg h]
     have : (x0 != 0) = true := by simp; omega
     rw [this]
   have hsz : (⟨s.toArray⟩ : ByteArray).size ≤ 900 := by simp [ByteArray.size]; omega
   have hq : (x0.tdiv 10).natAbs = x0.natAbs / 10 := by omega
   have hlt : (x0.tdiv 10).natAbs < 10 ^ (m + 1) := by
    rw [hq]
    have : 10 ^ (m + 1 + 1) = 10 ^ (m + 1) * 10 := Nat.pow_succ ..
    omega
   rw [e1, print_round _ _ _ _ _ h0 h1 (by omega) h5 (by omega)]
   have e2 := app_toArray [UInt8.ofNat (48 + x0.natAbs % 10)] s
   rw [show (⟨#[UInt8.ofNat (48 + x0.natAbs % 10)]⟩ : ByteArray) = ⟨([UInt8.ofNat (48 + x0.natAbs % 10)] : List UInt8).toArray⟩ from rfl, e2,
    ih k (x0.tdiv 10) _ neg (x5 + 1) (by omega) hlt (by omega) (by omega) (by simp; omega) (by omega) (by omega) (by right; omega), hq]
   rw [Lib.decDigits.eq_def x0.natAbs, dif_neg (by omega)]
   simp
theorem ref_print (k : Nat) (n : Int) (h0 : -9223372036854775808 ≤ n) (h1 : n ≤ 9223372036854775807) (hk : 100 ≤ k) : cofferref4_Print.f k n = some ⟨(Lib.itoa n).toArray⟩ := by
 unfold cofferref4_Print.f
 have hx : n.natAbs < 10 ^ (19 + 1) := by
  have : (10 : Nat) ^ (19 + 1) = 100000000000000000000 := by decide
  omega
 rw [show (⟨#[]⟩ : ByteArray) = ⟨([] : List UInt8).toArray⟩ from rfl, print_digits 19 k n [] _ 0 (by omega) hx h0 h1 (by simp) (by omega) (by omega) (.inl rfl)]
 congr 1
 unfold Lib.itoa
 by_cases hn : n < 0
 ·
  rw [if_pos hn, if_pos (by simpa using hn)]
  rw [show (⟨#[45]⟩ : ByteArray) = ⟨([45] : List UInt8).toArray⟩ from rfl, app_toArray]
  simp
 ·
  rw [if_neg hn, if_neg (by simpa using hn), show (⟨#[]⟩ : ByteArray) = ⟨([] : List UInt8).toArray⟩ from rfl, app_toArray]
  have : n.natAbs = n.toNat := by omega
  rw [this]
  simp
open Go
def val (l : List UInt8) : Nat := l.foldl (fun a c => 10 * a + (c.toNat - 48)) 0
theorem fuel {k n : Nat} (h : n + 1 ≤ k) : ∃ j, k = j + 1 ∧ n ≤ j := ⟨k - 1, by omega, by omega⟩
def okc (c : Int) : Bool := decide (97 ≤ c ∧ c ≤ 122 ∨ 48 ≤ c ∧ c ≤ 57 ∨ c = 45)
def okn (b : Nat → Int) : Nat → Nat → Bool
 | 0, _ => true
 | d + 1, i => okc (b i) && okn b d (i + 1)
theorem nm_may_l0 (s : ByteArray) (hs : s.size ≤ 1048576) : ∀ (d k i : Nat), i + d = s.size → 3 * d + 3 ≤ k → names_May.l0 k s (s.size : Int) (i : Int) = some (okn (byteAt s) d i)
 | 0, k, i, hd, hk => by
  obtain ⟨k, rfl, hk⟩ := fuel (n := k - 1) (k := k) (by omega)
  simp only [names_May.l0, okn]; rw [if_neg (by omega)]
 | d + 1, k, i, hd, hk => by
  obtain ⟨k, rfl⟩ : ∃ j, k = j + 3 := ⟨k - 3, by omega⟩
  have ih := nm_may_l0 s hs d
  have e : wrap64 ((i : Int) + 1) = ((i + 1 : Nat) : Int) := by unfold wrap64; omega
  simp only [names_May.l0, okn]
  rw [if_pos (by omega), if_pos (by omega), if_pos (by omega)]
  show _ = some (okc (bt s (i : Int)) && okn (byteAt s) d (i + 1))
  generalize bt s (i : Int) = c
  by_cases a : 97 ≤ c
  ·
   by_cases a' : c ≤ 122
   ·
    rw [if_pos a, decide_eq_true a']
    simp only [names_May.j2]
    rw [if_pos trivial, e, ih _ _ (by omega) (by omega)]
    have : okc c = true := by unfold okc; simp; omega
    rw [this]; simp
   ·
    rw [if_pos a, decide_eq_false a']
    simp only [names_May.j2]
    rw [if_neg (by simp), if_pos (by omega), decide_eq_false (by omega)]
    simp only [names_May.j3]
    rw [if_neg (by simp), if_neg (by omega)]
    have : okc c = false := by unfold okc; simp; omega
    rw [this]; simp
  ·
   rw [if_neg a]
   simp only [names_May.j2]
   rw [if_neg (by simp)]
   by_cases b : 48 ≤ c
   ·
    rw [if_pos b]
    simp only [names_May.j3]
    by_cases b' : c ≤ 57
    ·
     rw [decide_eq_true b', if_pos rfl, e, ih _ _ (by omega) (by omega)]
     have : okc c = true := by unfold okc; simp; omega
     rw [this]; simp
    ·
     rw [decide_eq_false b', if_neg (by simp), if_neg (by omega)]
     have : okc c = false := by unfold okc; simp; omega
     rw [this]; simp
   ·
    rw [if_neg b]
    simp only [names_May.j3]
    rw [if_neg (by simp)]
    by_cases b' : c = 45
    ·
     rw [if_pos b', e, ih _ _ (by omega) (by omega)]
     have : okc c = true := by unfold okc; simp; omega
     rw [this]; simp
    ·
     rw [if_neg b']
     have : okc c = false := by unfold okc; simp; omega
     rw [this]; simp
theorem ref_may_l0 (s : ByteArray) (hs : s.size ≤ 1048576) : ∀ (d k i : Nat), i + d = s.size → d + 1 ≤ k → cofferref4_May.l0 k s (i : Int) = some (okn (byteAt s) d i)
 | 0, k, i, hd, hk => by
  obtain ⟨k, rfl, hk⟩ := fuel (n := k - 1) (k := k) (by omega)
  simp only [cofferref4_May.l0, okn]; rw [if_neg (by omega)]
 | d + 1, k, i, hd, hk => by
  obtain ⟨k, rfl⟩ : ∃ j, k = j + 1 := ⟨k - 1, by omega⟩
  have ih := ref_may_l0 s hs d k (i + 1) (by omega) (by omega)
  have e : wrap64 ((i : Int) + 1) = ((i + 1 : Nat) : Int) := by unfold wrap64; omega
  simp only [cofferref4_May.l0, okn]
  rw [if_pos (by omega), if_pos (by omega), e, ih]
  show _ = some (okc (bt s (i : Int)) && okn (byteAt s) d (i + 1))
  generalize bt s (i : Int) = c
  unfold okc
  by_cases a : 97 ≤ c <;> by_cases a' : c ≤ 122 <;> by_cases b : 48 ≤ c <;> by_cases b' : c ≤ 57 <;> by_cases d' : c = 45 <;> first | omega | simp [a, a', b, b', d']
def mayS (s : ByteArray) : Bool := decide (1 ≤ s.size ∧ s.size ≤ 16 ∧ 97 ≤ byteAt s 0 ∧ byteAt s 0 ≤ 122) && okn (byteAt s) s.size 0
theorem nm_may_f (s : ByteArray) (k : Nat) (hk : 100 ≤ k) : names_May.f k s = some (mayS s) := by
 obtain ⟨k, rfl⟩ : ∃ j, k = j + 1 := ⟨k - 1, by omega⟩
 unfold names_May.f mayS
 simp only [names_May.j0]
 by_cases h1 : s.size < 1
 ·
  rw [if_pos (by omega), if_pos trivial, decide_eq_false (by omega)]; rfl
 rw [if_neg (by omega)]
 by_cases h2 : 16 < s.size
 ·
  rw [if_pos (by omega), if_pos trivial, decide_eq_false (by omega)]; rfl
 rw [if_neg (by omega), if_pos (by omega)]
 have hb : byteAt s 0 = bt s 0 := rfl
 by_cases h3 : bt s 0 < 97
 ·
  rw [if_pos h3, if_pos trivial, decide_eq_false (by omega)]; rfl
 rw [if_neg h3]
 by_cases h4 : bt s 0 > 122
 ·
  rw [if_pos (by simpa using h4), decide_eq_false (by omega)]; rfl
 rw [if_neg (by simpa using h4), decide_eq_true (by omega)]
 have := nm_may_l0 s (by omega) s.size k 0 (by omega) (by omega)
 rw [Bool.true_and, ← this]; rfl
theorem nm_ref_may_f (s : ByteArray) (k : Nat) (hk : 100 ≤ k) : cofferref4_May.f k s = some (mayS s) := by
 obtain ⟨k, rfl⟩ : ∃ j, k = j + 1 := ⟨k - 1, by omega⟩
 unfold cofferref4_May.f mayS
 simp only [cofferref4_May.j0]
 by_cases h1 : s.size < 1
 ·
  rw [if_pos (by omega), if_pos trivial, decide_eq_false (by omega)]; rfl
 rw [if_neg (by omega)]
 by_cases h2 : 16 < s.size
 ·
  rw [if_pos (by omega), if_pos trivial, decide_eq_false (by omega)]; rfl
 rw [if_neg (by omega), if_pos (by omega)]
 have hb : byteAt s 0 = bt s 0 := rfl
 by_cases h3 : bt s 0 < 97
 ·
  rw [if_pos h3, if_pos trivial, decide_eq_false (by omega)]; rfl
 rw [if_neg h3]
 by_cases h4 : bt s 0 > 122
 ·
  rw [if_pos (by simpa using h4), decide_eq_false (by omega)]; rfl
 rw [if_neg (by simpa using h4), decide_eq_true (by omega)]
 have := ref_may_l0 s (by omega) s.size k 0 (by omega) (by omega)
 rw [Bool.true_and, ← this]; rfl
def isd (c : Int) : Bool := decide (48 ≤ c ∧ c ≤ 57)
def alld (b : Nat → Int) : Nat → Nat → Bool
 | 0, _ => true
 | d + 1, i => isd (b i) && alld b d (i + 1)
theorem alld_at (b : Nat → Int) : ∀ (d i : Nat), alld b d i = true → ∀ j, i ≤ j → j < i + d → 48 ≤ b j ∧ b j ≤ 57
 | 0, i, _, j, h1, h2 => by omega
 | d + 1, i, h, j, h1, h2 => by
  simp only [alld, Bool.and_eq_true] at h
  by_cases e : j = i
  ·
   subst e; simpa [isd] using h.1
  ·
   exact alld_at b d (i + 1) h.2 j (by omega) (by omega)
def V (b : Nat → Int) : Nat → Int
 | 0 => 0
 | k + 1 => 10 * V b k + (b k - 48)
theorem V_nonneg (b : Nat → Int) : ∀ k, (∀ j, j < k → 48 ≤ b j) → 0 ≤ V b k
 | 0, _ => by simp [V]
 | k + 1, h => by
  have := V_nonneg b k (fun j hj => h j (by omega))
  have := h k (by omega)
  unfold V; omega
theorem V_mono (b : Nat → Int) (i : Nat) : ∀ d, (∀ j, j < i + d → 48 ≤ b j) → V b i ≤ V b (i + d)
 | 0, _ => by simp
 | d + 1, h => by
  have h1 := V_mono b i d (fun j hj => h j (by omega))
  have h2 := V_nonneg b (i + d) (fun j hj => h j (by omega))
  have h3 := h (i + d) (by omega)
  show V b i ≤ V b ((i + d) + 1)
  rw [V]; omega
theorem V_lt (b : Nat → Int) : ∀ k, (∀ j, j < k → 48 ≤ b j ∧ b j ≤ 57) → V b k < (10 ^ k : Nat)
 | 0, _ => by simp [V]
 | k + 1, h => by
  have h1 := V_lt b k (fun j hj => h j (by omega))
  have h2 := h k (by omega)
  have e : (10 : Nat) ^ (k + 1) = 10 ^ k * 10 := Nat.pow_succ ..
  unfold V; omega
theorem V_ge (b : Nat → Int) (h0 : 49 ≤ b 0) : ∀ k, (∀ j, j < k + 1 → 48 ≤ b j) → ((10 ^ k : Nat) : Int) ≤ V b (k + 1)
 | 0, _ => by simp [V]; omega
 | k + 1, h => by
  have h1 := V_ge b h0 k (fun j hj => h j (by omega))
  have h2 := h (k + 1) (by omega)
  have e : (10 : Nat) ^ (k + 1) = 10 ^ k * 10 := Nat.pow_succ ..
  rw [V]; omega
def maxN : Int := 9223372036854775807
def numS (b : Nat → Int) (n : Nat) : Int × Int :=
 if alld b n 0 = false then (0, 4) else if n = 0 ∨ b 0 = 48 ∧ 1 < n then (0, 4) else if maxN < V b n then (0, 2) else (V b n, 0)
theorem num_l1 (s : ByteArray) (hs : s.size ≤ 1048576) (ha : alld (byteAt s) s.size 0 = true) : ∀ (d k i : Nat), i + d = s.size → d + 1 ≤ k → V (byteAt s) i ≤ maxN →
  names_Number.l1 k s (V (byteAt s) i) (s.size : Int) (i : Int) = some (if maxN < V (byteAt s) s.size then (0, 2) else (V (byteAt s) s.size, 0))
 | 0, k, i, hd, hk, hv => by
  obtain ⟨k, rfl⟩ : ∃ j, k = j + 1 := ⟨k - 1, by omega⟩
  obtain rfl : i = s.size := by omega
  simp only [names_Number.l1]; rw [if_neg (by omega), if_neg (by omega)]
 | d + 1, k, i, hd, hk, hv => by
  obtain ⟨k, rfl⟩ : ∃ j, k = j + 1 := ⟨k - 1, by omega⟩
  have dig := alld_at (byteAt s) s.size 0 ha
  have hc := dig i (by omega) (by omega)
  have h0 := V_nonneg (byteAt s) i (fun j hj => (dig j (by omega) (by omega)).1)
  have e : wrap64 ((i : Int) + 1) = ((i + 1 : Nat) : Int) := by unfold wrap64; omega
  have hb : byteAt s i = bt s i := rfl
  have hm : (bt s i - 48) % 256 = byteAt s i - 48 := by rw [← hb]; omega
  have hV : V (byteAt s) (i + 1) = 10 * V (byteAt s) i + (byteAt s i - 48) := rfl
  simp only [names_Number.l1]
  rw [if_pos (by omega), if_pos (by omega), if_pos (by omega), hm, e]
  unfold maxN at hv
  by_cases g : V (byteAt s) i > (9223372036854775807 - (byteAt s i - 48)) / 10
  ·
   rw [if_pos g]
   have h1 : maxN < V (byteAt s) (i + 1) := by rw [hV]; unfold maxN; omega
   have h2 := V_mono (byteAt s) (i + 1) d (fun j hj => (dig j (by omega) (by omega)).1)
   rw [show i + 1 + d = s.size by omega] at h2
   rw [if_pos (by omega)]
  ·
   rw [if_neg g]
   have h1 : V (byteAt s) (i + 1) ≤ maxN := by rw [hV]; unfold maxN; omega
   have w1 : wrap64 (10 * V (byteAt s) i) = 10 * V (byteAt s) i := by unfold wrap64; omega
   have w2 : wrap64 (10 * V (byteAt s) i + (byteAt s i - 48)) = V (byteAt s) (i + 1) := by rw [hV]; unfold wrap64; omega
   rw [w1, w2]
   exact num_l1 s hs ha d k (i + 1) (by omega) (by omega) h1
theorem toList_nil (s : ByteArray) : s.toList = ([] : List UInt8) ↔ s.size = 0 := by
 rw [Lib.toList_data]
 constructor
 ·
  intro h; rw [Lib.size_eq, h]; rfl
 ·
  intro h; apply List.eq_nil_of_length_eq_zero; rw [← Lib.size_eq]; exact h
theorem num_tail (s : ByteArray) (hs : s.size ≤ 1048576) (ha : alld (byteAt s) s.size 0 = true) (k : Nat) (hk : s.size + 2 ≤ k) :
  (if s.toList = ([] : List UInt8) then (names_Number.j1 k s true) else (if 0 < (s.size : Int) then (if (bt s 0) = 48 then (names_Number.j1 k s (decide ((s.size : Int) > 1))) else (names_Number.j1 k s false)) else (none))) = some (numS (byteAt s) s.size) := by
 obtain ⟨k, rfl⟩ : ∃ j, k = j + 1 := ⟨k - 1, by omega⟩
 unfold numS
 rw [if_neg (show ¬ alld (byteAt s) s.size 0 = false by rw [ha]; simp)]
 have hb : byteAt s 0 = bt s 0 := rfl
 by_cases h0 : s.size = 0
 ·
  rw [if_pos ((toList_nil s).2 h0), if_pos (.inl h0)]; simp [names_Number.j1]
 rw [if_neg (fun h => h0 ((toList_nil s).1 h)), if_pos (by omega)]
 have main := num_l1 s hs ha s.size k 0 (by omega) (by omega) (by simp [V, maxN])
 simp only [names_Number.j1]
 by_cases h1 : bt s 0 = 48
 ·
  rw [if_pos h1]
  by_cases h2 : (s.size : Int) > 1
  ·
   rw [if_pos (decide_eq_true h2), if_pos (.inr ⟨by rw [hb]; exact h1, by omega⟩)]
  ·
   rw [if_neg (by simpa using h2), if_neg (by omega)]
   exact main
 ·
  rw [if_neg h1, if_neg (by simp), if_neg (by omega)]
  exact main
theorem num_l0 (s : ByteArray) (hs : s.size ≤ 1048576) : ∀ (d k i : Nat), i + d = s.size → d + s.size + 4 ≤ k → (∀ j, j < i → 48 ≤ byteAt s j ∧ byteAt s j ≤ 57) →
  names_Number.l0 k s (s.size : Int) (i : Int) = some (numS (byteAt s) s.size)
 | 0, k, i, hd, hk, hv => by
  obtain ⟨k, rfl⟩ : ∃ j, k = j + 1 := ⟨k - 1, by omega⟩
  simp only [names_Number.l0]; rw [if_neg (by omega)]
  have ha : alld (byteAt s) s.size 0 = true := by
   have key : ∀ (d i : Nat), i + d = s.size → alld (byteAt s) d i = true := by
    intro d
    induction d with
    | zero => intro i _; rfl
    | succ d ih => intro i' h'; simp only [alld, Bool.and_eq_true]; exact ⟨by unfold isd; exact decide_eq_true (hv i' (by omega)), ih (i' + 1) (by omega)⟩
   exact key s.size 0 (by omega)
  exact num_tail s hs ha k (by omega)
 | d + 1, k, i, hd, hk, hv => by
  obtain ⟨k, rfl⟩ : ∃ j, k = j + 1 := ⟨k - 1, by omega⟩
  have e : wrap64 ((i : Int) + 1) = ((i + 1 : Nat) : Int) := by unfold wrap64; omega
  have hb : byteAt s i = bt s i := rfl
  have bad : ¬ (48 ≤ byteAt s i ∧ byteAt s i ≤ 57) → numS (byteAt s) s.size = (0, 4) := by
   intro h
   unfold numS
   rw [if_pos]
   cases ha : alld (byteAt s) s.size 0 with
   | false => rfl
   | true => exact absurd (alld_at _ _ _ ha i (by omega) (by omega)) h
  simp only [names_Number.l0]
  rw [if_pos (by omega), if_pos (by omega), if_pos (by omega), e]
  by_cases g : bt s i < 48
  ·
   rw [if_pos g, bad (by omega)]
  rw [if_neg g]
  by_cases g2 : bt s i > 57
  ·
   rw [if_pos g2, bad (by omega)]
  rw [if_neg g2]
  exact num_l0 s hs d k (i + 1) (by omega) (by omega) (fun j hj => by by_cases ej : j = i; (subst ej; omega); exact hv j (by omega))
theorem number_f (s : ByteArray) (hs : s.size ≤ 1048576) (k : Nat) (hk : 2 * s.size + 4 ≤ k) : names_Number.f k s = some (numS (byteAt s) s.size) := by
 unfold names_Number.f
 exact num_l0 s hs s.size k 0 (by omega) (by omega) (fun j hj => by omega)
theorem wrap_u64 (n : Int) (h0 : 0 ≤ n) (h1 : n < 18446744073709551616) : IntKind.u64.wrap n = n := by
 simp only [IntKind.wrap, IntKind.bits, IntKind.signed]
 simp
 omega
theorem ten19 : (10 : Nat) ^ 19 = 10000000000000000000 := by decide
theorem ref_num_l1 (s : ByteArray) (hs : s.size ≤ 1048576) (ha : alld (byteAt s) s.size 0 = true) (hz : ¬ (byteAt s 0 = 48 ∧ 1 < s.size)) : ∀ (d k i : Nat), i + d = s.size → d + 1 ≤ k → i ≤ 19 → V (byteAt s) i ≤ maxN →
  cofferref4_Number.l1 k s (V (byteAt s) i) (i : Int) = some (if maxN < V (byteAt s) s.size then (0, 2) else (V (byteAt s) s.size, 0))
 | 0, k, i, hd, hk, hi, hv => by
  obtain ⟨k, rfl⟩ : ∃ j, k = j + 1 := ⟨k - 1, by omega⟩
  obtain rfl : i = s.size := by omega
  have dig := alld_at (byteAt s) s.size 0 ha
  have h0 := V_nonneg (byteAt s) s.size (fun j hj => (dig j (by omega) (by omega)).1)
  simp only [cofferref4_Number.l1]; rw [if_neg (by omega), if_neg (by omega)]
  have : wrap64 (V (byteAt s) s.size) = V (byteAt s) s.size := by unfold maxN at hv; unfold wrap64; omega
  rw [this]
 | d + 1, k, i, hd, hk, hi, hv => by
  obtain ⟨k, rfl⟩ : ∃ j, k = j + 1 := ⟨k - 1, by omega⟩
  have dig := alld_at (byteAt s) s.size 0 ha
  have hc := dig i (by omega) (by omega)
  have h0 := V_nonneg (byteAt s) i (fun j hj => (dig j (by omega) (by omega)).1)
  have e : wrap64 ((i : Int) + 1) = ((i + 1 : Nat) : Int) := by unfold wrap64; omega
  have hb : byteAt s i = bt s i := rfl
  have hm : (bt s i - 48) % 256 = byteAt s i - 48 := by rw [← hb]; omega
  have hV : V (byteAt s) (i + 1) = 10 * V (byteAt s) i + (byteAt s i - 48) := rfl
  have hmono := V_mono (byteAt s) (i + 1) d (fun j hj => (dig j (by omega) (by omega)).1)
  rw [show i + 1 + d = s.size by omega] at hmono
  simp only [cofferref4_Number.l1]
  rw [if_pos (by omega)]
  by_cases g0 : (i : Int) > 18
  ·
   rw [if_pos g0]
   have h49 : 49 ≤ byteAt s 0 := by
    have := dig 0 (by omega) (by omega)
    have : byteAt s 0 ≠ 48 := fun h => hz ⟨h, by omega⟩
    omega
   have i19 : i = 19 := by omega
   have := V_ge (byteAt s) h49 i (fun j hj => (dig j (by omega) (by omega)).1)
   rw [i19, ten19] at this
   rw [i19] at hmono
   rw [if_pos (by unfold maxN; omega)]
  rw [if_neg g0, if_pos (by omega), hm, e]
  have hlt := V_lt (byteAt s) (i + 1) (fun j hj => dig j (by omega) (by omega))
  have hp : (10 : Nat) ^ (i + 1) ≤ 10 ^ 19 := Nat.pow_le_pow_right (by omega) (by omega)
  rw [ten19] at hp
  rw [wrap_u64 (V (byteAt s) i * 10) (by omega) (by omega), wrap_u64 (V (byteAt s) i * 10 + (byteAt s i - 48)) (by omega) (by omega)]
  have e2 : V (byteAt s) i * 10 + (byteAt s i - 48) = V (byteAt s) (i + 1) := by omega
  rw [e2]
  by_cases g : V (byteAt s) (i + 1) > 9223372036854775807
  ·
   rw [if_pos g, if_pos (by unfold maxN; omega)]
  ·
   rw [if_neg g]
   exact ref_num_l1 s hs ha hz d k (i + 1) (by omega) (by omega) (by omega) (by unfold maxN; omega)
theorem ref_num_l0 (s : ByteArray) (hs : s.size ≤ 1048576) (hn : s.size ≠ 0) (hz : ¬ (byteAt s 0 = 48 ∧ 1 < s.size)) : ∀ (d k i : Nat), i + d = s.size → d + s.size + 4 ≤ k → (∀ j, j < i → 48 ≤ byteAt s j ∧ byteAt s j ≤ 57) →
  cofferref4_Number.l0 k s (i : Int) = some (numS (byteAt s) s.size)
 | 0, k, i, hd, hk, hv => by
  obtain ⟨k, rfl⟩ : ∃ j, k = j + 1 := ⟨k - 1, by omega⟩
  simp only [cofferref4_Number.l0]; rw [if_neg (by omega)]
  have ha : alld (byteAt s) s.size 0 = true := by
   have key : ∀ (d i : Nat), i + d = s.size → alld (byteAt s) d i = true := by
    intro d
    induction d with
    | zero => intro i _; rfl
    | succ d ih => intro i' h'; simp only [alld, Bool.and_eq_true]; exact ⟨by unfold isd; exact decide_eq_true (hv i' (by omega)), ih (i' + 1) (by omega)⟩
   exact key s.size 0 (by omega)
  unfold numS
  rw [if_neg (show ¬ alld (byteAt s) s.size 0 = false by rw [ha]; simp), if_neg (by omega)]
  exact ref_num_l1 s hs ha hz s.size k 0 (by omega) (by omega) (by omega) (by simp [V, maxN])
 | d + 1, k, i, hd, hk, hv => by
  obtain ⟨k, rfl⟩ : ∃ j, k = j + 1 := ⟨k - 1, by omega⟩
  have e : wrap64 ((i : Int) + 1) = ((i + 1 : Nat) : Int) := by unfold wrap64; omega
  have hb : byteAt s i = bt s i := rfl
  have bad : ¬ (48 ≤ byteAt s i ∧ byteAt s i ≤ 57) → numS (byteAt s) s.size = (0, 4) := by
   intro h
   unfold numS
   rw [if_pos]
   cases ha : alld (byteAt s) s.size 0 with
   | false => rfl
   | true => exact absurd (alld_at _ _ _ ha i (by omega) (by omega)) h
  simp only [cofferref4_Number.l0]
  rw [if_pos (by omega), if_pos (by omega), e]
  by_cases g : bt s i < 48
  ·
   rw [if_pos g, bad (by omega)]
  rw [if_neg g]
  by_cases g2 : bt s i > 57
  ·
   rw [if_pos g2, bad (by omega)]
  rw [if_neg g2]
  exact ref_num_l0 s hs hn hz d k (i + 1) (by omega) (by omega) (fun j hj => by by_cases ej : j = i; (subst ej; omega); exact hv j (by omega))
theorem ref_number_f (s : ByteArray) (hs : s.size ≤ 1048576) (k : Nat) (hk : 2 * s.size + 6 ≤ k) : cofferref4_Number.f k s = some (numS (byteAt s) s.size) := by
 obtain ⟨k, rfl⟩ : ∃ j, k = j + 1 := ⟨k - 1, by omega⟩
 unfold cofferref4_Number.f
 simp only [cofferref4_Number.j0]
 have hb : byteAt s 0 = bt s 0 := rfl
 have bad : (s.size = 0 ∨ byteAt s 0 = 48 ∧ 1 < s.size) → numS (byteAt s) s.size = (0, 4) := by
  intro h
  unfold numS
  by_cases hh : alld (byteAt s) s.size 0 = false
  ·
   rw [if_pos hh]
  ·
   rw [if_neg hh, if_pos h]
 by_cases h0 : s.size = 0
 ·
  rw [if_pos ((toList_nil s).2 h0), if_pos trivial, bad (.inl h0)]
 rw [if_neg (fun h => h0 ((toList_nil s).1 h)), if_pos (by omega)]
 by_cases h1 : bt s 0 = 48
 ·
  rw [if_pos h1]
  by_cases h2 : (s.size : Int) > 1
  ·
   rw [if_pos (decide_eq_true h2), bad (.inr ⟨by rw [hb]; exact h1, by omega⟩)]
  ·
   rw [if_neg (by simpa using h2)]
   exact ref_num_l0 s hs h0 (by omega) s.size k 0 (by omega) (by omega) (fun j hj => by omega)
 ·
  rw [if_neg h1, if_neg (by simp)]
  exact ref_num_l0 s hs h0 (by omega) s.size k 0 (by omega) (by omega) (fun j hj => by omega)
open Go.RowKit Go.Proofs.YtnfimhdcpmakpaaDoorW.PrintWords Go.Proofs.YtnfimhdcpmakpaaDoorW.PrintLast Go.Proofs.YtnfimhdcpmakpaaDoorW.PrintMore
def W (r : Int) : List UInt8 := if r = 1 then [114, 101, 97, 100] else if r = 3 then [97, 100, 100] else if r = 7 then [102, 117, 108, 108] else if r = 15 then [114, 117, 108, 101] else Lib.itoa r
theorem wrap_u8 (x : Int) (h0 : 0 ≤ x) (h1 : x ≤ 255) : wrap64 x = x := by unfold wrap64; omega
theorem itoa_f (x : Int) (h0 : 0 ≤ x) (h1 : x ≤ 255) : xItoa.f (wrap64 x) = some ⟨(Lib.itoa x).toArray⟩ := by
 rw [wrap_u8 x h0 h1]; unfold xItoa.f; rw [if_pos (by omega)]
theorem word_f (x : Int) (h0 : 0 ≤ x) (h1 : x ≤ 255) : rights_Word.f x = some ⟨(W x).toArray⟩ := by
 unfold rights_Word.f W
 by_cases e1 : x = 1
 ·
  rw [if_pos e1, if_pos e1]
 rw [if_neg e1, if_neg e1]
 by_cases e3 : x = 3
 ·
  rw [if_pos e3, if_pos e3]
 rw [if_neg e3, if_neg e3]
 by_cases e7 : x = 7
 ·
  rw [if_pos e7, if_pos e7]
 rw [if_neg e7, if_neg e7]
 by_cases e15 : x = 15
 ·
  rw [if_pos e15, if_pos e15]
 rw [if_neg e15, if_neg e15, itoa_f x h0 h1]; rfl
theorem ref_word_f (k : Nat) (hk : 100 ≤ k) (x : Int) (h0 : 0 ≤ x) (h1 : x ≤ 255) : cofferref13_Word.f k x = some ⟨(W x).toArray⟩ := by
 unfold cofferref13_Word.f W
 by_cases e1 : x = 1
 ·
  rw [if_pos e1, if_pos e1]
 rw [if_neg e1, if_neg e1]
 by_cases e3 : x = 3
 ·
  rw [if_pos e3, if_pos e3]
 rw [if_neg e3, if_neg e3]
 by_cases e7 : x = 7
 ·
  rw [if_pos e7, if_pos e7]
 rw [if_neg e7, if_neg e7]
 by_cases e15 : x = 15
 ·
  rw [if_pos e15, if_pos e15]
 rw [if_neg e15, if_neg e15, wrap_u8 x h0 h1, ref_print k x (by omega) (by omega) hk]; rfl
def pr (s : List UInt8) : Nat → Int → Int × Int
 | 0, _ => (0, 4)
 | d + 1, x => if s = W x then (x, 0) else if s = Lib.itoa x then (x, 0) else pr s d (x + 1)
theorem parse_l0 (s : ByteArray) : ∀ (d k : Nat) (x : Int), 0 ≤ x → x + d = 16 → d < k → rights_Parse.l0 k s x = some (pr s.data.toList d x)
 | 0, k, x, h0, h1, hk => by
  obtain ⟨k, rfl⟩ : ∃ j, k = j + 1 := ⟨k - 1, by omega⟩
  simp only [rights_Parse.l0, pr]; rw [if_neg (by omega)]
 | d + 1, k, x, h0, h1, hk => by
  obtain ⟨k, rfl⟩ : ∃ j, k = j + 1 := ⟨k - 1, by omega⟩
  simp only [rights_Parse.l0, pr]
  rw [if_pos (by omega), word_f x h0 (by omega), itoa_f x h0 (by omega)]
  simp only [Option.bind_some, Lib.toList_data]
  have e : (x + 1) % 256 = x + 1 := by omega
  rw [e, parse_l0 s d k (x + 1) (by omega) (by omega) (by omega)]
  by_cases b : s.data.toList = W x <;> by_cases a : s.data.toList = Lib.itoa x <;> simp [a, b]
theorem ref_parse_l0 (s : ByteArray) : ∀ (d k : Nat) (x : Int), 0 ≤ x → x + d = 16 → d + 100 < k → cofferref13_Parse.l0 k s x = some (pr s.data.toList d x)
 | 0, k, x, h0, h1, hk => by
  obtain ⟨k, rfl⟩ : ∃ j, k = j + 1 := ⟨k - 1, by omega⟩
  simp only [cofferref13_Parse.l0, pr]; rw [if_neg (by omega)]
 | d + 1, k, x, h0, h1, hk => by
  obtain ⟨k, rfl⟩ : ∃ j, k = j + 1 := ⟨k - 1, by omega⟩
  simp only [cofferref13_Parse.l0, pr]
  have em : x % 256 = x := by omega
  have e : wrap64 (x + 1) = x + 1 := by unfold wrap64; omega
  rw [if_pos (by omega), em, e, ref_word_f k (by omega) x h0 (by omega), ref_print k x (by omega) (by omega) (by omega)]
  simp only [Option.bind_some, Lib.toList_data]
  rw [ref_parse_l0 s d k (x + 1) (by omega) (by omega) (by omega)]
  by_cases a : s.data.toList = Lib.itoa x <;> by_cases b : s.data.toList = W x <;> simp [a, b]
theorem rights_f (k : Nat) (hk : 16 < k) (s : ByteArray) : rights_Parse.f k s = some (pr s.data.toList 16 0) := by
 unfold rights_Parse.f; exact parse_l0 s 16 k 0 (by omega) (by omega) hk
theorem ref_rights_f (k : Nat) (hk : 116 < k) (s : ByteArray) : cofferref13_Parse.f k s = some (pr s.data.toList 16 0) := by
 unfold cofferref13_Parse.f; exact ref_parse_l0 s 16 k 0 (by omega) (by omega) hk
end Go.Proofs.YtnfimhdcpmakpaaDoor.S
namespace Go.Proofs.YtnfimhdcpmakpaaDoor.S
open Go.RowKit Go.Proofs.YtnfimhdcpmakpaaDoorW.PrintWords
set_option linter.unusedVariables false
set_option linter.unusedSimpArgs false
theorem rd_str (l : List ByteArray) (i : Nat) (h : i < l.length) : rdOf ByteArray.empty l (i : Int) = l[i] := by
 unfold rdOf
 rw [Int.toNat_natCast, List.getD_eq_getElem?_getD, List.getElem?_eq_getElem h]
 rfl
theorem rd91_at (l : List S91) (i : Nat) (h : i < l.length) : rd_T91 l (i : Int) = l[i] := by
 unfold rd_T91
 rw [Int.toNat_natCast, List.getD_eq_getElem?_getD, List.getElem?_eq_getElem h]
 rfl
theorem wrap_up (i : Nat) (h : i ≤ 1048576) : wrap64 ((i : Int) + 1) = ((i + 1 : Nat) : Int) := by unfold wrap64; omega
def NM : List UInt8 := [78, 65, 77, 69]
def HX : List UInt8 := [72, 69, 88]
def CN : List UInt8 := [78]
def anyW (x : ByteArray) : Bool := decide (x.toList = [78, 65, 77, 69] ∨ x.toList = [72, 69, 88] ∨ x.toList = [78])
def fitL : List ByteArray → List ByteArray → Bool
 | x :: xs, p :: ps => (anyW x || decide (x.toList = p.toList)) && fitL xs ps
 | _, _ => true
def fitB (form P : List ByteArray) : Bool := if form.length = P.length then fitL form P else false
section
variable (form P : List ByteArray) (hl : form.length = P.length) (hz : P.length ≤ 1048576)
include hl hz
theorem fits_l0 : ∀ (d i : Nat), i + d = form.length → Ev (fun k => route_road_fits.l0 k P form (form.length : Int) (i : Int)) (fitL (form.drop i) (P.drop i))
 | 0, i, hi => by
  rw [List.drop_of_length_le (by omega)]
  refine .step ?_
  simp only [route_road_fits.l0]
  refine .neg (by omega) ?_
  exact .of rfl
 | d + 1, i, hi => by
  have h1 : i < form.length := by omega
  have h2 : i < P.length := by omega
  have ih := fits_l0 d (i + 1) (by omega)
  rw [List.drop_eq_getElem_cons h1, List.drop_eq_getElem_cons h2, fitL]
  refine .step ?_
  simp only [route_road_fits.l0]
  refine .pos (by omega) ?_
  refine .pos (by omega) ?_
  refine .pos (by omega) ?_
  rw [rd_str form i h1, rd_str P i h2, wrap_up i (by omega)]
  unfold anyW
  by_cases c1 : form[i].toList = [78, 65, 77, 69]
  ·
   refine .pos c1 ?_
   simpa [c1] using ih
  ·
   refine .neg c1 ?_
   by_cases c2 : form[i].toList = [72, 69, 88]
   ·
    refine .pos c2 ?_
    simpa [c2] using ih
   ·
    refine .neg c2 ?_
    by_cases c3 : form[i].toList = [78]
    ·
     refine .pos c3 ?_
     simpa [c3] using ih
    ·
     refine .neg c3 ?_
     refine .pos (by omega) ?_
     by_cases c4 : form[i].toList = P[i].toList
     ·
      refine .pos c4 ?_
      simpa [c4] using ih
     ·
      refine .neg c4 ?_
      simp only [c1, c2, c3, c4, or_self, decide_false, Bool.or_self, Bool.false_and]
      exact .of rfl
theorem rfits_l0 : ∀ (d i : Nat), i + d = form.length → Ev (fun k => cofferref26_fits.l0 k form P (i : Int)) (fitL (form.drop i) (P.drop i))
 | 0, i, hi => by
  rw [List.drop_of_length_le (by omega)]
  refine .step ?_
  simp only [cofferref26_fits.l0]
  refine .neg (by omega) ?_
  exact .of rfl
 | d + 1, i, hi => by
  have h1 : i < form.length := by omega
  have h2 : i < P.length := by omega
  have ih := rfits_l0 d (i + 1) (by omega)
  rw [List.drop_eq_getElem_cons h1, List.drop_eq_getElem_cons h2, fitL]
  refine .step ?_
  simp only [cofferref26_fits.l0]
  refine .pos (by omega) ?_
  refine .pos (by omega) ?_
  refine .pos (by omega) ?_
  rw [rd_str form i h1, rd_str P i h2, wrap_up i (by omega)]
  have hg : cofferref26_great.f form[i] = some (anyW form[i]) := by
   unfold cofferref26_great.f anyW
   by_cases c1 : form[i].toList = [78, 65, 77, 69]
   ·
    rw [if_pos c1]; simp [c1]
   ·
    rw [if_neg c1]
    by_cases c2 : form[i].toList = [72, 69, 88]
    ·
     rw [if_pos c2]; simp [c2]
    ·
     rw [if_neg c2]
     by_cases c3 : form[i].toList = [78] <;> simp [c1, c2, c3]
  refine .bind (.of hg) ?_
  by_cases c1 : anyW form[i] = true
  ·
   refine .pos c1 ?_
   simpa [c1] using ih
  ·
   refine .neg c1 ?_
   by_cases c4 : form[i].toList = P[i].toList
   ·
    refine .pos c4 ?_
    simpa [c4] using ih
   ·
    refine .neg c4 ?_
    simp only [c1, c4, decide_false, Bool.or_self, Bool.false_and]
    exact .of rfl
end
theorem fits_f (x : S58) (form P : List ByteArray) (hp : route_road_parts.f x.f0 x.f1 x.f2 x.f3 x.f4 x.f5 = some form) (hz : P.length ≤ 1048576) : Ev (fun k => route_road_fits.f k x.f0 x.f1 x.f2 x.f3 x.f4 x.f5 P) (fitB form P) := by
 unfold route_road_fits.f fitB
 refine .bind (.of hp) ?_
 by_cases hl : form.length = P.length
 ·
  rw [if_pos hl]
  refine .pos (by omega) ?_
  exact fits_l0 form P hl hz form.length 0 (by omega)
 ·
  rw [if_neg hl]
  refine .neg (by omega) ?_
  exact .of rfl
theorem rfits_f (form P : List ByteArray) (hz : P.length ≤ 1048576) : Ev (fun k => cofferref26_fits.f k form P) (fitB form P) := by
 unfold cofferref26_fits.f fitB
 by_cases hl : form.length = P.length
 ·
  rw [if_pos hl]
  refine .pos (by omega) ?_
  exact rfits_l0 form P hl hz form.length 0 (by omega)
 ·
  rw [if_neg hl]
  refine .neg (by omega) ?_
  exact .of rfl
def fillS : List ByteArray → List ByteArray → OpV → Bool × OpV
 | x :: xs, p :: ps, o =>
  if x.toList = [78, 65, 77, 69] then (if mayS p = true then fillS xs ps { o with ten := p } else (false, { o with ten := p }))
  else if x.toList = [72, 69, 88] then (if (idOf (unh p)).2 = 0 then fillS xs ps { o with of_ := (idOf (unh p)).1 } else (false, { o with of_ := (idOf (unh p)).1 }))
  else if x.toList = [78] then (if (numS (byteAt p) p.size).2 = 0 then fillS xs ps { o with num := (numS (byteAt p) p.size).1 } else (false, { o with num := (numS (byteAt p) p.size).1 }))
  else fillS xs ps o
 | _, _, o => (true, o)
theorem May_ev (s : ByteArray) : Ev (fun k => names_May.f k s) (mayS s) := ⟨100, fun k hk => nm_may_f s k hk⟩
theorem rMay_ev (s : ByteArray) : Ev (fun k => cofferref4_May.f k s) (mayS s) := ⟨100, fun k hk => nm_ref_may_f s k hk⟩
theorem Num_ev (s : ByteArray) (hs : s.size ≤ 1048576) : Ev (fun k => names_Number.f k s) (numS (byteAt s) s.size) := ⟨2 * s.size + 4, fun k hk => number_f s hs k hk⟩
theorem rNum_ev (s : ByteArray) (hs : s.size ≤ 1048576) : Ev (fun k => cofferref4_Number.f k s) (numS (byteAt s) s.size) := ⟨2 * s.size + 6, fun k hk => ref_number_f s hs k hk⟩
theorem Rig_ev (s : ByteArray) : Ev (fun k => rights_Parse.f k s) (pr s.data.toList 16 0) := ⟨17, fun k hk => rights_f k hk s⟩
theorem rRig_ev (s : ByteArray) : Ev (fun k => cofferref13_Parse.f k s) (pr s.data.toList 16 0) := ⟨117, fun k hk => ref_rights_f k hk s⟩
theorem fillG_ev : ∀ (form P : List ByteArray) (o : OpV), form.length = P.length → (∀ p ∈ P, p.size ≤ 1048576) → Ev (fun k => fillG k form P o) (fillS form P o)
 | [], [], o, _, _ => .of rfl
 | [], _ :: _, o, h, _ => by cases h
 | _ :: _, [], o, h, _ => by cases h
 | x :: xs, p :: ps, o, hl, hz => by
  have hp := hz p List.mem_cons_self
  have hr : ∀ o, Ev (fun k => fillG k xs ps o) (fillS xs ps o) := fun o => fillG_ev xs ps o (by simpa using hl) (fun q hq => hz q (List.mem_cons_of_mem _ hq))
  simp only [fillG, fillS]
  by_cases c1 : x.toList = [78, 65, 77, 69]
  ·
   refine .pos c1 ?_
   rw [if_pos c1]
   refine .bind (May_ev p) ?_
   by_cases hb : mayS p = true
   ·
    rw [if_pos hb]; exact .pos hb (hr _)
   ·
    rw [if_neg hb]; exact .neg hb (.of rfl)
  ·
   refine .neg c1 ?_
   rw [if_neg c1]
   by_cases c2 : x.toList = [72, 69, 88]
   ·
    refine .pos c2 ?_
    rw [if_pos c2]
    refine .pos hp ?_
    by_cases hb : (idOf (unh p)).2 = 0
    ·
     rw [if_pos hb]; exact .pos hb (hr _)
    ·
     rw [if_neg hb]; exact .neg hb (.of rfl)
   ·
    refine .neg c2 ?_
    rw [if_neg c2]
    by_cases c3 : x.toList = [78]
    ·
     refine .pos c3 ?_
     rw [if_pos c3]
     refine .bind (Num_ev p hp) ?_
     by_cases hb : (numS (byteAt p) p.size).2 = 0
     ·
      rw [if_pos hb]; exact .pos hb (hr _)
     ·
      rw [if_neg hb]; exact .neg hb (.of rfl)
    ·
     refine .neg c3 ?_
     rw [if_neg c3]
     exact hr o
theorem rnG_ev : ∀ (form P : List ByteArray) (o : OpV), form.length = P.length → (∀ p ∈ P, p.size ≤ 1048576) → Ev (fun k => rnG k form P o) (fillS form P o)
 | [], [], o, _, _ => .of rfl
 | [], _ :: _, o, h, _ => by cases h
 | _ :: _, [], o, h, _ => by cases h
 | x :: xs, p :: ps, o, hl, hz => by
  have hp := hz p List.mem_cons_self
  have hr : ∀ o, Ev (fun k => rnG k xs ps o) (fillS xs ps o) := fun o => rnG_ev xs ps o (by simpa using hl) (fun q hq => hz q (List.mem_cons_of_mem _ hq))
  simp only [rnG, fillS]
  by_cases c1 : x.toList = [78, 65, 77, 69]
  ·
   refine .pos c1 ?_
   rw [if_pos c1]
   refine .bind (rMay_ev p) ?_
   by_cases hb : mayS p = true
   ·
    rw [if_pos hb]; exact .pos hb (hr _)
   ·
    rw [if_neg hb]; exact .neg hb (.of rfl)
  ·
   refine .neg c1 ?_
   rw [if_neg c1]
   by_cases c2 : x.toList = [72, 69, 88]
   ·
    refine .pos c2 ?_
    rw [if_pos c2]
    refine .pos hp ?_
    by_cases hb : (idOf (unh p)).2 = 0
    ·
     rw [if_pos hb]; exact .pos hb (hr _)
    ·
     rw [if_neg hb]; exact .neg hb (.of rfl)
   ·
    refine .neg c2 ?_
    rw [if_neg c2]
    by_cases c3 : x.toList = [78]
    ·
     refine .pos c3 ?_
     rw [if_pos c3]
     refine .bind (rNum_ev p hp) ?_
     by_cases hb : (numS (byteAt p) p.size).2 = 0
     ·
      rw [if_pos hb]; exact .pos hb (hr _)
     ·
      rw [if_neg hb]; exact .neg hb (.of rfl)
    ·
     refine .neg c3 ?_
     rw [if_neg c3]
     exact hr o
theorem fillS_dv : ∀ (form P : List ByteArray) (o : OpV), (fillS form P o).2.dv = o.dv
 | [], [], o => rfl
 | [], _ :: _, o => rfl
 | _ :: _, [], o => rfl
 | x :: xs, p :: ps, o => by
  simp only [fillS]
  split
  ·
   split
   ·
    exact fillS_dv xs ps _
   ·
    rfl
  ·
   split
   ·
    split
    ·
     exact fillS_dv xs ps _
    ·
     rfl
   ·
    split
    ·
     split
     ·
      exact fillS_dv xs ps _
     ·
      rfl
    ·
     exact fillS_dv xs ps o
def QU : List UInt8 := [113, 117, 111, 116, 97]
def RI : List UInt8 := [114, 105, 103, 104, 116, 115]
def UN : List UInt8 := [117, 110, 116, 105, 108]
def TE : List UInt8 := [116, 101, 110, 97, 110, 116]
def valS (q t : Bool) (p : S91) (o : OpV) : Option OpV :=
 if q = true ∧ p.f0.toList = QU then (if (numS (byteAt p.f1) p.f1.size).2 = 0 then some { o with num := (numS (byteAt p.f1) p.f1.size).1 } else none)
 else if t = true ∧ p.f0.toList = RI then (if (pr p.f1.data.toList 16 0).2 = 0 then some { o with rig := (pr p.f1.data.toList 16 0).1 } else none)
 else if t = true ∧ p.f0.toList = UN then (if (numS (byteAt p.f1) p.f1.size).2 = 0 then some { o with unt := (numS (byteAt p.f1) p.f1.size).1 } else none)
 else if t = true ∧ p.f0.toList = TE then (if mayS p.f1 = true then some { o with ten := p.f1 } else none)
 else none
def valsS (q t : Bool) : List S91 → OpV → Option OpV
 | [], o => some o
 | p :: ps, o => (valS q t p o).bind (valsS q t ps)
theorem valS_dv {q t : Bool} {p : S91} {o z : OpV} (h : valS q t p o = some z) : z.dv = o.dv := by
 unfold valS at h
 split at h
 ·
  split at h <;> cases h; rfl
 ·
  split at h
  ·
   split at h <;> cases h; rfl
  ·
   split at h
   ·
    split at h <;> cases h; rfl
   ·
    split at h
    ·
     split at h <;> cases h; rfl
    ·
     cases h
theorem valsS_dv {q t : Bool} : ∀ {l : List S91} {o z : OpV}, valsS q t l o = some z → z.dv = o.dv
 | [], o, z, h => by cases h; rfl
 | p :: ps, o, z, h => by
  obtain ⟨y, h1, h2⟩ := Option.bind_eq_some_iff.1 h
  exact (valsS_dv h2).trans (valS_dv h1)
theorem valS_of {q t : Bool} {p : S91} {o z : OpV} (h : valS q t p o = some z) : z.of_ = o.of_ := by
 unfold valS at h
 split at h
 ·
  split at h <;> cases h; rfl
 ·
  split at h
  ·
   split at h <;> cases h; rfl
  ·
   split at h
   ·
    split at h <;> cases h; rfl
   ·
    split at h
    ·
     split at h <;> cases h; rfl
    ·
     cases h
theorem valsS_of {q t : Bool} : ∀ {l : List S91} {o z : OpV}, valsS q t l o = some z → z.of_ = o.of_
 | [], o, z, h => by cases h; rfl
 | p :: ps, o, z, h => by
  obtain ⟨y, h1, h2⟩ := Option.bind_eq_some_iff.1 h
  exact (valsS_of h2).trans (valS_of h1)
theorem fillS_len : ∀ (form P : List ByteArray) (o : OpV), o.of_.length = 32 → (fillS form P o).2.of_.length = 32
 | [], [], o, h => h
 | [], _ :: _, o, h => h
 | _ :: _, [], o, h => h
 | x :: xs, p :: ps, o, h => by
  simp only [fillS]
  split
  ·
   split
   ·
    exact fillS_len xs ps _ h
   ·
    exact h
  ·
   split
   ·
    split
    ·
     exact fillS_len xs ps _ (idOf_len _)
    ·
     exact idOf_len _
   ·
    split
    ·
     split
     ·
      exact fillS_len xs ps _ h
     ·
      exact h
    ·
     exact fillS_len xs ps o h
def isM (q t : Bool) (p : S91) : Bool := decide ((q = true ∧ p.f0.toList = QU) ∨ (t = true ∧ (p.f0.toList = RI ∨ p.f0.toList = UN)))
def cntM (q t : Bool) : List S91 → Nat
 | [] => 0
 | p :: ps => (if isM q t p = true then 1 else 0) + cntM q t ps
end Go.Proofs.YtnfimhdcpmakpaaDoor.S
namespace Go.Proofs.YtnfimhdcpmakpaaDoor.S
open Go.RowKit Go.Proofs.YtnfimhdcpmakpaaDoorW.PrintWords
set_option linter.unusedVariables false
set_option linter.unusedSimpArgs false
theorem askG_ev (q t : Bool) : ∀ (l : List S91) (m : Int) (o : OpV), (∀ p ∈ l, p.f1.size ≤ 1048576) → ∃ r, Ev (fun k => askG k q t l m o) r ∧ (r.1 = true ↔ (valsS q t l o).isSome = true ∧ m = cntM q t l) ∧ (∀ z, valsS q t l o = some z → r.2 = z)
 | [], m, o, _ => ⟨(m == 0, o), .of rfl, by simp [valsS, cntM], fun z h => by cases h; rfl⟩
 | p :: ps, m, o, hz => by
  have hp := hz p List.mem_cons_self
  have hr : ∀ m o, ∃ r, Ev (fun k => askG k q t ps m o) r ∧ (r.1 = true ↔ (valsS q t ps o).isSome = true ∧ m = cntM q t ps) ∧ (∀ z, valsS q t ps o = some z → r.2 = z) := fun m o => askG_ev q t ps m o (fun y hy => hz y (List.mem_cons_of_mem _ hy))
  simp only [askG, valsS, cntM]
  by_cases c1 : q = true ∧ p.f0.toList = QU
  ·
   have e1 : isM q t p = true := by unfold isM; exact decide_eq_true (.inl c1)
   rw [if_pos e1]
   by_cases hb : (numS (byteAt p.f1) p.f1.size).2 = 0
   ·
    obtain ⟨r, h1, h2, h3⟩ := hr (m - 1) { o with num := (numS (byteAt p.f1) p.f1.size).1 }
    have ev : valS q t p o = some { o with num := (numS (byteAt p.f1) p.f1.size).1 } := by unfold valS; rw [if_pos c1, if_pos hb]
    rw [ev]
    exact ⟨r, .pos c1 (.bind (Num_ev p.f1 hp) (.pos hb h1)), h2.trans (and_congr_right fun _ => by omega), h3⟩
   ·
    have ev : valS q t p o = none := by unfold valS; rw [if_pos c1, if_neg hb]
    rw [ev]
    exact ⟨_, .pos c1 (.bind (Num_ev p.f1 hp) (.neg hb (.of rfl))), by simp, fun z h => by cases h⟩
  ·
   by_cases c2 : t = true ∧ p.f0.toList = RI
   ·
    have e1 : isM q t p = true := by unfold isM; exact decide_eq_true (.inr ⟨c2.1, .inl c2.2⟩)
    rw [if_pos e1]
    by_cases hb : (pr p.f1.data.toList 16 0).2 = 0
    ·
     obtain ⟨r, h1, h2, h3⟩ := hr (m - 1) { o with rig := (pr p.f1.data.toList 16 0).1 }
     have ev : valS q t p o = some { o with rig := (pr p.f1.data.toList 16 0).1 } := by unfold valS; rw [if_neg c1, if_pos c2, if_pos hb]
     rw [ev]
     exact ⟨r, .neg c1 (.pos c2 (.bind (Rig_ev p.f1) (.pos hb h1))), h2.trans (and_congr_right fun _ => by omega), h3⟩
    ·
     have ev : valS q t p o = none := by unfold valS; rw [if_neg c1, if_pos c2, if_neg hb]
     rw [ev]
     exact ⟨_, .neg c1 (.pos c2 (.bind (Rig_ev p.f1) (.neg hb (.of rfl)))), by simp, fun z h => by cases h⟩
   ·
    by_cases c3 : t = true ∧ p.f0.toList = UN
    ·
     have e1 : isM q t p = true := by unfold isM; exact decide_eq_true (.inr ⟨c3.1, .inr c3.2⟩)
     rw [if_pos e1]
     by_cases hb : (numS (byteAt p.f1) p.f1.size).2 = 0
     ·
      obtain ⟨r, h1, h2, h3⟩ := hr (m - 1) { o with unt := (numS (byteAt p.f1) p.f1.size).1 }
      have ev : valS q t p o = some { o with unt := (numS (byteAt p.f1) p.f1.size).1 } := by unfold valS; rw [if_neg c1, if_neg c2, if_pos c3, if_pos hb]
      rw [ev]
      exact ⟨r, .neg c1 (.neg c2 (.pos c3 (.bind (Num_ev p.f1 hp) (.pos hb h1)))), h2.trans (and_congr_right fun _ => by omega), h3⟩
     ·
      have ev : valS q t p o = none := by unfold valS; rw [if_neg c1, if_neg c2, if_pos c3, if_neg hb]
      rw [ev]
      exact ⟨_, .neg c1 (.neg c2 (.pos c3 (.bind (Num_ev p.f1 hp) (.neg hb (.of rfl))))), by simp, fun z h => by cases h⟩
    ·
     have e1 : ¬ isM q t p = true := by
      unfold isM
      simp only [decide_eq_true_eq]
      rintro (h | ⟨h, h' | h'⟩)
      ·
       exact c1 h
      ·
       exact c2 ⟨h, h'⟩
      ·
       exact c3 ⟨h, h'⟩
     rw [if_neg e1]
     by_cases c4 : t = true ∧ p.f0.toList = TE
     ·
      by_cases hb : mayS p.f1 = true
      ·
       obtain ⟨r, h1, h2, h3⟩ := hr m { o with ten := p.f1 }
       have ev : valS q t p o = some { o with ten := p.f1 } := by unfold valS; rw [if_neg c1, if_neg c2, if_neg c3, if_pos c4, if_pos hb]
       rw [ev]
       exact ⟨r, .neg c1 (.neg c2 (.neg c3 (.pos c4 (.bind (May_ev p.f1) (.pos hb h1))))), h2.trans (and_congr_right fun _ => by omega), h3⟩
      ·
       have ev : valS q t p o = none := by unfold valS; rw [if_neg c1, if_neg c2, if_neg c3, if_pos c4, if_neg hb]
       rw [ev]
       exact ⟨_, .neg c1 (.neg c2 (.neg c3 (.pos c4 (.bind (May_ev p.f1) (.neg hb (.of rfl)))))), by simp, fun z h => by cases h⟩
     ·
      have ev : valS q t p o = none := by unfold valS; rw [if_neg c1, if_neg c2, if_neg c3, if_neg c4]
      rw [ev]
      exact ⟨_, .neg c1 (.neg c2 (.neg c3 (.neg c4 (.of rfl)))), by simp, fun z h => by cases h⟩
def hasB (l : List ByteArray) (n : ByteArray) : Bool := l.any fun x => decide (x.toList = n.toList)
theorem has_l0 (l : List ByteArray) (n : ByteArray) (hl : l.length ≤ 1048576) : ∀ (d i : Nat), i + d = l.length → Ev (fun k => cofferref26_has.l0 k l n (i : Int)) (hasB (l.drop i) n)
 | 0, i, hi => by
  rw [List.drop_of_length_le (by omega)]
  refine .step ?_
  simp only [cofferref26_has.l0]
  refine .neg (by omega) ?_
  exact .of rfl
 | d + 1, i, hi => by
  have h1 : i < l.length := by omega
  have ih := has_l0 l n hl d (i + 1) (by omega)
  rw [List.drop_eq_getElem_cons h1]
  refine .step ?_
  simp only [cofferref26_has.l0]
  refine .pos (by omega) ?_
  refine .pos (by omega) ?_
  rw [rd_str l i h1, wrap_up i (by omega)]
  by_cases c : l[i].toList = n.toList
  ·
   refine .pos c ?_
   simp only [hasB, List.any_cons, c, decide_true, Bool.true_or]
   exact .of rfl
  ·
   refine .neg c ?_
   simp only [hasB, List.any_cons, c, decide_false, Bool.false_or]
   exact ih
theorem has_ev (l : List ByteArray) (n : ByteArray) (hl : l.length ≤ 1048576) : Ev (fun k => cofferref26_has.f k l n) (hasB l n) := by
 unfold cofferref26_has.f
 exact has_l0 l n hl l.length 0 (by omega)
def anyP (l : List S91) (n : ByteArray) : Bool := l.any fun p => decide (p.f0.toList = n.toList)
theorem Get_l0 (l : List S91) (n : ByteArray) (hl : l.length ≤ 1048576) : ∀ (d i : Nat), i + d = l.length → ∃ v, Ev (fun k => cofferref21_Get.l0 k n (i : Int) [] l) (v, anyP (l.drop i) n)
 | 0, i, hi => by
  rw [List.drop_of_length_le (by omega)]
  refine ⟨⟨#[]⟩, .step ?_⟩
  simp only [cofferref21_Get.l0]
  refine .neg (by omega) ?_
  exact .of rfl
 | d + 1, i, hi => by
  have h1 : i < l.length := by omega
  obtain ⟨v, ih⟩ := Get_l0 l n hl d (i + 1) (by omega)
  rw [List.drop_eq_getElem_cons h1]
  by_cases c : l[i].f0.toList = n.toList
  ·
   refine ⟨l[i].f1, .step ?_⟩
   simp only [cofferref21_Get.l0]
   refine .pos (by omega) ?_
   refine .pos (by omega) ?_
   rw [rd91_at l i h1]
   refine .pos c ?_
   simp only [anyP, List.any_cons, c, decide_true, Bool.true_or]
   exact .of rfl
  ·
   refine ⟨v, .step ?_⟩
   simp only [cofferref21_Get.l0]
   refine .pos (by omega) ?_
   refine .pos (by omega) ?_
   rw [rd91_at l i h1, wrap_up i (by omega)]
   refine .neg c ?_
   simp only [anyP, List.any_cons, c, decide_false, Bool.false_or]
   exact ih
theorem prM_ev (l : List S91) (hl : l.length ≤ 1048576) : ∀ must : List ByteArray, Ev (fun k => prM k l must) (must.all fun n => anyP l n)
 | [] => .of rfl
 | n :: ns => by
  obtain ⟨v, hv⟩ := Get_l0 l n hl l.length 0 (by omega)
  rw [List.drop_zero] at hv
  have ih := prM_ev l hl ns
  simp only [prM, List.all_cons]
  refine .bind (b := (v, anyP l n)) (by unfold cofferref21_Get.f; exact hv) ?_
  by_cases c : anyP l n = true
  ·
   refine .pos c ?_
   simpa [c] using ih
  ·
   refine .neg c ?_
   simp only [Bool.not_eq_true] at c
   simp only [c, Bool.false_and]
   exact .of rfl
def refS (p : S91) (o : OpV) : Bool × OpV :=
 if p.f0.toList = QU then ((numS (byteAt p.f1) p.f1.size).2 == 0, { o with num := (numS (byteAt p.f1) p.f1.size).1 })
 else if p.f0.toList = UN then ((numS (byteAt p.f1) p.f1.size).2 == 0, { o with unt := (numS (byteAt p.f1) p.f1.size).1 })
 else if p.f0.toList = RI then ((pr p.f1.data.toList 16 0).2 == 0, { o with rig := (pr p.f1.data.toList 16 0).1 })
 else (mayS p.f1, { o with ten := p.f1 })
theorem refV_ev (p : S91) (o : OpV) (hp : p.f1.size ≤ 1048576) : Ev (fun k => refV k p o) (refS p o) := by
 unfold refV refS
 by_cases c1 : p.f0.toList = [113, 117, 111, 116, 97]
 ·
  rw [if_pos (show p.f0.toList = QU from c1)]
  exact .pos c1 (.bind (rNum_ev p.f1 hp) (.of rfl))
 ·
  rw [if_neg (show ¬ p.f0.toList = QU from c1)]
  refine .neg c1 ?_
  by_cases c2 : p.f0.toList = [117, 110, 116, 105, 108]
  ·
   rw [if_pos (show p.f0.toList = UN from c2)]
   exact .pos c2 (.bind (rNum_ev p.f1 hp) (.of rfl))
  ·
   rw [if_neg (show ¬ p.f0.toList = UN from c2)]
   refine .neg c2 ?_
   by_cases c3 : p.f0.toList = [114, 105, 103, 104, 116, 115]
   ·
    rw [if_pos (show p.f0.toList = RI from c3)]
    exact .pos c3 (.bind (rRig_ev p.f1) (.of rfl))
   ·
    rw [if_neg (show ¬ p.f0.toList = RI from c3)]
    exact .neg c3 (.bind (rMay_ev p.f1) (.of rfl))
inductive Kind : Bool → Bool → List ByteArray → List ByteArray → Prop
 | none : Kind false false [] []
 | quota : Kind true false [⟨#[113, 117, 111, 116, 97]⟩] []
 | token : Kind false true [⟨#[114, 105, 103, 104, 116, 115]⟩, ⟨#[117, 110, 116, 105, 108]⟩] [⟨#[116, 101, 110, 97, 110, 116]⟩]
theorem Kind.len {q t : Bool} {must may : List ByteArray} (h : Kind q t must may) : must.length ≤ 2 ∧ may.length ≤ 1 := by cases h <;> decide
theorem lit_list (l : List UInt8) : (⟨l.toArray⟩ : ByteArray).toList = l := by rw [Lib.toList_data]
theorem kind_val {q t : Bool} {must may : List ByteArray} (h : Kind q t must may) (p : S91) (o : OpV) :
  ((hasB must p.f0 = true ∨ hasB may p.f0 = true) ∧ (((refS p o).1 = true ∧ valS q t p o = some (refS p o).2) ∨ ((refS p o).1 = false ∧ valS q t p o = none))) ∨ (hasB must p.f0 = false ∧ hasB may p.f0 = false ∧ valS q t p o = none) := by
 have eQ : (⟨#[113, 117, 111, 116, 97]⟩ : ByteArray).toList = QU := lit_list QU
 have eR : (⟨#[114, 105, 103, 104, 116, 115]⟩ : ByteArray).toList = RI := lit_list RI
 have eU : (⟨#[117, 110, 116, 105, 108]⟩ : ByteArray).toList = UN := lit_list UN
 have eT : (⟨#[116, 101, 110, 97, 110, 116]⟩ : ByteArray).toList = TE := lit_list TE
 have nQR : QU ≠ RI := by decide
 have nQU : QU ≠ UN := by decide
 have nQT : QU ≠ TE := by decide
 have nRU : RI ≠ UN := by decide
 have nRT : RI ≠ TE := by decide
 have nUT : UN ≠ TE := by decide
 cases h
 ·
  exact .inr ⟨rfl, rfl, by simp [valS]⟩
 ·
  by_cases c : p.f0.toList = QU
  ·
   refine .inl ⟨.inl (by simp [hasB, eQ, c]), ?_⟩
   unfold refS valS
   rw [if_pos c, if_pos ⟨rfl, c⟩]
   by_cases hb : (numS (byteAt p.f1) p.f1.size).2 = 0
   ·
    exact .inl ⟨by simp [hb], by rw [if_pos hb]⟩
   ·
    exact .inr ⟨by simp [hb], by rw [if_neg hb]⟩
  ·
   refine .inr ⟨by simpa [hasB, eQ] using fun h => c h.symm, rfl, ?_⟩
   simp [valS, c]
 ·
  by_cases c1 : p.f0.toList = RI
  ·
   refine .inl ⟨.inl (by simp [hasB, eR, c1]), ?_⟩
   unfold refS valS
   rw [c1, if_neg (Ne.symm nQR), if_neg nRU, if_pos rfl, if_neg (by simp), if_pos ⟨rfl, rfl⟩]
   by_cases hb : (pr p.f1.data.toList 16 0).2 = 0
   ·
    exact .inl ⟨by simp [hb], by rw [if_pos hb]⟩
   ·
    exact .inr ⟨by simp [hb], by rw [if_neg hb]⟩
  ·
   by_cases c2 : p.f0.toList = UN
   ·
    refine .inl ⟨.inl (by simp [hasB, eU, c2]), ?_⟩
    unfold refS valS
    rw [c2, if_neg (Ne.symm nQU), if_pos rfl, if_neg (by simp), if_neg (fun h => nRU h.2.symm), if_pos ⟨rfl, rfl⟩]
    by_cases hb : (numS (byteAt p.f1) p.f1.size).2 = 0
    ·
     exact .inl ⟨by simp [hb], by rw [if_pos hb]⟩
    ·
     exact .inr ⟨by simp [hb], by rw [if_neg hb]⟩
   ·
    by_cases c3 : p.f0.toList = TE
    ·
     refine .inl ⟨.inr (by simp [hasB, eT, c3]), ?_⟩
     unfold refS valS
     rw [c3, if_neg (Ne.symm nQT), if_neg (Ne.symm nUT), if_neg (Ne.symm nRT), if_neg (by simp), if_neg (fun h => nRT h.2.symm), if_neg (fun h => nUT h.2.symm), if_pos ⟨rfl, rfl⟩]
     by_cases hb : mayS p.f1 = true
     ·
      exact .inl ⟨hb, by rw [if_pos hb]⟩
     ·
      exact .inr ⟨by simpa using hb, by rw [if_neg hb]⟩
    ·
     refine .inr ⟨by simpa [hasB, eR, eU] using ⟨fun h => c1 h.symm, fun h => c2 h.symm⟩, by simpa [hasB, eT] using fun h => c3 h.symm, ?_⟩
     simp [valS, c1, c2, c3]
theorem prV_ev {q t : Bool} {must may : List ByteArray} (hk : Kind q t must may) : ∀ (l : List S91) (o : OpV), (∀ p ∈ l, p.f1.size ≤ 1048576) → ∃ r, Ev (fun k => prV k must may l o) r ∧ (r.1 = true ↔ (valsS q t l o).isSome = true) ∧ (∀ z, valsS q t l o = some z → r.2 = z)
 | [], o, _ => ⟨(true, o), .of rfl, by simp [valsS], fun z h => by cases h; rfl⟩
 | p :: ps, o, hz => by
  have hp := hz p List.mem_cons_self
  have hr : ∀ o, ∃ r, Ev (fun k => prV k must may ps o) r ∧ (r.1 = true ↔ (valsS q t ps o).isSome = true) ∧ (∀ z, valsS q t ps o = some z → r.2 = z) := fun o => prV_ev hk ps o (fun y hy => hz y (List.mem_cons_of_mem _ hy))
  have hv : (((refS p o).1 = true ∧ valS q t p o = some (refS p o).2) ∨ ((refS p o).1 = false ∧ valS q t p o = none)) → ∃ r, Ev (fun k => (refV k p o).bind fun z => if z.1 = true then prV k must may ps z.2 else some (false, z.2)) r ∧ (r.1 = true ↔ (valsS q t (p :: ps) o).isSome = true) ∧ (∀ z, valsS q t (p :: ps) o = some z → r.2 = z) := by
   rintro (⟨h1, h2⟩ | ⟨h1, h2⟩)
   ·
    obtain ⟨r, g1, g2, g3⟩ := hr (refS p o).2
    refine ⟨r, .bind (refV_ev p o hp) (.pos h1 g1), ?_, ?_⟩
    ·
     simpa only [valsS, h2, Option.bind_some] using g2
    ·
     simpa only [valsS, h2, Option.bind_some] using g3
   ·
    refine ⟨_, .bind (refV_ev p o hp) (.neg (by rw [h1]; decide) (.of rfl)), ?_, ?_⟩
    ·
     simp [valsS, h2]
    ·
     simp [valsS, h2]
  have hl := hk.len
  simp only [prV]
  rcases kind_val hk p o with ⟨hb, hvv⟩ | ⟨b1, b2, b3⟩
  ·
   obtain ⟨r, g1, g2, g3⟩ := hv hvv
   by_cases a : hasB must p.f0 = true
   ·
    exact ⟨r, .bind (has_ev must p.f0 (by omega)) (.pos a g1), g2, g3⟩
   ·
    have b := hb.resolve_left a
    exact ⟨r, .bind (has_ev must p.f0 (by omega)) (.neg a (.bind (has_ev may p.f0 (by omega)) (.pos b g1))), g2, g3⟩
  ·
   refine ⟨_, .bind (has_ev must p.f0 (by omega)) (.neg (by rw [b1]; decide) (.bind (has_ev may p.f0 (by omega)) (.neg (by rw [b2]; decide) (.of rfl)))), ?_, ?_⟩
   ·
    simp [valsS, b3]
   ·
    simp [valsS, b3]
end Go.Proofs.YtnfimhdcpmakpaaDoor.S
namespace Go.Proofs.YtnfimhdcpmakpaaDoor.S
open Go.RowKit Go.Proofs.YtnfimhdcpmakpaaDoorW.PrintWords
set_option linter.unusedVariables false
set_option linter.unusedSimpArgs false
theorem mayQ_nodup : ∀ (l : List S91) (acc : List (List UInt8)), mayQ acc l = true → (l.map fun p => p.f0.toList).Nodup ∧ ∀ p ∈ l, p.f0.toList ∉ acc
 | [], acc, _ => ⟨List.nodup_nil, fun p h => by cases h⟩
 | p :: r, acc, h => by
  simp only [mayQ, Bool.and_eq_true] at h
  obtain ⟨⟨⟨_, _⟩, h1⟩, h2⟩ := h
  obtain ⟨g1, g2⟩ := mayQ_nodup r _ h2
  have e : p.f0.data.toList = p.f0.toList := (Lib.toList_data _).symm
  rw [e] at h1 g2
  have h3 : p.f0.toList ∉ acc := by simpa using h1
  refine ⟨?_, ?_⟩
  ·
   rw [List.map_cons, List.nodup_cons]
   refine ⟨fun hm => ?_, g1⟩
   obtain ⟨y, hy, ey⟩ := List.mem_map.1 hm
   exact g2 y hy (by rw [ey]; simp)
  ·
   intro y hy
   rcases List.mem_cons.1 hy with rfl | hy
   ·
    exact h3
   ·
    exact fun hm => g2 y hy (by simp [hm])
def cN (n : List UInt8) : List S91 → Nat
 | [] => 0
 | p :: ps => (if p.f0.toList = n then 1 else 0) + cN n ps
theorem cN_any (n : ByteArray) : ∀ l, anyP l n = true ↔ 1 ≤ cN n.toList l
 | [] => by simp [anyP, cN]
 | p :: ps => by
  have ih := cN_any n ps
  unfold anyP at ih ⊢
  rw [List.any_cons, cN]
  by_cases c : p.f0.toList = n.toList
  ·
   simp [c]
  ·
   simp only [c, decide_false, Bool.false_or, if_false, Nat.zero_add]
   exact ih
theorem cN_zero (n : List UInt8) : ∀ l : List S91, (∀ p ∈ l, p.f0.toList ≠ n) → cN n l = 0
 | [], _ => rfl
 | p :: ps, h => by
  rw [cN, if_neg (h p List.mem_cons_self), cN_zero n ps (fun y hy => h y (List.mem_cons_of_mem _ hy))]
theorem cN_le (n : List UInt8) : ∀ l : List S91, (l.map fun p => p.f0.toList).Nodup → cN n l ≤ 1
 | [], _ => by simp [cN]
 | p :: ps, h => by
  rw [List.map_cons, List.nodup_cons] at h
  rw [cN]
  by_cases c : p.f0.toList = n
  ·
   rw [if_pos c, cN_zero n ps (fun y hy e => h.1 (by rw [c, ← e]; exact List.mem_map.2 ⟨y, hy, rfl⟩))]
   omega
  ·
   rw [if_neg c]
   have := cN_le n ps h.2
   omega
theorem cnt_q : ∀ l, cntM true false l = cN QU l
 | [] => rfl
 | p :: ps => by
  rw [cntM, cN, cnt_q ps]
  by_cases c : p.f0.toList = QU <;> simp [isM, c]
theorem cnt_t : ∀ l, cntM false true l = cN RI l + cN UN l
 | [] => rfl
 | p :: ps => by
  rw [cntM, cN, cN, cnt_t ps]
  have nRU : RI ≠ UN := by decide
  by_cases c : p.f0.toList = RI
  ·
   rw [if_pos (show isM false true p = true by simp [isM, c]), if_pos c, if_neg (by rw [c]; exact nRU)]; omega
  ·
   by_cases d : p.f0.toList = UN
   ·
    rw [if_pos (show isM false true p = true by simp [isM, d]), if_neg c, if_pos d]; omega
   ·
    rw [if_neg (show ¬ isM false true p = true by simp [isM, c, d]), if_neg c, if_neg d]; omega
theorem cnt_n : ∀ l, cntM false false l = 0
 | [] => rfl
 | p :: ps => by rw [cntM, cnt_n ps, if_neg (by simp [isM])]
def mst (q t : Bool) : Int := if q = true then 1 else if t = true then 2 else 0
theorem must_all {q t : Bool} {must may : List ByteArray} (h : Kind q t must may) (l : List S91) (hd : (l.map fun p => p.f0.toList).Nodup) : (must.all fun n => anyP l n) = true ↔ mst q t = cntM q t l := by
 have eQ : (⟨#[113, 117, 111, 116, 97]⟩ : ByteArray).toList = QU := lit_list QU
 have eR : (⟨#[114, 105, 103, 104, 116, 115]⟩ : ByteArray).toList = RI := lit_list RI
 have eU : (⟨#[117, 110, 116, 105, 108]⟩ : ByteArray).toList = UN := lit_list UN
 cases h
 ·
  rw [cnt_n]; simp [mst]
 ·
  rw [cnt_q]
  have := cN_le QU l hd
  have h1 := cN_any ⟨#[113, 117, 111, 116, 97]⟩ l
  rw [eQ] at h1
  simp only [List.all_cons, List.all_nil, Bool.and_true, mst, if_true]
  rw [h1]
  omega
 ·
  rw [cnt_t]
  have := cN_le RI l hd
  have := cN_le UN l hd
  have h1 := cN_any ⟨#[114, 105, 103, 104, 116, 115]⟩ l
  have h2 := cN_any ⟨#[117, 110, 116, 105, 108]⟩ l
  rw [eR] at h1
  rw [eU] at h2
  simp only [List.all_cons, List.all_nil, Bool.and_true, Bool.and_eq_true, mst, if_true]
  rw [h1, h2]
  simp
  omega
theorem ask_params {q t : Bool} {must may : List ByteArray} (hk : Kind q t must may) (l : List S91) (o : OpV) (hz : ∀ p ∈ l, p.f1.size ≤ 1048576) (hl : l.length ≤ 1048576) (hd : (l.map fun p => p.f0.toList).Nodup) (x2 x3 : ByteArray)
  (h2 : Ev (fun k => cofferref26_cut.f k x2 44) must) (h3 : Ev (fun k => cofferref26_cut.f k x3 44) may) :
  ∃ r1 r2, Ev (fun k => askR k q t l o) r1 ∧ Ev (fun k => prR k x2 x3 l o) r2 ∧ r1.1 = r2.1 ∧ (r1.1 = true → r1.2 = r2.2 ∧ r1.2.dv = o.dv ∧ r1.2.of_ = o.of_) := by
 obtain ⟨r1, a1, a2, a3⟩ := askG_ev q t l (mst q t) o hz
 obtain ⟨r, b1, b2, b3⟩ := prV_ev hk l o hz
 have hm := must_all hk l hd
 have hlen := hk.len
 have hqt : ¬ ((q = true ∧ t = true) ∨ ¬ l.length ≤ 1048576) := by
  rintro (h | h)
  ·
   cases hk <;> simp at h
  ·
   exact h hl
 have A : Ev (fun k => askR k q t l o) r1 := by unfold askR; exact .neg hqt a1
 have hdv : r1.1 = true → r1.2.dv = o.dv ∧ r1.2.of_ = o.of_ := fun h => by
  obtain ⟨h1, _⟩ := a2.1 h
  obtain ⟨z, hz'⟩ := Option.isSome_iff_exists.1 h1
  rw [a3 z hz']
  exact ⟨valsS_dv hz', valsS_of hz'⟩
 by_cases c : (must.all fun n => anyP l n) = true
 ·
  refine ⟨r1, r, A, ?_, ?_, fun h => ⟨?_, hdv h⟩⟩
  ·
   unfold prR
   exact .bind h2 (.bind h3 (.pos ⟨by omega, hl⟩ (.bind (prM_ev l hl must) (.pos c b1))))
  ·
   rw [Bool.eq_iff_iff, a2, b2]
   exact ⟨fun h => h.1, fun h => ⟨h, hm.1 c⟩⟩
  ·
   obtain ⟨h1, _⟩ := a2.1 h
   obtain ⟨z, hz'⟩ := Option.isSome_iff_exists.1 h1
   rw [a3 z hz', b3 z hz']
 ·
  have hr : r1.1 = false := by
   cases hh : r1.1
   ·
    rfl
   ·
    exact absurd (hm.2 (a2.1 hh).2) c
  refine ⟨r1, (false, o), A, ?_, hr, fun h => ?_⟩
  ·
   unfold prR
   exact .bind h2 (.bind h3 (.pos ⟨by omega, hl⟩ (.bind (prM_ev l hl must) (.neg c (.of rfl)))))
  ·
   rw [hr] at h; cases h
structure RoadP (x : S58) (y : S67) : Prop where
 m : x.f0 = y.f0
 d : x.f2 = y.f4
 form : ∃ form, route_road_parts.f x.f0 x.f1 x.f2 x.f3 x.f4 x.f5 = some form ∧ Ev (fun k => cofferref26_cut.f k y.f1 47) form
 kind : ∃ must may, Kind x.f4 x.f5 must may ∧ Ev (fun k => cofferref26_cut.f k y.f2 44) must ∧ Ev (fun k => cofferref26_cut.f k y.f3 44) may
 body : x.f3 = true ↔ (x.f2 = 1 ∨ x.f2 = 3)
inductive RoadsP : List S58 → List S67 → Prop
 | nil : RoadsP [] []
 | cons {x : S58} {y : S67} {xs : List S58} {ys : List S67} (h : RoadP x y) (t : RoadsP xs ys) : RoadsP (x :: xs) (y :: ys)
theorem scan_ev (m : ByteArray) (P : List ByteArray) (Q : List S91) (fs : List S41) (bd : List Int) (hP : P.length ≤ 1048576) (hPz : ∀ p ∈ P, p.size ≤ 1048576) (hQ : Q.length ≤ 1048576) (hQz : ∀ p ∈ Q, p.f1.size ≤ 1048576) (hd : (Q.map fun p => p.f0.toList).Nodup)
  (hl : fs.length ≤ 100000) (hv : (getF AU fs).1.size ≤ 100000) : ∀ {rs : List S58} {ss : List S67}, RoadsP rs ss → ∀ st, ∃ r, Ev (fun k => toScanG k m P Q fs bd rs st) r ∧ Ev (fun k => toScanR k m P Q fs bd ss st) r ∧ r.1.of_.length = 32 := by
 intro rs ss h
 induction h with
 | nil => exact fun st => ⟨_, .of rfl, .of rfl, rfl⟩
 | @cons x y xs ys h t ih =>
  intro st
  obtain ⟨form, f1, f2⟩ := h.form
  obtain ⟨must, may, k1, k2, k3⟩ := h.kind
  have F1 := fits_f x form P f1 hP
  have F2 := rfits_f form P hP
  simp only [toScanG, toScanR]
  by_cases c : fitB form P = false
  ·
   obtain ⟨r, i1, i2, i3⟩ := ih st
   exact ⟨r, .bind F1 (.pos c i1), .bind f2 (.bind F2 (.pos c i2)), i3⟩
  ·
   by_cases hm : x.f0.toList = m.toList
   ·
    have hm2 : y.f0.toList = m.toList := by rw [← h.m]; exact hm
    have T1 := token_f fs hl hv
    have T2 := reftoken_f fs hl hv
    have hfl : form.length = P.length := by
     unfold fitB at c
     by_cases e : form.length = P.length
     ·
      exact e
     ·
      rw [if_neg e] at c; exact absurd rfl c
    have G1 := fillG_ev form P { zeroO with dv := x.f2 } hfl hPz
    have G2 := rnG_ev form P { zeroO with dv := x.f2 } hfl hPz
    have hdv := fillS_dv form P { zeroO with dv := x.f2 }
    obtain ⟨r1, r2, A1, A2, A3, A4⟩ := ask_params k1 Q (fillS form P { zeroO with dv := x.f2 }).2 hQz hQ hd y.f2 y.f3 k2 k3
    rw [← h.d]
    by_cases g : (fillS form P { zeroO with dv := x.f2 }).1 = true
    ·
     by_cases a : r1.1 = true
     ·
      obtain ⟨a5, a6, a7⟩ := A4 a
      have hof : r1.2.of_.length = 32 := by rw [a7]; exact fillS_len form P _ rfl
      have a' : r2.1 = true := by rw [← A3]; exact a
      have eb : (if r2.2.dv = 1 ∨ r2.2.dv = 3 then bd else []) = (if x.f3 = true then bd else []) := by
       have : r2.2.dv = x.f2 := by rw [← a5, a6, hdv]
       rw [this]
       by_cases e : x.f3 = true
       ·
        rw [if_pos e, if_pos (h.body.1 e)]
       ·
        rw [if_neg e, if_neg (fun z => e (h.body.2 z))]
      refine ⟨_, .bind F1 (.neg c (.pos hm (.bind T1 (.bind (.of f1) (.neg (fun e => e hfl) (.bind G1 (.pos g (.bind A1 (.pos a (.of rfl)))))))))), .bind f2 (.bind F2 (.neg c (.pos hm2 (.bind T2 (.neg (fun e => e hfl) (.bind G2 (.pos g (.bind A2 (.pos a' (.of ?_)))))))))), hof⟩
      rw [eb, ← a5]
     ·
      have a' : ¬ r2.1 = true := by rw [← A3]; exact a
      exact ⟨_, .bind F1 (.neg c (.pos hm (.bind T1 (.bind (.of f1) (.neg (fun e => e hfl) (.bind G1 (.pos g (.bind A1 (.neg a (.of rfl)))))))))), .bind f2 (.bind F2 (.neg c (.pos hm2 (.bind T2 (.neg (fun e => e hfl) (.bind G2 (.pos g (.bind A2 (.neg a' (.of rfl)))))))))), rfl⟩
    ·
     exact ⟨_, .bind F1 (.neg c (.pos hm (.bind T1 (.bind (.of f1) (.neg (fun e => e hfl) (.bind G1 (.neg g (.of rfl)))))))), .bind f2 (.bind F2 (.neg c (.pos hm2 (.bind T2 (.neg (fun e => e hfl) (.bind G2 (.neg g (.of rfl)))))))), rfl⟩
   ·
    have hm2 : ¬ y.f0.toList = m.toList := by rw [← h.m]; exact hm
    obtain ⟨r, i1, i2, i3⟩ := ih 405
    exact ⟨r, .bind F1 (.neg c (.neg hm i1)), .bind f2 (.bind F2 (.neg c (.neg hm2 i2))), i3⟩
end Go.Proofs.YtnfimhdcpmakpaaDoor.S
namespace Go.Proofs.YtnfimhdcpmakpaaDoor.S
open Go.RowKit Go.Proofs.YtnfimhdcpmakpaaDoorW.PrintWords
set_option linter.unusedVariables false
set_option linter.unusedSimpArgs false
theorem road_of {x : S58} {y : S67} {must may : List ByteArray} (h1 : x.f0 = y.f0) (h2 : x.f2 = y.f4) (h3 : route_road_parts.f x.f0 x.f1 x.f2 x.f3 x.f4 x.f5 = some ((route_road_parts.f x.f0 x.f1 x.f2 x.f3 x.f4 x.f5).getD []))
  (h4 : cofferref26_cut.f 60 y.f1 47 = some ((route_road_parts.f x.f0 x.f1 x.f2 x.f3 x.f4 x.f5).getD [])) (hk : Kind x.f4 x.f5 must may) (h5 : cofferref26_cut.f 60 y.f2 44 = some must) (h6 : cofferref26_cut.f 60 y.f3 44 = some may) (h7 : x.f3 = decide (x.f2 = 1 ∨ x.f2 = 3)) : RoadP x y :=
 ⟨h1, h2, ⟨_, h3, Ev.mono (fun k => cofferref26_cut.mono _ _ k) h4⟩, ⟨must, may, hk, Ev.mono (fun k => cofferref26_cut.mono _ _ k) h5, Ev.mono (fun k => cofferref26_cut.mono _ _ k) h6⟩, by rw [h7]; simp⟩
theorem roads_p : ∃ rs ss, route_roads.f = some rs ∧ cofferref26_roads.f = some ss ∧ RoadsP rs ss := by
 refine ⟨_, _, rfl, rfl, ?_⟩
 repeat' first
  | exact RoadsP.nil
  | exact road_of rfl rfl (by kernel_rfl) (by kernel_rfl) Kind.none (by kernel_rfl) (by kernel_rfl) (by decide)
  | exact road_of rfl rfl (by kernel_rfl) (by kernel_rfl) Kind.quota (by kernel_rfl) (by kernel_rfl) (by decide)
  | exact road_of rfl rfl (by kernel_rfl) (by kernel_rfl) Kind.token (by kernel_rfl) (by kernel_rfl) (by decide)
  | refine RoadsP.cons ?_ ?_
theorem parseT_all (l : List UInt8) (hl : l.length ≤ 100000) : (parseT l).1.length ≤ 1048576 ∧ (parseT l).2.1.length ≤ 1048576 ∧ (∀ p ∈ (parseT l).1, p.size ≤ 1048576) ∧ (∀ p ∈ (parseT l).2.1, p.f1.size ≤ 1048576) ∧ ((parseT l).2.2 = 0 → mayB (parseT l).1 (parseT l).2.1 = true) := by
 have bad : ∀ e : Int, e ≠ 0 → (([], [], e) : List ByteArray × List S91 × Int).1.length ≤ 1048576 ∧ (([], [], e) : List ByteArray × List S91 × Int).2.1.length ≤ 1048576 ∧ (∀ p ∈ (([], [], e) : List ByteArray × List S91 × Int).1, p.size ≤ 1048576) ∧ (∀ p ∈ (([], [], e) : List ByteArray × List S91 × Int).2.1, p.f1.size ≤ 1048576) ∧ ((([], [], e) : List ByteArray × List S91 × Int).2.2 = 0 → mayB (([], [], e) : List ByteArray × List S91 × Int).1 (([], [], e) : List ByteArray × List S91 × Int).2.1 = true) :=
  fun e he => ⟨by simp, by simp, (fun p h => by cases h), (fun p h => by cases h), fun h => absurd h he⟩
 have good : ∀ (ps : List (List UInt8)) (qs : List S91), ps.length ≤ 1048576 → qs.length ≤ 1048576 → (∀ p ∈ ps, p.length ≤ 1048576) → (∀ p ∈ qs, p.f1.size ≤ 1048576) → (endP (mks ps) qs).1.length ≤ 1048576 ∧ (endP (mks ps) qs).2.1.length ≤ 1048576 ∧ (∀ p ∈ (endP (mks ps) qs).1, p.size ≤ 1048576) ∧ (∀ p ∈ (endP (mks ps) qs).2.1, p.f1.size ≤ 1048576) ∧ ((endP (mks ps) qs).2.2 = 0 → mayB (endP (mks ps) qs).1 (endP (mks ps) qs).2.1 = true) := by
  intro ps qs h1 h2 h3 h4
  unfold endP
  by_cases c : mayB (mks ps) qs = true
  ·
   rw [if_pos c]
   exact ⟨by rw [mks_len]; exact h1, h2, mks_size h3, h4, fun _ => c⟩
  ·
   rw [if_neg c]
   exact bad 6 (by decide)
 unfold parseT
 rcases hc : cut1 63 l with _ | ⟨a, b⟩
 ·
  rcases hp : pathT l with _ | ps
  ·
   exact bad 4 (by decide)
  ·
   obtain ⟨h1, h2⟩ := pathT_len hp
   exact good ps [] (by omega) (by simp) (fun p hp => by have := h2 p hp; omega) (fun p h => by cases h)
 ·
  obtain ⟨h0, _, _⟩ := cut1_some hc
  have hz : l.length = a.length + 1 + b.length := by rw [h0]; simp; omega
  rcases hp : pathT a with _ | ps
  ·
   simp only [hp]
   exact bad 4 (by decide)
  ·
   obtain ⟨h1, h2⟩ := pathT_len hp
   rcases hq : queryT b with _ | qs
   ·
    simp only [hp, hq]
    exact bad 4 (by decide)
   ·
    obtain ⟨h3, h4⟩ := queryT_len hq
    simp only [hp, hq]
    exact good ps qs (by omega) (by omega) (fun p hp => by have := h2 p hp; omega) (fun p hp => by have := (h4 p hp).2; omega)
theorem to_agree (m : ByteArray) (l : List UInt8) (fs : List S41) (bd : List Int) (hlen : l.length ≤ 100000) (hl : fs.length ≤ 100000) (hv : (getF AU fs).1.size ≤ 100000) :
  ∃ r, Ev (fun k => toG k m ⟨l.toArray⟩ fs bd) r ∧ Ev (fun k => toR k m ⟨l.toArray⟩ fs bd) r ∧ r.1.of_.length = 32 := by
 have p1 := parse_f l hlen
 have p2 := refparse_f l hlen
 obtain ⟨q1, q2, q3, q4, q5⟩ := parseT_all l hlen
 generalize parseT l = t at *
 obtain ⟨P, Q, e⟩ := t
 simp only at q1 q2 q3 q4 q5
 unfold toG toR
 by_cases he : e = 0
 ·
  obtain ⟨rs, ss, r1, r2, r3⟩ := roads_p
  have hmay := q5 he
  have hq : mayQ [] Q = true := by
   unfold mayB at hmay
   rw [Bool.and_eq_true] at hmay
   exact hmay.2
  obtain ⟨hnd, _⟩ := mayQ_nodup Q [] hq
  obtain ⟨r, a1, a2, a3⟩ := scan_ev m P Q fs bd q1 q3 q2 q4 hnd hl hv r3 404
  exact ⟨r, .bind p1 (.pos he (.pos q1 (.bind (.of r1) a1))), .bind p2 (.pos he (.pos q1 (.bind (.of r2) a2))), a3⟩
 ·
  exact ⟨_, .bind p1 (.neg he (.of rfl)), .bind p2 (.neg he (.of rfl)), rfl⟩
end Go.Proofs.YtnfimhdcpmakpaaDoor.S
