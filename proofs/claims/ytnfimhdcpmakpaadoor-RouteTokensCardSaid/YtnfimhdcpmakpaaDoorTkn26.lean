/-
  The token of fields: route's and the reference's.
-/
import Derived.Test.YtnfimhdcpmakpaaDoorTok26
import Derived.Test.YtnfimhdcpmakpaaDoorRUh26
namespace Go.Proofs.YtnfimhdcpmakpaaDoor.S
open Go.RowKit Go.Proofs.YtnfimhdcpmakpaaDoorW.PrintWords
set_option linter.unusedVariables false
set_option linter.unusedSimpArgs false
def BE7 : ByteArray := ⟨#[66, 101, 97, 114, 101, 114, 32]⟩
theorem cutP_f (v : ByteArray) : strings_CutPrefix.f v ⟨#[66, 101, 97, 114, 101, 114, 32]⟩ = some (if 7 ≤ v.size ∧ (v.extract 0 7).toList = [66, 101, 97, 114, 101, 114, 32] then (v.extract 7 v.size, true) else (v, false)) := by
  have h7 : (⟨#[66, 101, 97, 114, 101, 114, 32]⟩ : ByteArray).size = 7 := rfl
  have hb : (⟨#[66, 101, 97, 114, 101, 114, 32]⟩ : ByteArray).toList = [66, 101, 97, 114, 101, 114, 32] := by rw [Lib.toList_data]
  unfold strings_CutPrefix.f stringslite_CutPrefix.f stringslite_HasPrefix.f
  simp only [h7, hb]
  by_cases hs : 7 ≤ v.size
  · rw [if_pos (by omega), if_pos (by omega), if_pos (by omega)]
    simp only [Option.bind_some]
    by_cases hp : (v.extract 0 7).toList = [66, 101, 97, 114, 101, 114, 32]
    · rw [show (if 7 ≤ v.size ∧ (v.extract 0 7).toList = [66, 101, 97, 114, 101, 114, 32] then (v.extract 7 v.size, true) else (v, false)) = (v.extract 7 v.size, true) from if_pos ⟨hs, hp⟩]
      have e : ((v.extract 0 ((7 : Nat) : Int).toNat).toList == [66, 101, 97, 114, 101, 114, 32]) = true := by simpa using hp
      first | (rw [if_pos e, if_pos (by omega), if_pos (by omega)]; rfl) | (rw [if_pos (by omega), if_pos (by omega)]; rfl)
    · rw [show (if 7 ≤ v.size ∧ (v.extract 0 7).toList = [66, 101, 97, 114, 101, 114, 32] then (v.extract 7 v.size, true) else (v, false)) = (v, false) from if_neg (fun h => hp h.2)]
      have e : ¬ ((v.extract 0 ((7 : Nat) : Int).toNat).toList == [66, 101, 97, 114, 101, 114, 32]) = true := by simpa using hp
      rw [if_neg e]
      rfl
  · rw [show (if 7 ≤ v.size ∧ (v.extract 0 7).toList = [66, 101, 97, 114, 101, 114, 32] then (v.extract 7 v.size, true) else (v, false)) = (v, false) from if_neg (fun h => hs h.1), if_neg (by omega)]
    rfl
theorem unh_len (s : ByteArray) (h : (unh s).2 = 0) : (unh s).1.length = s.size / 2 ∧ s.size % 2 = 0 := by
  unfold unh at h ⊢
  by_cases hc : okd (byteAt s) s.size ∧ s.size % 2 = 0
  · rw [if_pos hc]
    exact ⟨uh_len _ _, hc.2⟩
  · rw [if_neg hc] at h
    exact absurd h (by decide)
/-- The token that fields bring. -/
def valT (v : ByteArray) : List Int := if 9 ≤ v.size ∧ (v.extract 0 7).toList = [66, 101, 97, 114, 101, 114, 32] ∧ (unh (v.extract 7 v.size)).2 = 0 then (unh (v.extract 7 v.size)).1 else [0]
def tokF (fs : List S41) : List Int := if (getF AU fs).2 = 5 then [] else if (getF AU fs).2 = 0 then valT (getF AU fs).1 else [0]
section
variable (fs : List S41) (hl : fs.length ≤ 100000) (hv : (getF AU fs).1.size ≤ 100000)
theorem ext7_size (v : ByteArray) : (v.extract 7 v.size).size = v.size - 7 := by rw [ByteArray.size_extract]; omega
include hl hv in
theorem token_f : Ev (fun k => route_token.f k fs) (tokF fs) := by
  have hg := get_f AU fs hl
  unfold route_token.f tokF
  refine .bind hg ?_
  by_cases h5 : (getF AU fs).2 = 5
  · refine .pos h5 ?_
    rw [if_pos h5]
    exact .of rfl
  · refine .neg h5 ?_
    rw [if_neg h5]
    refine .bind (.of (cutP_f _)) ?_
    generalize getF AU fs = g at *
    obtain ⟨v, e⟩ := g
    simp only at hv h5 ⊢
    by_cases hc : 7 ≤ v.size ∧ (v.extract 0 7).toList = [66, 101, 97, 114, 101, 114, 32]
    · rw [if_pos hc]
      have hu : xUnhex.f (v.extract 7 v.size) = some (unh (v.extract 7 v.size)) := by
        unfold xUnhex.f
        rw [if_pos (by rw [ext7_size]; omega)]
      refine .bind (.of hu) ?_
      have hlen := unh_len (v.extract 7 v.size)
      rw [ext7_size] at hlen
      by_cases h0 : e = 0
      · refine .pos h0 ?_
        rw [if_pos h0]
        refine .pos rfl ?_
        by_cases hb : (unh (v.extract 7 v.size)).2 = 0
        · refine .pos hb ?_
          obtain ⟨q1, q2⟩ := hlen hb
          by_cases hz : ((unh (v.extract 7 v.size)).1.length : Int) = 0
          · refine .pos hz ?_
            unfold valT
            rw [if_neg (by intro h; omega)]
            exact .of rfl
          · refine .neg hz ?_
            unfold valT
            rw [if_pos ⟨by omega, hc.2, hb⟩]
            exact .of rfl
        · refine .neg hb ?_
          unfold valT
          rw [if_neg (fun h => hb h.2.2)]
          exact .of rfl
      · refine .neg h0 ?_
        rw [if_neg h0]
        exact .of rfl
    · rw [if_neg hc]
      have hu : xUnhex.f v = some (unh v) := by
        unfold xUnhex.f
        rw [if_pos (by omega)]
      refine .bind (.of hu) ?_
      by_cases h0 : e = 0
      · refine .pos h0 ?_
        rw [if_pos h0]
        refine .neg (by simp) ?_
        unfold valT
        rw [if_neg (fun h => hc ⟨by omega, h.2.1⟩)]
        exact .of rfl
      · refine .neg h0 ?_
        rw [if_neg h0]
        exact .of rfl
theorem getF_five (n : ByteArray) : (getF n fs).2 = 5 ↔ cntF n fs = 0 := by
  unfold getF
  by_cases h0 : cntF n fs = 0
  · rw [if_pos h0]; simp [h0]
  · rw [if_neg h0]
    by_cases h1 : cntF n fs = 1
    · rw [if_pos h1]; simp [h0]
    · rw [if_neg h1]; simp [h0]
theorem j0_true (v : ByteArray) : Ev (fun k => cofferref26_Token.j0 k v true) [0] := .step (by
  simp only [cofferref26_Token.j0]
  refine .pos trivial ?_
  exact .of rfl)
include hl hv in
theorem reftoken_f : Ev (fun k => cofferref26_Token.f k fs) (tokF fs) := by
  have h5 := getF_five fs AU
  have hg := refget22_f AU fs hl
  unfold cofferref26_Token.f tokF
  refine .bind (refcount_f AU fs hl) ?_
  by_cases h0 : cntF AU fs = 0
  · refine .pos (by omega) ?_
    rw [if_pos (h5.2 h0)]
    exact .of rfl
  · refine .neg (by omega) ?_
    rw [if_neg (fun h => h0 (h5.1 h))]
    refine .bind hg ?_
    generalize getF AU fs = g at *
    obtain ⟨v, e⟩ := g
    simp only at hv ⊢
    by_cases he : e = 0
    · refine .pos he ?_
      rw [if_pos he]
      by_cases h9 : (v.size : Int) < 9
      · refine .pos h9 ?_
        unfold valT
        rw [if_neg (by intro h; omega)]
        exact j0_true v
      · refine .neg h9 ?_
        refine .pos (by omega) ?_
        refine .pos (by omega) ?_
        by_cases hp : (v.extract 0 7).toList = [66, 101, 97, 114, 101, 114, 32]
        · rw [show ((v.extract 0 7).toList != ([66, 101, 97, 114, 101, 114, 32] : List UInt8)) = false by simpa using hp]
          refine .step ?_
          simp only [cofferref26_Token.j0]
          refine .neg (by simp) ?_
          refine .pos (by omega) ?_
          refine .bind (b := unh (v.extract 7 v.size)) ⟨(v.extract 7 v.size).size + 30, fun k hk => ref_unhex_f _ (by rw [ext7_size]; omega) k hk⟩ ?_
          by_cases hb : (unh (v.extract 7 v.size)).2 = 0
          · refine .pos hb ?_
            unfold valT
            rw [if_pos ⟨by omega, hp, hb⟩]
            exact .of rfl
          · refine .neg hb ?_
            unfold valT
            rw [if_neg (fun h => hb h.2.2)]
            exact .of rfl
        · rw [show ((v.extract 0 7).toList != ([66, 101, 97, 114, 101, 114, 32] : List UInt8)) = true by simpa using hp]
          unfold valT
          rw [if_neg (fun h => hp h.2.1)]
          exact j0_true v
    · refine .neg he ?_
      rw [if_neg he]
      exact j0_true v
end
theorem to_headK (K : Nat) (fs : List S41) : toF (K + 60) GET ⟨#[47, 97, 47, 104, 101, 97, 100]⟩ fs = (route_token.f (K + 60) fs).bind fun t => some ({ zeroO with dv := 17 }, t, 0) := by kernel_rfl
/-- Some rounds at which route.To takes the head's road. -/
theorem to_tok (fs : List S41) (hl : fs.length ≤ 100000) (hv : (getF AU fs).1.size ≤ 100000) : ∃ K, toF K GET ⟨#[47, 97, 47, 104, 101, 97, 100]⟩ fs = some ({ zeroO with dv := 17 }, tokF fs, 0) := by
  obtain ⟨K, hK⟩ := token_f fs hl hv
  refine ⟨K + 60, ?_⟩
  rw [to_headK, show route_token.f (K + 60) fs = some (tokF fs) from hK (K + 60) (by omega)]
  rfl
end Go.Proofs.YtnfimhdcpmakpaaDoor.S
