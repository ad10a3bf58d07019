/-
  A part of a target in the reference: what stands at a place, and where it ends.
-/
import Derived.Test.YtejmolhdmbkfaaaDoorPu21b
namespace Go.Proofs.YtejmolhdmbkfaaaDoor.S
open Go.RowKit Go.Proofs.YtejmolhdmbkfaaaDoorW.PrintWords
set_option linter.unusedVariables false
set_option linter.unusedSimpArgs false
/-- What a part says that stands at a beginning, and what stands behind it. -/
def partR : List UInt8 → Option (List UInt8 × List UInt8)
  | [] => some ([], [])
  | c :: r => if plainB c then (partR r).map (fun p => (c :: p.1, p.2)) else if c = 37 then (match r with | a :: b :: q => (match hexPair a b with | some v => (partR q).map (fun p => (v :: p.1, p.2)) | none => none) | _ => none) else some ([], c :: r)
theorem partR_cons (c : UInt8) (r : List UInt8) : partR (c :: r) = if plainB c then (partR r).map (fun p => (c :: p.1, p.2)) else if c = 37 then (match r with | a :: b :: q => (match hexPair a b with | some v => (partR q).map (fun p => (v :: p.1, p.2)) | none => none) | _ => none) else some ([], c :: r) := by rw [partR.eq_def]
def ansR (S out : List UInt8) (p : Option (List UInt8 × List UInt8)) (j : Int) : ByteArray × Int × Bool :=
  match p with | some (o, q) => (⟨(out ++ o).toArray⟩, ((S.length - q.length : Nat) : Int), true) | none => (⟨#[]⟩, j, false)
theorem ansR_map (S out : List UInt8) (v : UInt8) (p : Option (List UInt8 × List UInt8)) (j : Int) : ansR S out (p.map fun p => (v :: p.1, p.2)) j = ansR S (out ++ [v]) p j := by
  cases p <;> simp [ansR]
theorem at_drop {S r : List UInt8} {at_ : Nat} {c : UInt8} (h : S.drop at_ = c :: r) : at_ < S.length ∧ bt ⟨S.toArray⟩ (at_ : Int) = (c.toNat : Int) ∧ S.drop (at_ + 1) = r ∧ S.length = at_ + 1 + r.length := by
  have hlt : at_ < S.length := by
    rcases Nat.lt_or_ge at_ S.length with h1 | h1
    · exact h1
    · rw [List.drop_of_length_le h1] at h; cases h
  have h2 := List.drop_eq_getElem_cons hlt
  rw [h2] at h
  injection h with h3 h4
  refine ⟨hlt, by rw [bt_mk S at_ hlt, h3], h4, ?_⟩
  have := congrArg List.length h4
  rw [List.length_drop] at this
  omega
theorem ext_one {S r : List UInt8} {at_ : Nat} {c : UInt8} (h : S.drop at_ = c :: r) : (⟨S.toArray⟩ : ByteArray).extract at_ (at_ + 1) = ⟨[c].toArray⟩ := by
  apply ByteArray.ext
  simp [h]
theorem app_mk (a b : List UInt8) : (⟨a.toArray⟩ : ByteArray) ++ ⟨b.toArray⟩ = ⟨(a ++ b).toArray⟩ := by
  apply ByteArray.ext
  simp
theorem wrap_add (i j : Nat) (h : i + j ≤ 1000000000) : wrap64 ((i : Int) + (j : Int)) = ((i + j : Nat) : Int) := by unfold wrap64; omega
theorem wrap_two (i : Nat) (h : i ≤ 1000000000) : wrap64 ((i : Int) + 2) = ((i + 2 : Nat) : Int) := by unfold wrap64; omega
theorem wrap_three (i : Nat) (h : i ≤ 1000000000) : wrap64 ((i : Int) + 3) = ((i + 3 : Nat) : Int) := by unfold wrap64; omega
theorem wrap_id (z : Int) (h0 : -1000000000 ≤ z) (h1 : z ≤ 1000000000) : wrap64 z = z := by unfold wrap64; omega
theorem str_one (v : Nat) (h : v < 256) : strOfNums [(v : Int)] = ⟨[UInt8.ofNat v].toArray⟩ := by
  have := str_ints [UInt8.ofNat v]
  unfold ints at this
  simpa [Nat.mod_eq_of_lt h] using this
theorem j1_bad (S : ByteArray) (at_ : Int) (out : ByteArray) : Ev (fun k => cofferref21_part.j1 k S at_ out true) (⟨#[]⟩, at_, false) := by
  refine .step ?_
  simp only [cofferref21_part.j1]
  refine .pos (by simp) ?_
  exact .of rfl
set_option maxHeartbeats 1000000 in
theorem refpart_ev (S : List UInt8) (hS : S.length ≤ 1000000) : ∀ (n : Nat) (l : List UInt8) (at_ : Nat) (out : List UInt8), l.length ≤ n → S.drop at_ = l → at_ ≤ S.length → out.length + l.length ≤ 2000000 →
    ∃ j : Int, Ev (fun k => cofferref21_part.l0 k ⟨S.toArray⟩ (at_ : Int) ⟨out.toArray⟩) (ansR S out (partR l) j)
  | n, [], at_, out, hn, hd, ha, ho => by
    refine ⟨0, ?_⟩
    have hl := congrArg List.length hd
    rw [List.length_drop] at hl
    have hl2 : at_ = S.length := by simp at hl; omega
    refine .step ?_
    simp only [cofferref21_part.l0]
    refine .neg (by rw [size_mk]; omega) ?_
    exact .of (by simp [ansR, partR, hl2])
  | 0, c :: r, at_, out, hn, hd, ha, ho => by simp at hn
  | n + 1, c :: r, at_, out, hn, hd, ha, ho => by
    rw [List.length_cons] at hn ho
    obtain ⟨hlt, hbt, hdr, hSl⟩ := at_drop hd
    have hsz : (⟨S.toArray⟩ : ByteArray).size = at_ + 1 + r.length := by rw [size_mk]; exact hSl
    by_cases hp : plainB c = true
    · obtain ⟨j, ih⟩ := refpart_ev S hS n r (at_ + 1) (out ++ [c]) (by omega) hdr (by omega) (by simp; omega)
      refine ⟨j, ?_⟩
      refine .step ?_
      simp only [cofferref21_part.l0]
      refine .pos (by omega) ?_
      refine .pos (by omega) ?_
      rw [hbt]
      refine .bind (.of (refplain_f c)) ?_
      refine .pos hp ?_
      rw [wrap_succ at_ (by omega)]
      refine .pos (by omega) ?_
      refine .pos (by omega) ?_
      rw [Int.toNat_natCast, Int.toNat_natCast, ext_one hd]
      refine .pos (by rw [size_mk, size_mk]; simp; omega) ?_
      rw [app_mk, partR_cons, if_pos hp, ansR_map]
      exact ih
    · by_cases h37 : c = 37
      · subst h37
        have hbad : ∀ p, partR (37 :: r) = p → p = none → Ev (fun k => cofferref21_part.l0 k ⟨S.toArray⟩ (at_ : Int) ⟨out.toArray⟩) ((⟨#[]⟩ : ByteArray), (at_ : Int), false) → ∃ j : Int, Ev (fun k => cofferref21_part.l0 k ⟨S.toArray⟩ (at_ : Int) ⟨out.toArray⟩) (ansR S out (partR (37 :: r)) j) := by
          intro p hp1 hp2 he
          refine ⟨(at_ : Int), ?_⟩
          rw [hp1, hp2]
          exact he
        have hjb := j1_bad ⟨S.toArray⟩ (at_ : Int) ⟨out.toArray⟩
        have start : ∀ {res}, Ev (fun k => (if (wrap64 ((at_ : Int) + 2)) ≥ ((⟨S.toArray⟩ : ByteArray).size : Int) then (cofferref21_part.j1 k ⟨S.toArray⟩ (at_ : Int) ⟨out.toArray⟩ true) else (if 0 ≤ (wrap64 ((at_ : Int) + 1)) then (if (wrap64 ((at_ : Int) + 1)) < ((⟨S.toArray⟩ : ByteArray).size : Int) then ((cofferref21_half.f k (bt ⟨S.toArray⟩ (wrap64 ((at_ : Int) + 1)))).bind fun t192 => (if t192 < 0 then (cofferref21_part.j1 k ⟨S.toArray⟩ (at_ : Int) ⟨out.toArray⟩ true) else (if 0 ≤ (wrap64 ((at_ : Int) + 2)) then (if (wrap64 ((at_ : Int) + 2)) < ((⟨S.toArray⟩ : ByteArray).size : Int) then ((cofferref21_half.f k (bt ⟨S.toArray⟩ (wrap64 ((at_ : Int) + 2)))).bind fun t193 => (if t193 < 0 then (cofferref21_part.j1 k ⟨S.toArray⟩ (at_ : Int) ⟨out.toArray⟩ true) else ((cofferref21_half.f k (bt ⟨S.toArray⟩ (wrap64 ((at_ : Int) + 1)))).bind fun t194 => ((cofferref21_half.f k (bt ⟨S.toArray⟩ (wrap64 ((at_ : Int) + 2)))).bind fun t195 => (cofferref21_part.j1 k ⟨S.toArray⟩ (at_ : Int) ⟨out.toArray⟩ ((wrap64 (t194 + t195)) == 0)))))) else (none)) else (none)))) else (none)) else (none)))) res → Ev (fun k => cofferref21_part.l0 k ⟨S.toArray⟩ (at_ : Int) ⟨out.toArray⟩) res := by
          intro res he
          refine .step ?_
          simp only [cofferref21_part.l0]
          refine .pos (by omega) ?_
          refine .pos (by omega) ?_
          rw [hbt]
          refine .bind (.of (refplain_f 37)) ?_
          refine .neg hp ?_
          refine .pos (by decide) ?_
          exact he
        rcases r with _ | ⟨a, _ | ⟨b, q⟩⟩
        · refine hbad _ (by rw [partR_cons, if_neg hp, if_pos rfl]) rfl (start ?_)
          rw [wrap_two at_ (by omega)]
          exact .pos (by rw [hsz]; simp) hjb
        · refine hbad _ (by rw [partR_cons, if_neg hp, if_pos rfl]) rfl (start ?_)
          rw [wrap_two at_ (by omega)]
          exact .pos (by rw [hsz]; simp; omega) hjb
        · obtain ⟨hlt1, hbt1, hdr1, hSl1⟩ := at_drop hdr
          obtain ⟨hlt2, hbt2, hdr2, hSl2⟩ := at_drop hdr1
          rw [List.length_cons, List.length_cons] at hsz hn ho
          have hpl : partR (37 :: a :: b :: q) = (match hexPair a b with | some v => (partR q).map (fun p => (v :: p.1, p.2)) | none => none) := by rw [partR_cons, if_neg hp, if_pos rfl]
          rw [wrap_succ at_ (by omega), wrap_two at_ (by omega), hbt1, hbt2] at start
          rcases hax : hexV a with _ | x
          · refine hbad _ hpl (by simp only [hexPair, hax]) (start ?_)
            refine .neg (by omega) ?_
            refine .pos (by omega) ?_
            refine .pos (by omega) ?_
            refine .bind (refhalf_ev a) ?_
            exact .pos (by simp [halfR, hax]) hjb
          · have hx := hexV_lt hax
            have ha1 : halfR a = (x : Int) := by simp [halfR, hax]
            rcases hbx : hexV b with _ | y
            · refine hbad _ hpl (by simp only [hexPair, hax, hbx]) (start ?_)
              refine .neg (by omega) ?_
              refine .pos (by omega) ?_
              refine .pos (by omega) ?_
              refine .bind (refhalf_ev a) ?_
              refine .neg (by rw [ha1]; omega) ?_
              refine .pos (by omega) ?_
              refine .pos (by omega) ?_
              refine .bind (refhalf_ev b) ?_
              exact .pos (by simp [halfR, hbx]) hjb
            · have hy := hexV_lt hbx
              have hb1 : halfR b = (y : Int) := by simp [halfR, hbx]
              have st2 : ∀ {res}, Ev (fun k => cofferref21_part.j1 k ⟨S.toArray⟩ (at_ : Int) ⟨out.toArray⟩ ((wrap64 ((x : Int) + (y : Int))) == 0)) res → Ev (fun k => cofferref21_part.l0 k ⟨S.toArray⟩ (at_ : Int) ⟨out.toArray⟩) res := by
                intro res he
                refine start ?_
                refine .neg (by omega) ?_
                refine .pos (by omega) ?_
                refine .pos (by omega) ?_
                refine .bind (refhalf_ev a) ?_
                refine .neg (by rw [ha1]; omega) ?_
                refine .pos (by omega) ?_
                refine .pos (by omega) ?_
                refine .bind (refhalf_ev b) ?_
                refine .neg (by rw [hb1]; omega) ?_
                refine .bind (refhalf_ev a) ?_
                refine .bind (refhalf_ev b) ?_
                rw [ha1, hb1]
                exact he
              rw [wrap_add x y (by omega)] at st2
              by_cases h0 : 16 * x + y = 0
              · refine hbad _ hpl (by simp only [hexPair, hax, hbx]; rw [if_pos h0]) (st2 ?_)
                rw [show (((x + y : Nat) : Int) == 0) = true by rw [beq_iff_eq]; omega]
                exact hjb
              · obtain ⟨j, ih⟩ := refpart_ev S hS n q (at_ + 3) (out ++ [UInt8.ofNat (16 * x + y)]) (by omega) hdr2 (by omega) (by simp; omega)
                refine ⟨j, st2 ?_⟩
                rw [show (((x + y : Nat) : Int) == 0) = false by rw [beq_eq_false_iff_ne]; omega]
                refine .step ?_
                simp only [cofferref21_part.j1]
                refine .neg (by simp) ?_
                rw [wrap_succ at_ (by omega), wrap_two at_ (by omega), wrap_three at_ (by omega), hbt1, hbt2]
                refine .pos (by omega) ?_
                refine .pos (by omega) ?_
                refine .bind (refhalf_ev a) ?_
                refine .pos (by omega) ?_
                refine .pos (by omega) ?_
                refine .bind (refhalf_ev b) ?_
                have hv : wrap64 (wrap64 (16 * halfR a) + halfR b) % 256 = ((16 * x + y : Nat) : Int) := by
                  rw [ha1, hb1, wrap_id (16 * (x : Int)) (by omega) (by omega), wrap_id (16 * (x : Int) + (y : Int)) (by omega) (by omega)]
                  omega
                rw [hv]
                refine .bind (f := fun _ => some [((16 * x + y : Nat) : Int)]) (.of rfl) ?_
                rw [str_one _ (by omega)]
                refine .pos (by rw [size_mk, size_mk]; simp; omega) ?_
                rw [app_mk, hpl]
                simp only [hexPair, hax, hbx]
                rw [if_neg h0]
                simp only []
                rw [ansR_map]
                exact ih
      · refine ⟨0, ?_⟩
        refine .step ?_
        simp only [cofferref21_part.l0]
        refine .pos (by omega) ?_
        refine .pos (by omega) ?_
        rw [hbt]
        refine .bind (.of (refplain_f c)) ?_
        refine .neg hp ?_
        refine .neg (fun h => h37 (UInt8.toNat_inj.1 (by have : (37 : UInt8).toNat = 37 := rfl; omega))) ?_
        refine .of ?_
        rw [partR_cons, if_neg hp, if_neg h37]
        simp only [ansR]
        rw [List.append_nil]
        congr 2
        simp; omega
theorem refpart_f (S : List UInt8) (hS : S.length ≤ 1000000) (at_ : Nat) (ha : at_ ≤ S.length) : ∃ j : Int, Ev (fun k => cofferref21_part.f k ⟨S.toArray⟩ (at_ : Int)) (ansR S [] (partR (S.drop at_)) j) :=
  refpart_ev S hS (S.drop at_).length (S.drop at_) at_ [] (Nat.le_refl _) rfl ha (by simp; omega)
end Go.Proofs.YtejmolhdmbkfaaaDoor.S
