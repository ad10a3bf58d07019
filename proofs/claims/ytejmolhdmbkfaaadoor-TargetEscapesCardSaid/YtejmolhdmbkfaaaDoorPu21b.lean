/-
  The reference's May answers as the program's.
-/
import Derived.Test.YtejmolhdmbkfaaaDoorPu21a
import Derived.Test.YtejmolhdmbkfaaaDoorSx5
namespace Go.Proofs.YtejmolhdmbkfaaaDoor.S
open Go.RowKit Go.Proofs.YtejmolhdmbkfaaaDoorW.PrintWords
set_option linter.unusedVariables false
set_option linter.unusedSimpArgs false
theorem wrap_succ (i : Nat) (h : i ≤ 1000000000) : wrap64 ((i : Int) + 1) = ((i + 1 : Nat) : Int) := by unfold wrap64; omega
theorem zeroB_cons (b : UInt8) (l : List UInt8) : zeroB (b :: l) = (b == 0 || zeroB l) := by
  have he : Lib.indexByte (b :: l) 0 = if b == 0 then 0 else if Lib.indexByte l 0 == -1 then -1 else Lib.indexByte l 0 + 1 := rfl
  unfold zeroB
  rw [he]
  have := Lib.indexByte_ge l 0
  by_cases hb : b = 0
  · subst hb; simp
  · rw [if_neg (by simpa using hb)]
    have hb2 : (b == 0) = false := by simpa using hb
    rw [hb2, Bool.false_or]
    by_cases h : Lib.indexByte l 0 = -1
    · rw [if_pos (by simpa using h), h]
    · rw [if_neg (by simpa using h)]
      rw [Bool.eq_iff_iff, decide_eq_true_iff, decide_eq_true_iff]
      omega
theorem zeroB_app (a b : List UInt8) : zeroB (a ++ b) = (zeroB a || zeroB b) := by
  induction a with
  | nil => have : zeroB [] = false := by decide
           rw [this]; rfl
  | cons c a ih => rw [List.cons_append, zeroB_cons, zeroB_cons, ih, Bool.or_assoc]
theorem mk_data (s : ByteArray) : (⟨s.data.toList.toArray⟩ : ByteArray) = s := by apply ByteArray.ext; simp
theorem bt_at_list (s : ByteArray) (i : Nat) (h : i < s.data.toList.length) : bt s (i : Int) = (s.data.toList[i].toNat : Int) := by
  have := bt_mk s.data.toList i h
  rwa [mk_data] at this
theorem zero_ev (s : ByteArray) (hs : s.size ≤ 1000000000) : ∀ (d i : Nat), i + d = s.size → Ev (fun k => cofferref21_zero.l0 k s (i : Int)) (zeroB (s.data.toList.drop i))
  | 0, i, hi => by
    refine .step ?_
    simp only [cofferref21_zero.l0]
    refine .neg (by omega) ?_
    refine .of ?_
    rw [List.drop_of_length_le (by rw [Array.length_toList]; show s.size ≤ i; omega)]
    rfl
  | d + 1, i, hi => by
    have hlt : i < s.data.toList.length := by rw [Array.length_toList]; show i < s.size; omega
    refine .step ?_
    simp only [cofferref21_zero.l0]
    refine .pos (by omega) ?_
    refine .pos (by omega) ?_
    rw [bt_at_list s i hlt, List.drop_eq_getElem_cons hlt, zeroB_cons]
    by_cases h0 : s.data.toList[i] = 0
    · refine .pos (by rw [h0]; rfl) ?_
      exact .of (by rw [h0]; rfl)
    · refine .neg (fun h => h0 (UInt8.toNat_inj.1 (by have : (0 : UInt8).toNat = 0 := rfl; omega))) ?_
      rw [wrap_succ i (by omega), show (s.data.toList[i] == 0) = false by simpa using h0, Bool.false_or]
      exact zero_ev s hs d (i + 1) (by omega)
theorem zero_f (s : ByteArray) (hs : s.size ≤ 1000000000) : Ev (fun k => cofferref21_zero.f k s) (zeroB s.data.toList) := by
  have := zero_ev s hs s.size 0 (by omega)
  rwa [List.drop_zero] at this
theorem toList_eq_nil (s : ByteArray) : s.toList = ([] : List UInt8) ↔ s.size = 0 := by
  rw [Lib.toList_data]
  constructor
  · intro h; have := congrArg List.length h; rwa [Array.length_toList] at this
  · intro h; exact List.eq_nil_of_length_eq_zero (by rw [Array.length_toList]; exact h)
theorem contains_any (l : List S32) (n : List UInt8) : (l.map fun p => p.f0.data.toList).contains n = l.any fun p => p.f0.data.toList == n := by
  induction l with
  | nil => rfl
  | cons a l ih =>
    rw [List.map_cons, List.contains_cons, List.any_cons, ih]
    congr 1
    rw [Bool.eq_iff_iff, beq_iff_eq, beq_iff_eq]
    exact ⟨Eq.symm, Eq.symm⟩
def nmAt (l : List S32) (i : Nat) : List UInt8 := (l.getD i z32).f0.data.toList
section
variable (l0 : List ByteArray) (l1 : List S32) (hsm : smallQ l1 = true) (hl0 : l0.length ≤ 1048576) (hl1 : l1.length ≤ 1048576)
def nextQ (i : Nat) : Bool := mayQ ((l1.take i).map fun p => p.f0.data.toList) (l1.drop i)
include hl1 in
/-- The names before are held against one. -/
theorem may_l2 (i : Nat) (hi : i < l1.length) (b : Bool) (hn : Ev (fun k => cofferref21_May.l1 k ((i + 1 : Nat) : Int) l0 l1) b) : ∀ (d j : Nat), j + d = i →
    Ev (fun k => cofferref21_May.l2 k (i : Int) (j : Int) l0 l1) (!(((l1.take i).drop j).any fun p => p.f0.data.toList == nmAt l1 i) && b)
  | 0, j, hj => by
    refine .step ?_
    simp only [cofferref21_May.l2]
    refine .neg (by omega) ?_
    rw [wrap_succ i (by omega), List.drop_of_length_le (by rw [List.length_take]; omega)]
    exact hn
  | d + 1, j, hj => by
    refine .step ?_
    simp only [cofferref21_May.l2]
    refine .pos (by omega) ?_
    refine .pos (by omega) ?_
    refine .pos (by omega) ?_
    refine .pos (by omega) ?_
    refine .pos (by omega) ?_
    have hjt : j < (l1.take i).length := by rw [List.length_take]; omega
    have hdr := List.drop_eq_getElem_cons hjt
    have hg : (l1.take i)[j] = l1.getD j z32 := by rw [List.getElem_take, List.getD_eq_getElem?_getD, List.getElem?_eq_getElem (by omega)]; rfl
    rw [hdr, hg, List.any_cons]
    unfold rd_T32
    rw [Int.toNat_natCast, Int.toNat_natCast, Lib.toList_data, Lib.toList_data]
    by_cases h : (l1.getD j z32).f0.data.toList = (l1.getD i z32).f0.data.toList
    · refine .pos h ?_
      have : ((l1.getD j z32).f0.data.toList == nmAt l1 i) = true := beq_iff_eq.2 h
      rw [this]
      exact .of rfl
    · refine .neg h ?_
      have : ((l1.getD j z32).f0.data.toList == nmAt l1 i) = false := beq_eq_false_iff_ne.2 h
      rw [this, Bool.false_or, wrap_succ j (by omega)]
      exact may_l2 i hi b hn d (j + 1) (by omega)
include hl1 hsm in
theorem may_l1 : ∀ (d i : Nat), i + d = l1.length → Ev (fun k => cofferref21_May.l1 k (i : Int) l0 l1) (nextQ l1 i)
  | 0, i, hi => by
    refine .step ?_
    simp only [cofferref21_May.l1]
    refine .neg (by omega) ?_
    refine .of ?_
    unfold nextQ
    rw [List.drop_of_length_le (by omega)]
    rfl
  | d + 1, i, hi => by
    have hlt : i < l1.length := by omega
    have hdr := drop_rd z32 l1 i hlt
    have hsz : (l1.getD i z32).f0.size ≤ 1048576 ∧ (l1.getD i z32).f1.size ≤ 1048576 := by
      have := List.all_eq_true.1 hsm (l1.getD i z32) (by rw [List.getD_eq_getElem?_getD, List.getElem?_eq_getElem hlt]; exact List.getElem_mem hlt)
      simpa using this
    have hnx : nextQ l1 i = (!((l1.getD i z32).f0.size == 0) && !zeroB ((l1.getD i z32).f0 ++ (l1.getD i z32).f1).data.toList && !(((l1.take i).any fun p => p.f0.data.toList == nmAt l1 i)) && nextQ l1 (i + 1)) := by
      unfold nextQ
      rw [hdr, mayQ_cons, contains_any, List.take_succ_eq_append_getElem hlt, List.map_append]
      have : l1.getD i z32 = l1[i] := by rw [List.getD_eq_getElem?_getD, List.getElem?_eq_getElem hlt]; rfl
      unfold nmAt
      rw [this]
      rfl
    have hap : ((l1.getD i z32).f0 ++ (l1.getD i z32).f1).data.toList = (l1.getD i z32).f0.data.toList ++ (l1.getD i z32).f1.data.toList := by simp
    rw [hap, zeroB_app] at hnx
    have ih := may_l1 d (i + 1) (by omega)
    have hl2 := may_l2 l0 l1 hl1 i hlt _ ih i 0 (by omega)
    rw [List.drop_zero] at hl2
    have j2f : Ev (fun k => cofferref21_May.j2 k (i : Int) false l0 l1) (!((l1.take i).any fun p => p.f0.data.toList == nmAt l1 i) && nextQ l1 (i + 1)) := by
      refine .step ?_
      simp only [cofferref21_May.j2]
      refine .neg (by simp) ?_
      exact hl2
    have j2t : Ev (fun k => cofferref21_May.j2 k (i : Int) true l0 l1) false := by
      refine .step ?_
      simp only [cofferref21_May.j2]
      refine .pos (by simp) ?_
      exact .of rfl
    refine .step ?_
    simp only [cofferref21_May.l1]
    refine .pos (by omega) ?_
    refine .pos (by omega) ?_
    unfold rd_T32
    rw [Int.toNat_natCast]
    generalize l1.getD i z32 = p at *
    rw [hnx]
    by_cases hz : p.f0.size = 0
    · refine .pos ((toList_eq_nil _).2 hz) ?_
      rw [show (p.f0.size == 0) = true by rw [beq_iff_eq]; exact hz]
      exact j2t
    · refine .neg (fun h => hz ((toList_eq_nil _).1 h)) ?_
      rw [beq_eq_false_iff_ne.2 hz]
      refine .bind (zero_f p.f0 (by omega)) ?_
      rcases h1 : zeroB p.f0.data.toList with _ | _
      · refine .neg (by simp) ?_
        refine .bind (zero_f p.f1 (by omega)) ?_
        rcases h2 : zeroB p.f1.data.toList with _ | _
        · simpa using j2f
        · simpa using j2t
      · refine .pos (by simp) ?_
        simpa using j2t
include hl0 hl1 hsm in
theorem may_l0 (hP : ∀ s ∈ l0, s.size ≤ 1048576) : ∀ (d i : Nat), i + d = l0.length → Ev (fun k => cofferref21_May.l0 k (i : Int) l0 l1) (mayP (l0.drop i) && mayQ [] l1)
  | 0, i, hi => by
    refine .step ?_
    simp only [cofferref21_May.l0]
    refine .neg (by omega) ?_
    rw [List.drop_of_length_le (by omega)]
    have := may_l1 l0 l1 hsm hl1 l1.length 0 (by omega)
    simpa [nextQ, mayP] using this
  | d + 1, i, hi => by
    have hlt : i < l0.length := by omega
    have hdr := drop_rd ByteArray.empty l0 i hlt
    have hm : l0.getD i ByteArray.empty ∈ l0 := by rw [List.getD_eq_getElem?_getD, List.getElem?_eq_getElem hlt]; exact List.getElem_mem hlt
    have hs := hP _ hm
    have ih := may_l0 hP d (i + 1) (by omega)
    refine .step ?_
    simp only [cofferref21_May.l0]
    refine .pos (by omega) ?_
    refine .pos (by omega) ?_
    unfold rdOf
    rw [Int.toNat_natCast, hdr, mayP_cons]
    generalize l0.getD i ByteArray.empty = s at *
    by_cases hz : s.size = 0
    · refine .pos ((toList_eq_nil _).2 hz) ?_
      exact .of (by rw [show (s.size == 0) = true by rw [beq_iff_eq]; exact hz]; rfl)
    · refine .neg (fun h => hz ((toList_eq_nil _).1 h)) ?_
      rw [beq_eq_false_iff_ne.2 hz]
      refine .bind (zero_f s (by omega)) ?_
      rcases h1 : zeroB s.data.toList with _ | _
      · refine .neg (by simp) ?_
        rw [wrap_succ i (by omega)]
        simpa using ih
      · refine .pos (by simp) ?_
        exact .of (by simp)
include hl0 hl1 hsm in
theorem refmay_ev (hP : ∀ s ∈ l0, s.size ≤ 1048576) : Ev (fun k => cofferref21_May.f k l0 l1) (mayB l0 l1) := by
  have := may_l0 l0 l1 hsm hl0 hl1 hP l0.length 0 (by omega)
  exact this
end
end Go.Proofs.YtejmolhdmbkfaaaDoor.S
