/-
  TargetReads, without Go and memory.
-/
import Derived.Test.YtejmolhdmbkfaaaDoorPu21g
import Derived.Test.YtejmolhdmbkfaaaDoorPu21i
import Derived.Test.YtejmolhdmbkfaaaDoorSx10
namespace Go.Proofs.YtejmolhdmbkfaaaDoor.S
open Go.RowKit Go.Proofs.YtejmolhdmbkfaaaDoorW.PrintWords
set_option linter.unusedVariables false
set_option linter.unusedSimpArgs false
section
variable (P : List ByteArray) (Q : List S32) (hP : P.length ≤ 1048576) (hQ : Q.length ≤ 1048576)
include hQ in
theorem same_l1 : ∀ (d i : Nat), i + d = Q.length → Ev (fun k => cofferref21_Same.l1 k (i : Int) P Q P Q) true
  | 0, i, hi => by
    refine .step ?_
    simp only [cofferref21_Same.l1]
    refine .neg (by omega) ?_
    exact .of rfl
  | d + 1, i, hi => by
    refine .step ?_
    simp only [cofferref21_Same.l1]
    refine .pos (by omega) ?_
    refine .pos (by omega) ?_
    refine .pos (by omega) ?_
    refine .neg (by simp) ?_
    rw [wrap_succ i (by omega)]
    exact same_l1 d (i + 1) (by omega)
include hP hQ in
theorem same_l0 : ∀ (d i : Nat), i + d = P.length → Ev (fun k => cofferref21_Same.l0 k (i : Int) P Q P Q) true
  | 0, i, hi => by
    refine .step ?_
    simp only [cofferref21_Same.l0]
    refine .neg (by omega) ?_
    exact same_l1 P Q hQ Q.length 0 (by omega)
  | d + 1, i, hi => by
    refine .step ?_
    simp only [cofferref21_Same.l0]
    refine .pos (by omega) ?_
    refine .pos (by omega) ?_
    refine .pos (by omega) ?_
    refine .pos (by simp) ?_
    rw [wrap_succ i (by omega)]
    exact same_l0 d (i + 1) (by omega)
include hP hQ in
/-- A target is the same as itself. -/
theorem same_ev : Ev (fun k => cofferref21_Same.f k P Q P Q) true := by
  unfold cofferref21_Same.f
  refine .pos rfl ?_
  rw [show ((Q.length : Int) != Q.length) = false by simp]
  refine .step ?_
  simp only [cofferref21_Same.j0]
  refine .neg (by simp) ?_
  exact same_l0 P Q hP hQ P.length 0 (by omega)
end
theorem parseT_len (l : List UInt8) (hl : l.length ≤ 100000) : (parseT l).1.length ≤ 1048576 ∧ (parseT l).2.1.length ≤ 1048576 := by
  unfold parseT
  rcases hc : cut1 63 l with _ | ⟨a, b⟩
  · rcases hp : pathT l with _ | ps
    · exact ⟨by simp, by simp⟩
    · obtain ⟨h1, _⟩ := pathT_len hp
      simp only [endP]
      split
      · exact ⟨by simp [mks]; omega, by simp⟩
      · exact ⟨by simp, by simp⟩
  · obtain ⟨h0, _, _⟩ := cut1_some hc
    have hz : l.length = a.length + 1 + b.length := by rw [h0]; simp; omega
    rcases hp : pathT a with _ | ps
    · simp [hp]
    · obtain ⟨h1, _⟩ := pathT_len hp
      rcases hq : queryT b with _ | qs
      · simp [hp, hq]
      · obtain ⟨h3, _⟩ := queryT_len hq
        simp only [hp, hq, endP]
        split
        · exact ⟨by simp [mks]; omega, by simp; omega⟩
        · exact ⟨by simp, by simp⟩
theorem reads_l2 (s : ByteArray) (i : Nat) (hi : i ≤ 2) (hn : Ev (fun k => cofferlaw21_TargetReads.l0 k s ((i + 1 : Nat) : Int)) true) : ∀ (d j : Nat) (P : List ByteArray) (Q : List S32), Q.length ≤ 1048576 → j + d = Q.length →
    Ev (fun k => cofferlaw21_TargetReads.l2 k s (i : Int) (j : Int) P Q) true
  | 0, j, P, Q, hQ, hj => by
    refine .step ?_
    simp only [cofferlaw21_TargetReads.l2]
    refine .neg (by omega) ?_
    rw [wrap_succ i (by omega)]
    exact hn
  | d + 1, j, P, Q, hQ, hj => by
    refine .step ?_
    simp only [cofferlaw21_TargetReads.l2]
    refine .pos (by omega) ?_
    refine .pos (by omega) ?_
    rw [wrap_succ j (by omega)]
    exact reads_l2 s i hi hn d (j + 1) P _ (by simpa using hQ) (by simp; omega)
theorem reads_l1 (s : ByteArray) (i : Nat) (hi : i ≤ 2) (hn : Ev (fun k => cofferlaw21_TargetReads.l0 k s ((i + 1 : Nat) : Int)) true) : ∀ (d j : Nat) (P : List ByteArray) (Q : List S32), P.length ≤ 1048576 → Q.length ≤ 1048576 → j + d = P.length →
    Ev (fun k => cofferlaw21_TargetReads.l1 k s (i : Int) (j : Int) P Q) true
  | 0, j, P, Q, hP, hQ, hj => by
    refine .step ?_
    simp only [cofferlaw21_TargetReads.l1]
    refine .neg (by omega) ?_
    exact reads_l2 s i hi hn Q.length 0 P Q hQ (by omega)
  | d + 1, j, P, Q, hP, hQ, hj => by
    refine .step ?_
    simp only [cofferlaw21_TargetReads.l1]
    refine .pos (by omega) ?_
    refine .pos (by omega) ?_
    rw [wrap_succ j (by omega)]
    exact reads_l1 s i hi hn d (j + 1) _ Q (by simpa using hP) hQ (by simp; omega)
theorem reads_l0 (l : List UInt8) (hl : l.length ≤ 2048) : ∀ (d i : Nat), i + d = 2 → Ev (fun k => cofferlaw21_TargetReads.l0 k ⟨l.toArray⟩ (i : Int)) true
  | 0, i, hi => by
    refine .step ?_
    simp only [cofferlaw21_TargetReads.l0]
    refine .neg (by omega) ?_
    exact .of rfl
  | d + 1, i, hi => by
    obtain ⟨h1, h2⟩ := parseT_len l (by omega)
    refine .step ?_
    simp only [cofferlaw21_TargetReads.l0]
    refine .pos (by omega) ?_
    refine .bind (parse_f l (by omega)) ?_
    refine .bind (refparse_f l (by omega)) ?_
    refine .pos rfl ?_
    refine .bind (same_ev _ _ h1 h2) ?_
    refine .step ?_
    simp only [cofferlaw21_TargetReads.j1]
    refine .neg (by simp) ?_
    exact reads_l1 ⟨l.toArray⟩ i (by omega) (reads_l0 l hl d (i + 1) (by omega)) _ 0 _ _ h1 h2 (Nat.zero_add _)
theorem targetReads_ev (s : ByteArray) : Ev (fun k => cofferlaw21_TargetReads.f k s) true := by
  unfold cofferlaw21_TargetReads.f
  refine .bind (.of rfl) ?_
  refine .pos rfl ?_
  by_cases h : (s.size : Int) > 2048
  · refine .pos h ?_
    exact .of rfl
  · refine .neg h ?_
    have := reads_l0 s.data.toList (by rw [Array.length_toList]; show s.size ≤ 2048; omega) 2 0 (by omega)
    rw [mk_data] at this
    exact this
theorem targetReads_walk (s : ByteArray) (_h : s.size ≤ 140737488351232) (w : World) :
    Calls Tryd.prog 3 #[.string s] w fun e w' => e = .returned (.bool true) ∧ Below w.heap.size w w' := by
  obtain ⟨k, hk⟩ := (targetReads_ev s).at
  exact cofferlaw21_TargetReads.calls k s true w hk
end Go.Proofs.YtejmolhdmbkfaaaDoor.S
