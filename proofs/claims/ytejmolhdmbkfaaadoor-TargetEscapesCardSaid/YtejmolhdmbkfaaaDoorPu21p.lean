/-
  TargetEscapes answers true.
-/
import Derived.Test.YtejmolhdmbkfaaaDoorPu21l
import Derived.Test.YtejmolhdmbkfaaaDoorSx14
import Derived.Test.YtejmolhdmbkfaaaDoorOpb21
namespace Go.Proofs.YtejmolhdmbkfaaaDoor.S
open Go.RowKit Go.Proofs.YtejmolhdmbkfaaaDoorW.PrintWords
set_option linter.unusedVariables false
set_option linter.unusedSimpArgs false
def digB (s : Bool) : ByteArray := if s = true then (⟨#[48, 49, 50, 51, 52, 53, 54, 55, 56, 57, 97, 98, 99, 100, 101, 102]⟩ : ByteArray) else (⟨#[48, 49, 50, 51, 52, 53, 54, 55, 56, 57, 65, 66, 67, 68, 69, 70]⟩ : ByteArray)
def dgt (s : Bool) (n : Nat) : UInt8 := (digB s).data.toList.getD n 0
/-- A byte, escaped. -/
def tri (s : Bool) (c : UInt8) : List UInt8 := [37, dgt s (c.toNat / 16), dgt s (c.toNat % 16)]
def tris (s : Bool) (l : List UInt8) : List UInt8 := l.flatMap (tri s)
theorem dig_piece (s : Bool) (n : Nat) (h : n < 16) : (digB s).extract n (n + 1) = ⟨#[dgt s n]⟩ := by
  rcases (show n = 0 ∨ n = 1 ∨ n = 2 ∨ n = 3 ∨ n = 4 ∨ n = 5 ∨ n = 6 ∨ n = 7 ∨ n = 8 ∨ n = 9 ∨ n = 10 ∨ n = 11 ∨ n = 12 ∨ n = 13 ∨ n = 14 ∨ n = 15 by omega) with rfl | rfl | rfl | rfl | rfl | rfl | rfl | rfl | rfl | rfl | rfl | rfl | rfl | rfl | rfl | rfl <;> cases s <;> rfl
theorem dig_size (s : Bool) : (digB s).size = 16 := by cases s <;> rfl
theorem tri_hex : ∀ (s : Bool) (n : Fin 256), hexPair (dgt s (n.val / 16)) (dgt s (n.val % 16)) = if n.val = 0 then none else some (UInt8.ofNat n.val) := by decide +kernel
theorem tri_clean_all : ∀ (s : Bool) (n : Fin 256), ([37, dgt s (n.val / 16), dgt s (n.val % 16)] : List UInt8).all (fun x => x != 47 && x != 63) = true := by decide +kernel
theorem tris_clean (s : Bool) (l : List UInt8) (x : UInt8) (h : x ∈ tris s l) : x ≠ 47 ∧ x ≠ 63 := by
  obtain ⟨c, _, hx⟩ := List.mem_flatMap.1 h
  have := List.all_eq_true.1 (tri_clean_all s ⟨c.toNat, c.toNat_lt⟩) x hx
  simp only [Bool.and_eq_true, bne_iff_ne, ne_eq] at this
  exact this
theorem tris_part (s : Bool) : ∀ l : List UInt8, partL (tris s l) = if (l.any fun c => c == 0) = true then none else some l
  | [] => rfl
  | c :: r => by
    have h := tri_hex s ⟨c.toNat, c.toNat_lt⟩
    simp only at h
    show partL (37 :: dgt s (c.toNat / 16) :: dgt s (c.toNat % 16) :: tris s r) = _
    rw [partL_cons, if_neg (by decide), if_pos rfl]
    simp only
    rw [h]
    by_cases hc : c.toNat = 0
    · have hc0 : c = 0 := by rw [← UInt8.ofNat_toNat (x := c), hc]; rfl
      rw [if_pos hc, hc0]
      simp
    · have hc0 : (c == 0) = false := by
        rw [beq_eq_false_iff_ne]
        rintro rfl
        exact hc rfl
      rw [if_neg hc, tris_part s r]
      simp only [List.any_cons, hc0, Bool.false_or]
      by_cases hz : (r.any fun c => c == 0) = true
      · rw [if_pos hz, if_pos hz]; rfl
      · rw [if_neg hz, if_neg hz]; simp
theorem tris_len (s : Bool) : ∀ l : List UInt8, (tris s l).length = 3 * l.length
  | [] => rfl
  | c :: r => by
    show (tri s c ++ tris s r).length = _
    rw [List.length_append, tris_len s r, List.length_cons]
    show 3 + _ = _
    omega
/-- What is read of a name, escaped. -/
theorem parse_tris (s : Bool) (l : List UInt8) (hl : l ≠ []) : parseT (47 :: tris s l) = if (l.any fun c => c == 0) = true then ([], [], 4) else ([⟨l.toArray⟩], [], 0) := by
  have hne : tris s l ≠ [] := fun e => by
    have := tris_len s l
    rw [e, List.length_nil] at this
    exact hl (List.eq_nil_of_length_eq_zero (by omega))
  have hc1 : cut1 63 (47 :: tris s l) = none := cut1_no fun x hx => by
    rcases List.mem_cons.1 hx with rfl | hx
    · decide
    · exact (tris_clean s l x hx).2
  have hp : pathT (47 :: tris s l) = if (l.any fun c => c == 0) = true then none else some [l] := by
    unfold pathT
    rw [if_neg (by simpa using hne), if_pos (show (47 :: tris s l).headD 0 = 47 from rfl)]
    show allN (cutAll 47 (tris s l)) = _
    rw [cutAll_no fun x hx => (tris_clean s l x hx).1]
    show (match nameL (tris s l) with | some o => (allN []).map (o :: ·) | none => none) = _
    unfold nameL
    rw [tris_part]
    by_cases hz : (l.any fun c => c == 0) = true
    · rw [if_pos hz, if_pos hz]
    · rw [if_neg hz, if_neg hz]
      simp only
      rw [if_neg hl]
      rfl
  unfold parseT
  rw [hc1]
  simp only
  rw [hp]
  by_cases hz : (l.any fun c => c == 0) = true
  · rw [if_pos hz, if_pos hz]
  · rw [if_neg hz, if_neg hz]
    simp only [endP]
    rw [if_pos]
    · rfl
    · unfold mayB
      show (mayP [(⟨l.toArray⟩ : ByteArray)] && true) = true
      rw [Bool.and_true, mayP_cons]
      have hs : (⟨l.toArray⟩ : ByteArray).size ≠ 0 := by
        rw [size_mk]
        exact fun e => hl (List.eq_nil_of_length_eq_zero e)
      have hzero : zeroB l = false := by
        have key : ∀ m : List UInt8, ¬ (m.any fun c => c == 0) = true → zeroB m = false := fun m => by
          induction m with
          | nil => intro _; rfl
          | cons b m ih =>
            intro h
            simp only [List.any_cons, Bool.or_eq_true, not_or] at h
            rw [zeroB_cons, ih h.2]
            simpa using h.1
        exact key l hz
      show (!((⟨l.toArray⟩ : ByteArray).size == 0) && !zeroB l && true) = true
      rw [hzero]
      simpa using hs
theorem rd_ints (b : List UInt8) (i : Nat) (h : i < b.length) : rd (ints b) (i : Int) = (b[i].toNat : Int) := by
  unfold rd ints
  rw [Int.toNat_natCast, List.getD_eq_getElem?_getD, List.getElem?_map, List.getElem?_eq_getElem h]
  rfl
section
variable (s : Bool) (b : List UInt8) (hb : b ≠ []) (hl : b.length ≤ 200)
def outS (i : Nat) : ByteArray := ⟨(47 :: tris s (b.take i)).toArray⟩
def zeroT (i : Nat) : Bool := (b.take i).any fun c => c == 0
theorem outS_size (i : Nat) (hi : i ≤ b.length) : (outS s b i).size = 1 + 3 * i := by
  unfold outS
  rw [size_mk, List.length_cons, tris_len, List.length_take]
  omega
theorem outS_next (i : Nat) (h : i < b.length) : ((outS s b i ++ (⟨#[37]⟩ : ByteArray)) ++ (⟨#[dgt s (b[i].toNat / 16)]⟩ : ByteArray)) ++ (⟨#[dgt s (b[i].toNat % 16)]⟩ : ByteArray) = outS s b (i + 1) := by
  unfold outS
  rw [app_one, app_one, app_one, List.take_succ_eq_append_getElem h]
  unfold tris
  rw [List.flatMap_append]
  simp [tri]
theorem zeroT_next (i : Nat) (h : i < b.length) : zeroT b (i + 1) = (zeroT b i || (b[i] == 0)) := by
  unfold zeroT
  rw [List.take_succ_eq_append_getElem h, List.any_append]
  simp
include hb hl in
theorem escapes_l0 : ∀ (d i : Nat), i + d = b.length → Ev (fun k => cofferlaw21_TargetEscapes.l0 k (ints b) (digB s) (outS s b i) (zeroT b i) (i : Int)) true
  | 0, i, hi => by
    obtain rfl : i = b.length := by omega
    have hout : outS s b b.length = ⟨(47 :: tris s b).toArray⟩ := by unfold outS; rw [List.take_length]
    have hzer : zeroT b b.length = b.any fun c => c == 0 := by unfold zeroT; rw [List.take_length]
    refine .step ?_
    simp only [cofferlaw21_TargetEscapes.l0]
    refine .neg (by rw [ints_len]; omega) ?_
    rw [hout, hzer]
    refine .bind (parse_f _ (by rw [List.length_cons, tris_len]; omega)) ?_
    have hpt := parse_tris s b hb
    by_cases hz : (b.any fun c => c == 0) = true
    · rw [if_pos hz] at hpt
      rw [hpt]
      refine .pos hz ?_
      refine .pos rfl ?_
      exact .of (by simp)
    · rw [if_neg hz] at hpt
      rw [hpt]
      refine .neg hz ?_
      refine .pos rfl ?_
      refine .pos rfl ?_
      refine .pos (by simp) ?_
      refine .pos ?_ ?_
      · rw [str_ints]
        rfl
      · exact .of (by simp)
  | d + 1, i, hi => by
    have hlt : i < b.length := by omega
    have ih := escapes_l0 d (i + 1) (by omega)
    have hsz := outS_size s b i (by omega)
    have h256 := b[i].toNat_lt
    have e1 : Int.tdiv (b[i].toNat : Int) 16 % 256 = ((b[i].toNat / 16 : Nat) : Int) := by
      rw [show Int.tdiv (b[i].toNat : Int) 16 = ((b[i].toNat / 16 : Nat) : Int) from rfl]
      omega
    have e2 : (((b[i].toNat / 16 : Nat) : Int) + 1) % 256 = ((b[i].toNat / 16 + 1 : Nat) : Int) := by omega
    have e3 : Int.tmod (b[i].toNat : Int) 16 = ((b[i].toNat % 16 : Nat) : Int) := rfl
    have e4 : (((b[i].toNat % 16 : Nat) : Int) + 1) % 256 = ((b[i].toNat % 16 + 1 : Nat) : Int) := by omega
    have p1 := dig_piece s (b[i].toNat / 16) (by omega)
    have p2 := dig_piece s (b[i].toNat % 16) (by omega)
    have s37 : (⟨#[37]⟩ : ByteArray).size = 1 := rfl
    have sx : ∀ x : UInt8, (⟨#[x]⟩ : ByteArray).size = 1 := fun x => rfl
    have hbig : (outS s b i).size + 1 ≤ 9223372036854775807 := by rw [hsz]; omega
    have hnx := outS_next s b i hlt
    have hzx := zeroT_next b i hlt
    refine .step ?_
    simp only [cofferlaw21_TargetEscapes.l0, rd_ints b i hlt, e1, e2, e3, e4, Int.toNat_natCast, p1, p2, hnx]
    refine .pos (by rw [ints_len]; omega) ?_
    refine .pos hbig ?_
    refine .pos (by omega) ?_
    refine .pos (by omega) ?_
    refine .pos (by omega) ?_
    refine .pos (by rw [dig_size]; omega) ?_
    refine .pos (by rw [ByteArray.size_append, s37, sx, hsz]; omega) ?_
    refine .pos (by omega) ?_
    refine .pos (by omega) ?_
    refine .pos (by rw [dig_size]; omega) ?_
    refine .pos (by rw [ByteArray.size_append, ByteArray.size_append, s37, sx, sx, hsz]; omega) ?_
    rw [wrap_succ i (by omega)]
    by_cases hz : zeroT b i = true
    · refine .pos hz ?_
      rw [hz, Bool.true_or] at hzx
      rw [hzx] at ih
      exact ih
    · refine .neg hz ?_
      rw [show zeroT b i = false by simpa using hz, Bool.false_or] at hzx
      rw [hzx] at ih
      rw [show (((b[i].toNat : Nat) : Int) == 0) = (b[i] == 0) by
        by_cases h0 : b[i] = 0
        · rw [h0]; rfl
        · have : b[i].toNat ≠ 0 := fun e => h0 (by rw [← UInt8.ofNat_toNat (x := b[i]), e]; rfl)
          rw [show (b[i] == 0) = false by simpa using h0]
          simpa using this]
      exact ih
end
theorem targetEscapes_ev (b : List UInt8) (s : Bool) : Ev (fun k => cofferlaw21_TargetEscapes.f k (ints b) s) true := by
  have yes : Ev (fun k => cofferlaw21_TargetEscapes.j0 k (ints b) s true) true := .step (by
    simp only [cofferlaw21_TargetEscapes.j0]
    refine .pos trivial ?_
    exact .of rfl)
  unfold cofferlaw21_TargetEscapes.f
  refine .bind (.of rfl) ?_
  refine .pos rfl ?_
  by_cases hl : ((ints b).length : Int) > 200
  · exact .pos hl yes
  · refine .neg hl ?_
    rw [ints_len] at hl ⊢
    by_cases h0 : b = []
    · subst h0
      exact yes
    · have hn : b.length ≠ 0 := fun e => h0 (List.eq_nil_of_length_eq_zero e)
      rw [show ((b.length : Int) == 0) = false by simpa using h0]
      refine .step ?_
      simp only [cofferlaw21_TargetEscapes.j0]
      refine .neg (by simp) ?_
      have hloop := escapes_l0 s b h0 (by omega) b.length 0 (by omega)
      have hj : Ev (fun k => cofferlaw21_TargetEscapes.j1 k (ints b) (digB s)) true := .step (by
        simp only [cofferlaw21_TargetEscapes.j1]
        exact hloop)
      cases s
      · refine .neg (by simp) ?_
        exact hj
      · refine .pos rfl ?_
        exact hj
theorem targetEscapes_walk (w : World) (A : Option Addr) (c : Nat) (b : List UInt8) (hb : Kd.C (Kd.int .u8) w A b.length (b.map fun x => (x.toNat : Int)) ∧ b.length ≤ c) (s : Bool) :
    Calls Tryd.prog 6 #[.slice A b.length c, .bool s] w fun e w' => e = .returned (.bool true) ∧ Below w.heap.size w w' := by
  obtain ⟨k, hk⟩ := (targetEscapes_ev b s).at
  have hlen : (ints b).length = b.length := ints_len b
  have h1 : Kd.C (Kd.int .u8) w A (ints b).length (ints b) := by rw [hlen]; exact hb.1
  have := cofferlaw21_TargetEscapes.calls k A c (ints b) s true w h1 (by rw [hlen]; exact hb.2) hk
  rw [hlen] at this
  exact this
end Go.Proofs.YtejmolhdmbkfaaaDoor.S
