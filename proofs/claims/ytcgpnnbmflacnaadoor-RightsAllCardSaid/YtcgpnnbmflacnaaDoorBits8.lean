/-
  Sets of rights as eight bits: the machine's bitwise operations on uint8 are those of bit vectors.
-/
import Derived.Laws.BitsLemmas
namespace Go.Proofs.YtcgpnnbmflacnaaDoor.S
open Go
set_option linter.unusedVariables false
set_option linter.unusedSimpArgs false

def c8 (x : BitVec 8) : Int := (x.toNat : Int)
theorem c8_range (x : BitVec 8) : 0 ≤ c8 x ∧ c8 x ≤ 255 := by unfold c8; have := x.isLt; omega
theorem c8_of (a : Int) (h0 : 0 ≤ a) (h1 : a ≤ 255) : ∃ x, a = c8 x := ⟨BitVec.ofNat 8 a.toNat, by unfold c8; rw [BitVec.toNat_ofNat, Nat.mod_eq_of_lt (by omega)]; omega⟩
theorem c8_inj {x y : BitVec 8} : c8 x = c8 y ↔ x = y := by
  unfold c8
  constructor
  · intro h; exact BitVec.eq_of_toNat_eq (by omega)
  · rintro rfl; rfl
theorem c8_vec (x : BitVec 8) : BitVec.ofInt 8 (c8 x) = x := by unfold c8; rw [BitVec.ofInt_natCast, BitVec.ofNat_toNat]; simp
theorem c8_wrap (x : BitVec 8) : IntKind.u8.wrap (x.toNat : Int) = c8 x := by
  unfold c8; rw [IntKind.wrap_u8]; have := x.isLt; omega
theorem and_c (x y : BitVec 8) : Go.bits .and .u8 (c8 x) (c8 y) = c8 (x &&& y) := by
  have e : Go.bits .and .u8 (c8 x) (c8 y) = IntKind.u8.wrap (((BitVec.ofInt 8 (c8 x)) &&& (BitVec.ofInt 8 (c8 y))).toNat : Int) := rfl
  rw [e, c8_vec, c8_vec, c8_wrap]
theorem or_c (x y : BitVec 8) : Go.bits .or .u8 (c8 x) (c8 y) = c8 (x ||| y) := by
  have e : Go.bits .or .u8 (c8 x) (c8 y) = IntKind.u8.wrap (((BitVec.ofInt 8 (c8 x)) ||| (BitVec.ofInt 8 (c8 y))).toNat : Int) := rfl
  rw [e, c8_vec, c8_vec, c8_wrap]
theorem andNot_c (x y : BitVec 8) : Go.bits .andNot .u8 (c8 x) (c8 y) = c8 (x &&& ~~~y) := by
  have e : Go.bits .andNot .u8 (c8 x) (c8 y) = IntKind.u8.wrap (((BitVec.ofInt 8 (c8 x)) &&& ~~~(BitVec.ofInt 8 (c8 y))).toNat : Int) := rfl
  rw [e, c8_vec, c8_vec, c8_wrap]
theorem c8_zero : (0 : Int) = c8 0#8 := rfl
theorem covers_and (x y : BitVec 8) : (y &&& ~~~x = 0#8) ↔ x &&& y = y := by
  constructor
  · intro h
    ext i hi
    have := congrArg (fun z => z[i]) h
    simp at this ⊢
    intro hy; exact this hy
  · intro h
    ext i hi
    have := congrArg (fun z => z[i]) h
    simp at this ⊢
    intro hy; exact this hy
theorem covers_or (x y : BitVec 8) : (y &&& ~~~x = 0#8) ↔ x ||| y = x := by
  constructor
  · intro h
    ext i hi
    have := congrArg (fun z => z[i]) h
    simp at this ⊢
    intro hy; exact this hy
  · intro h
    ext i hi
    have := congrArg (fun z => z[i]) h
    simp at this ⊢
    intro hy; exact this hy
theorem covers_join (x y z : BitVec 8) (h1 : x &&& ~~~z = 0#8) (h2 : y &&& ~~~z = 0#8) : (x ||| y) &&& ~~~z = 0#8 := by
  ext i hi
  have a := congrArg (fun t => t[i]) h1
  have b := congrArg (fun t => t[i]) h2
  simp at a b ⊢
  rintro (h | h)
  · exact a h
  · exact b h
theorem absorb1 (x y : BitVec 8) : x &&& (x ||| y) = x := by ext i hi; simp; intro h; exact .inl h
theorem absorb2 (x y : BitVec 8) : x ||| (x &&& y) = x := by ext i hi; simp; intro h _; exact h
theorem distrib (x y z : BitVec 8) : x &&& (y ||| z) = (x &&& y) ||| (x &&& z) := by ext i hi; simp; cases x[i] <;> simp
end Go.Proofs.YtcgpnnbmflacnaaDoor.S
