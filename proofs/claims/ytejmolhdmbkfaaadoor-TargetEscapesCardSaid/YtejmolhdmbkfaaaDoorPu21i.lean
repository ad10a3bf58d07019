/-
  The first parameter of a name; what the law's begin comes to.
-/
import Derived.Test.YtejmolhdmbkfaaaDoorPu21e
import Derived.Test.YtejmolhdmbkfaaaDoorSx11
import Derived.Test.YtejmolhdmbkfaaaDoorPrn21
namespace Go.Proofs.YtejmolhdmbkfaaaDoor.S
open Go.RowKit Go.Proofs.YtejmolhdmbkfaaaDoorW.PrintWords
set_option linter.unusedVariables false
set_option linter.unusedSimpArgs false
/-- The first parameter's value of a name. -/
def getT (n : ByteArray) : List S32 → ByteArray × Bool
  | [] => (⟨#[]⟩, false)
  | p :: r => if p.f0.toList = n.toList then (p.f1, true) else getT n r
theorem rd_at (l : List S32) (i : Nat) (h : i < l.length) : rd_T32 l (i : Int) = l[i] := by
  unfold rd_T32
  rw [Int.toNat_natCast, List.getD_eq_getElem?_getD, List.getElem?_eq_getElem h]
  rfl
theorem rdS_at (l : List ByteArray) (i : Nat) (h : i < l.length) : rdOf ByteArray.empty l (i : Int) = l[i] := by
  unfold rdOf
  rw [Int.toNat_natCast, List.getD_eq_getElem?_getD, List.getElem?_eq_getElem h]
  rfl
theorem get_l0 (n : ByteArray) (l : List S32) (hl : l.length ≤ 1048576) : ∀ (d i : Nat), i + d = l.length → Ev (fun k => target_Get.l0 k n l (l.length : Int) (i : Int)) (getT n (l.drop i))
  | 0, i, hi => by
    refine .step ?_
    simp only [target_Get.l0]
    refine .neg (by omega) ?_
    rw [List.drop_of_length_le (by omega)]
    exact .of rfl
  | d + 1, i, hi => by
    have hlt : i < l.length := by omega
    refine .step ?_
    simp only [target_Get.l0]
    refine .pos (by omega) ?_
    refine .pos (by omega) ?_
    refine .pos (by omega) ?_
    rw [rd_at l i hlt, List.drop_eq_getElem_cons hlt, getT]
    by_cases h : l[i].f0.toList = n.toList
    · refine .pos h ?_
      rw [if_pos h]
      exact .of rfl
    · refine .neg h ?_
      rw [if_neg h, wrap_succ i (by omega)]
      exact get_l0 n l hl d (i + 1) (by omega)
theorem get_ev (P : List ByteArray) (n : ByteArray) (l : List S32) (hl : l.length ≤ 1048576) : Ev (fun k => target_Get.f k P l n) (getT n l) := get_l0 n l hl l.length 0 (by omega)
theorem parse_lit : parseT [47, 116, 47, 97, 37, 50, 70, 98, 63, 120, 61, 37, 50, 48, 38, 121, 61] = ([⟨#[116]⟩, ⟨#[97, 47, 98]⟩], [⟨⟨#[120]⟩, ⟨#[32]⟩⟩, ⟨⟨#[121]⟩, ⟨#[]⟩⟩], 0) := by kernel_rfl
theorem print_lit : xPrint.f [⟨#[116]⟩, ⟨#[97, 47, 98]⟩] [⟨⟨#[120]⟩, ⟨#[32]⟩⟩, ⟨⟨#[121]⟩, ⟨#[]⟩⟩] = some (⟨#[47, 116, 47, 97, 37, 50, 70, 98, 63, 120, 61, 37, 50, 48, 38, 121, 61]⟩, 0) := by kernel_rfl
theorem get_lit : getT ⟨#[120]⟩ [⟨⟨#[120]⟩, ⟨#[32]⟩⟩, ⟨⟨#[121]⟩, ⟨#[]⟩⟩] = (⟨#[32]⟩, true) := by
  unfold getT
  rw [if_pos rfl]
end Go.Proofs.YtejmolhdmbkfaaaDoor.S
