/-
  What the printed functions of this seat take as told: the library's table stands as its initialiser lays it ('Tabs'), and an int's decimal numeral by strconv's contract.
-/
import Derived.Test.YtnfimhdcpmakpaaDoorShelfP
import Derived.Test.YtnfimhdcpmakpaaDoorWWordsP
import Derived.Lib.AppendIntMem
import Derived.Lib.SmallJoins
namespace Go.Proofs.YtnfimhdcpmakpaaDoor.S
set_option linter.unusedVariables false
set_option linter.unusedSimpArgs false
open Go.RowKit Go.Proofs.YtnfimhdcpmakpaaDoorW.PrintWords
structure Tabs (w : World) : Prop where mk :: (out : Lib.TabIs Tryd.prog w "internal/strconv.uint64pow10" .u64 Lib.pow10Tab)
theorem Tabs.below {w w' : World} (h : Tabs w) (hb : Below w.heap.size w w') : Tabs w' := ⟨Lib.tabBelow_of_tabIs h.out w' hb⟩
theorem below_of_grow {w w' : World} (h : ∃ k os, w' = Sort.grow (w.drewN k) os) : Below w.heap.size w w' := by
  obtain ⟨k, os, rfl⟩ := h
  exact Lib.below_grow _ _ (Nat.le_refl _) k os
def xItoa.f (a0 : Int) : Option ByteArray := if -9223372036854775808 ≤ a0 ∧ a0 ≤ 9223372036854775807 then some ⟨(Lib.itoa a0).toArray⟩ else none
theorem xItoa.calls (a0 : Int) (r : ByteArray) (w : World) (h : xItoa.f a0 = some r) (hT : Tabs w) :
    Calls Tryd.prog 65 #[.int .i64 a0] w fun e w' => e = .returned (.string r) ∧ Below w.heap.size w w' := by
  unfold xItoa.f at h
  split at h
  · rename_i hb
    obtain rfl := Option.some.inj h
    exact (Tryd.strconv_Itoa a0 hb.1 hb.2 w hT.out).mono fun e w' ⟨he, hg⟩ => ⟨he, below_of_grow hg⟩
  · cases h
end Go.Proofs.YtnfimhdcpmakpaaDoor.S
