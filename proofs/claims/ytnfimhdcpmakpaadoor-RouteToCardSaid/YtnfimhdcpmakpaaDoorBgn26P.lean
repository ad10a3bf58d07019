/-
  What the laws of route begin with.
-/
import Derived.Test.YtnfimhdcpmakpaaDoorTo26P
namespace Go.Proofs.YtnfimhdcpmakpaaDoor.S
open Go.RowKit Go.Proofs.YtnfimhdcpmakpaaDoorW.PrintWords
set_option linter.unusedVariables false
set_option linter.unusedSimpArgs false
def GET : ByteArray := ⟨#[71, 69, 84]⟩
def PUT : ByteArray := ⟨#[80, 85, 84]⟩
theorem nofields (w : World) : Kd.C k41 w none ([] : List S41).length [] := ⟨rfl, by decide, fun h => absurd h (by decide)⟩
theorem kept33 {w1 : World} (o : OpV) (ho : o.of_.length = 32) : ((w1.alloc (.cells Tryd.zeroCells33 33)).setRow w1.heap.size (opA o)).heap[w1.heap.size]? = some (.cells (opA o) 33 (0, 0)) ∧ Below w1.heap.size w1 ((w1.alloc (.cells Tryd.zeroCells33 33)).setRow w1.heap.size (opA o)) :=
  ⟨setRow_heap (w1.alloc (.cells Tryd.zeroCells33 33)) w1.heap.size _ (opA o) 33 _ (heap_alloc_new w1 _), below_setRow (below_alloc (Below.refl w1.heap.size w1) (.cells Tryd.zeroCells33 33)) (Nat.le_refl _) (opA o)⟩
theorem size_new (o : OpV) (h : o.of_.length = 32) : Tryd.zeroCells33.size = (opA o).size := by rw [opA_size h]; kernel_rfl
end Go.Proofs.YtnfimhdcpmakpaaDoor.S
