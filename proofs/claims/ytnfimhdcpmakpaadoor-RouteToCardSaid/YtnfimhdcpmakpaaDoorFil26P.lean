/-
  route.fill, walked: what stands for names and numbers.
-/
import Derived.Test.YtnfimhdcpmakpaaDoorOp26P
import Derived.Test.YtnfimhdcpmakpaaDoorSx4P
import Derived.Test.YtnfimhdcpmakpaaDoorSx5P
import Derived.Test.YtnfimhdcpmakpaaDoorSx6P
namespace Go.Proofs.YtnfimhdcpmakpaaDoor.S
open Go.RowKit Go.Proofs.YtnfimhdcpmakpaaDoorW.PrintWords
set_option linter.unusedVariables false
set_option linter.unusedSimpArgs false
def fillF (K : Nat) : List ByteArray → List ByteArray → OpV → Option (Bool × OpV)
  | [], _, o => some (true, o)
  | _ :: _, [], _ => none
  | x :: xs, p :: ps, o =>
    if x.toList = [78, 65, 77, 69] then (names_May.f K p).bind fun b => if b = true then fillF K xs ps { o with ten := p } else some (false, { o with ten := p })
    else if x.toList = [72, 69, 88] then none
    else if x.toList = [78] then (names_Number.f K p).bind fun n => if n.2 = 0 then fillF K xs ps { o with num := n.1 } else some (false, { o with num := n.1 })
    else fillF K xs ps o
theorem toList_lit (x : ByteArray) (l : List UInt8) (h : x.toList = l) : x = ⟨l.toArray⟩ := by
  rw [Lib.toList_data] at h
  apply ByteArray.ext
  simp [← h]
end Go.Proofs.YtnfimhdcpmakpaaDoor.S
