/-
  An operation, as its cells lie in memory.
-/
import Derived.Test.YtnfimhdcpmakpaaDoorSx0P
import Derived.Test.YtnfimhdcpmakpaaDoorThenP
namespace Go.Proofs.YtnfimhdcpmakpaaDoor.S
open Go.RowKit Go.Proofs.YtnfimhdcpmakpaaDoorW.PrintWords
set_option linter.unusedVariables false
set_option linter.unusedSimpArgs false
set_option linter.unusedSectionVars false
structure OpV where
  dv : Int
  ten : ByteArray
  of_ : List Int
  num : Int
  unt : Int
  rig : Int
  body : Value
  tok : Value
def opL (o : OpV) : List Value := .int .i64 o.dv :: .string o.ten :: (o.of_.map (Value.int .u8) ++ (.int .i64 o.num :: .int .i64 o.unt :: .int .u8 o.rig :: o.body :: o.tok :: .int .i64 0 :: List.replicate 32 (.int .u8 0)))
def opA (o : OpV) : Array Value := (opL o).toArray
def zeroO : OpV := ⟨0, ⟨#[]⟩, List.replicate 32 0, 0, 0, 0, .slice none 0 0, .slice none 0 0⟩
section
variable {o : OpV} (h : o.of_.length = 32)
include h
theorem opA_size : (opA o).size = 72 := by simp [opA, opL, h]
theorem opA_1 : (opA o)[1]? = some (.string o.ten) := by simp [opA, opL]
theorem opA_0 : (opA o)[0]? = some (.int .i64 o.dv) := by simp [opA, opL]
theorem opA_34 : (opA o)[34]? = some (.int .i64 o.num) := by simp [opA, opL, List.getElem?_append, h]
theorem opA_35 : (opA o)[35]? = some (.int .i64 o.unt) := by simp [opA, opL, List.getElem?_append, h]
theorem opA_36 : (opA o)[36]? = some (.int .u8 o.rig) := by simp [opA, opL, List.getElem?_append, h]
theorem opA_37 : (opA o)[37]? = some o.body := by simp [opA, opL, List.getElem?_append, h]
theorem opA_38 : (opA o)[38]? = some o.tok := by simp [opA, opL, List.getElem?_append, h]
theorem set_ten (s : ByteArray) : (opA o).setIfInBounds 1 (.string s) = opA { o with ten := s } := by simp [opA, opL]
theorem set_num (n : Int) : (opA o).setIfInBounds 34 (.int .i64 n) = opA { o with num := n } := by simp [opA, opL, List.set_append, h]
theorem set_unt (n : Int) : (opA o).setIfInBounds 35 (.int .i64 n) = opA { o with unt := n } := by simp [opA, opL, List.set_append, h]
theorem set_rig (n : Int) : (opA o).setIfInBounds 36 (.int .u8 n) = opA { o with rig := n } := by simp [opA, opL, List.set_append, h]
theorem set_body (v : Value) : (opA o).setIfInBounds 37 v = opA { o with body := v } := by simp [opA, opL, List.set_append, h]
end
end Go.Proofs.YtnfimhdcpmakpaaDoor.S
