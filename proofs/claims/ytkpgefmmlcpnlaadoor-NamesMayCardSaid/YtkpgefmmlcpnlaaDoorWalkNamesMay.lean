/-
  NamesMay answers true at every string, in every world where the library's table stands.
-/
import Derived.Test.YtkpgefmmlcpnlaaDoorPure4
namespace Go.Proofs.YtkpgefmmlcpnlaaDoor.S
open Go.RowKit Go.Proofs.YtkpgefmmlcpnlaaDoorW.PrintWords
set_option linter.unusedVariables false
set_option linter.unusedSimpArgs false
theorem namesMay_walk (a0 : ByteArray) (_h : a0.size ≤ 140737488351232) (w : World) (hT : Tabs w) :
    Calls Tryd.prog 3 #[.string a0] w fun e w' => e = .returned (.bool true) ∧ Below w.heap.size w w' :=
  cofferlaw4_NamesMay.calls 200 a0 true w (NamesMay_pure a0) hT
end Go.Proofs.YtkpgefmmlcpnlaaDoor.S
