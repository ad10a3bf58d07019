/-
  route.ask, walked at a query of no parameters.
-/
import Derived.Test.YtnfimhdcpmakpaaDoorOp26P
namespace Go.Proofs.YtnfimhdcpmakpaaDoor.S
open Go.RowKit Go.Proofs.YtnfimhdcpmakpaaDoorW.PrintWords
set_option linter.unusedVariables false
set_option linter.unusedSimpArgs false
end Go.Proofs.YtnfimhdcpmakpaaDoor.S
