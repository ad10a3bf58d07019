-- Written by wip/hook.py: the functions of this seat as plain Lean functions, and their walks.
import Derived.Test.YtnohcfgjhgfjkaaDoorSx0
import Derived.Test.YtnohcfgjhgfjkaaDoorSx1
import Derived.Test.YtnohcfgjhgfjkaaDoorSx2
import Derived.Test.YtnohcfgjhgfjkaaDoorSx3
namespace Go.Proofs.YtnohcfgjhgfjkaaDoor.S
open Go.RowKit Go.Proofs.YtnohcfgjhgfjkaaDoorW.PrintWords Go.Proofs.YtnohcfgjhgfjkaaDoorW.PrintLast Go.Proofs.YtnohcfgjhgfjkaaDoorW.PrintMore
attribute [local go_sem] max2_int min2_int max_two min_two max_three min_three max_four min_four   -- for this text's walks alone
set_option linter.unusedVariables false
set_option linter.unusedSimpArgs false

end Go.Proofs.YtnohcfgjhgfjkaaDoor.S
