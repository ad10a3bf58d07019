-- Written by wip/hook.py: the functions of this seat as plain Lean functions, and their walks.
import Derived.Test.YtkpgefmmlcpnlaaDoorSx0
import Derived.Test.YtkpgefmmlcpnlaaDoorSx1
import Derived.Test.YtkpgefmmlcpnlaaDoorSx2
import Derived.Test.YtkpgefmmlcpnlaaDoorSx3
import Derived.Test.YtkpgefmmlcpnlaaDoorSx4
import Derived.Test.YtkpgefmmlcpnlaaDoorSx5
namespace Go.Proofs.YtkpgefmmlcpnlaaDoor.S
open Go.RowKit Go.Proofs.YtkpgefmmlcpnlaaDoorW.PrintWords Go.Proofs.YtkpgefmmlcpnlaaDoorW.PrintLast Go.Proofs.YtkpgefmmlcpnlaaDoorW.PrintMore
attribute [local go_sem] max2_int min2_int max_two min_two max_three min_three max_four min_four   -- for this text's walks alone
set_option linter.unusedVariables false
set_option linter.unusedSimpArgs false

end Go.Proofs.YtkpgefmmlcpnlaaDoor.S
