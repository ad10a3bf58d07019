-- Written by wip/hook.py: the functions of this seat as plain Lean functions, and their walks.
import Derived.Test.YtkpgefmmlcpnlaaDoorProg
import Derived.Below
import Derived.Deep.Draws
import Derived.Deep.AppendLies
import Derived.Maps.AppendAt
import Derived.OwnWalk
import Derived.Laws.BytesArg
import Derived.Laws.MakeOwn
import Derived.Laws.OwnMore
import Derived.Deep.OwnRows
import Derived.Tactics
import Derived.Lib.ConvBytes
import Derived.Laws.Slices
import Derived.WalkKit
import Derived.KernelRfl
import Derived.RowKit3
import Derived.Deep.LoopGhost
import Derived.Deep.QuietTactic
import Derived.BigQuiet
import Derived.WideLaws
import Derived.Deep.DeepCutAuto
import Derived.Deep.CutBlock
import Derived.Deep.RegionHeld3
import Derived.Laws.Rows
import Derived.Lib.AppendStr
import Derived.ArgAppend
import Derived.Laws.IdiomCopy
import Derived.OrdersHeld
import Derived.Laws.BitsLemmas
import Derived.RowKit
import Derived.Test.YtkpgefmmlcpnlaaDoorExt
import Derived.Test.YtkpgefmmlcpnlaaDoorUnhex
import Derived.Test.YtkpgefmmlcpnlaaDoorWWords
import Derived.Test.YtkpgefmmlcpnlaaDoorWLast
import Derived.Test.YtkpgefmmlcpnlaaDoorWTab
import Derived.Test.YtkpgefmmlcpnlaaDoorWFour
import Derived.Test.YtkpgefmmlcpnlaaDoorWQPut
import Derived.Test.YtkpgefmmlcpnlaaDoorWApart
import Derived.Test.YtkpgefmmlcpnlaaDoorWArr
import Derived.Test.YtkpgefmmlcpnlaaDoorWZeros
import Derived.Test.YtkpgefmmlcpnlaaDoorWFoot
import Derived.Test.YtkpgefmmlcpnlaaDoorWKept
import Derived.Test.YtkpgefmmlcpnlaaDoorWShare
import Derived.Test.YtkpgefmmlcpnlaaDoorWN
import Derived.Test.YtkpgefmmlcpnlaaDoorWFootNe
import Derived.Test.YtkpgefmmlcpnlaaDoorWAt
import Derived.Test.YtkpgefmmlcpnlaaDoorWEqStruct
import Derived.Test.YtkpgefmmlcpnlaaDoorWRepsOne
import Derived.Test.YtkpgefmmlcpnlaaDoorWInv
import Derived.Test.YtkpgefmmlcpnlaaDoorWInvWords
import Derived.Test.YtkpgefmmlcpnlaaDoorWGuard
import Derived.Test.YtkpgefmmlcpnlaaDoorWNEv
import Derived.Test.YtkpgefmmlcpnlaaDoorWMore
namespace Go.Proofs.YtkpgefmmlcpnlaaDoor.S
open Go.RowKit Go.Proofs.YtkpgefmmlcpnlaaDoorW.PrintWords Go.Proofs.YtkpgefmmlcpnlaaDoorW.PrintLast Go.Proofs.YtkpgefmmlcpnlaaDoorW.PrintMore
attribute [local go_sem] max2_int min2_int max_two min_two max_three min_three max_four min_four   -- for this text's walks alone
set_option linter.unusedVariables false
set_option linter.unusedSimpArgs false



def errW : Option Int → Value
  | none => .nilIface
  | some c => .iface 0 (.int .i64 c)
theorem errW_none : errW none = .nilIface := rfl
theorem errW_some (c : Int) : errW (some c) = .iface 0 (.int .i64 c) := rfl

theorem info5 : (Tryd.prog.info? 5).map (fun i => (i.zero, i.size, i.bytes)) = some (some (.int .u8 0), 1, 1) := by kernel_rfl
-- the values' own types

end Go.Proofs.YtkpgefmmlcpnlaaDoor.S
