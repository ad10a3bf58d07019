-- Written by wip/hook.py: the functions of this seat as plain Lean functions, and their walks.
import Derived.Test.YtcgpnnbmflacnaaDoorProg
import Derived.Below
import Derived.Deep.Draws
import Derived.Deep.AppendLies
import Derived.Maps.AppendAt
import Derived.OwnWalk
import Derived.Laws.BytesArg
import Derived.Laws.MakeOwn
import Derived.Laws.OwnMore
import Derived.Deep.OwnRows
import Derived.Tactics
import Derived.Lib.ConvBytes
import Derived.Laws.Slices
import Derived.WalkKit
import Derived.KernelRfl
import Derived.RowKit3
import Derived.Deep.LoopGhost
import Derived.Deep.QuietTactic
import Derived.BigQuiet
import Derived.WideLaws
import Derived.Deep.DeepCutAuto
import Derived.Deep.CutBlock
import Derived.Deep.RegionHeld3
import Derived.Laws.Rows
import Derived.Lib.AppendStr
import Derived.ArgAppend
import Derived.Laws.IdiomCopy
import Derived.OrdersHeld
import Derived.Laws.BitsLemmas
import Derived.RowKit
import Derived.Test.YtcgpnnbmflacnaaDoorExt
import Derived.Test.YtcgpnnbmflacnaaDoorWWords
import Derived.Test.YtcgpnnbmflacnaaDoorWLast
import Derived.Test.YtcgpnnbmflacnaaDoorWTab
import Derived.Test.YtcgpnnbmflacnaaDoorWFour
import Derived.Test.YtcgpnnbmflacnaaDoorWQPut
import Derived.Test.YtcgpnnbmflacnaaDoorWApart
import Derived.Test.YtcgpnnbmflacnaaDoorWArr
import Derived.Test.YtcgpnnbmflacnaaDoorWZeros
import Derived.Test.YtcgpnnbmflacnaaDoorWFoot
import Derived.Test.YtcgpnnbmflacnaaDoorWKept
import Derived.Test.YtcgpnnbmflacnaaDoorWShare
import Derived.Test.YtcgpnnbmflacnaaDoorWN
import Derived.Test.YtcgpnnbmflacnaaDoorWFootNe
import Derived.Test.YtcgpnnbmflacnaaDoorWAt
import Derived.Test.YtcgpnnbmflacnaaDoorWEqStruct
import Derived.Test.YtcgpnnbmflacnaaDoorWRepsOne
import Derived.Test.YtcgpnnbmflacnaaDoorWInv
import Derived.Test.YtcgpnnbmflacnaaDoorWInvWords
import Derived.Test.YtcgpnnbmflacnaaDoorWGuard
import Derived.Test.YtcgpnnbmflacnaaDoorWNEv
import Derived.Test.YtcgpnnbmflacnaaDoorWMore
namespace Go.Proofs.YtcgpnnbmflacnaaDoor.S
open Go.RowKit Go.Proofs.YtcgpnnbmflacnaaDoorW.PrintWords Go.Proofs.YtcgpnnbmflacnaaDoorW.PrintLast Go.Proofs.YtcgpnnbmflacnaaDoorW.PrintMore
attribute [local go_sem] max2_int min2_int max_two min_two max_three min_three max_four min_four   -- for this text's walks alone
set_option linter.unusedVariables false
set_option linter.unusedSimpArgs false



def errW : Option Int → Value
  | none => .nilIface
  | some c => .iface 0 (.int .i64 c)
theorem errW_none : errW none = .nilIface := rfl
theorem errW_some (c : Int) : errW (some c) = .iface 0 (.int .i64 c) := rfl

-- the values' own types

end Go.Proofs.YtcgpnnbmflacnaaDoor.S
