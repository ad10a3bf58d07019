-- Written by wip/hook.py: the functions of this seat as plain Lean functions, and their walks.
import Derived.Test.YtnohcfgjhgfjkaaDoorProg
import Derived.Below
import Derived.Deep.Draws
import Derived.Deep.AppendLies
import Derived.Maps.AppendAt
import Derived.OwnWalk
import Derived.Laws.BytesArg
import Derived.Laws.MakeOwn
import Derived.Laws.OwnMore
import Derived.Deep.OwnRows
import Derived.Tactics
import Derived.Lib.ConvBytes
import Derived.Laws.Slices
import Derived.WalkKit
import Derived.KernelRfl
import Derived.RowKit3
import Derived.Deep.LoopGhost
import Derived.Deep.QuietTactic
import Derived.BigQuiet
import Derived.WideLaws
import Derived.Deep.DeepCutAuto
import Derived.Deep.CutBlock
import Derived.Deep.RegionHeld3
import Derived.Laws.Rows
import Derived.Lib.AppendStr
import Derived.ArgAppend
import Derived.Laws.IdiomCopy
import Derived.OrdersHeld
import Derived.Laws.BitsLemmas
import Derived.RowKit
import Derived.Test.YtnohcfgjhgfjkaaDoorExt
import Derived.Test.YtnohcfgjhgfjkaaDoorWWords
import Derived.Test.YtnohcfgjhgfjkaaDoorWLast
import Derived.Test.YtnohcfgjhgfjkaaDoorWTab
import Derived.Test.YtnohcfgjhgfjkaaDoorWFour
import Derived.Test.YtnohcfgjhgfjkaaDoorWQPut
import Derived.Test.YtnohcfgjhgfjkaaDoorWApart
import Derived.Test.YtnohcfgjhgfjkaaDoorWArr
import Derived.Test.YtnohcfgjhgfjkaaDoorWZeros
import Derived.Test.YtnohcfgjhgfjkaaDoorWFoot
import Derived.Test.YtnohcfgjhgfjkaaDoorWKept
import Derived.Test.YtnohcfgjhgfjkaaDoorWShare
import Derived.Test.YtnohcfgjhgfjkaaDoorWN
import Derived.Test.YtnohcfgjhgfjkaaDoorWFootNe
import Derived.Test.YtnohcfgjhgfjkaaDoorWAt
import Derived.Test.YtnohcfgjhgfjkaaDoorWEqStruct
import Derived.Test.YtnohcfgjhgfjkaaDoorWRepsOne
import Derived.Test.YtnohcfgjhgfjkaaDoorWInv
import Derived.Test.YtnohcfgjhgfjkaaDoorWInvWords
import Derived.Test.YtnohcfgjhgfjkaaDoorWGuard
import Derived.Test.YtnohcfgjhgfjkaaDoorWNEv
import Derived.Test.YtnohcfgjhgfjkaaDoorWMore
namespace Go.Proofs.YtnohcfgjhgfjkaaDoor.S
open Go.RowKit Go.Proofs.YtnohcfgjhgfjkaaDoorW.PrintWords Go.Proofs.YtnohcfgjhgfjkaaDoorW.PrintLast Go.Proofs.YtnohcfgjhgfjkaaDoorW.PrintMore
attribute [local go_sem] max2_int min2_int max_two min_two max_three min_three max_four min_four   -- for this text's walks alone
set_option linter.unusedVariables false
set_option linter.unusedSimpArgs false



def errW : Option Int → Value
  | none => .nilIface
  | some c => .iface 0 (.int .i64 c)
theorem errW_none : errW none = .nilIface := rfl
theorem errW_some (c : Int) : errW (some c) = .iface 0 (.int .i64 c) := rfl

-- the values' own types

end Go.Proofs.YtnohcfgjhgfjkaaDoor.S
