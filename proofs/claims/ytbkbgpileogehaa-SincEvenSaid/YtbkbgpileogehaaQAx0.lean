-- Written by wip/tools/pp.py over the kit's print.py; not trusted: Lean checks it.
import Derived.Test.YtbkbgpileogehaaProg
import Derived.Test.YtbkbgpileogehaaTExt
import Derived.Test.YtbkbgpileogehaaShelf
import Derived.Below
import Derived.Deep.Draws
import Derived.Deep.AppendLies
import Derived.Maps.AppendAt
import Derived.OwnWalk
import Derived.Laws.BytesArg
import Derived.Laws.MakeOwn
import Derived.Laws.OwnMore
import Derived.Deep.OwnRows
import Derived.Tactics
import Derived.Lib.ConvBytes
import Derived.Laws.Slices
import Derived.WalkKit
import Derived.KernelRfl
import Derived.RowKit3
import Derived.Deep.LoopGhost
import Derived.Deep.QuietTactic
import Derived.BigQuiet
import Derived.WideLaws
import Derived.Deep.DeepCutAuto
import Derived.Deep.CutBlock
import Derived.Deep.RegionHeld3
import Derived.Laws.Rows
import Derived.Lib.AppendStr
import Derived.ArgAppend
import Derived.Laws.IdiomCopy
import Derived.OrdersHeld
import Derived.Laws.BitsLemmas
import Derived.RowKit
import Derived.Test.YtbkbgpileogehaaWWords
import Derived.Test.YtbkbgpileogehaaWLast
import Derived.Test.YtbkbgpileogehaaWTab
import Derived.Test.YtbkbgpileogehaaWFour
import Derived.Test.YtbkbgpileogehaaWQPut
import Derived.Test.YtbkbgpileogehaaWApart
import Derived.Test.YtbkbgpileogehaaWArr
import Derived.Test.YtbkbgpileogehaaWZeros
import Derived.Test.YtbkbgpileogehaaWFoot
import Derived.Test.YtbkbgpileogehaaWKept
import Derived.Test.YtbkbgpileogehaaWShare
import Derived.Test.YtbkbgpileogehaaWN
import Derived.Test.YtbkbgpileogehaaWFootNe
import Derived.Test.YtbkbgpileogehaaWAt
import Derived.Test.YtbkbgpileogehaaWEqStruct
import Derived.Test.YtbkbgpileogehaaWRepsOne
import Derived.Test.YtbkbgpileogehaaWInv
import Derived.Test.YtbkbgpileogehaaWInvWords
import Derived.Test.YtbkbgpileogehaaWGuard
import Derived.Test.YtbkbgpileogehaaWNEv
import Derived.Test.YtbkbgpileogehaaWMore
namespace Go.Proofs.Ytbkbgpileogehaa.QA
open Go.Proofs.Ytbkbgpileogehaa.T
open Go.RowKit Go.Proofs.YtbkbgpileogehaaW.PrintWords Go.Proofs.YtbkbgpileogehaaW.PrintLast Go.Proofs.YtbkbgpileogehaaW.PrintMore
attribute [local go_sem] ext_call max2_int min2_int max_two min_two max_three min_three max_four min_four   -- for this text's walks alone
set_option linter.unusedVariables false
set_option linter.unusedSimpArgs false



def errW : Option Int → Value
  | none => .nilIface
  | some c => .iface 0 (.int .i64 c)
theorem errW_none : errW none = .nilIface := rfl
theorem errW_some (c : Int) : errW (some c) = .iface 0 (.int .i64 c) := rfl

-- the values' own types

end Go.Proofs.Ytbkbgpileogehaa.QA
