-- Written by wip/tools/pp.py over the kit's print.py; not trusted: Lean checks it.
import Derived.Test.YteiojnljdhjnlaaProg
import Derived.Test.YteiojnljdhjnlaaTExt
import Derived.Test.YteiojnljdhjnlaaShelf
import Derived.Below
import Derived.Deep.Draws
import Derived.Deep.AppendLies
import Derived.Maps.AppendAt
import Derived.OwnWalk
import Derived.Laws.BytesArg
import Derived.Laws.MakeOwn
import Derived.Laws.OwnMore
import Derived.Deep.OwnRows
import Derived.Tactics
import Derived.Lib.ConvBytes
import Derived.Laws.Slices
import Derived.WalkKit
import Derived.KernelRfl
import Derived.RowKit3
import Derived.Deep.LoopGhost
import Derived.Deep.QuietTactic
import Derived.BigQuiet
import Derived.WideLaws
import Derived.Deep.DeepCutAuto
import Derived.Deep.CutBlock
import Derived.Deep.RegionHeld3
import Derived.Laws.Rows
import Derived.Lib.AppendStr
import Derived.ArgAppend
import Derived.Laws.IdiomCopy
import Derived.OrdersHeld
import Derived.Laws.BitsLemmas
import Derived.RowKit
import Derived.Test.YteiojnljdhjnlaaWWords
import Derived.Test.YteiojnljdhjnlaaWLast
import Derived.Test.YteiojnljdhjnlaaWTab
import Derived.Test.YteiojnljdhjnlaaWFour
import Derived.Test.YteiojnljdhjnlaaWQPut
import Derived.Test.YteiojnljdhjnlaaWApart
import Derived.Test.YteiojnljdhjnlaaWArr
import Derived.Test.YteiojnljdhjnlaaWZeros
import Derived.Test.YteiojnljdhjnlaaWFoot
import Derived.Test.YteiojnljdhjnlaaWKept
import Derived.Test.YteiojnljdhjnlaaWShare
import Derived.Test.YteiojnljdhjnlaaWN
import Derived.Test.YteiojnljdhjnlaaWFootNe
import Derived.Test.YteiojnljdhjnlaaWAt
import Derived.Test.YteiojnljdhjnlaaWEqStruct
import Derived.Test.YteiojnljdhjnlaaWRepsOne
import Derived.Test.YteiojnljdhjnlaaWInv
import Derived.Test.YteiojnljdhjnlaaWInvWords
import Derived.Test.YteiojnljdhjnlaaWGuard
import Derived.Test.YteiojnljdhjnlaaWNEv
import Derived.Test.YteiojnljdhjnlaaWMore
namespace Go.Proofs.Yteiojnljdhjnlaa.QB
open Go.Proofs.Yteiojnljdhjnlaa.T
open Go.RowKit Go.Proofs.YteiojnljdhjnlaaW.PrintWords Go.Proofs.YteiojnljdhjnlaaW.PrintLast Go.Proofs.YteiojnljdhjnlaaW.PrintMore
attribute [local go_sem] ext_call max2_int min2_int max_two min_two max_three min_three max_four min_four   -- for this text's walks alone
set_option linter.unusedVariables false
set_option linter.unusedSimpArgs false



def errW : Option Int → Value
 | none => .nilIface
 | some c => .iface 0 (.int .i64 c)
theorem errW_none : errW none = .nilIface := rfl
theorem errW_some (c : Int) : errW (some c) = .iface 0 (.int .i64 c) := rfl

-- the values' own types

end Go.Proofs.Yteiojnljdhjnlaa.QB
