-- Written by wip/tools/pp.py over the kit's print.py; not trusted: Lean checks it.
import Derived.Test.YtbkbgpileogehaaDoorProg
import Derived.Test.YtbkbgpileogehaaDoorTExt
import Derived.Test.YtbkbgpileogehaaDoorTGlob
import Derived.Test.YtbkbgpileogehaaDoorShelf
import Derived.Below
import Derived.Deep.Draws
import Derived.Deep.AppendLies
import Derived.Maps.AppendAt
import Derived.OwnWalk
import Derived.Laws.BytesArg
import Derived.Laws.MakeOwn
import Derived.Laws.OwnMore
import Derived.Deep.OwnRows
import Derived.Tactics
import Derived.Lib.ConvBytes
import Derived.Laws.Slices
import Derived.WalkKit
import Derived.KernelRfl
import Derived.RowKit3
import Derived.Deep.LoopGhost
import Derived.Deep.QuietTactic
import Derived.BigQuiet
import Derived.WideLaws
import Derived.Deep.DeepCutAuto
import Derived.Deep.CutBlock
import Derived.Deep.RegionHeld3
import Derived.Laws.Rows
import Derived.Lib.AppendStr
import Derived.ArgAppend
import Derived.Laws.IdiomCopy
import Derived.OrdersHeld
import Derived.Laws.BitsLemmas
import Derived.RowKit
import Derived.Test.YtbkbgpileogehaaDoorWWords
import Derived.Test.YtbkbgpileogehaaDoorWLast
import Derived.Test.YtbkbgpileogehaaDoorWTab
import Derived.Test.YtbkbgpileogehaaDoorWFour
import Derived.Test.YtbkbgpileogehaaDoorWQPut
import Derived.Test.YtbkbgpileogehaaDoorWApart
import Derived.Test.YtbkbgpileogehaaDoorWArr
import Derived.Test.YtbkbgpileogehaaDoorWZeros
import Derived.Test.YtbkbgpileogehaaDoorWFoot
import Derived.Test.YtbkbgpileogehaaDoorWKept
import Derived.Test.YtbkbgpileogehaaDoorWShare
import Derived.Test.YtbkbgpileogehaaDoorWN
import Derived.Test.YtbkbgpileogehaaDoorWFootNe
import Derived.Test.YtbkbgpileogehaaDoorWAt
import Derived.Test.YtbkbgpileogehaaDoorWEqStruct
import Derived.Test.YtbkbgpileogehaaDoorWRepsOne
import Derived.Test.YtbkbgpileogehaaDoorWInv
import Derived.Test.YtbkbgpileogehaaDoorWInvWords
import Derived.Test.YtbkbgpileogehaaDoorWGuard
import Derived.Test.YtbkbgpileogehaaDoorWNEv
import Derived.Test.YtbkbgpileogehaaDoorWMore
namespace Go.Proofs.YtbkbgpileogehaaDoor.QR
open Go.Proofs.YtbkbgpileogehaaDoor.T
open Go.RowKit Go.Proofs.YtbkbgpileogehaaDoorW.PrintWords Go.Proofs.YtbkbgpileogehaaDoorW.PrintLast Go.Proofs.YtbkbgpileogehaaDoorW.PrintMore
attribute [local go_sem] ext_call max2_int min2_int max_two min_two max_three min_three max_four min_four   -- for this text's walks alone
set_option linter.unusedVariables false
set_option linter.unusedSimpArgs false



def errW : Option Int → Value
 | none => .nilIface
 | some c => .iface 0 (.int .i64 c)
theorem errW_none : errW none = .nilIface := rfl
theorem errW_some (c : Int) : errW (some c) = .iface 0 (.int .i64 c) := rfl

theorem info2 : (Tryd.prog.info? 2).map (fun i => (i.zero, i.size, i.bytes)) = some (some (.int .i64 0), 1, 8) := by kernel_rfl
-- the values' own types

end Go.Proofs.YtbkbgpileogehaaDoor.QR
