-- Written by wip/tools/pp.py over the kit's print.py; not trusted: Lean checks it.
import Derived.Test.YtofmgoihoaookaaProg
import Derived.Test.YtofmgoihoaookaaTExt
import Derived.Test.YtofmgoihoaookaaShelf
import Derived.Below
import Derived.Deep.Draws
import Derived.Deep.AppendLies
import Derived.Maps.AppendAt
import Derived.OwnWalk
import Derived.Laws.BytesArg
import Derived.Laws.MakeOwn
import Derived.Laws.OwnMore
import Derived.Deep.OwnRows
import Derived.Tactics
import Derived.Lib.ConvBytes
import Derived.Laws.Slices
import Derived.WalkKit
import Derived.KernelRfl
import Derived.RowKit3
import Derived.Deep.LoopGhost
import Derived.Deep.QuietTactic
import Derived.BigQuiet
import Derived.WideLaws
import Derived.Deep.DeepCutAuto
import Derived.Deep.CutBlock
import Derived.Deep.RegionHeld3
import Derived.Laws.Rows
import Derived.Lib.AppendStr
import Derived.ArgAppend
import Derived.Laws.IdiomCopy
import Derived.OrdersHeld
import Derived.Laws.BitsLemmas
import Derived.RowKit
import Derived.Test.YtofmgoihoaookaaWWords
import Derived.Test.YtofmgoihoaookaaWLast
import Derived.Test.YtofmgoihoaookaaWTab
import Derived.Test.YtofmgoihoaookaaWFour
import Derived.Test.YtofmgoihoaookaaWQPut
import Derived.Test.YtofmgoihoaookaaWApart
import Derived.Test.YtofmgoihoaookaaWArr
import Derived.Test.YtofmgoihoaookaaWZeros
import Derived.Test.YtofmgoihoaookaaWFoot
import Derived.Test.YtofmgoihoaookaaWKept
import Derived.Test.YtofmgoihoaookaaWShare
import Derived.Test.YtofmgoihoaookaaWN
import Derived.Test.YtofmgoihoaookaaWFootNe
import Derived.Test.YtofmgoihoaookaaWAt
import Derived.Test.YtofmgoihoaookaaWEqStruct
import Derived.Test.YtofmgoihoaookaaWRepsOne
import Derived.Test.YtofmgoihoaookaaWInv
import Derived.Test.YtofmgoihoaookaaWInvWords
import Derived.Test.YtofmgoihoaookaaWGuard
import Derived.Test.YtofmgoihoaookaaWNEv
import Derived.Test.YtofmgoihoaookaaWMore
namespace Go.Proofs.Ytofmgoihoaookaa.QA
open Go.Proofs.Ytofmgoihoaookaa.T
open Go.RowKit Go.Proofs.YtofmgoihoaookaaW.PrintWords Go.Proofs.YtofmgoihoaookaaW.PrintLast Go.Proofs.YtofmgoihoaookaaW.PrintMore
attribute [local go_sem] max2_int min2_int max_two min_two max_three min_three max_four min_four   -- for this text's walks alone
set_option linter.unusedVariables false
set_option linter.unusedSimpArgs false



def errW : Option Int → Value
  | none => .nilIface
  | some c => .iface 0 (.int .i64 c)
theorem errW_none : errW none = .nilIface := rfl
theorem errW_some (c : Int) : errW (some c) = .iface 0 (.int .i64 c) := rfl

theorem info2 : (Try.prog.info? 2).map (fun i => (i.zero, i.size, i.bytes)) = some (some (.int .i64 0), 1, 8) := by kernel_rfl
-- the values' own types

end Go.Proofs.Ytofmgoihoaookaa.QA
