-- Written by wip/tools/pp.py over the kit's print.py; not trusted: Lean checks it.
import Derived.Test.YtofmgoihoaookaaDoorProg
import Derived.Test.YtofmgoihoaookaaDoorTExt
import Derived.Test.YtofmgoihoaookaaDoorTGlob
import Derived.Below
import Derived.Deep.Draws
import Derived.Deep.AppendLies
import Derived.Maps.AppendAt
import Derived.OwnWalk
import Derived.Laws.BytesArg
import Derived.Laws.MakeOwn
import Derived.Laws.OwnMore
import Derived.Deep.OwnRows
import Derived.Tactics
import Derived.Lib.ConvBytes
import Derived.Laws.Slices
import Derived.WalkKit
import Derived.KernelRfl
import Derived.RowKit3
import Derived.Deep.LoopGhost
import Derived.Deep.QuietTactic
import Derived.BigQuiet
import Derived.WideLaws
import Derived.Deep.DeepCutAuto
import Derived.Deep.CutBlock
import Derived.Deep.RegionHeld3
import Derived.Laws.Rows
import Derived.Lib.AppendStr
import Derived.ArgAppend
import Derived.Laws.IdiomCopy
import Derived.OrdersHeld
import Derived.Laws.BitsLemmas
import Derived.RowKit
import Derived.Test.YtofmgoihoaookaaDoorWWords
import Derived.Test.YtofmgoihoaookaaDoorWLast
import Derived.Test.YtofmgoihoaookaaDoorWTab
import Derived.Test.YtofmgoihoaookaaDoorWFour
import Derived.Test.YtofmgoihoaookaaDoorWQPut
import Derived.Test.YtofmgoihoaookaaDoorWApart
import Derived.Test.YtofmgoihoaookaaDoorWArr
import Derived.Test.YtofmgoihoaookaaDoorWZeros
import Derived.Test.YtofmgoihoaookaaDoorWFoot
import Derived.Test.YtofmgoihoaookaaDoorWKept
import Derived.Test.YtofmgoihoaookaaDoorWShare
import Derived.Test.YtofmgoihoaookaaDoorWN
import Derived.Test.YtofmgoihoaookaaDoorWFootNe
import Derived.Test.YtofmgoihoaookaaDoorWAt
import Derived.Test.YtofmgoihoaookaaDoorWEqStruct
import Derived.Test.YtofmgoihoaookaaDoorWRepsOne
import Derived.Test.YtofmgoihoaookaaDoorWInv
import Derived.Test.YtofmgoihoaookaaDoorWInvWords
import Derived.Test.YtofmgoihoaookaaDoorWGuard
import Derived.Test.YtofmgoihoaookaaDoorWNEv
import Derived.Test.YtofmgoihoaookaaDoorWMore
namespace Go.Proofs.YtofmgoihoaookaaDoor.QA
open Go.Proofs.YtofmgoihoaookaaDoor.T
open Go.RowKit Go.Proofs.YtofmgoihoaookaaDoorW.PrintWords Go.Proofs.YtofmgoihoaookaaDoorW.PrintLast Go.Proofs.YtofmgoihoaookaaDoorW.PrintMore
attribute [local go_sem] max2_int min2_int max_two min_two max_three min_three max_four min_four   -- for this text's walks alone
set_option linter.unusedVariables false
set_option linter.unusedSimpArgs false



def errW : Option Int → Value
 | none => .nilIface
 | some c => .iface 0 (.int .i64 c)
theorem errW_none : errW none = .nilIface := rfl
theorem errW_some (c : Int) : errW (some c) = .iface 0 (.int .i64 c) := rfl

theorem info9 : (Tryd.prog.info? 9).map (fun i => (i.zero, i.size, i.bytes)) = some (some (.string ⟨#[]⟩), 1, 16) := by kernel_rfl
-- the values' own types

end Go.Proofs.YtofmgoihoaookaaDoor.QA
