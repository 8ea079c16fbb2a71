-- Written by wip/tools/pp.py over the kit's print.py; not trusted: Lean checks it.
import Derived.Test.YtofmgoihoaookaaDoorQAx0
import Derived.Test.YtofmgoihoaookaaDoorTNamed
namespace Go.Proofs.YtofmgoihoaookaaDoor.QA
open Go.Proofs.YtofmgoihoaookaaDoor.T
open Go.RowKit Go.Proofs.YtofmgoihoaookaaDoorW.PrintWords Go.Proofs.YtofmgoihoaookaaDoorW.PrintLast Go.Proofs.YtofmgoihoaookaaDoorW.PrintMore
attribute [local go_sem] max2_int min2_int max_two min_two max_three min_three max_four min_four   -- for this text's walks alone
set_option linter.unusedVariables false
set_option linter.unusedSimpArgs false

/-! ### border_Named: function 6 -/
--@PART TNamed
def border_Named.f (a0 : ByteArray) : Option (Int × Bool) := namedF a0
theorem border_Named.calls (a0 : ByteArray) (r1 : Int) (r2 : Bool) (w : World) (hG : GL w) (h : border_Named.f a0 = some (r1, r2)) :
  Calls Tryd.prog 6 #[.string a0] w fun e w' => e = .returned (.tuple #[.int .i64 r1, .bool r2]) ∧ Drawn0 w w' := named_calls a0 r1 r2 w hG h

end Go.Proofs.YtofmgoihoaookaaDoor.QA
