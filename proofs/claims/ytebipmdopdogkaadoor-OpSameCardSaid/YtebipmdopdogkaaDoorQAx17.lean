-- Written by wip/tools/pp.py over the kit's print.py; not trusted: Lean checks it.
import Derived.Test.YtebipmdopdogkaaDoorQAx0
import Derived.Test.YtebipmdopdogkaaDoorH06r
namespace Go.Proofs.YtebipmdopdogkaaDoor.QA
open Go.Proofs.YtebipmdopdogkaaDoor.T
open Go.RowKit Go.Proofs.YtebipmdopdogkaaDoorW.PrintWords Go.Proofs.YtebipmdopdogkaaDoorW.PrintLast Go.Proofs.YtebipmdopdogkaaDoorW.PrintMore
attribute [local go_sem] ext_call max2_int min2_int max_two min_two max_three min_three max_four min_four   -- for this text's walks alone
set_option linter.unusedVariables false
set_option linter.unusedSimpArgs false

/-! ### slices_Repeat_int64_int64: function 51 -/
--@PART H06r
def slices_Repeat_int64_int64.f (a0 : List Int) (a1 : Int) : Option (List Int) := repF a0 a1
theorem slices_Repeat_int64_int64.calls (A0 : Option Addr) (c0 : Nat) (l0 : List Int) (a1 : Int) (r : List Int) (w : World) (hr0 : Kd.C (Kd.int .i64) w A0 l0.length l0) (hc0 : l0.length ≤ c0) (h : slices_Repeat_int64_int64.f l0 a1 = some r) :
  Calls Tryd.prog 51 #[.slice A0 l0.length c0, .int .i64 a1] w fun e w' => ∃ v0_ : Value, e = .returned v0_ ∧ Kd.R (Kd.int .i64) 2 w' w.heap.size (fun _ => True) v0_ r ∧ Below w.heap.size w w' := repF_calls A0 c0 l0 a1 r w hr0 hc0 h

end Go.Proofs.YtebipmdopdogkaaDoor.QA
