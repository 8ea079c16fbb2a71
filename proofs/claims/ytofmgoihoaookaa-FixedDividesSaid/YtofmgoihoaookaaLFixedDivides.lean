/- Of any two int64 numbers fixed.Div and fixed.Floor answer what the reference answers: no condition. -/
import Derived.Test.YtofmgoihoaookaaQAx13
import Derived.Test.YtofmgoihoaookaaL01
namespace Go.Proofs.Ytofmgoihoaookaa.QA
open Go.RowKit Go.Proofs.YtofmgoihoaookaaW.PrintWords Go.Proofs.YtofmgoihoaookaaW.PrintLast Go.Proofs.YtofmgoihoaookaaW.PrintMore Go.Proofs.Ytofmgoihoaookaa.T
set_option linter.unusedVariables false

theorem FixedDivides_pure : smaltolaw01_FixedDivides.Pure := by
  intro a b ha hb
  refine ⟨300, ?_⟩
  have ha := wf64 ha
  have hb := wf64 hb
  unfold smaltolaw01_FixedDivides.f
  rw [lives01 (by omega), fixed_Div_eq (by omega) ha hb, ref01_Div_eq (by omega) ha hb, fixed_Floor_eq (by omega) ha hb, ref01_Floor_eq (by omega) ha hb]
  simp

end Go.Proofs.Ytofmgoihoaookaa.QA
