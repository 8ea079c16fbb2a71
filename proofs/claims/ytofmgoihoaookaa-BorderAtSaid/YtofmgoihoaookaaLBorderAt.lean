/- Of border.At and border.Span: what they answer is the reference's, and the laws of chapter 7 hold, for every input. -/
import Derived.Test.YtofmgoihoaookaaQAx4
import Derived.Test.YtofmgoihoaookaaL07
namespace Go.Proofs.Ytofmgoihoaookaa.QA
open Go.RowKit Go.Proofs.YtofmgoihoaookaaW.PrintWords Go.Proofs.YtofmgoihoaookaaW.PrintLast Go.Proofs.YtofmgoihoaookaaW.PrintMore Go.Proofs.Ytofmgoihoaookaa.T
set_option linter.unusedVariables false

theorem BorderAt_pure : smaltolaw07_BorderAt.Pure := by
  intro p j n hp hj hn
  refine ⟨300, ?_⟩
  have hj := wf64 hj
  have hn := wf64 hn
  unfold smaltolaw07_BorderAt.f
  rw [lives07 (by omega), border_At_eq (by omega) hj hn, ref07_At_eq (by omega) hj hn]
  simp

end Go.Proofs.Ytofmgoihoaookaa.QA
