/- Of border.At and border.Span: what they answer is the reference's, and the laws of chapter 7 hold, for every input. -/
import Derived.Test.YtofmgoihoaookaaQAx7
import Derived.Test.YtofmgoihoaookaaL07
namespace Go.Proofs.Ytofmgoihoaookaa.QA
open Go.RowKit Go.Proofs.YtofmgoihoaookaaW.PrintWords Go.Proofs.YtofmgoihoaookaaW.PrintLast Go.Proofs.YtofmgoihoaookaaW.PrintMore Go.Proofs.Ytofmgoihoaookaa.T
set_option linter.unusedVariables false

theorem BorderSpans_l0 (p first n count : Int) (hf : I64 first) (hn : I64 n) (c : Nat) (hcc : count.toNat = c) (hc : c ≤ 100) : ∀ (d k i : Nat) (acc : List Int), i + d = c → d + 500 < k → acc = ((List.range' 0 i).map fun (t : Nat) => bat p (hold (first + (t : Int))) n) →
    smaltolaw07_BorderSpans.l0 k p first count n acc (c : Int) (i : Int) = some true := by
  intro d
  induction d with
  | zero =>
    intro k i acc hi hk hl
    obtain ⟨k, rfl⟩ : ∃ m, k = m + 1 := ⟨k - 1, by omega⟩
    simp only [smaltolaw07_BorderSpans.l0]
    rw [if_neg (by omega), border_Span_eq hf hn (by omega) (by omega)]
    simp only [Option.bind_some]
    rw [ref06_Same_eq (by simp; omega) (by simp; omega)]
    simp only [Option.bind_some]
    rw [hl, hcc, show i = c from by omega]; simp
  | succ d ih =>
    intro k i acc hi hk hl
    obtain ⟨k, rfl⟩ : ∃ m, k = m + 1 := ⟨k - 1, by omega⟩
    simp only [smaltolaw07_BorderSpans.l0]
    have ll : acc.length = i := by rw [hl]; simp
    have go : ∀ v, v = bat p (hold (first + (i : Int))) n → smaltolaw07_BorderSpans.l0 k p first count n (acc ++ [v]) (c : Int) (wrap64 ((i : Int) + 1)) = some true := by
      intro v hv
      rw [w64_id (by omega) (by omega), show ((i : Int) + 1) = ((i + 1 : Nat) : Int) from by omega]
      refine ih k (i + 1) _ (by omega) (by omega) ?_
      rw [hv, hl, List.range'_concat]; simp
    rw [if_pos (by omega)]
    by_cases h1 : first > 0
    · rw [if_pos h1, w64_id (show -9223372036854775808 ≤ 9223372036854775807 - first from by omega) (by omega)]
      by_cases h2 : (i : Int) > 9223372036854775807 - first
      · rw [if_pos h2, ref07_At_eq (by omega) (by constructor <;> omega) hn]
        simp only [Option.bind_some]
        rw [if_pos (by omega)]
        exact go _ (by unfold hold; rw [if_neg (by omega), if_pos (by omega)])
      · rw [if_neg h2, w64_id (by omega) (by omega), ref07_At_eq (by omega) (by constructor <;> omega) hn]
        simp only [Option.bind_some]
        rw [if_pos (by omega)]
        exact go _ (by rw [hold_id (by omega) (by omega)])
    · rw [if_neg h1, w64_id (by omega) (by omega), ref07_At_eq (by omega) (by constructor <;> omega) hn]
      simp only [Option.bind_some]
      rw [if_pos (by omega)]
      exact go _ (by rw [hold_id (by omega) (by omega)])
theorem BorderSpans_pure : smaltolaw07_BorderSpans.Pure := by
  intro p first count n hp hf hc hn
  refine ⟨1001, ?_⟩
  have hf := wf64 hf
  have hn := wf64 hn
  unfold smaltolaw07_BorderSpans.f
  rw [lives07 (by omega)]
  simp only [Option.bind_some, if_true, smaltolaw07_BorderSpans.j0]
  by_cases h : count > 100
  · rw [if_pos (decide_eq_true h), lives07 (by omega)]; rfl
  rw [if_neg (show ¬ (decide (count > 100) = true) from by simpa using h)]
  have e : mx 0 count = (count.toNat : Int) := by unfold mx; split <;> omega
  rw [e]
  exact BorderSpans_l0 p first n count hf hn count.toNat rfl (by omega) count.toNat 1000 0 [] (by omega) (by omega) rfl

end Go.Proofs.Ytofmgoihoaookaa.QA
