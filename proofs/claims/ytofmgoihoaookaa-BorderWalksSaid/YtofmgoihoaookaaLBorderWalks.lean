/- Of border.At and border.Span: what they answer is the reference's, and the laws of chapter 7 hold, for every input. -/
import Derived.Test.YtofmgoihoaookaaQAx2
import Derived.Test.YtofmgoihoaookaaL07
namespace Go.Proofs.Ytofmgoihoaookaa.QA
open Go.RowKit Go.Proofs.YtofmgoihoaookaaW.PrintWords Go.Proofs.YtofmgoihoaookaaW.PrintLast Go.Proofs.YtofmgoihoaookaaW.PrintMore Go.Proofs.Ytofmgoihoaookaa.T
set_option linter.unusedVariables false

theorem BorderWalks_pure : smaltolaw07_BorderWalks.Pure := by
  intro p j s hp hj hs
  refine ⟨301, ?_⟩
  have hp := wfu8 hp
  have hj := wf64 hj
  have hs := wfu16 hs
  unfold smaltolaw07_BorderWalks.f
  rw [lives07 (by omega)]
  simp only [Option.bind_some, if_true, smaltolaw07_BorderWalks.j0]
  by_cases c : j = 9223372036854775807
  · rw [if_pos (by simpa using c), lives07 (by omega)]; rfl
  rw [if_neg (show ¬ ((j == 9223372036854775807) = true) from by simpa using c)]
  have ek : wrap64 (Int.tmod p 3) = p % 3 := by rw [Int.tmod_eq_emod_of_nonneg hp.1, w64_id (by omega) (by omega)]
  have en : wrap64 (1 + wrap64 s) = 1 + s := by rw [w64_id (show -9223372036854775808 ≤ s from by omega) (by omega), w64_id (by omega) (by omega)]
  simp only [ek, en]
  rw [w64_id (show -9223372036854775808 ≤ j + 1 from by omega) (by omega)]
  rw [border_At_eq (by omega) hj (by constructor <;> omega), border_At_eq (by omega) (by constructor <;> omega) (by constructor <;> omega)]
  simp only [Option.bind_some]
  have a1 := @bat_in (p % 3) j (1 + s) (by omega) (by omega)
  have b1 := @bat_in (p % 3) (j + 1) (1 + s) (by omega) (by omega)
  have hk : p % 3 = 0 ∨ p % 3 = 1 ∨ p % 3 = 2 := by omega
  have st : (p % 3 = 2 → bat (p % 3) (j + 1) (1 + s) = bat (p % 3) j (1 + s) + 1 ∨ bat (p % 3) j (1 + s) = s ∧ bat (p % 3) (j + 1) (1 + s) = 0) ∧
      (p % 3 ≠ 2 → bat (p % 3) (j + 1) (1 + s) - bat (p % 3) j (1 + s) ≤ 1 ∧ bat (p % 3) j (1 + s) - bat (p % 3) (j + 1) (1 + s) ≤ 1) := by
    have r0 := Int.emod_nonneg j (show 2 * (1 + s) ≠ 0 from by omega)
    have r1 := Int.emod_lt_of_pos j (show 0 < 2 * (1 + s) from by omega)
    have s0 := Int.emod_nonneg j (show 1 + s ≠ 0 from by omega)
    have s1 := Int.emod_lt_of_pos j (show 0 < 1 + s from by omega)
    rcases hk with h | h | h
    · rw [h, bat0 (by omega) (by omega), bat0 (by omega) (by omega)]
      refine ⟨fun h => by omega, fun _ => ?_⟩
      unfold mx mn
      constructor <;> (repeat' split) <;> omega
    · rw [h, bat1 (by omega) (by omega), bat1 (by omega) (by omega), emod_step (show 0 < 2 * (1 + s) from by omega)]
      refine ⟨fun h => by omega, fun _ => ?_⟩
      generalize j % (2 * (1 + s)) = r at *
      unfold mn
      constructor <;> (repeat' split) <;> omega
    · rw [h, bat2 (by omega) (by omega), bat2 (by omega) (by omega), emod_step (show 0 < 1 + s from by omega)]
      refine ⟨fun _ => ?_, fun h => by omega⟩
      generalize j % (1 + s) = t at *
      split <;> omega
  generalize bat (p % 3) j (1 + s) = a at *
  generalize bat (p % 3) (j + 1) (1 + s) = b at *
  by_cases h2 : p % 3 = 2
  · rw [if_pos h2, w64_id (show -9223372036854775808 ≤ a + 1 from by omega) (by omega), w64_id (show -9223372036854775808 ≤ 1 + s - 1 from by omega) (by omega)]
    rcases st.1 h2 with h | ⟨h, g⟩
    · rw [if_pos h]
    · split
      · rfl
      · rw [if_pos (by omega), g]; rfl
  · rw [if_neg h2, w64_id (show -9223372036854775808 ≤ b - a from by omega) (by omega), w64_id (show -9223372036854775808 ≤ a - b from by omega) (by omega)]
    have := st.2 h2
    rw [if_pos this.1, decide_eq_true this.2]

end Go.Proofs.Ytofmgoihoaookaa.QA
