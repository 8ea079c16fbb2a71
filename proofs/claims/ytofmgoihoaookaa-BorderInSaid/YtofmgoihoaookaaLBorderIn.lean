/- Of border.At and border.Span: what they answer is the reference's, and the laws of chapter 7 hold, for every input. -/
import Derived.Test.YtofmgoihoaookaaQAx5
import Derived.Test.YtofmgoihoaookaaL07
namespace Go.Proofs.Ytofmgoihoaookaa.QA
open Go.RowKit Go.Proofs.YtofmgoihoaookaaW.PrintWords Go.Proofs.YtofmgoihoaookaaW.PrintLast Go.Proofs.YtofmgoihoaookaaW.PrintMore Go.Proofs.Ytofmgoihoaookaa.T
set_option linter.unusedVariables false

theorem BorderIn_pure : smaltolaw07_BorderIn.Pure := by
  intro p j s hp hj hs
  refine ⟨302, ?_⟩
  have hp := wfu8 hp
  have hj := wf64 hj
  have hs := wfu16 hs
  unfold smaltolaw07_BorderIn.f
  have ek : wrap64 (Int.tmod p 3) = p % 3 := by rw [Int.tmod_eq_emod_of_nonneg hp.1, w64_id (by omega) (by omega)]
  have en : wrap64 (1 + wrap64 s) = 1 + s := by rw [w64_id (show -9223372036854775808 ≤ s from by omega) (by omega), w64_id (by omega) (by omega)]
  simp only [ek, en]
  rw [lives07 (by omega), border_At_eq (by omega) hj (by constructor <;> omega)]
  simp only [Option.bind_some, if_true]
  have a1 := @bat_in (p % 3) j (1 + s) (by omega) (by omega)
  have hk : p % 3 = 0 ∨ p % 3 = 1 ∨ p % 3 = 2 := by omega
  rw [if_neg (by omega), if_neg (by omega)]
  have same : 0 ≤ j → j < 1 + s → bat (p % 3) j (1 + s) = j := by
    intro h0 h1
    rcases hk with h | h | h
    · rw [h, bat0 (by omega) (by omega)]; unfold mx mn; (repeat' split) <;> omega
    · rw [h, bat1 (by omega) (by omega), emod_self h0 (show j < 2 * (1 + s) from by omega)]; unfold mn; (repeat' split) <;> omega
    · rw [h, bat2 (by omega) (by omega), emod_self h0 h1]
  have fin : smaltolaw07_BorderIn.j0 302 j (1 + s) (p % 3) (bat (p % 3) j (1 + s)) false = some true := by
    simp only [smaltolaw07_BorderIn.j0]
    rw [if_neg (show ¬ (false = true) from by decide)]
    by_cases c1 : j > 4611686018427387904
    · rw [if_pos c1]; simp [smaltolaw07_BorderIn.j1]
    rw [if_neg c1]
    by_cases c2 : j < -4611686018427387904
    · rw [decide_eq_true c2]; simp [smaltolaw07_BorderIn.j1]
    rw [decide_eq_false c2]
    simp only [smaltolaw07_BorderIn.j1]
    rw [if_neg (show ¬ (false = true) from by decide)]
    rcases hk with h | h | h
    · rw [if_neg (by omega), if_neg (by omega)]
      split
      · rfl
      · rw [w64_id (by omega) (by omega), h]
        have : bat 0 j (1 + s) = 1 + s - 1 := by
          rw [bat0 (by omega) (by omega)]; unfold mx mn; (repeat' split) <;> omega
        rw [this]; simp
    · rw [if_neg (by omega), if_pos h, w64_id (show -9223372036854775808 ≤ 2 * (1 + s) from by omega) (by omega), w64_id (show -9223372036854775808 ≤ j + 2 * (1 + s) from by omega) (by omega), w64_id (show -9223372036854775808 ≤ -1 - j from by omega) (by omega)]
      rw [border_At_eq (by omega) (by constructor <;> omega) (by constructor <;> omega), border_At_eq (by omega) (by constructor <;> omega) (by constructor <;> omega)]
      simp only [Option.bind_some]
      have e1 : bat 1 (j + 2 * (1 + s)) (1 + s) = bat 1 j (1 + s) := by
        rw [bat1 (by omega) (by omega), bat1 (by omega) (by omega), emod_add_self]
      have e2 : bat 1 (-1 - j) (1 + s) = bat 1 j (1 + s) := by
        rw [bat1 (by omega) (by omega), bat1 (by omega) (by omega), emod_neg1 (by omega)]
        unfold mn
        have r0 := Int.emod_nonneg j (show 2 * (1 + s) ≠ 0 from by omega)
        generalize j % (2 * (1 + s)) = r at *
        (repeat' split) <;> omega
      rw [h, e1, e2]; simp
    · rw [if_pos h, w64_id (show -9223372036854775808 ≤ j + (1 + s) from by omega) (by omega), w64_id (show -9223372036854775808 ≤ j + 1 from by omega) (by omega)]
      rw [border_At_eq (by omega) (by constructor <;> omega) (by constructor <;> omega), border_At_eq (by omega) (by constructor <;> omega) (by constructor <;> omega)]
      simp only [Option.bind_some]
      rw [h] at a1 ⊢
      have e1 : bat 2 (j + (1 + s)) (1 + s) = bat 2 j (1 + s) := by
        rw [bat2 (by omega) (by omega), bat2 (by omega) (by omega), emod_add_self]
      have e2 : bat 2 (j + 1) (1 + s) = (bat 2 j (1 + s) + 1) % (1 + s) := by
        rw [bat2 (by omega) (by omega), bat2 (by omega) (by omega), Int.emod_add_emod]
      rw [e1, if_pos rfl, if_neg (by omega), w64_id (by omega) (by omega), Int.tmod_eq_emod_of_nonneg (by omega), e2]
      simp
  by_cases h0 : j ≥ 0
  · rw [if_pos h0]
    by_cases h1 : j < 1 + s
    · rw [if_pos h1]
      have e : (bat (p % 3) j (1 + s) != j) = false := by rw [same h0 h1]; simp
      rw [e]; exact fin
    · rw [if_neg h1]; exact fin
  · rw [if_neg h0]; exact fin

end Go.Proofs.Ytofmgoihoaookaa.QA
