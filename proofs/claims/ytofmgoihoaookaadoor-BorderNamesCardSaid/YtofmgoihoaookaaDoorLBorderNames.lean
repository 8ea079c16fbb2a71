/- Each policy has its name, and is found by it; there is no other one. -/
import Derived.Test.YtofmgoihoaookaaDoorQAx2
import Derived.Test.YtofmgoihoaookaaDoorQAx3
import Derived.Test.YtofmgoihoaookaaDoorQAx4
import Derived.Test.YtofmgoihoaookaaDoorTCore
import Derived.Test.YtofmgoihoaookaaDoorTExt
import Derived.Test.YtofmgoihoaookaaDoorTNamed
namespace Go.Proofs.YtofmgoihoaookaaDoor.QA
open Go.RowKit Go.Proofs.YtofmgoihoaookaaDoorW.PrintWords Go.Proofs.YtofmgoihoaookaaDoorW.PrintLast Go.Proofs.YtofmgoihoaookaaDoorW.PrintMore Go.Proofs.YtofmgoihoaookaaDoor.T
set_option linter.unusedVariables false
set_option linter.unusedSimpArgs false

theorem nm0 : namedF (⟨#[99, 108, 97, 109, 112]⟩ : ByteArray) = some (0, true) := by kernel_rfl
theorem nm1 : namedF (⟨#[109, 105, 114, 114, 111, 114]⟩ : ByteArray) = some (1, true) := by kernel_rfl
theorem nm2 : namedF (⟨#[119, 114, 97, 112]⟩ : ByteArray) = some (2, true) := by kernel_rfl
theorem lives07a : smaltolaw07_lives.f 300 = some true := by kernel_rfl
theorem nmNone {x : ByteArray} (h0 : ¬ (⟨#[99, 108, 97, 109, 112]⟩ : ByteArray).toList = x.toList) (h1 : ¬ (⟨#[109, 105, 114, 114, 111, 114]⟩ : ByteArray).toList = x.toList) (h2 : ¬ (⟨#[119, 114, 97, 112]⟩ : ByteArray).toList = x.toList) : namedF x = some (0, false) := by
  unfold namedF slices_Index_string_string.f
  have s0 : slices_Index_string_string.l0 10 polNames x (polNames.length : Int) 0 = some (-1) := by
    rw [slices_Index_string_string.l0, if_pos (by decide), if_pos (by decide), if_pos (by decide), if_neg (fun e => h0 e.symm)]
    rw [show wrap64 (0 + 1) = 1 from by kernel_rfl, slices_Index_string_string.l0, if_pos (by decide), if_pos (by decide), if_pos (by decide), if_neg (fun e => h1 e.symm)]
    rw [show wrap64 (1 + 1) = 2 from by kernel_rfl, slices_Index_string_string.l0, if_pos (by decide), if_pos (by decide), if_pos (by decide), if_neg (fun e => h2 e.symm)]
    rw [show wrap64 (2 + 1) = 3 from by kernel_rfl, slices_Index_string_string.l0, if_neg (by decide)]
  rw [s0, Option.bind_some]; rfl
theorem names_loop (x : ByteArray) : smaltolaw07_BorderNames.l0 100 x [(⟨#[99, 108, 97, 109, 112]⟩ : ByteArray), (⟨#[109, 105, 114, 114, 111, 114]⟩ : ByteArray), (⟨#[119, 114, 97, 112]⟩ : ByteArray)] 3 0 = some true := by
  have r0 : rdOf ByteArray.empty [(⟨#[99, 108, 97, 109, 112]⟩ : ByteArray), (⟨#[109, 105, 114, 114, 111, 114]⟩ : ByteArray), (⟨#[119, 114, 97, 112]⟩ : ByteArray)] 0 = (⟨#[99, 108, 97, 109, 112]⟩ : ByteArray) := rfl
  have r1 : rdOf ByteArray.empty [(⟨#[99, 108, 97, 109, 112]⟩ : ByteArray), (⟨#[109, 105, 114, 114, 111, 114]⟩ : ByteArray), (⟨#[119, 114, 97, 112]⟩ : ByteArray)] 1 = (⟨#[109, 105, 114, 114, 111, 114]⟩ : ByteArray) := rfl
  have r2 : rdOf ByteArray.empty [(⟨#[99, 108, 97, 109, 112]⟩ : ByteArray), (⟨#[109, 105, 114, 114, 111, 114]⟩ : ByteArray), (⟨#[119, 114, 97, 112]⟩ : ByteArray)] 2 = (⟨#[119, 114, 97, 112]⟩ : ByteArray) := rfl
  have e0 : border_Named.f (⟨#[99, 108, 97, 109, 112]⟩ : ByteArray) = some (0, true) := nm0
  have e1 : border_Named.f (⟨#[109, 105, 114, 114, 111, 114]⟩ : ByteArray) = some (1, true) := nm1
  have e2 : border_Named.f (⟨#[119, 114, 97, 112]⟩ : ByteArray) = some (2, true) := nm2
  rw [smaltolaw07_BorderNames.l0, if_pos (by decide), if_pos (by decide), if_pos (by decide), r0, e0, Option.bind_some, if_pos rfl, smaltolaw07_BorderNames.j3, if_neg (by decide)]
  by_cases h0 : (⟨#[99, 108, 97, 109, 112]⟩ : ByteArray).toList = x.toList
  · rw [if_pos h0]
  · rw [if_neg h0, show wrap64 (0 + 1) = 1 from by kernel_rfl, smaltolaw07_BorderNames.l0, if_pos (by decide), if_pos (by decide), if_pos (by decide), r1, e1, Option.bind_some, if_pos rfl, smaltolaw07_BorderNames.j3, if_neg (by decide)]
    by_cases h1 : (⟨#[109, 105, 114, 114, 111, 114]⟩ : ByteArray).toList = x.toList
    · rw [if_pos h1]
    · rw [if_neg h1, show wrap64 (1 + 1) = 2 from by kernel_rfl, smaltolaw07_BorderNames.l0, if_pos (by decide), if_pos (by decide), if_pos (by decide), r2, e2, Option.bind_some, if_pos rfl, smaltolaw07_BorderNames.j3, if_neg (by decide)]
      by_cases h2 : (⟨#[119, 114, 97, 112]⟩ : ByteArray).toList = x.toList
      · rw [if_pos h2]
      · have en : border_Named.f x = some (0, false) := nmNone h0 h1 h2
        rw [if_neg h2, show wrap64 (2 + 1) = 3 from by kernel_rfl, smaltolaw07_BorderNames.l0, if_neg (by decide), en]; rfl
theorem BorderNames_pure : smaltolaw07_BorderNames.Pure := by
  intro p x hp hx
  refine ⟨300, ?_⟩
  have loop : ∀ k, 100 ≤ k → smaltolaw07_BorderNames.l0 k x [(⟨#[99, 108, 97, 109, 112]⟩ : ByteArray), (⟨#[109, 105, 114, 114, 111, 114]⟩ : ByteArray), (⟨#[119, 114, 97, 112]⟩ : ByteArray)] 3 0 = some true := by
    intro k hk
    induction k with
    | zero => omega
    | succ k ih =>
      by_cases c : 100 ≤ k
      · exact (smaltolaw07_BorderNames.mono_l k).2.2.1 _ _ _ _ _ (ih c)
      · have : k + 1 = 100 := by omega
        rw [this]; exact names_loop x
  unfold smaltolaw07_BorderNames.f
  rw [lives07a, Option.bind_some, if_pos rfl, Option.bind_some]
  have hl : (([(⟨#[99, 108, 97, 109, 112]⟩ : ByteArray), (⟨#[109, 105, 114, 114, 111, 114]⟩ : ByteArray), (⟨#[119, 114, 97, 112]⟩ : ByteArray)] : List ByteArray).length : Int) = 3 := rfl
  by_cases c : 0 ≤ p ∧ p < 3
  · have hc : p = 0 ∨ p = 1 ∨ p = 2 := by omega
    clear c
    rcases hc with rfl | rfl | rfl
    · rw [if_pos (by decide), smaltolaw07_BorderNames.j0, if_pos (by decide), if_pos (by decide), if_pos (by decide), smaltolaw07_BorderNames.j1]
      show (some (⟨#[99, 108, 97, 109, 112]⟩ : ByteArray)).bind _ = _
      rw [Option.bind_some]
      exact (if_pos rfl).trans (by rw [hl]; exact loop _ (by decide))
    · rw [if_pos (by decide), smaltolaw07_BorderNames.j0, if_pos (by decide), if_pos (by decide), if_pos (by decide), smaltolaw07_BorderNames.j1]
      show (some (⟨#[109, 105, 114, 114, 111, 114]⟩ : ByteArray)).bind _ = _
      rw [Option.bind_some]
      exact (if_pos rfl).trans (by rw [hl]; exact loop _ (by decide))
    · rw [if_pos (by decide), smaltolaw07_BorderNames.j0, if_pos (by decide), if_pos (by decide), if_pos (by decide), smaltolaw07_BorderNames.j1]
      show (some (⟨#[119, 114, 97, 112]⟩ : ByteArray)).bind _ = _
      rw [Option.bind_some]
      exact (if_pos rfl).trans (by rw [hl]; exact loop _ (by decide))
  · have hn : border_Name.f p = some (⟨#[]⟩ : ByteArray) := by
      unfold border_Name.f border_Name_gen.f
      rw [if_neg (by omega), if_neg (by omega), if_neg (by omega)]
      by_cases c2 : p < 0
      · rw [if_pos c2]
      · rw [if_neg c2, if_pos (by omega)]
    have fin : smaltolaw07_BorderNames.j0 300 p x [(⟨#[99, 108, 97, 109, 112]⟩ : ByteArray), (⟨#[109, 105, 114, 114, 111, 114]⟩ : ByteArray), (⟨#[119, 114, 97, 112]⟩ : ByteArray)] (⟨#[]⟩ : ByteArray) false = some true := by
      rw [smaltolaw07_BorderNames.j0, if_neg (by decide), smaltolaw07_BorderNames.j1, hn, Option.bind_some]
      exact (if_pos rfl).trans (by rw [hl]; exact loop _ (by decide))
    by_cases c1 : p ≥ 0
    · rw [if_pos c1, decide_eq_false (by omega)]; exact fin
    · rw [if_neg c1]; exact fin

end Go.Proofs.YtofmgoihoaookaaDoor.QA
