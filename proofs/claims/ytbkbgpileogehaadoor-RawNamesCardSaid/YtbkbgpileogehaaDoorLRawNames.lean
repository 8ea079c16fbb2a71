/- Each filter has its name, and no other number one: no condition. -/
import Derived.Test.YtbkbgpileogehaaDoorQAx8
import Derived.Test.YtbkbgpileogehaaDoorQAx11
import Derived.Test.YtbkbgpileogehaaDoorTCore
import Derived.Test.YtbkbgpileogehaaDoorTExt
namespace Go.Proofs.YtbkbgpileogehaaDoor.QA
open Go.RowKit Go.Proofs.YtbkbgpileogehaaDoorW.PrintWords Go.Proofs.YtbkbgpileogehaaDoorW.PrintLast Go.Proofs.YtbkbgpileogehaaDoorW.PrintMore Go.Proofs.YtbkbgpileogehaaDoor.T
set_option linter.unusedVariables false

theorem lives05 {k : Nat} (hk : 400 ≤ k) : smaltolaw05_Lives.f k = some true :=
  at_rounds (fun k => smaltolaw05_Lives.mono k) hk (show smaltolaw05_Lives.f 400 = some true by decide +kernel)

theorem RawNames_pure : smaltolaw05_RawNames.Pure := by
  intro f hf
  refine ⟨400, ?_⟩
  unfold smaltolaw05_RawNames.f
  rw [lives05 (by omega)]
  simp only [Option.bind_some, if_true]
  by_cases h0 : f ≥ 0
  · rw [if_pos h0]
    by_cases h2 : f ≤ 2
    · rw [if_pos h2]
      have : f = 0 ∨ f = 1 ∨ f = 2 := by omega
      rcases this with rfl | rfl | rfl <;> decide +kernel
    · rw [if_neg h2]
      have e : raw_Name.f f = some (⟨#[]⟩ : ByteArray) := by
        unfold raw_Name.f raw_Name_gen.f
        rw [if_neg (by omega), if_neg (by omega), if_neg (by omega), if_neg (by omega), if_pos (by omega)]
      rw [e]; decide +kernel
  · rw [if_neg h0]
    have e : raw_Name.f f = some (⟨#[]⟩ : ByteArray) := by
      unfold raw_Name.f raw_Name_gen.f
      rw [if_neg (by omega), if_neg (by omega), if_neg (by omega), if_pos (by omega)]
    rw [e]; decide +kernel

end Go.Proofs.YtbkbgpileogehaaDoor.QA
