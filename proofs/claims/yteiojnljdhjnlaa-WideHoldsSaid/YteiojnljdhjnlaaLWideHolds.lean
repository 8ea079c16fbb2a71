/- wide.Of and wide.Hold: a number is held as itself, a long one that is none at its end: no condition. -/
import Derived.Test.YteiojnljdhjnlaaQBx6
import Derived.Test.YteiojnljdhjnlaaQBx7
import Derived.Test.YteiojnljdhjnlaaQBx8
import Derived.Test.YteiojnljdhjnlaaQBx9
import Derived.Test.YteiojnljdhjnlaaTCore
import Derived.Test.YteiojnljdhjnlaaTExt
namespace Go.Proofs.Yteiojnljdhjnlaa.QB
open Go.RowKit Go.Proofs.YteiojnljdhjnlaaW.PrintWords Go.Proofs.YteiojnljdhjnlaaW.PrintLast Go.Proofs.YteiojnljdhjnlaaW.PrintMore Go.Proofs.Yteiojnljdhjnlaa.T
set_option linter.unusedVariables false

theorem ref01_Size_eq {a : Int} (ha : I64 a) : smaltoref01_Size.f a = some (siz a) := by
  unfold smaltoref01_Size.f siz wrap64
  simp only [u64w]
  split
  · congr 1; omega
  · congr 1; omega

theorem ref01_Plus_eq {a b c d : Int} (_ha : U64 a) (hb : U64 b) (_hc : U64 c) (hd : U64 d) :
    smaltoref01_Plus.f a b c d = some ((a + c + (b + d) / 18446744073709551616) % 18446744073709551616, (b + d) % 18446744073709551616) := by
  unfold smaltoref01_Plus.f
  simp only [u64w]
  split
  · congr 2; omega
  · congr 2; omega

theorem wide_Less_eq {a b c d : Int} (hb : U64 b) (hd : U64 d) : wide_Less.f a b c d = some (decide (a * 18446744073709551616 + b < c * 18446744073709551616 + d)) := by
  unfold wide_Less.f
  by_cases h : a < c
  · rw [if_pos h]; congr 1; exact (decide_eq_true (by omega)).symm
  · rw [if_neg h]
    by_cases g : a = c
    · rw [if_pos g]; congr 1; exact decide_eq_decide.2 (by omega)
    · rw [if_neg g]; congr 1; exact (decide_eq_false (by omega)).symm

theorem wide_Hold_eq {h l : Int} (hh : I64 h) (hl : U64 l) : wide_Hold.f h l = some (hold (h * 18446744073709551616 + l)) := by
  unfold wide_Hold.f wide_Of.f
  simp only [Option.bind_some, u64w]
  by_cases c : h = wrap64 l / 9223372036854775808
  · have e : wrap64 l % 18446744073709551616 = l := by unfold wrap64; omega
    rw [if_pos (by rw [e, ← c]; simp)]
    congr 1
    unfold wrap64 at *
    rw [hold_id (by omega) (by omega)]; omega
  · rw [if_neg (by simp [c])]
    unfold hold
    unfold wrap64 at c
    by_cases g : h < 0
    · rw [if_pos g, if_pos (by omega)]
    · rw [if_neg g, if_neg (by omega), if_pos (by omega)]

theorem ref02_Negative_eq {h l : Int} (hh : U64 h) (hl : U64 l) :
    smaltoref02_Negative.f h l = some ((18446744073709551615 - h + (18446744073709551616 - l) / 18446744073709551616) % 18446744073709551616, (18446744073709551616 - l) % 18446744073709551616) := by
  unfold smaltoref02_Negative.f
  simp only [u64w]
  rw [ref01_Plus_eq (by omega) (by omega) (by omega) (by omega)]
  simp only [Option.bind_some]
  congr 2
  · omega
  · omega

theorem lives02 {k : Nat} (hk : 300 ≤ k) : smaltolaw02_lives.f k = some true :=
  at_rounds (fun k => smaltolaw02_lives.mono k) hk (show smaltolaw02_lives.f 300 = some true by decide +kernel)

theorem WideHolds_all {k : Nat} (hk : 400 ≤ k) {x a b : Int} (hx : I64 x) (ha : I64 a) (hb : U64 b) : smaltolaw02_WideHolds.f k x a b = some true := by
  obtain ⟨k, rfl⟩ : ∃ m, k = m + 1 := ⟨k - 1, by omega⟩
  have eo : ∀ y, wide_Of.f y = some (y / 9223372036854775808, y % 18446744073709551616) := by intro y; unfold wide_Of.f; rw [u64w]
  unfold smaltolaw02_WideHolds.f smaltolaw02_big.f smaltoref02_Bits.f
  rw [lives02 (by omega)]
  simp only [Option.bind_some, if_true, eo, u64w]
  rw [wide_Hold_eq (by omega) (by omega), show x / 9223372036854775808 * 18446744073709551616 + x % 18446744073709551616 = x from by omega, hold_id hx.1 hx.2, ref01_Size_eq hx]
  simp only [Option.bind_some, if_true]
  have hs : 0 ≤ siz x ∧ siz x ≤ 9223372036854775808 := siz_u hx
  have e1 : (if x < 0 then ((smaltoref02_Negative.f 0 (siz x)).bind fun bt163 => (some (bt163.1, bt163.2))) else (some (0, siz x))) = some (x / 9223372036854775808 % 18446744073709551616, x % 18446744073709551616) := by
    by_cases c : x < 0
    · rw [if_pos c, ref02_Negative_eq (by omega) (by omega)]
      simp only [Option.bind_some]
      have : siz x = -x := by unfold siz; rw [if_pos c]
      rw [this]; congr 2 <;> omega
    · rw [if_neg c]
      have : siz x = x := by unfold siz; rw [if_neg c]
      rw [this]; congr 2 <;> omega
  rw [e1]
  simp only [Option.bind_some, beq_self_eq_true, Bool.not_true, Bool.or_false]
  rw [smaltolaw02_WideHolds.j0, if_neg (by decide), wide_Hold_eq ha hb]
  simp only [Option.bind_some, eo]
  simp only [wide_Less_eq hb (show U64 (hold (a * 18446744073709551616 + b) % 18446744073709551616) from by omega), wide_Less_eq (show U64 (hold (a * 18446744073709551616 + b) % 18446744073709551616) from by omega) hb, Option.bind_some]
  have hh := hold_i (a * 18446744073709551616 + b)
  have e3 : hold (a * 18446744073709551616 + b) / 9223372036854775808 * 18446744073709551616 + hold (a * 18446744073709551616 + b) % 18446744073709551616 = hold (a * 18446744073709551616 + b) := by omega
  rw [e3]
  by_cases c0 : (hold (a * 18446744073709551616 + b) / 9223372036854775808 == a && (hold (a * 18446744073709551616 + b) % 18446744073709551616 == b)) = true
  · rw [if_pos c0]
  rw [if_neg c0]
  have c1 : ¬ (-9223372036854775808 ≤ a * 18446744073709551616 + b ∧ a * 18446744073709551616 + b ≤ 9223372036854775807) := by
    intro h
    apply c0
    rw [hold_id h.1 h.2]
    simp only [Bool.and_eq_true, beq_iff_eq]
    omega
  by_cases c2 : a < 0
  · have e : hold (a * 18446744073709551616 + b) = -9223372036854775808 := by unfold hold; rw [if_pos (by omega)]
    rw [if_pos c2, e, if_pos rfl, if_pos (decide_eq_true (by omega))]
  · have e : hold (a * 18446744073709551616 + b) = 9223372036854775807 := by unfold hold; rw [if_neg (by omega), if_pos (by omega)]
    rw [if_neg c2, if_pos (by omega), e, if_pos rfl]
    congr 1; exact decide_eq_true (by omega)

end Go.Proofs.Yteiojnljdhjnlaa.QB
