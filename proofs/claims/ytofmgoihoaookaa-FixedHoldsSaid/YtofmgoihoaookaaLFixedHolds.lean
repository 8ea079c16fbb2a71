/- fixed.Add and fixed.Mul are the sum and the product, held, and fixed.Clamp holds a number within two: no condition. -/
import Derived.Test.YtofmgoihoaookaaQHx1
import Derived.Test.YtofmgoihoaookaaQHx3
import Derived.Test.YtofmgoihoaookaaQHx4
import Derived.Test.YtofmgoihoaookaaQHx5
import Derived.Test.YtofmgoihoaookaaTCore
namespace Go.Proofs.Ytofmgoihoaookaa.QH
open Go.RowKit Go.Proofs.YtofmgoihoaookaaW.PrintWords Go.Proofs.YtofmgoihoaookaaW.PrintLast Go.Proofs.YtofmgoihoaookaaW.PrintMore Go.Proofs.Ytofmgoihoaookaa.T
set_option linter.unusedVariables false

theorem fixed_size_eq {a : Int} (ha : I64 a) : fixed_size.f a = some (siz a) := by
  unfold fixed_size.f siz
  simp only [u64w]
  split
  · congr 1; omega
  · congr 1; omega

theorem fixed_hold_eq {k : Nat} (hk : 1 ≤ k) {m : Int} (h0 : 0 ≤ m) (h1 : m < 18446744073709551616) (b : Bool) : fixed_hold.f k m b = some (hold (sgn b m)) := by
  obtain ⟨k, rfl⟩ : ∃ n, k = n + 1 := ⟨k - 1, by omega⟩
  unfold fixed_hold.f fixed_hold.j0 sgn hold
  cases b
  · simp only [Bool.false_eq_true, if_false]
    rw [if_neg (show ¬ m < -9223372036854775808 from by omega)]
    split
    · rfl
    · congr 1; unfold wrap64; omega
  · simp only [if_true]
    by_cases h : m ≥ 9223372036854775808
    · rw [if_pos (decide_eq_true h)]
      split
      · rfl
      · rw [if_neg (by omega)]; congr 1; omega
    · rw [if_neg (by simpa using h), if_neg (by omega), if_neg (by omega)]
      congr 1; unfold wrap64; omega

theorem fixed_Clamp_eq (x a b : Int) : fixed_Clamp.f x a b = some (mx a (mn x b)) := rfl

theorem fixed_Add_eq {k : Nat} (hk : 1 ≤ k) {a b : Int} (ha : I64 a) (hb : I64 b) : fixed_Add.f k a b = some (hold (a + b)) := by
  obtain ⟨k, rfl⟩ : ∃ n, k = n + 1 := ⟨k - 1, by omega⟩
  unfold fixed_Add.f hold
  simp only [fixed_Add.j0]
  by_cases h : b > 0
  · rw [if_pos h]
    by_cases g : wrap64 (a + b) < a
    · rw [if_pos (decide_eq_true g)]; unfold wrap64 at g
      rw [if_neg (by omega), if_pos (by omega)]
    · rw [if_neg (by simpa using g)]; unfold wrap64 at g ⊢
      rw [if_neg (by omega), if_neg (by omega), if_neg (by omega)]; congr 1; omega
  · rw [if_neg h, if_neg (show ¬ (false = true) from by decide)]
    unfold wrap64
    by_cases c : b < 0
    · rw [if_pos c]
      by_cases g : (a + b + 9223372036854775808) % 18446744073709551616 - 9223372036854775808 > a
      · rw [if_pos g, if_pos (by omega)]
      · rw [if_neg g, if_neg (by omega), if_neg (by omega)]; congr 1; omega
    · rw [if_neg c, if_neg (by omega), if_neg (by omega)]; congr 1; omega

theorem bits_Mul64_eq {a b : Int} (ha : U64 a) (hb : U64 b) : bits_Mul64.f a b = some (a * b / 18446744073709551616, a * b % 18446744073709551616) := by
  unfold bits_Mul64.f
  rw [if_pos ⟨ha.1, ha.2, hb.1, hb.2⟩]

theorem fixed_Mul_eq {k : Nat} (hk : 1 ≤ k) {a b : Int} (ha : I64 a) (hb : I64 b) : fixed_Mul.f k a b = some (hold (a * b)) := by
  unfold fixed_Mul.f
  have ua := siz_u ha
  have ub := siz_u hb
  rw [fixed_size_eq ha, fixed_size_eq hb]
  simp only [Option.bind_some]
  rw [bits_Mul64_eq ⟨ua.1, by omega⟩ ⟨ub.1, by omega⟩]
  simp only [Option.bind_some]
  rw [← sgn_siz2 a b]
  generalize (decide (a < 0) != decide (b < 0)) = s
  have p0 := Int.mul_nonneg ua.1 ub.1
  generalize siz a * siz b = p at *
  split
  · rw [fixed_hold_eq hk (by omega) (by omega), show p % 18446744073709551616 = p from by omega]; rfl
  · rw [fixed_hold_eq hk (by omega) (by omega)]
    show some (hold (sgn s 18446744073709551615)) = _
    congr 1
    unfold sgn hold
    cases s
    · simp only [Bool.false_eq_true, if_false]; rw [if_neg (by omega), if_pos (by omega), if_neg (by omega), if_pos (by omega)]
    · simp only [if_true]; rw [if_pos (by omega), if_pos (by omega)]

theorem ref01_Size_eq {a : Int} (ha : I64 a) : smaltoref01_Size.f a = some (siz a) := by
  unfold smaltoref01_Size.f siz wrap64
  simp only [u64w]
  split
  · congr 1; omega
  · congr 1; omega

theorem ref01_Hold_eq {k : Nat} (hk : 1 ≤ k) {h l : Int} (hh : U64 h) (hl : U64 l) (b : Bool) : smaltoref01_Hold.f k h l b = some (hold (sgn b (h * 18446744073709551616 + l))) := by
  obtain ⟨k, rfl⟩ : ∃ n, k = n + 1 := ⟨k - 1, by omega⟩
  unfold smaltoref01_Hold.f sgn hold
  cases b
  · simp only [Bool.false_eq_true, if_false]
    rw [if_neg (show ¬ h * 18446744073709551616 + l < -9223372036854775808 from by omega)]
    by_cases c : h > 0
    · rw [if_pos c, if_pos (by omega)]
    · rw [if_neg c]
      by_cases d : l > 9223372036854775807
      · rw [if_pos d, if_pos (by omega)]
      · rw [if_neg d, if_neg (by omega)]; congr 1; unfold wrap64; omega
  · simp only [if_true]
    simp only [smaltoref01_Hold.j0]
    by_cases c : h > 0
    · rw [if_pos c, if_pos trivial, if_pos (by omega)]
    · rw [if_neg c]
      by_cases d : l > 9223372036854775807
      · rw [if_pos (decide_eq_true d)]
        by_cases e : l = 9223372036854775808
        · rw [if_neg (by omega), if_neg (by omega)]; congr 1; omega
        · rw [if_pos (by omega)]
      · rw [if_neg (by simpa using d), if_neg (by omega), if_neg (by omega)]; congr 1; unfold wrap64; omega

theorem ref01_Plus_eq {a b c d : Int} (_ha : U64 a) (hb : U64 b) (_hc : U64 c) (hd : U64 d) :
    smaltoref01_Plus.f a b c d = some ((a + c + (b + d) / 18446744073709551616) % 18446744073709551616, (b + d) % 18446744073709551616) := by
  unfold smaltoref01_Plus.f
  simp only [u64w]
  split
  · congr 2; omega
  · congr 2; omega

theorem ref01_Twice_eq {a b c : Int} (_ha : U64 a) (_hb : U64 b) (_hc : 0 ≤ c ∧ c ≤ 1) :
    smaltoref01_Twice.f a b c = some ((2 * a + b / 9223372036854775808) % 18446744073709551616, (2 * b + c) % 18446744073709551616) := by
  unfold smaltoref01_Twice.f
  simp only [u64w]
  congr 2 <;> omega

theorem ref01_Times_l0 {a b : Int} (ha : U64 a) (hb : U64 b) : ∀ (n : Nat) (k : Nat) (h l : Int), n ≤ 64 → n < k → U64 h → U64 l → h * 18446744073709551616 + l = a * (b / 2 ^ n) →
    smaltoref01_Times.l0 k a b ((n : Int) - 1) h l = some (a * b / 18446744073709551616, a * b % 18446744073709551616) := by
  intro n
  induction n with
  | zero =>
    intro k h l _ hk hh hl he
    obtain ⟨k, rfl⟩ : ∃ n, k = n + 1 := ⟨k - 1, by omega⟩
    unfold smaltoref01_Times.l0
    rw [if_neg (by omega)]
    rw [Int.pow_zero, Int.ediv_one] at he
    rw [← he]
    congr 2 <;> omega
  | succ n ih =>
    intro k h l hn hk hh hl he
    obtain ⟨k, rfl⟩ : ∃ n, k = n + 1 := ⟨k - 1, by omega⟩
    unfold smaltoref01_Times.l0
    rw [show ((n + 1 : Nat) : Int) - 1 = n from by omega, if_pos (by omega), ref01_Twice_eq hh hl (by omega)]
    simp only [Option.bind_some]
    rw [if_pos (by omega), u64and1]
    have hs : shr .u64 b n = b / 2 ^ n := by
      unfold shr
      simp only [IntKind.bits]
      rw [show ((n : Int)).toNat = n from by omega, Nat.min_eq_left (by omega)]
    rw [hs, w64_id (by omega) (by omega)]
    have hh2 := half_pow b n
    have hpn := pow_pos n
    have bl : b / 2 ^ n ≤ b := Int.ediv_le_self _ hb.1
    have b0 : 0 ≤ b / 2 ^ n := Int.ediv_nonneg hb.1 (by omega)
    have m1 : a * (b / 2 ^ n) ≤ 18446744073709551615 * 18446744073709551615 := Int.mul_le_mul (by omega) (by omega) b0 (by decide)
    by_cases hbit : b / 2 ^ n % 2 = 1
    · rw [if_pos hbit, ref01_Plus_eq (by omega) (by omega) (by omega) ha]
      simp only [Option.bind_some]
      have e1 : a * (b / 2 ^ n) = 2 * (a * (b / 2 ^ (n + 1))) + a := by
        rw [hh2, hbit, Int.mul_add, Int.mul_left_comm, Int.mul_one]
      rw [e1] at m1
      refine ih k _ _ (by omega) (by omega) (by omega) (by omega) ?_
      rw [e1]
      generalize a * (b / 2 ^ (n + 1)) = p at *
      omega
    · rw [if_neg hbit]
      have e1 : a * (b / 2 ^ n) = 2 * (a * (b / 2 ^ (n + 1))) := by
        rw [hh2, show b / 2 ^ n % 2 = 0 from by omega, Int.add_zero, Int.mul_left_comm]
      rw [e1] at m1
      refine ih k _ _ (by omega) (by omega) (by omega) (by omega) ?_
      rw [e1]
      generalize a * (b / 2 ^ (n + 1)) = p at *
      omega
theorem ref01_Times_eq {k : Nat} (hk : 65 ≤ k) {a b : Int} (ha : U64 a) (hb : U64 b) :
    smaltoref01_Times.f k a b = some (a * b / 18446744073709551616, a * b % 18446744073709551616) := by
  unfold smaltoref01_Times.f
  refine ref01_Times_l0 ha hb 64 k 0 0 (by omega) (by omega) (by omega) (by omega) ?_
  rw [Int.ediv_eq_zero_of_lt hb.1 (by have : (2 : Int) ^ 64 = 18446744073709551616 := by decide
                                      omega)]
  omega

theorem lives01 {k : Nat} (hk : 300 ≤ k) : smaltolaw01_Lives.f k = some true :=
  at_rounds (fun k => smaltolaw01_Lives.mono k) hk (show smaltolaw01_Lives.f 300 = some true by decide +kernel)

theorem FixedHolds_pure : smaltolaw01_FixedHolds.Pure := by
  intro a b x ha hb hx
  refine ⟨301, ?_⟩
  have ha := wf64 ha
  have hb := wf64 hb
  have ua := siz_u ha
  have ub := siz_u hb
  unfold smaltolaw01_FixedHolds.f
  rw [lives01 (by omega), ref01_Size_eq ha, ref01_Size_eq hb]
  simp only [Option.bind_some, if_true]
  rw [ref01_Times_eq (by omega) (by omega) (by omega), fixed_Mul_eq (by omega) ha hb, fixed_Mul_eq (by omega) hb ha]
  simp only [Option.bind_some]
  have p0 := Int.mul_nonneg ua.1 ub.1
  have p1 : siz a * siz b ≤ 9223372036854775808 * 9223372036854775808 := Int.mul_le_mul ua.2 ub.2 ub.1 (by decide)
  have e0 := sgn_siz2 a b
  generalize siz a * siz b = p at *
  rw [ref01_Hold_eq (by omega) (by omega) (by omega)]
  simp only [Option.bind_some]
  rw [show p / 18446744073709551616 * 18446744073709551616 + p % 18446744073709551616 = p from by omega, e0, Int.mul_comm b a]
  simp only [bne_self_eq_false, if_true]
  rw [smaltolaw01_FixedHolds.j0, if_neg (by decide), fixed_Add_eq (by omega) ha hb]
  simp only [Option.bind_some, fixed_Clamp_eq]
  have fin : (if b < a then some (mx a (mn x b) == a) else if mx a (mn x b) ≥ a then (if mx a (mn x b) ≤ b then (if x < a then (if mx a (mn x b) = a then some true else if x > b then (if mx a (mn x b) = b then some true else some (mx a (mn x b) == x)) else some (mx a (mn x b) == x)) else if x > b then (if mx a (mn x b) = b then some true else some (mx a (mn x b) == x)) else some (mx a (mn x b) == x)) else some false) else some false) = some true := by
    unfold mx mn
    by_cases c : b < a
    · rw [if_pos c]
      congr 1
      rw [beq_iff_eq]
      (repeat' split) <;> omega
    · rw [if_neg c]
      by_cases c1 : x < a
      · rw [if_neg (show ¬ b < x from by omega), if_neg (show ¬ a < x from by omega), if_pos (by omega), if_pos (by omega), if_pos c1, if_pos rfl]
      · by_cases c2 : b < x
        · rw [if_pos c2]
          by_cases c3 : a < b
          · rw [if_pos c3, if_pos (by omega), if_pos (by omega), if_neg c1, if_pos (show x > b from c2), if_pos rfl]
          · rw [if_neg c3, if_pos (by omega), if_pos (by omega), if_neg c1, if_pos (show x > b from c2), if_pos (by omega)]
        · rw [if_neg c2]
          by_cases c3 : a < x
          · rw [if_pos c3, if_pos (by omega), if_pos (by omega), if_neg c1, if_neg (show ¬ x > b from c2)]; simp
          · rw [if_neg c3, if_pos (by omega), if_pos (by omega), if_neg c1, if_neg (show ¬ x > b from c2)]
            congr 1; rw [beq_iff_eq]; omega
  by_cases hs : ((decide (a < 0)) != (decide (b < 0))) = true
  · rw [if_pos hs]
    have hd : (a < 0 ∧ ¬ b < 0) ∨ (¬ a < 0 ∧ b < 0) := by
      by_cases h1 : a < 0 <;> by_cases h2 : b < 0 <;> simp [h1, h2] at hs ⊢
    rw [hold_id (by omega) (by omega), w64_id (by omega) (by omega), if_pos rfl]
    exact fin
  · rw [if_neg hs]
    have hd : (a < 0 ∧ b < 0) ∨ (¬ a < 0 ∧ ¬ b < 0) := by
      by_cases h1 : a < 0 <;> by_cases h2 : b < 0 <;> simp [h1, h2] at hs ⊢
    rw [ref01_Size_eq ha, ref01_Size_eq hb]
    simp only [Option.bind_some]
    rw [ref01_Plus_eq (by omega) (by omega) (by omega) (by omega)]
    simp only [Option.bind_some]
    rw [ref01_Hold_eq (by omega) (by omega) (by omega)]
    simp only [Option.bind_some]
    have e : hold (a + b) = hold (sgn (decide (a < 0)) ((0 + 0 + (siz a + siz b) / 18446744073709551616) % 18446744073709551616 * 18446744073709551616 + (siz a + siz b) % 18446744073709551616)) := by
      congr 1
      unfold sgn siz
      rcases hd with ⟨h1, h2⟩ | ⟨h1, h2⟩
      · rw [if_pos h1, if_pos h2, if_pos (decide_eq_true h1)]; omega
      · rw [if_neg h1, if_neg h2, if_neg (show ¬ (decide (a < 0) = true) from by simpa using h1)]; omega
    rw [← e, if_pos rfl]
    exact fin

end Go.Proofs.Ytofmgoihoaookaa.QH
