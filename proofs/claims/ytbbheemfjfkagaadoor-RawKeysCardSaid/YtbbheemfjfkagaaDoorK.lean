/- What a table is in memory, and what its functions come to. -/
import Derived.Test.YtbbheemfjfkagaaDoorQAx1
import Derived.Test.YtbbheemfjfkagaaDoorQAx2
import Derived.Test.YtbbheemfjfkagaaDoorQAx3
import Derived.Test.YtbbheemfjfkagaaDoorQAx8
import Derived.Test.YtbbheemfjfkagaaDoorQAx9
import Derived.Test.YtbbheemfjfkagaaDoorQAx10
import Derived.Test.YtbbheemfjfkagaaDoorQAx11
import Derived.Test.YtbbheemfjfkagaaDoorQAx12
import Derived.Test.YtbbheemfjfkagaaDoorQAx13
import Derived.Test.YtbbheemfjfkagaaDoorTCore
import Derived.Test.YtbbheemfjfkagaaDoorTExt
import Derived.Test.YtbbheemfjfkagaaDoorFl
import Derived.Laws.BitsAllLaws
import Derived.Laws.FloatArith
import Derived.Laws.Cover2
import Derived.Laws.Externs
namespace Go.Proofs.YtbbheemfjfkagaaDoor.QA
open Go.RowKit Go.Proofs.YtbbheemfjfkagaaDoorW.PrintWords Go.Proofs.YtbbheemfjfkagaaDoorW.PrintLast Go.Proofs.YtbbheemfjfkagaaDoorW.PrintMore Go.Proofs.YtbbheemfjfkagaaDoor.T
set_option linter.unusedVariables false
set_option linter.unusedSimpArgs false

theorem bits_Mul64_eq {a b : Int} (ha : U64 a) (hb : U64 b) : bits_Mul64.f a b = some (a * b / 18446744073709551616, a * b % 18446744073709551616) := by
  unfold bits_Mul64.f
  rw [if_pos ⟨ha.1, ha.2, hb.1, hb.2⟩]

theorem ref01_Size_eq {a : Int} (ha : I64 a) : smaltoref01_Size.f a = some (siz a) := by
  unfold smaltoref01_Size.f siz wrap64
  simp only [u64w]
  split
  · congr 1; omega
  · congr 1; omega

theorem ref01_Hold_eq {k : Nat} (hk : 1 ≤ k) {h l : Int} (hh : U64 h) (hl : U64 l) (b : Bool) : smaltoref01_Hold.f k h l b = some (hold (sgn b (h * 18446744073709551616 + l))) := by
  obtain ⟨k, rfl⟩ : ∃ n, k = n + 1 := ⟨k - 1, by omega⟩
  unfold smaltoref01_Hold.f sgn hold
  cases b
  · simp only [Bool.false_eq_true, if_false]
    rw [if_neg (show ¬ h * 18446744073709551616 + l < -9223372036854775808 from by omega)]
    by_cases c : h > 0
    · rw [if_pos c, if_pos (by omega)]
    · rw [if_neg c]
      by_cases d : l > 9223372036854775807
      · rw [if_pos d, if_pos (by omega)]
      · rw [if_neg d, if_neg (by omega)]; congr 1; unfold wrap64; omega
  · simp only [if_true]
    simp only [smaltoref01_Hold.j0]
    by_cases c : h > 0
    · rw [if_pos c, if_pos trivial, if_pos (by omega)]
    · rw [if_neg c]
      by_cases d : l > 9223372036854775807
      · rw [if_pos (decide_eq_true d)]
        by_cases e : l = 9223372036854775808
        · rw [if_neg (by omega), if_neg (by omega)]; congr 1; omega
        · rw [if_pos (by omega)]
      · rw [if_neg (by simpa using d), if_neg (by omega), if_neg (by omega)]; congr 1; unfold wrap64; omega

theorem ref01_Plus_eq {a b c d : Int} (_ha : U64 a) (hb : U64 b) (_hc : U64 c) (hd : U64 d) :
    smaltoref01_Plus.f a b c d = some ((a + c + (b + d) / 18446744073709551616) % 18446744073709551616, (b + d) % 18446744073709551616) := by
  unfold smaltoref01_Plus.f
  simp only [u64w]
  split
  · congr 2; omega
  · congr 2; omega

theorem ref01_Minus_eq {a b c d : Int} (_ha : U64 a) (hb : U64 b) (_hc : U64 c) (hd : U64 d) :
    smaltoref01_Minus.f a b c d = some ((a - c + (b - d) / 18446744073709551616) % 18446744073709551616, (b - d) % 18446744073709551616) := by
  unfold smaltoref01_Minus.f
  simp only [u64w]
  split
  · congr 2; omega
  · congr 2; omega

theorem ref01_Twice_eq {a b c : Int} (_ha : U64 a) (_hb : U64 b) (_hc : 0 ≤ c ∧ c ≤ 1) :
    smaltoref01_Twice.f a b c = some ((2 * a + b / 9223372036854775808) % 18446744073709551616, (2 * b + c) % 18446744073709551616) := by
  unfold smaltoref01_Twice.f
  simp only [u64w]
  congr 2 <;> omega

theorem ref01_Less_eq {a b c d : Int} (_ha : U64 a) (hb : U64 b) (_hc : U64 c) (hd : U64 d) :
    smaltoref01_Less.f a b c d = some (decide (a * 18446744073709551616 + b < c * 18446744073709551616 + d)) := by
  unfold smaltoref01_Less.f
  split
  · congr 1; exact decide_eq_decide.2 (by omega)
  · congr 1; exact decide_eq_decide.2 (by omega)

theorem ref01_Bit_eq {a b : Int} (ha : U64 a) (hb : U64 b) (i : Nat) (hi : i < 128) :
    smaltoref01_Bit.f a b i = some ((a * 18446744073709551616 + b) / 2 ^ i % 2) := by
  have e64 : (18446744073709551616 : Int) = 2 ^ 64 := by decide
  unfold smaltoref01_Bit.f
  by_cases h : (i : Int) ≥ 64
  · rw [if_pos h, w64_id (show -9223372036854775808 ≤ (i : Int) - 64 from by omega) (by omega), if_pos (by omega), u64and1]
    unfold shr
    simp only [IntKind.bits]
    rw [show ((i : Int) - 64).toNat = i - 64 from by omega, Nat.min_eq_left (by omega)]
    congr 2
    have : (2 : Int) ^ i = 2 ^ 64 * 2 ^ (i - 64) := by rw [← Int.pow_add]; congr 1; omega
    rw [this, ← Int.ediv_ediv_of_nonneg (by decide), ← e64]
    congr 1; omega
  · rw [if_neg h, if_pos (by omega), u64and1]
    unfold shr
    simp only [IntKind.bits]
    rw [show ((i : Int)).toNat = i from by omega, Nat.min_eq_left (by omega)]
    congr 1
    have : (18446744073709551616 : Int) = 2 ^ i * (2 * 2 ^ (63 - i)) := by
      rw [e64, ← pow_succ2, ← Int.pow_add]; congr 1; omega
    rw [this, Int.mul_left_comm, Int.add_comm, Int.add_mul_ediv_left _ _ (by have := pow_pos i; omega), Int.mul_left_comm, Int.add_comm, Int.mul_add_emod_self_left]

theorem ref01_Times_l0 {a b : Int} (ha : U64 a) (hb : U64 b) : ∀ (n : Nat) (k : Nat) (h l : Int), n ≤ 64 → n < k → U64 h → U64 l → h * 18446744073709551616 + l = a * (b / 2 ^ n) →
    smaltoref01_Times.l0 k a b ((n : Int) - 1) h l = some (a * b / 18446744073709551616, a * b % 18446744073709551616) := by
  intro n
  induction n with
  | zero =>
    intro k h l _ hk hh hl he
    obtain ⟨k, rfl⟩ : ∃ n, k = n + 1 := ⟨k - 1, by omega⟩
    unfold smaltoref01_Times.l0
    rw [if_neg (by omega)]
    rw [Int.pow_zero, Int.ediv_one] at he
    rw [← he]
    congr 2 <;> omega
  | succ n ih =>
    intro k h l hn hk hh hl he
    obtain ⟨k, rfl⟩ : ∃ n, k = n + 1 := ⟨k - 1, by omega⟩
    unfold smaltoref01_Times.l0
    rw [show ((n + 1 : Nat) : Int) - 1 = n from by omega, if_pos (by omega), ref01_Twice_eq hh hl (by omega)]
    simp only [Option.bind_some]
    rw [if_pos (by omega), u64and1]
    have hs : shr .u64 b n = b / 2 ^ n := by
      unfold shr
      simp only [IntKind.bits]
      rw [show ((n : Int)).toNat = n from by omega, Nat.min_eq_left (by omega)]
    rw [hs, w64_id (by omega) (by omega)]
    have hh2 := half_pow b n
    have hpn := pow_pos n
    have bl : b / 2 ^ n ≤ b := Int.ediv_le_self _ hb.1
    have b0 : 0 ≤ b / 2 ^ n := Int.ediv_nonneg hb.1 (by omega)
    have m1 : a * (b / 2 ^ n) ≤ 18446744073709551615 * 18446744073709551615 := Int.mul_le_mul (by omega) (by omega) b0 (by decide)
    by_cases hbit : b / 2 ^ n % 2 = 1
    · rw [if_pos hbit, ref01_Plus_eq (by omega) (by omega) (by omega) ha]
      simp only [Option.bind_some]
      have e1 : a * (b / 2 ^ n) = 2 * (a * (b / 2 ^ (n + 1))) + a := by
        rw [hh2, hbit, Int.mul_add, Int.mul_left_comm, Int.mul_one]
      rw [e1] at m1
      refine ih k _ _ (by omega) (by omega) (by omega) (by omega) ?_
      rw [e1]
      generalize a * (b / 2 ^ (n + 1)) = p at *
      omega
    · rw [if_neg hbit]
      have e1 : a * (b / 2 ^ n) = 2 * (a * (b / 2 ^ (n + 1))) := by
        rw [hh2, show b / 2 ^ n % 2 = 0 from by omega, Int.add_zero, Int.mul_left_comm]
      rw [e1] at m1
      refine ih k _ _ (by omega) (by omega) (by omega) (by omega) ?_
      rw [e1]
      generalize a * (b / 2 ^ (n + 1)) = p at *
      omega
theorem ref01_Times_eq {k : Nat} (hk : 65 ≤ k) {a b : Int} (ha : U64 a) (hb : U64 b) :
    smaltoref01_Times.f k a b = some (a * b / 18446744073709551616, a * b % 18446744073709551616) := by
  unfold smaltoref01_Times.f
  refine ref01_Times_l0 ha hb 64 k 0 0 (by omega) (by omega) (by omega) (by omega) ?_
  rw [Int.ediv_eq_zero_of_lt hb.1 (by have : (2 : Int) ^ 64 = 18446744073709551616 := by decide
                                      omega)]
  omega

theorem ref01_Over_l0 {d ah al : Int} (hd : 0 < d ∧ d < 18446744073709551616) (hah : U64 ah) (hal : U64 al) : ∀ (n : Nat) (k : Nat) (qh ql rh rl : Int), n ≤ 128 → n < k → U64 qh → U64 ql → U64 rh → U64 rl →
    rh * 18446744073709551616 + rl < d → (qh * 18446744073709551616 + ql) * d + (rh * 18446744073709551616 + rl) = (ah * 18446744073709551616 + al) / 2 ^ n →
    smaltoref01_Over.l0 k d ((n : Int) - 1) ah al qh ql rh rl =
      some ((ah * 18446744073709551616 + al) / d / 18446744073709551616, (ah * 18446744073709551616 + al) / d % 18446744073709551616, (ah * 18446744073709551616 + al) % d) := by
  intro n
  generalize hA : ah * 18446744073709551616 + al = A
  induction n with
  | zero =>
    intro k qh ql rh rl _ hk hqh hql hrh hrl hr he
    obtain ⟨k, rfl⟩ : ∃ n, k = n + 1 := ⟨k - 1, by omega⟩
    unfold smaltoref01_Over.l0
    rw [if_neg (by omega)]
    rw [Int.pow_zero, Int.ediv_one] at he
    obtain ⟨u1, u2⟩ := div_unique he (by omega) hr
    rw [u1, u2]
    congr 2
    · omega
    · congr 1 <;> omega
  | succ n ih =>
    intro k qh ql rh rl hn hk hqh hql hrh hrl hr he
    obtain ⟨k, rfl⟩ : ∃ n, k = n + 1 := ⟨k - 1, by omega⟩
    unfold smaltoref01_Over.l0
    rw [show ((n + 1 : Nat) : Int) - 1 = n from by omega, if_pos (by omega), ref01_Bit_eq hah hal n (by omega), hA]
    simp only [Option.bind_some]
    have hh2 := half_pow A n
    have hpn := pow_pos n
    have A0 : 0 ≤ A := by omega
    have al1 : A / 2 ^ n ≤ A := Int.ediv_le_self _ A0
    generalize hbit : A / 2 ^ n % 2 = bit at *
    have hb : 0 ≤ bit ∧ bit ≤ 1 := by omega
    rw [ref01_Twice_eq hrh hrl hb, ref01_Twice_eq hqh hql (by omega)]
    simp only [Option.bind_some]
    rw [ref01_Less_eq (by omega) (by omega) (by omega) (by omega)]
    simp only [Option.bind_some]
    rw [w64_id (by omega) (by omega)]
    have q0 : 0 ≤ qh * 18446744073709551616 + ql := by omega
    have qd : qh * 18446744073709551616 + ql ≤ (qh * 18446744073709551616 + ql) * d := by
      calc qh * 18446744073709551616 + ql = (qh * 18446744073709551616 + ql) * 1 := by rw [Int.mul_one]
        _ ≤ _ := Int.mul_le_mul_of_nonneg_left (by omega) q0
    generalize hQ : qh * 18446744073709551616 + ql = Q at *
    have e2 : (2 * Q) * d = 2 * (Q * d) := Int.mul_assoc _ _ _
    have e3 : (2 * Q + 1) * d = 2 * (Q * d) + d := by rw [Int.add_mul, e2, Int.one_mul]
    generalize hP : Q * d = P at *
    by_cases hl : 2 * (rh * 18446744073709551616 + rl) + bit < d
    · rw [if_pos (decide_eq_true (by omega))]
      refine ih k _ _ _ _ (by omega) (by omega) (by omega) (by omega) (by omega) (by omega) (by omega) ?_
      rw [show (2 * qh + ql / 9223372036854775808) % 18446744073709551616 * 18446744073709551616 + (2 * ql + 0) % 18446744073709551616 = 2 * Q from by omega, e2]
      omega
    · rw [if_neg (by simp; omega), ref01_Minus_eq (by omega) (by omega) (by omega) (by omega)]
      simp only [Option.bind_some, u64w]
      refine ih k _ _ _ _ (by omega) (by omega) (by omega) (by omega) (by omega) (by omega) (by omega) ?_
      rw [show (2 * qh + ql / 9223372036854775808) % 18446744073709551616 * 18446744073709551616 + ((2 * ql + 0) % 18446744073709551616 + 1) % 18446744073709551616 = 2 * Q + 1 from by omega, e3]
      omega
theorem ref01_Over_eq {k : Nat} (hk : 129 ≤ k) {d ah al : Int} (hd : 0 < d ∧ d < 18446744073709551616) (hah : U64 ah) (hal : U64 al) :
    smaltoref01_Over.f k ah al d = some ((ah * 18446744073709551616 + al) / d / 18446744073709551616, (ah * 18446744073709551616 + al) / d % 18446744073709551616, (ah * 18446744073709551616 + al) % d) := by
  unfold smaltoref01_Over.f
  rw [if_neg (by omega)]
  refine ref01_Over_l0 hd hah hal 128 k 0 0 0 0 (by omega) (by omega) (by omega) (by omega) (by omega) (by omega) (by omega) ?_
  rw [Int.ediv_eq_zero_of_lt (by omega) (by have : (2 : Int) ^ 128 = 340282366920938463463374607431768211456 := by decide
                                            omega)]
  omega

theorem ref01_Nearest_eq {k : Nat} (hk : 129 ≤ k) {d ah al : Int} (hd : 0 < d ∧ d < 18446744073709551616) (hah : U64 ah) (hal : U64 al) (s : Bool) :
    smaltoref01_Nearest.f k ah al d s = some (hold (rdiv (sgn s (ah * 18446744073709551616 + al)) d)) := by
  unfold smaltoref01_Nearest.f
  rw [ref01_Over_eq hk hd hah hal]
  simp only [Option.bind_some]
  generalize hA : ah * 18446744073709551616 + al = A
  have A0 : 0 ≤ A := by omega
  have r0 := Int.emod_nonneg A (show d ≠ 0 from by omega)
  have r1 := Int.emod_lt_of_pos A hd.1
  have q0 : 0 ≤ A / d := Int.ediv_nonneg A0 (by omega)
  have q1 : A / d ≤ A := Int.ediv_le_self _ A0
  have q2 : 2 ≤ d → 2 * (A / d) ≤ A := by
    intro h2
    have := Int.mul_ediv_add_emod A d
    have h3 : 2 * (A / d) ≤ d * (A / d) := Int.mul_le_mul_of_nonneg_right h2 q0
    omega
  rw [rdiv_sgn s A0 hd.1]
  generalize A / d = q at *
  generalize A % d = r at *
  rw [ref01_Twice_eq (by omega) (by omega) (by omega)]
  simp only [Option.bind_some]
  rw [ref01_Less_eq (by omega) (by omega) (by omega) (by omega), ref01_Less_eq (by omega) (by omega) (by omega) (by omega)]
  simp only [Option.bind_some]
  obtain ⟨k, rfl⟩ : ∃ n, k = n + 1 := ⟨k - 1, by omega⟩
  simp only [smaltoref01_Nearest.j0]
  cases s
  · simp only [Bool.false_eq_true, if_false]
    by_cases c : r ≥ d - r
    · rw [if_pos (by simp; omega), if_pos c, ref01_Plus_eq (by omega) (by omega) (by omega) (by omega)]
      simp only [Option.bind_some]
      rw [ref01_Hold_eq (by omega) (by omega) (by omega)]
      simp only [Option.bind_some]
      congr 3; omega
    · rw [if_neg (by simp; omega), if_neg c, ref01_Hold_eq (by omega) (by omega) (by omega)]
      simp only [Option.bind_some]
      congr 3; omega
  · simp only [if_true]
    by_cases c : r > d - r
    · rw [if_pos (decide_eq_true (by omega)), if_pos c, ref01_Plus_eq (by omega) (by omega) (by omega) (by omega)]
      simp only [Option.bind_some]
      rw [ref01_Hold_eq (by omega) (by omega) (by omega)]
      simp only [Option.bind_some]
      congr 3; omega
    · rw [if_neg (by simp; omega), if_neg c, ref01_Hold_eq (by omega) (by omega) (by omega)]
      simp only [Option.bind_some]
      congr 3; omega

theorem wide_size_eq {a : Int} (ha : I64 a) : wide_size.f a = some (siz a) := by
  unfold wide_size.f siz
  simp only [u64w]
  split
  · congr 1; omega
  · congr 1; omega

theorem wide_product_eq {a b : Int} (ha : I64 a) (hb : I64 b) : wide_product.f a b = some (siz a * siz b / 18446744073709551616, siz a * siz b % 18446744073709551616, ((decide (a < 0)) != (decide (b < 0)))) := by
  have ua := siz_u ha
  have ub := siz_u hb
  unfold wide_product.f
  rw [wide_size_eq ha, wide_size_eq hb]
  simp only [Option.bind_some]
  rw [bits_Mul64_eq (by omega) (by omega)]
  rfl

theorem wide_signed_eq {k : Nat} (hk : 1 ≤ k) {h l : Int} (hh : U64 h) (hl : U64 l) (b : Bool) : wide_signed.f k h l b = some (hold (sgn b (h * 18446744073709551616 + l))) := by
  obtain ⟨k, rfl⟩ : ∃ n, k = n + 1 := ⟨k - 1, by omega⟩
  unfold wide_signed.f sgn hold
  simp only [wide_signed.j0, u64w]
  cases b
  · simp only [Bool.false_eq_true, if_false]
    rw [if_neg (show ¬ h * 18446744073709551616 + l < -9223372036854775808 from by omega)]
    by_cases c : h > 0
    · rw [if_pos c, if_pos (by omega)]
    · rw [if_neg c]
      by_cases d : l > 9223372036854775807
      · rw [if_pos d, if_pos (by omega)]
      · rw [if_neg d, if_neg (by omega)]; congr 1; unfold wrap64; omega
  · simp only [if_true]
    by_cases c : h > 0
    · rw [if_pos c, if_pos (by omega)]
    · rw [if_neg c]
      by_cases d : l > 9223372036854775808
      · rw [if_pos (decide_eq_true d), if_pos (by omega)]
      · rw [if_neg (show ¬ (decide (l > 9223372036854775808) = true) from by simpa using d), if_neg (by omega), if_neg (by omega)]; congr 1; unfold wrap64; omega

theorem bitLen_spec : ∀ x : Nat, x ≠ 0 → x < 18446744073709551616 → ∃ m, Lib.bitLen x = m + 1 ∧ 2 ^ m ≤ x ∧ x < 2 ^ (m + 1) ∧ m ≤ 63 := by
  intro x
  induction x using Nat.strongRecOn with
  | ind x ih =>
    intro h0 h1
    rw [Lib.bitLen_half x h0 (by have : (2 : Nat) ^ 64 = 18446744073709551616 := by decide
                                 omega)]
    by_cases h : x / 2 = 0
    · refine ⟨0, ?_, by simp; omega, by simp; omega, by decide⟩
      rw [h]; rfl
    · obtain ⟨m, e, a, b, c⟩ := ih (x / 2) (by omega) h (by omega)
      have hp := Nat.pow_succ (n := 2) (m := m)
      have hp2 := Nat.pow_succ (n := 2) (m := m + 1)
      refine ⟨m + 1, by rw [e]; omega, by omega, by omega, ?_⟩
      refine Nat.le_of_not_lt fun hm => ?_
      have : (2 : Nat) ^ 64 ≤ 2 ^ (m + 1) := Nat.pow_le_pow_right (by decide) (by omega)
      have e64 : (2 : Nat) ^ 64 = 18446744073709551616 := by decide
      omega

/-- A quotient's digit, guessed: too great. -/
theorem knuth_down {y1 y0 u v q r Q y : Int} (hy : y = y1 * 4294967296 + y0) (y00 : 0 ≤ y0) (hy1 : 0 < y1)
    (hQ0 : Q * y ≤ u * 4294967296 + v) (huv : u < y) (hv : v < 4294967296) (hq : q * y1 + r = u) (hc : q ≥ 4294967296 ∨ q * y0 > 4294967296 * r + v) : Q ≤ q - 1 := by
  have hyp : 0 < y := by omega
  refine Int.le_of_lt_add_one ?_
  rw [Int.sub_add_cancel]
  refine Int.lt_of_not_ge fun hle => ?_
  rcases hc with hc | hc
  · have h1 : 4294967296 * y ≤ Q * y := Int.mul_le_mul_of_nonneg_right (by omega) (by omega)
    omega
  · have h1 : q * y ≤ Q * y := Int.mul_le_mul_of_nonneg_right hle (by omega)
    have h2 : q * y = q * y1 * 4294967296 + q * y0 := by rw [hy, Int.mul_add, Int.mul_assoc]
    generalize q * y1 = p at *
    generalize q * y0 = s at *
    generalize q * y = t at *
    omega
theorem knuth_le {y1 y0 u v q r Q y : Int} (hy : y = y1 * 4294967296 + y0) (hyp : 0 < y) (hQ1 : u * 4294967296 + v < (Q + 1) * y)
    (hle : q * y ≤ u * 4294967296 + v) : q ≤ Q := by
  refine Int.le_of_lt_add_one ?_
  refine Int.lt_of_not_ge fun h => ?_
  have h1 : (Q + 1) * y ≤ q * y := Int.mul_le_mul_of_nonneg_right h (by omega)
  omega
theorem knuth_stop {y1 y0 u v q r Q y : Int} (hy : y = y1 * 4294967296 + y0) (hyp : 0 < y) (hQ1 : u * 4294967296 + v < (Q + 1) * y) (hv : 0 ≤ v)
    (hq : q * y1 + r = u) (hc : (q * y0 ≤ 4294967296 * r + v) ∨ (0 ≤ y0 ∧ y0 < 4294967296 ∧ 0 ≤ q ∧ q ≤ 4294967296 ∧ r ≥ 4294967296)) : q ≤ Q := by
  refine knuth_le (y1 := y1) (y0 := y0) (r := r) hy hyp hQ1 ?_
  have h2 : q * y = q * y1 * 4294967296 + q * y0 := by rw [hy, Int.mul_add, Int.mul_assoc]
  rcases hc with hc | ⟨a, b, c, d, e⟩
  · generalize q * y1 = p at *
    generalize q * y0 = s at *
    generalize q * y = t at *
    omega
  · have h3 : q * y0 ≤ 4294967296 * 4294967296 := Int.mul_le_mul d (by omega) a (by decide)
    generalize q * y1 = p at *
    generalize q * y0 = s at *
    generalize q * y = t at *
    omega
theorem knuth_first {y1 y0 u y : Int} (hy : y = y1 * 4294967296 + y0) (y00 : y0 < 4294967296) (hy1 : 2147483648 ≤ y1) (hu : u < y) : u / y1 ≤ 4294967297 := by
  refine Int.le_of_lt_add_one ?_
  rw [Int.ediv_lt_iff_lt_mul (by omega)]
  omega
theorem Div64_l0 (y s y1 y0 u v w Q : Int) (hy : y = y1 * 4294967296 + y0) (y00 : 0 ≤ y0 ∧ y0 < 4294967296) (hy1 : 2147483648 ≤ y1 ∧ y1 < 4294967296) (hu : 0 ≤ u ∧ u < y) (hv : 0 ≤ v ∧ v < 4294967296)
    (hQ0 : Q * y ≤ u * 4294967296 + v) (hQ1 : u * 4294967296 + v < (Q + 1) * y) : ∀ (n k : Nat) (q r : Int), 4294967296 ≤ n * 2147483648 + r → 0 ≤ r → r < 4294967296 → 2 * n + 4 ≤ k → q * y1 + r = u → Q ≤ q → 0 ≤ Q → q ≤ 4294967297 →
    ∃ k', k ≤ k' + 2 * n + 4 ∧ bits_Div64.l0 k y s y1 y0 u v w q r = bits_Div64.j2 k' y s y1 y0 u v w Q := by
  intro n
  induction n with
  | zero => intro k q r h0 h1 h2; omega
  | succ n ih =>
    intro k q r h0 hr0 hr1 hk hq hQ hQ00 hqb
    obtain ⟨k, rfl⟩ : ∃ m, k = m + 2 := ⟨k - 2, by omega⟩
    rw [bits_Div64.l0]
    have up : (q ≥ 4294967296 ∨ q * y0 > 4294967296 * r + v) → ∃ k', k + 2 ≤ k' + 2 * (n + 1) + 4 ∧ bits_Div64.j1 (k + 1) y s y1 y0 u v w q r true = bits_Div64.j2 k' y s y1 y0 u v w Q := by
      intro hc
      have hd := knuth_down hy y00.1 (by omega) hQ0 hu.2 hv.2 hq hc
      have hq' : (q - 1) * y1 + (r + y1) = u := by rw [Int.sub_mul, Int.one_mul]; omega
      rw [bits_Div64.j1, if_pos rfl, u64w, u64w, show (r + y1) % 18446744073709551616 = r + y1 from by omega, show (q - 1) % 18446744073709551616 = q - 1 from by omega]
      by_cases hc2 : r + y1 ≥ 4294967296
      · rw [if_pos hc2]
        have hs := knuth_stop hy (by omega) hQ1 hv.1 hq' (Or.inr ⟨y00.1, y00.2, by omega, by omega, hc2⟩)
        exact ⟨k, by omega, by rw [show Q = q - 1 from by omega]⟩
      · rw [if_neg hc2]
        obtain ⟨k', a, b⟩ := ih k (q - 1) (r + y1) (by omega) (by omega) (by omega) (by omega) hq' hd hQ00 (by omega)
        exact ⟨k', by omega, b⟩
    by_cases hc1 : q ≥ 4294967296
    · rw [if_pos hc1]; exact up (Or.inl hc1)
    · rw [if_neg hc1]
      have p0 : 0 ≤ q * y0 := Int.mul_nonneg (by omega) y00.1
      have p1 : q * y0 ≤ 4294967295 * 4294967295 := Int.mul_le_mul (by omega) (by omega) y00.1 (by decide)
      simp only [u64w]
      rw [show (q * y0) % 18446744073709551616 = q * y0 from by omega, show ((4294967296 * r) % 18446744073709551616 + v) % 18446744073709551616 = 4294967296 * r + v from by omega]
      by_cases hc2 : q * y0 > 4294967296 * r + v
      · rw [decide_eq_true hc2]; exact up (Or.inr hc2)
      · rw [decide_eq_false hc2, bits_Div64.j1, if_neg (by decide)]
        have hs := knuth_stop hy (by omega) hQ1 hv.1 hq (Or.inl (by omega))
        exact ⟨k, by omega, by rw [show Q = q from by omega]⟩
theorem Div64_l1 (y s y1 y0 w q1 u Q : Int) (hy : y = y1 * 4294967296 + y0) (y00 : 0 ≤ y0 ∧ y0 < 4294967296) (hy1 : 2147483648 ≤ y1 ∧ y1 < 4294967296) (hu : 0 ≤ u ∧ u < y) (hw : 0 ≤ w ∧ w < 4294967296) (hs : 0 ≤ s ∧ s ≤ 63) (hq1 : 0 ≤ q1 ∧ q1 < 4294967296)
    (hQ0 : Q * y ≤ u * 4294967296 + w) (hQ1 : u * 4294967296 + w < (Q + 1) * y) (hQb : Q < 4294967296) : ∀ (n k : Nat) (q r : Int), 4294967296 ≤ n * 2147483648 + r → 0 ≤ r → r < 4294967296 → 2 * n + 4 ≤ k → q * y1 + r = u → Q ≤ q → 0 ≤ Q → q ≤ 4294967297 →
    bits_Div64.l1 k y s y1 y0 w q1 r u q = some (q1 * 4294967296 + Q, (u * 4294967296 + w - Q * y) / 2 ^ s.toNat) := by
  intro n
  have fin : Q * y ≤ u * 4294967296 + w → (q1 * 4294967296 % 18446744073709551616 + Q) % 18446744073709551616 = q1 * 4294967296 + Q ∨ Q < 0 := by
    intro _
    by_cases h : Q < 0
    · exact Or.inr h
    · left; omega
  have sub : ((u * 4294967296 % 18446744073709551616 + w) % 18446744073709551616 - Q * y % 18446744073709551616) % 18446744073709551616 = u * 4294967296 + w - Q * y := by
    have h1 : (Q + 1) * y = Q * y + y := by rw [Int.add_mul, Int.one_mul]
    rw [h1] at hQ1
    have hyb : y < 18446744073709551616 := by omega
    generalize Q * y = p at *
    omega
  have shs : ∀ x : Int, shr .u64 x s = x / 2 ^ s.toNat := by
    intro x; unfold shr; simp only [IntKind.bits]; rw [Nat.min_eq_left (by omega)]
  induction n with
  | zero => intro k q r h0 h1 h2; omega
  | succ n ih =>
    intro k q r h0 hr0 hr1 hk hq hQ hQ00 hqb
    obtain ⟨k, rfl⟩ : ∃ m, k = m + 2 := ⟨k - 2, by omega⟩
    rw [bits_Div64.l1]
    have up : (q ≥ 4294967296 ∨ q * y0 > 4294967296 * r + w) → bits_Div64.j4 (k + 1) y s y1 y0 w q1 r u q true = some (q1 * 4294967296 + Q, (u * 4294967296 + w - Q * y) / 2 ^ s.toNat) := by
      intro hc
      have hd := knuth_down hy y00.1 (by omega) hQ0 hu.2 hw.2 hq hc
      have hq' : (q - 1) * y1 + (r + y1) = u := by rw [Int.sub_mul, Int.one_mul]; omega
      rw [bits_Div64.j4, if_pos rfl]
      simp only [u64w]
      rw [show (r + y1) % 18446744073709551616 = r + y1 from by omega, show (q - 1) % 18446744073709551616 = q - 1 from by omega]
      by_cases hc2 : r + y1 ≥ 4294967296
      · rw [if_pos hc2]
        have hs' := knuth_stop hy (by omega) hQ1 hw.1 hq' (Or.inr ⟨y00.1, y00.2, by omega, by omega, hc2⟩)
        rw [show q - 1 = Q from by omega, if_pos hs.1, shs, sub]
        congr 2
        rcases fin hQ0 with h | h <;> omega
      · rw [if_neg hc2]
        exact ih k (q - 1) (r + y1) (by omega) (by omega) (by omega) (by omega) hq' hd hQ00 (by omega)
    by_cases hc1 : q ≥ 4294967296
    · rw [if_pos hc1]; exact up (Or.inl hc1)
    · rw [if_neg hc1]
      have p0 : 0 ≤ q * y0 := Int.mul_nonneg (by omega) y00.1
      have p1 : q * y0 ≤ 4294967295 * 4294967295 := Int.mul_le_mul (by omega) (by omega) y00.1 (by decide)
      simp only [u64w]
      rw [show (q * y0) % 18446744073709551616 = q * y0 from by omega, show ((4294967296 * r) % 18446744073709551616 + w) % 18446744073709551616 = 4294967296 * r + w from by omega]
      by_cases hc2 : q * y0 > 4294967296 * r + w
      · rw [decide_eq_true hc2]; exact up (Or.inr hc2)
      · rw [decide_eq_false hc2, bits_Div64.j4, if_neg (by decide)]
        have hs' := knuth_stop hy (by omega) hQ1 hw.1 hq (Or.inl (by omega))
        simp only [u64w]
        rw [show q = Q from by omega, if_pos hs.1, shs, sub]
        congr 2
        rcases fin hQ0 with h | h <;> omega
theorem ediv_bounds (a : Int) {b : Int} (hb : 0 < b) : a / b * b ≤ a ∧ a < (a / b + 1) * b := by
  have e := Int.mul_ediv_add_emod a b
  have r0 := Int.emod_nonneg a (show b ≠ 0 from by omega)
  have r1 := Int.emod_lt_of_pos a hb
  rw [Int.mul_comm] at e
  rw [Int.add_mul, Int.one_mul]
  constructor <;> omega
theorem Div64_norm {k : Nat} (hk : 30 ≤ k) {y s y1 y0 u v w : Int} (hy : y = y1 * 4294967296 + y0) (y00 : 0 ≤ y0 ∧ y0 < 4294967296) (hy1 : 2147483648 ≤ y1 ∧ y1 < 4294967296) (hu : 0 ≤ u ∧ u < y) (hv : 0 ≤ v ∧ v < 4294967296) (hw : 0 ≤ w ∧ w < 4294967296) (hs : 0 ≤ s ∧ s ≤ 63) :
    bits_Div64.l0 k y s y1 y0 u v w (u / y1) (u - u / y1 * y1) = some ((u * 18446744073709551616 + (v * 4294967296 + w)) / y, (u * 18446744073709551616 + (v * 4294967296 + w)) % y / 2 ^ s.toNat) := by
  have hyp : 0 < y := by omega
  have e1 := ediv_bounds u (show 0 < y1 from by omega)
  have e1' : (u / y1 + 1) * y1 = u / y1 * y1 + y1 := by rw [Int.add_mul, Int.one_mul]
  have b1 := ediv_bounds (u * 4294967296 + v) hyp
  have q0 : 0 ≤ (u * 4294967296 + v) / y := Int.ediv_nonneg (by omega) (by omega)
  have q0b : (u * 4294967296 + v) / y < 4294967296 := by rw [Int.ediv_lt_iff_lt_mul hyp]; omega
  have q1 : (u * 4294967296 + v) / y ≤ u / y1 := by
    refine Int.le_of_lt_add_one ?_
    rw [Int.ediv_lt_iff_lt_mul hyp, hy]
    have h0 : 0 ≤ u / y1 := Int.ediv_nonneg hu.1 (by omega)
    have h1 : 0 ≤ (u / y1 + 1) * y0 := Int.mul_nonneg (by omega) y00.1
    have h2 : (u / y1 + 1) * (y1 * 4294967296 + y0) = (u / y1 + 1) * y1 * 4294967296 + (u / y1 + 1) * y0 := by rw [Int.mul_add, Int.mul_assoc]
    rw [h2]
    generalize (u / y1 + 1) * y0 = a at *
    generalize (u / y1 + 1) * y1 = b at *
    omega
  obtain ⟨k', hk', h⟩ := Div64_l0 y s y1 y0 u v w ((u * 4294967296 + v) / y) hy y00 hy1 hu hv b1.1 b1.2 2 k (u / y1) (u - u / y1 * y1) (by omega) (by omega) (by omega) (by omega) (by omega) q1 q0 (knuth_first hy y00.2 hy1.1 hu.2)
  rw [h]
  obtain ⟨k', rfl⟩ : ∃ m, k' = m + 1 := ⟨k' - 1, by omega⟩
  have eu := Int.mul_ediv_add_emod (u * 4294967296 + v) y
  have m0 := Int.emod_nonneg (u * 4294967296 + v) (show y ≠ 0 from by omega)
  have m1 := Int.emod_lt_of_pos (u * 4294967296 + v) hyp
  have big : u * 18446744073709551616 + (v * 4294967296 + w) = (u * 4294967296 + v) * 4294967296 + w := by omega
  rw [big]
  generalize (u * 4294967296 + v) / y = Q1 at *
  generalize (u * 4294967296 + v) % y = U at *
  rw [bits_Div64.j2, if_neg (by omega)]
  have eU : IntKind.u64.wrap ((IntKind.u64.wrap ((IntKind.u64.wrap (u * 4294967296)) + v)) - (IntKind.u64.wrap (Q1 * y))) = U := by
    simp only [u64w]
    rw [Int.mul_comm Q1 y]
    generalize y * Q1 = p at *
    omega
  simp only [eU]
  have f1 := ediv_bounds U (show 0 < y1 from by omega)
  have f1' : (U / y1 + 1) * y1 = U / y1 * y1 + y1 := by rw [Int.add_mul, Int.one_mul]
  have f0 : 0 ≤ U / y1 := Int.ediv_nonneg m0 (by omega)
  have fb : U / y1 ≤ 4294967297 := knuth_first hy y00.2 hy1.1 m1
  have et : IntKind.u64.wrap (Int.tdiv U y1) = U / y1 := by rw [Int.tdiv_eq_ediv_of_nonneg m0, u64w]; omega
  have er : IntKind.u64.wrap (U - IntKind.u64.wrap (U / y1 * y1)) = U - U / y1 * y1 := by simp only [u64w]; omega
  rw [et, er]
  have c1 := ediv_bounds (U * 4294967296 + w) hyp
  have g0 : 0 ≤ (U * 4294967296 + w) / y := Int.ediv_nonneg (by omega) (by omega)
  have g0b : (U * 4294967296 + w) / y < 4294967296 := by rw [Int.ediv_lt_iff_lt_mul hyp]; omega
  have g1 : (U * 4294967296 + w) / y ≤ U / y1 := by
    refine Int.le_of_lt_add_one ?_
    rw [Int.ediv_lt_iff_lt_mul hyp, hy]
    have h1 : 0 ≤ (U / y1 + 1) * y0 := Int.mul_nonneg (by omega) y00.1
    have h2 : (U / y1 + 1) * (y1 * 4294967296 + y0) = (U / y1 + 1) * y1 * 4294967296 + (U / y1 + 1) * y0 := by rw [Int.mul_add, Int.mul_assoc]
    rw [h2]
    generalize (U / y1 + 1) * y0 = a at *
    generalize (U / y1 + 1) * y1 = b at *
    omega
  rw [Div64_l1 y s y1 y0 w Q1 U ((U * 4294967296 + w) / y) hy y00 hy1 ⟨m0, m1⟩ hw hs ⟨q0, q0b⟩ c1.1 c1.2 g0b 2 k' (U / y1) (U - U / y1 * y1) (by omega) (by omega) (by omega) (by omega) (by omega) g1 g0 fb]
  have eW := Int.mul_ediv_add_emod (U * 4294967296 + w) y
  have n0 := Int.emod_nonneg (U * 4294967296 + w) (show y ≠ 0 from by omega)
  have n1 := Int.emod_lt_of_pos (U * 4294967296 + w) hyp
  obtain ⟨z1, z2⟩ := div_unique (a := (u * 4294967296 + v) * 4294967296 + w) (d := y) (q := Q1 * 4294967296 + (U * 4294967296 + w) / y) (r := (U * 4294967296 + w) % y) (by
    rw [Int.add_mul, Int.mul_right_comm, Int.mul_comm Q1 y, Int.mul_comm ((U * 4294967296 + w) / y) y]
    generalize y * Q1 = a at *
    generalize y * ((U * 4294967296 + w) / y) = b at *
    omega) n0 n1
  rw [z1, z2]
  congr 3
  rw [Int.mul_comm ((U * 4294967296 + w) / y) y]; omega
theorem bits_Div64_eq {k : Nat} (hk : 30 ≤ k) {hi lo y : Int} (hy : 0 < y ∧ y < 18446744073709551616) (hhi : 0 ≤ hi ∧ hi < y) (hlo : U64 lo) :
    bits_Div64.f k hi lo y = some ((hi * 18446744073709551616 + lo) / y, (hi * 18446744073709551616 + lo) % y) := by
  unfold bits_Div64.f
  rw [if_neg (by omega), if_neg (by omega)]
  by_cases h0 : hi = 0
  · rw [if_pos h0, h0, Int.tdiv_eq_ediv_of_nonneg hlo.1, Int.tmod_eq_emod_of_nonneg hlo.1, u64w]
    have a : 0 ≤ lo / y := Int.ediv_nonneg hlo.1 (by omega)
    have b : lo / y ≤ lo := Int.ediv_le_self _ hlo.1
    rw [show 0 * 18446744073709551616 + lo = lo from by omega, show lo / y % 18446744073709551616 = lo / y from by omega]
  rw [if_neg h0]
  obtain ⟨m, em, ma, mb, mc⟩ := bitLen_spec y.toNat (by omega) (by omega)
  unfold bits_LeadingZeros64.f
  rw [if_pos (by omega), if_pos (by omega), em]
  simp only [Option.bind_some]
  obtain ⟨s, hs⟩ : ∃ s : Nat, s = 63 - m := ⟨_, rfl⟩
  have e1 : IntKind.u64.wrap (64 - ((m + 1 : Nat) : Int)) = (s : Int) := by rw [u64w]; omega
  have e2 : IntKind.u64.wrap (64 - (s : Int)) = ((64 - s : Nat) : Int) := by rw [u64w]; omega
  rw [e1, e2, if_pos (by omega), if_pos (by omega)]
  have hp := pow_pos s
  have ma' : (2 : Int) ^ m ≤ y := by
    have : ((2 ^ m : Nat) : Int) ≤ (y.toNat : Int) := Int.ofNat_le.2 ma
    rw [Int.natCast_pow] at this
    rw [Int.toNat_of_nonneg (by omega)] at this; exact this
  have mb' : y < (2 : Int) ^ (m + 1) := by
    have : (y.toNat : Int) < ((2 ^ (m + 1) : Nat) : Int) := Int.ofNat_lt.2 mb
    rw [Int.natCast_pow] at this
    rw [Int.toNat_of_nonneg (by omega)] at this; exact this
  have p63 : (2 : Int) ^ m * 2 ^ s = 9223372036854775808 := by rw [← Int.pow_add, show m + s = 63 from by omega]; decide
  have p64 : (2 : Int) ^ (m + 1) * 2 ^ s = 18446744073709551616 := by rw [← Int.pow_add, show m + 1 + s = 64 from by omega]; decide
  have p64' : (2 : Int) ^ (64 - s) * 2 ^ s = 18446744073709551616 := by rw [← Int.pow_add, show 64 - s + s = 64 from by omega]; decide
  have y63 : 9223372036854775808 ≤ y * 2 ^ s := by rw [← p63]; exact Int.mul_le_mul_of_nonneg_right ma' (by omega)
  have y64 : y * 2 ^ s < 18446744073709551616 := by rw [← p64]; exact Int.mul_lt_mul_of_pos_right mb' hp
  have eshl : ∀ x : Int, shl .u64 x (s : Int) = (x * 2 ^ s) % 18446744073709551616 := by
    intro x; unfold shl; simp only [IntKind.bits]; rw [u64w, show ((s : Int)).toNat = s from by omega, Nat.min_eq_left (by omega)]
  have eshr : ∀ x : Int, shr .u64 x ((64 - s : Nat) : Int) = x / 2 ^ (64 - s) := by
    intro x; unfold shr; simp only [IntKind.bits]; rw [show (((64 - s : Nat) : Int)).toNat = 64 - s from by omega, Nat.min_eq_left (by omega)]
  have hh : hi * 2 ^ s + 2 ^ s ≤ y * 2 ^ s := by
    have : (hi + 1) * 2 ^ s ≤ y * 2 ^ s := Int.mul_le_mul_of_nonneg_right (by omega) (by omega)
    rw [Int.add_mul, Int.one_mul] at this; exact this
  have hh0 : 0 ≤ hi * 2 ^ s := Int.mul_nonneg hhi.1 (by omega)
  rw [eshl, eshl, eshl, eshr, Int.emod_eq_of_lt (show 0 ≤ y * 2 ^ s from by omega) y64, Int.emod_eq_of_lt hh0 (by omega)]
  have lp := pow_pos (64 - s)
  have l1 : lo / 2 ^ (64 - s) < 2 ^ s := by
    rw [Int.ediv_lt_iff_lt_mul lp, Int.mul_comm, p64']; exact hlo.2
  have l0 : 0 ≤ lo / 2 ^ (64 - s) := Int.ediv_nonneg hlo.1 (by omega)
  have ejoin : Go.bits .or .u64 (hi * 2 ^ s) (lo / 2 ^ (64 - s)) = hi * 2 ^ s + lo / 2 ^ (64 - s) := by
    have e64 : (2 : Int) ^ 64 = 18446744073709551616 := by decide
    exact bits_join .u64 64 (by decide) (fun n h0 h1 => by rw [u64w]; omega) s _ _ hh0 (Int.mul_emod_left _ _) (by omega) l0 l1 (by omega)
  rw [ejoin, u64and32, u64and32]
  have elo : lo / 2 ^ (64 - s) * 18446744073709551616 + lo * 2 ^ s % 18446744073709551616 = lo * 2 ^ s := by
    have e := Int.mul_ediv_add_emod (lo * 2 ^ s) 18446744073709551616
    have : lo * 2 ^ s / 18446744073709551616 = lo / 2 ^ (64 - s) := by
      rw [← p64', Int.mul_ediv_mul_of_pos_left _ _ hp]
    rw [this] at e; omega
  have t0 : 0 ≤ lo * 2 ^ s % 18446744073709551616 ∧ lo * 2 ^ s % 18446744073709551616 < 18446744073709551616 := by omega
  have big : (hi * 18446744073709551616 + lo) * 2 ^ s = (hi * 2 ^ s + lo / 2 ^ (64 - s)) * 18446744073709551616 + lo * 2 ^ s % 18446744073709551616 := by
    rw [Int.add_mul, Int.add_mul, Int.mul_right_comm]; omega
  have res1 : (hi * 18446744073709551616 + lo) / y = (hi * 18446744073709551616 + lo) * 2 ^ s / (y * 2 ^ s) := (Int.mul_ediv_mul_of_pos_left _ _ hp).symm
  have res2 : (hi * 18446744073709551616 + lo) % y = (hi * 18446744073709551616 + lo) * 2 ^ s % (y * 2 ^ s) / 2 ^ s := by
    rw [Int.mul_comm (hi * 18446744073709551616 + lo), Int.mul_comm y, Int.mul_emod_mul_of_pos _ _ hp, Int.mul_ediv_cancel_left _ (by omega)]
  rw [res1, res2, big]
  clear res1 res2 big elo ejoin
  have hu00 : 0 ≤ hi * 2 ^ s + lo / 2 ^ (64 - s) ∧ hi * 2 ^ s + lo / 2 ^ (64 - s) < y * 2 ^ s := by omega
  generalize hi * 2 ^ s + lo / 2 ^ (64 - s) = u at *
  generalize lo * 2 ^ s % 18446744073709551616 = T at *
  generalize hY : y * 2 ^ s = Y at *
  have hu : 0 ≤ u ∧ u < Y := hu00
  have hy1 : 0 < Y / 4294967296 := by omega
  have uq := ediv_bounds u hy1
  have uq' : (u / (Y / 4294967296) + 1) * (Y / 4294967296) = u / (Y / 4294967296) * (Y / 4294967296) + Y / 4294967296 := by rw [Int.add_mul, Int.one_mul]
  have uq0 : 0 ≤ u / (Y / 4294967296) := Int.ediv_nonneg hu.1 (by omega)
  have uq1 : u / (Y / 4294967296) ≤ u := Int.ediv_le_self _ hu.1
  have et : IntKind.u64.wrap (Int.tdiv u (Y / 4294967296)) = u / (Y / 4294967296) := by rw [Int.tdiv_eq_ediv_of_nonneg hu.1, u64w]; omega
  have er : IntKind.u64.wrap (u - IntKind.u64.wrap (u / (Y / 4294967296) * (Y / 4294967296))) = u - u / (Y / 4294967296) * (Y / 4294967296) := by simp only [u64w]; omega
  rw [if_neg (by omega), et, er]
  have h := Div64_norm hk (y := Y) (s := (s : Int)) (y1 := Y / 4294967296) (y0 := Y % 4294967296) (u := u) (v := T / 4294967296) (w := T % 4294967296) (by omega) (by omega) (by omega) hu (by omega) (by omega) (by omega)
  rw [h, show T / 4294967296 * 4294967296 + T % 4294967296 = T from by omega, show ((s : Int)).toNat = s from by omega]

theorem add64_u {x y : Int} (hx : U64 x) (hy : U64 y) : add64s x y 0 = (x + y) % 18446744073709551616 ∧ add64c x y 0 = (x + y) / 18446744073709551616 := by
  unfold add64s add64c
  constructor <;> (simp only [Int.toNat_zero]; omega)
theorem hold_big {b : Bool} {m n : Int} (hm : 9223372036854775808 ≤ m) (hn : 9223372036854775808 ≤ n) : hold (sgn b m) = hold (sgn b n) := by
  unfold hold sgn
  cases b
  · simp only [Bool.false_eq_true, if_false]; rw [if_neg (by omega), if_pos (by omega), if_neg (by omega), if_pos (by omega)]
  · simp only [if_true]
    by_cases h1 : m = 9223372036854775808
    · by_cases h2 : n = 9223372036854775808
      · rw [h1, h2]
      · rw [if_neg (by omega), if_neg (by omega), if_pos (by omega)]; omega
    · by_cases h2 : n = 9223372036854775808
      · rw [if_pos (by omega), if_neg (by omega), if_neg (by omega)]; omega
      · rw [if_pos (by omega), if_pos (by omega)]
theorem wide_MulDiv_eq {k : Nat} (hk : 40 ≤ k) {a b d : Int} (ha : I64 a) (hb : I64 b) (hd : I64 d) : wide_MulDiv.f k a b d = some (hold (rdiv (a * b) d)) := by
  unfold wide_MulDiv.f
  by_cases hd0 : d = 0
  · rw [if_pos hd0, hd0]; simp [rdiv, hold]
  have ua := siz_u ha
  have ub := siz_u hb
  have ud := siz_u hd
  have ud0 : siz d ≠ 0 := fun h => hd0 (siz_zero.1 h)
  rw [if_neg hd0, wide_product_eq ha hb, wide_size_eq hd]
  simp only [Option.bind_some]
  have p0 := Int.mul_nonneg ua.1 ub.1
  have p1 : siz a * siz b ≤ 9223372036854775808 * 9223372036854775808 := Int.mul_le_mul ua.2 ub.2 ub.1 (by decide)
  have e0 := sgn_siz2 a b
  have es := sgn_xor ((decide (a < 0)) != (decide (b < 0))) d (siz a * siz b) hd0
  rw [e0] at es
  rw [← es]
  generalize siz a * siz b = p at *
  generalize ((decide (a < 0)) != (decide (b < 0))) = s0 at *
  generalize (s0 != decide (d < 0)) = s at *
  generalize siz d = D at *
  have q0 : 0 ≤ p / D := Int.ediv_nonneg p0 (by omega)
  have eqp := ediv_bounds p (show 0 < D from by omega)
  rw [rdiv_sgn s p0 (by omega)]
  by_cases c : p / 18446744073709551616 ≥ D
  · rw [if_pos c, wide_signed_eq (by omega) (by omega) (by omega)]
    simp only [Option.bind_some]
    congr 1
    have big : 18446744073709551616 ≤ p / D := by
      rw [Int.le_ediv_iff_mul_le (by omega)]; omega
    refine hold_big (by omega) ?_
    cases s <;> (simp only [Bool.false_eq_true, if_false, if_true]; split <;> omega)
  · rw [if_neg c, bits_Div64_eq (by omega) (by omega) (by omega) (by omega)]
    simp only [Option.bind_some]
    rw [show p / 18446744073709551616 * 18446744073709551616 + p % 18446744073709551616 = p from by omega]
    have r0 := Int.emod_nonneg p (show D ≠ 0 from by omega)
    have r1 := Int.emod_lt_of_pos p (show 0 < D from by omega)
    have qb : p / D < 18446744073709551616 := by rw [Int.ediv_lt_iff_lt_mul (by omega)]; omega
    generalize p % D = r at *
    generalize p / D = q at *
    rw [u64w, show (D - r) % 18446744073709551616 = D - r from by omega]
    obtain ⟨k, rfl⟩ : ∃ n, k = n + 1 := ⟨k - 1, by omega⟩
    have up : ∀ s, wide_MulDiv.j0 (k + 1) s q 0 true = some (hold (sgn s (q + 1))) := by
      intro s
      obtain ⟨x1, x2⟩ := add64_u (x := q) (y := 1) (by omega) (by omega)
      rw [wide_MulDiv.j0, if_pos rfl, x1, x2, wide_signed_eq (by omega) (by omega) (by omega)]
      simp only [Option.bind_some]; congr 3; omega
    have dn : ∀ s, wide_MulDiv.j0 (k + 1) s q 0 false = some (hold (sgn s q)) := by
      intro s
      obtain ⟨x1, x2⟩ := add64_u (x := q) (y := 0) (by omega) (by omega)
      rw [wide_MulDiv.j0, if_neg (by decide), x1, x2, wide_signed_eq (by omega) (by omega) (by omega)]
      simp only [Option.bind_some]; congr 3; omega
    cases s
    · simp only [Bool.false_eq_true, if_false]
      by_cases g : r ≥ D - r
      · rw [if_pos g, decide_eq_true g]; exact up _
      · rw [if_neg g, decide_eq_false g]; exact dn _
    · simp only [if_true]
      by_cases g : r > D - r
      · rw [if_pos g, if_pos g]; exact up _
      · rw [if_neg g, if_neg g]; exact dn _

theorem ref02_MulDiv_eq {k : Nat} (hk : 129 ≤ k) {a b d : Int} (ha : I64 a) (hb : I64 b) (hd : I64 d) : smaltoref02_MulDiv.f k a b d = some (hold (rdiv (a * b) d)) := by
  unfold smaltoref02_MulDiv.f
  by_cases hd0 : d = 0
  · rw [if_pos hd0, hd0]; simp [rdiv, hold]
  have ua := siz_u ha
  have ub := siz_u hb
  have ud := siz_u hd
  have ud0 : siz d ≠ 0 := fun h => hd0 (siz_zero.1 h)
  rw [if_neg hd0, ref01_Size_eq ha, ref01_Size_eq hb]
  simp only [Option.bind_some]
  rw [ref01_Times_eq (by omega) (by omega) (by omega), ref01_Size_eq hd]
  simp only [Option.bind_some]
  have p0 := Int.mul_nonneg ua.1 ub.1
  have p1 : siz a * siz b ≤ 9223372036854775808 * 9223372036854775808 := Int.mul_le_mul ua.2 ub.2 ub.1 (by decide)
  have e0 := sgn_siz2 a b
  have es := sgn_xor ((decide (a < 0)) != (decide (b < 0))) d (siz a * siz b) hd0
  rw [e0] at es
  rw [← es]
  generalize siz a * siz b = p at *
  rw [ref01_Nearest_eq hk (by omega) (by omega) (by omega)]
  simp only [Option.bind_some]
  rw [show p / 18446744073709551616 * 18446744073709551616 + p % 18446744073709551616 = p from by omega]

/-- The cubic's weight of a fraction. -/
def keyV (p q : Int) : Int :=
  if 1 ≤ q ∧ q ≤ 262144 ∧ p < 2 * q ∧ -2 * q < p then
    hold (rdiv ((if siz p ≥ q then -(siz p * siz p * siz p) + 5 * (siz p * siz p * q) - 8 * (siz p * q * q) + 4 * (q * q * q) else 3 * (siz p * siz p * siz p) - 5 * (siz p * siz p * q) + 2 * (q * q * q)) * 1073741824) (2 * (q * q * q)))
  else 0
theorem keyV_i (p q : Int) : I64 (keyV p q) := by
  unfold keyV; split
  · exact hold_i _
  · constructor <;> omega
theorem keyV_neg (p q : Int) : keyV (-p) q = keyV p q := by
  unfold keyV
  have e2 : siz (-p) = siz p := by unfold siz; split <;> split <;> omega
  rw [e2]
  by_cases c : 1 ≤ q ∧ q ≤ 262144 ∧ p < 2 * q ∧ -2 * q < p
  · rw [if_pos c, if_pos (by omega)]
  · rw [if_neg c, if_neg (by omega)]
theorem cub_le {a b c M : Int} (ha : 0 ≤ a ∧ a ≤ M) (hb : 0 ≤ b ∧ b ≤ M) (hc : 0 ≤ c ∧ c ≤ M) : 0 ≤ a * b ∧ a * b ≤ M * M ∧ 0 ≤ a * b * c ∧ a * b * c ≤ M * M * M := by
  have h1 : 0 ≤ a * b := Int.mul_nonneg ha.1 hb.1
  have h2 : a * b ≤ M * M := Int.mul_le_mul ha.2 hb.2 hb.1 (by omega)
  exact ⟨h1, h2, Int.mul_nonneg h1 hc.1, Int.mul_le_mul h2 hc.2 hc.1 (by omega)⟩
theorem raw_Keys_eq {k : Nat} (hk : 50 ≤ k) {p q : Int} (hp : I64 p) (hq : I64 q) : raw_Keys.f k p q = some (keyV p q) := by
  obtain ⟨k, rfl⟩ : ∃ m, k = m + 1 := ⟨k - 1, by omega⟩
  unfold raw_Keys.f keyV
  by_cases h1 : q < 1
  · rw [if_pos h1, if_neg (by omega), raw_Keys.j0, if_pos rfl]
  rw [if_neg h1]
  by_cases h2 : q > 262144
  · rw [if_pos h2, if_neg (by omega), raw_Keys.j0, if_pos rfl]
  rw [if_neg h2, w64_id (show -9223372036854775808 ≤ 2 * q from by omega) (by omega), w64_id (show -9223372036854775808 ≤ -2 * q from by omega) (by omega)]
  by_cases h3 : p ≥ 2 * q
  · rw [if_pos h3, if_neg (by omega), raw_Keys.j0, if_pos rfl]
  rw [if_neg h3, raw_Keys.j0]
  by_cases h4 : p ≤ -2 * q
  · rw [if_pos (by simpa using h4), if_neg (by omega)]
  rw [if_neg (by simpa using h4), if_pos (show 1 ≤ q ∧ q ≤ 262144 ∧ p < 2 * q ∧ -2 * q < p from by omega)]
  have e : mx p (wrap64 (-p)) = siz p := by rw [w64_id (by omega) (by omega)]; unfold mx siz; split <;> split <;> omega
  have hs : 0 ≤ siz p ∧ siz p ≤ 524288 := by unfold siz; split <;> omega
  rw [e]
  generalize siz p = s at hs ⊢
  have b1 := cub_le hs hs hs
  have b2 := cub_le hs hs (show 0 ≤ q ∧ q ≤ 524288 by omega)
  have b3 := cub_le hs (show 0 ≤ q ∧ q ≤ 524288 by omega) (show 0 ≤ q ∧ q ≤ 524288 by omega)
  have b4 := cub_le (show 0 ≤ q ∧ q ≤ 262144 by omega) (show 0 ≤ q ∧ q ≤ 262144 by omega) (show 0 ≤ q ∧ q ≤ 262144 by omega)
  have a1 : -s * s = -(s * s) := Int.neg_mul _ _
  have a2 : -(s * s) * s = -(s * s * s) := Int.neg_mul _ _
  have a3 : ∀ x y : Int, 5 * x * y = 5 * (x * y) := fun x y => Int.mul_assoc _ _ _
  have a4 : ∀ x y : Int, 8 * x * y = 8 * (x * y) := fun x y => Int.mul_assoc _ _ _
  have a5 : ∀ x y : Int, 4 * x * y = 4 * (x * y) := fun x y => Int.mul_assoc _ _ _
  have a6 : ∀ x y : Int, 2 * x * y = 2 * (x * y) := fun x y => Int.mul_assoc _ _ _
  have a7 : ∀ x y : Int, 3 * x * y = 3 * (x * y) := fun x y => Int.mul_assoc _ _ _
  have w1 : wrap64 (-s) = -s := w64_id (by omega) (by omega)
  have w2 : wrap64 (-(s * s)) = -(s * s) := w64_id (by omega) (by omega)
  have w3 : wrap64 (-(s * s * s)) = -(s * s * s) := w64_id (by omega) (by omega)
  have w4 : wrap64 (5 * s) = 5 * s := w64_id (by omega) (by omega)
  have w5 : wrap64 (5 * (s * s)) = 5 * (s * s) := w64_id (by omega) (by omega)
  have w6 : wrap64 (5 * (s * s * q)) = 5 * (s * s * q) := w64_id (by omega) (by omega)
  have w7 : wrap64 (8 * s) = 8 * s := w64_id (by omega) (by omega)
  have w8 : wrap64 (8 * (s * q)) = 8 * (s * q) := w64_id (by omega) (by omega)
  have w9 : wrap64 (8 * (s * q * q)) = 8 * (s * q * q) := w64_id (by omega) (by omega)
  have w10 : wrap64 (4 * q) = 4 * q := w64_id (by omega) (by omega)
  have w11 : wrap64 (4 * (q * q)) = 4 * (q * q) := w64_id (by omega) (by omega)
  have w12 : wrap64 (4 * (q * q * q)) = 4 * (q * q * q) := w64_id (by omega) (by omega)
  have w13 : wrap64 (2 * q) = 2 * q := w64_id (by omega) (by omega)
  have w14 : wrap64 (2 * (q * q)) = 2 * (q * q) := w64_id (by omega) (by omega)
  have w15 : wrap64 (2 * (q * q * q)) = 2 * (q * q * q) := w64_id (by omega) (by omega)
  have w16 : wrap64 (3 * s) = 3 * s := w64_id (by omega) (by omega)
  have w17 : wrap64 (3 * (s * s)) = 3 * (s * s) := w64_id (by omega) (by omega)
  have w18 : wrap64 (3 * (s * s * s)) = 3 * (s * s * s) := w64_id (by omega) (by omega)
  simp only [w1, a1, w2, a2, w3, w4, a3, w5, w6, w7, a4, w8, w9, w10, a5, w11, w12, w13, a6, w14, w15, w16, a7, w17, w18]
  by_cases h5 : s ≥ q
  · rw [if_pos h5, if_pos h5]
    have v1 : wrap64 (-(s * s * s) + 5 * (s * s * q)) = -(s * s * s) + 5 * (s * s * q) := w64_id (by omega) (by omega)
    have v2 : wrap64 (-(s * s * s) + 5 * (s * s * q) - 8 * (s * q * q)) = -(s * s * s) + 5 * (s * s * q) - 8 * (s * q * q) := w64_id (by omega) (by omega)
    have v3 : wrap64 (-(s * s * s) + 5 * (s * s * q) - 8 * (s * q * q) + 4 * (q * q * q)) = -(s * s * s) + 5 * (s * s * q) - 8 * (s * q * q) + 4 * (q * q * q) := w64_id (by omega) (by omega)
    rw [v1, v2, v3, wide_MulDiv_eq (by omega) (by constructor <;> omega) (by decide) (by constructor <;> omega)]
    rfl
  · rw [if_neg h5, if_neg h5]
    have v1 : wrap64 (3 * (s * s * s) - 5 * (s * s * q)) = 3 * (s * s * s) - 5 * (s * s * q) := w64_id (by omega) (by omega)
    have v2 : wrap64 (3 * (s * s * s) - 5 * (s * s * q) + 2 * (q * q * q)) = 3 * (s * s * s) - 5 * (s * s * q) + 2 * (q * q * q) := w64_id (by omega) (by omega)
    rw [v1, v2, wide_MulDiv_eq (by omega) (by constructor <;> omega) (by decide) (by constructor <;> omega)]
    rfl

theorem ref05_Keys_eq {k : Nat} (hk : 200 ≤ k) {p q : Int} (hp : I64 p) (hq : I64 q) : smaltoref05_Keys.f k p q = some (keyV p q) := by
  obtain ⟨k, rfl⟩ : ∃ m, k = m + 3 := ⟨k - 3, by omega⟩
  unfold smaltoref05_Keys.f keyV
  by_cases h1 : q < 1
  · rw [if_pos h1, if_neg (by omega), smaltoref05_Keys.j0, if_pos rfl]
  rw [if_neg h1, smaltoref05_Keys.j0]
  by_cases h2 : q > 262144
  · rw [if_pos (by simpa using h2), if_neg (by omega)]
  rw [if_neg (by simpa using h2), w64_id (show -9223372036854775808 ≤ 2 * q from by omega) (by omega), w64_id (show -9223372036854775808 ≤ -2 * q from by omega) (by omega)]
  by_cases h3 : p ≥ 2 * q
  · rw [if_pos h3, if_neg (by omega), smaltoref05_Keys.j1, if_pos rfl]
  rw [if_neg h3, smaltoref05_Keys.j1]
  by_cases h4 : p ≤ -2 * q
  · rw [if_pos (by simpa using h4), if_neg (by omega)]
  rw [if_neg (by simpa using h4), if_pos (show 1 ≤ q ∧ q ≤ 262144 ∧ p < 2 * q ∧ -2 * q < p from by omega)]
  have e : (if p < 0 then smaltoref05_Keys.j2 (k + 1) (wrap64 (-p)) q else smaltoref05_Keys.j2 (k + 1) p q) = smaltoref05_Keys.j2 (k + 1) (siz p) q := by
    unfold siz; split
    · rw [w64_id (by omega) (by omega)]
    · rfl
  rw [e, smaltoref05_Keys.j2]
  have hs : 0 ≤ siz p ∧ siz p ≤ 524288 := by unfold siz; split <;> omega
  generalize siz p = s at hs ⊢
  have b1 := cub_le hs hs hs
  have b2 := cub_le hs hs (show 0 ≤ q ∧ q ≤ 524288 by omega)
  have b3 := cub_le hs (show 0 ≤ q ∧ q ≤ 524288 by omega) (show 0 ≤ q ∧ q ≤ 524288 by omega)
  have b4 := cub_le (show 0 ≤ q ∧ q ≤ 262144 by omega) (show 0 ≤ q ∧ q ≤ 262144 by omega) (show 0 ≤ q ∧ q ≤ 262144 by omega)
  have a3 : 5 * (s * s) * q = 5 * (s * s * q) := Int.mul_assoc _ _ _
  have a4 : 8 * s * (q * q) = 8 * (s * q * q) := by rw [Int.mul_assoc, ← Int.mul_assoc s q q]
  have w0 : wrap64 (s * s) = s * s := w64_id (by omega) (by omega)
  have w1 : wrap64 (s * s * s) = s * s * s := w64_id (by omega) (by omega)
  have w2 : wrap64 (q * q) = q * q := w64_id (by omega) (by omega)
  have w3 : wrap64 (q * q * q) = q * q * q := w64_id (by omega) (by omega)
  have w5 : wrap64 (5 * (s * s)) = 5 * (s * s) := w64_id (by omega) (by omega)
  have w6 : wrap64 (5 * (s * s * q)) = 5 * (s * s * q) := w64_id (by omega) (by omega)
  have w7 : wrap64 (8 * s) = 8 * s := w64_id (by omega) (by omega)
  have w9 : wrap64 (8 * (s * q * q)) = 8 * (s * q * q) := w64_id (by omega) (by omega)
  have w12 : wrap64 (4 * (q * q * q)) = 4 * (q * q * q) := w64_id (by omega) (by omega)
  have w15 : wrap64 (2 * (q * q * q)) = 2 * (q * q * q) := w64_id (by omega) (by omega)
  have w18 : wrap64 (3 * (s * s * s)) = 3 * (s * s * s) := w64_id (by omega) (by omega)
  simp only [w0, w1, w2, w3, w5, a3, w6, w7, a4, w9, w12, w15, w18]
  by_cases h5 : s < q
  · rw [if_pos h5, if_neg (show ¬ s ≥ q from by omega)]
    have v1 : wrap64 (3 * (s * s * s) - 5 * (s * s * q)) = 3 * (s * s * s) - 5 * (s * s * q) := w64_id (by omega) (by omega)
    have v2 : wrap64 (3 * (s * s * s) - 5 * (s * s * q) + 2 * (q * q * q)) = 3 * (s * s * s) - 5 * (s * s * q) + 2 * (q * q * q) := w64_id (by omega) (by omega)
    rw [v1, v2, ref02_MulDiv_eq (by omega) (by constructor <;> omega) (by decide) (by constructor <;> omega)]
    rfl
  · rw [if_neg h5, if_pos (show s ≥ q from by omega)]
    have v1 : wrap64 (5 * (s * s * q) - s * s * s) = -(s * s * s) + 5 * (s * s * q) := by rw [w64_id (by omega) (by omega)]; omega
    have v2 : wrap64 (-(s * s * s) + 5 * (s * s * q) - 8 * (s * q * q)) = -(s * s * s) + 5 * (s * s * q) - 8 * (s * q * q) := w64_id (by omega) (by omega)
    have v3 : wrap64 (-(s * s * s) + 5 * (s * s * q) - 8 * (s * q * q) + 4 * (q * q * q)) = -(s * s * s) + 5 * (s * s * q) - 8 * (s * q * q) + 4 * (q * q * q) := w64_id (by omega) (by omega)
    rw [v1, v2, v3, ref02_MulDiv_eq (by omega) (by constructor <;> omega) (by decide) (by constructor <;> omega)]
    rfl

theorem lives05 {k : Nat} (hk : 400 ≤ k) : smaltolaw05_Lives.f k = some true :=
  at_rounds (fun k => smaltolaw05_Lives.mono k) hk (show smaltolaw05_Lives.f 400 = some true by decide +kernel)

theorem f64bits_call (b : Nat) (w : World) : (callFunc 12 #[.float .f64 b]).run Tryd.prog w = .ok (.value (.int .u64 b)) w := by
  rw [run_callFunc_extern Tryd.func12 (by kernel_rfl) (by kernel_rfl) (by kernel_rfl) (e := Extern.MathFloatBits.float64bits) (by kernel_rfl)]; rfl
theorem f64from_call (n : Int) (w : World) : (callFunc 11 #[.int .u64 n]).run Tryd.prog w = .ok (.value (.float .f64 n.toNat)) w := by
  rw [run_callFunc_extern Tryd.func11 (by kernel_rfl) (by kernel_rfl) (by kernel_rfl) (e := Extern.MathFloatBits.float64frombits) (by kernel_rfl)]; rfl
theorem clear_sign (b : Nat) (hb : b < 18446744073709551616) : (Go.bits .andNot .u64 (b : Int) 9223372036854775808).toNat = b % 9223372036854775808 := by
  rw [u64_andNot _ _ (by omega) (by omega) (by decide) (by decide)]
  rw [Int.toNat_natCast, Int.toNat_natCast]
  exact Nat.and_two_pow_sub_one_eq_mod b 63
set_option maxHeartbeats 1000000 in
set_option maxRecDepth 100000 in
theorem abs_calls (b : Nat) (hb : b < 18446744073709551616) (w : World) : Calls Tryd.prog 7 #[.float .f64 b] w fun e w' => e = .returned (.float .f64 (b % 9223372036854775808)) ∧ w = w' := by
  have H := Aside0.mk (clear_sign b hb)
  clear hb
  go_enter Tryd.func7, Tryd.ntmps7
  go_wp2_with (simp only [f64bits_call, f64from_call])
  go_ret
  exact ⟨by rw [H.out]; rfl, rfl⟩
theorem hold_in {m : Int} (h0 : -9223372036854775808 ≤ m) (h1 : m ≤ 9223372036854775807) : hold m = m := by unfold hold; omega
theorem rdiv_two {a D : Int} (hD : 0 < D) : rdiv a (2 * D) * (2 * D) ≤ a + D ∧ a ≤ rdiv a (2 * D) * (2 * D) + D := by
  unfold rdiv
  rw [if_pos (by omega)]
  have e := Int.mul_ediv_add_emod (2 * a + 2 * D) (2 * (2 * D))
  have l0 := Int.emod_nonneg (2 * a + 2 * D) (show 2 * (2 * D) ≠ 0 by omega)
  have l1 := Int.emod_lt_of_pos (2 * a + 2 * D) (show 0 < 2 * (2 * D) by omega)
  generalize (2 * a + 2 * D) / (2 * (2 * D)) = z at *
  generalize (2 * a + 2 * D) % (2 * (2 * D)) = r at *
  have e2 : 2 * (2 * D) * z = 2 * (z * (2 * D)) := by rw [Int.mul_assoc, Int.mul_comm (2 * D) z]
  rw [e2] at e
  omega
theorem sq_le {x y M : Int} (h : 0 ≤ x ∧ x ≤ M) (k : 0 ≤ y ∧ y ≤ M) : 0 ≤ x * y ∧ x * y ≤ M * M := ⟨Int.mul_nonneg h.1 k.1, Int.mul_le_mul h.2 k.2 k.1 (by omega)⟩
theorem keys_chain (a d : Int) (hd : 1 ≤ d ∧ d ≤ 262144) (ha : -(2 * d) < a ∧ a < 2 * d) : Fl.Chain a d (keyV a d) := by
  obtain ⟨A, hA⟩ : ∃ A, A = siz a := ⟨_, rfl⟩
  have A1 : 0 ≤ A ∧ A < 2 * d ∧ (A = a ∨ A = -a) := by unfold siz at hA; split at hA <;> omega
  obtain ⟨abv, hab⟩ : ∃ abv : Int, abv = if A ≥ d then -(A * A * A) + 5 * (A * A * d) - 8 * (A * d * d) + 4 * (d * d * d) else 3 * (A * A * A) - 5 * (A * A * d) + 2 * (d * d * d) := ⟨_, rfl⟩
  have ek : keyV a d = hold (rdiv (abv * 1073741824) (2 * (d * d * d))) := by
    unfold keyV; rw [if_pos ⟨hd.1, hd.2, by omega, by omega⟩, ← hA, ← hab]
  have dp : 0 < d * d * d := Int.mul_pos (Int.mul_pos (by omega) (by omega)) (by omega)
  have m1 : 0 ≤ A * A ∧ A * A ≤ 2 * d * (2 * d) := ⟨Int.mul_nonneg A1.1 A1.1, Int.mul_le_mul (by omega) (by omega) A1.1 (by omega)⟩
  have m2 : 0 ≤ A * A * A ∧ A * A * A ≤ 2 * d * (2 * d) * (2 * d) := ⟨Int.mul_nonneg m1.1 A1.1, Int.mul_le_mul m1.2 (by omega) A1.1 (by omega)⟩
  have m3 : 0 ≤ A * A * d ∧ A * A * d ≤ 2 * d * (2 * d) * d := ⟨Int.mul_nonneg m1.1 (by omega), Int.mul_le_mul_of_nonneg_right m1.2 (by omega)⟩
  have m4 : 0 ≤ A * d ∧ A * d ≤ 2 * d * d := ⟨Int.mul_nonneg A1.1 (by omega), Int.mul_le_mul_of_nonneg_right (by omega) (by omega)⟩
  have m5 : 0 ≤ A * d * d ∧ A * d * d ≤ 2 * d * d * d := ⟨Int.mul_nonneg m4.1 (by omega), Int.mul_le_mul_of_nonneg_right m4.2 (by omega)⟩
  rw [show 2 * d * (2 * d) * (2 * d) = 8 * (d * d * d) by grind] at m2
  rw [show 2 * d * (2 * d) * d = 4 * (d * d * d) by grind] at m3
  rw [show 2 * d * d * d = 2 * (d * d * d) by grind] at m5
  have rb : -40 * (d * d * d) ≤ abv ∧ abv ≤ 40 * (d * d * d) := by
    rw [hab]; split <;> omega
  have r := rdiv_two (a := abv * 1073741824) dp
  obtain ⟨z, hz⟩ : ∃ z, z = rdiv (abv * 1073741824) (2 * (d * d * d)) := ⟨_, rfl⟩
  rw [← hz] at r ek
  clear hz
  have z1 : z ≤ 68719476736 := Int.le_of_mul_le_mul_right (show z * (2 * (d * d * d)) ≤ 68719476736 * (2 * (d * d * d)) by omega) (by omega)
  have z2 : -68719476736 ≤ z := Int.le_of_mul_le_mul_right (show -68719476736 * (2 * (d * d * d)) ≤ z * (2 * (d * d * d)) by omega) (by omega)
  rw [hold_in (by omega) (by omega)] at ek
  rw [ek]
  exact Fl.chain a d z A hd ha ⟨A1.1, A1.2.2⟩ abv hab (by omega) (by omega)
/-- What a chain of operations asks of the model. -/
def BinF (op : BinOp) (x y r : Nat) : Prop := ∀ t w, (binOp op t (.float .f64 x) (.float .f64 y)).run Tryd.prog w = .ok (.float .f64 r) w
theorem binF {op : BinOp} {x y r : Nat} (h : floatBits op .f64 x y = some r) : BinF op x y r := fun t w => run_float_arith w op t .f64 x y r h
theorem f_lt {op : BinOp} {x y r : Nat} (h : floatBits op .f64 x y = some r) : r < 18446744073709551616 := by
  have := floatBits_wf h
  simpa [Lit.wf] using this
theorem and18 (q : Int) : ∃ D : Int, Go.bits .and .i64 q 262143 = D ∧ 0 ≤ D ∧ D ≤ 262143 := by
  have h := and_mask .i64 q 18 (by decide) (by rw [i64w]; unfold wrap64; omega)
  refine ⟨_, h, ?_⟩
  have : ((2 ^ 18 : Nat) : Int) = 262144 := by decide
  constructor <;> omega
set_option maxHeartbeats 4000000 in
set_option maxRecDepth 100000 in
theorem rawKeys_calls (p q : Int) (hp : I64 p) (hq : I64 q) (w : World) (hG : GL w) : Calls Tryd.prog 3 #[.int .i64 p, .int .i64 q] w fun e w' => e = .returned (.bool true) ∧ Below w.heap.size w w' := by
  have lv := smaltolaw05_Lives.calls 400 true w hG (lives05 (Nat.le_refl _))
  have e1 := raw_Keys_eq (k := 50) (Nat.le_refl _) hp hq
  have e2 := ref05_Keys_eq (k := 200) (Nat.le_refl _) hp hq
  obtain ⟨D, hand, hD0, hD1⟩ := and18 q
  obtain ⟨a, ha⟩ : ∃ a, p.tmod (2 * (1 + D)) = a := ⟨_, rfl⟩
  have ab : -(2 * (1 + D)) < a ∧ a < 2 * (1 + D) := by
    rw [← ha]; have := Int.tmod_lt_of_pos p (show 0 < 2 * (1 + D) by omega); have := Int.lt_tmod_of_pos p (show 0 < 2 * (1 + D) by omega); omega
  have e3 := raw_Keys_eq (k := 50) (Nat.le_refl _) (p := a) (q := 1 + D) ⟨by omega, by omega⟩ ⟨by omega, by omega⟩
  have e4 := raw_Keys_eq (k := 50) (Nat.le_refl _) (p := -a) (q := 1 + D) ⟨by omega, by omega⟩ ⟨by omega, by omega⟩
  rw [keyV_neg] at e4
  obtain ⟨fq, h1, fx, hx, t1, t2, t3, u1, u2, v1, v, h2, h3, h4, h5, h6, h7, h8, o, ho, c1, c2⟩ := keys_chain a (1 + D) ⟨by omega, by omega⟩ ab
  subst hx
  obtain ⟨K, hK⟩ : ∃ K, K = keyV a (1 + D) := ⟨_, rfl⟩
  rw [← hK] at e3 e4 c1 c2
  obtain ⟨L, hL⟩ : ∃ L, L = keyV p q := ⟨_, rfl⟩
  rw [← hL] at e1 e2
  have LV := Aside0.mk lv
  have E1 := Aside0.mk e1
  have E2 := Aside0.mk e2
  have E3 := Aside0.mk e3
  have E4 := Aside0.mk e4
  have g1 : ∀ t w, (binOp .quo t (.float .f64 (floatOfInt .f64 a)) (.float .f64 (floatOfInt .f64 (1 + D)))).run Tryd.prog w = .ok (.float .f64 fq) w := binF (op := .quo) h1
  have l1 := f_lt (op := .quo) h1
  have g2 := binF (op := .mul) h2
  have g3 := binF (op := .mul) h3
  have g4 := binF (op := .mul) h4
  have g5 := binF (op := .mul) h5
  have g6 := binF (op := .mul) h6
  have g7 := binF (op := .sub) h7
  have g8 := binF (op := .add) h8
  obtain ⟨x, hx⟩ : ∃ x, fq % 9223372036854775808 = x := ⟨_, rfl⟩
  rw [hx] at g2 g3 g4 g5 g6 ho c2
  have B0 := Aside0.mk (Below.refl w.heap.size w)
  have L1 := Aside0.mk l1
  have FX := Aside0.mk hx
  clear lv e1 e2 e3 e4 hK hL h1 h2 h3 h4 h5 h6 h7 h8 hG hx l1
  unfold BinF at g2 g3 g4 g5 g6 g7 g8
  by_cases co : o = .lt
  · subst co
    obtain ⟨z, y, o2, k1, k2, k3, k4⟩ := c1 rfl
    have g9 : ∀ t w, (binOp .mul t (.float .f64 v) (.float .f64 4742290407621132288)).run Tryd.prog w = .ok (.float .f64 z) w := binF (op := .mul) k1
    have g10 : ∀ t w, (binOp .sub t (.float .f64 (floatOfInt .f64 K)) (.float .f64 z)).run Tryd.prog w = .ok (.float .f64 y) w := binF (op := .sub) k2
    have l2 := f_lt (op := .sub) k2
    have L2 := Aside0.mk l2
    have b1 : (FloatKind.f64.format.order x 4607182418800017408 == some .gt || FloatKind.f64.format.order x 4607182418800017408 == some .eq) = false := by
      rw [show FloatKind.f64.format.order x 4607182418800017408 = some .lt from ho]; rfl
    have b2 : (FloatKind.f64.format.order (y % 9223372036854775808) 4611686018427387904 == some .lt || FloatKind.f64.format.order (y % 9223372036854775808) 4611686018427387904 == some .eq) = true := by
      rw [show FloatKind.f64.format.order (y % 9223372036854775808) 4611686018427387904 = some o2 from k3]; cases o2 <;> first | rfl | exact absurd rfl k4
    clear c1 c2 k1 k2 k3 k4 l2 ho
    go_enter Tryd.func3, Tryd.ntmps3
    go_wp2_with (first
      | (go_at_call 4; refine LV.out.mono ?_; rintro e w0 ⟨rfl, hb⟩; have B0 := Aside0.mk hb; clear hb)
      | (go_at_call 5; ((with_reducible refine (raw_Keys.calls 50 p q L _ E1.out).mono ?_); (rintro e w1 ⟨rfl, hb⟩; have B0 := Aside0.mk (below_step B0.out hb); clear hb)))
      | (go_at_call 5; ((with_reducible refine (raw_Keys.calls 50 a (1 + D) K _ E3.out).mono ?_); (rintro e w1 ⟨rfl, hb⟩; have B0 := Aside0.mk (below_step B0.out hb); clear hb)))
      | (go_at_call 5; ((with_reducible refine (raw_Keys.calls 50 (-a) (1 + D) K _ E4.out).mono ?_); (rintro e w1 ⟨rfl, hb⟩; have B0 := Aside0.mk (below_step B0.out hb); clear hb)))
      | (go_at_call 6; ((with_reducible refine (smaltoref05_Keys.calls 200 p q L _ E2.out).mono ?_); (rintro e w1 ⟨rfl, hb⟩; have B0 := Aside0.mk (below_step B0.out hb); clear hb)))
      | (go_at_call 7; ((with_reducible refine (abs_calls fq L1.out _).mono ?_); (rintro e w1 ⟨rfl, rfl⟩; rw [FX.out])))
      | (go_at_call 7; ((with_reducible refine (abs_calls y L2.out _).mono ?_); (rintro e w1 ⟨rfl, rfl⟩)))
      | (simp only [g1, g2, g3, g4, g5, g6, g7, g8, g9, g10]))
    go_ret
    exact ⟨by rfl, B0.out⟩
  · obtain ⟨s1, s2, s3, v2, y4, v3, v4, m1, m2, m3, m4, m5, m6, m7, z, y, o2, k1, k2, k3, k4⟩ := c2 co
    have n1 : ∀ t w, (binOp .mul t (.float .f64 13826050856027422720) (.float .f64 x)).run Tryd.prog w = .ok (.float .f64 s1) w := binF (op := .mul) m1
    have n2 : ∀ t w, (binOp .mul t (.float .f64 s1) (.float .f64 x)).run Tryd.prog w = .ok (.float .f64 s2) w := binF (op := .mul) m2
    have n3 : ∀ t w, (binOp .mul t (.float .f64 s2) (.float .f64 x)).run Tryd.prog w = .ok (.float .f64 s3) w := binF (op := .mul) m3
    have n4 : ∀ t w, (binOp .add t (.float .f64 s3) (.float .f64 u2)).run Tryd.prog w = .ok (.float .f64 v2) w := binF (op := .add) m4
    have n5 : ∀ t w, (binOp .mul t (.float .f64 4616189618054758400) (.float .f64 x)).run Tryd.prog w = .ok (.float .f64 y4) w := binF (op := .mul) m5
    have n6 : ∀ t w, (binOp .sub t (.float .f64 v2) (.float .f64 y4)).run Tryd.prog w = .ok (.float .f64 v3) w := binF (op := .sub) m6
    have n7 : ∀ t w, (binOp .add t (.float .f64 v3) (.float .f64 4611686018427387904)).run Tryd.prog w = .ok (.float .f64 v4) w := binF (op := .add) m7
    have g9 : ∀ t w, (binOp .mul t (.float .f64 v4) (.float .f64 4742290407621132288)).run Tryd.prog w = .ok (.float .f64 z) w := binF (op := .mul) k1
    have g10 : ∀ t w, (binOp .sub t (.float .f64 (floatOfInt .f64 K)) (.float .f64 z)).run Tryd.prog w = .ok (.float .f64 y) w := binF (op := .sub) k2
    have l2 := f_lt (op := .sub) k2
    have L2 := Aside0.mk l2
    have b1 : (FloatKind.f64.format.order x 4607182418800017408 == some .gt || FloatKind.f64.format.order x 4607182418800017408 == some .eq) = true := by
      rw [show FloatKind.f64.format.order x 4607182418800017408 = some o from ho]; cases o <;> first | rfl | exact absurd rfl co
    have b2 : (FloatKind.f64.format.order (y % 9223372036854775808) 4611686018427387904 == some .lt || FloatKind.f64.format.order (y % 9223372036854775808) 4611686018427387904 == some .eq) = true := by
      rw [show FloatKind.f64.format.order (y % 9223372036854775808) 4611686018427387904 = some o2 from k3]; cases o2 <;> first | rfl | exact absurd rfl k4
    clear c1 c2 k1 k2 k3 k4 l2 ho co m1 m2 m3 m4 m5 m6 m7
    go_enter Tryd.func3, Tryd.ntmps3
    go_wp2_with (first
      | (go_at_call 4; refine LV.out.mono ?_; rintro e w0 ⟨rfl, hb⟩; have B0 := Aside0.mk hb; clear hb)
      | (go_at_call 5; ((with_reducible refine (raw_Keys.calls 50 p q L _ E1.out).mono ?_); (rintro e w1 ⟨rfl, hb⟩; have B0 := Aside0.mk (below_step B0.out hb); clear hb)))
      | (go_at_call 5; ((with_reducible refine (raw_Keys.calls 50 a (1 + D) K _ E3.out).mono ?_); (rintro e w1 ⟨rfl, hb⟩; have B0 := Aside0.mk (below_step B0.out hb); clear hb)))
      | (go_at_call 5; ((with_reducible refine (raw_Keys.calls 50 (-a) (1 + D) K _ E4.out).mono ?_); (rintro e w1 ⟨rfl, hb⟩; have B0 := Aside0.mk (below_step B0.out hb); clear hb)))
      | (go_at_call 6; ((with_reducible refine (smaltoref05_Keys.calls 200 p q L _ E2.out).mono ?_); (rintro e w1 ⟨rfl, hb⟩; have B0 := Aside0.mk (below_step B0.out hb); clear hb)))
      | (go_at_call 7; ((with_reducible refine (abs_calls fq L1.out _).mono ?_); (rintro e w1 ⟨rfl, rfl⟩; rw [FX.out])))
      | (go_at_call 7; ((with_reducible refine (abs_calls y L2.out _).mono ?_); (rintro e w1 ⟨rfl, rfl⟩)))
      | (simp only [g1, g2, g3, g4, g5, g6, g7, g8, g9, g10, n1, n2, n3, n4, n5, n6, n7]))
    go_ret
    exact ⟨by rfl, B0.out⟩

end Go.Proofs.YtbbheemfjfkagaaDoor.QA
