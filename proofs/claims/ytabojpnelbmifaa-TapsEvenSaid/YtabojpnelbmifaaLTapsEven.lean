/- A kernel that is the same from both ends has a row of weights that is, too, and its taps are, but for one apart: of at most 40 weights, by the law's own guard. -/
import Derived.Test.YtabojpnelbmifaaQAx1
import Derived.Test.YtabojpnelbmifaaQAx2
import Derived.Test.YtabojpnelbmifaaQAx3
import Derived.Test.YtabojpnelbmifaaQAx4
import Derived.Test.YtabojpnelbmifaaQAx5
import Derived.Test.YtabojpnelbmifaaQAx6
import Derived.Test.YtabojpnelbmifaaQAx7
import Derived.Test.YtabojpnelbmifaaQAx8
import Derived.Test.YtabojpnelbmifaaQAx10
import Derived.Test.YtabojpnelbmifaaQAx11
import Derived.Test.YtabojpnelbmifaaQAx12
import Derived.Test.YtabojpnelbmifaaQAx13
import Derived.Test.YtabojpnelbmifaaQAx14
import Derived.Test.YtabojpnelbmifaaQAx15
import Derived.Test.YtabojpnelbmifaaQAx17
import Derived.Test.YtabojpnelbmifaaQAx21
import Derived.Test.YtabojpnelbmifaaTCore
import Derived.Test.YtabojpnelbmifaaTExt
import Derived.Test.YtabojpnelbmifaaH06
import Derived.Test.YtabojpnelbmifaaH06p
import Derived.Test.YtabojpnelbmifaaH06e
namespace Go.Proofs.Ytabojpnelbmifaa.QA
open Go.RowKit Go.Proofs.YtabojpnelbmifaaW.PrintWords Go.Proofs.YtabojpnelbmifaaW.PrintLast Go.Proofs.YtabojpnelbmifaaW.PrintMore Go.Proofs.Ytabojpnelbmifaa.T
set_option linter.unusedVariables false

theorem ref01_Size_eq {a : Int} (ha : I64 a) : smaltoref01_Size.f a = some (siz a) := by
  unfold smaltoref01_Size.f siz wrap64
  simp only [u64w]
  split
  · congr 1; omega
  · congr 1; omega

theorem ref01_Hold_eq {k : Nat} (hk : 1 ≤ k) {h l : Int} (hh : U64 h) (hl : U64 l) (b : Bool) : smaltoref01_Hold.f k h l b = some (hold (sgn b (h * 18446744073709551616 + l))) := by
  obtain ⟨k, rfl⟩ : ∃ n, k = n + 1 := ⟨k - 1, by omega⟩
  unfold smaltoref01_Hold.f sgn hold
  cases b
  · simp only [Bool.false_eq_true, if_false]
    rw [if_neg (show ¬ h * 18446744073709551616 + l < -9223372036854775808 from by omega)]
    by_cases c : h > 0
    · rw [if_pos c, if_pos (by omega)]
    · rw [if_neg c]
      by_cases d : l > 9223372036854775807
      · rw [if_pos d, if_pos (by omega)]
      · rw [if_neg d, if_neg (by omega)]; congr 1; unfold wrap64; omega
  · simp only [if_true]
    simp only [smaltoref01_Hold.j0]
    by_cases c : h > 0
    · rw [if_pos c, if_pos trivial, if_pos (by omega)]
    · rw [if_neg c]
      by_cases d : l > 9223372036854775807
      · rw [if_pos (decide_eq_true d)]
        by_cases e : l = 9223372036854775808
        · rw [if_neg (by omega), if_neg (by omega)]; congr 1; omega
        · rw [if_pos (by omega)]
      · rw [if_neg (by simpa using d), if_neg (by omega), if_neg (by omega)]; congr 1; unfold wrap64; omega

theorem ref01_Plus_eq {a b c d : Int} (_ha : U64 a) (hb : U64 b) (_hc : U64 c) (hd : U64 d) :
    smaltoref01_Plus.f a b c d = some ((a + c + (b + d) / 18446744073709551616) % 18446744073709551616, (b + d) % 18446744073709551616) := by
  unfold smaltoref01_Plus.f
  simp only [u64w]
  split
  · congr 2; omega
  · congr 2; omega

theorem ref01_Minus_eq {a b c d : Int} (_ha : U64 a) (hb : U64 b) (_hc : U64 c) (hd : U64 d) :
    smaltoref01_Minus.f a b c d = some ((a - c + (b - d) / 18446744073709551616) % 18446744073709551616, (b - d) % 18446744073709551616) := by
  unfold smaltoref01_Minus.f
  simp only [u64w]
  split
  · congr 2; omega
  · congr 2; omega

theorem ref01_Twice_eq {a b c : Int} (_ha : U64 a) (_hb : U64 b) (_hc : 0 ≤ c ∧ c ≤ 1) :
    smaltoref01_Twice.f a b c = some ((2 * a + b / 9223372036854775808) % 18446744073709551616, (2 * b + c) % 18446744073709551616) := by
  unfold smaltoref01_Twice.f
  simp only [u64w]
  congr 2 <;> omega

theorem ref01_Less_eq {a b c d : Int} (_ha : U64 a) (hb : U64 b) (_hc : U64 c) (hd : U64 d) :
    smaltoref01_Less.f a b c d = some (decide (a * 18446744073709551616 + b < c * 18446744073709551616 + d)) := by
  unfold smaltoref01_Less.f
  split
  · congr 1; exact decide_eq_decide.2 (by omega)
  · congr 1; exact decide_eq_decide.2 (by omega)

theorem ref01_Bit_eq {a b : Int} (ha : U64 a) (hb : U64 b) (i : Nat) (hi : i < 128) :
    smaltoref01_Bit.f a b i = some ((a * 18446744073709551616 + b) / 2 ^ i % 2) := by
  have e64 : (18446744073709551616 : Int) = 2 ^ 64 := by decide
  unfold smaltoref01_Bit.f
  by_cases h : (i : Int) ≥ 64
  · rw [if_pos h, w64_id (show -9223372036854775808 ≤ (i : Int) - 64 from by omega) (by omega), if_pos (by omega), u64and1]
    unfold shr
    simp only [IntKind.bits]
    rw [show ((i : Int) - 64).toNat = i - 64 from by omega, Nat.min_eq_left (by omega)]
    congr 2
    have : (2 : Int) ^ i = 2 ^ 64 * 2 ^ (i - 64) := by rw [← Int.pow_add]; congr 1; omega
    rw [this, ← Int.ediv_ediv_of_nonneg (by decide), ← e64]
    congr 1; omega
  · rw [if_neg h, if_pos (by omega), u64and1]
    unfold shr
    simp only [IntKind.bits]
    rw [show ((i : Int)).toNat = i from by omega, Nat.min_eq_left (by omega)]
    congr 1
    have : (18446744073709551616 : Int) = 2 ^ i * (2 * 2 ^ (63 - i)) := by
      rw [e64, ← pow_succ2, ← Int.pow_add]; congr 1; omega
    rw [this, Int.mul_left_comm, Int.add_comm, Int.add_mul_ediv_left _ _ (by have := pow_pos i; omega), Int.mul_left_comm, Int.add_comm, Int.mul_add_emod_self_left]

theorem ref01_Over_l0 {d ah al : Int} (hd : 0 < d ∧ d < 18446744073709551616) (hah : U64 ah) (hal : U64 al) : ∀ (n : Nat) (k : Nat) (qh ql rh rl : Int), n ≤ 128 → n < k → U64 qh → U64 ql → U64 rh → U64 rl →
    rh * 18446744073709551616 + rl < d → (qh * 18446744073709551616 + ql) * d + (rh * 18446744073709551616 + rl) = (ah * 18446744073709551616 + al) / 2 ^ n →
    smaltoref01_Over.l0 k d ((n : Int) - 1) ah al qh ql rh rl =
      some ((ah * 18446744073709551616 + al) / d / 18446744073709551616, (ah * 18446744073709551616 + al) / d % 18446744073709551616, (ah * 18446744073709551616 + al) % d) := by
  intro n
  generalize hA : ah * 18446744073709551616 + al = A
  induction n with
  | zero =>
    intro k qh ql rh rl _ hk hqh hql hrh hrl hr he
    obtain ⟨k, rfl⟩ : ∃ n, k = n + 1 := ⟨k - 1, by omega⟩
    unfold smaltoref01_Over.l0
    rw [if_neg (by omega)]
    rw [Int.pow_zero, Int.ediv_one] at he
    obtain ⟨u1, u2⟩ := div_unique he (by omega) hr
    rw [u1, u2]
    congr 2
    · omega
    · congr 1 <;> omega
  | succ n ih =>
    intro k qh ql rh rl hn hk hqh hql hrh hrl hr he
    obtain ⟨k, rfl⟩ : ∃ n, k = n + 1 := ⟨k - 1, by omega⟩
    unfold smaltoref01_Over.l0
    rw [show ((n + 1 : Nat) : Int) - 1 = n from by omega, if_pos (by omega), ref01_Bit_eq hah hal n (by omega), hA]
    simp only [Option.bind_some]
    have hh2 := half_pow A n
    have hpn := pow_pos n
    have A0 : 0 ≤ A := by omega
    have al1 : A / 2 ^ n ≤ A := Int.ediv_le_self _ A0
    generalize hbit : A / 2 ^ n % 2 = bit at *
    have hb : 0 ≤ bit ∧ bit ≤ 1 := by omega
    rw [ref01_Twice_eq hrh hrl hb, ref01_Twice_eq hqh hql (by omega)]
    simp only [Option.bind_some]
    rw [ref01_Less_eq (by omega) (by omega) (by omega) (by omega)]
    simp only [Option.bind_some]
    rw [w64_id (by omega) (by omega)]
    have q0 : 0 ≤ qh * 18446744073709551616 + ql := by omega
    have qd : qh * 18446744073709551616 + ql ≤ (qh * 18446744073709551616 + ql) * d := by
      calc qh * 18446744073709551616 + ql = (qh * 18446744073709551616 + ql) * 1 := by rw [Int.mul_one]
        _ ≤ _ := Int.mul_le_mul_of_nonneg_left (by omega) q0
    generalize hQ : qh * 18446744073709551616 + ql = Q at *
    have e2 : (2 * Q) * d = 2 * (Q * d) := Int.mul_assoc _ _ _
    have e3 : (2 * Q + 1) * d = 2 * (Q * d) + d := by rw [Int.add_mul, e2, Int.one_mul]
    generalize hP : Q * d = P at *
    by_cases hl : 2 * (rh * 18446744073709551616 + rl) + bit < d
    · rw [if_pos (decide_eq_true (by omega))]
      refine ih k _ _ _ _ (by omega) (by omega) (by omega) (by omega) (by omega) (by omega) (by omega) ?_
      rw [show (2 * qh + ql / 9223372036854775808) % 18446744073709551616 * 18446744073709551616 + (2 * ql + 0) % 18446744073709551616 = 2 * Q from by omega, e2]
      omega
    · rw [if_neg (by simp; omega), ref01_Minus_eq (by omega) (by omega) (by omega) (by omega)]
      simp only [Option.bind_some, u64w]
      refine ih k _ _ _ _ (by omega) (by omega) (by omega) (by omega) (by omega) (by omega) (by omega) ?_
      rw [show (2 * qh + ql / 9223372036854775808) % 18446744073709551616 * 18446744073709551616 + ((2 * ql + 0) % 18446744073709551616 + 1) % 18446744073709551616 = 2 * Q + 1 from by omega, e3]
      omega
theorem ref01_Over_eq {k : Nat} (hk : 129 ≤ k) {d ah al : Int} (hd : 0 < d ∧ d < 18446744073709551616) (hah : U64 ah) (hal : U64 al) :
    smaltoref01_Over.f k ah al d = some ((ah * 18446744073709551616 + al) / d / 18446744073709551616, (ah * 18446744073709551616 + al) / d % 18446744073709551616, (ah * 18446744073709551616 + al) % d) := by
  unfold smaltoref01_Over.f
  rw [if_neg (by omega)]
  refine ref01_Over_l0 hd hah hal 128 k 0 0 0 0 (by omega) (by omega) (by omega) (by omega) (by omega) (by omega) (by omega) ?_
  rw [Int.ediv_eq_zero_of_lt (by omega) (by have : (2 : Int) ^ 128 = 340282366920938463463374607431768211456 := by decide
                                            omega)]
  omega

theorem ref01_Floor_eq {k : Nat} (hk : 129 ≤ k) {a b : Int} (ha : I64 a) (hb : I64 b) : smaltoref01_Floor.f k a b = some (hold (flo a b)) := by
  unfold smaltoref01_Floor.f
  by_cases hb0 : b = 0
  · rw [if_pos hb0, hb0]; simp [flo, hold]
  have ua := siz_u ha
  have ub := siz_u hb
  have ub0 : siz b ≠ 0 := fun h => hb0 (siz_zero.1 h)
  rw [if_neg hb0, ref01_Size_eq ha, ref01_Size_eq hb]
  simp only [Option.bind_some]
  rw [ref01_Over_eq hk (by omega) (by omega) (by omega)]
  simp only [Option.bind_some]
  have e := flo_xor (decide (a < 0)) b (siz a) hb0
  rw [sgn_siz a, flo_sgn _ (by omega)] at e
  rw [← e]
  generalize (decide (a < 0) != decide (b < 0)) = s
  rw [show 0 * 18446744073709551616 + siz a = siz a from by omega]
  have q0 : 0 ≤ siz a / siz b := Int.ediv_nonneg ua.1 ub.1
  have q1 : siz a / siz b ≤ siz a := Int.ediv_le_self _ ua.1
  have r0 := Int.emod_nonneg (siz a) ub0
  generalize siz a / siz b = q at *
  generalize siz a % siz b = r at *
  obtain ⟨k, rfl⟩ : ∃ n, k = n + 1 := ⟨k - 1, by omega⟩
  simp only [smaltoref01_Floor.j0]
  cases s
  · simp only [Bool.false_eq_true, if_false, false_and]
    rw [ref01_Hold_eq (by omega) (by omega) (by omega)]
    simp only [Option.bind_some]
    congr 3; omega
  · simp only [if_true, true_and]
    by_cases c : r = 0
    · rw [if_neg (by simp; omega), if_neg (by simpa using c), ref01_Hold_eq (by omega) (by omega) (by omega)]
      simp only [Option.bind_some]
      congr 3; omega
    · rw [if_pos (by simp; omega), if_pos c, ref01_Plus_eq (by omega) (by omega) (by omega) (by omega)]
      simp only [Option.bind_some]
      rw [ref01_Hold_eq (by omega) (by omega) (by omega)]
      simp only [Option.bind_some]
      congr 3; omega

theorem wide_size_eq {a : Int} (ha : I64 a) : wide_size.f a = some (siz a) := by
  unfold wide_size.f siz
  simp only [u64w]
  split
  · congr 1; omega
  · congr 1; omega

theorem wide_product_eq {a b : Int} (ha : I64 a) (hb : I64 b) : wide_product.f a b = some (siz a * siz b / 18446744073709551616, siz a * siz b % 18446744073709551616, ((decide (a < 0)) != (decide (b < 0)))) := by
  have ua := siz_u ha
  have ub := siz_u hb
  unfold wide_product.f
  rw [wide_size_eq ha, wide_size_eq hb]
  simp only [Option.bind_some]
  rw [bits_Mul64_eq (by omega) (by omega)]
  rfl

theorem wide_signed_eq {k : Nat} (hk : 1 ≤ k) {h l : Int} (hh : U64 h) (hl : U64 l) (b : Bool) : wide_signed.f k h l b = some (hold (sgn b (h * 18446744073709551616 + l))) := by
  obtain ⟨k, rfl⟩ : ∃ n, k = n + 1 := ⟨k - 1, by omega⟩
  unfold wide_signed.f sgn hold
  simp only [wide_signed.j0, u64w]
  cases b
  · simp only [Bool.false_eq_true, if_false]
    rw [if_neg (show ¬ h * 18446744073709551616 + l < -9223372036854775808 from by omega)]
    by_cases c : h > 0
    · rw [if_pos c, if_pos (by omega)]
    · rw [if_neg c]
      by_cases d : l > 9223372036854775807
      · rw [if_pos d, if_pos (by omega)]
      · rw [if_neg d, if_neg (by omega)]; congr 1; unfold wrap64; omega
  · simp only [if_true]
    by_cases c : h > 0
    · rw [if_pos c, if_pos (by omega)]
    · rw [if_neg c]
      by_cases d : l > 9223372036854775808
      · rw [if_pos (decide_eq_true d), if_pos (by omega)]
      · rw [if_neg (show ¬ (decide (l > 9223372036854775808) = true) from by simpa using d), if_neg (by omega), if_neg (by omega)]; congr 1; unfold wrap64; omega

theorem bitLen_spec : ∀ x : Nat, x ≠ 0 → x < 18446744073709551616 → ∃ m, Lib.bitLen x = m + 1 ∧ 2 ^ m ≤ x ∧ x < 2 ^ (m + 1) ∧ m ≤ 63 := by
  intro x
  induction x using Nat.strongRecOn with
  | ind x ih =>
    intro h0 h1
    rw [Lib.bitLen_half x h0 (by have : (2 : Nat) ^ 64 = 18446744073709551616 := by decide
                                 omega)]
    by_cases h : x / 2 = 0
    · refine ⟨0, ?_, by simp; omega, by simp; omega, by decide⟩
      rw [h]; rfl
    · obtain ⟨m, e, a, b, c⟩ := ih (x / 2) (by omega) h (by omega)
      have hp := Nat.pow_succ (n := 2) (m := m)
      have hp2 := Nat.pow_succ (n := 2) (m := m + 1)
      refine ⟨m + 1, by rw [e]; omega, by omega, by omega, ?_⟩
      refine Nat.le_of_not_lt fun hm => ?_
      have : (2 : Nat) ^ 64 ≤ 2 ^ (m + 1) := Nat.pow_le_pow_right (by decide) (by omega)
      have e64 : (2 : Nat) ^ 64 = 18446744073709551616 := by decide
      omega

/-- A quotient's digit, guessed: too great. -/
theorem knuth_down {y1 y0 u v q r Q y : Int} (hy : y = y1 * 4294967296 + y0) (y00 : 0 ≤ y0) (hy1 : 0 < y1)
    (hQ0 : Q * y ≤ u * 4294967296 + v) (huv : u < y) (hv : v < 4294967296) (hq : q * y1 + r = u) (hc : q ≥ 4294967296 ∨ q * y0 > 4294967296 * r + v) : Q ≤ q - 1 := by
  have hyp : 0 < y := by omega
  refine Int.le_of_lt_add_one ?_
  rw [Int.sub_add_cancel]
  refine Int.lt_of_not_ge fun hle => ?_
  rcases hc with hc | hc
  · have h1 : 4294967296 * y ≤ Q * y := Int.mul_le_mul_of_nonneg_right (by omega) (by omega)
    omega
  · have h1 : q * y ≤ Q * y := Int.mul_le_mul_of_nonneg_right hle (by omega)
    have h2 : q * y = q * y1 * 4294967296 + q * y0 := by rw [hy, Int.mul_add, Int.mul_assoc]
    generalize q * y1 = p at *
    generalize q * y0 = s at *
    generalize q * y = t at *
    omega
theorem knuth_le {y1 y0 u v q r Q y : Int} (hy : y = y1 * 4294967296 + y0) (hyp : 0 < y) (hQ1 : u * 4294967296 + v < (Q + 1) * y)
    (hle : q * y ≤ u * 4294967296 + v) : q ≤ Q := by
  refine Int.le_of_lt_add_one ?_
  refine Int.lt_of_not_ge fun h => ?_
  have h1 : (Q + 1) * y ≤ q * y := Int.mul_le_mul_of_nonneg_right h (by omega)
  omega
theorem knuth_stop {y1 y0 u v q r Q y : Int} (hy : y = y1 * 4294967296 + y0) (hyp : 0 < y) (hQ1 : u * 4294967296 + v < (Q + 1) * y) (hv : 0 ≤ v)
    (hq : q * y1 + r = u) (hc : (q * y0 ≤ 4294967296 * r + v) ∨ (0 ≤ y0 ∧ y0 < 4294967296 ∧ 0 ≤ q ∧ q ≤ 4294967296 ∧ r ≥ 4294967296)) : q ≤ Q := by
  refine knuth_le (y1 := y1) (y0 := y0) (r := r) hy hyp hQ1 ?_
  have h2 : q * y = q * y1 * 4294967296 + q * y0 := by rw [hy, Int.mul_add, Int.mul_assoc]
  rcases hc with hc | ⟨a, b, c, d, e⟩
  · generalize q * y1 = p at *
    generalize q * y0 = s at *
    generalize q * y = t at *
    omega
  · have h3 : q * y0 ≤ 4294967296 * 4294967296 := Int.mul_le_mul d (by omega) a (by decide)
    generalize q * y1 = p at *
    generalize q * y0 = s at *
    generalize q * y = t at *
    omega
theorem knuth_first {y1 y0 u y : Int} (hy : y = y1 * 4294967296 + y0) (y00 : y0 < 4294967296) (hy1 : 2147483648 ≤ y1) (hu : u < y) : u / y1 ≤ 4294967297 := by
  refine Int.le_of_lt_add_one ?_
  rw [Int.ediv_lt_iff_lt_mul (by omega)]
  omega
theorem Div64_l0 (y s y1 y0 u v w Q : Int) (hy : y = y1 * 4294967296 + y0) (y00 : 0 ≤ y0 ∧ y0 < 4294967296) (hy1 : 2147483648 ≤ y1 ∧ y1 < 4294967296) (hu : 0 ≤ u ∧ u < y) (hv : 0 ≤ v ∧ v < 4294967296)
    (hQ0 : Q * y ≤ u * 4294967296 + v) (hQ1 : u * 4294967296 + v < (Q + 1) * y) : ∀ (n k : Nat) (q r : Int), 4294967296 ≤ n * 2147483648 + r → 0 ≤ r → r < 4294967296 → 2 * n + 4 ≤ k → q * y1 + r = u → Q ≤ q → 0 ≤ Q → q ≤ 4294967297 →
    ∃ k', k ≤ k' + 2 * n + 4 ∧ bits_Div64.l0 k y s y1 y0 u v w q r = bits_Div64.j2 k' y s y1 y0 u v w Q := by
  intro n
  induction n with
  | zero => intro k q r h0 h1 h2; omega
  | succ n ih =>
    intro k q r h0 hr0 hr1 hk hq hQ hQ00 hqb
    obtain ⟨k, rfl⟩ : ∃ m, k = m + 2 := ⟨k - 2, by omega⟩
    rw [bits_Div64.l0]
    have up : (q ≥ 4294967296 ∨ q * y0 > 4294967296 * r + v) → ∃ k', k + 2 ≤ k' + 2 * (n + 1) + 4 ∧ bits_Div64.j1 (k + 1) y s y1 y0 u v w q r true = bits_Div64.j2 k' y s y1 y0 u v w Q := by
      intro hc
      have hd := knuth_down hy y00.1 (by omega) hQ0 hu.2 hv.2 hq hc
      have hq' : (q - 1) * y1 + (r + y1) = u := by rw [Int.sub_mul, Int.one_mul]; omega
      rw [bits_Div64.j1, if_pos rfl, u64w, u64w, show (r + y1) % 18446744073709551616 = r + y1 from by omega, show (q - 1) % 18446744073709551616 = q - 1 from by omega]
      by_cases hc2 : r + y1 ≥ 4294967296
      · rw [if_pos hc2]
        have hs := knuth_stop hy (by omega) hQ1 hv.1 hq' (Or.inr ⟨y00.1, y00.2, by omega, by omega, hc2⟩)
        exact ⟨k, by omega, by rw [show Q = q - 1 from by omega]⟩
      · rw [if_neg hc2]
        obtain ⟨k', a, b⟩ := ih k (q - 1) (r + y1) (by omega) (by omega) (by omega) (by omega) hq' hd hQ00 (by omega)
        exact ⟨k', by omega, b⟩
    by_cases hc1 : q ≥ 4294967296
    · rw [if_pos hc1]; exact up (Or.inl hc1)
    · rw [if_neg hc1]
      have p0 : 0 ≤ q * y0 := Int.mul_nonneg (by omega) y00.1
      have p1 : q * y0 ≤ 4294967295 * 4294967295 := Int.mul_le_mul (by omega) (by omega) y00.1 (by decide)
      simp only [u64w]
      rw [show (q * y0) % 18446744073709551616 = q * y0 from by omega, show ((4294967296 * r) % 18446744073709551616 + v) % 18446744073709551616 = 4294967296 * r + v from by omega]
      by_cases hc2 : q * y0 > 4294967296 * r + v
      · rw [decide_eq_true hc2]; exact up (Or.inr hc2)
      · rw [decide_eq_false hc2, bits_Div64.j1, if_neg (by decide)]
        have hs := knuth_stop hy (by omega) hQ1 hv.1 hq (Or.inl (by omega))
        exact ⟨k, by omega, by rw [show Q = q from by omega]⟩
theorem Div64_l1 (y s y1 y0 w q1 u Q : Int) (hy : y = y1 * 4294967296 + y0) (y00 : 0 ≤ y0 ∧ y0 < 4294967296) (hy1 : 2147483648 ≤ y1 ∧ y1 < 4294967296) (hu : 0 ≤ u ∧ u < y) (hw : 0 ≤ w ∧ w < 4294967296) (hs : 0 ≤ s ∧ s ≤ 63) (hq1 : 0 ≤ q1 ∧ q1 < 4294967296)
    (hQ0 : Q * y ≤ u * 4294967296 + w) (hQ1 : u * 4294967296 + w < (Q + 1) * y) (hQb : Q < 4294967296) : ∀ (n k : Nat) (q r : Int), 4294967296 ≤ n * 2147483648 + r → 0 ≤ r → r < 4294967296 → 2 * n + 4 ≤ k → q * y1 + r = u → Q ≤ q → 0 ≤ Q → q ≤ 4294967297 →
    bits_Div64.l1 k y s y1 y0 w q1 r u q = some (q1 * 4294967296 + Q, (u * 4294967296 + w - Q * y) / 2 ^ s.toNat) := by
  intro n
  have fin : Q * y ≤ u * 4294967296 + w → (q1 * 4294967296 % 18446744073709551616 + Q) % 18446744073709551616 = q1 * 4294967296 + Q ∨ Q < 0 := by
    intro _
    by_cases h : Q < 0
    · exact Or.inr h
    · left; omega
  have sub : ((u * 4294967296 % 18446744073709551616 + w) % 18446744073709551616 - Q * y % 18446744073709551616) % 18446744073709551616 = u * 4294967296 + w - Q * y := by
    have h1 : (Q + 1) * y = Q * y + y := by rw [Int.add_mul, Int.one_mul]
    rw [h1] at hQ1
    have hyb : y < 18446744073709551616 := by omega
    generalize Q * y = p at *
    omega
  have shs : ∀ x : Int, shr .u64 x s = x / 2 ^ s.toNat := by
    intro x; unfold shr; simp only [IntKind.bits]; rw [Nat.min_eq_left (by omega)]
  induction n with
  | zero => intro k q r h0 h1 h2; omega
  | succ n ih =>
    intro k q r h0 hr0 hr1 hk hq hQ hQ00 hqb
    obtain ⟨k, rfl⟩ : ∃ m, k = m + 2 := ⟨k - 2, by omega⟩
    rw [bits_Div64.l1]
    have up : (q ≥ 4294967296 ∨ q * y0 > 4294967296 * r + w) → bits_Div64.j4 (k + 1) y s y1 y0 w q1 r u q true = some (q1 * 4294967296 + Q, (u * 4294967296 + w - Q * y) / 2 ^ s.toNat) := by
      intro hc
      have hd := knuth_down hy y00.1 (by omega) hQ0 hu.2 hw.2 hq hc
      have hq' : (q - 1) * y1 + (r + y1) = u := by rw [Int.sub_mul, Int.one_mul]; omega
      rw [bits_Div64.j4, if_pos rfl]
      simp only [u64w]
      rw [show (r + y1) % 18446744073709551616 = r + y1 from by omega, show (q - 1) % 18446744073709551616 = q - 1 from by omega]
      by_cases hc2 : r + y1 ≥ 4294967296
      · rw [if_pos hc2]
        have hs' := knuth_stop hy (by omega) hQ1 hw.1 hq' (Or.inr ⟨y00.1, y00.2, by omega, by omega, hc2⟩)
        rw [show q - 1 = Q from by omega, if_pos hs.1, shs, sub]
        congr 2
        rcases fin hQ0 with h | h <;> omega
      · rw [if_neg hc2]
        exact ih k (q - 1) (r + y1) (by omega) (by omega) (by omega) (by omega) hq' hd hQ00 (by omega)
    by_cases hc1 : q ≥ 4294967296
    · rw [if_pos hc1]; exact up (Or.inl hc1)
    · rw [if_neg hc1]
      have p0 : 0 ≤ q * y0 := Int.mul_nonneg (by omega) y00.1
      have p1 : q * y0 ≤ 4294967295 * 4294967295 := Int.mul_le_mul (by omega) (by omega) y00.1 (by decide)
      simp only [u64w]
      rw [show (q * y0) % 18446744073709551616 = q * y0 from by omega, show ((4294967296 * r) % 18446744073709551616 + w) % 18446744073709551616 = 4294967296 * r + w from by omega]
      by_cases hc2 : q * y0 > 4294967296 * r + w
      · rw [decide_eq_true hc2]; exact up (Or.inr hc2)
      · rw [decide_eq_false hc2, bits_Div64.j4, if_neg (by decide)]
        have hs' := knuth_stop hy (by omega) hQ1 hw.1 hq (Or.inl (by omega))
        simp only [u64w]
        rw [show q = Q from by omega, if_pos hs.1, shs, sub]
        congr 2
        rcases fin hQ0 with h | h <;> omega
theorem ediv_bounds (a : Int) {b : Int} (hb : 0 < b) : a / b * b ≤ a ∧ a < (a / b + 1) * b := by
  have e := Int.mul_ediv_add_emod a b
  have r0 := Int.emod_nonneg a (show b ≠ 0 from by omega)
  have r1 := Int.emod_lt_of_pos a hb
  rw [Int.mul_comm] at e
  rw [Int.add_mul, Int.one_mul]
  constructor <;> omega
theorem Div64_norm {k : Nat} (hk : 30 ≤ k) {y s y1 y0 u v w : Int} (hy : y = y1 * 4294967296 + y0) (y00 : 0 ≤ y0 ∧ y0 < 4294967296) (hy1 : 2147483648 ≤ y1 ∧ y1 < 4294967296) (hu : 0 ≤ u ∧ u < y) (hv : 0 ≤ v ∧ v < 4294967296) (hw : 0 ≤ w ∧ w < 4294967296) (hs : 0 ≤ s ∧ s ≤ 63) :
    bits_Div64.l0 k y s y1 y0 u v w (u / y1) (u - u / y1 * y1) = some ((u * 18446744073709551616 + (v * 4294967296 + w)) / y, (u * 18446744073709551616 + (v * 4294967296 + w)) % y / 2 ^ s.toNat) := by
  have hyp : 0 < y := by omega
  have e1 := ediv_bounds u (show 0 < y1 from by omega)
  have e1' : (u / y1 + 1) * y1 = u / y1 * y1 + y1 := by rw [Int.add_mul, Int.one_mul]
  have b1 := ediv_bounds (u * 4294967296 + v) hyp
  have q0 : 0 ≤ (u * 4294967296 + v) / y := Int.ediv_nonneg (by omega) (by omega)
  have q0b : (u * 4294967296 + v) / y < 4294967296 := by rw [Int.ediv_lt_iff_lt_mul hyp]; omega
  have q1 : (u * 4294967296 + v) / y ≤ u / y1 := by
    refine Int.le_of_lt_add_one ?_
    rw [Int.ediv_lt_iff_lt_mul hyp, hy]
    have h0 : 0 ≤ u / y1 := Int.ediv_nonneg hu.1 (by omega)
    have h1 : 0 ≤ (u / y1 + 1) * y0 := Int.mul_nonneg (by omega) y00.1
    have h2 : (u / y1 + 1) * (y1 * 4294967296 + y0) = (u / y1 + 1) * y1 * 4294967296 + (u / y1 + 1) * y0 := by rw [Int.mul_add, Int.mul_assoc]
    rw [h2]
    generalize (u / y1 + 1) * y0 = a at *
    generalize (u / y1 + 1) * y1 = b at *
    omega
  obtain ⟨k', hk', h⟩ := Div64_l0 y s y1 y0 u v w ((u * 4294967296 + v) / y) hy y00 hy1 hu hv b1.1 b1.2 2 k (u / y1) (u - u / y1 * y1) (by omega) (by omega) (by omega) (by omega) (by omega) q1 q0 (knuth_first hy y00.2 hy1.1 hu.2)
  rw [h]
  obtain ⟨k', rfl⟩ : ∃ m, k' = m + 1 := ⟨k' - 1, by omega⟩
  have eu := Int.mul_ediv_add_emod (u * 4294967296 + v) y
  have m0 := Int.emod_nonneg (u * 4294967296 + v) (show y ≠ 0 from by omega)
  have m1 := Int.emod_lt_of_pos (u * 4294967296 + v) hyp
  have big : u * 18446744073709551616 + (v * 4294967296 + w) = (u * 4294967296 + v) * 4294967296 + w := by omega
  rw [big]
  generalize (u * 4294967296 + v) / y = Q1 at *
  generalize (u * 4294967296 + v) % y = U at *
  rw [bits_Div64.j2, if_neg (by omega)]
  have eU : IntKind.u64.wrap ((IntKind.u64.wrap ((IntKind.u64.wrap (u * 4294967296)) + v)) - (IntKind.u64.wrap (Q1 * y))) = U := by
    simp only [u64w]
    rw [Int.mul_comm Q1 y]
    generalize y * Q1 = p at *
    omega
  simp only [eU]
  have f1 := ediv_bounds U (show 0 < y1 from by omega)
  have f1' : (U / y1 + 1) * y1 = U / y1 * y1 + y1 := by rw [Int.add_mul, Int.one_mul]
  have f0 : 0 ≤ U / y1 := Int.ediv_nonneg m0 (by omega)
  have fb : U / y1 ≤ 4294967297 := knuth_first hy y00.2 hy1.1 m1
  have et : IntKind.u64.wrap (Int.tdiv U y1) = U / y1 := by rw [Int.tdiv_eq_ediv_of_nonneg m0, u64w]; omega
  have er : IntKind.u64.wrap (U - IntKind.u64.wrap (U / y1 * y1)) = U - U / y1 * y1 := by simp only [u64w]; omega
  rw [et, er]
  have c1 := ediv_bounds (U * 4294967296 + w) hyp
  have g0 : 0 ≤ (U * 4294967296 + w) / y := Int.ediv_nonneg (by omega) (by omega)
  have g0b : (U * 4294967296 + w) / y < 4294967296 := by rw [Int.ediv_lt_iff_lt_mul hyp]; omega
  have g1 : (U * 4294967296 + w) / y ≤ U / y1 := by
    refine Int.le_of_lt_add_one ?_
    rw [Int.ediv_lt_iff_lt_mul hyp, hy]
    have h1 : 0 ≤ (U / y1 + 1) * y0 := Int.mul_nonneg (by omega) y00.1
    have h2 : (U / y1 + 1) * (y1 * 4294967296 + y0) = (U / y1 + 1) * y1 * 4294967296 + (U / y1 + 1) * y0 := by rw [Int.mul_add, Int.mul_assoc]
    rw [h2]
    generalize (U / y1 + 1) * y0 = a at *
    generalize (U / y1 + 1) * y1 = b at *
    omega
  rw [Div64_l1 y s y1 y0 w Q1 U ((U * 4294967296 + w) / y) hy y00 hy1 ⟨m0, m1⟩ hw hs ⟨q0, q0b⟩ c1.1 c1.2 g0b 2 k' (U / y1) (U - U / y1 * y1) (by omega) (by omega) (by omega) (by omega) (by omega) g1 g0 fb]
  have eW := Int.mul_ediv_add_emod (U * 4294967296 + w) y
  have n0 := Int.emod_nonneg (U * 4294967296 + w) (show y ≠ 0 from by omega)
  have n1 := Int.emod_lt_of_pos (U * 4294967296 + w) hyp
  obtain ⟨z1, z2⟩ := div_unique (a := (u * 4294967296 + v) * 4294967296 + w) (d := y) (q := Q1 * 4294967296 + (U * 4294967296 + w) / y) (r := (U * 4294967296 + w) % y) (by
    rw [Int.add_mul, Int.mul_right_comm, Int.mul_comm Q1 y, Int.mul_comm ((U * 4294967296 + w) / y) y]
    generalize y * Q1 = a at *
    generalize y * ((U * 4294967296 + w) / y) = b at *
    omega) n0 n1
  rw [z1, z2]
  congr 3
  rw [Int.mul_comm ((U * 4294967296 + w) / y) y]; omega
theorem bits_Div64_eq {k : Nat} (hk : 30 ≤ k) {hi lo y : Int} (hy : 0 < y ∧ y < 18446744073709551616) (hhi : 0 ≤ hi ∧ hi < y) (hlo : U64 lo) :
    bits_Div64.f k hi lo y = some ((hi * 18446744073709551616 + lo) / y, (hi * 18446744073709551616 + lo) % y) := by
  unfold bits_Div64.f
  rw [if_neg (by omega), if_neg (by omega)]
  by_cases h0 : hi = 0
  · rw [if_pos h0, h0, Int.tdiv_eq_ediv_of_nonneg hlo.1, Int.tmod_eq_emod_of_nonneg hlo.1, u64w]
    have a : 0 ≤ lo / y := Int.ediv_nonneg hlo.1 (by omega)
    have b : lo / y ≤ lo := Int.ediv_le_self _ hlo.1
    rw [show 0 * 18446744073709551616 + lo = lo from by omega, show lo / y % 18446744073709551616 = lo / y from by omega]
  rw [if_neg h0]
  obtain ⟨m, em, ma, mb, mc⟩ := bitLen_spec y.toNat (by omega) (by omega)
  unfold bits_LeadingZeros64.f
  rw [if_pos (by omega), if_pos (by omega), em]
  simp only [Option.bind_some]
  obtain ⟨s, hs⟩ : ∃ s : Nat, s = 63 - m := ⟨_, rfl⟩
  have e1 : IntKind.u64.wrap (64 - ((m + 1 : Nat) : Int)) = (s : Int) := by rw [u64w]; omega
  have e2 : IntKind.u64.wrap (64 - (s : Int)) = ((64 - s : Nat) : Int) := by rw [u64w]; omega
  rw [e1, e2, if_pos (by omega), if_pos (by omega)]
  have hp := pow_pos s
  have ma' : (2 : Int) ^ m ≤ y := by
    have : ((2 ^ m : Nat) : Int) ≤ (y.toNat : Int) := Int.ofNat_le.2 ma
    rw [Int.natCast_pow] at this
    rw [Int.toNat_of_nonneg (by omega)] at this; exact this
  have mb' : y < (2 : Int) ^ (m + 1) := by
    have : (y.toNat : Int) < ((2 ^ (m + 1) : Nat) : Int) := Int.ofNat_lt.2 mb
    rw [Int.natCast_pow] at this
    rw [Int.toNat_of_nonneg (by omega)] at this; exact this
  have p63 : (2 : Int) ^ m * 2 ^ s = 9223372036854775808 := by rw [← Int.pow_add, show m + s = 63 from by omega]; decide
  have p64 : (2 : Int) ^ (m + 1) * 2 ^ s = 18446744073709551616 := by rw [← Int.pow_add, show m + 1 + s = 64 from by omega]; decide
  have p64' : (2 : Int) ^ (64 - s) * 2 ^ s = 18446744073709551616 := by rw [← Int.pow_add, show 64 - s + s = 64 from by omega]; decide
  have y63 : 9223372036854775808 ≤ y * 2 ^ s := by rw [← p63]; exact Int.mul_le_mul_of_nonneg_right ma' (by omega)
  have y64 : y * 2 ^ s < 18446744073709551616 := by rw [← p64]; exact Int.mul_lt_mul_of_pos_right mb' hp
  have eshl : ∀ x : Int, shl .u64 x (s : Int) = (x * 2 ^ s) % 18446744073709551616 := by
    intro x; unfold shl; simp only [IntKind.bits]; rw [u64w, show ((s : Int)).toNat = s from by omega, Nat.min_eq_left (by omega)]
  have eshr : ∀ x : Int, shr .u64 x ((64 - s : Nat) : Int) = x / 2 ^ (64 - s) := by
    intro x; unfold shr; simp only [IntKind.bits]; rw [show (((64 - s : Nat) : Int)).toNat = 64 - s from by omega, Nat.min_eq_left (by omega)]
  have hh : hi * 2 ^ s + 2 ^ s ≤ y * 2 ^ s := by
    have : (hi + 1) * 2 ^ s ≤ y * 2 ^ s := Int.mul_le_mul_of_nonneg_right (by omega) (by omega)
    rw [Int.add_mul, Int.one_mul] at this; exact this
  have hh0 : 0 ≤ hi * 2 ^ s := Int.mul_nonneg hhi.1 (by omega)
  rw [eshl, eshl, eshl, eshr, Int.emod_eq_of_lt (show 0 ≤ y * 2 ^ s from by omega) y64, Int.emod_eq_of_lt hh0 (by omega)]
  have lp := pow_pos (64 - s)
  have l1 : lo / 2 ^ (64 - s) < 2 ^ s := by
    rw [Int.ediv_lt_iff_lt_mul lp, Int.mul_comm, p64']; exact hlo.2
  have l0 : 0 ≤ lo / 2 ^ (64 - s) := Int.ediv_nonneg hlo.1 (by omega)
  have ejoin : Go.bits .or .u64 (hi * 2 ^ s) (lo / 2 ^ (64 - s)) = hi * 2 ^ s + lo / 2 ^ (64 - s) := by
    have e64 : (2 : Int) ^ 64 = 18446744073709551616 := by decide
    exact bits_join .u64 64 (by decide) (fun n h0 h1 => by rw [u64w]; omega) s _ _ hh0 (Int.mul_emod_left _ _) (by omega) l0 l1 (by omega)
  rw [ejoin, u64and32, u64and32]
  have elo : lo / 2 ^ (64 - s) * 18446744073709551616 + lo * 2 ^ s % 18446744073709551616 = lo * 2 ^ s := by
    have e := Int.mul_ediv_add_emod (lo * 2 ^ s) 18446744073709551616
    have : lo * 2 ^ s / 18446744073709551616 = lo / 2 ^ (64 - s) := by
      rw [← p64', Int.mul_ediv_mul_of_pos_left _ _ hp]
    rw [this] at e; omega
  have t0 : 0 ≤ lo * 2 ^ s % 18446744073709551616 ∧ lo * 2 ^ s % 18446744073709551616 < 18446744073709551616 := by omega
  have big : (hi * 18446744073709551616 + lo) * 2 ^ s = (hi * 2 ^ s + lo / 2 ^ (64 - s)) * 18446744073709551616 + lo * 2 ^ s % 18446744073709551616 := by
    rw [Int.add_mul, Int.add_mul, Int.mul_right_comm]; omega
  have res1 : (hi * 18446744073709551616 + lo) / y = (hi * 18446744073709551616 + lo) * 2 ^ s / (y * 2 ^ s) := (Int.mul_ediv_mul_of_pos_left _ _ hp).symm
  have res2 : (hi * 18446744073709551616 + lo) % y = (hi * 18446744073709551616 + lo) * 2 ^ s % (y * 2 ^ s) / 2 ^ s := by
    rw [Int.mul_comm (hi * 18446744073709551616 + lo), Int.mul_comm y, Int.mul_emod_mul_of_pos _ _ hp, Int.mul_ediv_cancel_left _ (by omega)]
  rw [res1, res2, big]
  clear res1 res2 big elo ejoin
  have hu00 : 0 ≤ hi * 2 ^ s + lo / 2 ^ (64 - s) ∧ hi * 2 ^ s + lo / 2 ^ (64 - s) < y * 2 ^ s := by omega
  generalize hi * 2 ^ s + lo / 2 ^ (64 - s) = u at *
  generalize lo * 2 ^ s % 18446744073709551616 = T at *
  generalize hY : y * 2 ^ s = Y at *
  have hu : 0 ≤ u ∧ u < Y := hu00
  have hy1 : 0 < Y / 4294967296 := by omega
  have uq := ediv_bounds u hy1
  have uq' : (u / (Y / 4294967296) + 1) * (Y / 4294967296) = u / (Y / 4294967296) * (Y / 4294967296) + Y / 4294967296 := by rw [Int.add_mul, Int.one_mul]
  have uq0 : 0 ≤ u / (Y / 4294967296) := Int.ediv_nonneg hu.1 (by omega)
  have uq1 : u / (Y / 4294967296) ≤ u := Int.ediv_le_self _ hu.1
  have et : IntKind.u64.wrap (Int.tdiv u (Y / 4294967296)) = u / (Y / 4294967296) := by rw [Int.tdiv_eq_ediv_of_nonneg hu.1, u64w]; omega
  have er : IntKind.u64.wrap (u - IntKind.u64.wrap (u / (Y / 4294967296) * (Y / 4294967296))) = u - u / (Y / 4294967296) * (Y / 4294967296) := by simp only [u64w]; omega
  rw [if_neg (by omega), et, er]
  have h := Div64_norm hk (y := Y) (s := (s : Int)) (y1 := Y / 4294967296) (y0 := Y % 4294967296) (u := u) (v := T / 4294967296) (w := T % 4294967296) (by omega) (by omega) (by omega) hu (by omega) (by omega) (by omega)
  rw [h, show T / 4294967296 * 4294967296 + T % 4294967296 = T from by omega, show ((s : Int)).toNat = s from by omega]

theorem add64_u {x y : Int} (hx : U64 x) (hy : U64 y) : add64s x y 0 = (x + y) % 18446744073709551616 ∧ add64c x y 0 = (x + y) / 18446744073709551616 := by
  unfold add64s add64c
  constructor <;> (simp only [Int.toNat_zero]; omega)
theorem hold_big {b : Bool} {m n : Int} (hm : 9223372036854775808 ≤ m) (hn : 9223372036854775808 ≤ n) : hold (sgn b m) = hold (sgn b n) := by
  unfold hold sgn
  cases b
  · simp only [Bool.false_eq_true, if_false]; rw [if_neg (by omega), if_pos (by omega), if_neg (by omega), if_pos (by omega)]
  · simp only [if_true]
    by_cases h1 : m = 9223372036854775808
    · by_cases h2 : n = 9223372036854775808
      · rw [h1, h2]
      · rw [if_neg (by omega), if_neg (by omega), if_pos (by omega)]; omega
    · by_cases h2 : n = 9223372036854775808
      · rw [if_pos (by omega), if_neg (by omega), if_neg (by omega)]; omega
      · rw [if_pos (by omega), if_pos (by omega)]
theorem wide_MulDiv_eq {k : Nat} (hk : 40 ≤ k) {a b d : Int} (ha : I64 a) (hb : I64 b) (hd : I64 d) : wide_MulDiv.f k a b d = some (hold (rdiv (a * b) d)) := by
  unfold wide_MulDiv.f
  by_cases hd0 : d = 0
  · rw [if_pos hd0, hd0]; simp [rdiv, hold]
  have ua := siz_u ha
  have ub := siz_u hb
  have ud := siz_u hd
  have ud0 : siz d ≠ 0 := fun h => hd0 (siz_zero.1 h)
  rw [if_neg hd0, wide_product_eq ha hb, wide_size_eq hd]
  simp only [Option.bind_some]
  have p0 := Int.mul_nonneg ua.1 ub.1
  have p1 : siz a * siz b ≤ 9223372036854775808 * 9223372036854775808 := Int.mul_le_mul ua.2 ub.2 ub.1 (by decide)
  have e0 := sgn_siz2 a b
  have es := sgn_xor ((decide (a < 0)) != (decide (b < 0))) d (siz a * siz b) hd0
  rw [e0] at es
  rw [← es]
  generalize siz a * siz b = p at *
  generalize ((decide (a < 0)) != (decide (b < 0))) = s0 at *
  generalize (s0 != decide (d < 0)) = s at *
  generalize siz d = D at *
  have q0 : 0 ≤ p / D := Int.ediv_nonneg p0 (by omega)
  have eqp := ediv_bounds p (show 0 < D from by omega)
  rw [rdiv_sgn s p0 (by omega)]
  by_cases c : p / 18446744073709551616 ≥ D
  · rw [if_pos c, wide_signed_eq (by omega) (by omega) (by omega)]
    simp only [Option.bind_some]
    congr 1
    have big : 18446744073709551616 ≤ p / D := by
      rw [Int.le_ediv_iff_mul_le (by omega)]; omega
    refine hold_big (by omega) ?_
    cases s <;> (simp only [Bool.false_eq_true, if_false, if_true]; split <;> omega)
  · rw [if_neg c, bits_Div64_eq (by omega) (by omega) (by omega) (by omega)]
    simp only [Option.bind_some]
    rw [show p / 18446744073709551616 * 18446744073709551616 + p % 18446744073709551616 = p from by omega]
    have r0 := Int.emod_nonneg p (show D ≠ 0 from by omega)
    have r1 := Int.emod_lt_of_pos p (show 0 < D from by omega)
    have qb : p / D < 18446744073709551616 := by rw [Int.ediv_lt_iff_lt_mul (by omega)]; omega
    generalize p % D = r at *
    generalize p / D = q at *
    rw [u64w, show (D - r) % 18446744073709551616 = D - r from by omega]
    obtain ⟨k, rfl⟩ : ∃ n, k = n + 1 := ⟨k - 1, by omega⟩
    have up : ∀ s, wide_MulDiv.j0 (k + 1) s q 0 true = some (hold (sgn s (q + 1))) := by
      intro s
      obtain ⟨x1, x2⟩ := add64_u (x := q) (y := 1) (by omega) (by omega)
      rw [wide_MulDiv.j0, if_pos rfl, x1, x2, wide_signed_eq (by omega) (by omega) (by omega)]
      simp only [Option.bind_some]; congr 3; omega
    have dn : ∀ s, wide_MulDiv.j0 (k + 1) s q 0 false = some (hold (sgn s q)) := by
      intro s
      obtain ⟨x1, x2⟩ := add64_u (x := q) (y := 0) (by omega) (by omega)
      rw [wide_MulDiv.j0, if_neg (by decide), x1, x2, wide_signed_eq (by omega) (by omega) (by omega)]
      simp only [Option.bind_some]; congr 3; omega
    cases s
    · simp only [Bool.false_eq_true, if_false]
      by_cases g : r ≥ D - r
      · rw [if_pos g, decide_eq_true g]; exact up _
      · rw [if_neg g, decide_eq_false g]; exact dn _
    · simp only [if_true]
      by_cases g : r > D - r
      · rw [if_pos g, if_pos g]; exact up _
      · rw [if_neg g, if_neg g]; exact dn _

theorem ref06_plus_eq {k : Nat} (hk : 1 ≤ k) {a b : Int} (ha : I64 a) (hb : I64 b) : smaltoref06_plus.f k a b = some (hold (a + b)) := by
  obtain ⟨k, rfl⟩ : ∃ m, k = m + 1 := ⟨k - 1, by omega⟩
  unfold smaltoref06_plus.f
  by_cases h1 : b > 0
  · rw [if_pos h1, w64_id (by omega) (by omega), smaltoref06_plus.j0]
    by_cases h2 : a > 9223372036854775807 - b
    · rw [if_pos (by simpa using h2)]
      unfold hold; rw [if_neg (by omega), if_pos (by omega)]
    · rw [if_neg (by simpa using h2), if_neg (by omega), w64_id (by omega) (by omega), hold_id (by omega) (by omega)]
  · rw [if_neg h1, smaltoref06_plus.j0, if_neg (by decide)]
    by_cases h2 : b < 0
    · rw [if_pos h2, w64_id (show -9223372036854775808 ≤ -9223372036854775808 - b from by omega) (by omega)]
      by_cases h3 : a < -9223372036854775808 - b
      · rw [if_pos h3]; unfold hold; rw [if_pos (by omega)]
      · rw [if_neg h3, w64_id (by omega) (by omega), hold_id (by omega) (by omega)]
    · rw [if_neg h2, w64_id (by omega) (by omega), hold_id (by omega) (by omega)]

theorem szV_is {x : Int} (hx : I64 x) : szV x = if x ≥ 0 then x else if x < -9223372036854775807 then 9223372036854775807 else -x := by
  have e : x * -1 = -x := by omega
  unfold szV
  rw [e]
  unfold mx hold
  repeat' split
  all_goals omega
theorem ref06_Size_eq {x : Int} (hx : I64 x) : smaltoref06_Size.f x = some (szV x) := by
  rw [szV_is hx]
  unfold smaltoref06_Size.f
  by_cases h1 : x ≥ 0
  · rw [if_pos h1, if_pos h1]
  · rw [if_neg h1, if_neg h1]
    by_cases h2 : x < -9223372036854775807
    · rw [if_pos h2, if_pos h2]
    · rw [if_neg h2, if_neg h2, w64_id (by omega) (by omega)]
theorem szV_i {x : Int} (hx : I64 x) : 0 ≤ szV x ∧ szV x ≤ 9223372036854775807 := by
  rw [szV_is hx]; repeat' split
  all_goals omega

/-- The sum without signs, held at each step. -/
def szFrom (s : Int) (l : List Int) : Int := l.foldl (fun s x => hold (s + szV x)) s
theorem rd_i64 {l : List Int} (hx : ∀ x ∈ l, I64 x) (i : Int) : I64 (rd l i) := by
  unfold rd
  rw [List.getD_eq_getElem?_getD]
  rcases Nat.lt_or_ge i.toNat l.length with q | q
  · rw [List.getElem?_eq_getElem q]; exact hx _ (List.getElem_mem _)
  · rw [List.getElem?_eq_none q]; decide
theorem drop_rd {l : List Int} {i : Nat} (h : i < l.length) : l.drop i = rd l (i : Int) :: l.drop (i + 1) := by
  rw [List.drop_eq_getElem_cons h]
  congr 1
  unfold rd
  rw [List.getD_eq_getElem?_getD, show ((i : Int)).toNat = i from by omega, List.getElem?_eq_getElem h]; rfl
theorem szFrom_i {s : Int} (hs : 0 ≤ s ∧ s ≤ 9223372036854775807) : ∀ {l : List Int}, (∀ x ∈ l, I64 x) → 0 ≤ szFrom s l ∧ szFrom s l ≤ 9223372036854775807 := by
  intro l
  induction l generalizing s with
  | nil => intro _; exact hs
  | cons x l ih =>
    intro hx
    have h1 := szV_i (hx x List.mem_cons_self)
    refine ih (s := hold (s + szV x)) ⟨?_, hold_le _⟩ (fun y hy => hx y (List.mem_cons_of_mem _ hy))
    unfold hold; split
    · omega
    · split <;> omega
theorem taps_Size_l0 (l : List Int) (hl : l.length < 4611686018427387904) (hx : ∀ x ∈ l, I64 x) : ∀ (d k i : Nat) (s : Int), i + d = l.length → d + 2 < k → I64 s → taps_Size.l0 k s l (l.length : Int) (i : Int) = some (szFrom s (l.drop i)) := by
  intro d
  induction d with
  | zero =>
    intro k i s h1 h2 hs
    obtain ⟨k, rfl⟩ : ∃ m, k = m + 1 := ⟨k - 1, by omega⟩
    rw [taps_Size.l0, if_neg (by omega), List.drop_of_length_le (by omega)]; rfl
  | succ d ih =>
    intro k i s h1 h2 hs
    obtain ⟨k, rfl⟩ : ∃ m, k = m + 1 := ⟨k - 1, by omega⟩
    have hz := szV_i (rd_i64 hx (i : Int))
    rw [taps_Size.l0, if_pos (by omega), if_pos (by omega), if_pos (by omega), taps_size_eq (by omega) (rd_i64 hx _)]
    simp only [Option.bind_some]
    rw [fixed_Add_eq (by omega) hs (by constructor <;> omega)]
    simp only [Option.bind_some]
    rw [w64_id (show -9223372036854775808 ≤ (i : Int) + 1 from by omega) (by omega), drop_rd (by omega)]
    exact ih k (i + 1) _ (by omega) (by omega) (hold_i _)
theorem taps_Size_eq {k : Nat} {l : List Int} (hk : l.length + 3 ≤ k) (hl : l.length < 4611686018427387904) (hx : ∀ x ∈ l, I64 x) : taps_Size.f k l = some (szFrom 0 l) :=
  taps_Size_l0 l hl hx l.length k 0 0 (by omega) (by omega) (by decide)

theorem ref06_Sum_l0 (l : List Int) (hl : l.length < 4611686018427387904) (hx : ∀ x ∈ l, I64 x) : ∀ (d k i : Nat) (s : Int), i + d = l.length → d + 2 < k → I64 s → smaltoref06_Sum.l0 k s l (l.length : Int) (i : Int) = some (sumFrom s (l.drop i)) := by
  intro d
  induction d with
  | zero =>
    intro k i s h1 h2 hs
    obtain ⟨k, rfl⟩ : ∃ m, k = m + 1 := ⟨k - 1, by omega⟩
    rw [smaltoref06_Sum.l0, if_neg (by omega), List.drop_of_length_le (by omega)]; rfl
  | succ d ih =>
    intro k i s h1 h2 hs
    obtain ⟨k, rfl⟩ : ∃ m, k = m + 1 := ⟨k - 1, by omega⟩
    rw [smaltoref06_Sum.l0, if_pos (by omega), if_pos (by omega), if_pos (by omega), ref06_plus_eq (by omega) hs (rd_i64 hx _)]
    simp only [Option.bind_some]
    rw [w64_id (show -9223372036854775808 ≤ (i : Int) + 1 from by omega) (by omega), drop_rd (by omega)]
    exact ih k (i + 1) _ (by omega) (by omega) (hold_i _)
theorem ref06_Sum_eq {k : Nat} {l : List Int} (hk : l.length + 3 ≤ k) (hl : l.length < 4611686018427387904) (hx : ∀ x ∈ l, I64 x) : smaltoref06_Sum.f k l = some (sumFrom 0 l) :=
  ref06_Sum_l0 l hl hx l.length k 0 0 (by omega) (by omega) (by decide)

/-- A user's raw weights. -/
def userV (l : List Int) : List Int × Int := if l.length % 2 = 0 ∨ l.length > 1024 ∨ szFrom 0 l < 1 ∨ szFrom 0 l > 1048576 then ([], 7) else ((List.range l.length).map (fun (i : Nat) => hold (rdiv (rd l (i : Int) * 1073741824) (szFrom 0 l))), 0)
theorem taps_User_l0 (l : List Int) (s : Int) (hs : I64 s) (hl : l.length ≤ 1024) (hx : ∀ x ∈ l, I64 x) : ∀ (d k i : Nat), i + d = l.length → d + 60 < k →
    taps_User.l0 k s ((List.range i).map (fun (i : Nat) => hold (rdiv (rd l (i : Int) * 1073741824) s))) l (l.length : Int) (i : Int) = some ((List.range l.length).map (fun (i : Nat) => hold (rdiv (rd l (i : Int) * 1073741824) s)), 0) := by
  intro d
  induction d with
  | zero =>
    intro k i h1 h2
    obtain ⟨k, rfl⟩ : ∃ m, k = m + 1 := ⟨k - 1, by omega⟩
    rw [taps_User.l0, if_neg (by omega), show i = l.length from by omega]
  | succ d ih =>
    intro k i h1 h2
    obtain ⟨k, rfl⟩ : ∃ m, k = m + 1 := ⟨k - 1, by omega⟩
    rw [taps_User.l0, if_pos (by omega), if_pos (by omega), if_pos (by omega), wide_MulDiv_eq (by omega) (rd_i64 hx _) (by decide) hs]
    simp only [Option.bind_some]
    rw [if_pos (by simp; omega), w64_id (by omega) (by omega)]
    have := ih k (i + 1) (by omega) (by omega)
    rw [List.range_succ, List.map_append] at this
    exact this
theorem taps_User_eq {k : Nat} {l : List Int} (hk : l.length + 100 ≤ k) (hl : l.length < 4611686018427387904) (hx : ∀ x ∈ l, I64 x) : taps_User.f k l = some (userV l) := by
  obtain ⟨k, rfl⟩ : ∃ m, k = m + 1 := ⟨k - 1, by omega⟩
  have hz := szFrom_i (s := 0) (by decide) hx
  unfold taps_User.f userV
  rw [taps_Size_eq (by omega) hl hx]
  simp only [Option.bind_some]
  by_cases h1 : (l.length : Int) % 2 = 0
  · rw [if_pos h1, taps_User.j0, if_pos rfl, if_pos (Or.inl (by omega))]
  rw [if_neg h1]
  by_cases h2 : (l.length : Int) > 1024
  · rw [if_pos h2, taps_User.j0, if_pos rfl, if_pos (Or.inr (Or.inl (by omega)))]
  rw [if_neg h2]
  by_cases h3 : szFrom 0 l < 1
  · rw [if_pos h3, taps_User.j0, if_pos rfl, if_pos (Or.inr (Or.inr (Or.inl h3)))]
  rw [if_neg h3, taps_User.j0]
  by_cases h4 : szFrom 0 l > 1048576
  · rw [if_pos (by simpa using h4), if_pos (Or.inr (Or.inr (Or.inr h4)))]
  rw [if_neg (by simpa using h4), if_neg (by omega)]
  exact taps_User_l0 l (szFrom 0 l) (by constructor <;> omega) (by omega) hx l.length k 0 (by omega) (by omega)

theorem lives06 {k : Nat} (hk : 400 ≤ k) : smaltolaw06_Lives.f k = some true :=
  at_rounds (fun k => smaltolaw06_Lives.mono k) hk (show smaltolaw06_Lives.f 400 = some true by decide +kernel)

theorem ref06_l3 (o r : List Int) (left : Int) (n : Nat) (hr : r.length = n) (ho : o.length = n) (h1 : 1 ≤ n) (hn : n ≤ 1048576) : ∀ (d k i : Nat), i + d = n →
    smaltoref06_Apportion.l3 (k + d + 1) o r left (best r i : Int) (n : Int) (i : Int) = smaltoref06_Apportion.l2 k (o.set (best r n) (wrap64 (rd o (best r n : Int) + 1))) (r.set (best r n) (-1)) (wrap64 (left - 1)) := by
  intro d
  induction d with
  | zero =>
    intro k i hi
    have e : i = n := by omega
    have hb := best_lt r n h1
    rw [smaltoref06_Apportion.l3, if_neg (by omega), e, if_pos (by omega), if_pos (by omega), if_pos (by omega)]
    rw [show ((best r n : Nat) : Int).toNat = best r n from by omega]
  | succ d ih =>
    intro k i hi
    have hb : best r i < n := by
      by_cases c : 1 ≤ i
      · have := best_lt r i c; omega
      · have : i = 0 := by omega
        subst this; rw [best]; omega
    rw [show k + (d + 1) + 1 = (k + d + 1) + 1 from by omega, smaltoref06_Apportion.l3, if_pos (by omega), if_pos (by omega), if_pos (by omega), if_pos (by omega), if_pos (by omega)]
    have := ih k (i + 1) (by omega)
    rw [best] at this
    rw [w64_id (show -9223372036854775808 ≤ (i : Int) + 1 from by omega) (by omega)]
    by_cases c : rd r (i : Int) > rd r (best r i : Int)
    · rw [if_pos c] at this ⊢; exact this
    · rw [if_neg c] at this ⊢; exact this
theorem rd_set (o : List Int) (b : Nat) (v : Int) (hb : b < o.length) (j : Nat) : rd (o.set b v) (j : Int) = if j = b then v else rd o (j : Int) := by
  unfold rd
  rw [List.getD_eq_getElem?_getD, List.getD_eq_getElem?_getD, show ((j : Int)).toNat = j from by omega, List.getElem?_set]
  by_cases c : b = j
  · subst c; rw [if_pos rfl, if_pos rfl, if_pos hb]; rfl
  · rw [if_neg c, if_neg (fun e => c e.symm)]
theorem ref06_l2 (n : Nat) (h1 : 1 ≤ n) (hn : n ≤ 1048576) : ∀ (t k : Nat) (o r : List Int), o.length = n → r.length = n → (t : Int) ≤ 1048576 → (∀ j : Nat, -1099511627776 ≤ rd o (j : Int) ∧ rd o (j : Int) + t ≤ 1099511627776) →
    smaltoref06_Apportion.l2 (k + t * (n + 2) + 1) o r (t : Int) = some (picks t o r, 0) := by
  intro t
  induction t with
  | zero =>
    intro k o r ho hr ht hb
    rw [smaltoref06_Apportion.l2, if_neg (by omega)]; rfl
  | succ t ih =>
    intro k o r ho hr ht hb
    have e : k + (t + 1) * (n + 2) + 1 = ((k + t * (n + 2) + 1) + n + 1) + 1 := by rw [Nat.add_mul, Nat.one_mul]; omega
    have h3 := ref06_l3 o r ((t + 1 : Nat) : Int) n hr ho h1 hn n (k + t * (n + 2) + 1) 0 (by omega)
    have hbb := best_lt r n h1
    have hbd := hb (best r n)
    rw [e, smaltoref06_Apportion.l2, if_pos (by omega), hr]
    rw [show ((best r 0 : Nat) : Int) = 0 from rfl] at h3
    rw [show (0 : Int) = ((0 : Nat) : Int) from rfl]
    refine h3.trans ?_
    rw [w64_id (show -9223372036854775808 ≤ rd o (best r n : Int) + 1 from by omega) (by omega), w64_id (show -9223372036854775808 ≤ ((t + 1 : Nat) : Int) - 1 from by omega) (by omega), show ((t + 1 : Nat) : Int) - 1 = (t : Int) from by omega, picks, hr]
    refine ih k _ _ (by rw [List.length_set]; exact ho) (by rw [List.length_set]; exact hr) (by omega) (fun j => ?_)
    rw [rd_set _ _ _ (by omega)]
    have := hb j
    split
    · rename_i c; subst c; omega
    · omega
theorem ref06_l1 {l : List Int} {s : Int} (hG : Good l s) (R : Option (List Int × Int)) (K : Nat) (hR : ∀ k, K ≤ k → smaltoref06_Apportion.l2 k ((List.range l.length).map fun j => qV l s j) ((List.range l.length).map fun j => mV l s j) (16384 - psum (qV l s) l.length) = R) : ∀ (d k i : Nat), i + d = l.length → d + K + 200 < k →
    smaltoref06_Apportion.l1 k s ((List.range i).map fun j => qV l s j) ((List.range i).map fun j => mV l s j) (16384 - psum (qV l s) i) l (l.length : Int) (i : Int) = R := by
  intro d
  induction d with
  | zero =>
    intro k i h1 h2
    obtain ⟨k, rfl⟩ : ∃ m, k = m + 1 := ⟨k - 1, by omega⟩
    rw [smaltoref06_Apportion.l1, if_neg (by omega), show i = l.length from by omega]
    exact hR k (by omega)
  | succ d ih =>
    intro k i h1 h2
    obtain ⟨k, rfl⟩ : ∃ m, k = m + 1 := ⟨k - 1, by omega⟩
    have hx := hG.xb i (by omega)
    have hq := hG.qb i (by omega)
    have hs := hG.sb
    have hn1 := hG.n1
    have hp := psum_bnd (qV l s) l.length hG.qb i (by omega)
    have e := Int.mul_ediv_add_emod (rd l (i : Int) * 16384) s
    have r0 := Int.emod_nonneg (rd l (i : Int) * 16384) (show s ≠ 0 by omega)
    have r1 := Int.emod_lt_of_pos (rd l (i : Int) * 16384) (show 0 < s by omega)
    have eq : qV l s i = rd l (i : Int) * 16384 / s := rfl
    have em : mV l s i = rd l (i : Int) * 16384 % s := rfl
    have ec : qV l s i * s = s * (rd l (i : Int) * 16384 / s) := by rw [eq, Int.mul_comm]
    rw [smaltoref06_Apportion.l1, if_pos (by omega), if_pos (by omega), if_pos (by omega), w64_id (show -9223372036854775808 ≤ rd l (i : Int) * 16384 from by omega) (by omega), ref01_Floor_eq (by omega) (by constructor <;> omega) (by constructor <;> omega)]
    simp only [Option.bind_some]
    rw [if_pos (by simp; omega), if_pos (by simp; omega)]
    have ef : hold (flo (rd l (i : Int) * 16384) s) = qV l s i := by
      unfold flo; rw [if_pos (by omega), ← eq, hold_id (by omega) (by omega)]
    rw [ef, w64_id (show -9223372036854775808 ≤ qV l s i * s from by omega) (by omega), w64_id (show -9223372036854775808 ≤ rd l (i : Int) * 16384 - qV l s i * s from by omega) (by omega), show rd l (i : Int) * 16384 - qV l s i * s = mV l s i from by omega,
      w64_id (show -9223372036854775808 ≤ 16384 - psum (qV l s) i - qV l s i from by omega) (by omega), w64_id (show -9223372036854775808 ≤ (i : Int) + 1 from by omega) (by omega)]
    have := ih k (i + 1) (by omega) (by omega)
    rw [List.range_succ, List.map_append, List.map_append, psum] at this
    rw [show 16384 - psum (qV l s) i - qV l s i = 16384 - (psum (qV l s) i + qV l s i) from by omega]
    exact this
theorem ref06_Apportion_eq {l : List Int} (hx : ∀ x ∈ l, I64 x) (hl : l.length < 4611686018427387904) : ∃ K, ∀ k, K ≤ k → smaltoref06_Apportion.f k l = some (if chkV l = 0 then (appL l, 0) else ([], chkV l)) := by
  by_cases h0 : l.length = 0
  · refine ⟨2, fun k hk => ?_⟩
    obtain ⟨k, rfl⟩ : ∃ m, k = m + 1 := ⟨k - 1, by omega⟩
    have e : chkV l = 7 := by unfold chkV; rw [if_pos (Or.inl h0)]
    unfold smaltoref06_Apportion.f
    rw [if_pos (by omega), smaltoref06_Apportion.j0, if_pos rfl, e]; rfl
  by_cases h1 : l.length > 1048576
  · refine ⟨2, fun k hk => ?_⟩
    obtain ⟨k, rfl⟩ : ∃ m, k = m + 1 := ⟨k - 1, by omega⟩
    have e : chkV l = 7 := by unfold chkV; rw [if_pos (Or.inr (Or.inl h1))]
    unfold smaltoref06_Apportion.f
    rw [if_neg (by omega), smaltoref06_Apportion.j0, if_pos (by simp; omega), e]; rfl
  -- the sizes, one behind the other
  have loop : ∀ (R : Option (List Int × Int)) (K : Nat), ((∃ x ∈ l, szV x > 1099511627776) → R = some ([], 7)) → ((¬ ∃ x ∈ l, szV x > 1099511627776) → ∀ k, K ≤ k → (smaltoref06_Sum.f k l).bind (fun t => if t < 268435456 then some (([] : List Int), (8 : Int)) else smaltoref06_Apportion.l1 k t [] [] 16384 l (l.length : Int) 0) = R) →
      ∀ (d k i : Nat), i + d = l.length → d + K + 2 < k → (∀ j, j < i → ¬ szV (rd l (j : Int)) > 1099511627776) → smaltoref06_Apportion.l0 k l l (l.length : Int) (i : Int) = R := by
    intro R K g1 g2 d
    induction d with
    | zero =>
      intro k i q1 q2 q3
      obtain ⟨k, rfl⟩ : ∃ m, k = m + 1 := ⟨k - 1, by omega⟩
      rw [smaltoref06_Apportion.l0, if_neg (by omega)]
      refine g2 ?_ k (by omega)
      rintro ⟨x, hx1, hx2⟩
      obtain ⟨j, hj, rfl⟩ := List.getElem_of_mem hx1
      have := q3 j (by omega)
      unfold rd at this
      rw [List.getD_eq_getElem?_getD, show ((j : Int)).toNat = j from by omega, List.getElem?_eq_getElem hj] at this
      exact this hx2
    | succ d ih =>
      intro k i q1 q2 q3
      obtain ⟨k, rfl⟩ : ∃ m, k = m + 1 := ⟨k - 1, by omega⟩
      rw [smaltoref06_Apportion.l0, if_pos (by omega), if_pos (by omega), if_pos (by omega), ref06_Size_eq (rd_i64 hx _)]
      simp only [Option.bind_some]
      by_cases c : szV (rd l (i : Int)) > 1099511627776
      · rw [if_pos c]; exact (g1 ⟨_, rd_mem (by omega), c⟩).symm
      · rw [if_neg c, w64_id (show -9223372036854775808 ≤ (i : Int) + 1 from by omega) (by omega)]
        refine ih k (i + 1) (by omega) (by omega) (fun j hj => ?_)
        by_cases c2 : j = i
        · subst c2; exact c
        · exact q3 j (by omega)
  have top : ∀ (R : Option (List Int × Int)) (K : Nat), ((∃ x ∈ l, szV x > 1099511627776) → R = some ([], 7)) → ((¬ ∃ x ∈ l, szV x > 1099511627776) → ∀ k, K ≤ k → (smaltoref06_Sum.f k l).bind (fun t => if t < 268435456 then some (([] : List Int), (8 : Int)) else smaltoref06_Apportion.l1 k t [] [] 16384 l (l.length : Int) 0) = R) →
      ∀ k, l.length + K + 10 ≤ k → smaltoref06_Apportion.f k l = R := by
    intro R K g1 g2 k hk
    obtain ⟨k, rfl⟩ : ∃ m, k = m + 1 := ⟨k - 1, by omega⟩
    unfold smaltoref06_Apportion.f
    rw [if_neg (by omega), smaltoref06_Apportion.j0, if_neg (by simp; omega)]
    exact loop R K g1 g2 l.length k 0 (by omega) (by omega) (fun j hj => by omega)
  by_cases hs : sumFrom 0 l < 268435456
  · refine ⟨l.length + (l.length + 3) + 10, top _ (l.length + 3) (fun q => ?_) (fun q k hk => ?_)⟩
    · have e : chkV l = 7 := by unfold chkV; rw [if_pos (Or.inr (Or.inr q))]
      rw [e]; rfl
    · have e : chkV l = 8 := by
        unfold chkV; rw [if_neg (by rintro (g | g | g); exact h0 g; exact h1 g; exact q g), if_pos hs]
      rw [ref06_Sum_eq hk hl hx, e]
      simp only [Option.bind_some]
      rw [if_pos hs]; rfl
  · by_cases hz : ∃ x ∈ l, szV x > 1099511627776
    · refine ⟨l.length + 0 + 10, top _ 0 (fun q => ?_) (fun q => absurd hz q)⟩
      have e : chkV l = 7 := by unfold chkV; rw [if_pos (Or.inr (Or.inr q))]
      rw [e]; rfl
    · have e : chkV l = 0 := by
        unfold chkV; rw [if_neg (by rintro (g | g | g); exact h0 g; exact h1 g; exact hz g), if_neg hs]
      have hG := good_of_chk (fun i => rd_i64 hx _) e
      have hlb := hG.lb
      obtain ⟨t, ht⟩ : ∃ t : Nat, 16384 - psum (qV l (sumFrom 0 l)) l.length = (t : Int) := ⟨(16384 - psum (qV l (sumFrom 0 l)) l.length).toNat, by omega⟩
      have e2 : appL l = picks t ((List.range l.length).map fun j => qV l (sumFrom 0 l) j) ((List.range l.length).map fun j => mV l (sumFrom 0 l) j) := by
        unfold appL; rw [ht]; rfl
      have hK : ∀ k, t * (l.length + 2) + 1 ≤ k → smaltoref06_Apportion.l2 k ((List.range l.length).map fun j => qV l (sumFrom 0 l) j) ((List.range l.length).map fun j => mV l (sumFrom 0 l) j) (16384 - psum (qV l (sumFrom 0 l)) l.length) = some (appL l, 0) := by
        intro k hk
        rw [ht, e2, show k = (k - (t * (l.length + 2) + 1)) + t * (l.length + 2) + 1 from by omega]
        refine ref06_l2 l.length hG.n0 hG.n1 t _ _ _ (by simp) (by simp) (by have := hG.n1; omega) (fun j => ?_)
        by_cases c : j < l.length
        · have := hG.qb j c
          have := hG.n1
          rw [rd_range _ c]; omega
        · unfold rd
          rw [List.getD_eq_getElem?_getD, List.getElem?_eq_none (by simp; omega)]
          have := hG.n1
          simp; omega
      refine ⟨l.length + (l.length + (t * (l.length + 2) + 1) + 300) + 10, top _ (l.length + (t * (l.length + 2) + 1) + 300) (fun q => absurd q hz) (fun q k hk => ?_)⟩
      rw [ref06_Sum_eq (by omega) hl hx, e]
      simp only [Option.bind_some]
      rw [if_neg hs]
      exact ref06_l1 hG _ _ hK l.length k 0 (by omega) (by omega)

theorem best_max (r : List Int) : ∀ (i j : Nat), j < i → rd r (j : Int) ≤ rd r (best r i : Int)
  | 0, j, h => by omega
  | i + 1, j, h => by
    rw [best]
    by_cases c : j = i
    · subst c; split <;> omega
    · have := best_max r i j (by omega)
      split <;> omega
theorem psum_set (o : List Int) (b : Nat) (v : Int) (hb : b < o.length) : ∀ n, psum (fun j => rd (o.set b v) (j : Int)) n = psum (fun j => rd o (j : Int)) n + if b < n then v - rd o (b : Int) else 0
  | 0 => by simp [psum]
  | n + 1 => by
    rw [psum, psum, psum_set o b v hb n, rd_set _ _ _ hb]
    by_cases c : n = b
    · subst c; rw [if_pos rfl, if_neg (by omega), if_pos (by omega)]; omega
    · rw [if_neg c]
      by_cases c2 : b < n
      · rw [if_pos c2, if_pos (by omega)]; omega
      · rw [if_neg c2, if_neg (by omega)]; omega
def pos0 (x : Int) : Int := if x > 0 then x else 0
theorem ptot_set (o : List Int) (b : Nat) (v : Int) (hb : b < o.length) : ∀ n, psum (fun j => pos0 (rd (o.set b v) (j : Int))) n = psum (fun j => pos0 (rd o (j : Int))) n + if b < n then pos0 v - pos0 (rd o (b : Int)) else 0
  | 0 => by simp [psum]
  | n + 1 => by
    rw [psum, psum, ptot_set o b v hb n, rd_set _ _ _ hb]
    by_cases c : n = b
    · subst c; rw [if_pos rfl, if_neg (by omega), if_pos (by omega)]; omega
    · rw [if_neg c]
      by_cases c2 : b < n
      · rw [if_pos c2, if_pos (by omega)]; omega
      · rw [if_neg c2, if_neg (by omega)]; omega
theorem ptot_zero (r : List Int) : ∀ (n : Nat), (∀ j : Nat, j < n → rd r (j : Int) ≤ 0) → psum (fun j => pos0 (rd r (j : Int))) n = 0
  | 0, _ => rfl
  | n + 1, h => by
    rw [psum, ptot_zero r n (fun j hj => h j (by omega))]
    have := h n (by omega)
    unfold pos0; rw [if_neg (by omega)]; rfl
theorem picks_prop (n : Nat) (s : Int) (hs : 1 ≤ s) (h1 : 1 ≤ n) : ∀ (t : Nat) (o r : List Int), o.length = n → r.length = n → (∀ j, j < n → rd r (j : Int) ≤ s - 1) → (1 ≤ t → psum (fun j => pos0 (rd r (j : Int))) n > ((t : Int) - 1) * (s - 1)) →
    ∃ S : Nat → Prop, (∀ j, j < n → (S j → rd (picks t o r) (j : Int) = rd o (j : Int) + 1 ∧ rd r (j : Int) > 0) ∧ (¬ S j → rd (picks t o r) (j : Int) = rd o (j : Int))) ∧ (∀ i k, i < n → k < n → ¬ S i → S k → rd r (i : Int) ≤ rd r (k : Int)) ∧
      psum (fun j => rd (picks t o r) (j : Int)) n = psum (fun j => rd o (j : Int)) n + t := by
  intro t
  induction t with
  | zero => intro o r ho hr hb ht; exact ⟨fun _ => False, fun j hj => ⟨fun h => h.elim, fun _ => rfl⟩, fun i k _ _ _ h => h.elim, by rw [picks]; omega⟩
  | succ t ih =>
    intro o r ho hr hb ht
    have hbb := best_lt r n h1
    have hmax := best_max r n
    have htot := ht (by omega)
    rw [show ((t + 1 : Nat) : Int) - 1 = (t : Int) from by omega] at htot
    have ht0 : 0 ≤ (t : Int) * (s - 1) := Int.mul_nonneg (by omega) (by omega)
    have hpos : rd r (best r n : Int) > 0 := by
      apply Classical.byContradiction; intro q
      have := ptot_zero r n (fun j hj => by have := hmax j hj; omega)
      omega
    obtain ⟨b, hbe⟩ : ∃ b, b = best r n := ⟨_, rfl⟩
    rw [← hbe] at hbb hmax hpos
    have hbv := hb b hbb
    obtain ⟨S, S1, S2, S3⟩ := ih (o.set b (rd o (b : Int) + 1)) (r.set b (-1)) (by rw [List.length_set]; exact ho) (by rw [List.length_set]; exact hr)
      (fun j hj => by rw [rd_set _ _ _ (by omega)]; have := hb j hj; split <;> omega)
      (fun ht1 => by
        rw [ptot_set _ _ _ (by omega), if_pos hbb]
        have e1 : pos0 (-1) = 0 := by unfold pos0; rw [if_neg (by omega)]
        have e2 : pos0 (rd r (b : Int)) = rd r (b : Int) := by unfold pos0; rw [if_pos hpos]
        have e3 : ((t : Int) - 1) * (s - 1) = (t : Int) * (s - 1) - (s - 1) := by rw [Int.sub_mul, Int.one_mul]
        rw [e1, e2]; omega)
    have hnb : ¬ S b := fun h => by
      have := ((S1 b hbb).1 h).2
      rw [rd_set _ _ _ (by omega), if_pos rfl] at this; omega
    rw [picks, hr, ← hbe]
    refine ⟨fun j => j = b ∨ S j, fun j hj => ⟨fun h => ?_, fun h => ?_⟩, fun i k hi hk h1 h2 => ?_, ?_⟩
    · rcases h with h | h
      · subst h
        refine ⟨?_, hpos⟩
        rw [(S1 j hbb).2 hnb, rd_set _ _ _ (by omega), if_pos rfl]
      · have hne : j ≠ b := fun e => hnb (e ▸ h)
        have := (S1 j hj).1 h
        rw [rd_set _ _ _ (by omega), if_neg hne, rd_set _ _ _ (by omega), if_neg hne] at this
        exact this
    · have := (S1 j hj).2 (fun q => h (Or.inr q))
      rw [this, rd_set _ _ _ (by omega), if_neg (fun e => h (Or.inl e))]
    · rcases h2 with h2 | h2
      · subst h2; exact hmax i hi
      · have hne : k ≠ b := fun e => hnb (e ▸ h2)
        have := S2 i k hi hk (fun q => h1 (Or.inr q)) h2
        rw [rd_set _ _ _ (by omega), if_neg (fun e => h1 (Or.inl e)), rd_set _ _ _ (by omega), if_neg hne] at this
        exact this
    · rw [S3, psum_set _ _ _ (by omega), if_pos hbb]; omega
theorem psum_congr {f g : Nat → Int} : ∀ n, (∀ j, j < n → f j = g j) → psum f n = psum g n
  | 0, _ => rfl
  | n + 1, h => by rw [psum, psum, psum_congr n (fun j hj => h j (by omega)), h n (by omega)]
/-- What the taps are, of weights that may be apportioned. -/
theorem appL_prop {l : List Int} {s : Int} (hs0 : s = sumFrom 0 l) (hG : Good l s) : ∃ S : Nat → Prop, (∀ j, j < l.length → (S j → rd (appL l) (j : Int) = qV l s j + 1 ∧ mV l s j > 0) ∧ (¬ S j → rd (appL l) (j : Int) = qV l s j)) ∧ (∀ i k, i < l.length → k < l.length → ¬ S i → S k → mV l s i ≤ mV l s k) ∧
    psum (fun j => rd (appL l) (j : Int)) l.length = 16384 := by
  have hlb := hG.lb
  have hsb := hG.sb
  have hpd := psum_div l s (by omega) l.length
  obtain ⟨t, ht⟩ : ∃ t : Nat, 16384 - psum (qV l s) l.length = (t : Int) := ⟨(16384 - psum (qV l s) l.length).toNat, by omega⟩
  have hr : ∀ j, j < l.length → rd ((List.range l.length).map fun j => mV l s j) (j : Int) = mV l s j := fun j hj => rd_range _ hj
  have ho : ∀ j, j < l.length → rd ((List.range l.length).map fun j => qV l s j) (j : Int) = qV l s j := fun j hj => rd_range _ hj
  have hm : ∀ j, 0 ≤ mV l s j ∧ mV l s j ≤ s - 1 := fun j => by
    have r0 := Int.emod_nonneg (rd l (j : Int) * 16384) (show s ≠ 0 by omega)
    have r1 := Int.emod_lt_of_pos (rd l (j : Int) * 16384) (show 0 < s by omega)
    unfold mV; omega
  have htot : psum (fun j => pos0 (rd ((List.range l.length).map fun j => mV l s j) (j : Int))) l.length = psum (mV l s) l.length :=
    psum_congr _ (fun j hj => by rw [hr j hj]; have := hm j; unfold pos0; split <;> omega)
  obtain ⟨S, S1, S2, S3⟩ := picks_prop l.length s (by omega) hG.n0 t ((List.range l.length).map fun j => qV l s j) ((List.range l.length).map fun j => mV l s j) (by simp) (by simp) (fun j hj => by rw [hr j hj]; exact (hm j).2)
    (fun h1 => by
      rw [htot]
      obtain ⟨p1, p2, p3⟩ := hpd
      rw [← hG.sx] at p1
      have e1 : (16384 - psum (qV l s) l.length) * s = 16384 * s - psum (qV l s) l.length * s := Int.sub_mul _ _ _
      rw [ht] at e1
      have e2 : ((t : Int) - 1) * (s - 1) = (t : Int) * s - (t : Int) - s + 1 := by rw [Int.sub_mul, Int.mul_sub, Int.mul_one, Int.one_mul]; omega
      omega)
  have e : appL l = picks t ((List.range l.length).map fun j => qV l s j) ((List.range l.length).map fun j => mV l s j) := by
    unfold appL; rw [← hs0, ht]; rfl
  refine ⟨S, fun j hj => ?_, fun i k hi hk h1 h2 => ?_, ?_⟩
  · have := S1 j hj
    rw [ho j hj, hr j hj, ← e] at this; exact this
  · have := S2 i k hi hk h1 h2
    rw [hr i hi, hr k hk] at this; exact this
  · rw [← e] at S3
    rw [S3, psum_congr (g := qV l s) _ (fun j hj => ho j hj)]; omega
theorem appL_len2 (l : List Int) : (appL l).length = l.length := by
  have : ∀ (t : Nat) (o r : List Int), (picks t o r).length = o.length := by
    intro t
    induction t with
    | zero => intro o r; rfl
    | succ t ih => intro o r; rw [picks, ih, List.length_set]
  unfold appL; rw [this]; simp
theorem TapsSum_l0 {l : List Int} {s : Int} (hG : Good l s) (hg : ∀ j : Nat, -134217728 ≤ rd (appL l) (j : Int) ∧ rd (appL l) (j : Int) ≤ 134217729) (R : Option Bool) (K : Nat) (hR : ∀ k, K ≤ k → smaltolaw06_TapsSum.l0 k l (appL l) (psum (fun j => rd l (j : Int)) l.length) (psum (fun j => rd (appL l) (j : Int)) l.length) (l.length : Int) (l.length : Int) = R) :
    ∀ (d k i : Nat), i + d = l.length → d + K ≤ k → smaltolaw06_TapsSum.l0 k l (appL l) (psum (fun j => rd l (j : Int)) i) (psum (fun j => rd (appL l) (j : Int)) i) (l.length : Int) (i : Int) = R ∧ (-1099511627776 * (i : Int) ≤ psum (fun j => rd l (j : Int)) i ∧ psum (fun j => rd l (j : Int)) i ≤ 1099511627776 * (i : Int)) ∧ (-134217729 * (i : Int) ≤ psum (fun j => rd (appL l) (j : Int)) i ∧ psum (fun j => rd (appL l) (j : Int)) i ≤ 134217729 * (i : Int)) := by
  have bnd : ∀ i, i ≤ l.length → (-1099511627776 * (i : Int) ≤ psum (fun j => rd l (j : Int)) i ∧ psum (fun j => rd l (j : Int)) i ≤ 1099511627776 * (i : Int)) ∧ (-134217729 * (i : Int) ≤ psum (fun j => rd (appL l) (j : Int)) i ∧ psum (fun j => rd (appL l) (j : Int)) i ≤ 134217729 * (i : Int)) := by
    intro i
    induction i with
    | zero => intro _; simp [psum]
    | succ i ih =>
      intro h
      have h1 := ih (by omega)
      have h2 := hG.xb i (by omega)
      have h3 := hg i
      rw [psum, psum]; omega
  have hn1 := hG.n1
  have hla := appL_len2 l
  intro d
  induction d with
  | zero =>
    intro k i h1 h2
    have e : i = l.length := by omega
    subst e
    exact ⟨hR k (by omega), bnd _ (Nat.le_refl _)⟩
  | succ d ih =>
    intro k i h1 h2
    obtain ⟨k, rfl⟩ : ∃ m, k = m + 1 := ⟨k - 1, by omega⟩
    refine ⟨?_, bnd i (by omega)⟩
    have hb := bnd (i + 1) (by omega)
    rw [psum, psum] at hb
    rw [smaltolaw06_TapsSum.l0, if_pos (by omega), if_pos (by omega), if_pos (by omega), if_pos (by omega), w64_id (by omega) (by omega), w64_id (by omega) (by omega), w64_id (by omega) (by omega)]
    exact (ih k (i + 1) (by omega) (by omega)).1
theorem TapsSum_l2 {l : List Int} {s : Int} (hs0 : s = sumFrom 0 l) (hG : Good l s) (i : Nat) (hi : i < l.length) : ∀ (d k j : Nat), j + d = l.length →
    smaltolaw06_TapsSum.l2 (k + d + 1) l (appL l) s (i : Int) (rd l (i : Int)) l (l.length : Int) (i : Int) l (l.length : Int) (j : Int) = smaltolaw06_TapsSum.l1 k l (appL l) s l (l.length : Int) ((i : Int) + 1) := by
  obtain ⟨S, S1, S2, S3⟩ := appL_prop hs0 hG
  have hn1 := hG.n1
  have hla := appL_len2 l
  have hsb := hG.sb
  intro d
  induction d with
  | zero =>
    intro k j h1
    rw [smaltolaw06_TapsSum.l2, if_neg (by omega), w64_id (by omega) (by omega)]
  | succ d ih =>
    intro k j h1
    rw [show k + (d + 1) + 1 = (k + d + 1) + 1 from by omega, smaltolaw06_TapsSum.l2, if_pos (by omega), if_pos (by omega), if_pos (by omega), w64_id (show -9223372036854775808 ≤ (j : Int) + 1 from by omega) (by omega)]
    have next := ih k (j + 1) (by omega)
    rw [show ((j + 1 : Nat) : Int) = (j : Int) + 1 from by omega] at next
    by_cases c : rd l (i : Int) > rd l (j : Int)
    · rw [if_pos c, if_pos (by omega), if_pos (by omega), if_pos (by omega)]
      have ord : ¬ rd (appL l) (i : Int) < rd (appL l) (j : Int) := by
        have e1 := Int.mul_ediv_add_emod (rd l (i : Int) * 16384) s
        have e2 := Int.mul_ediv_add_emod (rd l (j : Int) * 16384) s
        have qi : qV l s i = rd l (i : Int) * 16384 / s := rfl
        have qj : qV l s j = rd l (j : Int) * 16384 / s := rfl
        have mi : mV l s i = rd l (i : Int) * 16384 % s := rfl
        have mj : mV l s j = rd l (j : Int) * 16384 % s := rfl
        have hq : qV l s j ≤ qV l s i := by rw [qi, qj]; exact Int.ediv_le_ediv (by omega) (by omega)
        have hi1 := S1 i hi
        have hj1 := S1 j (by omega)
        by_cases ci : S i <;> by_cases cj : S j
        · rw [(hi1.1 ci).1, (hj1.1 cj).1]; omega
        · rw [(hi1.1 ci).1, hj1.2 cj]; omega
        · rw [hi1.2 ci, (hj1.1 cj).1]
          by_cases ceq : qV l s i = qV l s j
          · have := S2 i j hi (by omega) ci cj
            rw [← qi, ← mi] at e1
            rw [← qj, ← mj, ← ceq] at e2
            omega
          · omega
        · rw [hi1.2 ci, hj1.2 cj]; omega
      rw [if_neg ord]; exact next
    · rw [if_neg c]; exact next
theorem TapsSum_l1 {l : List Int} {s : Int} (hs0 : s = sumFrom 0 l) (hG : Good l s) : ∀ (d k i : Nat), i + d = l.length →
    smaltolaw06_TapsSum.l1 (k + d * (l.length + 3) + 1) l (appL l) s l (l.length : Int) (i : Int) = some true := by
  obtain ⟨S, S1, S2, S3⟩ := appL_prop hs0 hG
  have hn1 := hG.n1
  have hla := appL_len2 l
  have hsb := hG.sb
  intro d
  induction d with
  | zero =>
    intro k i h1
    rw [smaltolaw06_TapsSum.l1, if_neg (by omega)]
  | succ d ih =>
    intro k i h1
    have hx := hG.xb i (by omega)
    have hq := hG.qb i (by omega)
    have e := Int.mul_ediv_add_emod (rd l (i : Int) * 16384) s
    have r0 := Int.emod_nonneg (rd l (i : Int) * 16384) (show s ≠ 0 by omega)
    have r1 := Int.emod_lt_of_pos (rd l (i : Int) * 16384) (show 0 < s by omega)
    have qi : qV l s i = rd l (i : Int) * 16384 / s := rfl
    have mi : mV l s i = rd l (i : Int) * 16384 % s := rfl
    have hgs : -s < rd (appL l) (i : Int) * s - rd l (i : Int) * 16384 ∧ rd (appL l) (i : Int) * s - rd l (i : Int) * 16384 < s := by
      have h := S1 i (by omega)
      have ec : qV l s i * s = s * (rd l (i : Int) * 16384 / s) := by rw [qi, Int.mul_comm]
      by_cases c : S i
      · have h2 := (h.1 c).2
        rw [(h.1 c).1, Int.add_mul, Int.one_mul]; omega
      · rw [h.2 c]; omega
    rw [show k + (d + 1) * (l.length + 3) + 1 = ((k + d * (l.length + 3) + 1) + l.length + 1) + 1 + 1 from by rw [Nat.add_mul, Nat.one_mul]; omega, smaltolaw06_TapsSum.l1, if_pos (by omega), if_pos (by omega), if_pos (by omega), if_pos (by omega)]
    have w1 : wrap64 (rd (appL l) (i : Int) * s) = rd (appL l) (i : Int) * s := w64_id (by omega) (by omega)
    have w2 : wrap64 (rd l (i : Int) * 16384) = rd l (i : Int) * 16384 := w64_id (by omega) (by omega)
    have w3 : wrap64 (rd (appL l) (i : Int) * s - rd l (i : Int) * 16384) = rd (appL l) (i : Int) * s - rd l (i : Int) * 16384 := w64_id (by omega) (by omega)
    have w4 : wrap64 (-s) = -s := w64_id (by omega) (by omega)
    rw [w1, w2, w3, w4, if_neg (by omega), decide_eq_false (by omega), smaltolaw06_TapsSum.j4, if_neg (by decide)]
    rw [show (0 : Int) = ((0 : Nat) : Int) from rfl, TapsSum_l2 hs0 hG i (by omega) l.length (k + d * (l.length + 3) + 1) 0 (by omega)]
    exact ih k (i + 1) (by omega)
theorem TapsSum_pure : smaltolaw06_TapsSum.Pure := by
  intro l h1 h2 h3
  have hx : ∀ x ∈ l, I64 x := fun x hx => wf64 (h3 x hx)
  have hlen : l.length < 17592186044417 := by omega
  have ha : taps_Apportion.f l = some (if chkV l = 0 then (appL l, 0) else ([], chkV l)) := by
    unfold taps_Apportion.f appF; rw [if_pos hx]
  refine ⟨(l.length * (l.length + 3) + 10) + l.length + 1001, ?_⟩
  unfold smaltolaw06_TapsSum.f
  rw [lives06 (by omega)]
  simp only [Option.bind_some, if_true]
  rw [smaltolaw06_TapsSum.j0]
  by_cases c : (l.length : Int) > 200
  · rw [if_pos (by simpa using c), lives06 (by omega)]; rfl
  rw [if_neg (by simpa using c), ha]
  simp only [Option.bind_some]
  by_cases hk : chkV l = 0
  · rw [if_pos hk]
    have hG := good_of_chk (fun i => rd_i64 hx _) hk
    obtain ⟨S, S1, S2, S3⟩ := appL_prop rfl hG
    rw [if_pos rfl, if_pos (by rw [appL_len2])]
    have hg : ∀ j : Nat, -134217728 ≤ rd (appL l) (j : Int) ∧ rd (appL l) (j : Int) ≤ 134217729 := by
      intro j
      by_cases cj : j < l.length
      · have hq := hG.qb j cj
        by_cases cs : S j
        · rw [((S1 j cj).1 cs).1]; omega
        · rw [(S1 j cj).2 cs]; omega
      · unfold rd
        rw [List.getD_eq_getElem?_getD, List.getElem?_eq_none (by rw [appL_len2]; omega)]
        simp
    have hsb := hG.sb
    refine (TapsSum_l0 hG hg (some true) (l.length * (l.length + 3) + 10) (fun k hk => ?_) l.length _ 0 (by omega) (by omega)).1
    obtain ⟨k, rfl⟩ : ∃ m, k = m + l.length * (l.length + 3) + 1 + 1 + 1 := ⟨k - (l.length * (l.length + 3) + 3), by omega⟩
    rw [smaltolaw06_TapsSum.l0, if_neg (by omega), if_pos S3, ← hG.sx, decide_eq_false (by omega), smaltolaw06_TapsSum.j2, if_neg (by decide)]
    exact TapsSum_l1 rfl hG l.length k 0 (by omega)
  · rw [if_neg hk, if_neg hk]; rfl

/-- A kernel out of its one half and its middle. -/
def evenG (l : List Int) (mid : Int) (t : Nat) : Int := if t < l.length then Int.tmod (rd l ((l.length - 1 - t : Nat) : Int)) 1000 else if t = l.length then Int.tmod mid 1000 else Int.tmod (rd l ((t - l.length - 1 : Nat) : Int)) 1000
theorem tmod_bnd (x : Int) : -999 ≤ Int.tmod x 1000 ∧ Int.tmod x 1000 ≤ 999 := by
  rw [tmod_pos x (by decide)]; split <;> omega
theorem evenG_bnd (l : List Int) (mid : Int) (t : Nat) : -999 ≤ evenG l mid t ∧ evenG l mid t ≤ 999 := by
  unfold evenG; split
  · exact tmod_bnd _
  · split <;> exact tmod_bnd _
theorem evenG_mir (l : List Int) (mid : Int) (t : Nat) (h : t ≤ 2 * l.length) : evenG l mid t = evenG l mid (2 * l.length - t) := by
  unfold evenG
  by_cases c : t < l.length
  · rw [if_pos c, if_neg (by omega), if_neg (by omega), show 2 * l.length - t - l.length - 1 = l.length - 1 - t from by omega]
  · rw [if_neg c]
    by_cases c2 : t = l.length
    · rw [if_pos c2, if_neg (by omega), if_pos (by omega)]
    · rw [if_neg c2, if_pos (by omega), show l.length - 1 - (2 * l.length - t) = t - l.length - 1 from by omega]
theorem TapsEven_l1 (l : List Int) (mid : Int) (hl : l.length ≤ 40) (R : Option Bool) (K : Nat) (hR : ∀ k, K ≤ k → smaltolaw06_TapsEven.l1 k ((List.range (2 * l.length + 1)).map (evenG l mid)) l (l.length : Int) (l.length : Int) = R) : ∀ (d k i : Nat), i + d = l.length → d + K ≤ k →
    smaltolaw06_TapsEven.l1 k ((List.range (l.length + 1 + i)).map (evenG l mid)) l (l.length : Int) (i : Int) = R := by
  intro d
  induction d with
  | zero =>
    intro k i h1 h2
    have e : i = l.length := by omega
    subst e
    rw [show l.length + 1 + l.length = 2 * l.length + 1 from by omega]
    exact hR k (by omega)
  | succ d ih =>
    intro k i h1 h2
    obtain ⟨k, rfl⟩ : ∃ m, k = m + 1 := ⟨k - 1, by omega⟩
    have hb := tmod_bnd (rd l (i : Int))
    rw [smaltolaw06_TapsEven.l1, if_pos (by omega), if_pos (by omega), if_pos (by omega), if_pos (by simp; omega), w64_id (show -9223372036854775808 ≤ Int.tmod (rd l (i : Int)) 1000 from by omega) (by omega), w64_id (show -9223372036854775808 ≤ (i : Int) + 1 from by omega) (by omega)]
    have e : evenG l mid (l.length + 1 + i) = Int.tmod (rd l (i : Int)) 1000 := by
      unfold evenG; rw [if_neg (by omega), if_neg (by omega), show l.length + 1 + i - l.length - 1 = i from by omega]
    have := ih k (i + 1) (by omega) (by omega)
    rw [show l.length + 1 + (i + 1) = (l.length + 1 + i) + 1 from by omega, List.range_succ, List.map_append, List.map_singleton, e] at this
    exact this
theorem TapsEven_l0 (l : List Int) (mid : Int) (hl : l.length ≤ 40) (R : Option Bool) (K : Nat) (hR : ∀ k, K ≤ k → smaltolaw06_TapsEven.l1 k ((List.range (2 * l.length + 1)).map (evenG l mid)) l (l.length : Int) (l.length : Int) = R) : ∀ (d k i : Nat), i + d = l.length → d + l.length + K + 2 ≤ k →
    smaltolaw06_TapsEven.l0 k l mid ((List.range i).map (evenG l mid)) ((l.length : Int) - 1 - (i : Int)) = R := by
  intro d
  induction d with
  | zero =>
    intro k i h1 h2
    obtain ⟨k, rfl⟩ : ∃ m, k = m + 1 := ⟨k - 1, by omega⟩
    have hb := tmod_bnd mid
    rw [smaltolaw06_TapsEven.l0, if_neg (by omega), if_pos (by simp; omega), w64_id (show -9223372036854775808 ≤ Int.tmod mid 1000 from by omega) (by omega)]
    have e : evenG l mid i = Int.tmod mid 1000 := by unfold evenG; rw [if_neg (by omega), if_pos (by omega)]
    have := TapsEven_l1 l mid hl R K hR l.length k 0 (by omega) (by omega)
    rw [show l.length + 1 + 0 = i + 1 from by omega, List.range_succ, List.map_append, List.map_singleton, e] at this
    exact this
  | succ d ih =>
    intro k i h1 h2
    obtain ⟨k, rfl⟩ : ∃ m, k = m + 1 := ⟨k - 1, by omega⟩
    have hb := tmod_bnd (rd l ((l.length : Int) - 1 - (i : Int)))
    rw [smaltolaw06_TapsEven.l0, if_pos (by omega), if_pos (by omega), if_pos (by omega), if_pos (by simp; omega), w64_id (show -9223372036854775808 ≤ Int.tmod (rd l ((l.length : Int) - 1 - (i : Int))) 1000 from by omega) (by omega), w64_id (show -9223372036854775808 ≤ (l.length : Int) - 1 - (i : Int) - 1 from by omega) (by omega)]
    have e : evenG l mid i = Int.tmod (rd l ((l.length : Int) - 1 - (i : Int))) 1000 := by
      unfold evenG; rw [if_pos (by omega), show ((l.length - 1 - i : Nat) : Int) = (l.length : Int) - 1 - (i : Int) from by omega]
    have := ih k (i + 1) (by omega) (by omega)
    rw [List.range_succ, List.map_append, List.map_singleton, e, show (l.length : Int) - 1 - ((i + 1 : Nat) : Int) = (l.length : Int) - 1 - (i : Int) - 1 from by omega] at this
    exact this
theorem szFrom_range (g : Nat → Int) (hg : ∀ t, -999 ≤ g t ∧ g t ≤ 999) : ∀ n : Nat, n ≤ 1000 → 0 ≤ szFrom 0 ((List.range n).map g) ∧ szFrom 0 ((List.range n).map g) ≤ 999 * n ∧ ∀ t, t < n → g t ≤ szFrom 0 ((List.range n).map g) ∧ -(g t) ≤ szFrom 0 ((List.range n).map g)
  | 0, _ => ⟨by simp [szFrom], by simp [szFrom], fun t h => by omega⟩
  | n + 1, hn => by
    obtain ⟨h1, h2, h3⟩ := szFrom_range g hg n (by omega)
    have hz := hg n
    have e : szFrom 0 ((List.range (n + 1)).map g) = szFrom 0 ((List.range n).map g) + szV (g n) := by
      rw [List.range_succ, List.map_append]
      unfold szFrom at h1 h2 ⊢
      rw [List.foldl_append]
      show hold (_ + szV (g n)) = _
      rw [szV_is (by constructor <;> omega)]
      rw [hold_id]
      · split
        · omega
        · split <;> omega
      · split
        · omega
        · split <;> omega
    rw [e, szV_is (by constructor <;> omega)]
    refine ⟨?_, ?_, fun t ht => ?_⟩
    · split
      · omega
      · split <;> omega
    · split
      · omega
      · split <;> omega
    · by_cases c : t = n
      · subst c
        split
        · omega
        · split <;> omega
      · have := h3 t (by omega)
        split
        · omega
        · split <;> omega
theorem rdiv_bnd {x s : Int} (hs : 0 < s) (h1 : x ≤ s) (h2 : -x ≤ s) : -1073741825 ≤ rdiv (x * 1073741824) s ∧ rdiv (x * 1073741824) s ≤ 1073741825 := by
  unfold rdiv
  rw [if_pos hs]
  constructor
  · rw [Int.le_ediv_iff_mul_le (by omega)]; omega
  · have : (2 * (x * 1073741824) + s) / (2 * s) < 1073741826 := by
      rw [Int.ediv_lt_iff_lt_mul (by omega)]; omega
    omega
theorem TapsEven_l2 (w : Nat → Int) (n : Nat) (hn : n ≤ 1000) (hw : ∀ t, t < n → w t = w (n - 1 - t)) (R : Option Bool) (K : Nat) (hR : ∀ k, K ≤ k → smaltolaw06_TapsEven.l2 k ((List.range n).map w) (n : Int) (n : Int) = R) : ∀ (d k i : Nat), i + d = n → d + K ≤ k →
    smaltolaw06_TapsEven.l2 k ((List.range n).map w) (n : Int) (i : Int) = R := by
  intro d
  induction d with
  | zero =>
    intro k i h1 h2
    have e : i = n := by omega
    subst e; exact hR k (by omega)
  | succ d ih =>
    intro k i h1 h2
    obtain ⟨k, rfl⟩ : ∃ m, k = m + 1 := ⟨k - 1, by omega⟩
    have el : (((List.range n).map w).length : Int) = (n : Int) := by simp
    rw [smaltolaw06_TapsEven.l2, if_pos (by omega), if_pos (by omega), el, if_pos (by omega), w64_id (show -9223372036854775808 ≤ (n : Int) - 1 from by omega) (by omega), w64_id (show -9223372036854775808 ≤ (n : Int) - 1 - (i : Int) from by omega) (by omega), if_pos (by omega), if_pos (by omega)]
    rw [show (n : Int) - 1 - (i : Int) = ((n - 1 - i : Nat) : Int) from by omega, rd_range _ (by omega), rd_range _ (by omega), if_pos (hw i (by omega)), w64_id (by omega) (by omega)]
    exact ih k (i + 1) (by omega) (by omega)
theorem TapsEven_l3 (t : List Int) (n : Nat) (hl : t.length = n) (hn : n ≤ 1000) (hb : ∀ j, j < n → -134217728 ≤ rd t (j : Int) ∧ rd t (j : Int) ≤ 134217729) (hm : ∀ j, j < n → rd t (j : Int) - rd t ((n - 1 - j : Nat) : Int) ≤ 1 ∧ -1 ≤ rd t (j : Int) - rd t ((n - 1 - j : Nat) : Int)) : ∀ (d k i : Nat), i + d = n → d + 1 ≤ k →
    smaltolaw06_TapsEven.l3 k t (n : Int) (i : Int) = some true := by
  intro d
  induction d with
  | zero =>
    intro k i h1 h2
    obtain ⟨k, rfl⟩ : ∃ m, k = m + 1 := ⟨k - 1, by omega⟩
    rw [smaltolaw06_TapsEven.l3, if_neg (by omega)]
  | succ d ih =>
    intro k i h1 h2
    obtain ⟨k, rfl⟩ : ∃ m, k = m + 1 := ⟨k - 1, by omega⟩
    have h3 := hm i (by omega)
    have h4 := hb i (by omega)
    have h5 := hb (n - 1 - i) (by omega)
    have el : (t.length : Int) = (n : Int) := by omega
    rw [smaltolaw06_TapsEven.l3, if_pos (by omega), if_pos (by omega), el, if_pos (by omega), w64_id (show -9223372036854775808 ≤ (n : Int) - 1 from by omega) (by omega), w64_id (show -9223372036854775808 ≤ (n : Int) - 1 - (i : Int) from by omega) (by omega), if_pos (by omega), if_pos (by omega)]
    rw [show (n : Int) - 1 - (i : Int) = ((n - 1 - i : Nat) : Int) from by omega, w64_id (show -9223372036854775808 ≤ rd t (i : Int) - rd t ((n - 1 - i : Nat) : Int) from by omega) (by omega), if_neg (by omega), if_neg (by omega), w64_id (by omega) (by omega)]
    exact ih k (i + 1) (by omega) (by omega)
theorem mem_range_i64 {g : Nat → Int} {n : Nat} (h : ∀ t, t < n → I64 (g t)) : ∀ x ∈ (List.range n).map g, I64 x := by
  intro x hx
  obtain ⟨t, ht, rfl⟩ := List.mem_map.1 hx
  exact h t (List.mem_range.1 ht)
theorem TapsEven_pure : smaltolaw06_TapsEven.Pure := by
  intro l mid h1 h2 h3 h4
  refine ⟨5001, ?_⟩
  unfold smaltolaw06_TapsEven.f
  rw [lives06 (by omega)]
  simp only [Option.bind_some, if_true]
  rw [smaltolaw06_TapsEven.j0]
  by_cases c : (l.length : Int) > 40
  · rw [if_pos (by simpa using c), lives06 (by omega)]; rfl
  rw [if_neg (by simpa using c), w64_id (by omega) (by omega)]
  have hl : l.length ≤ 40 := by omega
  obtain ⟨n, hn⟩ : ∃ n, n = 2 * l.length + 1 := ⟨_, rfl⟩
  have hg := evenG_bnd l mid
  obtain ⟨z1, z2, z3⟩ := szFrom_range (evenG l mid) hg n (by omega)
  have hk64 := mem_range_i64 (g := evenG l mid) (n := n) (fun t _ => by have := hg t; constructor <;> omega)
  have hlen : ((List.range n).map (evenG l mid)).length = n := by simp
  have start := TapsEven_l0 l mid hl (some true) 4000 (fun k hk => ?_) l.length 5000 0 (by omega) (by omega)
  · rw [show (l.length : Int) - 1 - ((0 : Nat) : Int) = (l.length : Int) - 1 from by omega] at start
    exact start
  obtain ⟨k, rfl⟩ : ∃ m, k = m + 1 := ⟨k - 1, by omega⟩
  rw [← hn, smaltolaw06_TapsEven.l1, if_neg (by omega), taps_User_eq (by rw [hlen]; omega) (by rw [hlen]; omega) hk64]
  simp only [Option.bind_some]
  obtain ⟨s, hs⟩ : ∃ s, s = szFrom 0 ((List.range n).map (evenG l mid)) := ⟨_, rfl⟩
  rw [← hs] at z1 z2 z3
  have hu : userV ((List.range n).map (evenG l mid)) = if s < 1 ∨ s > 1048576 then ([], 7) else ((List.range n).map (fun (i : Nat) => hold (rdiv (rd ((List.range n).map (evenG l mid)) (i : Int) * 1073741824) s)), 0) := by
    unfold userV
    rw [hlen, ← hs]
    by_cases q : s < 1 ∨ s > 1048576
    · rw [if_pos (by rcases q with q | q; exact Or.inr (Or.inr (Or.inl q)); exact Or.inr (Or.inr (Or.inr q))), if_pos q]
    · rw [if_neg (by rintro (g | g | g | g); omega; omega; exact q (Or.inl g); exact q (Or.inr g)), if_neg q]
  rw [hu]
  by_cases q : s < 1 ∨ s > 1048576
  · rw [if_pos q, if_neg (by decide), if_pos (by decide), hlen, if_neg (by omega), taps_Size_eq (by rw [hlen]; omega) (by rw [hlen]; omega) hk64, ← hs]
    simp only [Option.bind_some]
    by_cases q0 : s = 0
    · rw [if_pos q0]
    · rw [if_neg q0, decide_eq_true (by omega)]
  · rw [if_neg q, if_pos rfl]
    have hs1 : 1 ≤ s ∧ s ≤ 1048576 := by omega
    obtain ⟨w, hw⟩ : ∃ w : Nat → Int, w = fun (i : Nat) => hold (rdiv (rd ((List.range n).map (evenG l mid)) (i : Int) * 1073741824) s) := ⟨_, rfl⟩
    rw [← hw]
    have hwv : ∀ t, t < n → w t = rdiv (evenG l mid t * 1073741824) s := by
      intro t ht
      have hb := rdiv_bnd (x := evenG l mid t) (s := s) (by omega) (z3 t ht).1 (z3 t ht).2
      rw [hw]; dsimp only
      rw [rd_range _ ht, hold_id (by omega) (by omega)]
    have hwb : ∀ t, t < n → -1073741825 ≤ w t ∧ w t ≤ 1073741825 := by
      intro t ht; rw [hwv t ht]; exact rdiv_bnd (by omega) (z3 t ht).1 (z3 t ht).2
    have hwm : ∀ t, t < n → w t = w (n - 1 - t) := by
      intro t ht
      rw [hwv t ht, hwv (n - 1 - t) (by omega), evenG_mir l mid t (by omega), show n - 1 - t = 2 * l.length - t from by omega]
    have elw : (((List.range n).map w).length : Int) = (n : Int) := by simp
    rw [elw]
    refine TapsEven_l2 w n (by omega) hwm (some true) 3000 (fun k hk => ?_) n k 0 (by omega) (by omega)
    obtain ⟨k, rfl⟩ : ∃ m, k = m + 1 := ⟨k - 1, by omega⟩
    have hw64 := mem_range_i64 (g := w) (n := n) (fun t ht => by have := hwb t ht; constructor <;> omega)
    have ha : taps_Apportion.f ((List.range n).map w) = some (if chkV ((List.range n).map w) = 0 then (appL ((List.range n).map w), 0) else ([], chkV ((List.range n).map w))) := by
      unfold taps_Apportion.f appF; rw [if_pos hw64]
    rw [smaltolaw06_TapsEven.l2, if_neg (by omega), ha]
    simp only [Option.bind_some]
    by_cases hk0 : chkV ((List.range n).map w) = 0
    · rw [if_pos hk0, if_pos rfl]
      have hG := good_of_chk (fun i => rd_i64 hw64 _) hk0
      obtain ⟨S, S1, S2, S3⟩ := appL_prop rfl hG
      have elen : ((List.range n).map w).length = n := by simp
      have eal : (appL ((List.range n).map w)).length = n := by rw [appL_len2, elen]
      rw [eal]
      have hq : ∀ j, j < n → qV ((List.range n).map w) (sumFrom 0 ((List.range n).map w)) j = qV ((List.range n).map w) (sumFrom 0 ((List.range n).map w)) (n - 1 - j) := by
        intro j hj
        unfold qV
        rw [rd_range _ hj, rd_range _ (by omega), hwm j hj]
      have hval : ∀ j, j < n → rd (appL ((List.range n).map w)) (j : Int) = qV ((List.range n).map w) (sumFrom 0 ((List.range n).map w)) j ∨ rd (appL ((List.range n).map w)) (j : Int) = qV ((List.range n).map w) (sumFrom 0 ((List.range n).map w)) j + 1 := by
        intro j hj
        by_cases cs : S j
        · exact Or.inr ((S1 j (by rw [elen]; exact hj)).1 cs).1
        · exact Or.inl ((S1 j (by rw [elen]; exact hj)).2 cs)
      refine TapsEven_l3 _ n eal (by omega) (fun j hj => ?_) (fun j hj => ?_) n k 0 (by omega) (by omega)
      · have h5 := hval j hj
        have h6 := hG.qb j (by rw [elen]; exact hj)
        omega
      · have h5 := hval j hj
        have h6 := hval (n - 1 - j) (by omega)
        have h7 := hq j hj
        omega
    · rw [if_neg hk0]
      have hv : chkV ((List.range n).map w) = 8 := by
        unfold chkV at hk0 ⊢
        have hno : ¬ (((List.range n).map w).length = 0 ∨ ((List.range n).map w).length > 1048576 ∨ ∃ x ∈ (List.range n).map w, szV x > 1099511627776) := by
          rintro (g | g | ⟨x, g1, g2⟩)
          · simp at g; omega
          · simp at g; omega
          · obtain ⟨t, ht, rfl⟩ := List.mem_map.1 g1
            have hb := hwb t (List.mem_range.1 ht)
            rw [szV_is (by constructor <;> omega)] at g2
            split at g2
            · omega
            · split at g2 <;> omega
        rw [if_neg hno] at hk0 ⊢
        by_cases g : sumFrom 0 ((List.range n).map w) < 268435456
        · rw [if_pos g]
        · rw [if_neg g] at hk0; exact absurd rfl hk0
      rw [hv, if_neg (by decide), if_pos rfl]; rfl

end Go.Proofs.Ytabojpnelbmifaa.QA
