/- What the weights of any output sample come to: at least a quarter, and what is below nought is less than thrice that; by it all taps are few together. -/
import Derived.Test.YthaajkpiknbdbaaDoorQAx1
import Derived.Test.YthaajkpiknbdbaaDoorQAx2
import Derived.Test.YthaajkpiknbdbaaDoorQAx3
import Derived.Test.YthaajkpiknbdbaaDoorQAx4
import Derived.Test.YthaajkpiknbdbaaDoorQAx5
import Derived.Test.YthaajkpiknbdbaaDoorQAx6
import Derived.Test.YthaajkpiknbdbaaDoorQAx7
import Derived.Test.YthaajkpiknbdbaaDoorQAx8
import Derived.Test.YthaajkpiknbdbaaDoorQAx9
import Derived.Test.YthaajkpiknbdbaaDoorQAx10
import Derived.Test.YthaajkpiknbdbaaDoorQAx11
import Derived.Test.YthaajkpiknbdbaaDoorQAx12
import Derived.Test.YthaajkpiknbdbaaDoorTCore
import Derived.Test.YthaajkpiknbdbaaDoorTExt
import Derived.Test.YthaajkpiknbdbaaDoorH06e
namespace Go.Proofs.YthaajkpiknbdbaaDoor.QA
open Go.RowKit Go.Proofs.YthaajkpiknbdbaaDoorW.PrintWords Go.Proofs.YthaajkpiknbdbaaDoorW.PrintLast Go.Proofs.YthaajkpiknbdbaaDoorW.PrintMore Go.Proofs.YthaajkpiknbdbaaDoor.T
set_option linter.unusedVariables false
set_option linter.unusedSimpArgs false

theorem fixed_Shift_eq {x n : Int} (hx : I64 x) (hn : I64 n) : fixed_Shift.f x n = some (sh x n) := by
  unfold fixed_Shift.f sh
  by_cases h0 : n ≤ 0
  · rw [if_pos h0, if_pos h0]
  rw [if_neg h0, if_neg h0]
  by_cases h1 : n ≥ 64
  · rw [if_pos h1, rdiv_far (x := x) _ hx]
    calc (18446744073709551616 : Int) = 2 ^ 64 := by decide
      _ ≤ 2 ^ n.toNat := pow_le (by omega)
  rw [if_neg h1, if_pos (by omega), w64_id (show -9223372036854775808 ≤ n - 1 from by omega) (by omega), if_pos (by omega), i64and1, rdiv_pow x n.toNat (by omega)]
  unfold shr
  simp only [IntKind.bits]
  rw [Nat.min_eq_left (by omega), Nat.min_eq_left (by omega)]
  rw [show (n - 1).toNat = n.toNat - 1 from by omega]
  congr 1
  have hp := pow_pos n.toNat
  have h2 : (2 : Int) ≤ 2 ^ n.toNat := by
    calc (2 : Int) = 2 ^ 1 := by decide
      _ ≤ 2 ^ n.toNat := pow_le (by omega)
  have q0 : -4611686018427387904 ≤ x / 2 ^ n.toNat := by
    rw [Int.le_ediv_iff_mul_le hp]
    calc -4611686018427387904 * 2 ^ n.toNat ≤ -4611686018427387904 * 2 := Int.mul_le_mul_of_nonpos_left (by decide) h2
      _ ≤ x := by omega
  have q1 : x / 2 ^ n.toNat < 4611686018427387904 := by
    rw [Int.ediv_lt_iff_lt_mul hp]
    calc x < 4611686018427387904 * 2 := by omega
      _ ≤ 4611686018427387904 * 2 ^ n.toNat := Int.mul_le_mul_of_nonneg_left h2 (by decide)
  exact w64_id (by omega) (by omega)

theorem wide_size_eq {a : Int} (ha : I64 a) : wide_size.f a = some (siz a) := by
  unfold wide_size.f siz
  simp only [u64w]
  split
  · congr 1; omega
  · congr 1; omega

theorem wide_product_eq {a b : Int} (ha : I64 a) (hb : I64 b) : wide_product.f a b = some (siz a * siz b / 18446744073709551616, siz a * siz b % 18446744073709551616, ((decide (a < 0)) != (decide (b < 0)))) := by
  have ua := siz_u ha
  have ub := siz_u hb
  unfold wide_product.f
  rw [wide_size_eq ha, wide_size_eq hb]
  simp only [Option.bind_some]
  rw [bits_Mul64_eq (by omega) (by omega)]
  rfl

theorem wide_signed_eq {k : Nat} (hk : 1 ≤ k) {h l : Int} (hh : U64 h) (hl : U64 l) (b : Bool) : wide_signed.f k h l b = some (hold (sgn b (h * 18446744073709551616 + l))) := by
  obtain ⟨k, rfl⟩ : ∃ n, k = n + 1 := ⟨k - 1, by omega⟩
  unfold wide_signed.f sgn hold
  simp only [wide_signed.j0, u64w]
  cases b
  · simp only [Bool.false_eq_true, if_false]
    rw [if_neg (show ¬ h * 18446744073709551616 + l < -9223372036854775808 from by omega)]
    by_cases c : h > 0
    · rw [if_pos c, if_pos (by omega)]
    · rw [if_neg c]
      by_cases d : l > 9223372036854775807
      · rw [if_pos d, if_pos (by omega)]
      · rw [if_neg d, if_neg (by omega)]; congr 1; unfold wrap64; omega
  · simp only [if_true]
    by_cases c : h > 0
    · rw [if_pos c, if_pos (by omega)]
    · rw [if_neg c]
      by_cases d : l > 9223372036854775808
      · rw [if_pos (decide_eq_true d), if_pos (by omega)]
      · rw [if_neg (show ¬ (decide (l > 9223372036854775808) = true) from by simpa using d), if_neg (by omega), if_neg (by omega)]; congr 1; unfold wrap64; omega

theorem bitLen_spec : ∀ x : Nat, x ≠ 0 → x < 18446744073709551616 → ∃ m, Lib.bitLen x = m + 1 ∧ 2 ^ m ≤ x ∧ x < 2 ^ (m + 1) ∧ m ≤ 63 := by
  intro x
  induction x using Nat.strongRecOn with
  | ind x ih =>
    intro h0 h1
    rw [Lib.bitLen_half x h0 (by have : (2 : Nat) ^ 64 = 18446744073709551616 := by decide
                                 omega)]
    by_cases h : x / 2 = 0
    · refine ⟨0, ?_, by simp; omega, by simp; omega, by decide⟩
      rw [h]; rfl
    · obtain ⟨m, e, a, b, c⟩ := ih (x / 2) (by omega) h (by omega)
      have hp := Nat.pow_succ (n := 2) (m := m)
      have hp2 := Nat.pow_succ (n := 2) (m := m + 1)
      refine ⟨m + 1, by rw [e]; omega, by omega, by omega, ?_⟩
      refine Nat.le_of_not_lt fun hm => ?_
      have : (2 : Nat) ^ 64 ≤ 2 ^ (m + 1) := Nat.pow_le_pow_right (by decide) (by omega)
      have e64 : (2 : Nat) ^ 64 = 18446744073709551616 := by decide
      omega

/-- A quotient's digit, guessed: too great. -/
theorem knuth_down {y1 y0 u v q r Q y : Int} (hy : y = y1 * 4294967296 + y0) (y00 : 0 ≤ y0) (hy1 : 0 < y1)
    (hQ0 : Q * y ≤ u * 4294967296 + v) (huv : u < y) (hv : v < 4294967296) (hq : q * y1 + r = u) (hc : q ≥ 4294967296 ∨ q * y0 > 4294967296 * r + v) : Q ≤ q - 1 := by
  have hyp : 0 < y := by omega
  refine Int.le_of_lt_add_one ?_
  rw [Int.sub_add_cancel]
  refine Int.lt_of_not_ge fun hle => ?_
  rcases hc with hc | hc
  · have h1 : 4294967296 * y ≤ Q * y := Int.mul_le_mul_of_nonneg_right (by omega) (by omega)
    omega
  · have h1 : q * y ≤ Q * y := Int.mul_le_mul_of_nonneg_right hle (by omega)
    have h2 : q * y = q * y1 * 4294967296 + q * y0 := by rw [hy, Int.mul_add, Int.mul_assoc]
    generalize q * y1 = p at *
    generalize q * y0 = s at *
    generalize q * y = t at *
    omega
theorem knuth_le {y1 y0 u v q r Q y : Int} (hy : y = y1 * 4294967296 + y0) (hyp : 0 < y) (hQ1 : u * 4294967296 + v < (Q + 1) * y)
    (hle : q * y ≤ u * 4294967296 + v) : q ≤ Q := by
  refine Int.le_of_lt_add_one ?_
  refine Int.lt_of_not_ge fun h => ?_
  have h1 : (Q + 1) * y ≤ q * y := Int.mul_le_mul_of_nonneg_right h (by omega)
  omega
theorem knuth_stop {y1 y0 u v q r Q y : Int} (hy : y = y1 * 4294967296 + y0) (hyp : 0 < y) (hQ1 : u * 4294967296 + v < (Q + 1) * y) (hv : 0 ≤ v)
    (hq : q * y1 + r = u) (hc : (q * y0 ≤ 4294967296 * r + v) ∨ (0 ≤ y0 ∧ y0 < 4294967296 ∧ 0 ≤ q ∧ q ≤ 4294967296 ∧ r ≥ 4294967296)) : q ≤ Q := by
  refine knuth_le (y1 := y1) (y0 := y0) (r := r) hy hyp hQ1 ?_
  have h2 : q * y = q * y1 * 4294967296 + q * y0 := by rw [hy, Int.mul_add, Int.mul_assoc]
  rcases hc with hc | ⟨a, b, c, d, e⟩
  · generalize q * y1 = p at *
    generalize q * y0 = s at *
    generalize q * y = t at *
    omega
  · have h3 : q * y0 ≤ 4294967296 * 4294967296 := Int.mul_le_mul d (by omega) a (by decide)
    generalize q * y1 = p at *
    generalize q * y0 = s at *
    generalize q * y = t at *
    omega
theorem knuth_first {y1 y0 u y : Int} (hy : y = y1 * 4294967296 + y0) (y00 : y0 < 4294967296) (hy1 : 2147483648 ≤ y1) (hu : u < y) : u / y1 ≤ 4294967297 := by
  refine Int.le_of_lt_add_one ?_
  rw [Int.ediv_lt_iff_lt_mul (by omega)]
  omega
theorem Div64_l0 (y s y1 y0 u v w Q : Int) (hy : y = y1 * 4294967296 + y0) (y00 : 0 ≤ y0 ∧ y0 < 4294967296) (hy1 : 2147483648 ≤ y1 ∧ y1 < 4294967296) (hu : 0 ≤ u ∧ u < y) (hv : 0 ≤ v ∧ v < 4294967296)
    (hQ0 : Q * y ≤ u * 4294967296 + v) (hQ1 : u * 4294967296 + v < (Q + 1) * y) : ∀ (n k : Nat) (q r : Int), 4294967296 ≤ n * 2147483648 + r → 0 ≤ r → r < 4294967296 → 2 * n + 4 ≤ k → q * y1 + r = u → Q ≤ q → 0 ≤ Q → q ≤ 4294967297 →
    ∃ k', k ≤ k' + 2 * n + 4 ∧ bits_Div64.l0 k y s y1 y0 u v w q r = bits_Div64.j2 k' y s y1 y0 u v w Q := by
  intro n
  induction n with
  | zero => intro k q r h0 h1 h2; omega
  | succ n ih =>
    intro k q r h0 hr0 hr1 hk hq hQ hQ00 hqb
    obtain ⟨k, rfl⟩ : ∃ m, k = m + 2 := ⟨k - 2, by omega⟩
    rw [bits_Div64.l0]
    have up : (q ≥ 4294967296 ∨ q * y0 > 4294967296 * r + v) → ∃ k', k + 2 ≤ k' + 2 * (n + 1) + 4 ∧ bits_Div64.j1 (k + 1) y s y1 y0 u v w q r true = bits_Div64.j2 k' y s y1 y0 u v w Q := by
      intro hc
      have hd := knuth_down hy y00.1 (by omega) hQ0 hu.2 hv.2 hq hc
      have hq' : (q - 1) * y1 + (r + y1) = u := by rw [Int.sub_mul, Int.one_mul]; omega
      rw [bits_Div64.j1, if_pos rfl, u64w, u64w, show (r + y1) % 18446744073709551616 = r + y1 from by omega, show (q - 1) % 18446744073709551616 = q - 1 from by omega]
      by_cases hc2 : r + y1 ≥ 4294967296
      · rw [if_pos hc2]
        have hs := knuth_stop hy (by omega) hQ1 hv.1 hq' (Or.inr ⟨y00.1, y00.2, by omega, by omega, hc2⟩)
        exact ⟨k, by omega, by rw [show Q = q - 1 from by omega]⟩
      · rw [if_neg hc2]
        obtain ⟨k', a, b⟩ := ih k (q - 1) (r + y1) (by omega) (by omega) (by omega) (by omega) hq' hd hQ00 (by omega)
        exact ⟨k', by omega, b⟩
    by_cases hc1 : q ≥ 4294967296
    · rw [if_pos hc1]; exact up (Or.inl hc1)
    · rw [if_neg hc1]
      have p0 : 0 ≤ q * y0 := Int.mul_nonneg (by omega) y00.1
      have p1 : q * y0 ≤ 4294967295 * 4294967295 := Int.mul_le_mul (by omega) (by omega) y00.1 (by decide)
      simp only [u64w]
      rw [show (q * y0) % 18446744073709551616 = q * y0 from by omega, show ((4294967296 * r) % 18446744073709551616 + v) % 18446744073709551616 = 4294967296 * r + v from by omega]
      by_cases hc2 : q * y0 > 4294967296 * r + v
      · rw [decide_eq_true hc2]; exact up (Or.inr hc2)
      · rw [decide_eq_false hc2, bits_Div64.j1, if_neg (by decide)]
        have hs := knuth_stop hy (by omega) hQ1 hv.1 hq (Or.inl (by omega))
        exact ⟨k, by omega, by rw [show Q = q from by omega]⟩
theorem Div64_l1 (y s y1 y0 w q1 u Q : Int) (hy : y = y1 * 4294967296 + y0) (y00 : 0 ≤ y0 ∧ y0 < 4294967296) (hy1 : 2147483648 ≤ y1 ∧ y1 < 4294967296) (hu : 0 ≤ u ∧ u < y) (hw : 0 ≤ w ∧ w < 4294967296) (hs : 0 ≤ s ∧ s ≤ 63) (hq1 : 0 ≤ q1 ∧ q1 < 4294967296)
    (hQ0 : Q * y ≤ u * 4294967296 + w) (hQ1 : u * 4294967296 + w < (Q + 1) * y) (hQb : Q < 4294967296) : ∀ (n k : Nat) (q r : Int), 4294967296 ≤ n * 2147483648 + r → 0 ≤ r → r < 4294967296 → 2 * n + 4 ≤ k → q * y1 + r = u → Q ≤ q → 0 ≤ Q → q ≤ 4294967297 →
    bits_Div64.l1 k y s y1 y0 w q1 r u q = some (q1 * 4294967296 + Q, (u * 4294967296 + w - Q * y) / 2 ^ s.toNat) := by
  intro n
  have fin : Q * y ≤ u * 4294967296 + w → (q1 * 4294967296 % 18446744073709551616 + Q) % 18446744073709551616 = q1 * 4294967296 + Q ∨ Q < 0 := by
    intro _
    by_cases h : Q < 0
    · exact Or.inr h
    · left; omega
  have sub : ((u * 4294967296 % 18446744073709551616 + w) % 18446744073709551616 - Q * y % 18446744073709551616) % 18446744073709551616 = u * 4294967296 + w - Q * y := by
    have h1 : (Q + 1) * y = Q * y + y := by rw [Int.add_mul, Int.one_mul]
    rw [h1] at hQ1
    have hyb : y < 18446744073709551616 := by omega
    generalize Q * y = p at *
    omega
  have shs : ∀ x : Int, shr .u64 x s = x / 2 ^ s.toNat := by
    intro x; unfold shr; simp only [IntKind.bits]; rw [Nat.min_eq_left (by omega)]
  induction n with
  | zero => intro k q r h0 h1 h2; omega
  | succ n ih =>
    intro k q r h0 hr0 hr1 hk hq hQ hQ00 hqb
    obtain ⟨k, rfl⟩ : ∃ m, k = m + 2 := ⟨k - 2, by omega⟩
    rw [bits_Div64.l1]
    have up : (q ≥ 4294967296 ∨ q * y0 > 4294967296 * r + w) → bits_Div64.j4 (k + 1) y s y1 y0 w q1 r u q true = some (q1 * 4294967296 + Q, (u * 4294967296 + w - Q * y) / 2 ^ s.toNat) := by
      intro hc
      have hd := knuth_down hy y00.1 (by omega) hQ0 hu.2 hw.2 hq hc
      have hq' : (q - 1) * y1 + (r + y1) = u := by rw [Int.sub_mul, Int.one_mul]; omega
      rw [bits_Div64.j4, if_pos rfl]
      simp only [u64w]
      rw [show (r + y1) % 18446744073709551616 = r + y1 from by omega, show (q - 1) % 18446744073709551616 = q - 1 from by omega]
      by_cases hc2 : r + y1 ≥ 4294967296
      · rw [if_pos hc2]
        have hs' := knuth_stop hy (by omega) hQ1 hw.1 hq' (Or.inr ⟨y00.1, y00.2, by omega, by omega, hc2⟩)
        rw [show q - 1 = Q from by omega, if_pos hs.1, shs, sub]
        congr 2
        rcases fin hQ0 with h | h <;> omega
      · rw [if_neg hc2]
        exact ih k (q - 1) (r + y1) (by omega) (by omega) (by omega) (by omega) hq' hd hQ00 (by omega)
    by_cases hc1 : q ≥ 4294967296
    · rw [if_pos hc1]; exact up (Or.inl hc1)
    · rw [if_neg hc1]
      have p0 : 0 ≤ q * y0 := Int.mul_nonneg (by omega) y00.1
      have p1 : q * y0 ≤ 4294967295 * 4294967295 := Int.mul_le_mul (by omega) (by omega) y00.1 (by decide)
      simp only [u64w]
      rw [show (q * y0) % 18446744073709551616 = q * y0 from by omega, show ((4294967296 * r) % 18446744073709551616 + w) % 18446744073709551616 = 4294967296 * r + w from by omega]
      by_cases hc2 : q * y0 > 4294967296 * r + w
      · rw [decide_eq_true hc2]; exact up (Or.inr hc2)
      · rw [decide_eq_false hc2, bits_Div64.j4, if_neg (by decide)]
        have hs' := knuth_stop hy (by omega) hQ1 hw.1 hq (Or.inl (by omega))
        simp only [u64w]
        rw [show q = Q from by omega, if_pos hs.1, shs, sub]
        congr 2
        rcases fin hQ0 with h | h <;> omega
theorem ediv_bounds (a : Int) {b : Int} (hb : 0 < b) : a / b * b ≤ a ∧ a < (a / b + 1) * b := by
  have e := Int.mul_ediv_add_emod a b
  have r0 := Int.emod_nonneg a (show b ≠ 0 from by omega)
  have r1 := Int.emod_lt_of_pos a hb
  rw [Int.mul_comm] at e
  rw [Int.add_mul, Int.one_mul]
  constructor <;> omega
theorem Div64_norm {k : Nat} (hk : 30 ≤ k) {y s y1 y0 u v w : Int} (hy : y = y1 * 4294967296 + y0) (y00 : 0 ≤ y0 ∧ y0 < 4294967296) (hy1 : 2147483648 ≤ y1 ∧ y1 < 4294967296) (hu : 0 ≤ u ∧ u < y) (hv : 0 ≤ v ∧ v < 4294967296) (hw : 0 ≤ w ∧ w < 4294967296) (hs : 0 ≤ s ∧ s ≤ 63) :
    bits_Div64.l0 k y s y1 y0 u v w (u / y1) (u - u / y1 * y1) = some ((u * 18446744073709551616 + (v * 4294967296 + w)) / y, (u * 18446744073709551616 + (v * 4294967296 + w)) % y / 2 ^ s.toNat) := by
  have hyp : 0 < y := by omega
  have e1 := ediv_bounds u (show 0 < y1 from by omega)
  have e1' : (u / y1 + 1) * y1 = u / y1 * y1 + y1 := by rw [Int.add_mul, Int.one_mul]
  have b1 := ediv_bounds (u * 4294967296 + v) hyp
  have q0 : 0 ≤ (u * 4294967296 + v) / y := Int.ediv_nonneg (by omega) (by omega)
  have q0b : (u * 4294967296 + v) / y < 4294967296 := by rw [Int.ediv_lt_iff_lt_mul hyp]; omega
  have q1 : (u * 4294967296 + v) / y ≤ u / y1 := by
    refine Int.le_of_lt_add_one ?_
    rw [Int.ediv_lt_iff_lt_mul hyp, hy]
    have h0 : 0 ≤ u / y1 := Int.ediv_nonneg hu.1 (by omega)
    have h1 : 0 ≤ (u / y1 + 1) * y0 := Int.mul_nonneg (by omega) y00.1
    have h2 : (u / y1 + 1) * (y1 * 4294967296 + y0) = (u / y1 + 1) * y1 * 4294967296 + (u / y1 + 1) * y0 := by rw [Int.mul_add, Int.mul_assoc]
    rw [h2]
    generalize (u / y1 + 1) * y0 = a at *
    generalize (u / y1 + 1) * y1 = b at *
    omega
  obtain ⟨k', hk', h⟩ := Div64_l0 y s y1 y0 u v w ((u * 4294967296 + v) / y) hy y00 hy1 hu hv b1.1 b1.2 2 k (u / y1) (u - u / y1 * y1) (by omega) (by omega) (by omega) (by omega) (by omega) q1 q0 (knuth_first hy y00.2 hy1.1 hu.2)
  rw [h]
  obtain ⟨k', rfl⟩ : ∃ m, k' = m + 1 := ⟨k' - 1, by omega⟩
  have eu := Int.mul_ediv_add_emod (u * 4294967296 + v) y
  have m0 := Int.emod_nonneg (u * 4294967296 + v) (show y ≠ 0 from by omega)
  have m1 := Int.emod_lt_of_pos (u * 4294967296 + v) hyp
  have big : u * 18446744073709551616 + (v * 4294967296 + w) = (u * 4294967296 + v) * 4294967296 + w := by omega
  rw [big]
  generalize (u * 4294967296 + v) / y = Q1 at *
  generalize (u * 4294967296 + v) % y = U at *
  rw [bits_Div64.j2, if_neg (by omega)]
  have eU : IntKind.u64.wrap ((IntKind.u64.wrap ((IntKind.u64.wrap (u * 4294967296)) + v)) - (IntKind.u64.wrap (Q1 * y))) = U := by
    simp only [u64w]
    rw [Int.mul_comm Q1 y]
    generalize y * Q1 = p at *
    omega
  simp only [eU]
  have f1 := ediv_bounds U (show 0 < y1 from by omega)
  have f1' : (U / y1 + 1) * y1 = U / y1 * y1 + y1 := by rw [Int.add_mul, Int.one_mul]
  have f0 : 0 ≤ U / y1 := Int.ediv_nonneg m0 (by omega)
  have fb : U / y1 ≤ 4294967297 := knuth_first hy y00.2 hy1.1 m1
  have et : IntKind.u64.wrap (Int.tdiv U y1) = U / y1 := by rw [Int.tdiv_eq_ediv_of_nonneg m0, u64w]; omega
  have er : IntKind.u64.wrap (U - IntKind.u64.wrap (U / y1 * y1)) = U - U / y1 * y1 := by simp only [u64w]; omega
  rw [et, er]
  have c1 := ediv_bounds (U * 4294967296 + w) hyp
  have g0 : 0 ≤ (U * 4294967296 + w) / y := Int.ediv_nonneg (by omega) (by omega)
  have g0b : (U * 4294967296 + w) / y < 4294967296 := by rw [Int.ediv_lt_iff_lt_mul hyp]; omega
  have g1 : (U * 4294967296 + w) / y ≤ U / y1 := by
    refine Int.le_of_lt_add_one ?_
    rw [Int.ediv_lt_iff_lt_mul hyp, hy]
    have h1 : 0 ≤ (U / y1 + 1) * y0 := Int.mul_nonneg (by omega) y00.1
    have h2 : (U / y1 + 1) * (y1 * 4294967296 + y0) = (U / y1 + 1) * y1 * 4294967296 + (U / y1 + 1) * y0 := by rw [Int.mul_add, Int.mul_assoc]
    rw [h2]
    generalize (U / y1 + 1) * y0 = a at *
    generalize (U / y1 + 1) * y1 = b at *
    omega
  rw [Div64_l1 y s y1 y0 w Q1 U ((U * 4294967296 + w) / y) hy y00 hy1 ⟨m0, m1⟩ hw hs ⟨q0, q0b⟩ c1.1 c1.2 g0b 2 k' (U / y1) (U - U / y1 * y1) (by omega) (by omega) (by omega) (by omega) (by omega) g1 g0 fb]
  have eW := Int.mul_ediv_add_emod (U * 4294967296 + w) y
  have n0 := Int.emod_nonneg (U * 4294967296 + w) (show y ≠ 0 from by omega)
  have n1 := Int.emod_lt_of_pos (U * 4294967296 + w) hyp
  obtain ⟨z1, z2⟩ := div_unique (a := (u * 4294967296 + v) * 4294967296 + w) (d := y) (q := Q1 * 4294967296 + (U * 4294967296 + w) / y) (r := (U * 4294967296 + w) % y) (by
    rw [Int.add_mul, Int.mul_right_comm, Int.mul_comm Q1 y, Int.mul_comm ((U * 4294967296 + w) / y) y]
    generalize y * Q1 = a at *
    generalize y * ((U * 4294967296 + w) / y) = b at *
    omega) n0 n1
  rw [z1, z2]
  congr 3
  rw [Int.mul_comm ((U * 4294967296 + w) / y) y]; omega
theorem bits_Div64_eq {k : Nat} (hk : 30 ≤ k) {hi lo y : Int} (hy : 0 < y ∧ y < 18446744073709551616) (hhi : 0 ≤ hi ∧ hi < y) (hlo : U64 lo) :
    bits_Div64.f k hi lo y = some ((hi * 18446744073709551616 + lo) / y, (hi * 18446744073709551616 + lo) % y) := by
  unfold bits_Div64.f
  rw [if_neg (by omega), if_neg (by omega)]
  by_cases h0 : hi = 0
  · rw [if_pos h0, h0, Int.tdiv_eq_ediv_of_nonneg hlo.1, Int.tmod_eq_emod_of_nonneg hlo.1, u64w]
    have a : 0 ≤ lo / y := Int.ediv_nonneg hlo.1 (by omega)
    have b : lo / y ≤ lo := Int.ediv_le_self _ hlo.1
    rw [show 0 * 18446744073709551616 + lo = lo from by omega, show lo / y % 18446744073709551616 = lo / y from by omega]
  rw [if_neg h0]
  obtain ⟨m, em, ma, mb, mc⟩ := bitLen_spec y.toNat (by omega) (by omega)
  unfold bits_LeadingZeros64.f
  rw [if_pos (by omega), if_pos (by omega), em]
  simp only [Option.bind_some]
  obtain ⟨s, hs⟩ : ∃ s : Nat, s = 63 - m := ⟨_, rfl⟩
  have e1 : IntKind.u64.wrap (64 - ((m + 1 : Nat) : Int)) = (s : Int) := by rw [u64w]; omega
  have e2 : IntKind.u64.wrap (64 - (s : Int)) = ((64 - s : Nat) : Int) := by rw [u64w]; omega
  rw [e1, e2, if_pos (by omega), if_pos (by omega)]
  have hp := pow_pos s
  have ma' : (2 : Int) ^ m ≤ y := by
    have : ((2 ^ m : Nat) : Int) ≤ (y.toNat : Int) := Int.ofNat_le.2 ma
    rw [Int.natCast_pow] at this
    rw [Int.toNat_of_nonneg (by omega)] at this; exact this
  have mb' : y < (2 : Int) ^ (m + 1) := by
    have : (y.toNat : Int) < ((2 ^ (m + 1) : Nat) : Int) := Int.ofNat_lt.2 mb
    rw [Int.natCast_pow] at this
    rw [Int.toNat_of_nonneg (by omega)] at this; exact this
  have p63 : (2 : Int) ^ m * 2 ^ s = 9223372036854775808 := by rw [← Int.pow_add, show m + s = 63 from by omega]; decide
  have p64 : (2 : Int) ^ (m + 1) * 2 ^ s = 18446744073709551616 := by rw [← Int.pow_add, show m + 1 + s = 64 from by omega]; decide
  have p64' : (2 : Int) ^ (64 - s) * 2 ^ s = 18446744073709551616 := by rw [← Int.pow_add, show 64 - s + s = 64 from by omega]; decide
  have y63 : 9223372036854775808 ≤ y * 2 ^ s := by rw [← p63]; exact Int.mul_le_mul_of_nonneg_right ma' (by omega)
  have y64 : y * 2 ^ s < 18446744073709551616 := by rw [← p64]; exact Int.mul_lt_mul_of_pos_right mb' hp
  have eshl : ∀ x : Int, shl .u64 x (s : Int) = (x * 2 ^ s) % 18446744073709551616 := by
    intro x; unfold shl; simp only [IntKind.bits]; rw [u64w, show ((s : Int)).toNat = s from by omega, Nat.min_eq_left (by omega)]
  have eshr : ∀ x : Int, shr .u64 x ((64 - s : Nat) : Int) = x / 2 ^ (64 - s) := by
    intro x; unfold shr; simp only [IntKind.bits]; rw [show (((64 - s : Nat) : Int)).toNat = 64 - s from by omega, Nat.min_eq_left (by omega)]
  have hh : hi * 2 ^ s + 2 ^ s ≤ y * 2 ^ s := by
    have : (hi + 1) * 2 ^ s ≤ y * 2 ^ s := Int.mul_le_mul_of_nonneg_right (by omega) (by omega)
    rw [Int.add_mul, Int.one_mul] at this; exact this
  have hh0 : 0 ≤ hi * 2 ^ s := Int.mul_nonneg hhi.1 (by omega)
  rw [eshl, eshl, eshl, eshr, Int.emod_eq_of_lt (show 0 ≤ y * 2 ^ s from by omega) y64, Int.emod_eq_of_lt hh0 (by omega)]
  have lp := pow_pos (64 - s)
  have l1 : lo / 2 ^ (64 - s) < 2 ^ s := by
    rw [Int.ediv_lt_iff_lt_mul lp, Int.mul_comm, p64']; exact hlo.2
  have l0 : 0 ≤ lo / 2 ^ (64 - s) := Int.ediv_nonneg hlo.1 (by omega)
  have ejoin : Go.bits .or .u64 (hi * 2 ^ s) (lo / 2 ^ (64 - s)) = hi * 2 ^ s + lo / 2 ^ (64 - s) := by
    have e64 : (2 : Int) ^ 64 = 18446744073709551616 := by decide
    exact bits_join .u64 64 (by decide) (fun n h0 h1 => by rw [u64w]; omega) s _ _ hh0 (Int.mul_emod_left _ _) (by omega) l0 l1 (by omega)
  rw [ejoin, u64and32, u64and32]
  have elo : lo / 2 ^ (64 - s) * 18446744073709551616 + lo * 2 ^ s % 18446744073709551616 = lo * 2 ^ s := by
    have e := Int.mul_ediv_add_emod (lo * 2 ^ s) 18446744073709551616
    have : lo * 2 ^ s / 18446744073709551616 = lo / 2 ^ (64 - s) := by
      rw [← p64', Int.mul_ediv_mul_of_pos_left _ _ hp]
    rw [this] at e; omega
  have t0 : 0 ≤ lo * 2 ^ s % 18446744073709551616 ∧ lo * 2 ^ s % 18446744073709551616 < 18446744073709551616 := by omega
  have big : (hi * 18446744073709551616 + lo) * 2 ^ s = (hi * 2 ^ s + lo / 2 ^ (64 - s)) * 18446744073709551616 + lo * 2 ^ s % 18446744073709551616 := by
    rw [Int.add_mul, Int.add_mul, Int.mul_right_comm]; omega
  have res1 : (hi * 18446744073709551616 + lo) / y = (hi * 18446744073709551616 + lo) * 2 ^ s / (y * 2 ^ s) := (Int.mul_ediv_mul_of_pos_left _ _ hp).symm
  have res2 : (hi * 18446744073709551616 + lo) % y = (hi * 18446744073709551616 + lo) * 2 ^ s % (y * 2 ^ s) / 2 ^ s := by
    rw [Int.mul_comm (hi * 18446744073709551616 + lo), Int.mul_comm y, Int.mul_emod_mul_of_pos _ _ hp, Int.mul_ediv_cancel_left _ (by omega)]
  rw [res1, res2, big]
  clear res1 res2 big elo ejoin
  have hu00 : 0 ≤ hi * 2 ^ s + lo / 2 ^ (64 - s) ∧ hi * 2 ^ s + lo / 2 ^ (64 - s) < y * 2 ^ s := by omega
  generalize hi * 2 ^ s + lo / 2 ^ (64 - s) = u at *
  generalize lo * 2 ^ s % 18446744073709551616 = T at *
  generalize hY : y * 2 ^ s = Y at *
  have hu : 0 ≤ u ∧ u < Y := hu00
  have hy1 : 0 < Y / 4294967296 := by omega
  have uq := ediv_bounds u hy1
  have uq' : (u / (Y / 4294967296) + 1) * (Y / 4294967296) = u / (Y / 4294967296) * (Y / 4294967296) + Y / 4294967296 := by rw [Int.add_mul, Int.one_mul]
  have uq0 : 0 ≤ u / (Y / 4294967296) := Int.ediv_nonneg hu.1 (by omega)
  have uq1 : u / (Y / 4294967296) ≤ u := Int.ediv_le_self _ hu.1
  have et : IntKind.u64.wrap (Int.tdiv u (Y / 4294967296)) = u / (Y / 4294967296) := by rw [Int.tdiv_eq_ediv_of_nonneg hu.1, u64w]; omega
  have er : IntKind.u64.wrap (u - IntKind.u64.wrap (u / (Y / 4294967296) * (Y / 4294967296))) = u - u / (Y / 4294967296) * (Y / 4294967296) := by simp only [u64w]; omega
  rw [if_neg (by omega), et, er]
  have h := Div64_norm hk (y := Y) (s := (s : Int)) (y1 := Y / 4294967296) (y0 := Y % 4294967296) (u := u) (v := T / 4294967296) (w := T % 4294967296) (by omega) (by omega) (by omega) hu (by omega) (by omega) (by omega)
  rw [h, show T / 4294967296 * 4294967296 + T % 4294967296 = T from by omega, show ((s : Int)).toNat = s from by omega]

theorem add64_u {x y : Int} (hx : U64 x) (hy : U64 y) : add64s x y 0 = (x + y) % 18446744073709551616 ∧ add64c x y 0 = (x + y) / 18446744073709551616 := by
  unfold add64s add64c
  constructor <;> (simp only [Int.toNat_zero]; omega)
theorem hold_big {b : Bool} {m n : Int} (hm : 9223372036854775808 ≤ m) (hn : 9223372036854775808 ≤ n) : hold (sgn b m) = hold (sgn b n) := by
  unfold hold sgn
  cases b
  · simp only [Bool.false_eq_true, if_false]; rw [if_neg (by omega), if_pos (by omega), if_neg (by omega), if_pos (by omega)]
  · simp only [if_true]
    by_cases h1 : m = 9223372036854775808
    · by_cases h2 : n = 9223372036854775808
      · rw [h1, h2]
      · rw [if_neg (by omega), if_neg (by omega), if_pos (by omega)]; omega
    · by_cases h2 : n = 9223372036854775808
      · rw [if_pos (by omega), if_neg (by omega), if_neg (by omega)]; omega
      · rw [if_pos (by omega), if_pos (by omega)]
theorem wide_MulDiv_eq {k : Nat} (hk : 40 ≤ k) {a b d : Int} (ha : I64 a) (hb : I64 b) (hd : I64 d) : wide_MulDiv.f k a b d = some (hold (rdiv (a * b) d)) := by
  unfold wide_MulDiv.f
  by_cases hd0 : d = 0
  · rw [if_pos hd0, hd0]; simp [rdiv, hold]
  have ua := siz_u ha
  have ub := siz_u hb
  have ud := siz_u hd
  have ud0 : siz d ≠ 0 := fun h => hd0 (siz_zero.1 h)
  rw [if_neg hd0, wide_product_eq ha hb, wide_size_eq hd]
  simp only [Option.bind_some]
  have p0 := Int.mul_nonneg ua.1 ub.1
  have p1 : siz a * siz b ≤ 9223372036854775808 * 9223372036854775808 := Int.mul_le_mul ua.2 ub.2 ub.1 (by decide)
  have e0 := sgn_siz2 a b
  have es := sgn_xor ((decide (a < 0)) != (decide (b < 0))) d (siz a * siz b) hd0
  rw [e0] at es
  rw [← es]
  generalize siz a * siz b = p at *
  generalize ((decide (a < 0)) != (decide (b < 0))) = s0 at *
  generalize (s0 != decide (d < 0)) = s at *
  generalize siz d = D at *
  have q0 : 0 ≤ p / D := Int.ediv_nonneg p0 (by omega)
  have eqp := ediv_bounds p (show 0 < D from by omega)
  rw [rdiv_sgn s p0 (by omega)]
  by_cases c : p / 18446744073709551616 ≥ D
  · rw [if_pos c, wide_signed_eq (by omega) (by omega) (by omega)]
    simp only [Option.bind_some]
    congr 1
    have big : 18446744073709551616 ≤ p / D := by
      rw [Int.le_ediv_iff_mul_le (by omega)]; omega
    refine hold_big (by omega) ?_
    cases s <;> (simp only [Bool.false_eq_true, if_false, if_true]; split <;> omega)
  · rw [if_neg c, bits_Div64_eq (by omega) (by omega) (by omega) (by omega)]
    simp only [Option.bind_some]
    rw [show p / 18446744073709551616 * 18446744073709551616 + p % 18446744073709551616 = p from by omega]
    have r0 := Int.emod_nonneg p (show D ≠ 0 from by omega)
    have r1 := Int.emod_lt_of_pos p (show 0 < D from by omega)
    have qb : p / D < 18446744073709551616 := by rw [Int.ediv_lt_iff_lt_mul (by omega)]; omega
    generalize p % D = r at *
    generalize p / D = q at *
    rw [u64w, show (D - r) % 18446744073709551616 = D - r from by omega]
    obtain ⟨k, rfl⟩ : ∃ n, k = n + 1 := ⟨k - 1, by omega⟩
    have up : ∀ s, wide_MulDiv.j0 (k + 1) s q 0 true = some (hold (sgn s (q + 1))) := by
      intro s
      obtain ⟨x1, x2⟩ := add64_u (x := q) (y := 1) (by omega) (by omega)
      rw [wide_MulDiv.j0, if_pos rfl, x1, x2, wide_signed_eq (by omega) (by omega) (by omega)]
      simp only [Option.bind_some]; congr 3; omega
    have dn : ∀ s, wide_MulDiv.j0 (k + 1) s q 0 false = some (hold (sgn s q)) := by
      intro s
      obtain ⟨x1, x2⟩ := add64_u (x := q) (y := 0) (by omega) (by omega)
      rw [wide_MulDiv.j0, if_neg (by decide), x1, x2, wide_signed_eq (by omega) (by omega) (by omega)]
      simp only [Option.bind_some]; congr 3; omega
    cases s
    · simp only [Bool.false_eq_true, if_false]
      by_cases g : r ≥ D - r
      · rw [if_pos g, decide_eq_true g]; exact up _
      · rw [if_neg g, decide_eq_false g]; exact dn _
    · simp only [if_true]
      by_cases g : r > D - r
      · rw [if_pos g, if_pos g]; exact up _
      · rw [if_neg g, if_neg g]; exact dn _

theorem shr_u (x : Int) (n : Nat) (hn : n ≤ 64) : shr .u64 x (n : Int) = x / 2 ^ n := by
  unfold shr; simp only [IntKind.bits]; rw [show ((n : Int)).toNat = n from by omega, Nat.min_eq_left (by omega)]
theorem shl_u (x : Int) (n : Nat) (hn : n ≤ 64) : shl .u64 x (n : Int) = (x * 2 ^ n) % 18446744073709551616 := by
  unfold shl; simp only [IntKind.bits]; rw [u64w, show ((n : Int)).toNat = n from by omega, Nat.min_eq_left (by omega)]
theorem p64_split {n : Nat} (hn : n ≤ 64) : (2 : Int) ^ (64 - n) * 2 ^ n = 18446744073709551616 := by rw [← Int.pow_add, show 64 - n + n = 64 from by omega]; decide
theorem wide_shift_eq {p : Int} (hp : 0 ≤ p ∧ p < 340282366920938463463374607431768211456) (n : Nat) (hn : n ≤ 127) :
    ∃ h l, wide_shift.f (p / 18446744073709551616) (p % 18446744073709551616) (n : Int) = some (h, l) ∧ U64 h ∧ U64 l ∧ h * 18446744073709551616 + l = p / 2 ^ n := by
  have e64 : (18446744073709551616 : Int) = 2 ^ 64 := by decide
  unfold wide_shift.f
  by_cases c : (n : Int) ≥ 64
  · rw [if_pos c, w64_id (show -9223372036854775808 ≤ (n : Int) - 64 from by omega) (by omega), if_pos (by omega), show (n : Int) - 64 = ((n - 64 : Nat) : Int) from by omega, shr_u _ _ (by omega)]
    have e : p / 18446744073709551616 / 2 ^ (n - 64) = p / 2 ^ n := by
      rw [Int.ediv_ediv_of_nonneg (by decide), e64, ← Int.pow_add, show 64 + (n - 64) = n from by omega]
    have b1 : p / 18446744073709551616 / 2 ^ (n - 64) ≤ p / 18446744073709551616 := Int.ediv_le_self _ (by omega)
    have b0 : 0 ≤ p / 18446744073709551616 / 2 ^ (n - 64) := Int.ediv_nonneg (by omega) (by have := pow_pos (n - 64); omega)
    exact ⟨_, _, rfl, by omega, by omega, by rw [← e]; omega⟩
  · rw [if_neg c, if_pos (by omega), w64_id (show -9223372036854775808 ≤ 64 - (n : Int) from by omega) (by omega), if_pos (by omega), show 64 - (n : Int) = ((64 - n : Nat) : Int) from by omega,
      shr_u _ _ (by omega), shr_u _ _ (by omega), shl_u _ _ (by omega)]
    have ps := p64_split (show n ≤ 64 from by omega)
    have hpn := pow_pos n
    have hpm := pow_pos (64 - n)
    generalize hH : p / 18446744073709551616 = H
    generalize hL : p % 18446744073709551616 = L
    have b1 : H / 2 ^ n ≤ H := Int.ediv_le_self _ (by omega)
    have b0 : 0 ≤ H / 2 ^ n := Int.ediv_nonneg (by omega) (by omega)
    have l0 : 0 ≤ L / 2 ^ n := Int.ediv_nonneg (by omega) (by omega)
    have l1 : L / 2 ^ n < 2 ^ (64 - n) := by rw [Int.ediv_lt_iff_lt_mul hpn, ps]; omega
    have pm : (2 : Int) ^ (64 - n) ≤ 18446744073709551616 := by
      calc (2 : Int) ^ (64 - n) ≤ 2 ^ 64 := pow_le (by omega)
        _ = _ := by decide
    have hm : H * 2 ^ (64 - n) % 18446744073709551616 = H % 2 ^ n * 2 ^ (64 - n) := by
      rw [← ps, Int.mul_comm H, Int.mul_emod_mul_of_pos _ _ hpm, Int.mul_comm]
    have hm0 : 0 ≤ H % 2 ^ n := Int.emod_nonneg _ (by omega)
    have hm1 : H % 2 ^ n < 2 ^ n := Int.emod_lt_of_pos _ hpn
    have hm2 : H % 2 ^ n * 2 ^ (64 - n) + 2 ^ (64 - n) ≤ 18446744073709551616 := by
      have : (H % 2 ^ n + 1) * 2 ^ (64 - n) ≤ 2 ^ n * 2 ^ (64 - n) := Int.mul_le_mul_of_nonneg_right (by omega) (by omega)
      rw [Int.add_mul, Int.one_mul, Int.mul_comm (2 ^ n), ps] at this; exact this
    have hm3 : 0 ≤ H % 2 ^ n * 2 ^ (64 - n) := Int.mul_nonneg hm0 (by omega)
    have ej : Go.bits .or .u64 (L / 2 ^ n) (H * 2 ^ (64 - n) % 18446744073709551616) = L / 2 ^ n + H % 2 ^ n * 2 ^ (64 - n) := by
      rw [hm]
      have := bits_join .u64 64 (by decide) (fun n h0 h1 => by rw [u64w]; rw [← e64] at h1; omega) (64 - n) (H % 2 ^ n * 2 ^ (64 - n)) (L / 2 ^ n) hm3 (Int.mul_emod_left _ _) (by rw [← e64]; omega) l0 l1 (by rw [← e64]; omega)
      rw [Int.add_comm, ← this]
      simp only [bits]
      rw [BitVec.or_comm]
    rw [ej]
    refine ⟨_, _, rfl, by omega, by omega, ?_⟩
    -- p = H * 2^64 + L
    have eH := Int.mul_ediv_add_emod H (2 ^ n)
    have eL := Int.mul_ediv_add_emod L (2 ^ n)
    have r0 := Int.emod_nonneg L (show (2 : Int) ^ n ≠ 0 from by omega)
    have r1 := Int.emod_lt_of_pos L hpn
    refine (div_unique (r := L % 2 ^ n) ?_ r0 r1).1.symm
    have x1 : H / 2 ^ n * 18446744073709551616 * 2 ^ n = 2 ^ n * (H / 2 ^ n) * 18446744073709551616 := by
      rw [Int.mul_right_comm, Int.mul_comm (H / 2 ^ n)]
    have x2 : H % 2 ^ n * 2 ^ (64 - n) * 2 ^ n = H % 2 ^ n * 18446744073709551616 := by rw [Int.mul_assoc, ps]
    have x3 : L / 2 ^ n * 2 ^ n = 2 ^ n * (L / 2 ^ n) := Int.mul_comm _ _
    rw [Int.add_mul, Int.add_mul, x1, x2, x3]
    have x4 : 2 ^ n * (H / 2 ^ n) * 18446744073709551616 = (H - H % 2 ^ n) * 18446744073709551616 := by congr 1; omega
    rw [x4]
    omega

theorem wide_exact_eq {p : Int} (hp : 0 ≤ p ∧ p < 340282366920938463463374607431768211456) (n : Nat) (hn : n ≤ 127) :
    wide_exact.f (p / 18446744073709551616) (p % 18446744073709551616) (n : Int) = some (decide (p % 2 ^ n = 0)) := by
  have e64 : (18446744073709551616 : Int) = 2 ^ 64 := by decide
  unfold wide_exact.f
  by_cases c : (n : Int) ≥ 64
  · rw [if_pos c, w64_id (show -9223372036854775808 ≤ 128 - (n : Int) from by omega) (by omega)]
    have en : (2 : Int) ^ n = 18446744073709551616 * 2 ^ (n - 64) := by rw [e64, ← Int.pow_add, show 64 + (n - 64) = n from by omega]
    have hpn := pow_pos (n - 64)
    have e : p % 2 ^ n = p % 18446744073709551616 + 18446744073709551616 * (p / 18446744073709551616 % 2 ^ (n - 64)) := by
      have d1 := Int.mul_ediv_add_emod p 18446744073709551616
      have d2 := Int.mul_ediv_add_emod (p / 18446744073709551616) (2 ^ (n - 64))
      have r0 := Int.emod_nonneg (p / 18446744073709551616) (show (2 : Int) ^ (n - 64) ≠ 0 from by omega)
      have r1 := Int.emod_lt_of_pos (p / 18446744073709551616) hpn
      refine (div_unique (q := p / 18446744073709551616 / 2 ^ (n - 64)) ?_ (by omega) (by rw [en]; omega)).2
      rw [en, Int.mul_left_comm, Int.mul_comm (p / 18446744073709551616 / 2 ^ (n - 64))]
      omega
    have r0 := Int.emod_nonneg (p / 18446744073709551616) (show (2 : Int) ^ (n - 64) ≠ 0 from by omega)
    by_cases z : p % 18446744073709551616 = 0
    · rw [if_pos z, if_pos (by omega), show 128 - (n : Int) = ((128 - n : Nat) : Int) from by omega, shl_u _ _ (by omega)]
      congr 1
      have ps : (2 : Int) ^ (128 - n) * 2 ^ (n - 64) = 18446744073709551616 := by rw [← Int.pow_add, show 128 - n + (n - 64) = 64 from by omega]; decide
      have : p / 18446744073709551616 * 2 ^ (128 - n) % 18446744073709551616 = 2 ^ (128 - n) * (p / 18446744073709551616 % 2 ^ (n - 64)) := by
        have h := Int.mul_emod_mul_of_pos (p / 18446744073709551616) (2 ^ (n - 64)) (pow_pos (128 - n))
        rw [ps, Int.mul_comm (2 ^ (128 - n)) (p / 18446744073709551616)] at h
        exact h
      rw [this, e, z]
      have hq := pow_pos (128 - n)
      rw [Bool.eq_iff_iff]
      simp only [beq_iff_eq, decide_eq_true_eq]
      constructor
      · intro h
        rcases Int.mul_eq_zero.1 h with h | h
        · omega
        · rw [h]; rfl
      · intro h
        rw [show p / 18446744073709551616 % 2 ^ (n - 64) = 0 from by omega, Int.mul_zero]
    · rw [if_neg z]
      congr 1
      refine (decide_eq_false ?_).symm
      omega
  · rw [if_neg c, w64_id (show -9223372036854775808 ≤ 64 - (n : Int) from by omega) (by omega), if_pos (by omega), show 64 - (n : Int) = ((64 - n : Nat) : Int) from by omega, shl_u _ _ (by omega)]
    have ps := p64_split (show n ≤ 64 from by omega)
    have hpn := pow_pos n
    have hpm := pow_pos (64 - n)
    congr 1
    have e : p % 2 ^ n = p % 18446744073709551616 % 2 ^ n := (Int.emod_emod_of_dvd p ⟨2 ^ (64 - n), by rw [← ps, Int.mul_comm]⟩).symm
    rw [e]
    generalize p % 18446744073709551616 = L
    have : L * 2 ^ (64 - n) % 18446744073709551616 = 2 ^ (64 - n) * (L % 2 ^ n) := by
      have h := Int.mul_emod_mul_of_pos L (2 ^ n) hpm
      rw [ps, Int.mul_comm (2 ^ (64 - n)) L] at h
      exact h
    rw [this]
    rw [Bool.eq_iff_iff]
    simp only [beq_iff_eq, decide_eq_true_eq]
    constructor
    · intro h
      rcases Int.mul_eq_zero.1 h with h | h
      · omega
      · exact h
    · intro h; rw [h, Int.mul_zero]

/-- A product by bits, rounded. -/
def mulsh (a b n : Int) : Int := if n ≥ 128 then 0 else hold (rdiv (a * b) (2 ^ (mx 0 n).toNat))
theorem rdiv_sgn_pow (s : Bool) {p : Int} (hp : 0 ≤ p) (n : Nat) (hn : 1 ≤ n) :
    rdiv (sgn s p) (2 ^ n) = sgn s (p / 2 ^ n + if p / 2 ^ (n - 1) % 2 = 0 ∨ (s = true ∧ p % 2 ^ (n - 1) = 0) then 0 else 1) := by
  obtain ⟨m, rfl⟩ : ∃ m, n = m + 1 := ⟨n - 1, by omega⟩
  rw [Nat.add_sub_cancel]
  have hpm := pow_pos m
  rw [rdiv_sgn s hp (pow_pos _)]
  have h2 := half_pow p m
  have e1 := Int.mul_ediv_add_emod p (2 ^ (m + 1))
  have e2 := Int.mul_ediv_add_emod p (2 ^ m)
  have r0 := Int.emod_nonneg p (show (2 : Int) ^ m ≠ 0 from by omega)
  have r1 := Int.emod_lt_of_pos p hpm
  have er : p % 2 ^ (m + 1) = 2 ^ m * (p / 2 ^ m % 2) + p % 2 ^ m := by
    have hb : p / 2 ^ m % 2 = 0 ∨ p / 2 ^ m % 2 = 1 := by omega
    refine (div_unique (q := p / 2 ^ (m + 1)) ?_ ?_ ?_).2
    · rw [pow_succ2, ← Int.mul_assoc]
      have : p / (2 * 2 ^ m) = p / 2 ^ (m + 1) := by rw [pow_succ2]
      rw [this]
      have h3 : p / 2 ^ (m + 1) * 2 * 2 ^ m + (2 ^ m * (p / 2 ^ m % 2) + p % 2 ^ m) = 2 ^ m * (2 * (p / 2 ^ (m + 1)) + p / 2 ^ m % 2) + p % 2 ^ m := by
        rw [Int.mul_add, Int.mul_comm (p / 2 ^ (m + 1)) 2, Int.mul_comm (2 * (p / 2 ^ (m + 1)))]; omega
      rw [h3, ← h2]; exact e2
    · rcases hb with h | h <;> rw [h] <;> omega
    · rw [pow_succ2]; rcases hb with h | h <;> rw [h] <;> omega
  rw [er, pow_succ2]
  generalize (2 : Int) ^ m = d at *
  have hb : p / d % 2 = 0 ∨ p / d % 2 = 1 := by omega
  generalize p / d % 2 = bit at *
  generalize p % d = r at *
  congr 1
  cases s
  · simp only [Bool.false_eq_true, if_false, false_and, or_false]
    rcases hb with h | h
    · rw [h, if_neg (by omega), if_pos rfl]; omega
    · rw [h, if_pos (by omega), if_neg (by omega)]
  · simp only [if_true, true_and]
    rcases hb with h | h
    · rw [h, if_neg (by omega), if_pos (Or.inl rfl)]; omega
    · rw [h]
      by_cases z : r = 0
      · rw [if_neg (by omega), if_pos (Or.inr z)]; omega
      · rw [if_pos (by omega), if_neg (by omega)]
theorem wide_MulShift_eq {k : Nat} (hk : 3 ≤ k) {a b n : Int} (ha : I64 a) (hb : I64 b) (hn : I64 n) : wide_MulShift.f k a b n = some (mulsh a b n) := by
  unfold wide_MulShift.f mulsh
  have ua := siz_u ha
  have ub := siz_u hb
  by_cases c : n ≥ 128
  · rw [if_pos c, if_pos (by unfold mx; split <;> omega)]
  rw [if_neg c, if_neg (by unfold mx; split <;> omega), wide_product_eq ha hb]
  simp only [Option.bind_some]
  have p0 := Int.mul_nonneg ua.1 ub.1
  have p1 : siz a * siz b ≤ 9223372036854775808 * 9223372036854775808 := Int.mul_le_mul ua.2 ub.2 ub.1 (by decide)
  have e0 := sgn_siz2 a b
  rw [← e0]
  generalize siz a * siz b = p at *
  generalize ((decide (a < 0)) != (decide (b < 0))) = s at *
  obtain ⟨m, hm⟩ : ∃ m : Nat, mx 0 n = m := ⟨(mx 0 n).toNat, by unfold mx; split <;> omega⟩
  have hm2 : m ≤ 127 := by unfold mx at hm; split at hm <;> omega
  rw [hm, show ((m : Int)).toNat = m from by omega]
  by_cases z : (m : Int) = 0
  · rw [if_pos z, wide_signed_eq (by omega) (by omega) (by omega)]
    simp only [Option.bind_some]
    rw [show m = 0 from by omega, Int.pow_zero, rdiv_one]
    congr 3; omega
  rw [if_neg z, w64_id (show -9223372036854775808 ≤ (m : Int) - 1 from by omega) (by omega), show (m : Int) - 1 = ((m - 1 : Nat) : Int) from by omega]
  obtain ⟨h1, l1, x1, x2, x3, x4⟩ := wide_shift_eq (p := p) ⟨p0, by omega⟩ m hm2
  obtain ⟨h2, l2, y1, y2, y3, y4⟩ := wide_shift_eq (p := p) ⟨p0, by omega⟩ (m - 1) (by omega)
  rw [x1, y1, wide_exact_eq (p := p) ⟨p0, by omega⟩ (m - 1) (by omega)]
  simp only [Option.bind_some]
  rw [u64and1]
  have eb : l2 % 2 = p / 2 ^ (m - 1) % 2 := by omega
  rw [eb, rdiv_sgn_pow s p0 m (by omega)]
  obtain ⟨k, rfl⟩ : ∃ j, k = j + 1 := ⟨k - 1, by omega⟩
  have dn : wide_MulShift.j0 (k + 1) s h1 l1 true = some (hold (sgn s (p / 2 ^ m + 0))) := by
    rw [wide_MulShift.j0, if_pos rfl, wide_signed_eq (by omega) x2 x3, x4]
    simp
  have q1 : 2 * (p / 2 ^ m) ≤ p := by
    have := (ediv_bounds p (pow_pos m)).1
    have h2 : (2 : Int) ≤ 2 ^ m := by
      calc (2 : Int) = 2 ^ 1 := by decide
        _ ≤ 2 ^ m := pow_le (by omega)
    have h3 : p / 2 ^ m * 2 ≤ p / 2 ^ m * 2 ^ m := Int.mul_le_mul_of_nonneg_left h2 (Int.ediv_nonneg p0 (by omega))
    omega
  have up : wide_MulShift.j0 (k + 1) s h1 l1 false = some (hold (sgn s (p / 2 ^ m + 1))) := by
    obtain ⟨z1, z2⟩ := add64_u (x := l1) (y := 1) x3 (by omega)
    rw [wide_MulShift.j0, if_neg (by decide), z1, z2, u64w, wide_signed_eq (by omega) (by omega) (by omega)]
    simp only [Option.bind_some]; congr 3; omega
  by_cases g : p / 2 ^ (m - 1) % 2 = 0
  · rw [if_pos g, if_pos (Or.inl g)]; exact dn
  rw [if_neg g]
  cases s
  · simp only [Bool.false_eq_true, if_false, false_and, or_false]
    rw [if_neg g]; exact up
  · simp only [if_true, true_and]
    by_cases e : p % 2 ^ (m - 1) = 0
    · rw [decide_eq_true e, if_pos (Or.inr e)]; exact dn
    · rw [decide_eq_false e, if_neg (by omega)]; exact up

/-- May a fraction be? -/
def mayP (p q : Int) : Prop := 1 ≤ q ∧ q ≤ 1048576 ∧ -4 * q ≤ p ∧ p ≤ 4 * q
instance (p q : Int) : Decidable (mayP p q) := by unfold mayP; exact inferInstance
theorem sinc_May_eq (p q : Int) : sinc_May.f p q = some (decide (mayP p q)) := by
  unfold sinc_May.f mayP
  by_cases h1 : q ≥ 1
  · rw [if_pos h1]
    by_cases h2 : q ≤ 1048576
    · rw [if_pos h2, w64_id (show -9223372036854775808 ≤ -4 * q from by omega) (by omega), w64_id (show -9223372036854775808 ≤ 4 * q from by omega) (by omega)]
      by_cases h3 : p ≥ -4 * q
      · rw [if_pos h3]; congr 1; exact decide_eq_decide.2 (by omega)
      · rw [if_neg h3]; congr 1; exact (decide_eq_false (by omega)).symm
    · rw [if_neg h2]; congr 1; exact (decide_eq_false (by omega)).symm
  · rw [if_neg h1]; congr 1; exact (decide_eq_false (by omega)).symm

def serU (p q : Int) : Int := hold (rdiv (hold (rdiv (10851744800547 * p) q) * p) q)
def serT (u : Int) : Nat → Int
  | 0 => 1099511627776
  | n + 1 => hold (rdiv (serT u n * u) ((2 * ((n : Int) + 1)) * (2 * ((n : Int) + 1) + 1) * 1099511627776))
def serS (u : Int) : Nat → Int
  | 0 => 1099511627776
  | n + 1 => if n % 2 = 0 then wrap64 (serS u n - serT u (n + 1)) else wrap64 (serS u n + serT u (n + 1))
/-- The series of a fraction. -/
def serV (p q : Int) : Int := serS (serU (siz p) q) 30
theorem serT_i (r : Int) : ∀ n, I64 (serT r n)
  | 0 => by unfold serT; decide
  | n + 1 => by unfold serT; exact hold_i _
theorem w64_i4 (x : Int) : I64 (wrap64 x) := by unfold wrap64; constructor <;> omega
theorem serS_i (r : Int) : ∀ n, I64 (serS r n)
  | 0 => by unfold serS; decide
  | n + 1 => by unfold serS; split <;> exact w64_i4 _
theorem den_le (n : Nat) (h : n ≤ 29) : 6 ≤ (2 * ((n : Int) + 1)) * (2 * ((n : Int) + 1) + 1) ∧ (2 * ((n : Int) + 1)) * (2 * ((n : Int) + 1) + 1) ≤ 3660 := by
  have a : (2 * ((n : Int) + 1)) * (2 * ((n : Int) + 1) + 1) ≤ 60 * 61 := Int.mul_le_mul (by omega) (by omega) (by omega) (by decide)
  have b : 2 * 3 ≤ (2 * ((n : Int) + 1)) * (2 * ((n : Int) + 1) + 1) := Int.mul_le_mul (by omega) (by omega) (by decide) (by omega)
  constructor <;> omega
theorem sinc_series_l0 (u : Int) (hu : I64 u) : ∀ (d k n : Nat), n + d = 30 → d + 60 < k →
    sinc_series.l0 k u (serS u n) (serT u n) (if n % 2 = 0 then 1 else -1) ((n : Int) + 1) = some (serS u 30) := by
  intro d
  induction d with
  | zero =>
    intro k n hn hk
    obtain ⟨k, rfl⟩ : ∃ m, k = m + 1 := ⟨k - 1, by omega⟩
    rw [sinc_series.l0, if_neg (by omega), show n = 30 from by omega]
  | succ d ih =>
    intro k n hn hk
    obtain ⟨k, rfl⟩ : ∃ m, k = m + 1 := ⟨k - 1, by omega⟩
    have hd := den_le n (by omega)
    rw [sinc_series.l0, if_pos (by omega), w64_id (show -9223372036854775808 ≤ 2 * ((n : Int) + 1) from by omega) (by omega), w64_id (show -9223372036854775808 ≤ 2 * ((n : Int) + 1) + 1 from by omega) (by omega),
      w64_id (show -9223372036854775808 ≤ 2 * ((n : Int) + 1) * (2 * ((n : Int) + 1) + 1) from by omega) (by omega), w64_id (show -9223372036854775808 ≤ 2 * ((n : Int) + 1) * (2 * ((n : Int) + 1) + 1) * 1099511627776 from by omega) (by omega),
      w64_id (show -9223372036854775808 ≤ (n : Int) + 1 + 1 from by omega) (by omega)]
    rw [wide_MulDiv_eq (by omega) (serT_i u n) hu (by constructor <;> omega)]
    simp only [Option.bind_some]
    have et : hold (rdiv (serT u n * u) (2 * ((n : Int) + 1) * (2 * ((n : Int) + 1) + 1) * 1099511627776)) = serT u (n + 1) := by rw [serT]
    rw [et]
    have h := ih k (n + 1) (by omega) (by omega)
    have es : serS u (n + 1) = if n % 2 = 0 then wrap64 (serS u n - serT u (n + 1)) else wrap64 (serS u n + serT u (n + 1)) := by rw [serS]
    rw [show ((n + 1 : Nat) : Int) = (n : Int) + 1 from by omega, es] at h
    rw [← h]
    by_cases c : n % 2 = 0
    · rw [if_pos c, if_pos c, if_neg (by omega), w64_id (show -9223372036854775808 ≤ (-1 : Int) from by decide) (by decide)]
      congr 1
      generalize serT u (n + 1) = t
      unfold wrap64; omega
    · rw [if_neg c, if_neg c, if_pos (by omega), w64_id (show -9223372036854775808 ≤ -(-1 : Int) from by decide) (by decide)]
      congr 1
      generalize serT u (n + 1) = t
      unfold wrap64; omega
theorem sinc_series_eq {k : Nat} (hk : 200 ≤ k) {p q : Int} (hp : -9223372036854775807 ≤ p ∧ p ≤ 9223372036854775807) (hq : I64 q) : sinc_series.f k p q = some (serV p q) := by
  unfold sinc_series.f sinc_size.f serV
  have e : mx p (wrap64 (-p)) = siz p := by rw [w64_id (by omega) (by omega)]; unfold mx siz; split <;> split <;> omega
  have hs : I64 (siz p) := by unfold siz; split <;> constructor <;> omega
  rw [e]
  simp only [Option.bind_some]
  rw [wide_MulDiv_eq (by omega) (by decide) hs hq]
  simp only [Option.bind_some]
  rw [wide_MulDiv_eq (by omega) (hold_i _) hs hq]
  simp only [Option.bind_some]
  exact sinc_series_l0 _ (hold_i _) 30 k 0 (by omega) (by omega)

def lanV (p q : Int) : Int := if mayP p q ∧ siz p < 3 * q then sh (mulsh (serV p q) (serV p (3 * q)) 40) 10 else 0
theorem mulsh_i (a b n : Int) : I64 (mulsh a b n) := by
  unfold mulsh; split
  · constructor <;> omega
  · exact hold_i _
theorem serV_i (p q : Int) : I64 (serV p q) := serS_i _ _
theorem lanV_i (p q : Int) : I64 (lanV p q) := by
  unfold lanV; split
  · exact sh_range (mulsh_i _ _ _)
  · constructor <;> omega
theorem sinc_Lanczos_eq {k : Nat} (hk : 300 ≤ k) (p q : Int) : sinc_Lanczos.f k p q = some (lanV p q) := by
  obtain ⟨k, rfl⟩ : ∃ m, k = m + 1 := ⟨k - 1, by omega⟩
  unfold sinc_Lanczos.f lanV
  rw [sinc_May_eq]
  simp only [Option.bind_some]
  by_cases c : mayP p q
  · have c' : 1 ≤ q ∧ q ≤ 1048576 ∧ -4 * q ≤ p ∧ p ≤ 4 * q := c
    rw [if_pos (decide_eq_true c)]
    have e : mx p (wrap64 (-p)) = siz p := by rw [w64_id (by omega) (by omega)]; unfold mx siz; split <;> split <;> omega
    unfold sinc_size.f
    rw [e, w64_id (show -9223372036854775808 ≤ 3 * q from by omega) (by omega)]
    simp only [Option.bind_some]
    rw [sinc_Lanczos.j0]
    by_cases g : siz p < 3 * q
    · rw [if_neg (by simp; omega), if_pos ⟨c, g⟩, w64_id (show -9223372036854775808 ≤ 3 * q from by omega) (by omega), sinc_series_eq (by omega) (by omega) (by constructor <;> omega), sinc_series_eq (by omega) (by omega) (by constructor <;> omega)]
      simp only [Option.bind_some]
      rw [wide_MulShift_eq (by omega) (serV_i _ _) (serV_i _ _) (by decide)]
      simp only [Option.bind_some]
      rw [fixed_Shift_eq (mulsh_i _ _ _) (by decide)]
      rfl
    · rw [if_pos (by simp; omega), if_neg (by omega)]
  · rw [if_neg (by simpa using c), if_neg (by intro h; exact c h.1), sinc_Lanczos.j0, if_pos rfl]

/-- May there be such a sample? -/
def mayR (f n m i : Int) : Prop := 0 ≤ f ∧ f < 3 ∧ 1 ≤ n ∧ n ≤ 65536 ∧ 1 ≤ m ∧ m ≤ 65536 ∧ 0 ≤ i ∧ i < m
instance (f n m i : Int) : Decidable (mayR f n m i) := by unfold mayR; exact inferInstance
theorem raw_may_eq (f n m i : Int) : raw_may.f f n m i = some (decide (mayR f n m i)) := by
  unfold raw_may.f mayR
  by_cases h1 : f ≥ 0
  · rw [if_pos h1]
    by_cases h2 : f < 3
    · rw [if_pos h2]
      by_cases h3 : n ≥ 1
      · rw [if_pos h3]
        by_cases h4 : n ≤ 65536
        · rw [if_pos h4]
          by_cases h5 : m ≥ 1
          · rw [if_pos h5]
            by_cases h6 : m ≤ 65536
            · rw [if_pos h6]
              by_cases h7 : i ≥ 0
              · rw [if_pos h7]; congr 1; exact decide_eq_decide.2 (by omega)
              · rw [if_neg h7]; congr 1; exact (decide_eq_false (by omega)).symm
            · rw [if_neg h6]; congr 1; exact (decide_eq_false (by omega)).symm
          · rw [if_neg h5]; congr 1; exact (decide_eq_false (by omega)).symm
        · rw [if_neg h4]; congr 1; exact (decide_eq_false (by omega)).symm
      · rw [if_neg h3]; congr 1; exact (decide_eq_false (by omega)).symm
    · rw [if_neg h2]; congr 1; exact (decide_eq_false (by omega)).symm
  · rw [if_neg h1]; congr 1; exact (decide_eq_false (by omega)).symm

/-- The quotient, upwards. -/
def cei (a b : Int) : Int := -((-a) / b)
theorem ediv_bnd {a b M : Int} (hb : 0 < b) (hM : 0 ≤ M) (h0 : -M ≤ a) (h1 : a ≤ M) : -M ≤ a / b ∧ a / b ≤ M := by
  have e : M * 1 ≤ M * b := Int.mul_le_mul_of_nonneg_left (by omega) hM
  have n : -M * b = -(M * b) := Int.neg_mul _ _
  refine ⟨?_, ?_⟩
  · rw [Int.le_ediv_iff_mul_le hb]; omega
  · have : a / b < M + 1 := by
      rw [Int.ediv_lt_iff_lt_mul hb, Int.add_mul]; omega
    omega
theorem lt_cei {a b j : Int} (hb : 0 < b) : j < cei a b ↔ j * b < a := by
  unfold cei
  have := Int.ediv_lt_iff_lt_mul (a := -a) (b := -j) hb
  rw [Int.neg_mul] at this
  omega
theorem div_lt {a b j : Int} (hb : 0 < b) : a / b < j ↔ a < j * b := Int.ediv_lt_iff_lt_mul hb
theorem fixed_Floor_pos {k : Nat} (hk : 1 ≤ k) {a b : Int} (ha : -1152921504606846976 ≤ a ∧ a ≤ 1152921504606846976) (hb : 0 < b ∧ b ≤ 9223372036854775807) : fixed_Floor.f k a b = some (a / b) := by
  have h := ediv_bnd (a := a) (M := 1152921504606846976) hb.1 (by decide) ha.1 ha.2
  rw [fixed_Floor_eq hk (by constructor <;> omega) (by constructor <;> omega)]
  unfold flo
  rw [if_pos hb.1, hold_id (by omega) (by omega)]
theorem raw_ceil_eq {k : Nat} (hk : 1 ≤ k) {a b : Int} (ha : -1152921504606846976 ≤ a ∧ a ≤ 1152921504606846976) (hb : 0 < b ∧ b ≤ 9223372036854775807) : raw_ceil.f k a b = some (cei a b) := by
  have h := ediv_bnd (a := -a) (M := 1152921504606846976) hb.1 (by decide) (by omega) (by omega)
  unfold raw_ceil.f cei
  rw [w64_id (by omega) (by omega), fixed_Floor_pos hk (by omega) hb]
  simp only [Option.bind_some]
  rw [w64_id (by omega) (by omega)]

/-- How far a window reaches. -/
def reachR (f n m : Int) : Int := (if f = 1 then 4 else 6) * mx n m
/-- The window's least one. -/
def winLo (f n m i : Int) : Int := if f = 0 then i * n / m else ((2 * (i * n) + n - m) - reachR f n m) / (2 * m) + 1
/-- The one behind the window's last one. -/
def winHi (f n m i : Int) : Int := if f = 0 then cei (i * n + n) m else cei ((2 * (i * n) + n - m) + reachR f n m) (2 * m)
theorem in_le {n m i : Int} (hn : 1 ≤ n ∧ n ≤ 65536) (hm : 1 ≤ m ∧ m ≤ 65536) (hi : 0 ≤ i ∧ i < m) : 0 ≤ i * n ∧ i * n ≤ 4294967296 := by
  constructor
  · exact Int.mul_nonneg (by omega) (by omega)
  · have : i * n ≤ 65536 * 65536 := Int.mul_le_mul (by omega) (by omega) (by omega) (by decide)
    omega
theorem reachR_le {f n m : Int} (hn : 1 ≤ n ∧ n ≤ 65536) (hm : 1 ≤ m ∧ m ≤ 65536) : 4 ≤ reachR f n m ∧ reachR f n m ≤ 393216 := by
  unfold reachR mx; split <;> split <;> omega
theorem win_bnd {f n m i : Int} (h : mayR f n m i) : -8589934592 ≤ winLo f n m i ∧ winLo f n m i ≤ 17179869184 ∧ -17179869184 ≤ winHi f n m i ∧ winHi f n m i ≤ 17179869184 := by
  obtain ⟨h1, h2, h3, h4, h5, h6, h7, h8⟩ := h
  have hP := in_le ⟨h3, h4⟩ ⟨h5, h6⟩ ⟨h7, h8⟩
  have hR := reachR_le (f := f) ⟨h3, h4⟩ ⟨h5, h6⟩
  unfold winLo winHi cei
  have a := ediv_bnd (a := i * n) (b := m) (M := 8589934591) (by omega) (by decide) (by omega) (by omega)
  have a2 := ediv_bnd (a := -(i * n + n)) (b := m) (M := 17179869184) (by omega) (by decide) (by omega) (by omega)
  have b := ediv_bnd (a := (2 * (i * n) + n - m) - reachR f n m) (b := 2 * m) (M := 17179869183) (by omega) (by decide) (by omega) (by omega)
  have b2 := ediv_bnd (a := -((2 * (i * n) + n - m) + reachR f n m)) (b := 2 * m) (M := 17179869184) (by omega) (by decide) (by omega) (by omega)
  have c : -8589934592 ≤ ((2 * (i * n) + n - m) - reachR f n m) / (2 * m) := by
    have : -(8589934592 : Int) ≤ (2 * (i * n) + n - m) - reachR f n m := by omega
    rw [Int.le_ediv_iff_mul_le (by omega)]; omega
  split <;> omega
theorem raw_Window_eq {k : Nat} (hk : 1 ≤ k) (f n m i : Int) : raw_Window.f k f n m i = some (if mayR f n m i then (winLo f n m i, winHi f n m i - winLo f n m i) else (0, 0)) := by
  by_cases h : mayR f n m i
  · rw [if_pos h]
    have hw := win_bnd h
    obtain ⟨h1, h2, h3, h4, h5, h6, h7, h8⟩ := id h
    have hP := in_le ⟨h3, h4⟩ ⟨h5, h6⟩ ⟨h7, h8⟩
    have hx : 1 ≤ mx n m ∧ mx n m ≤ 65536 := by unfold mx; split <;> omega
    have q1 : (i + 1) * n = i * n + n := by rw [Int.add_mul, Int.one_mul]
    have q2 : (2 * i + 1) * n = 2 * (i * n) + n := by rw [Int.add_mul, Int.one_mul, Int.mul_assoc]
    have e1 : wrap64 (i * n) = i * n := w64_id (by omega) (by omega)
    have e2 : wrap64 (i + 1) = i + 1 := w64_id (by omega) (by omega)
    have e3 : wrap64 (i * n + n) = i * n + n := w64_id (by omega) (by omega)
    have e4 : wrap64 (2 * i) = 2 * i := w64_id (by omega) (by omega)
    have e5 : wrap64 (2 * i + 1) = 2 * i + 1 := w64_id (by omega) (by omega)
    have e6 : wrap64 (2 * (i * n) + n) = 2 * (i * n) + n := w64_id (by omega) (by omega)
    have e7 : wrap64 (2 * (i * n) + n - m) = 2 * (i * n) + n - m := w64_id (by omega) (by omega)
    have e8 : wrap64 (2 * m) = 2 * m := w64_id (by omega) (by omega)
    have e9 : wrap64 (4 * mx n m) = 4 * mx n m := w64_id (by omega) (by omega)
    have e10 : wrap64 (6 * mx n m) = 6 * mx n m := w64_id (by omega) (by omega)
    have f1 : fixed_Floor.f k (i * n) m = some (i * n / m) := fixed_Floor_pos hk (by omega) (by omega)
    have f2 : raw_ceil.f k (i * n + n) m = some (cei (i * n + n) m) := raw_ceil_eq hk (by omega) (by omega)
    have hf : f = 0 ∨ f = 1 ∨ f = 2 := by omega
    unfold raw_Window.f
    rcases hf with rfl | rfl | rfl
    · rw [if_neg (by decide), if_neg (by decide)]
      unfold raw_Window_gen.f
      rw [raw_may_eq, decide_eq_true h]
      simp only [Option.bind_some, if_true, e1, e2, q1, e3, f1, f2]
      unfold winLo winHi at hw ⊢
      simp only [if_true] at hw ⊢
      rw [w64_id (by omega) (by omega)]
    · rw [if_pos rfl]
      unfold raw_Window_at1.f
      rw [raw_may_eq, decide_eq_true h]
      unfold winLo winHi reachR at hw ⊢
      simp only [if_true] at hw ⊢
      rw [if_neg (by decide), if_neg (by decide)] at hw
      rw [if_neg (by decide), if_neg (by decide)]
      simp only [Option.bind_some, if_true, e1, e2, q1, e3, f1, f2, e4, e5, q2, e6, e7, e8, e9]
      have e11 : wrap64 (2 * (i * n) + n - m - 4 * mx n m) = 2 * (i * n) + n - m - 4 * mx n m := w64_id (by omega) (by omega)
      have e12 : wrap64 (2 * (i * n) + n - m + 4 * mx n m) = 2 * (i * n) + n - m + 4 * mx n m := w64_id (by omega) (by omega)
      rw [e11, e12, fixed_Floor_pos hk (by omega) (by omega), raw_ceil_eq hk (by omega) (by omega)]
      simp only [Option.bind_some]
      have e13 : wrap64 ((2 * (i * n) + n - m - 4 * mx n m) / (2 * m) + 1) = (2 * (i * n) + n - m - 4 * mx n m) / (2 * m) + 1 := w64_id (by omega) (by omega)
      rw [e13, w64_id (by omega) (by omega)]
    · rw [if_neg (by decide), if_pos rfl]
      unfold raw_Window_at2.f
      rw [raw_may_eq, decide_eq_true h]
      unfold winLo winHi reachR at hw ⊢
      rw [if_neg (by decide), if_neg (by decide), if_neg (by decide)] at hw
      rw [if_neg (by decide), if_neg (by decide), if_neg (by decide)]
      simp only [Option.bind_some, if_true, e1, e2, q1, e3, f1, f2, e4, e5, q2, e6, e7, e8, e10]
      have e11 : wrap64 (2 * (i * n) + n - m - 6 * mx n m) = 2 * (i * n) + n - m - 6 * mx n m := w64_id (by omega) (by omega)
      have e12 : wrap64 (2 * (i * n) + n - m + 6 * mx n m) = 2 * (i * n) + n - m + 6 * mx n m := w64_id (by omega) (by omega)
      rw [e11, e12, fixed_Floor_pos hk (by omega) (by omega), raw_ceil_eq hk (by omega) (by omega)]
      simp only [Option.bind_some]
      have e13 : wrap64 ((2 * (i * n) + n - m - 6 * mx n m) / (2 * m) + 1) = (2 * (i * n) + n - m - 6 * mx n m) / (2 * m) + 1 := w64_id (by omega) (by omega)
      rw [e13, w64_id (by omega) (by omega)]
  · rw [if_neg h]
    unfold raw_Window.f
    have hd := decide_eq_false h
    split
    · rename_i c; subst c; unfold raw_Window_at1.f; rw [raw_may_eq, hd]; rfl
    · split
      · rename_i c; subst c; unfold raw_Window_at2.f; rw [raw_may_eq, hd]; rfl
      · unfold raw_Window_gen.f; rw [raw_may_eq, hd]; rfl

/-- The cubic's weight of a fraction. -/
def keyV (p q : Int) : Int :=
  if 1 ≤ q ∧ q ≤ 262144 ∧ p < 2 * q ∧ -2 * q < p then
    hold (rdiv ((if siz p ≥ q then -(siz p * siz p * siz p) + 5 * (siz p * siz p * q) - 8 * (siz p * q * q) + 4 * (q * q * q) else 3 * (siz p * siz p * siz p) - 5 * (siz p * siz p * q) + 2 * (q * q * q)) * 1073741824) (2 * (q * q * q)))
  else 0
theorem keyV_i (p q : Int) : I64 (keyV p q) := by
  unfold keyV; split
  · exact hold_i _
  · constructor <;> omega
theorem keyV_neg (p q : Int) : keyV (-p) q = keyV p q := by
  unfold keyV
  have e2 : siz (-p) = siz p := by unfold siz; split <;> split <;> omega
  rw [e2]
  by_cases c : 1 ≤ q ∧ q ≤ 262144 ∧ p < 2 * q ∧ -2 * q < p
  · rw [if_pos c, if_pos (by omega)]
  · rw [if_neg c, if_neg (by omega)]
theorem cub_le {a b c M : Int} (ha : 0 ≤ a ∧ a ≤ M) (hb : 0 ≤ b ∧ b ≤ M) (hc : 0 ≤ c ∧ c ≤ M) : 0 ≤ a * b ∧ a * b ≤ M * M ∧ 0 ≤ a * b * c ∧ a * b * c ≤ M * M * M := by
  have h1 : 0 ≤ a * b := Int.mul_nonneg ha.1 hb.1
  have h2 : a * b ≤ M * M := Int.mul_le_mul ha.2 hb.2 hb.1 (by omega)
  exact ⟨h1, h2, Int.mul_nonneg h1 hc.1, Int.mul_le_mul h2 hc.2 hc.1 (by omega)⟩
theorem raw_Keys_eq {k : Nat} (hk : 50 ≤ k) {p q : Int} (hp : I64 p) (hq : I64 q) : raw_Keys.f k p q = some (keyV p q) := by
  obtain ⟨k, rfl⟩ : ∃ m, k = m + 1 := ⟨k - 1, by omega⟩
  unfold raw_Keys.f keyV
  by_cases h1 : q < 1
  · rw [if_pos h1, if_neg (by omega), raw_Keys.j0, if_pos rfl]
  rw [if_neg h1]
  by_cases h2 : q > 262144
  · rw [if_pos h2, if_neg (by omega), raw_Keys.j0, if_pos rfl]
  rw [if_neg h2, w64_id (show -9223372036854775808 ≤ 2 * q from by omega) (by omega), w64_id (show -9223372036854775808 ≤ -2 * q from by omega) (by omega)]
  by_cases h3 : p ≥ 2 * q
  · rw [if_pos h3, if_neg (by omega), raw_Keys.j0, if_pos rfl]
  rw [if_neg h3, raw_Keys.j0]
  by_cases h4 : p ≤ -2 * q
  · rw [if_pos (by simpa using h4), if_neg (by omega)]
  rw [if_neg (by simpa using h4), if_pos (show 1 ≤ q ∧ q ≤ 262144 ∧ p < 2 * q ∧ -2 * q < p from by omega)]
  have e : mx p (wrap64 (-p)) = siz p := by rw [w64_id (by omega) (by omega)]; unfold mx siz; split <;> split <;> omega
  have hs : 0 ≤ siz p ∧ siz p ≤ 524288 := by unfold siz; split <;> omega
  rw [e]
  generalize siz p = s at hs ⊢
  have b1 := cub_le hs hs hs
  have b2 := cub_le hs hs (show 0 ≤ q ∧ q ≤ 524288 by omega)
  have b3 := cub_le hs (show 0 ≤ q ∧ q ≤ 524288 by omega) (show 0 ≤ q ∧ q ≤ 524288 by omega)
  have b4 := cub_le (show 0 ≤ q ∧ q ≤ 262144 by omega) (show 0 ≤ q ∧ q ≤ 262144 by omega) (show 0 ≤ q ∧ q ≤ 262144 by omega)
  have a1 : -s * s = -(s * s) := Int.neg_mul _ _
  have a2 : -(s * s) * s = -(s * s * s) := Int.neg_mul _ _
  have a3 : ∀ x y : Int, 5 * x * y = 5 * (x * y) := fun x y => Int.mul_assoc _ _ _
  have a4 : ∀ x y : Int, 8 * x * y = 8 * (x * y) := fun x y => Int.mul_assoc _ _ _
  have a5 : ∀ x y : Int, 4 * x * y = 4 * (x * y) := fun x y => Int.mul_assoc _ _ _
  have a6 : ∀ x y : Int, 2 * x * y = 2 * (x * y) := fun x y => Int.mul_assoc _ _ _
  have a7 : ∀ x y : Int, 3 * x * y = 3 * (x * y) := fun x y => Int.mul_assoc _ _ _
  have w1 : wrap64 (-s) = -s := w64_id (by omega) (by omega)
  have w2 : wrap64 (-(s * s)) = -(s * s) := w64_id (by omega) (by omega)
  have w3 : wrap64 (-(s * s * s)) = -(s * s * s) := w64_id (by omega) (by omega)
  have w4 : wrap64 (5 * s) = 5 * s := w64_id (by omega) (by omega)
  have w5 : wrap64 (5 * (s * s)) = 5 * (s * s) := w64_id (by omega) (by omega)
  have w6 : wrap64 (5 * (s * s * q)) = 5 * (s * s * q) := w64_id (by omega) (by omega)
  have w7 : wrap64 (8 * s) = 8 * s := w64_id (by omega) (by omega)
  have w8 : wrap64 (8 * (s * q)) = 8 * (s * q) := w64_id (by omega) (by omega)
  have w9 : wrap64 (8 * (s * q * q)) = 8 * (s * q * q) := w64_id (by omega) (by omega)
  have w10 : wrap64 (4 * q) = 4 * q := w64_id (by omega) (by omega)
  have w11 : wrap64 (4 * (q * q)) = 4 * (q * q) := w64_id (by omega) (by omega)
  have w12 : wrap64 (4 * (q * q * q)) = 4 * (q * q * q) := w64_id (by omega) (by omega)
  have w13 : wrap64 (2 * q) = 2 * q := w64_id (by omega) (by omega)
  have w14 : wrap64 (2 * (q * q)) = 2 * (q * q) := w64_id (by omega) (by omega)
  have w15 : wrap64 (2 * (q * q * q)) = 2 * (q * q * q) := w64_id (by omega) (by omega)
  have w16 : wrap64 (3 * s) = 3 * s := w64_id (by omega) (by omega)
  have w17 : wrap64 (3 * (s * s)) = 3 * (s * s) := w64_id (by omega) (by omega)
  have w18 : wrap64 (3 * (s * s * s)) = 3 * (s * s * s) := w64_id (by omega) (by omega)
  simp only [w1, a1, w2, a2, w3, w4, a3, w5, w6, w7, a4, w8, w9, w10, a5, w11, w12, w13, a6, w14, w15, w16, a7, w17, w18]
  by_cases h5 : s ≥ q
  · rw [if_pos h5, if_pos h5]
    have v1 : wrap64 (-(s * s * s) + 5 * (s * s * q)) = -(s * s * s) + 5 * (s * s * q) := w64_id (by omega) (by omega)
    have v2 : wrap64 (-(s * s * s) + 5 * (s * s * q) - 8 * (s * q * q)) = -(s * s * s) + 5 * (s * s * q) - 8 * (s * q * q) := w64_id (by omega) (by omega)
    have v3 : wrap64 (-(s * s * s) + 5 * (s * s * q) - 8 * (s * q * q) + 4 * (q * q * q)) = -(s * s * s) + 5 * (s * s * q) - 8 * (s * q * q) + 4 * (q * q * q) := w64_id (by omega) (by omega)
    rw [v1, v2, v3, wide_MulDiv_eq (by omega) (by constructor <;> omega) (by decide) (by constructor <;> omega)]
    rfl
  · rw [if_neg h5, if_neg h5]
    have v1 : wrap64 (3 * (s * s * s) - 5 * (s * s * q)) = 3 * (s * s * s) - 5 * (s * s * q) := w64_id (by omega) (by omega)
    have v2 : wrap64 (3 * (s * s * s) - 5 * (s * s * q) + 2 * (q * q * q)) = 3 * (s * s * s) - 5 * (s * s * q) + 2 * (q * q * q) := w64_id (by omega) (by omega)
    rw [v1, v2, wide_MulDiv_eq (by omega) (by constructor <;> omega) (by decide) (by constructor <;> omega)]
    rfl

/-- The part of the output's stretch that a source sample covers; the fraction of a source sample. -/
def partR (n m i j : Int) : Int := mn (i * n + n) (j * m + m) - mx (i * n) (j * m)
def fracR (n m i j : Int) : Int := 2 * (m * j) - (2 * (i * n) + n) + m
/-- A weight. -/
def wV (f n m i j : Int) : Int := if f = 0 then hold (rdiv (partR n m i j * 1073741824) n) else if f = 1 then keyV (fracR n m i j) (2 * mx n m) else lanV (fracR n m i j) (2 * mx n m)
theorem wV_i (f n m i j : Int) : I64 (wV f n m i j) := by
  unfold wV; split
  · exact hold_i _
  · split
    · exact keyV_i _ _
    · exact lanV_i _ _
theorem jm_le {m j : Int} (hm : 1 ≤ m ∧ m ≤ 65536) (hj : -34359738368 ≤ j ∧ j ≤ 34359738368) : -2251799813685248 ≤ j * m ∧ j * m ≤ 2251799813685248 := by
  have a : j * m ≤ 34359738368 * 65536 := by
    by_cases c : 0 ≤ j
    · exact Int.mul_le_mul hj.2 hm.2 (by omega) (by decide)
    · have : j * m ≤ 0 * m := Int.mul_le_mul_of_nonneg_right (by omega) (by omega)
      omega
  have b : -j * m ≤ 34359738368 * 65536 := by
    by_cases c : 0 ≤ -j
    · exact Int.mul_le_mul (by omega) hm.2 (by omega) (by decide)
    · have : -j * m ≤ 0 * m := Int.mul_le_mul_of_nonneg_right (by omega) (by omega)
      omega
  rw [Int.neg_mul] at b
  constructor <;> omega
theorem raw_weigh_eq {k : Nat} (hk : 300 ≤ k) {f n m i j : Int} (h : mayR f n m i) (hj : -34359738368 ≤ j ∧ j ≤ 34359738368) : raw_weigh.f k f n m i j = some (wV f n m i j) := by
  obtain ⟨h1, h2, h3, h4, h5, h6, h7, h8⟩ := id h
  have hP := in_le ⟨h3, h4⟩ ⟨h5, h6⟩ ⟨h7, h8⟩
  have hx : 1 ≤ mx n m ∧ mx n m ≤ 65536 := by unfold mx; split <;> omega
  have hJ := jm_le ⟨h5, h6⟩ hj
  have q1 : (i + 1) * n = i * n + n := by rw [Int.add_mul, Int.one_mul]
  have q2 : (2 * i + 1) * n = 2 * (i * n) + n := by rw [Int.add_mul, Int.one_mul, Int.mul_assoc]
  have q3 : (j + 1) * m = j * m + m := by rw [Int.add_mul, Int.one_mul]
  have q4 : 2 * m * j = 2 * (m * j) := Int.mul_assoc _ _ _
  have q5 : m * j = j * m := Int.mul_comm _ _
  have e1 : wrap64 (i * n) = i * n := w64_id (by omega) (by omega)
  have e2 : wrap64 (i + 1) = i + 1 := w64_id (by omega) (by omega)
  have e3 : wrap64 (i * n + n) = i * n + n := w64_id (by omega) (by omega)
  have e4 : wrap64 (2 * i) = 2 * i := w64_id (by omega) (by omega)
  have e5 : wrap64 (2 * i + 1) = 2 * i + 1 := w64_id (by omega) (by omega)
  have e6 : wrap64 (2 * (i * n) + n) = 2 * (i * n) + n := w64_id (by omega) (by omega)
  have e7 : wrap64 (j + 1) = j + 1 := w64_id (by omega) (by omega)
  have e8 : wrap64 (j * m) = j * m := w64_id (by omega) (by omega)
  have e9 : wrap64 (j * m + m) = j * m + m := w64_id (by omega) (by omega)
  have e10 : wrap64 (2 * m) = 2 * m := w64_id (by omega) (by omega)
  have e11 : wrap64 (2 * (m * j)) = 2 * (m * j) := w64_id (by omega) (by omega)
  have e12 : wrap64 (2 * (m * j) - (2 * (i * n) + n)) = 2 * (m * j) - (2 * (i * n) + n) := w64_id (by omega) (by omega)
  have e13 : wrap64 (2 * (m * j) - (2 * (i * n) + n) + m) = 2 * (m * j) - (2 * (i * n) + n) + m := w64_id (by omega) (by omega)
  have e14 : wrap64 (2 * mx n m) = 2 * mx n m := w64_id (by omega) (by omega)
  have hp : -9223372036854775808 ≤ partR n m i j ∧ partR n m i j ≤ 9223372036854775807 := by unfold partR mn mx; split <;> split <;> omega
  unfold raw_weigh.f wV
  simp only [e1, e2, q1, e3, e4, e5, q2, e6, e7, e8, q3, e9, e10, q4, e11, e12, e13, e14]
  by_cases c0 : f = 0
  · rw [if_pos c0, if_pos c0]
    have : wrap64 (mn (i * n + n) (j * m + m) - mx (i * n) (j * m)) = partR n m i j := w64_id hp.1 hp.2
    rw [this, wide_MulDiv_eq (by omega) hp (by decide) (by constructor <;> omega)]; rfl
  · rw [if_neg c0, if_neg c0]
    by_cases c1 : f = 1
    · rw [if_pos c1, if_pos c1, raw_Keys_eq (by omega) (by constructor <;> omega) (by constructor <;> omega)]; rfl
    · rw [if_neg c1, if_neg c1, sinc_Lanczos_eq (by omega)]; rfl

/-- A row's weights. -/
def rowV (f n m i : Int) : List Int := (List.range (winHi f n m i - winLo f n m i).toNat).map fun (t : Nat) => wV f n m i (winLo f n m i + (t : Int))
theorem raw_Row_l0 {f n m i : Int} (h : mayR f n m i) (c : Nat) (hc : (c : Int) = winHi f n m i - winLo f n m i) : ∀ (d k t : Nat), t + d = c → d + 400 < k →
    raw_Row.l0 k f n m i (winLo f n m i) ((List.range t).map fun (t : Nat) => wV f n m i (winLo f n m i + (t : Int))) (c : Int) (t : Int) = some (winLo f n m i, (List.range c).map fun (t : Nat) => wV f n m i (winLo f n m i + (t : Int))) := by
  have hw := win_bnd h
  intro d
  induction d with
  | zero =>
    intro k t ht hk
    obtain ⟨k, rfl⟩ : ∃ m, k = m + 1 := ⟨k - 1, by omega⟩
    rw [raw_Row.l0, if_neg (by omega), show t = c from by omega]
  | succ d ih =>
    intro k t ht hk
    obtain ⟨k, rfl⟩ : ∃ m, k = m + 1 := ⟨k - 1, by omega⟩
    rw [raw_Row.l0, if_pos (by omega), w64_id (show -9223372036854775808 ≤ winLo f n m i + (t : Int) from by omega) (by omega), raw_weigh_eq (by omega) h (by omega)]
    simp only [Option.bind_some]
    rw [if_pos (by rw [List.length_map, List.length_range]; omega), w64_id (show -9223372036854775808 ≤ (t : Int) + 1 from by omega) (by omega)]
    have := ih k (t + 1) (by omega) (by omega)
    rw [List.range_succ, List.map_append, List.map_singleton] at this
    rw [show ((t + 1 : Nat) : Int) = (t : Int) + 1 from by omega] at this
    exact this
theorem cei_ge {a b c : Int} (hb : 0 < b) (h : c * b ≤ a) : c ≤ cei a b := by
  have : ¬ cei a b < c := by
    intro hl
    have h1 := (div_lt (a := -a) (j := -(cei a b) + 1) hb).1 (by unfold cei; omega)
    have h2 : (-(cei a b) + 1) * b = -(cei a b * b) + b := by rw [Int.add_mul, Int.neg_mul, Int.one_mul]
    have h3 : (cei a b + 1) * b ≤ c * b := Int.mul_le_mul_of_nonneg_right (by omega) (by omega)
    rw [Int.add_mul, Int.one_mul] at h3
    have h4 : ¬ cei a b * b < a := fun hh => by
      have := (lt_cei (a := a) (j := cei a b) hb).2 hh
      omega
    omega
  omega
/-- The window holds the sample in the middle. -/
theorem win_mid {f n m i : Int} (h : mayR f n m i) : winLo f n m i ≤ i * n / m ∧ i * n / m < winHi f n m i := by
  obtain ⟨h1, h2, h3, h4, h5, h6, h7, h8⟩ := id h
  have hP := in_le ⟨h3, h4⟩ ⟨h5, h6⟩ ⟨h7, h8⟩
  have hx : n ≤ mx n m ∧ m ≤ mx n m := by unfold mx; split <;> omega
  have e := Int.mul_ediv_add_emod (i * n) m
  have r0 := Int.emod_nonneg (i * n) (show m ≠ 0 by omega)
  have r1 := Int.emod_lt_of_pos (i * n) (show 0 < m by omega)
  have ec : i * n / m * m = m * (i * n / m) := Int.mul_comm _ _
  unfold winLo winHi
  by_cases c : f = 0
  · rw [if_pos c, if_pos c]
    refine ⟨Int.le_refl _, (lt_cei (by omega)).2 (by omega)⟩
  · rw [if_neg c, if_neg c]
    have hR : 4 * mx n m ≤ reachR f n m := by unfold reachR; split <;> omega
    have e2 : i * n / m * (2 * m) = 2 * (m * (i * n / m)) := by rw [Int.mul_comm (2 : Int) m, ← Int.mul_assoc, Int.mul_comm _ (2 : Int), ec]
    constructor
    · have := (div_lt (a := 2 * (i * n) + n - m - reachR f n m) (j := i * n / m) (show 0 < 2 * m by omega)).2 (by omega)
      omega
    · exact (lt_cei (by omega)).2 (by omega)
theorem raw_Row_may {k : Nat} {f n m i : Int} (h : mayR f n m i) (hk : (winHi f n m i - winLo f n m i).toNat + 401 ≤ k) : raw_Row.f k f n m i = some (winLo f n m i, rowV f n m i) := by
  have hm := win_mid h
  unfold raw_Row.f rowV
  rw [raw_Window_eq (by omega), if_pos h]
  simp only [Option.bind_some]
  have := raw_Row_l0 h (winHi f n m i - winLo f n m i).toNat (by omega) (winHi f n m i - winLo f n m i).toNat k 0 (by omega) (by omega)
  rw [show (((winHi f n m i - winLo f n m i).toNat : Nat) : Int) = winHi f n m i - winLo f n m i from by omega] at this
  exact this
theorem raw_Row_not {k : Nat} {f n m i : Int} (h : ¬ mayR f n m i) (hk : 2 ≤ k) : raw_Row.f k f n m i = some (0, []) := by
  obtain ⟨k, rfl⟩ : ∃ m, k = m + 1 := ⟨k - 1, by omega⟩
  unfold raw_Row.f
  rw [raw_Window_eq (by omega), if_neg h]
  simp only [Option.bind_some]
  rw [raw_Row.l0, if_neg (by decide)]
theorem rowV_len (f n m i : Int) : (rowV f n m i).length = (winHi f n m i - winLo f n m i).toNat := by
  unfold rowV; rw [List.length_map, List.length_range]
theorem rowV_rd {f n m i : Int} {t : Int} (h0 : 0 ≤ t) (h1 : t < winHi f n m i - winLo f n m i) : rd (rowV f n m i) t = wV f n m i (winLo f n m i + t) := by
  unfold rd rowV
  rw [List.getD_eq_getElem?_getD, List.getElem?_map, List.getElem?_range (by omega)]
  simp only [Option.map_some, Option.getD_some]
  rw [show ((t.toNat : Nat) : Int) = t from by omega]

theorem szV_is {x : Int} (hx : I64 x) : szV x = if x ≥ 0 then x else if x < -9223372036854775807 then 9223372036854775807 else -x := by
  have e : x * -1 = -x := by omega
  unfold szV
  rw [e]
  unfold mx hold
  repeat' split
  all_goals omega
theorem szV_i {x : Int} (hx : I64 x) : 0 ≤ szV x ∧ szV x ≤ 9223372036854775807 := by
  rw [szV_is hx]; repeat' split
  all_goals omega

/-- The sum without signs, held at each step. -/
def szFrom (s : Int) (l : List Int) : Int := l.foldl (fun s x => hold (s + szV x)) s
theorem rd_i64 {l : List Int} (hx : ∀ x ∈ l, I64 x) (i : Int) : I64 (rd l i) := by
  unfold rd
  rw [List.getD_eq_getElem?_getD]
  rcases Nat.lt_or_ge i.toNat l.length with q | q
  · rw [List.getElem?_eq_getElem q]; exact hx _ (List.getElem_mem _)
  · rw [List.getElem?_eq_none q]; decide
theorem drop_rd {l : List Int} {i : Nat} (h : i < l.length) : l.drop i = rd l (i : Int) :: l.drop (i + 1) := by
  rw [List.drop_eq_getElem_cons h]
  congr 1
  unfold rd
  rw [List.getD_eq_getElem?_getD, show ((i : Int)).toNat = i from by omega, List.getElem?_eq_getElem h]; rfl
theorem szFrom_i {s : Int} (hs : 0 ≤ s ∧ s ≤ 9223372036854775807) : ∀ {l : List Int}, (∀ x ∈ l, I64 x) → 0 ≤ szFrom s l ∧ szFrom s l ≤ 9223372036854775807 := by
  intro l
  induction l generalizing s with
  | nil => intro _; exact hs
  | cons x l ih =>
    intro hx
    have h1 := szV_i (hx x List.mem_cons_self)
    refine ih (s := hold (s + szV x)) ⟨?_, hold_le _⟩ (fun y hy => hx y (List.mem_cons_of_mem _ hy))
    unfold hold; split
    · omega
    · split <;> omega
theorem taps_Size_l0 (l : List Int) (hl : l.length < 4611686018427387904) (hx : ∀ x ∈ l, I64 x) : ∀ (d k i : Nat) (s : Int), i + d = l.length → d + 2 < k → I64 s → taps_Size.l0 k s l (l.length : Int) (i : Int) = some (szFrom s (l.drop i)) := by
  intro d
  induction d with
  | zero =>
    intro k i s h1 h2 hs
    obtain ⟨k, rfl⟩ : ∃ m, k = m + 1 := ⟨k - 1, by omega⟩
    rw [taps_Size.l0, if_neg (by omega), List.drop_of_length_le (by omega)]; rfl
  | succ d ih =>
    intro k i s h1 h2 hs
    obtain ⟨k, rfl⟩ : ∃ m, k = m + 1 := ⟨k - 1, by omega⟩
    have hz := szV_i (rd_i64 hx (i : Int))
    rw [taps_Size.l0, if_pos (by omega), if_pos (by omega), if_pos (by omega), taps_size_eq (by omega) (rd_i64 hx _)]
    simp only [Option.bind_some]
    rw [fixed_Add_eq (by omega) hs (by constructor <;> omega)]
    simp only [Option.bind_some]
    rw [w64_id (show -9223372036854775808 ≤ (i : Int) + 1 from by omega) (by omega), drop_rd (by omega)]
    exact ih k (i + 1) _ (by omega) (by omega) (hold_i _)
theorem taps_Size_eq {k : Nat} {l : List Int} (hk : l.length + 3 ≤ k) (hl : l.length < 4611686018427387904) (hx : ∀ x ∈ l, I64 x) : taps_Size.f k l = some (szFrom 0 l) :=
  taps_Size_l0 l hl hx l.length k 0 0 (by omega) (by omega) (by decide)

theorem rd_set (o : List Int) (b : Nat) (v : Int) (hb : b < o.length) (j : Nat) : rd (o.set b v) (j : Int) = if j = b then v else rd o (j : Int) := by
  unfold rd
  rw [List.getD_eq_getElem?_getD, List.getD_eq_getElem?_getD, show ((j : Int)).toNat = j from by omega, List.getElem?_set]
  by_cases c : b = j
  · subst c; rw [if_pos rfl, if_pos rfl, if_pos hb]; rfl
  · rw [if_neg c, if_neg (fun e => c e.symm)]

theorem best_max (r : List Int) : ∀ (i j : Nat), j < i → rd r (j : Int) ≤ rd r (best r i : Int)
  | 0, j, h => by omega
  | i + 1, j, h => by
    rw [best]
    by_cases c : j = i
    · subst c; split <;> omega
    · have := best_max r i j (by omega)
      split <;> omega
theorem psum_set (o : List Int) (b : Nat) (v : Int) (hb : b < o.length) : ∀ n, psum (fun j => rd (o.set b v) (j : Int)) n = psum (fun j => rd o (j : Int)) n + if b < n then v - rd o (b : Int) else 0
  | 0 => by simp [psum]
  | n + 1 => by
    rw [psum, psum, psum_set o b v hb n, rd_set _ _ _ hb]
    by_cases c : n = b
    · subst c; rw [if_pos rfl, if_neg (by omega), if_pos (by omega)]; omega
    · rw [if_neg c]
      by_cases c2 : b < n
      · rw [if_pos c2, if_pos (by omega)]; omega
      · rw [if_neg c2, if_neg (by omega)]; omega
def pos0 (x : Int) : Int := if x > 0 then x else 0
theorem ptot_set (o : List Int) (b : Nat) (v : Int) (hb : b < o.length) : ∀ n, psum (fun j => pos0 (rd (o.set b v) (j : Int))) n = psum (fun j => pos0 (rd o (j : Int))) n + if b < n then pos0 v - pos0 (rd o (b : Int)) else 0
  | 0 => by simp [psum]
  | n + 1 => by
    rw [psum, psum, ptot_set o b v hb n, rd_set _ _ _ hb]
    by_cases c : n = b
    · subst c; rw [if_pos rfl, if_neg (by omega), if_pos (by omega)]; omega
    · rw [if_neg c]
      by_cases c2 : b < n
      · rw [if_pos c2, if_pos (by omega)]; omega
      · rw [if_neg c2, if_neg (by omega)]; omega
theorem ptot_zero (r : List Int) : ∀ (n : Nat), (∀ j : Nat, j < n → rd r (j : Int) ≤ 0) → psum (fun j => pos0 (rd r (j : Int))) n = 0
  | 0, _ => rfl
  | n + 1, h => by
    rw [psum, ptot_zero r n (fun j hj => h j (by omega))]
    have := h n (by omega)
    unfold pos0; rw [if_neg (by omega)]; rfl
theorem picks_prop (n : Nat) (s : Int) (hs : 1 ≤ s) (h1 : 1 ≤ n) : ∀ (t : Nat) (o r : List Int), o.length = n → r.length = n → (∀ j, j < n → rd r (j : Int) ≤ s - 1) → (1 ≤ t → psum (fun j => pos0 (rd r (j : Int))) n > ((t : Int) - 1) * (s - 1)) →
    ∃ S : Nat → Prop, (∀ j, j < n → (S j → rd (picks t o r) (j : Int) = rd o (j : Int) + 1 ∧ rd r (j : Int) > 0) ∧ (¬ S j → rd (picks t o r) (j : Int) = rd o (j : Int))) ∧ (∀ i k, i < n → k < n → ¬ S i → S k → rd r (i : Int) ≤ rd r (k : Int)) ∧
      psum (fun j => rd (picks t o r) (j : Int)) n = psum (fun j => rd o (j : Int)) n + t := by
  intro t
  induction t with
  | zero => intro o r ho hr hb ht; exact ⟨fun _ => False, fun j hj => ⟨fun h => h.elim, fun _ => rfl⟩, fun i k _ _ _ h => h.elim, by rw [picks]; omega⟩
  | succ t ih =>
    intro o r ho hr hb ht
    have hbb := best_lt r n h1
    have hmax := best_max r n
    have htot := ht (by omega)
    rw [show ((t + 1 : Nat) : Int) - 1 = (t : Int) from by omega] at htot
    have ht0 : 0 ≤ (t : Int) * (s - 1) := Int.mul_nonneg (by omega) (by omega)
    have hpos : rd r (best r n : Int) > 0 := by
      apply Classical.byContradiction; intro q
      have := ptot_zero r n (fun j hj => by have := hmax j hj; omega)
      omega
    obtain ⟨b, hbe⟩ : ∃ b, b = best r n := ⟨_, rfl⟩
    rw [← hbe] at hbb hmax hpos
    have hbv := hb b hbb
    obtain ⟨S, S1, S2, S3⟩ := ih (o.set b (rd o (b : Int) + 1)) (r.set b (-1)) (by rw [List.length_set]; exact ho) (by rw [List.length_set]; exact hr)
      (fun j hj => by rw [rd_set _ _ _ (by omega)]; have := hb j hj; split <;> omega)
      (fun ht1 => by
        rw [ptot_set _ _ _ (by omega), if_pos hbb]
        have e1 : pos0 (-1) = 0 := by unfold pos0; rw [if_neg (by omega)]
        have e2 : pos0 (rd r (b : Int)) = rd r (b : Int) := by unfold pos0; rw [if_pos hpos]
        have e3 : ((t : Int) - 1) * (s - 1) = (t : Int) * (s - 1) - (s - 1) := by rw [Int.sub_mul, Int.one_mul]
        rw [e1, e2]; omega)
    have hnb : ¬ S b := fun h => by
      have := ((S1 b hbb).1 h).2
      rw [rd_set _ _ _ (by omega), if_pos rfl] at this; omega
    rw [picks, hr, ← hbe]
    refine ⟨fun j => j = b ∨ S j, fun j hj => ⟨fun h => ?_, fun h => ?_⟩, fun i k hi hk h1 h2 => ?_, ?_⟩
    · rcases h with h | h
      · subst h
        refine ⟨?_, hpos⟩
        rw [(S1 j hbb).2 hnb, rd_set _ _ _ (by omega), if_pos rfl]
      · have hne : j ≠ b := fun e => hnb (e ▸ h)
        have := (S1 j hj).1 h
        rw [rd_set _ _ _ (by omega), if_neg hne, rd_set _ _ _ (by omega), if_neg hne] at this
        exact this
    · have := (S1 j hj).2 (fun q => h (Or.inr q))
      rw [this, rd_set _ _ _ (by omega), if_neg (fun e => h (Or.inl e))]
    · rcases h2 with h2 | h2
      · subst h2; exact hmax i hi
      · have hne : k ≠ b := fun e => hnb (e ▸ h2)
        have := S2 i k hi hk (fun q => h1 (Or.inr q)) h2
        rw [rd_set _ _ _ (by omega), if_neg (fun e => h1 (Or.inl e)), rd_set _ _ _ (by omega), if_neg hne] at this
        exact this
    · rw [S3, psum_set _ _ _ (by omega), if_pos hbb]; omega
theorem psum_congr {f g : Nat → Int} : ∀ n, (∀ j, j < n → f j = g j) → psum f n = psum g n
  | 0, _ => rfl
  | n + 1, h => by rw [psum, psum, psum_congr n (fun j hj => h j (by omega)), h n (by omega)]
/-- What the taps are, of weights that may be apportioned. -/
theorem appL_prop {l : List Int} {s : Int} (hs0 : s = sumFrom 0 l) (hG : Good l s) : ∃ S : Nat → Prop, (∀ j, j < l.length → (S j → rd (appL l) (j : Int) = qV l s j + 1 ∧ mV l s j > 0) ∧ (¬ S j → rd (appL l) (j : Int) = qV l s j)) ∧ (∀ i k, i < l.length → k < l.length → ¬ S i → S k → mV l s i ≤ mV l s k) ∧
    psum (fun j => rd (appL l) (j : Int)) l.length = 16384 := by
  have hlb := hG.lb
  have hsb := hG.sb
  have hpd := psum_div l s (by omega) l.length
  obtain ⟨t, ht⟩ : ∃ t : Nat, 16384 - psum (qV l s) l.length = (t : Int) := ⟨(16384 - psum (qV l s) l.length).toNat, by omega⟩
  have hr : ∀ j, j < l.length → rd ((List.range l.length).map fun j => mV l s j) (j : Int) = mV l s j := fun j hj => rd_range _ hj
  have ho : ∀ j, j < l.length → rd ((List.range l.length).map fun j => qV l s j) (j : Int) = qV l s j := fun j hj => rd_range _ hj
  have hm : ∀ j, 0 ≤ mV l s j ∧ mV l s j ≤ s - 1 := fun j => by
    have r0 := Int.emod_nonneg (rd l (j : Int) * 16384) (show s ≠ 0 by omega)
    have r1 := Int.emod_lt_of_pos (rd l (j : Int) * 16384) (show 0 < s by omega)
    unfold mV; omega
  have htot : psum (fun j => pos0 (rd ((List.range l.length).map fun j => mV l s j) (j : Int))) l.length = psum (mV l s) l.length :=
    psum_congr _ (fun j hj => by rw [hr j hj]; have := hm j; unfold pos0; split <;> omega)
  obtain ⟨S, S1, S2, S3⟩ := picks_prop l.length s (by omega) hG.n0 t ((List.range l.length).map fun j => qV l s j) ((List.range l.length).map fun j => mV l s j) (by simp) (by simp) (fun j hj => by rw [hr j hj]; exact (hm j).2)
    (fun h1 => by
      rw [htot]
      obtain ⟨p1, p2, p3⟩ := hpd
      rw [← hG.sx] at p1
      have e1 : (16384 - psum (qV l s) l.length) * s = 16384 * s - psum (qV l s) l.length * s := Int.sub_mul _ _ _
      rw [ht] at e1
      have e2 : ((t : Int) - 1) * (s - 1) = (t : Int) * s - (t : Int) - s + 1 := by rw [Int.sub_mul, Int.mul_sub, Int.mul_one, Int.one_mul]; omega
      omega)
  have e : appL l = picks t ((List.range l.length).map fun j => qV l s j) ((List.range l.length).map fun j => mV l s j) := by
    unfold appL; rw [← hs0, ht]; rfl
  refine ⟨S, fun j hj => ?_, fun i k hi hk h1 h2 => ?_, ?_⟩
  · have := S1 j hj
    rw [ho j hj, hr j hj, ← e] at this; exact this
  · have := S2 i k hi hk h1 h2
    rw [hr i hi, hr k hk] at this; exact this
  · rw [← e] at S3
    rw [S3, psum_congr (g := qV l s) _ (fun j hj => ho j hj)]; omega
theorem appL_len2 (l : List Int) : (appL l).length = l.length := by
  have : ∀ (t : Nat) (o r : List Int), (picks t o r).length = o.length := by
    intro t
    induction t with
    | zero => intro o r; rfl
    | succ t ih => intro o r; rw [picks, ih, List.length_set]
  unfold appL; rw [this]; simp
theorem appL_bnd {l : List Int} (hx : ∀ x ∈ l, I64 x) (hk : chkV l = 0) : l.length ≤ 1048576 ∧ ∀ x ∈ appL l, -134217728 ≤ x ∧ x ≤ 134217729 := by
  have hG := good_of_chk (fun i => rd_i64 hx _) hk
  obtain ⟨S, S1, S2, S3⟩ := appL_prop rfl hG
  refine ⟨hG.n1, fun x hm => ?_⟩
  obtain ⟨j, hj, rfl⟩ := List.mem_iff_getElem.1 hm
  have cj : j < l.length := by rw [← appL_len2]; exact hj
  have hq := hG.qb j cj
  have e : (appL l)[j] = rd (appL l) (j : Int) := by unfold rd; simp [hj]
  rw [e]
  by_cases cs : S j
  · rw [((S1 j cj).1 cs).1]; omega
  · rw [(S1 j cj).2 cs]; omega
theorem appL_i64 {l : List Int} (hx : ∀ x ∈ l, I64 x) (hk : chkV l = 0) : ∀ x ∈ appL l, I64 x := fun x hm => by
  have := (appL_bnd hx hk).2 x hm
  unfold I64; omega

theorem psum_nonneg3 {f : Nat → Int} : ∀ n : Nat, (∀ j, j < n → 0 ≤ f j) → 0 ≤ psum f n ∧ ∀ j, j < n → f j ≤ psum f n
  | 0, _ => ⟨by simp [psum], fun j h => by omega⟩
  | n + 1, h => by
    obtain ⟨a, b⟩ := psum_nonneg3 n (fun j hj => h j (by omega))
    have c := h n (by omega)
    refine ⟨by rw [psum]; omega, fun j hj => ?_⟩
    rw [psum]
    by_cases e : j = n
    · subst e; omega
    · have := b j (by omega); omega
theorem psum_le {f g : Nat → Int} : ∀ n : Nat, (∀ j, j < n → f j ≤ g j) → psum f n ≤ psum g n
  | 0, _ => Int.le_refl _
  | n + 1, h => by
    have a := psum_le n (fun j hj => h j (by omega))
    have b := h n (by omega)
    rw [psum, psum]; omega
theorem psum_lin (a : Int) (f g : Nat → Int) : ∀ n, psum (fun t => a * f t + g t) n = a * psum f n + psum g n
  | 0 => by simp [psum]
  | n + 1 => by rw [psum, psum, psum, psum_lin a f g n, Int.mul_add]; omega
theorem psum_sub (f g : Nat → Int) : ∀ n, psum (fun t => f t - g t) n = psum f n - psum g n
  | 0 => by simp [psum]
  | n + 1 => by rw [psum, psum, psum, psum_sub f g n]; omega
theorem psum_one (c : Int) : ∀ n : Nat, psum (fun _ => c) n = c * n
  | 0 => by simp [psum]
  | n + 1 => by rw [psum, psum_one c n, show ((n + 1 : Nat) : Int) = n + 1 from rfl, Int.mul_add, Int.mul_one]
/-- How many of the first so many are below. -/
theorem psum_ind (τ : Nat) : ∀ n : Nat, psum (fun t => if t < τ then 1 else 0) n = if n ≤ τ then (n : Int) else τ
  | 0 => by simp [psum]
  | n + 1 => by
    rw [psum, psum_ind τ n]
    by_cases a : n ≤ τ
    · by_cases b : n < τ
      · rw [if_pos a, if_pos b, if_pos (by omega)]; omega
      · rw [if_pos a, if_neg b, if_neg (by omega)]; omega
    · rw [if_neg a, if_neg (by omega), if_neg (by omega)]; omega
/-- Points in a row, one step apart. -/
def pt (p d : Int) (t : Nat) : Int := p + d * t
/-- Is a point below? -/
def blw (p d b : Int) (t : Nat) : Int := if pt p d t < b then 1 else 0
theorem cnt_spec {p d b : Int} {c : Nat} (hd : 1 ≤ d) (h0 : p - d < b) (h1 : b ≤ p + d * c) : ∃ τ : Nat, psum (blw p d b) c = τ ∧ d * ((τ : Int) - 1) < b - p ∧ b - p ≤ d * τ ∧ τ ≤ c := by
  obtain ⟨τ, hτ⟩ : ∃ τ : Nat, (τ : Int) = (b - p + d - 1) / d := ⟨((b - p + d - 1) / d).toNat, by
    have : 0 ≤ (b - p + d - 1) / d := Int.ediv_nonneg (by omega) (by omega)
    omega⟩
  have e := Int.mul_ediv_add_emod (b - p + d - 1) d
  have r0 := Int.emod_nonneg (b - p + d - 1) (show d ≠ 0 by omega)
  have r1 := Int.emod_lt_of_pos (b - p + d - 1) (show 0 < d by omega)
  rw [← hτ] at e
  have a1 : d * ((τ : Int) - 1) < b - p := by rw [Int.mul_sub, Int.mul_one]; omega
  have a2 : b - p ≤ d * τ := by omega
  have a3 : τ ≤ c := by
    have : d * ((τ : Int) - 1) < d * c := by omega
    have := Int.lt_of_mul_lt_mul_left this (by omega)
    omega
  refine ⟨τ, ?_, a1, a2, a3⟩
  have : blw p d b = fun t => if t < τ then 1 else 0 := by
    funext t
    unfold blw pt
    by_cases h : t < τ
    · rw [if_pos h, if_pos]
      have : d * (t : Int) ≤ d * ((τ : Int) - 1) := Int.mul_le_mul_of_nonneg_left (by omega) (by omega)
      omega
    · rw [if_neg h, if_neg]
      have : d * (τ : Int) ≤ d * (t : Int) := Int.mul_le_mul_of_nonneg_left (by omega) (by omega)
      omega
  rw [this, psum_ind]
  split
  · have : c = τ := by omega
    rw [this]
  · rfl
/-- How many stand within. -/
theorem cnt_in {p d a b : Int} {c : Nat} (hd : 1 ≤ d) (h0 : p - d < a) (hab : a ≤ b) (h1 : b ≤ p + d * c) : ∃ n : Int, psum (fun t => blw p d b t - blw p d a t) c = n ∧ d * (n - 1) < b - a ∧ b - a < d * (n + 1) := by
  obtain ⟨x, x1, x2, x3, _⟩ := cnt_spec (c := c) hd h0 (by omega)
  obtain ⟨y, y1, y2, y3, _⟩ := cnt_spec (c := c) hd (show p - d < b by omega) h1
  refine ⟨(y : Int) - x, by rw [psum_sub, x1, y1], ?_, ?_⟩
  · have e : d * ((y : Int) - x - 1) = d * ((y : Int) - 1) - d * x := by rw [← Int.mul_sub]; congr 1; omega
    omega
  · have e : d * ((y : Int) - x + 1) = d * (y : Int) - d * ((x : Int) - 1) := by rw [← Int.mul_sub]; congr 1; omega
    omega
/-- What is known of a filter's weights, of a fraction with so great a denominator. -/
structure Wgt (L : Int → Int) (q R A C D P : Int) : Prop where
  side : ∀ p, -R < p → p < R → -D - (if (-2 * q + 1 ≤ p ∧ p < -q + 1) ∨ (q ≤ p ∧ p < 2 * q) then C else 0) ≤ L p
  mid : ∀ p, -(q / 2) ≤ p → p < q / 2 + 1 → A ≤ L p
  pair : ∀ p d, 1 ≤ d → d ≤ q → p < 0 → 0 ≤ p + d → -q ≤ p → p + d ≤ q → P ≤ L p + L (p + d)
/-- What is below nought. -/
def neg (x : Int) : Int := if x < 0 then -x else 0
theorem wgt_sum {L : Int → Int} {q R A C D P p d k : Int} {c : Nat} (W : Wgt L q R A C D P) (hA : 0 ≤ A) (hC : 0 ≤ C) (hD : 0 ≤ D) (hq : 1 ≤ q) (hR : 2 * q ≤ R) (hd : 1 ≤ d) (hdq : d ≤ q) (hp : -R < p) (hp2 : p - d ≤ -R) (hc : R ≤ p + d * c) (hc2 : p + d * ((c : Int) - 1) < R) (hk : k * d ≤ q) (hk2 : q < (k + 1) * d) :
    psum (fun t => neg (L (pt p d t))) c ≤ C * (2 * (k + 1)) + D * c ∧ A * k - C * (2 * (k + 1)) - D * c ≤ psum (fun t => L (pt p d t)) c ∧ P - C * (2 * (k + 1)) - D * c ≤ psum (fun t => L (pt p d t)) c := by
  obtain ⟨x, x1, x2, x3⟩ := cnt_in (p := p) (c := c) (a := -2 * q + 1) (b := -q + 1) hd (by omega) (by omega) (by omega)
  obtain ⟨y, y1, y2, y3⟩ := cnt_in (p := p) (c := c) (a := q) (b := 2 * q) hd (by omega) (by omega) (by omega)
  obtain ⟨z, z1, z2, z3⟩ := cnt_in (p := p) (c := c) (a := (-(q / 2) : Int)) (b := (q / 2 + 1 : Int)) hd (by omega) (by omega) (by omega)
  have hx : x ≤ k + 1 := by
    have e1 : d * (x - 1) < d * (k + 1) := by rw [Int.mul_comm d (k + 1)]; omega
    have := Int.lt_of_mul_lt_mul_left e1 (by omega)
    omega
  have hy : y ≤ k + 1 := by
    have e1 : d * (y - 1) < d * (k + 1) := by rw [Int.mul_comm d (k + 1)]; omega
    have := Int.lt_of_mul_lt_mul_left e1 (by omega)
    omega
  have hz : k ≤ z := by
    have e1 : d * k < d * (z + 1) := by rw [Int.mul_comm d k]; omega
    have := Int.lt_of_mul_lt_mul_left e1 (by omega)
    omega
  have hin : ∀ t, t < c → -R < pt p d t ∧ pt p d t < R := by
    intro t ht
    unfold pt
    have a : 0 ≤ d * (t : Int) := Int.mul_nonneg (by omega) (by omega)
    have b : d * (t : Int) ≤ d * ((c : Int) - 1) := Int.mul_le_mul_of_nonneg_left (by omega) (by omega)
    omega
  have bl : ∀ a b t, a ≤ b → blw p d b t - blw p d a t = if a ≤ pt p d t ∧ pt p d t < b then 1 else 0 := by
    intro a b t hab
    unfold blw
    by_cases h1 : pt p d t < a
    · rw [if_pos h1, if_pos (by omega), if_neg (by omega)]; rfl
    · rw [if_neg h1]
      by_cases h2 : pt p d t < b
      · rw [if_pos h2, if_pos (by omega)]; rfl
      · rw [if_neg h2, if_neg (by omega)]; rfl
  -- the part below
  have low : ∀ t, t < c → -D - C * (if (-2 * q + 1 ≤ pt p d t ∧ pt p d t < -q + 1) ∨ (q ≤ pt p d t ∧ pt p d t < 2 * q) then 1 else 0) ≤ L (pt p d t) := by
    intro t ht
    have := W.side _ (hin t ht).1 (hin t ht).2
    by_cases h : (-2 * q + 1 ≤ pt p d t ∧ pt p d t < -q + 1) ∨ (q ≤ pt p d t ∧ pt p d t < 2 * q)
    · rw [if_pos h] at this ⊢; rw [Int.mul_one]; exact this
    · rw [if_neg h] at this ⊢; rw [Int.mul_zero]; exact this
  obtain ⟨u, hu⟩ : ∃ u : Nat → Int, u = fun t => if (-2 * q + 1 ≤ pt p d t ∧ pt p d t < -q + 1) ∨ (q ≤ pt p d t ∧ pt p d t < 2 * q) then 1 else 0 := ⟨_, rfl⟩
  have hus : psum u c ≤ 2 * (k + 1) := by
    have e : psum u c ≤ psum (fun t => 1 * (blw p d (-q + 1) t - blw p d (-2 * q + 1) t) + (blw p d (2 * q) t - blw p d q t)) c := by
      refine psum_le c (fun t _ => ?_)
      rw [bl _ _ _ (by omega), bl _ _ _ (by omega), hu]
      show (if _ then (1 : Int) else 0) ≤ _
      by_cases h1 : -2 * q + 1 ≤ pt p d t ∧ pt p d t < -q + 1
      · rw [if_pos (.inl h1), if_pos h1]; split <;> omega
      · by_cases h2 : q ≤ pt p d t ∧ pt p d t < 2 * q
        · rw [if_pos (.inr h2), if_neg h1, if_pos h2]; omega
        · rw [if_neg (by intro h; rcases h with h | h; exact h1 h; exact h2 h), if_neg h1, if_neg h2]; omega
    rw [psum_lin, x1, y1] at e
    omega
  have hu0 : ∀ t, 0 ≤ u t ∧ u t ≤ 1 := fun t => by rw [hu]; show 0 ≤ (if _ then (1 : Int) else 0) ∧ (if _ then (1 : Int) else 0) ≤ _; split <;> omega
  have low' : ∀ t, t < c → -D - C * u t ≤ L (pt p d t) := fun t ht => by rw [hu]; exact low t ht
  have hCu : C * psum u c ≤ C * (2 * (k + 1)) := Int.mul_le_mul_of_nonneg_left hus hC
  clear low bl
  have bl : ∀ a b t, a ≤ b → blw p d b t - blw p d a t = if a ≤ pt p d t ∧ pt p d t < b then 1 else 0 := by
    intro a b t hab
    unfold blw
    by_cases h1 : pt p d t < a
    · rw [if_pos h1, if_pos (by omega), if_neg (by omega)]; rfl
    · rw [if_neg h1]
      by_cases h2 : pt p d t < b
      · rw [if_pos h2, if_pos (by omega)]; rfl
      · rw [if_neg h2, if_neg (by omega)]; rfl
  refine ⟨?_, ?_, ?_⟩
  · have e : psum (fun t => neg (L (pt p d t))) c ≤ psum (fun t => C * u t + D) c := by
      refine psum_le c (fun t ht => ?_)
      have a := low' t ht
      have b : 0 ≤ C * u t := Int.mul_nonneg hC (hu0 t).1
      unfold neg; split <;> omega
    rw [psum_lin, psum_one] at e
    omega
  · have e : psum (fun t => A * (blw p d (q / 2 + 1) t - blw p d (-(q / 2)) t) + (-C * u t + -D)) c ≤ psum (fun t => L (pt p d t)) c := by
      refine psum_le c (fun t ht => ?_)
      rw [bl _ _ _ (by omega)]
      have a := low' t ht
      have b : 0 ≤ C * u t := Int.mul_nonneg hC (hu0 t).1
      rw [Int.neg_mul]
      by_cases h : -(q / 2) ≤ pt p d t ∧ pt p d t < q / 2 + 1
      · rw [if_pos h, Int.mul_one]
        have := W.mid _ h.1 h.2
        omega
      · rw [if_neg h, Int.mul_zero]; omega
    rw [psum_lin, psum_lin, psum_one, z1, Int.neg_mul, Int.neg_mul] at e
    have a1 : A * k ≤ A * z := Int.mul_le_mul_of_nonneg_left hz hA
    omega
  · -- the two in the middle
    obtain ⟨m, m1, m2, m3, m4⟩ := cnt_spec (p := p) (c := c) (b := 0) hd (by omega) (by omega)
    have e1 : d * ((m : Int) - 1) = d * (m : Int) - d := by rw [Int.mul_sub, Int.mul_one]
    have hm1 : 1 ≤ m := by
      rcases Nat.eq_zero_or_pos m with h | h
      · subst h; simp at m3; omega
      · exact h
    have hm2 : m < c := by
      rcases Nat.lt_or_ge m c with h | h
      · exact h
      · have : m = c := by omega
        subst this
        omega
    have hpr := W.pair (pt p d (m - 1)) d hd hdq (by unfold pt; rw [Int.natCast_sub hm1]; show p + d * ((m : Int) - 1) < 0; omega) (by unfold pt; rw [Int.natCast_sub hm1]; show 0 ≤ p + d * ((m : Int) - 1) + d; omega) (by unfold pt; rw [Int.natCast_sub hm1]; show -q ≤ p + d * ((m : Int) - 1); omega) (by unfold pt; rw [Int.natCast_sub hm1]; show p + d * ((m : Int) - 1) + d ≤ q; omega)
    have e2 : pt p d (m - 1) + d = pt p d m := by unfold pt; rw [Int.natCast_sub hm1]; show p + d * ((m : Int) - 1) + d = _; omega
    rw [e2] at hpr
    have two : ∀ (f g : Nat → Int) (n : Nat), (∀ t, t < n → f t ≤ g t) → ∀ m, 1 ≤ m → m < n → psum f n + (g (m - 1) - f (m - 1)) + (g m - f m) ≤ psum g n := by
      intro f g n hfg m h1 h2
      have h := psum_nonneg3 (f := fun t => g t - f t) n (fun j hj => by have := hfg j hj; omega)
      rw [psum_sub] at h
      have k1 : ∀ (h : Nat → Int) (n m : Nat), (∀ t, t < n → 0 ≤ h t) → 1 ≤ m → m < n → h (m - 1) + h m ≤ psum h n := by
        intro h n
        induction n with
        | zero => intro m _ _ h; omega
        | succ n ih =>
          intro m hp h1 h2
          rw [psum]
          by_cases e : m = n
          · subst e
            have := (psum_nonneg3 m (fun j hj => hp j (by omega))).2 (m - 1) (by omega)
            omega
          · have := ih m (fun t ht => hp t (by omega)) h1 (by omega)
            have := hp n (by omega)
            omega
      have := k1 (fun t => g t - f t) n m (fun t ht => by have := hfg t ht; omega) h1 h2
      rw [psum_sub] at this
      omega
    have h := two (fun t => -C * u t + -D) (fun t => L (pt p d t)) c (fun t ht => by have := low' t ht; rw [Int.neg_mul]; omega) m hm1 hm2
    rw [psum_lin, psum_one, Int.neg_mul, Int.neg_mul] at h
    have b1 : 0 ≤ C * u (m - 1) := Int.mul_nonneg hC (hu0 _).1
    have b2 : 0 ≤ C * u m := Int.mul_nonneg hC (hu0 _).1
    simp only [Int.neg_mul] at h
    omega

theorem rdiv_spec (a : Int) {b : Int} (hb : 0 < b) : 2 * b * rdiv a b ≤ 2 * a + b ∧ 2 * a + b < 2 * b * rdiv a b + 2 * b := by
  unfold rdiv
  rw [if_pos hb]
  have e := Int.mul_ediv_add_emod (2 * a + b) (2 * b)
  have r0 := Int.emod_nonneg (2 * a + b) (show 2 * b ≠ 0 by omega)
  have r1 := Int.emod_lt_of_pos (2 * a + b) (show 0 < 2 * b by omega)
  omega
/-- The rounded quotient grows with the quotient. -/
theorem rdiv_mono {x y b d : Int} (hb : 0 < b) (hd : 0 < d) (h : x * d ≤ y * b) : rdiv x b ≤ rdiv y d := by
  have s := (rdiv_spec x hb).1
  obtain ⟨t, ht⟩ : ∃ t, t = rdiv x b := ⟨_, rfl⟩
  rw [← ht] at s ⊢
  have e : rdiv y d = (2 * y + d) / (2 * d) := by unfold rdiv; rw [if_pos hd]
  rw [e, Int.le_ediv_iff_mul_le (by omega)]
  -- b (2 t - 1) ≤ 2 x
  have h1 : b * (2 * t - 1) ≤ 2 * x := by rw [Int.mul_sub, Int.mul_one, ← Int.mul_assoc, Int.mul_comm b 2]; omega
  have h2 : b * (2 * t - 1) * d ≤ 2 * x * d := Int.mul_le_mul_of_nonneg_right h1 (by omega)
  have h3 : b * (d * (2 * t - 1)) ≤ b * (2 * y) := by
    have a1 : b * (d * (2 * t - 1)) = b * (2 * t - 1) * d := by rw [Int.mul_assoc, Int.mul_comm d]
    have a2 : b * (2 * y) = 2 * (y * b) := by rw [Int.mul_comm b, Int.mul_assoc]
    have a3 : 2 * x * d = 2 * (x * d) := Int.mul_assoc _ _ _
    omega
  have h4 := Int.le_of_mul_le_mul_left h3 hb
  have a4 : d * (2 * t - 1) = t * (2 * d) - d := by rw [Int.mul_sub, Int.mul_one, ← Int.mul_assoc, Int.mul_comm d 2, Int.mul_comm]
  omega
theorem rdiv_mono1 {x y b : Int} (hb : 0 < b) (h : x ≤ y) : rdiv x b ≤ rdiv y b := rdiv_mono hb hb (Int.mul_le_mul_of_nonneg_right h (by omega))
theorem rdiv_nonneg {x b : Int} (hb : 0 < b) (h : 0 ≤ x) : 0 ≤ rdiv x b := by
  have e : rdiv x b = (2 * x + b) / (2 * b) := by unfold rdiv; rw [if_pos hb]
  rw [e]; exact Int.ediv_nonneg (by omega) (by omega)
/-- The term's bound; how far it may be from the real one. -/
def tB : Nat → Int
  | 0 => 1099511627776
  | n + 1 => tB n * 90 / ((2 * ((n : Int) + 1)) * (2 * ((n : Int) + 1) + 1)) + 1
def tE : Nat → Int
  | 0 => 0
  | n + 1 => (90 * tE n) / ((2 * ((n : Int) + 1)) * (2 * ((n : Int) + 1) + 1)) + 2
/-- 90 times 2^40. -/
def uM : Int := 98956046499840
theorem den_le' (n : Nat) : 6 ≤ (2 * ((n : Int) + 1)) * (2 * ((n : Int) + 1) + 1) := by
  have b : 2 * 3 ≤ (2 * ((n : Int) + 1)) * (2 * ((n : Int) + 1) + 1) := Int.mul_le_mul (by omega) (by omega) (by decide) (by omega)
  omega
theorem tB_le : ∀ n, 0 ≤ tB n ∧ tB n ≤ 281474976710656 := by
  have h : ∀ n, n ≤ 8 → 0 ≤ tB n ∧ tB n ≤ 281474976710656 := by decide +kernel
  intro n
  by_cases c : n ≤ 8
  · exact h n c
  · obtain ⟨m, rfl⟩ : ∃ m, n = m + 9 := ⟨n - 9, by omega⟩
    induction m with
    | zero => decide +kernel
    | succ m ih =>
      obtain ⟨i1, i2⟩ := ih (by omega)
      have hd : 180 ≤ (2 * (((m + 9 : Nat) : Int) + 1)) * (2 * (((m + 9 : Nat) : Int) + 1) + 1) := by
        have b : 20 * 21 ≤ (2 * (((m + 9 : Nat) : Int) + 1)) * (2 * (((m + 9 : Nat) : Int) + 1) + 1) := Int.mul_le_mul (by omega) (by omega) (by decide) (by omega)
        omega
      obtain ⟨D, hD⟩ : ∃ D, D = (2 * (((m + 9 : Nat) : Int) + 1)) * (2 * (((m + 9 : Nat) : Int) + 1) + 1) := ⟨_, rfl⟩
      have e : tB (m + 1 + 9) = tB (m + 9) * 90 / D + 1 := by rw [hD]; rfl
      rw [← hD] at hd
      rw [e]
      have a1 := Int.ediv_nonneg (show 0 ≤ tB (m + 9) * 90 by omega) (show 0 ≤ D by omega)
      have a2 : tB (m + 9) * 90 / D < 140737488355329 := by
        rw [Int.ediv_lt_iff_lt_mul (by omega)]
        have : 140737488355329 * 180 ≤ 140737488355329 * D := Int.mul_le_mul_of_nonneg_left hd (by decide)
        omega
      constructor <;> omega
/-- A term is what it is, without being held. -/
theorem serT_bnd {u : Int} (h0 : 0 ≤ u) (h1 : u ≤ uM) : ∀ n, 0 ≤ serT u n ∧ serT u n ≤ tB n ∧ serT u (n + 1) = rdiv (serT u n * u) ((2 * ((n : Int) + 1)) * (2 * ((n : Int) + 1) + 1) * 1099511627776) := by
  have key : ∀ n, 0 ≤ serT u n → serT u n ≤ tB n → 0 ≤ rdiv (serT u n * u) ((2 * ((n : Int) + 1)) * (2 * ((n : Int) + 1) + 1) * 1099511627776) ∧ rdiv (serT u n * u) ((2 * ((n : Int) + 1)) * (2 * ((n : Int) + 1) + 1) * 1099511627776) ≤ tB (n + 1) := by
    intro n a b
    have hd := den_le' n
    obtain ⟨D, hD⟩ : ∃ D, D = (2 * ((n : Int) + 1)) * (2 * ((n : Int) + 1) + 1) := ⟨_, rfl⟩
    have e : tB (n + 1) = tB n * 90 / D + 1 := by rw [hD]; rfl
    rw [← hD] at hd ⊢
    rw [e]
    have p1 : 0 ≤ serT u n * u := Int.mul_nonneg a h0
    have p2 : serT u n * u ≤ tB n * uM := Int.mul_le_mul b h1 h0 (by omega)
    refine ⟨rdiv_nonneg (by omega) p1, ?_⟩
    have s := (rdiv_spec (serT u n * u) (show 0 < D * 1099511627776 by omega)).1
    obtain ⟨t, ht⟩ : ∃ t, t = rdiv (serT u n * u) (D * 1099511627776) := ⟨_, rfl⟩
    rw [← ht] at s ⊢
    have q1 : tB n * uM = 1099511627776 * (tB n * 90) := by unfold uM; omega
    have q2 : 2 * (D * 1099511627776) * t = 2199023255552 * (D * t) := by rw [show 2 * (D * 1099511627776) = 2199023255552 * D by omega, Int.mul_assoc]
    have q3 := Int.mul_ediv_add_emod (tB n * 90) D
    have q4 := Int.emod_lt_of_pos (tB n * 90) (show 0 < D by omega)
    -- 2 D t ≤ 2 (tB n * 90) + D
    have q5 : 2 * (D * t) ≤ 2 * (tB n * 90) + D := by omega
    have q6 : D * (t - 1) < D * (tB n * 90 / D + 1) := by rw [Int.mul_sub, Int.mul_one, Int.mul_add, Int.mul_one]; omega
    have := Int.lt_of_mul_lt_mul_left q6 (by omega)
    omega
  intro n
  induction n with
  | zero =>
    have e0 : serT u 0 = 1099511627776 := rfl
    have b0 : tB 0 = 1099511627776 := rfl
    have := key 0 (by omega) (by omega)
    refine ⟨by omega, by omega, ?_⟩
    have hb : tB (0 + 1) ≤ _ := (tB_le 1).2
    have eh : serT u (0 + 1) = hold (rdiv (serT u 0 * u) ((2 * (((0 : Nat) : Int) + 1)) * (2 * (((0 : Nat) : Int) + 1) + 1) * 1099511627776)) := rfl
    rw [eh, hold_id (by omega) (by omega)]
  | succ n ih =>
    obtain ⟨i1, i2, i3⟩ := ih
    have a := key n i1 i2
    rw [← i3] at a
    have b := key (n + 1) a.1 a.2
    have hb := (tB_le (n + 1 + 1)).2
    refine ⟨a.1, a.2, ?_⟩
    have eh : serT u (n + 1 + 1) = hold (rdiv (serT u (n + 1) * u) ((2 * (((n + 1 : Nat) : Int) + 1)) * (2 * (((n + 1 : Nat) : Int) + 1) + 1) * 1099511627776)) := rfl
    rw [eh, hold_id (by omega) (by omega)]
theorem serS_bnd {u : Int} (h0 : 0 ≤ u) (h1 : u ≤ uM) : ∀ n : Nat, n ≤ 30 → -281474976710656 * ((n : Int) + 1) ≤ serS u n ∧ serS u n ≤ 281474976710656 * ((n : Int) + 1) := by
  intro n
  induction n with
  | zero => intro _; unfold serS; decide
  | succ n ih =>
    intro hn
    have i := ih (by omega)
    have t := serT_bnd h0 h1 (n + 1)
    have hb := (tB_le (n + 1)).2
    unfold serS
    split
    · rw [w64_id (by omega) (by omega)]; omega
    · rw [w64_id (by omega) (by omega)]; omega

/-- What a term's denominator has come to. -/
def tG : Nat → Int
  | 0 => 1
  | n + 1 => tG n * (((2 * ((n : Int) + 1)) * (2 * ((n : Int) + 1) + 1)) * 1099511627776)
theorem tG_pos : ∀ n, 0 < tG n
  | 0 => by decide
  | n + 1 => by
    have h := den_le' n
    exact Int.mul_pos (tG_pos n) (by omega)
theorem tE_nonneg : ∀ n, 0 ≤ tE n
  | 0 => by decide
  | n + 1 => by
    have h := den_le' n
    have := Int.ediv_nonneg (show 0 ≤ 90 * tE n by have := tE_nonneg n; omega) (show 0 ≤ (2 * ((n : Int) + 1)) * (2 * ((n : Int) + 1) + 1) by omega)
    unfold tE; omega
theorem serT_err {u : Int} (h0 : 0 ≤ u) (h1 : u ≤ uM) : ∀ n, u ^ n * 1099511627776 - tE n * tG n ≤ serT u n * tG n ∧ serT u n * tG n ≤ u ^ n * 1099511627776 + tE n * tG n
  | 0 => by simp [serT, tG, tE]
  | n + 1 => by
    obtain ⟨a, b⟩ := serT_err h0 h1 n
    obtain ⟨t0, _, t2⟩ := serT_bnd h0 h1 n
    have hg := tG_pos n
    have he := tE_nonneg n
    have hd := den_le' n
    obtain ⟨D, hD⟩ : ∃ D, D = (2 * ((n : Int) + 1)) * (2 * ((n : Int) + 1) + 1) := ⟨_, rfl⟩
    have eG : tG (n + 1) = tG n * (D * 1099511627776) := by rw [hD]; rfl
    have eE : tE (n + 1) = (90 * tE n) / D + 2 := by rw [hD]; rfl
    rw [← hD] at t2 hd
    have s := rdiv_spec (serT u n * u) (show 0 < D * 1099511627776 by omega)
    rw [← t2] at s
    obtain ⟨T, hT⟩ : ∃ T, T = serT u n := ⟨_, rfl⟩
    obtain ⟨T', hT'⟩ : ∃ T, T = serT u (n + 1) := ⟨_, rfl⟩
    obtain ⟨g, hg'⟩ : ∃ g, g = tG n := ⟨_, rfl⟩
    obtain ⟨e, he'⟩ : ∃ g, g = tE n := ⟨_, rfl⟩
    rw [eG, eE]
    rw [← hT, ← hg', ← he'] at a b
    rw [← hT, ← hT'] at s
    rw [← hg'] at hg
    rw [← he'] at he
    rw [← hT', ← hg', ← he']
    -- u * (T g) against u ^ (n + 1)
    have eu : u ^ (n + 1) * 1099511627776 = u * (u ^ n * 1099511627776) := by rw [Int.pow_succ, Int.mul_comm (u ^ n) u, Int.mul_assoc]
    have a' : u * (u ^ n * 1099511627776 - e * g) ≤ u * (T * g) := Int.mul_le_mul_of_nonneg_left a h0
    have b' : u * (T * g) ≤ u * (u ^ n * 1099511627776 + e * g) := Int.mul_le_mul_of_nonneg_left b h0
    rw [Int.mul_sub] at a'
    rw [Int.mul_add] at b'
    have ub : u * (e * g) ≤ uM * (e * g) := Int.mul_le_mul_of_nonneg_right h1 (Int.mul_nonneg he (by omega))
    have um : uM * (e * g) = 1099511627776 * (90 * (e * g)) := by unfold uM; omega
    -- the rounding
    have s1 : 2 * (D * 1099511627776) * T' * g ≤ (2 * (T * u) + D * 1099511627776) * g := Int.mul_le_mul_of_nonneg_right s.1 (by omega)
    have s2 : (2 * (T * u) + D * 1099511627776) * g ≤ (2 * (D * 1099511627776) * T' + 2 * (D * 1099511627776)) * g := Int.mul_le_mul_of_nonneg_right (Int.le_of_lt s.2) (by omega)
    have q1 : 2 * (D * 1099511627776) * T' * g = 2 * (T' * (g * (D * 1099511627776))) := by
      rw [Int.mul_assoc, Int.mul_assoc, Int.mul_comm (D * 1099511627776), Int.mul_assoc]
    have q2 : (2 * (T * u) + D * 1099511627776) * g = 2 * (u * (T * g)) + g * (D * 1099511627776) := by
      rw [Int.add_mul, Int.mul_assoc, Int.mul_comm T u, Int.mul_assoc, Int.mul_comm (D * 1099511627776) g]
    have q3 : (2 * (D * 1099511627776) * T' + 2 * (D * 1099511627776)) * g = 2 * (T' * (g * (D * 1099511627776))) + 2 * (g * (D * 1099511627776)) := by
      rw [Int.add_mul, q1, Int.mul_assoc 2, Int.mul_comm (D * 1099511627776) g]
    rw [q1, q2] at s1
    rw [q2, q3] at s2
    -- the new error
    have d1 := Int.mul_ediv_add_emod (90 * e) D
    have d2 := Int.emod_lt_of_pos (90 * e) (show 0 < D by omega)
    obtain ⟨f, hf⟩ : ∃ f, f = 90 * e / D := ⟨_, rfl⟩
    rw [← hf] at d1 ⊢
    have d3 : 90 * e + D ≤ D * (f + 2) := by rw [Int.mul_add]; omega
    have d4 : (90 * e + D) * (g * 1099511627776) ≤ D * (f + 2) * (g * 1099511627776) := Int.mul_le_mul_of_nonneg_right d3 (by omega)
    have d5 : D * (f + 2) * (g * 1099511627776) = (f + 2) * (g * (D * 1099511627776)) := by
      rw [Int.mul_comm D, Int.mul_assoc, Int.mul_left_comm D g]
    have d6 : (90 * e + D) * (g * 1099511627776) = 1099511627776 * (90 * (e * g)) + g * (D * 1099511627776) := by
      rw [Int.add_mul, Int.mul_assoc, Int.mul_left_comm D g, ← Int.mul_assoc e g]; omega
    omega
/-- The whole denominator; a polynomial's coefficients. -/
def sM : Int := tG 30
def coN (n : Nat) : Int := (if n % 2 = 0 then 1 else -1) * (1099511627776 * (sM / tG n))
def co : List Int := (List.range 31).map coN
def sE : Nat → Int
  | 0 => tE 0
  | n + 1 => sE n + tE (n + 1)
def qS (u : Int) : Nat → Int
  | 0 => coN 0
  | n + 1 => qS u n + coN (n + 1) * u ^ (n + 1)
theorem sM_div : ∀ n, n ≤ 30 → tG n * (sM / tG n) = sM := by
  have h : ∀ n, n < 31 → tG n * (sM / tG n) = sM := by decide +kernel
  exact fun n hn => h n (by omega)
theorem sM_pos : 0 < sM := tG_pos 30
theorem term_err {u : Int} (h0 : 0 ≤ u) (h1 : u ≤ uM) {n : Nat} (hn : n ≤ 30) : (1099511627776 * (sM / tG n)) * u ^ n - tE n * sM ≤ serT u n * sM ∧ serT u n * sM ≤ (1099511627776 * (sM / tG n)) * u ^ n + tE n * sM := by
  obtain ⟨a, b⟩ := serT_err h0 h1 n
  have e := sM_div n hn
  have hk : 0 ≤ sM / tG n := Int.ediv_nonneg (Int.le_of_lt sM_pos) (Int.le_of_lt (tG_pos n))
  obtain ⟨k, hk'⟩ : ∃ k, k = sM / tG n := ⟨_, rfl⟩
  rw [← hk'] at e hk ⊢
  have a' := Int.mul_le_mul_of_nonneg_right a hk
  have b' := Int.mul_le_mul_of_nonneg_right b hk
  have e1 : serT u n * tG n * k = serT u n * sM := by rw [Int.mul_assoc, e]
  have e2 : tE n * tG n * k = tE n * sM := by rw [Int.mul_assoc, e]
  have e3 : u ^ n * 1099511627776 * k = 1099511627776 * k * u ^ n := by rw [Int.mul_assoc, Int.mul_comm]
  rw [Int.sub_mul, e1, e2, e3] at a'
  rw [Int.add_mul, e1, e2, e3] at b'
  exact ⟨a', b'⟩
theorem serS_err {u : Int} (h0 : 0 ≤ u) (h1 : u ≤ uM) : ∀ n, n ≤ 30 → qS u n - sE n * sM ≤ serS u n * sM ∧ serS u n * sM ≤ qS u n + sE n * sM := by
  intro n
  induction n with
  | zero =>
    intro _
    have h := term_err h0 h1 (n := 0) (by omega)
    have e : coN 0 = 1099511627776 * (sM / tG 0) := by unfold coN; rw [if_pos rfl, Int.one_mul]
    simp only [Int.pow_zero, Int.mul_one] at h
    show coN 0 - tE 0 * sM ≤ serT u 0 * sM ∧ serT u 0 * sM ≤ coN 0 + tE 0 * sM
    rw [e]; exact h
  | succ n ih =>
    intro hn
    have i := ih (by omega)
    have h := term_err h0 h1 hn
    have t := serT_bnd h0 h1 (n + 1)
    have hb := (tB_le (n + 1)).2
    have sb := serS_bnd h0 h1 n (by omega)
    have e : coN (n + 1) * u ^ (n + 1) = if n % 2 = 0 then -(1099511627776 * (sM / tG (n + 1)) * u ^ (n + 1)) else 1099511627776 * (sM / tG (n + 1)) * u ^ (n + 1) := by
      unfold coN
      by_cases c : n % 2 = 0
      · rw [if_pos c, if_neg (by omega), Int.neg_mul, Int.one_mul, Int.neg_mul]
      · rw [if_neg c, if_pos (by omega), Int.one_mul]
    have eE : sE (n + 1) * sM = sE n * sM + tE (n + 1) * sM := by rw [← Int.add_mul]; rfl
    have eQ : qS u (n + 1) = qS u n + coN (n + 1) * u ^ (n + 1) := rfl
    rw [eE, eQ, e]
    unfold serS
    by_cases c : n % 2 = 0
    · rw [if_pos c, if_pos c, w64_id (by omega) (by omega), Int.sub_mul]; omega
    · rw [if_neg c, if_neg c, w64_id (by omega) (by omega), Int.add_mul]; omega
/-- A polynomial's value; moved along; its greatest size. -/
def evP : List Int → Int → Int
  | [], _ => 0
  | a :: r, x => a + x * evP r x
def combP (c : Int) : Int → List Int → List Int
  | p, [] => [p]
  | p, s :: r => (p + c * s) :: combP c s r
def shiP (c : Int) : List Int → List Int
  | [] => []
  | a :: r => combP c a (shiP c r)
def absP (r : Int) : List Int → Int
  | [] => 0
  | a :: l => siz a + r * absP r l
theorem evP_comb (c t : Int) : ∀ (l : List Int) (a : Int), evP (combP c a l) t = a + (c + t) * evP l t
  | [], a => by simp [combP, evP]
  | s :: r, a => by
    have e : ∀ E : Int, a + c * s + t * (s + (c + t) * E) = a + (c + t) * (s + t * E) := by
      intro E
      rw [Int.mul_add t, Int.mul_add (c + t), Int.add_mul c t s, Int.mul_left_comm t (c + t) E]; omega
    show a + c * s + t * evP (combP c s r) t = a + (c + t) * (s + t * evP r t)
    rw [evP_comb c t r s, e]
theorem evP_shi (c t : Int) : ∀ l : List Int, evP (shiP c l) t = evP l (c + t)
  | [] => rfl
  | a :: r => by
    show evP (combP c a (shiP c r)) t = a + (c + t) * evP r (c + t)
    rw [evP_comb, evP_shi c t r]
theorem absP_nonneg {r : Int} (hr : 0 ≤ r) : ∀ l : List Int, 0 ≤ absP r l
  | [] => Int.le_refl _
  | a :: l => by
    have h := Int.mul_nonneg hr (absP_nonneg hr l)
    unfold absP siz; split <;> omega
theorem evP_abs {r t : Int} (h0 : -r ≤ t) (h1 : t ≤ r) : ∀ l : List Int, -(absP r l) ≤ evP l t ∧ evP l t ≤ absP r l
  | [] => by simp [absP, evP]
  | a :: l => by
    obtain ⟨i1, i2⟩ := evP_abs h0 h1 l
    have hr : 0 ≤ r := by omega
    have hA := absP_nonneg hr l
    have k : -(r * absP r l) ≤ t * evP l t ∧ t * evP l t ≤ r * absP r l := by
      obtain ⟨A, hA'⟩ : ∃ A, A = absP r l := ⟨_, rfl⟩
      obtain ⟨E, hE⟩ : ∃ A, A = evP l t := ⟨_, rfl⟩
      rw [← hA', ← hE] at i1 i2
      rw [← hA'] at hA
      rw [← hA', ← hE]
      -- (r - t)(A + E) ≥ 0, (r + t)(A - E) ≥ 0 ; (r - t)(A - E), (r + t)(A + E)
      have e1 : 0 ≤ (r - t) * (A + E) := Int.mul_nonneg (by omega) (by omega)
      have e2 : 0 ≤ (r + t) * (A - E) := Int.mul_nonneg (by omega) (by omega)
      have e3 : 0 ≤ (r - t) * (A - E) := Int.mul_nonneg (by omega) (by omega)
      have e4 : 0 ≤ (r + t) * (A + E) := Int.mul_nonneg (by omega) (by omega)
      rw [Int.sub_mul, Int.mul_add, Int.mul_add] at e1
      rw [Int.add_mul, Int.mul_sub, Int.mul_sub] at e2
      rw [Int.sub_mul, Int.mul_sub, Int.mul_sub] at e3
      rw [Int.add_mul, Int.mul_add, Int.mul_add] at e4
      omega
    show -(siz a + r * absP r l) ≤ a + t * evP l t ∧ a + t * evP l t ≤ siz a + r * absP r l
    unfold siz; split <;> omega
theorem evP_snoc (x : Int) : ∀ (l : List Int) (a : Int), evP (l ++ [a]) x = evP l x + a * x ^ l.length
  | [], a => by simp [evP]
  | b :: l, a => by
    show b + x * evP (l ++ [a]) x = b + x * evP l x + a * x ^ (l.length + 1)
    rw [evP_snoc x l a, Int.mul_add, Int.pow_succ, Int.mul_left_comm, Int.mul_comm x (x ^ _)]; omega
theorem evP_qS (u : Int) : ∀ n, evP ((List.range (n + 1)).map coN) u = qS u n
  | 0 => by simp [evP, qS]
  | n + 1 => by
    rw [List.range_succ, List.map_append, List.map_singleton, evP_snoc, evP_qS u n, List.length_map, List.length_range]; rfl
/-- Between two ends, what the series lies between. -/
def bndS (a b : Int) : Int × Int :=
  match shiP ((a + b) / 2) co with
  | [] => (-10000000000000000, 10000000000000000)
  | x :: l => ((x - (b - (a + b) / 2) * absP (b - (a + b) / 2) l) / sM - sE 30, (x + (b - (a + b) / 2) * absP (b - (a + b) / 2) l) / sM + 1 + sE 30)
theorem bndS_spec {a b u : Int} (ha : 0 ≤ a) (h0 : a ≤ u) (h1 : u ≤ b) (hb : b ≤ uM) : (bndS a b).1 ≤ serS u 30 ∧ serS u 30 ≤ (bndS a b).2 := by
  have hs := serS_err (u := u) (by omega) (by omega) 30 (by omega)
  rw [← evP_qS u 30] at hs
  have sp := sM_pos
  have hB := serS_bnd (u := u) (by omega) (by omega) 30 (by omega)
  obtain ⟨c, hc⟩ : ∃ c, c = (a + b) / 2 := ⟨_, rfl⟩
  have e := evP_shi c (u - c) co
  rw [show c + (u - c) = u by omega] at e
  unfold bndS
  rw [← hc]
  have hev : evP ((List.range (30 + 1)).map coN) u = evP co u := rfl
  rw [hev] at hs
  cases hl : shiP c co with
  | nil => exact ⟨by show (-10000000000000000 : Int) ≤ _; omega, by show _ ≤ (10000000000000000 : Int); omega⟩
  | cons x l =>
    rw [hl] at e
    have e' : x + (u - c) * evP l (u - c) = evP co u := e
    have hk := evP_abs (r := b - c) (t := u - c) (by omega) (by omega) (0 :: l)
    have hk' : -(0 + (b - c) * absP (b - c) l) ≤ 0 + (u - c) * evP l (u - c) ∧ 0 + (u - c) * evP l (u - c) ≤ 0 + (b - c) * absP (b - c) l := hk
    have sz0 : siz 0 = 0 := rfl
    obtain ⟨w, hw⟩ : ∃ w, w = (b - c) * absP (b - c) l := ⟨_, rfl⟩
    rw [← hw] at hk'
    show (x - (b - c) * absP (b - c) l) / sM - sE 30 ≤ serS u 30 ∧ serS u 30 ≤ (x + (b - c) * absP (b - c) l) / sM + 1 + sE 30
    rw [← hw]
    constructor
    · have l1 : (x - w) / sM ≤ serS u 30 + sE 30 := by
        have : (x - w) / sM < serS u 30 + sE 30 + 1 := by
          rw [Int.ediv_lt_iff_lt_mul sp, Int.add_mul, Int.add_mul]; omega
        omega
      omega
    · have l1 : serS u 30 - sE 30 ≤ (x + w) / sM := by
        rw [Int.le_ediv_iff_mul_le sp, Int.sub_mul]; omega
      omega

theorem hold_mono {a b : Int} (h : a ≤ b) : hold a ≤ hold b := by unfold hold; split <;> split <;> (try split) <;> omega
theorem hold_nonneg {a : Int} (h : 0 ≤ a) : 0 ≤ hold a := by unfold hold; split <;> (try split) <;> omega
theorem serU_mono {p q p' q' : Int} (hp : 0 ≤ p) (hp' : 0 ≤ p') (hq : 0 < q) (hq' : 0 < q') (h : p * q' ≤ p' * q) : 0 ≤ serU p q ∧ serU p q ≤ serU p' q' := by
  have a : rdiv (10851744800547 * p) q ≤ rdiv (10851744800547 * p') q' := rdiv_mono hq hq' (by rw [Int.mul_assoc, Int.mul_assoc]; exact Int.mul_le_mul_of_nonneg_left h (by decide))
  have n0 : 0 ≤ rdiv (10851744800547 * p) q := rdiv_nonneg hq (by omega)
  have b := hold_mono a
  have n1 := hold_nonneg n0
  unfold serU
  obtain ⟨v, hv⟩ : ∃ v, v = hold (rdiv (10851744800547 * p) q) := ⟨_, rfl⟩
  obtain ⟨v', hv'⟩ : ∃ v, v = hold (rdiv (10851744800547 * p') q') := ⟨_, rfl⟩
  rw [← hv, ← hv'] at b
  rw [← hv] at n1
  rw [← hv, ← hv']
  refine ⟨hold_nonneg (rdiv_nonneg hq (Int.mul_nonneg n1 hp)), hold_mono (rdiv_mono hq hq' ?_)⟩
  have e1 : v * p * q' ≤ v * (p' * q) := by rw [Int.mul_assoc]; exact Int.mul_le_mul_of_nonneg_left h n1
  have e2 : v * (p' * q) ≤ v' * (p' * q) := Int.mul_le_mul_of_nonneg_right b (Int.mul_nonneg hp' (by omega))
  rw [← Int.mul_assoc v'] at e2
  omega
def min4 (a b c d : Int) : Int := if a ≤ b ∧ a ≤ c ∧ a ≤ d then a else if b ≤ c ∧ b ≤ d then b else if c ≤ d then c else d
def max4 (a b c d : Int) : Int := -(min4 (-a) (-b) (-c) (-d))
theorem min4_le (a b c d : Int) : min4 a b c d ≤ a ∧ min4 a b c d ≤ b ∧ min4 a b c d ≤ c ∧ min4 a b c d ≤ d := by unfold min4; split <;> (try split) <;> (try split) <;> omega
/-- The products of two numbers that lie between. -/
theorem mul_btw {x y a b c d : Int} (h1 : a ≤ x) (h2 : x ≤ b) (h3 : c ≤ y) (h4 : y ≤ d) : min4 (a * c) (a * d) (b * c) (b * d) ≤ x * y ∧ x * y ≤ max4 (a * c) (a * d) (b * c) (b * d) := by
  have m := min4_le (a * c) (a * d) (b * c) (b * d)
  have m' := min4_le (-(a * c)) (-(a * d)) (-(b * c)) (-(b * d))
  unfold max4
  obtain ⟨L, hL⟩ : ∃ L, L = min4 (a * c) (a * d) (b * c) (b * d) := ⟨_, rfl⟩
  obtain ⟨H, hH⟩ : ∃ L, L = min4 (-(a * c)) (-(a * d)) (-(b * c)) (-(b * d)) := ⟨_, rfl⟩
  rw [← hL] at m ⊢
  rw [← hH] at m' ⊢
  have k : ∀ z : Int, (z = c ∨ z = d) → (a * z ≤ x * z ∧ x * z ≤ b * z) ∨ (b * z ≤ x * z ∧ x * z ≤ a * z) := by
    intro z _
    rcases Int.le_total 0 z with h | h
    · exact .inl ⟨Int.mul_le_mul_of_nonneg_right h1 h, Int.mul_le_mul_of_nonneg_right h2 h⟩
    · exact .inr ⟨Int.mul_le_mul_of_nonpos_right h2 h, Int.mul_le_mul_of_nonpos_right h1 h⟩
  have kc := k c (.inl rfl)
  have kd := k d (.inr rfl)
  have kx : (x * c ≤ x * y ∧ x * y ≤ x * d) ∨ (x * d ≤ x * y ∧ x * y ≤ x * c) := by
    rcases Int.le_total 0 x with h | h
    · exact .inl ⟨Int.mul_le_mul_of_nonneg_left h3 h, Int.mul_le_mul_of_nonneg_left h4 h⟩
    · exact .inr ⟨Int.mul_le_mul_of_nonpos_left h h4, Int.mul_le_mul_of_nonpos_left h h3⟩
  omega
/-- A part of the weight's run, in 128ths: what the weight lies between. -/
def cellL (a : Int) : Int × Int :=
  let x := bndS (serU a 128) (serU (a + 1) 128)
  let y := bndS (serU a 384) (serU (a + 1) 384)
  (sh (hold (rdiv (min4 (x.1 * y.1) (x.1 * y.2) (x.2 * y.1) (x.2 * y.2)) 1099511627776)) 10, sh (hold (rdiv (max4 (x.1 * y.1) (x.1 * y.2) (x.2 * y.1) (x.2 * y.2)) 1099511627776)) 10)
theorem sh10_mono {a b : Int} (h : a ≤ b) : sh a 10 ≤ sh b 10 := by
  unfold sh
  rw [if_neg (by decide), if_neg (by decide)]
  exact rdiv_mono1 (by decide) h
theorem cellL_spec {p q : Int} (hm : mayP p q) (h3 : siz p < 3 * q) {a : Int} (ha : 0 ≤ a) (h0 : a * q ≤ siz p * 128) (h1 : siz p * 128 ≤ (a + 1) * q) (hb : a < 384) : (cellL a).1 ≤ lanV p q ∧ lanV p q ≤ (cellL a).2 := by
  have hq : 1 ≤ q := hm.1
  have hs : 0 ≤ siz p := by unfold siz; split <;> omega
  have hU : serU (a + 1) 128 ≤ uM := by
    have := (serU_mono (p := a + 1) (q := 128) (p' := 3) (q' := 1) (by omega) (by decide) (by decide) (by decide) (by omega)).2
    have e : serU 3 1 ≤ uM := by decide +kernel
    omega
  have hU2 : serU (a + 1) 384 ≤ uM := by
    have := (serU_mono (p := a + 1) (q := 384) (p' := 3) (q' := 1) (by omega) (by decide) (by decide) (by decide) (by omega)).2
    have e : serU 3 1 ≤ uM := by decide +kernel
    omega
  have x0 := serU_mono (p := a) (q := 128) (p' := siz p) (q' := q) ha hs (by decide) (by omega) h0
  have x1 := serU_mono (p := siz p) (q := q) (p' := a + 1) (q' := 128) hs (by omega) (by omega) (by decide) h1
  have y0 := serU_mono (p := a) (q := 384) (p' := siz p) (q' := 3 * q) ha hs (by decide) (by omega) (by rw [Int.mul_left_comm]; omega)
  have y1 := serU_mono (p := siz p) (q := 3 * q) (p' := a + 1) (q' := 384) hs (by omega) (by omega) (by decide) (by rw [Int.mul_left_comm]; omega)
  have sx := bndS_spec x0.1 x0.2 x1.2 hU
  have sy := bndS_spec y0.1 y0.2 y1.2 hU2
  have m := mul_btw sx.1 sx.2 sy.1 sy.2
  have e : lanV p q = sh (hold (rdiv (serS (serU (siz p) q) 30 * serS (serU (siz p) (3 * q)) 30) 1099511627776)) 10 := by
    unfold lanV
    rw [if_pos ⟨hm, h3⟩]
    unfold mulsh serV
    rw [if_neg (by decide)]
    rfl
  rw [e]
  exact ⟨sh10_mono (hold_mono (rdiv_mono1 (by decide) m.1)), sh10_mono (hold_mono (rdiv_mono1 (by decide) m.2))⟩
/-- What is checked of a part. -/
def okL (a : Int) : Bool :=
  let c := cellL a
  decide (c.2 ≤ 2147483648) && decide (-161061273 ≤ c.1) && (decide (a < 128 ∨ 256 ≤ a) == false || decide (-107374 ≤ c.1)) && (decide (a < 64) == false || decide (651761287 ≤ c.1)) && (decide (a < 128) == false || decide (1063004405 * 128 - 1138166333 * a ≤ 128 * c.1))
def allG (ok : Int → Bool) (s : Int) : Nat → Bool
  | 0 => true
  | n + 1 => ok (s + n) && allG ok s n
theorem allG_is (ok : Int → Bool) (s : Int) : ∀ n : Nat, allG ok s n = true → ∀ j : Nat, j < n → ok (s + j) = true := by
  intro n
  induction n with
  | zero => intro _ j h; omega
  | succ n ih =>
    intro h j hj
    unfold allG at h
    rw [Bool.and_eq_true] at h
    by_cases e : j = n
    · rw [e]; exact h.1
    · exact ih h.2 j (by omega)
theorem allF_0 : allG okL 0 24 = true := by decide +kernel
theorem allF_1 : allG okL 24 24 = true := by decide +kernel
theorem allF_2 : allG okL 48 24 = true := by decide +kernel
theorem allF_3 : allG okL 72 24 = true := by decide +kernel
theorem allF_4 : allG okL 96 24 = true := by decide +kernel
theorem allF_5 : allG okL 120 24 = true := by decide +kernel
theorem allF_6 : allG okL 144 24 = true := by decide +kernel
theorem allF_7 : allG okL 168 24 = true := by decide +kernel
theorem allF_8 : allG okL 192 24 = true := by decide +kernel
theorem allF_9 : allG okL 216 24 = true := by decide +kernel
theorem allF_10 : allG okL 240 24 = true := by decide +kernel
theorem allF_11 : allG okL 264 24 = true := by decide +kernel
theorem allF_12 : allG okL 288 24 = true := by decide +kernel
theorem allF_13 : allG okL 312 24 = true := by decide +kernel
theorem allF_14 : allG okL 336 24 = true := by decide +kernel
theorem allF_15 : allG okL 360 24 = true := by decide +kernel

theorem okL_all {a : Int} (h0 : 0 ≤ a) (h1 : a < 384) : okL a = true := by
  obtain ⟨i, hi⟩ : ∃ i : Nat, (i : Int) = a / 24 := ⟨(a / 24).toNat, by omega⟩
  obtain ⟨j, hj⟩ : ∃ i : Nat, (i : Int) = a % 24 := ⟨(a % 24).toNat, by omega⟩
  have e : a = ((i * 24 : Nat) : Int) + j := by omega
  have hjl : j < 24 := by omega
  rw [e]
  have hil : i < 16 := by omega
  have hc : i = 0 ∨ i = 1 ∨ i = 2 ∨ i = 3 ∨ i = 4 ∨ i = 5 ∨ i = 6 ∨ i = 7 ∨ i = 8 ∨ i = 9 ∨ i = 10 ∨ i = 11 ∨ i = 12 ∨ i = 13 ∨ i = 14 ∨ i = 15 := by omega
  rcases hc with rfl | rfl | rfl | rfl | rfl | rfl | rfl | rfl | rfl | rfl | rfl | rfl | rfl | rfl | rfl | rfl
  · exact allG_is okL 0 24 allF_0 j hjl
  · exact allG_is okL 24 24 allF_1 j hjl
  · exact allG_is okL 48 24 allF_2 j hjl
  · exact allG_is okL 72 24 allF_3 j hjl
  · exact allG_is okL 96 24 allF_4 j hjl
  · exact allG_is okL 120 24 allF_5 j hjl
  · exact allG_is okL 144 24 allF_6 j hjl
  · exact allG_is okL 168 24 allF_7 j hjl
  · exact allG_is okL 192 24 allF_8 j hjl
  · exact allG_is okL 216 24 allF_9 j hjl
  · exact allG_is okL 240 24 allF_10 j hjl
  · exact allG_is okL 264 24 allF_11 j hjl
  · exact allG_is okL 288 24 allF_12 j hjl
  · exact allG_is okL 312 24 allF_13 j hjl
  · exact allG_is okL 336 24 allF_14 j hjl
  · exact allG_is okL 360 24 allF_15 j hjl

/-- What is known of a part's ends. -/
theorem okL_facts {a : Int} (h : okL a = true) : (cellL a).2 ≤ 2147483648 ∧ -161061273 ≤ (cellL a).1 ∧ (a < 128 ∨ 256 ≤ a → -107374 ≤ (cellL a).1) ∧ (a < 64 → 651761287 ≤ (cellL a).1) ∧ (a < 128 → 1063004405 * 128 - 1138166333 * a ≤ 128 * (cellL a).1) := by
  unfold okL at h
  generalize cellL a = c at h ⊢
  simp only [Bool.and_eq_true, Bool.or_eq_true, beq_iff_eq, decide_eq_true_eq, decide_eq_false_iff_not] at h
  omega
/-- Lanczos' weight, as far as it is needed. -/
theorem lan_facts {p q : Int} (hq : 1 ≤ q) (hq2 : q ≤ 1048576) (h3 : siz p < 3 * q) : lanV p q ≤ 2147483648 ∧ -161061273 ≤ lanV p q ∧ (siz p < q ∨ 2 * q ≤ siz p → -107374 ≤ lanV p q) ∧ (2 * siz p ≤ q → 651761287 ≤ lanV p q) ∧ (siz p ≤ q → 1063004405 * q - 1138166333 * siz p ≤ q * lanV p q) := by
  have hs : 0 ≤ siz p := by unfold siz; split <;> omega
  have hm : mayP p q := by unfold mayP; unfold siz at h3; split at h3 <;> omega
  have e := Int.mul_ediv_add_emod (siz p * 128) q
  have r0 := Int.emod_nonneg (siz p * 128) (show q ≠ 0 by omega)
  have r1 := Int.emod_lt_of_pos (siz p * 128) (show 0 < q by omega)
  obtain ⟨a, ha⟩ : ∃ a, a = siz p * 128 / q := ⟨_, rfl⟩
  rw [← ha] at e
  have a0 : 0 ≤ a := by rw [ha]; exact Int.ediv_nonneg (by omega) (by omega)
  have a1 : a < 384 := by rw [ha, Int.ediv_lt_iff_lt_mul (by omega)]; omega
  have lt : ∀ k : Int, a < k ↔ siz p * 128 < k * q := fun k => by rw [ha]; exact Int.ediv_lt_iff_lt_mul (by omega)
  have l1 := lt 128
  have l2 := lt 256
  have l3 := lt 64
  have e1 : a * q = q * a := Int.mul_comm _ _
  have e2 : (a + 1) * q = q * a + q := by rw [Int.add_mul, Int.one_mul, e1]
  have sp := cellL_spec hm h3 a0 (by omega) (by omega) a1
  have ok := okL_facts (okL_all a0 a1)
  refine ⟨by omega, by omega, fun h => by omega, fun h => ?_, fun h => ?_⟩
  · by_cases c : a < 64
    · have := ok.2.2.2.1 c; omega
    · have sp2 := cellL_spec (a := 63) hm h3 (by decide) (by omega) (by omega) (by decide)
      have ok2 := (okL_facts (okL_all (a := 63) (by decide) (by decide))).2.2.2.1 (by decide)
      omega
  · by_cases c : a < 128
    · have k := ok.2.2.2.2 c
      have k2 : (1063004405 * 128 - 1138166333 * a) * q ≤ 128 * (cellL a).1 * q := Int.mul_le_mul_of_nonneg_right k (by omega)
      have k3 : (cellL a).1 * q ≤ lanV p q * q := Int.mul_le_mul_of_nonneg_right sp.1 (by omega)
      rw [Int.sub_mul, Int.mul_assoc 1138166333, e1, Int.mul_assoc 128] at k2
      have k4 : lanV p q * q = q * lanV p q := Int.mul_comm _ _
      omega
    · have sp2 := cellL_spec (a := 127) hm h3 (by decide) (by omega) (by omega) (by decide)
      have ok2 := (okL_facts (okL_all (a := 127) (by decide) (by decide))).2.2.2.2 (by decide)
      have k3 : -67000000 * q ≤ lanV p q * q := Int.mul_le_mul_of_nonneg_right (by omega) (by omega)
      have k4 : lanV p q * q = q * lanV p q := Int.mul_comm _ _
      omega

theorem rdiv_ge {a b y : Int} (hb : 0 < b) (h : y * b ≤ a) : y ≤ rdiv a b := by
  have s := (rdiv_spec a hb).2
  have h2 : 2 * b * y < 2 * b * (rdiv a b + 1) := by
    have e : 2 * b * y = 2 * (y * b) := by rw [Int.mul_assoc, Int.mul_comm b]
    rw [Int.mul_add, Int.mul_one]; omega
  have := Int.lt_of_mul_lt_mul_left h2 (by omega)
  omega
theorem sq_nn (x : Int) : 0 ≤ x * x := by
  rcases Int.le_total 0 x with h | h
  · exact Int.mul_nonneg h h
  · have := Int.mul_nonneg (show 0 ≤ -x by omega) (show 0 ≤ -x by omega)
    rw [Int.neg_mul_neg] at this; exact this
theorem cub_facts {p q : Int} (hq : 1 ≤ q) (hq2 : q ≤ 262144) (h3 : siz p < 2 * q) : keyV p q ≤ 2147483648 * 4 ∧ -79536432 ≤ keyV p q ∧ (siz p < q → 0 ≤ keyV p q) ∧ (2 * siz p ≤ q → 536870912 ≤ keyV p q) ∧ (siz p ≤ q → 939524000 * q - 1073741824 * siz p ≤ q * keyV p q) := by
  have hs : 0 ≤ siz p := by unfold siz; split <;> omega
  have hc : 1 ≤ q ∧ q ≤ 262144 ∧ p < 2 * q ∧ -2 * q < p := by unfold siz at h3; split at h3 <;> omega
  unfold keyV
  rw [if_pos hc]
  generalize siz p = s at hs h3 ⊢
  have hb : 0 < 2 * (q * q * q) := by have := Int.mul_pos (Int.mul_pos (show 0 < q by omega) (show 0 < q by omega)) (show 0 < q by omega); omega
  obtain ⟨X, hX⟩ : ∃ X, X = (if s ≥ q then -(s * s * s) + 5 * (s * s * q) - 8 * (s * q * q) + 4 * (q * q * q) else 3 * (s * s * s) - 5 * (s * s * q) + 2 * (q * q * q)) := ⟨_, rfl⟩
  rw [← hX]
  have up : X ≤ 5 * (q * q * q) ∧ -(4 * (q * q * q)) ≤ 27 * X ∧ (s < q → 0 ≤ X) ∧ (2 * s ≤ q → q * q * q ≤ X) ∧ (s ≤ q → q * (q * (7 * q - 8 * s)) ≤ 4 * X) := by
    by_cases c : s ≥ q
    · rw [if_pos c] at hX
      have e1 : X = -((s - q) * ((2 * q - s) * (2 * q - s))) := by rw [hX]; grind
      have n1 : 0 ≤ (s - q) * ((2 * q - s) * (2 * q - s)) := Int.mul_nonneg (by omega) (Int.mul_nonneg (by omega) (by omega))
      have n2 : 0 ≤ (4 * q - 3 * s) * (4 * q - 3 * s) * (7 * q - 3 * s) := Int.mul_nonneg (sq_nn _) (by omega)
      have e2 : (4 * q - 3 * s) * (4 * q - 3 * s) * (7 * q - 3 * s) = 4 * (q * q * q) * 28 - 4 * (q * q * q) * 28 + (4 * q - 3 * s) * (4 * q - 3 * s) * (7 * q - 3 * s) := by omega
      have e3 : (4 * q - 3 * s) * (4 * q - 3 * s) * (7 * q - 3 * s) = 4 * (q * q * q) + 27 * X := by rw [hX]; grind
      refine ⟨by omega, by omega, fun h => by omega, fun h => by omega, fun h => ?_⟩
      have : s = q := by omega
      subst this
      have e4 : X = 0 := by rw [e1]; simp
      have e5 : s * (s * (7 * s - 8 * s)) = -(s * s * s) := by grind
      omega
    · rw [if_neg c] at hX
      have n3 : 0 ≤ 3 * s * ((q - s) * (q - s)) := Int.mul_nonneg (by omega) (Int.mul_nonneg (by omega) (by omega))
      have e3 : X = q * ((q - s) * (2 * q - s)) + 3 * s * ((q - s) * (q - s)) := by rw [hX]; grind
      have n4 : 0 ≤ q * ((q - s) * (2 * q - s)) := Int.mul_nonneg (by omega) (Int.mul_nonneg (by omega) (by omega))
      have n5 : 0 ≤ q * ((q - 2 * s) * (q - 2 * s)) := Int.mul_nonneg (by omega) (sq_nn _)
      have e5 : q * (q * (7 * q - 8 * s)) = 4 * (q * ((q - s) * (2 * q - s))) - q * ((q - 2 * s) * (q - 2 * s)) := by grind
      have n6 : 0 ≤ s * s * (5 * q - 3 * s) := Int.mul_nonneg (Int.mul_nonneg hs hs) (by omega)
      have e6 : s * s * (5 * q - 3 * s) = 5 * (s * s * q) - 3 * (s * s * s) := by grind
      refine ⟨by omega, by omega, fun h => by omega, fun h => ?_, fun h => by omega⟩
      have n7 : 0 ≤ s * s * s := Int.mul_nonneg (Int.mul_nonneg hs hs) hs
      have n8 : 0 ≤ s * s * (q - 2 * s) := Int.mul_nonneg (Int.mul_nonneg hs hs) (by omega)
      have n9 : 0 ≤ s * ((q - 2 * s) * (q - 2 * s)) := Int.mul_nonneg hs (Int.mul_nonneg (by omega) (by omega))
      have n10 : 0 ≤ (q - 2 * s) * ((q - 2 * s) * (q - 2 * s)) := Int.mul_nonneg (by omega) (Int.mul_nonneg (by omega) (by omega))
      have e7 : X - q * q * q = s * s * s + 7 * (s * s * (q - 2 * s)) + 6 * (s * ((q - 2 * s) * (q - 2 * s))) + (q - 2 * s) * ((q - 2 * s) * (q - 2 * s)) := by rw [hX]; grind
      omega
  clear hX
  obtain ⟨u1, u2, u3, u4, u5⟩ := up
  have sp := rdiv_spec (X * 1073741824) hb
  have l1 : -79536432 ≤ rdiv (X * 1073741824) (2 * (q * q * q)) := rdiv_ge hb (by omega)
  have l2 : rdiv (X * 1073741824) (2 * (q * q * q)) ≤ 8589934592 := by
    have := rdiv_mono1 hb (show X * 1073741824 ≤ 8589934592 * (2 * (q * q * q)) by omega)
    have e : rdiv (8589934592 * (2 * (q * q * q))) (2 * (q * q * q)) ≤ 8589934592 := by
      have s := (rdiv_spec (8589934592 * (2 * (q * q * q))) hb).1
      have : 2 * (2 * (q * q * q)) * rdiv (8589934592 * (2 * (q * q * q))) (2 * (q * q * q)) < 2 * (2 * (q * q * q)) * 8589934593 := by omega
      have := Int.lt_of_mul_lt_mul_left this (by omega)
      omega
    omega
  rw [hold_id (by omega) (by omega)]
  refine ⟨by omega, l1, fun h => ?_, fun h => ?_, fun h => ?_⟩
  · exact rdiv_nonneg hb (by have := u3 h; omega)
  · exact rdiv_ge hb (by have := u4 h; omega)
  · have v := u5 h
    obtain ⟨r, hr⟩ : ∃ r, r = rdiv (X * 1073741824) (2 * (q * q * q)) := ⟨_, rfl⟩
    rw [← hr] at sp ⊢
    apply Int.not_lt.1
    intro g
    have g2 : (q * r + 1) * (4 * (q * q)) ≤ (939524000 * q - 1073741824 * s) * (4 * (q * q)) := Int.mul_le_mul_of_nonneg_right (by omega) (by have := Int.mul_nonneg (show 0 ≤ q by omega) (show 0 ≤ q by omega); omega)
    have e1 : (q * r + 1) * (4 * (q * q)) = 2 * (2 * (q * q * q)) * r + 4 * (q * q) := by grind
    have e2 : (939524000 * q - 1073741824 * s) * (4 * (q * q)) = 3758096000 * (q * q * q) - 4294967296 * (q * (q * s)) := by grind
    have e3 : q * (q * (7 * q - 8 * s)) = 7 * (q * q * q) - 8 * (q * (q * s)) := by grind
    have n1 : 0 ≤ q * q := Int.mul_nonneg (by omega) (by omega)
    omega

theorem lan_wgt {q : Int} (hq : 1 ≤ q) (hq2 : q ≤ 1048576) : Wgt (fun p => lanV p q) q (3 * q) 651761287 161061273 107374 987842477 where
  side := by
    intro p h0 h1
    have f := lan_facts (p := p) hq hq2 (by unfold siz; split <;> omega)
    split
    · omega
    · have := f.2.2.1 (by unfold siz; split <;> omega)
      omega
  mid := by
    intro p h0 h1
    exact (lan_facts (p := p) hq hq2 (by unfold siz; split <;> omega)).2.2.2.1 (by unfold siz; split <;> omega)
  pair := by
    intro p d h0 h1 h2 h3 h4 h5
    have a := (lan_facts (p := p) hq hq2 (by unfold siz; split <;> omega)).2.2.2.2 (by unfold siz; split <;> omega)
    have b := (lan_facts (p := p + d) hq hq2 (by unfold siz; split <;> omega)).2.2.2.2 (by unfold siz; split <;> omega)
    have e1 : siz p = -p := by unfold siz; rw [if_pos h2]
    have e2 : siz (p + d) = p + d := by unfold siz; rw [if_neg (by omega)]
    rw [e1] at a
    rw [e2] at b
    have : q * 987842477 ≤ q * (lanV p q + lanV (p + d) q) := by rw [Int.mul_add]; omega
    exact Int.le_of_mul_le_mul_left this (by omega)
theorem cub_wgt {q : Int} (hq : 1 ≤ q) (hq2 : q ≤ 262144) : Wgt (fun p => keyV p q) q (2 * q) 536870912 79536432 0 805306176 where
  side := by
    intro p h0 h1
    have f := cub_facts (p := p) hq hq2 (by unfold siz; split <;> omega)
    split
    · omega
    · have := f.2.2.1 (by unfold siz; split <;> omega)
      omega
  mid := by
    intro p h0 h1
    exact (cub_facts (p := p) hq hq2 (by unfold siz; split <;> omega)).2.2.2.1 (by unfold siz; split <;> omega)
  pair := by
    intro p d h0 h1 h2 h3 h4 h5
    have a := (cub_facts (p := p) hq hq2 (by unfold siz; split <;> omega)).2.2.2.2 (by unfold siz; split <;> omega)
    have b := (cub_facts (p := p + d) hq hq2 (by unfold siz; split <;> omega)).2.2.2.2 (by unfold siz; split <;> omega)
    have e1 : siz p = -p := by unfold siz; rw [if_pos h2]
    have e2 : siz (p + d) = p + d := by unfold siz; rw [if_neg (by omega)]
    rw [e1] at a
    rw [e2] at b
    have : q * 805306176 ≤ q * (keyV p q + keyV (p + d) q) := by rw [Int.mul_add]; omega
    exact Int.le_of_mul_le_mul_left this (by omega)
/-- A window's samples, of a filter that isn't Box: points in a row. -/
theorem row_pts {f n m i : Int} (h : mayR f n m i) (hf : f ≠ 0) : -(reachR f n m) < fracR n m i (winLo f n m i) ∧ fracR n m i (winLo f n m i) - 2 * m ≤ -(reachR f n m) ∧ reachR f n m ≤ fracR n m i (winLo f n m i) + 2 * m * (winHi f n m i - winLo f n m i) ∧ fracR n m i (winLo f n m i) + 2 * m * (winHi f n m i - winLo f n m i - 1) < reachR f n m ∧ ∀ t : Int, fracR n m i (winLo f n m i + t) = fracR n m i (winLo f n m i) + 2 * m * t := by
  obtain ⟨h1, h2, h3, h4, h5, h6, h7, h8⟩ := id h
  obtain ⟨R, hR⟩ : ∃ R, R = reachR f n m := ⟨_, rfl⟩
  obtain ⟨C, hC⟩ : ∃ C, C = 2 * (i * n) + n - m := ⟨_, rfl⟩
  obtain ⟨lo, hlo⟩ : ∃ lo, lo = winLo f n m i := ⟨_, rfl⟩
  obtain ⟨hi, hhi⟩ : ∃ hi, hi = winHi f n m i := ⟨_, rfl⟩
  have l1 : lo = (C - R) / (2 * m) + 1 := by rw [hlo, hC, hR]; unfold winLo; rw [if_neg hf]
  have l2 : hi = cei (C + R) (2 * m) := by rw [hhi, hC, hR]; unfold winHi; rw [if_neg hf]
  rw [← hR, ← hlo, ← hhi]
  have e := Int.mul_ediv_add_emod (C - R) (2 * m)
  have r0 := Int.emod_nonneg (C - R) (show 2 * m ≠ 0 by omega)
  have r1 := Int.emod_lt_of_pos (C - R) (show 0 < 2 * m by omega)
  have k1 := lt_cei (a := C + R) (b := 2 * m) (j := hi) (by omega)
  have k2 := lt_cei (a := C + R) (b := 2 * m) (j := hi - 1) (by omega)
  rw [← l2] at k1 k2
  have k3 : ¬ hi * (2 * m) < C + R := fun q => by have := k1.2 q; omega
  have k4 : (hi - 1) * (2 * m) < C + R := k2.1 (by omega)
  have e1 : (C - R) / (2 * m) = lo - 1 := by omega
  rw [e1] at e
  have fr : ∀ j, fracR n m i j = 2 * m * j - C := by intro j; unfold fracR; rw [hC, Int.mul_assoc]; omega
  have q1 : 2 * m * (lo - 1) = 2 * m * lo - 2 * m := by rw [Int.mul_sub, Int.mul_one]
  have q2 : hi * (2 * m) = 2 * m * hi := Int.mul_comm _ _
  have q3 : (hi - 1) * (2 * m) = 2 * m * hi - 2 * m := by rw [Int.sub_mul, Int.one_mul, q2]
  refine ⟨by rw [fr]; omega, by rw [fr]; omega, ?_, ?_, fun t => ?_⟩
  · rw [fr, Int.mul_sub]; omega
  · rw [fr, Int.mul_sub, Int.mul_sub, Int.mul_one]; omega
  · rw [fr, fr, Int.mul_add]; omega
theorem row_wgt {f n m i A C D P : Int} (L : Int → Int) (h : mayR f n m i) (hf : f ≠ 0) (hL : ∀ j, wV f n m i j = L (fracR n m i j)) (W : Wgt L (2 * mx n m) (reachR f n m) A C D P) (hA : 0 ≤ A) (hC : 0 ≤ C) (hD : 0 ≤ D) :
    ∃ k : Int, 1 ≤ k ∧ k ≤ mx n m ∧ ((winHi f n m i - winLo f n m i).toNat : Int) ≤ 6 * k + 6 ∧ 1 ≤ (winHi f n m i - winLo f n m i).toNat ∧
    psum (fun t => neg (wV f n m i (winLo f n m i + (t : Int)))) (winHi f n m i - winLo f n m i).toNat ≤ C * (2 * (k + 1)) + D * ((winHi f n m i - winLo f n m i).toNat : Int) ∧
    A * k - C * (2 * (k + 1)) - D * ((winHi f n m i - winLo f n m i).toNat : Int) ≤ psum (fun t => wV f n m i (winLo f n m i + (t : Int))) (winHi f n m i - winLo f n m i).toNat ∧
    P - C * (2 * (k + 1)) - D * ((winHi f n m i - winLo f n m i).toNat : Int) ≤ psum (fun t => wV f n m i (winLo f n m i + (t : Int))) (winHi f n m i - winLo f n m i).toNat := by
  have hmid := win_mid h
  obtain ⟨p1, p2, p3, p4, p5⟩ := row_pts h hf
  obtain ⟨h1, h2, h3, h4, h5, h6, h7, h8⟩ := id h
  have hX : n ≤ mx n m ∧ m ≤ mx n m ∧ 1 ≤ mx n m := by unfold mx; split <;> omega
  have hRb : 2 * (2 * mx n m) ≤ reachR f n m ∧ reachR f n m ≤ 3 * (2 * mx n m) := by unfold reachR; split <;> omega
  obtain ⟨c, hc⟩ : ∃ c : Nat, c = (winHi f n m i - winLo f n m i).toNat := ⟨_, rfl⟩
  have hci : (c : Int) = winHi f n m i - winLo f n m i := by omega
  rw [← hc]
  rw [← hci] at p3 p4
  obtain ⟨lo, hlo⟩ : ∃ lo, lo = winLo f n m i := ⟨_, rfl⟩
  obtain ⟨p, hp⟩ : ∃ p, p = fracR n m i lo := ⟨_, rfl⟩
  obtain ⟨X, hXX⟩ : ∃ X, X = mx n m := ⟨_, rfl⟩
  obtain ⟨R, hRR⟩ : ∃ X, X = reachR f n m := ⟨_, rfl⟩
  rw [← hlo] at p1 p2 p3 p4 p5 ⊢
  rw [← hp, ← hRR] at p1 p2 p3 p4
  rw [← hp] at p5
  rw [← hXX, ← hRR] at hRb
  rw [← hXX] at hX ⊢
  rw [← hXX, ← hRR] at W
  have e := Int.mul_ediv_add_emod X m
  have r0 := Int.emod_nonneg X (show m ≠ 0 by omega)
  have r1 := Int.emod_lt_of_pos X (show 0 < m by omega)
  obtain ⟨k, hk⟩ : ∃ k, k = X / m := ⟨_, rfl⟩
  rw [← hk] at e
  have k1 : 1 ≤ k := by rw [hk, Int.le_ediv_iff_mul_le (by omega)]; omega
  have k2 : k ≤ X := by rw [hk]; exact Int.ediv_le_self _ (by omega)
  have e2 : k * (2 * m) = 2 * (m * k) := by rw [Int.mul_comm k, Int.mul_assoc]
  have e3 : (k + 1) * (2 * m) = 2 * (m * k) + 2 * m := by rw [Int.add_mul, e2, Int.one_mul]
  have ws := wgt_sum (c := c) W hA hC hD (by omega) (by omega) (show 1 ≤ 2 * m by omega) (by omega) p1 p2 p3 p4 (show k * (2 * m) ≤ 2 * X by omega) (by omega)
  have fn : ∀ t : Nat, wV f n m i (lo + (t : Int)) = L (pt p (2 * m) t) := fun t => by rw [hL, p5 t]; rfl
  have f1 : (fun t : Nat => wV f n m i (lo + (t : Int))) = fun t => L (pt p (2 * m) t) := funext fn
  have f2 : (fun t : Nat => neg (wV f n m i (lo + (t : Int)))) = fun t => neg (L (pt p (2 * m) t)) := funext fun t => by rw [fn]
  rw [f1, f2]
  refine ⟨k, k1, k2, ?_, by omega, ws.1, ws.2.1, ws.2.2⟩
  have : 2 * m * ((c : Int) - 1) < 2 * m * (6 * k + 6) := by
    have e4 : 2 * m * (6 * k + 6) = 12 * (m * k) + 12 * m := by rw [Int.mul_add, Int.mul_assoc, ← Int.mul_assoc m 6 k, Int.mul_comm m 6, Int.mul_assoc 6]; omega
    omega
  have := Int.lt_of_mul_lt_mul_left this (by omega)
  omega
theorem psum_tel (g : Nat → Int) : ∀ c : Nat, psum (fun t => g (t + 1) - g t) c = g c - g 0
  | 0 => by simp [psum]
  | c + 1 => by rw [psum, psum_tel g c]; omega
theorem row_box {n m i : Int} (h : mayR 0 n m i) (hn : n ≤ 3000) : 1 ≤ (winHi 0 n m i - winLo 0 n m i).toNat ∧ (winHi 0 n m i - winLo 0 n m i).toNat ≤ 3002 ∧ (∀ t : Nat, t < (winHi 0 n m i - winLo 0 n m i).toNat → 0 ≤ wV 0 n m i (winLo 0 n m i + (t : Int)) ∧ wV 0 n m i (winLo 0 n m i + (t : Int)) ≤ 2147483648) ∧ 268435456 ≤ psum (fun t => wV 0 n m i (winLo 0 n m i + (t : Int))) (winHi 0 n m i - winLo 0 n m i).toNat := by
  have hmid := win_mid h
  obtain ⟨h1, h2, h3, h4, h5, h6, h7, h8⟩ := id h
  obtain ⟨lo, hlo⟩ : ∃ lo, lo = winLo 0 n m i := ⟨_, rfl⟩
  obtain ⟨hi, hhi⟩ : ∃ hi, hi = winHi 0 n m i := ⟨_, rfl⟩
  obtain ⟨P, hP⟩ : ∃ P, P = i * n := ⟨_, rfl⟩
  have hP0 : 0 ≤ P := by rw [hP]; exact Int.mul_nonneg h7 (by omega)
  have l1 : lo = P / m := by rw [hlo, hP]; unfold winLo; rw [if_pos rfl]
  have l2 : hi = cei (P + n) m := by rw [hhi, hP]; unfold winHi; rw [if_pos rfl]
  rw [← hlo, ← hhi] at hmid ⊢
  have e := Int.mul_ediv_add_emod P m
  have r0 := Int.emod_nonneg P (show m ≠ 0 by omega)
  have r1 := Int.emod_lt_of_pos P (show 0 < m by omega)
  rw [← l1] at e
  have k1 := fun j => lt_cei (a := P + n) (b := m) (j := j) (by omega)
  rw [← l2] at k1
  obtain ⟨c, hc⟩ : ∃ c : Nat, c = (hi - lo).toNat := ⟨_, rfl⟩
  rw [← hc]
  have hch : (c : Int) = hi - lo := by omega
  have c1 : 1 ≤ c := by omega
  -- how many
  have c2 : c ≤ 3002 := by
    have a := (k1 (hi - 1)).1 (by omega)
    have e1 : (hi - 1) * m = m * lo + m * ((c : Int) - 1) := by rw [← Int.mul_add, Int.mul_comm]; congr 1; omega
    have e2 : m * ((c : Int) - 1) < n + m := by omega
    have e3 : m * ((c : Int) - 1) < m * 3001 := by
      have : 3000 * 1 ≤ 3000 * m := by omega
      omega
    have := Int.lt_of_mul_lt_mul_left e3 (by omega)
    omega
  obtain ⟨g, hg⟩ : ∃ g : Nat → Int, g = fun (t : Nat) => mx P (mn (P + n) ((lo + (t : Int)) * m)) - P := ⟨_, rfl⟩
  have gm : ∀ t : Nat, (lo + ((t + 1 : Nat) : Int)) * m = (lo + (t : Int)) * m + m := fun t => by rw [show lo + ((t + 1 : Nat) : Int) = lo + t + 1 by omega, Int.add_mul, Int.one_mul]
  have pr : ∀ t : Nat, t < c → partR n m i (lo + (t : Int)) = g (t + 1) - g t ∧ 0 ≤ partR n m i (lo + (t : Int)) ∧ partR n m i (lo + (t : Int)) ≤ n := by
    intro t ht
    have a := (k1 (lo + (t : Int))).1 (by omega)
    have b : P < (lo + (t : Int)) * m + m := by
      have : m * lo ≤ m * (lo + (t : Int)) := Int.mul_le_mul_of_nonneg_left (by omega) (by omega)
      rw [Int.mul_comm _ m]; omega
    rw [hg]
    show partR n m i (lo + (t : Int)) = mx P (mn (P + n) ((lo + ((t + 1 : Nat) : Int)) * m)) - P - (mx P (mn (P + n) ((lo + (t : Int)) * m)) - P) ∧ _
    rw [gm t]
    unfold partR
    rw [← hP]
    generalize (lo + (t : Int)) * m = y at a b ⊢
    unfold mx mn
    refine ⟨?_, ?_, ?_⟩
    · split <;> split <;> (try split) <;> (try split) <;> (try split) <;> omega
    · split <;> split <;> omega
    · split <;> split <;> omega
  have wv : ∀ t : Nat, t < c → 0 ≤ wV 0 n m i (lo + (t : Int)) ∧ wV 0 n m i (lo + (t : Int)) ≤ 2147483648 ∧ 2147483648 * partR n m i (lo + (t : Int)) - n ≤ 2 * n * wV 0 n m i (lo + (t : Int)) := by
    intro t ht
    obtain ⟨_, q1, q2⟩ := pr t ht
    unfold wV
    rw [if_pos rfl]
    generalize partR n m i (lo + (t : Int)) = y at q1 q2 ⊢
    have s := rdiv_spec (y * 1073741824) (show 0 < n by omega)
    have n0 := rdiv_nonneg (x := y * 1073741824) (show 0 < n by omega) (by omega)
    have up : rdiv (y * 1073741824) n ≤ 2147483648 := by
      have : 2 * n * rdiv (y * 1073741824) n < 2 * n * 2147483649 := by omega
      have := Int.lt_of_mul_lt_mul_left this (by omega)
      omega
    rw [hold_id (by omega) (by omega)]
    exact ⟨n0, up, by omega⟩
  refine ⟨c1, c2, fun t ht => ⟨(wv t ht).1, (wv t ht).2.1⟩, ?_⟩
  have tot : psum (fun t => partR n m i (lo + (t : Int))) c = n := by
    have e1 : psum (fun t => partR n m i (lo + (t : Int))) c = psum (fun t => g (t + 1) - g t) c := by
      have a := psum_le (f := fun t => partR n m i (lo + (t : Int))) (g := fun t => g (t + 1) - g t) c (fun t ht => Int.le_of_eq (pr t ht).1)
      have b := psum_le (g := fun t => partR n m i (lo + (t : Int))) (f := fun t => g (t + 1) - g t) c (fun t ht => Int.le_of_eq (pr t ht).1.symm)
      omega
    rw [e1, psum_tel, hg]
    show mx P (mn (P + n) ((lo + (c : Int)) * m)) - P - (mx P (mn (P + n) ((lo + ((0 : Nat) : Int)) * m)) - P) = n
    have a := (k1 hi)
    have a2 : ¬ hi * m < P + n := fun q => by have := a.2 q; omega
    rw [show lo + (c : Int) = hi by omega, show lo + ((0 : Nat) : Int) = lo by omega, Int.mul_comm lo m]
    unfold mx mn
    split <;> split <;> (try split) <;> (try split) <;> omega
  have low := psum_le (f := fun t => 2147483648 * partR n m i (lo + (t : Int)) + -n) (g := fun t => 2 * n * wV 0 n m i (lo + (t : Int)) + 0) c (fun t ht => by have := (wv t ht).2.2; omega)
  rw [psum_lin, psum_one, tot, psum_lin, psum_one, Int.neg_mul] at low
  have cn : n * (c : Int) ≤ n * 3002 := Int.mul_le_mul_of_nonneg_left (by omega) (by omega)
  have : 2 * n * 268435456 ≤ 2 * n * psum (fun t => wV 0 n m i (lo + (t : Int))) c := by omega
  exact Int.le_of_mul_le_mul_left this (by omega)
/-- What a row of weights comes to. -/
theorem row_facts {f n m i : Int} (h : mayR f n m i) (hn : n ≤ 3000) (hm : m ≤ 60) : 1 ≤ (winHi f n m i - winLo f n m i).toNat ∧ (winHi f n m i - winLo f n m i).toNat ≤ 18006 ∧ (∀ t : Nat, t < (winHi f n m i - winLo f n m i).toNat → -8589934592 ≤ wV f n m i (winLo f n m i + (t : Int)) ∧ wV f n m i (winLo f n m i + (t : Int)) ≤ 8589934592) ∧ 268435456 ≤ psum (fun t => wV f n m i (winLo f n m i + (t : Int))) (winHi f n m i - winLo f n m i).toNat ∧
    20 * psum (fun t => neg (wV f n m i (winLo f n m i + (t : Int)))) (winHi f n m i - winLo f n m i).toNat ≤ 59 * psum (fun t => wV f n m i (winLo f n m i + (t : Int))) (winHi f n m i - winLo f n m i).toNat := by
  obtain ⟨h1, h2, h3, h4, h5, h6, h7, h8⟩ := id h
  have hX : 1 ≤ mx n m ∧ mx n m ≤ 3000 := by unfold mx; split <;> omega
  have hc : f = 0 ∨ f = 1 ∨ f = 2 := by omega
  rcases hc with rfl | rfl | rfl
  · obtain ⟨a, b, c, d⟩ := row_box h hn
    refine ⟨a, by omega, fun t ht => by have := c t ht; omega, d, ?_⟩
    have z := psum_le (f := fun t => neg (wV 0 n m i (winLo 0 n m i + (t : Int)))) (g := fun _ => 0) (winHi 0 n m i - winLo 0 n m i).toNat (fun t ht => by have := c t ht; unfold neg; rw [if_neg (by omega)]; exact Int.le_refl _)
    rw [psum_one] at z
    omega
  · have hR : reachR 1 n m = 2 * (2 * mx n m) := by unfold reachR; rw [if_pos rfl]; omega
    have W := cub_wgt (q := 2 * mx n m) (by omega) (by omega)
    rw [← hR] at W
    have hp := row_pts h (by decide)
    obtain ⟨k, k1, k2, k3, k4, w1, w2, w3⟩ := row_wgt (f := 1) (fun p => keyV p (2 * mx n m)) h (by decide) (fun j => by unfold wV; rw [if_neg (by decide), if_pos rfl]) W (by decide) (by decide) (by decide)
    refine ⟨k4, by omega, fun t ht => ?_, ?_, ?_⟩
    · have e := hp.2.2.2.2 t
      have a : 2 * m * (t : Int) ≤ 2 * m * (winHi 1 n m i - winLo 1 n m i - 1) := Int.mul_le_mul_of_nonneg_left (by omega) (by omega)
      have b : 0 ≤ 2 * m * (t : Int) := Int.mul_nonneg (by omega) (by omega)
      have g := cub_facts (p := fracR n m i (winLo 1 n m i + (t : Int))) (q := 2 * mx n m) (by omega) (by omega) (by rw [hR] at hp; unfold siz; split <;> omega)
      unfold wV
      rw [if_neg (by decide), if_pos rfl]
      omega
    · by_cases c : k = 1
      · subst c; omega
      · omega
    · by_cases c : k = 1
      · subst c; omega
      · omega
  · have hR : reachR 2 n m = 3 * (2 * mx n m) := by unfold reachR; rw [if_neg (by decide)]; omega
    have W := lan_wgt (q := 2 * mx n m) (by omega) (by omega)
    rw [← hR] at W
    have hp := row_pts h (by decide)
    obtain ⟨k, k1, k2, k3, k4, w1, w2, w3⟩ := row_wgt (f := 2) (fun p => lanV p (2 * mx n m)) h (by decide) (fun j => by unfold wV; rw [if_neg (by decide), if_neg (by decide)]) W (by decide) (by decide) (by decide)
    refine ⟨k4, by omega, fun t ht => ?_, ?_, ?_⟩
    · have e := hp.2.2.2.2 t
      have a : 2 * m * (t : Int) ≤ 2 * m * (winHi 2 n m i - winLo 2 n m i - 1) := Int.mul_le_mul_of_nonneg_left (by omega) (by omega)
      have b : 0 ≤ 2 * m * (t : Int) := Int.mul_nonneg (by omega) (by omega)
      have g := lan_facts (p := fracR n m i (winLo 2 n m i + (t : Int))) (q := 2 * mx n m) (by omega) (by omega) (by rw [hR] at hp; unfold siz; split <;> omega)
      unfold wV
      rw [if_neg (by decide), if_neg (by decide)]
      omega
    · by_cases c : k = 1
      · subst c; omega
      · omega
    · by_cases c : k = 1
      · subst c; omega
      · omega

theorem chk_row {f n m i : Int} (h : mayR f n m i) (hn : n ≤ 3000) (hm : m ≤ 60) : chkV (rowV f n m i) = 0 ∧ (rowV f n m i).length ≤ 18006 ∧ 20 * psum (fun j => neg (rd (rowV f n m i) (j : Int))) (rowV f n m i).length ≤ 59 * psum (fun j => rd (rowV f n m i) (j : Int)) (rowV f n m i).length := by
  obtain ⟨a, b, c, d, e⟩ := row_facts h hn hm
  have hlen := rowV_len f n m i
  have hrd : ∀ j : Nat, j < (winHi f n m i - winLo f n m i).toNat → rd (rowV f n m i) (j : Int) = wV f n m i (winLo f n m i + (j : Int)) := fun j hj => rowV_rd (by omega) (by omega)
  have e1 : psum (fun j => rd (rowV f n m i) (j : Int)) (winHi f n m i - winLo f n m i).toNat = psum (fun t => wV f n m i (winLo f n m i + (t : Int))) (winHi f n m i - winLo f n m i).toNat := psum_congr _ (fun j hj => hrd j hj)
  have e2 : psum (fun j => neg (rd (rowV f n m i) (j : Int))) (winHi f n m i - winLo f n m i).toNat = psum (fun t => neg (wV f n m i (winLo f n m i + (t : Int)))) (winHi f n m i - winLo f n m i).toNat := psum_congr _ (fun j hj => by rw [hrd j hj])
  rw [hlen, e1, e2]
  refine ⟨?_, b, e⟩
  have st := sum_take (rowV f n m i) (by rw [hlen]; omega) (fun j hj => by rw [hlen] at hj; rw [hrd j hj]; have := c j hj; omega) (winHi f n m i - winLo f n m i).toNat (by omega)
  rw [List.take_of_length_le (by omega), e1] at st
  unfold chkV
  rw [hlen, if_neg, if_neg (by rw [st.1]; omega)]
  rintro (g | g | ⟨x, g1, g2⟩)
  · omega
  · omega
  · unfold rowV at g1
    obtain ⟨t, ht, rfl⟩ := List.mem_map.1 g1
    have hb := c t (List.mem_range.1 ht)
    rw [szV_is (by constructor <;> omega)] at g2
    split at g2
    · omega
    · split at g2 <;> omega

theorem szFrom_psum (l : List Int) (hl : l.length ≤ 1048576) (hb : ∀ j, j < l.length → -1073741824 ≤ rd l (j : Int) ∧ rd l (j : Int) ≤ 1073741824) : ∀ i, i ≤ l.length → szFrom 0 (l.take i) = psum (fun j => siz (rd l (j : Int))) i ∧ 0 ≤ psum (fun j => siz (rd l (j : Int))) i ∧ psum (fun j => siz (rd l (j : Int))) i ≤ 1073741824 * (i : Int)
  | 0, _ => by simp [szFrom, psum]
  | i + 1, hi => by
    obtain ⟨h2, h3, h4⟩ := szFrom_psum l hl hb i (by omega)
    have h5 := hb i (by omega)
    have e : l.take (i + 1) = l.take i ++ [rd l (i : Int)] := by
      rw [List.take_add_one, List.getElem?_eq_getElem (by omega)]
      unfold rd
      rw [List.getD_eq_getElem?_getD, show ((i : Int)).toNat = i from by omega, List.getElem?_eq_getElem (by omega)]; rfl
    have es : szV (rd l (i : Int)) = siz (rd l (i : Int)) := by
      rw [szV_is (by constructor <;> omega)]; unfold siz; split
      · rw [if_neg (by omega)]
      · rw [if_neg (by omega), if_pos (by omega)]
    have sb : 0 ≤ siz (rd l (i : Int)) ∧ siz (rd l (i : Int)) ≤ 1073741824 := by unfold siz; split <;> omega
    refine ⟨?_, ?_, ?_⟩
    · rw [e]
      unfold szFrom at h2 ⊢
      rw [List.foldl_append, h2]
      show hold (psum _ i + szV (rd l (i : Int))) = psum _ i + siz (rd l (i : Int))
      rw [es, hold_id (by omega) (by omega)]
    · rw [psum]; omega
    · rw [psum]; omega
/-- All taps together, without sign, of weights that are little below nought. -/
theorem taps_few {l : List Int} (hx : ∀ x ∈ l, I64 x) (hk : chkV l = 0) (hlen : l.length ≤ 18006) (hN : 20 * psum (fun j => neg (rd l (j : Int))) l.length ≤ 59 * psum (fun j => rd l (j : Int)) l.length) : szFrom 0 (appL l) ≤ 131072 ∧ 0 ≤ szFrom 0 (appL l) ∧ psum (fun j => rd (appL l) (j : Int)) (appL l).length = 16384 ∧ sumFrom 0 (appL l) = 16384 := by
  have hG := good_of_chk (fun i => rd_i64 hx _) hk
  obtain ⟨S, s1, _, s3⟩ := appL_prop rfl hG
  have hs := hG.sb
  have hsx := hG.sx
  obtain ⟨s, hss⟩ : ∃ s, s = sumFrom 0 l := ⟨_, rfl⟩
  rw [← hss] at hs hsx s1
  rw [← hsx] at hN
  have hb := (appL_bnd hx hk).2
  have hlen2 := appL_len2 l
  have hbr : ∀ j, j < (appL l).length → -1073741824 ≤ rd (appL l) (j : Int) ∧ rd (appL l) (j : Int) ≤ 1073741824 := by
    intro j hj
    have : rd (appL l) (j : Int) ∈ appL l := by
      unfold rd
      rw [List.getD_eq_getElem?_getD, show ((j : Int)).toNat = j from by omega, List.getElem?_eq_getElem hj]
      exact List.getElem_mem _
    have := hb _ this
    omega
  have sz := szFrom_psum (appL l) (by omega) hbr (appL l).length (Nat.le_refl _)
  have sm := sum_take (appL l) (by omega) (fun j hj => by have := hbr j hj; omega) (appL l).length (Nat.le_refl _)
  rw [List.take_length] at sz sm
  rw [sz.1, sm.1, hlen2, s3]
  refine ⟨?_, by rw [← hlen2]; exact sz.2.1, rfl, rfl⟩
  have each : ∀ j, j < l.length → s * siz (rd (appL l) (j : Int)) ≤ 16384 * rd l (j : Int) + (32768 * neg (rd l (j : Int)) + s) := by
    intro j hj
    have e := Int.mul_ediv_add_emod (rd l (j : Int) * 16384) s
    have r0 := Int.emod_nonneg (rd l (j : Int) * 16384) (show s ≠ 0 by omega)
    have r1 := Int.emod_lt_of_pos (rd l (j : Int) * 16384) (show 0 < s by omega)
    have eq : qV l s j = rd l (j : Int) * 16384 / s := rfl
    rw [← eq] at e
    have em : s * (qV l s j + 1) = s * qV l s j + s := by rw [Int.mul_add, Int.mul_one]
    have hn : rd l (j : Int) ≤ rd l (j : Int) + 2 * neg (rd l (j : Int)) ∧ -(rd l (j : Int)) ≤ rd l (j : Int) + 2 * neg (rd l (j : Int)) := by unfold neg; split <;> omega
    by_cases c : S j
    · rw [((s1 j hj).1 c).1]
      unfold siz
      split
      · rw [Int.mul_neg]; omega
      · omega
    · rw [(s1 j hj).2 c]
      unfold siz
      split
      · rw [Int.mul_neg]; omega
      · omega
  have t := psum_le (f := fun j => s * siz (rd (appL l) (j : Int)) + 0) (g := fun j => 16384 * rd l (j : Int) + (32768 * neg (rd l (j : Int)) + s)) l.length (fun j hj => by have := each j hj; omega)
  rw [psum_lin, psum_one, psum_lin, psum_lin, psum_one, ← hsx] at t
  have cs : s * (l.length : Int) ≤ s * 18006 := Int.mul_le_mul_of_nonneg_left (by omega) (by omega)
  have : s * psum (fun j => siz (rd (appL l) (j : Int))) l.length ≤ s * 131072 := by omega
  exact Int.le_of_mul_le_mul_left this (by omega)

end Go.Proofs.YthaajkpiknbdbaaDoor.QA
