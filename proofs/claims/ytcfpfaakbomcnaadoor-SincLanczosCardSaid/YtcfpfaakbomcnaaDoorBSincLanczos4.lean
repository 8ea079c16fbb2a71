/- Joined by wip/tools/bundle.py out of: TL TLaid. -/
import Derived.Test.YtcfpfaakbomcnaaDoorBSincLanczos0
import Derived.Test.YtcfpfaakbomcnaaDoorBSincLanczos1
import Derived.Test.YtcfpfaakbomcnaaDoorBSincLanczos2
import Derived.Handy
import Derived.Lib.SliceRun
import Derived.Test.YtcfpfaakbomcnaaDoorBSincLanczos3
import Derived.Laws.BitsAllLaws
import Derived.Laws.FloatArith
import Derived.Laws.Cover2
import Derived.Laws.Externs
import Derived.Test.YtcfpfaakbomcnaaDoorRows
import Derived.ProofKit
import Derived.OpenShut
import Derived.LaidMore
import Derived.Lay
import Derived.ChangeSame
namespace Go.Proofs.YtcfpfaakbomcnaaDoor.QA
open Go.RowKit Go.Proofs.YtcfpfaakbomcnaaDoorW.PrintWords Go.Proofs.YtcfpfaakbomcnaaDoorW.PrintLast Go.Proofs.YtcfpfaakbomcnaaDoorW.PrintMore Go.Proofs.YtcfpfaakbomcnaaDoor.T
set_option linter.unusedVariables false
set_option linter.unusedSimpArgs false
theorem fixed_Shift_eq {x n : Int} (hx : I64 x) (hn : I64 n) : fixed_Shift.f x n = some (sh x n) := by
  unfold fixed_Shift.f sh
  by_cases h0 : n ≤ 0
  · rw [if_pos h0, if_pos h0]
  rw [if_neg h0, if_neg h0]
  by_cases h1 : n ≥ 64
  · rw [if_pos h1, rdiv_far (x := x) _ hx]
    calc (18446744073709551616 : Int) = 2 ^ 64 := by decide
      _ ≤ 2 ^ n.toNat := pow_le (by omega)
  rw [if_neg h1, if_pos (by omega), w64_id (show -9223372036854775808 ≤ n - 1 from by omega) (by omega), if_pos (by omega), i64and1, rdiv_pow x n.toNat (by omega)]
  unfold shr
  simp only [IntKind.bits]
  rw [Nat.min_eq_left (by omega), Nat.min_eq_left (by omega)]
  rw [show (n - 1).toNat = n.toNat - 1 from by omega]
  congr 1
  have hp := pow_pos n.toNat
  have h2 : (2 : Int) ≤ 2 ^ n.toNat := by
    calc (2 : Int) = 2 ^ 1 := by decide
      _ ≤ 2 ^ n.toNat := pow_le (by omega)
  have q0 : -4611686018427387904 ≤ x / 2 ^ n.toNat := by
    rw [Int.le_ediv_iff_mul_le hp]
    calc -4611686018427387904 * 2 ^ n.toNat ≤ -4611686018427387904 * 2 := Int.mul_le_mul_of_nonpos_left (by decide) h2
      _ ≤ x := by omega
  have q1 : x / 2 ^ n.toNat < 4611686018427387904 := by
    rw [Int.ediv_lt_iff_lt_mul hp]
    calc x < 4611686018427387904 * 2 := by omega
      _ ≤ 4611686018427387904 * 2 ^ n.toNat := Int.mul_le_mul_of_nonneg_left h2 (by decide)
  exact w64_id (by omega) (by omega)
theorem bits_Mul64_eq {a b : Int} (ha : U64 a) (hb : U64 b) : bits_Mul64.f a b = some (a * b / 18446744073709551616, a * b % 18446744073709551616) := by
  unfold bits_Mul64.f
  rw [if_pos ⟨ha.1, ha.2, hb.1, hb.2⟩]
theorem wide_size_eq {a : Int} (ha : I64 a) : wide_size.f a = some (siz a) := by
  unfold wide_size.f siz
  simp only [u64w]
  split
  · congr 1; omega
  · congr 1; omega
theorem wide_product_eq {a b : Int} (ha : I64 a) (hb : I64 b) : wide_product.f a b = some (siz a * siz b / 18446744073709551616, siz a * siz b % 18446744073709551616, ((decide (a < 0)) != (decide (b < 0)))) := by
  have ua := siz_u ha
  have ub := siz_u hb
  unfold wide_product.f
  rw [wide_size_eq ha, wide_size_eq hb]
  simp only [Option.bind_some]
  rw [bits_Mul64_eq (by omega) (by omega)]
  rfl
theorem wide_signed_eq {k : Nat} (hk : 1 ≤ k) {h l : Int} (hh : U64 h) (hl : U64 l) (b : Bool) : wide_signed.f k h l b = some (hold (sgn b (h * 18446744073709551616 + l))) := by
  obtain ⟨k, rfl⟩ : ∃ n, k = n + 1 := ⟨k - 1, by omega⟩
  unfold wide_signed.f sgn hold
  simp only [wide_signed.j0, u64w]
  cases b
  · simp only [Bool.false_eq_true, if_false]
    rw [if_neg (show ¬ h * 18446744073709551616 + l < -9223372036854775808 from by omega)]
    by_cases c : h > 0
    · rw [if_pos c, if_pos (by omega)]
    · rw [if_neg c]
      by_cases d : l > 9223372036854775807
      · rw [if_pos d, if_pos (by omega)]
      · rw [if_neg d, if_neg (by omega)]; congr 1; unfold wrap64; omega
  · simp only [if_true]
    by_cases c : h > 0
    · rw [if_pos c, if_pos (by omega)]
    · rw [if_neg c]
      by_cases d : l > 9223372036854775808
      · rw [if_pos (decide_eq_true d), if_pos (by omega)]
      · rw [if_neg (show ¬ (decide (l > 9223372036854775808) = true) from by simpa using d), if_neg (by omega), if_neg (by omega)]; congr 1; unfold wrap64; omega
theorem bitLen_spec : ∀ x : Nat, x ≠ 0 → x < 18446744073709551616 → ∃ m, Lib.bitLen x = m + 1 ∧ 2 ^ m ≤ x ∧ x < 2 ^ (m + 1) ∧ m ≤ 63 := by
  intro x
  induction x using Nat.strongRecOn with
  | ind x ih =>
    intro h0 h1
    rw [Lib.bitLen_half x h0 (by have : (2 : Nat) ^ 64 = 18446744073709551616 := by decide
                                 omega)]
    by_cases h : x / 2 = 0
    · refine ⟨0, ?_, by simp; omega, by simp; omega, by decide⟩
      rw [h]; rfl
    · obtain ⟨m, e, a, b, c⟩ := ih (x / 2) (by omega) h (by omega)
      have hp := Nat.pow_succ (n := 2) (m := m)
      have hp2 := Nat.pow_succ (n := 2) (m := m + 1)
      refine ⟨m + 1, by rw [e]; omega, by omega, by omega, ?_⟩
      refine Nat.le_of_not_lt fun hm => ?_
      have : (2 : Nat) ^ 64 ≤ 2 ^ (m + 1) := Nat.pow_le_pow_right (by decide) (by omega)
      have e64 : (2 : Nat) ^ 64 = 18446744073709551616 := by decide
      omega
/-- A quotient's digit, guessed: too great. -/
theorem knuth_down {y1 y0 u v q r Q y : Int} (hy : y = y1 * 4294967296 + y0) (y00 : 0 ≤ y0) (hy1 : 0 < y1)
    (hQ0 : Q * y ≤ u * 4294967296 + v) (huv : u < y) (hv : v < 4294967296) (hq : q * y1 + r = u) (hc : q ≥ 4294967296 ∨ q * y0 > 4294967296 * r + v) : Q ≤ q - 1 := by
  have hyp : 0 < y := by omega
  refine Int.le_of_lt_add_one ?_
  rw [Int.sub_add_cancel]
  refine Int.lt_of_not_ge fun hle => ?_
  rcases hc with hc | hc
  · have h1 : 4294967296 * y ≤ Q * y := Int.mul_le_mul_of_nonneg_right (by omega) (by omega)
    omega
  · have h1 : q * y ≤ Q * y := Int.mul_le_mul_of_nonneg_right hle (by omega)
    have h2 : q * y = q * y1 * 4294967296 + q * y0 := by rw [hy, Int.mul_add, Int.mul_assoc]
    generalize q * y1 = p at *
    generalize q * y0 = s at *
    generalize q * y = t at *
    omega
theorem knuth_le {y1 y0 u v q r Q y : Int} (hy : y = y1 * 4294967296 + y0) (hyp : 0 < y) (hQ1 : u * 4294967296 + v < (Q + 1) * y)
    (hle : q * y ≤ u * 4294967296 + v) : q ≤ Q := by
  refine Int.le_of_lt_add_one ?_
  refine Int.lt_of_not_ge fun h => ?_
  have h1 : (Q + 1) * y ≤ q * y := Int.mul_le_mul_of_nonneg_right h (by omega)
  omega
theorem knuth_stop {y1 y0 u v q r Q y : Int} (hy : y = y1 * 4294967296 + y0) (hyp : 0 < y) (hQ1 : u * 4294967296 + v < (Q + 1) * y) (hv : 0 ≤ v)
    (hq : q * y1 + r = u) (hc : (q * y0 ≤ 4294967296 * r + v) ∨ (0 ≤ y0 ∧ y0 < 4294967296 ∧ 0 ≤ q ∧ q ≤ 4294967296 ∧ r ≥ 4294967296)) : q ≤ Q := by
  refine knuth_le (y1 := y1) (y0 := y0) (r := r) hy hyp hQ1 ?_
  have h2 : q * y = q * y1 * 4294967296 + q * y0 := by rw [hy, Int.mul_add, Int.mul_assoc]
  rcases hc with hc | ⟨a, b, c, d, e⟩
  · generalize q * y1 = p at *
    generalize q * y0 = s at *
    generalize q * y = t at *
    omega
  · have h3 : q * y0 ≤ 4294967296 * 4294967296 := Int.mul_le_mul d (by omega) a (by decide)
    generalize q * y1 = p at *
    generalize q * y0 = s at *
    generalize q * y = t at *
    omega
theorem knuth_first {y1 y0 u y : Int} (hy : y = y1 * 4294967296 + y0) (y00 : y0 < 4294967296) (hy1 : 2147483648 ≤ y1) (hu : u < y) : u / y1 ≤ 4294967297 := by
  refine Int.le_of_lt_add_one ?_
  rw [Int.ediv_lt_iff_lt_mul (by omega)]
  omega
theorem Div64_l0 (y s y1 y0 u v w Q : Int) (hy : y = y1 * 4294967296 + y0) (y00 : 0 ≤ y0 ∧ y0 < 4294967296) (hy1 : 2147483648 ≤ y1 ∧ y1 < 4294967296) (hu : 0 ≤ u ∧ u < y) (hv : 0 ≤ v ∧ v < 4294967296)
    (hQ0 : Q * y ≤ u * 4294967296 + v) (hQ1 : u * 4294967296 + v < (Q + 1) * y) : ∀ (n k : Nat) (q r : Int), 4294967296 ≤ n * 2147483648 + r → 0 ≤ r → r < 4294967296 → 2 * n + 4 ≤ k → q * y1 + r = u → Q ≤ q → 0 ≤ Q → q ≤ 4294967297 →
    ∃ k', k ≤ k' + 2 * n + 4 ∧ bits_Div64.l0 k y s y1 y0 u v w q r = bits_Div64.j2 k' y s y1 y0 u v w Q := by
  intro n
  induction n with
  | zero => intro k q r h0 h1 h2; omega
  | succ n ih =>
    intro k q r h0 hr0 hr1 hk hq hQ hQ00 hqb
    obtain ⟨k, rfl⟩ : ∃ m, k = m + 2 := ⟨k - 2, by omega⟩
    rw [bits_Div64.l0]
    have up : (q ≥ 4294967296 ∨ q * y0 > 4294967296 * r + v) → ∃ k', k + 2 ≤ k' + 2 * (n + 1) + 4 ∧ bits_Div64.j1 (k + 1) y s y1 y0 u v w q r true = bits_Div64.j2 k' y s y1 y0 u v w Q := by
      intro hc
      have hd := knuth_down hy y00.1 (by omega) hQ0 hu.2 hv.2 hq hc
      have hq' : (q - 1) * y1 + (r + y1) = u := by rw [Int.sub_mul, Int.one_mul]; omega
      rw [bits_Div64.j1, if_pos rfl, u64w, u64w, show (r + y1) % 18446744073709551616 = r + y1 from by omega, show (q - 1) % 18446744073709551616 = q - 1 from by omega]
      by_cases hc2 : r + y1 ≥ 4294967296
      · rw [if_pos hc2]
        have hs := knuth_stop hy (by omega) hQ1 hv.1 hq' (Or.inr ⟨y00.1, y00.2, by omega, by omega, hc2⟩)
        exact ⟨k, by omega, by rw [show Q = q - 1 from by omega]⟩
      · rw [if_neg hc2]
        obtain ⟨k', a, b⟩ := ih k (q - 1) (r + y1) (by omega) (by omega) (by omega) (by omega) hq' hd hQ00 (by omega)
        exact ⟨k', by omega, b⟩
    by_cases hc1 : q ≥ 4294967296
    · rw [if_pos hc1]; exact up (Or.inl hc1)
    · rw [if_neg hc1]
      have p0 : 0 ≤ q * y0 := Int.mul_nonneg (by omega) y00.1
      have p1 : q * y0 ≤ 4294967295 * 4294967295 := Int.mul_le_mul (by omega) (by omega) y00.1 (by decide)
      simp only [u64w]
      rw [show (q * y0) % 18446744073709551616 = q * y0 from by omega, show ((4294967296 * r) % 18446744073709551616 + v) % 18446744073709551616 = 4294967296 * r + v from by omega]
      by_cases hc2 : q * y0 > 4294967296 * r + v
      · rw [decide_eq_true hc2]; exact up (Or.inr hc2)
      · rw [decide_eq_false hc2, bits_Div64.j1, if_neg (by decide)]
        have hs := knuth_stop hy (by omega) hQ1 hv.1 hq (Or.inl (by omega))
        exact ⟨k, by omega, by rw [show Q = q from by omega]⟩
theorem Div64_l1 (y s y1 y0 w q1 u Q : Int) (hy : y = y1 * 4294967296 + y0) (y00 : 0 ≤ y0 ∧ y0 < 4294967296) (hy1 : 2147483648 ≤ y1 ∧ y1 < 4294967296) (hu : 0 ≤ u ∧ u < y) (hw : 0 ≤ w ∧ w < 4294967296) (hs : 0 ≤ s ∧ s ≤ 63) (hq1 : 0 ≤ q1 ∧ q1 < 4294967296)
    (hQ0 : Q * y ≤ u * 4294967296 + w) (hQ1 : u * 4294967296 + w < (Q + 1) * y) (hQb : Q < 4294967296) : ∀ (n k : Nat) (q r : Int), 4294967296 ≤ n * 2147483648 + r → 0 ≤ r → r < 4294967296 → 2 * n + 4 ≤ k → q * y1 + r = u → Q ≤ q → 0 ≤ Q → q ≤ 4294967297 →
    bits_Div64.l1 k y s y1 y0 w q1 r u q = some (q1 * 4294967296 + Q, (u * 4294967296 + w - Q * y) / 2 ^ s.toNat) := by
  intro n
  have fin : Q * y ≤ u * 4294967296 + w → (q1 * 4294967296 % 18446744073709551616 + Q) % 18446744073709551616 = q1 * 4294967296 + Q ∨ Q < 0 := by
    intro _
    by_cases h : Q < 0
    · exact Or.inr h
    · left; omega
  have sub : ((u * 4294967296 % 18446744073709551616 + w) % 18446744073709551616 - Q * y % 18446744073709551616) % 18446744073709551616 = u * 4294967296 + w - Q * y := by
    have h1 : (Q + 1) * y = Q * y + y := by rw [Int.add_mul, Int.one_mul]
    rw [h1] at hQ1
    have hyb : y < 18446744073709551616 := by omega
    generalize Q * y = p at *
    omega
  have shs : ∀ x : Int, shr .u64 x s = x / 2 ^ s.toNat := by
    intro x; unfold shr; simp only [IntKind.bits]; rw [Nat.min_eq_left (by omega)]
  induction n with
  | zero => intro k q r h0 h1 h2; omega
  | succ n ih =>
    intro k q r h0 hr0 hr1 hk hq hQ hQ00 hqb
    obtain ⟨k, rfl⟩ : ∃ m, k = m + 2 := ⟨k - 2, by omega⟩
    rw [bits_Div64.l1]
    have up : (q ≥ 4294967296 ∨ q * y0 > 4294967296 * r + w) → bits_Div64.j4 (k + 1) y s y1 y0 w q1 r u q true = some (q1 * 4294967296 + Q, (u * 4294967296 + w - Q * y) / 2 ^ s.toNat) := by
      intro hc
      have hd := knuth_down hy y00.1 (by omega) hQ0 hu.2 hw.2 hq hc
      have hq' : (q - 1) * y1 + (r + y1) = u := by rw [Int.sub_mul, Int.one_mul]; omega
      rw [bits_Div64.j4, if_pos rfl]
      simp only [u64w]
      rw [show (r + y1) % 18446744073709551616 = r + y1 from by omega, show (q - 1) % 18446744073709551616 = q - 1 from by omega]
      by_cases hc2 : r + y1 ≥ 4294967296
      · rw [if_pos hc2]
        have hs' := knuth_stop hy (by omega) hQ1 hw.1 hq' (Or.inr ⟨y00.1, y00.2, by omega, by omega, hc2⟩)
        rw [show q - 1 = Q from by omega, if_pos hs.1, shs, sub]
        congr 2
        rcases fin hQ0 with h | h <;> omega
      · rw [if_neg hc2]
        exact ih k (q - 1) (r + y1) (by omega) (by omega) (by omega) (by omega) hq' hd hQ00 (by omega)
    by_cases hc1 : q ≥ 4294967296
    · rw [if_pos hc1]; exact up (Or.inl hc1)
    · rw [if_neg hc1]
      have p0 : 0 ≤ q * y0 := Int.mul_nonneg (by omega) y00.1
      have p1 : q * y0 ≤ 4294967295 * 4294967295 := Int.mul_le_mul (by omega) (by omega) y00.1 (by decide)
      simp only [u64w]
      rw [show (q * y0) % 18446744073709551616 = q * y0 from by omega, show ((4294967296 * r) % 18446744073709551616 + w) % 18446744073709551616 = 4294967296 * r + w from by omega]
      by_cases hc2 : q * y0 > 4294967296 * r + w
      · rw [decide_eq_true hc2]; exact up (Or.inr hc2)
      · rw [decide_eq_false hc2, bits_Div64.j4, if_neg (by decide)]
        have hs' := knuth_stop hy (by omega) hQ1 hw.1 hq (Or.inl (by omega))
        simp only [u64w]
        rw [show q = Q from by omega, if_pos hs.1, shs, sub]
        congr 2
        rcases fin hQ0 with h | h <;> omega
theorem ediv_bounds (a : Int) {b : Int} (hb : 0 < b) : a / b * b ≤ a ∧ a < (a / b + 1) * b := by
  have e := Int.mul_ediv_add_emod a b
  have r0 := Int.emod_nonneg a (show b ≠ 0 from by omega)
  have r1 := Int.emod_lt_of_pos a hb
  rw [Int.mul_comm] at e
  rw [Int.add_mul, Int.one_mul]
  constructor <;> omega
theorem Div64_norm {k : Nat} (hk : 30 ≤ k) {y s y1 y0 u v w : Int} (hy : y = y1 * 4294967296 + y0) (y00 : 0 ≤ y0 ∧ y0 < 4294967296) (hy1 : 2147483648 ≤ y1 ∧ y1 < 4294967296) (hu : 0 ≤ u ∧ u < y) (hv : 0 ≤ v ∧ v < 4294967296) (hw : 0 ≤ w ∧ w < 4294967296) (hs : 0 ≤ s ∧ s ≤ 63) :
    bits_Div64.l0 k y s y1 y0 u v w (u / y1) (u - u / y1 * y1) = some ((u * 18446744073709551616 + (v * 4294967296 + w)) / y, (u * 18446744073709551616 + (v * 4294967296 + w)) % y / 2 ^ s.toNat) := by
  have hyp : 0 < y := by omega
  have e1 := ediv_bounds u (show 0 < y1 from by omega)
  have e1' : (u / y1 + 1) * y1 = u / y1 * y1 + y1 := by rw [Int.add_mul, Int.one_mul]
  have b1 := ediv_bounds (u * 4294967296 + v) hyp
  have q0 : 0 ≤ (u * 4294967296 + v) / y := Int.ediv_nonneg (by omega) (by omega)
  have q0b : (u * 4294967296 + v) / y < 4294967296 := by rw [Int.ediv_lt_iff_lt_mul hyp]; omega
  have q1 : (u * 4294967296 + v) / y ≤ u / y1 := by
    refine Int.le_of_lt_add_one ?_
    rw [Int.ediv_lt_iff_lt_mul hyp, hy]
    have h0 : 0 ≤ u / y1 := Int.ediv_nonneg hu.1 (by omega)
    have h1 : 0 ≤ (u / y1 + 1) * y0 := Int.mul_nonneg (by omega) y00.1
    have h2 : (u / y1 + 1) * (y1 * 4294967296 + y0) = (u / y1 + 1) * y1 * 4294967296 + (u / y1 + 1) * y0 := by rw [Int.mul_add, Int.mul_assoc]
    rw [h2]
    generalize (u / y1 + 1) * y0 = a at *
    generalize (u / y1 + 1) * y1 = b at *
    omega
  obtain ⟨k', hk', h⟩ := Div64_l0 y s y1 y0 u v w ((u * 4294967296 + v) / y) hy y00 hy1 hu hv b1.1 b1.2 2 k (u / y1) (u - u / y1 * y1) (by omega) (by omega) (by omega) (by omega) (by omega) q1 q0 (knuth_first hy y00.2 hy1.1 hu.2)
  rw [h]
  obtain ⟨k', rfl⟩ : ∃ m, k' = m + 1 := ⟨k' - 1, by omega⟩
  have eu := Int.mul_ediv_add_emod (u * 4294967296 + v) y
  have m0 := Int.emod_nonneg (u * 4294967296 + v) (show y ≠ 0 from by omega)
  have m1 := Int.emod_lt_of_pos (u * 4294967296 + v) hyp
  have big : u * 18446744073709551616 + (v * 4294967296 + w) = (u * 4294967296 + v) * 4294967296 + w := by omega
  rw [big]
  generalize (u * 4294967296 + v) / y = Q1 at *
  generalize (u * 4294967296 + v) % y = U at *
  rw [bits_Div64.j2, if_neg (by omega)]
  have eU : IntKind.u64.wrap ((IntKind.u64.wrap ((IntKind.u64.wrap (u * 4294967296)) + v)) - (IntKind.u64.wrap (Q1 * y))) = U := by
    simp only [u64w]
    rw [Int.mul_comm Q1 y]
    generalize y * Q1 = p at *
    omega
  simp only [eU]
  have f1 := ediv_bounds U (show 0 < y1 from by omega)
  have f1' : (U / y1 + 1) * y1 = U / y1 * y1 + y1 := by rw [Int.add_mul, Int.one_mul]
  have f0 : 0 ≤ U / y1 := Int.ediv_nonneg m0 (by omega)
  have fb : U / y1 ≤ 4294967297 := knuth_first hy y00.2 hy1.1 m1
  have et : IntKind.u64.wrap (Int.tdiv U y1) = U / y1 := by rw [Int.tdiv_eq_ediv_of_nonneg m0, u64w]; omega
  have er : IntKind.u64.wrap (U - IntKind.u64.wrap (U / y1 * y1)) = U - U / y1 * y1 := by simp only [u64w]; omega
  rw [et, er]
  have c1 := ediv_bounds (U * 4294967296 + w) hyp
  have g0 : 0 ≤ (U * 4294967296 + w) / y := Int.ediv_nonneg (by omega) (by omega)
  have g0b : (U * 4294967296 + w) / y < 4294967296 := by rw [Int.ediv_lt_iff_lt_mul hyp]; omega
  have g1 : (U * 4294967296 + w) / y ≤ U / y1 := by
    refine Int.le_of_lt_add_one ?_
    rw [Int.ediv_lt_iff_lt_mul hyp, hy]
    have h1 : 0 ≤ (U / y1 + 1) * y0 := Int.mul_nonneg (by omega) y00.1
    have h2 : (U / y1 + 1) * (y1 * 4294967296 + y0) = (U / y1 + 1) * y1 * 4294967296 + (U / y1 + 1) * y0 := by rw [Int.mul_add, Int.mul_assoc]
    rw [h2]
    generalize (U / y1 + 1) * y0 = a at *
    generalize (U / y1 + 1) * y1 = b at *
    omega
  rw [Div64_l1 y s y1 y0 w Q1 U ((U * 4294967296 + w) / y) hy y00 hy1 ⟨m0, m1⟩ hw hs ⟨q0, q0b⟩ c1.1 c1.2 g0b 2 k' (U / y1) (U - U / y1 * y1) (by omega) (by omega) (by omega) (by omega) (by omega) g1 g0 fb]
  have eW := Int.mul_ediv_add_emod (U * 4294967296 + w) y
  have n0 := Int.emod_nonneg (U * 4294967296 + w) (show y ≠ 0 from by omega)
  have n1 := Int.emod_lt_of_pos (U * 4294967296 + w) hyp
  obtain ⟨z1, z2⟩ := div_unique (a := (u * 4294967296 + v) * 4294967296 + w) (d := y) (q := Q1 * 4294967296 + (U * 4294967296 + w) / y) (r := (U * 4294967296 + w) % y) (by
    rw [Int.add_mul, Int.mul_right_comm, Int.mul_comm Q1 y, Int.mul_comm ((U * 4294967296 + w) / y) y]
    generalize y * Q1 = a at *
    generalize y * ((U * 4294967296 + w) / y) = b at *
    omega) n0 n1
  rw [z1, z2]
  congr 3
  rw [Int.mul_comm ((U * 4294967296 + w) / y) y]; omega
theorem bits_Div64_eq {k : Nat} (hk : 30 ≤ k) {hi lo y : Int} (hy : 0 < y ∧ y < 18446744073709551616) (hhi : 0 ≤ hi ∧ hi < y) (hlo : U64 lo) :
    bits_Div64.f k hi lo y = some ((hi * 18446744073709551616 + lo) / y, (hi * 18446744073709551616 + lo) % y) := by
  unfold bits_Div64.f
  rw [if_neg (by omega), if_neg (by omega)]
  by_cases h0 : hi = 0
  · rw [if_pos h0, h0, Int.tdiv_eq_ediv_of_nonneg hlo.1, Int.tmod_eq_emod_of_nonneg hlo.1, u64w]
    have a : 0 ≤ lo / y := Int.ediv_nonneg hlo.1 (by omega)
    have b : lo / y ≤ lo := Int.ediv_le_self _ hlo.1
    rw [show 0 * 18446744073709551616 + lo = lo from by omega, show lo / y % 18446744073709551616 = lo / y from by omega]
  rw [if_neg h0]
  obtain ⟨m, em, ma, mb, mc⟩ := bitLen_spec y.toNat (by omega) (by omega)
  unfold bits_LeadingZeros64.f
  rw [if_pos (by omega), if_pos (by omega), em]
  simp only [Option.bind_some]
  obtain ⟨s, hs⟩ : ∃ s : Nat, s = 63 - m := ⟨_, rfl⟩
  have e1 : IntKind.u64.wrap (64 - ((m + 1 : Nat) : Int)) = (s : Int) := by rw [u64w]; omega
  have e2 : IntKind.u64.wrap (64 - (s : Int)) = ((64 - s : Nat) : Int) := by rw [u64w]; omega
  rw [e1, e2, if_pos (by omega), if_pos (by omega)]
  have hp := pow_pos s
  have ma' : (2 : Int) ^ m ≤ y := by
    have : ((2 ^ m : Nat) : Int) ≤ (y.toNat : Int) := Int.ofNat_le.2 ma
    rw [Int.natCast_pow] at this
    rw [Int.toNat_of_nonneg (by omega)] at this; exact this
  have mb' : y < (2 : Int) ^ (m + 1) := by
    have : (y.toNat : Int) < ((2 ^ (m + 1) : Nat) : Int) := Int.ofNat_lt.2 mb
    rw [Int.natCast_pow] at this
    rw [Int.toNat_of_nonneg (by omega)] at this; exact this
  have p63 : (2 : Int) ^ m * 2 ^ s = 9223372036854775808 := by rw [← Int.pow_add, show m + s = 63 from by omega]; decide
  have p64 : (2 : Int) ^ (m + 1) * 2 ^ s = 18446744073709551616 := by rw [← Int.pow_add, show m + 1 + s = 64 from by omega]; decide
  have p64' : (2 : Int) ^ (64 - s) * 2 ^ s = 18446744073709551616 := by rw [← Int.pow_add, show 64 - s + s = 64 from by omega]; decide
  have y63 : 9223372036854775808 ≤ y * 2 ^ s := by rw [← p63]; exact Int.mul_le_mul_of_nonneg_right ma' (by omega)
  have y64 : y * 2 ^ s < 18446744073709551616 := by rw [← p64]; exact Int.mul_lt_mul_of_pos_right mb' hp
  have eshl : ∀ x : Int, shl .u64 x (s : Int) = (x * 2 ^ s) % 18446744073709551616 := by
    intro x; unfold shl; simp only [IntKind.bits]; rw [u64w, show ((s : Int)).toNat = s from by omega, Nat.min_eq_left (by omega)]
  have eshr : ∀ x : Int, shr .u64 x ((64 - s : Nat) : Int) = x / 2 ^ (64 - s) := by
    intro x; unfold shr; simp only [IntKind.bits]; rw [show (((64 - s : Nat) : Int)).toNat = 64 - s from by omega, Nat.min_eq_left (by omega)]
  have hh : hi * 2 ^ s + 2 ^ s ≤ y * 2 ^ s := by
    have : (hi + 1) * 2 ^ s ≤ y * 2 ^ s := Int.mul_le_mul_of_nonneg_right (by omega) (by omega)
    rw [Int.add_mul, Int.one_mul] at this; exact this
  have hh0 : 0 ≤ hi * 2 ^ s := Int.mul_nonneg hhi.1 (by omega)
  rw [eshl, eshl, eshl, eshr, Int.emod_eq_of_lt (show 0 ≤ y * 2 ^ s from by omega) y64, Int.emod_eq_of_lt hh0 (by omega)]
  have lp := pow_pos (64 - s)
  have l1 : lo / 2 ^ (64 - s) < 2 ^ s := by
    rw [Int.ediv_lt_iff_lt_mul lp, Int.mul_comm, p64']; exact hlo.2
  have l0 : 0 ≤ lo / 2 ^ (64 - s) := Int.ediv_nonneg hlo.1 (by omega)
  have ejoin : Go.bits .or .u64 (hi * 2 ^ s) (lo / 2 ^ (64 - s)) = hi * 2 ^ s + lo / 2 ^ (64 - s) := by
    have e64 : (2 : Int) ^ 64 = 18446744073709551616 := by decide
    exact bits_join .u64 64 (by decide) (fun n h0 h1 => by rw [u64w]; omega) s _ _ hh0 (Int.mul_emod_left _ _) (by omega) l0 l1 (by omega)
  rw [ejoin, u64and32, u64and32]
  have elo : lo / 2 ^ (64 - s) * 18446744073709551616 + lo * 2 ^ s % 18446744073709551616 = lo * 2 ^ s := by
    have e := Int.mul_ediv_add_emod (lo * 2 ^ s) 18446744073709551616
    have : lo * 2 ^ s / 18446744073709551616 = lo / 2 ^ (64 - s) := by
      rw [← p64', Int.mul_ediv_mul_of_pos_left _ _ hp]
    rw [this] at e; omega
  have t0 : 0 ≤ lo * 2 ^ s % 18446744073709551616 ∧ lo * 2 ^ s % 18446744073709551616 < 18446744073709551616 := by omega
  have big : (hi * 18446744073709551616 + lo) * 2 ^ s = (hi * 2 ^ s + lo / 2 ^ (64 - s)) * 18446744073709551616 + lo * 2 ^ s % 18446744073709551616 := by
    rw [Int.add_mul, Int.add_mul, Int.mul_right_comm]; omega
  have res1 : (hi * 18446744073709551616 + lo) / y = (hi * 18446744073709551616 + lo) * 2 ^ s / (y * 2 ^ s) := (Int.mul_ediv_mul_of_pos_left _ _ hp).symm
  have res2 : (hi * 18446744073709551616 + lo) % y = (hi * 18446744073709551616 + lo) * 2 ^ s % (y * 2 ^ s) / 2 ^ s := by
    rw [Int.mul_comm (hi * 18446744073709551616 + lo), Int.mul_comm y, Int.mul_emod_mul_of_pos _ _ hp, Int.mul_ediv_cancel_left _ (by omega)]
  rw [res1, res2, big]
  clear res1 res2 big elo ejoin
  have hu00 : 0 ≤ hi * 2 ^ s + lo / 2 ^ (64 - s) ∧ hi * 2 ^ s + lo / 2 ^ (64 - s) < y * 2 ^ s := by omega
  generalize hi * 2 ^ s + lo / 2 ^ (64 - s) = u at *
  generalize lo * 2 ^ s % 18446744073709551616 = T at *
  generalize hY : y * 2 ^ s = Y at *
  have hu : 0 ≤ u ∧ u < Y := hu00
  have hy1 : 0 < Y / 4294967296 := by omega
  have uq := ediv_bounds u hy1
  have uq' : (u / (Y / 4294967296) + 1) * (Y / 4294967296) = u / (Y / 4294967296) * (Y / 4294967296) + Y / 4294967296 := by rw [Int.add_mul, Int.one_mul]
  have uq0 : 0 ≤ u / (Y / 4294967296) := Int.ediv_nonneg hu.1 (by omega)
  have uq1 : u / (Y / 4294967296) ≤ u := Int.ediv_le_self _ hu.1
  have et : IntKind.u64.wrap (Int.tdiv u (Y / 4294967296)) = u / (Y / 4294967296) := by rw [Int.tdiv_eq_ediv_of_nonneg hu.1, u64w]; omega
  have er : IntKind.u64.wrap (u - IntKind.u64.wrap (u / (Y / 4294967296) * (Y / 4294967296))) = u - u / (Y / 4294967296) * (Y / 4294967296) := by simp only [u64w]; omega
  rw [if_neg (by omega), et, er]
  have h := Div64_norm hk (y := Y) (s := (s : Int)) (y1 := Y / 4294967296) (y0 := Y % 4294967296) (u := u) (v := T / 4294967296) (w := T % 4294967296) (by omega) (by omega) (by omega) hu (by omega) (by omega) (by omega)
  rw [h, show T / 4294967296 * 4294967296 + T % 4294967296 = T from by omega, show ((s : Int)).toNat = s from by omega]
theorem add64_u {x y : Int} (hx : U64 x) (hy : U64 y) : add64s x y 0 = (x + y) % 18446744073709551616 ∧ add64c x y 0 = (x + y) / 18446744073709551616 := by
  unfold add64s add64c
  constructor <;> (simp only [Int.toNat_zero]; omega)
theorem hold_big {b : Bool} {m n : Int} (hm : 9223372036854775808 ≤ m) (hn : 9223372036854775808 ≤ n) : hold (sgn b m) = hold (sgn b n) := by
  unfold hold sgn
  cases b
  · simp only [Bool.false_eq_true, if_false]; rw [if_neg (by omega), if_pos (by omega), if_neg (by omega), if_pos (by omega)]
  · simp only [if_true]
    by_cases h1 : m = 9223372036854775808
    · by_cases h2 : n = 9223372036854775808
      · rw [h1, h2]
      · rw [if_neg (by omega), if_neg (by omega), if_pos (by omega)]; omega
    · by_cases h2 : n = 9223372036854775808
      · rw [if_pos (by omega), if_neg (by omega), if_neg (by omega)]; omega
      · rw [if_pos (by omega), if_pos (by omega)]
theorem wide_MulDiv_eq {k : Nat} (hk : 40 ≤ k) {a b d : Int} (ha : I64 a) (hb : I64 b) (hd : I64 d) : wide_MulDiv.f k a b d = some (hold (rdiv (a * b) d)) := by
  unfold wide_MulDiv.f
  by_cases hd0 : d = 0
  · rw [if_pos hd0, hd0]; simp [rdiv, hold]
  have ua := siz_u ha
  have ub := siz_u hb
  have ud := siz_u hd
  have ud0 : siz d ≠ 0 := fun h => hd0 (siz_zero.1 h)
  rw [if_neg hd0, wide_product_eq ha hb, wide_size_eq hd]
  simp only [Option.bind_some]
  have p0 := Int.mul_nonneg ua.1 ub.1
  have p1 : siz a * siz b ≤ 9223372036854775808 * 9223372036854775808 := Int.mul_le_mul ua.2 ub.2 ub.1 (by decide)
  have e0 := sgn_siz2 a b
  have es := sgn_xor ((decide (a < 0)) != (decide (b < 0))) d (siz a * siz b) hd0
  rw [e0] at es
  rw [← es]
  generalize siz a * siz b = p at *
  generalize ((decide (a < 0)) != (decide (b < 0))) = s0 at *
  generalize (s0 != decide (d < 0)) = s at *
  generalize siz d = D at *
  have q0 : 0 ≤ p / D := Int.ediv_nonneg p0 (by omega)
  have eqp := ediv_bounds p (show 0 < D from by omega)
  rw [rdiv_sgn s p0 (by omega)]
  by_cases c : p / 18446744073709551616 ≥ D
  · rw [if_pos c, wide_signed_eq (by omega) (by omega) (by omega)]
    simp only [Option.bind_some]
    congr 1
    have big : 18446744073709551616 ≤ p / D := by
      rw [Int.le_ediv_iff_mul_le (by omega)]; omega
    refine hold_big (by omega) ?_
    cases s <;> (simp only [Bool.false_eq_true, if_false, if_true]; split <;> omega)
  · rw [if_neg c, bits_Div64_eq (by omega) (by omega) (by omega) (by omega)]
    simp only [Option.bind_some]
    rw [show p / 18446744073709551616 * 18446744073709551616 + p % 18446744073709551616 = p from by omega]
    have r0 := Int.emod_nonneg p (show D ≠ 0 from by omega)
    have r1 := Int.emod_lt_of_pos p (show 0 < D from by omega)
    have qb : p / D < 18446744073709551616 := by rw [Int.ediv_lt_iff_lt_mul (by omega)]; omega
    generalize p % D = r at *
    generalize p / D = q at *
    rw [u64w, show (D - r) % 18446744073709551616 = D - r from by omega]
    obtain ⟨k, rfl⟩ : ∃ n, k = n + 1 := ⟨k - 1, by omega⟩
    have up : ∀ s, wide_MulDiv.j0 (k + 1) s q 0 true = some (hold (sgn s (q + 1))) := by
      intro s
      obtain ⟨x1, x2⟩ := add64_u (x := q) (y := 1) (by omega) (by omega)
      rw [wide_MulDiv.j0, if_pos rfl, x1, x2, wide_signed_eq (by omega) (by omega) (by omega)]
      simp only [Option.bind_some]; congr 3; omega
    have dn : ∀ s, wide_MulDiv.j0 (k + 1) s q 0 false = some (hold (sgn s q)) := by
      intro s
      obtain ⟨x1, x2⟩ := add64_u (x := q) (y := 0) (by omega) (by omega)
      rw [wide_MulDiv.j0, if_neg (by decide), x1, x2, wide_signed_eq (by omega) (by omega) (by omega)]
      simp only [Option.bind_some]; congr 3; omega
    cases s
    · simp only [Bool.false_eq_true, if_false]
      by_cases g : r ≥ D - r
      · rw [if_pos g, decide_eq_true g]; exact up _
      · rw [if_neg g, decide_eq_false g]; exact dn _
    · simp only [if_true]
      by_cases g : r > D - r
      · rw [if_pos g, if_pos g]; exact up _
      · rw [if_neg g, if_neg g]; exact dn _
theorem shr_u (x : Int) (n : Nat) (hn : n ≤ 64) : shr .u64 x (n : Int) = x / 2 ^ n := by
  unfold shr; simp only [IntKind.bits]; rw [show ((n : Int)).toNat = n from by omega, Nat.min_eq_left (by omega)]
theorem shl_u (x : Int) (n : Nat) (hn : n ≤ 64) : shl .u64 x (n : Int) = (x * 2 ^ n) % 18446744073709551616 := by
  unfold shl; simp only [IntKind.bits]; rw [u64w, show ((n : Int)).toNat = n from by omega, Nat.min_eq_left (by omega)]
theorem p64_split {n : Nat} (hn : n ≤ 64) : (2 : Int) ^ (64 - n) * 2 ^ n = 18446744073709551616 := by rw [← Int.pow_add, show 64 - n + n = 64 from by omega]; decide
theorem wide_shift_eq {p : Int} (hp : 0 ≤ p ∧ p < 340282366920938463463374607431768211456) (n : Nat) (hn : n ≤ 127) :
    ∃ h l, wide_shift.f (p / 18446744073709551616) (p % 18446744073709551616) (n : Int) = some (h, l) ∧ U64 h ∧ U64 l ∧ h * 18446744073709551616 + l = p / 2 ^ n := by
  have e64 : (18446744073709551616 : Int) = 2 ^ 64 := by decide
  unfold wide_shift.f
  by_cases c : (n : Int) ≥ 64
  · rw [if_pos c, w64_id (show -9223372036854775808 ≤ (n : Int) - 64 from by omega) (by omega), if_pos (by omega), show (n : Int) - 64 = ((n - 64 : Nat) : Int) from by omega, shr_u _ _ (by omega)]
    have e : p / 18446744073709551616 / 2 ^ (n - 64) = p / 2 ^ n := by
      rw [Int.ediv_ediv_of_nonneg (by decide), e64, ← Int.pow_add, show 64 + (n - 64) = n from by omega]
    have b1 : p / 18446744073709551616 / 2 ^ (n - 64) ≤ p / 18446744073709551616 := Int.ediv_le_self _ (by omega)
    have b0 : 0 ≤ p / 18446744073709551616 / 2 ^ (n - 64) := Int.ediv_nonneg (by omega) (by have := pow_pos (n - 64); omega)
    exact ⟨_, _, rfl, by omega, by omega, by rw [← e]; omega⟩
  · rw [if_neg c, if_pos (by omega), w64_id (show -9223372036854775808 ≤ 64 - (n : Int) from by omega) (by omega), if_pos (by omega), show 64 - (n : Int) = ((64 - n : Nat) : Int) from by omega,
      shr_u _ _ (by omega), shr_u _ _ (by omega), shl_u _ _ (by omega)]
    have ps := p64_split (show n ≤ 64 from by omega)
    have hpn := pow_pos n
    have hpm := pow_pos (64 - n)
    generalize hH : p / 18446744073709551616 = H
    generalize hL : p % 18446744073709551616 = L
    have b1 : H / 2 ^ n ≤ H := Int.ediv_le_self _ (by omega)
    have b0 : 0 ≤ H / 2 ^ n := Int.ediv_nonneg (by omega) (by omega)
    have l0 : 0 ≤ L / 2 ^ n := Int.ediv_nonneg (by omega) (by omega)
    have l1 : L / 2 ^ n < 2 ^ (64 - n) := by rw [Int.ediv_lt_iff_lt_mul hpn, ps]; omega
    have pm : (2 : Int) ^ (64 - n) ≤ 18446744073709551616 := by
      calc (2 : Int) ^ (64 - n) ≤ 2 ^ 64 := pow_le (by omega)
        _ = _ := by decide
    have hm : H * 2 ^ (64 - n) % 18446744073709551616 = H % 2 ^ n * 2 ^ (64 - n) := by
      rw [← ps, Int.mul_comm H, Int.mul_emod_mul_of_pos _ _ hpm, Int.mul_comm]
    have hm0 : 0 ≤ H % 2 ^ n := Int.emod_nonneg _ (by omega)
    have hm1 : H % 2 ^ n < 2 ^ n := Int.emod_lt_of_pos _ hpn
    have hm2 : H % 2 ^ n * 2 ^ (64 - n) + 2 ^ (64 - n) ≤ 18446744073709551616 := by
      have : (H % 2 ^ n + 1) * 2 ^ (64 - n) ≤ 2 ^ n * 2 ^ (64 - n) := Int.mul_le_mul_of_nonneg_right (by omega) (by omega)
      rw [Int.add_mul, Int.one_mul, Int.mul_comm (2 ^ n), ps] at this; exact this
    have hm3 : 0 ≤ H % 2 ^ n * 2 ^ (64 - n) := Int.mul_nonneg hm0 (by omega)
    have ej : Go.bits .or .u64 (L / 2 ^ n) (H * 2 ^ (64 - n) % 18446744073709551616) = L / 2 ^ n + H % 2 ^ n * 2 ^ (64 - n) := by
      rw [hm]
      have := bits_join .u64 64 (by decide) (fun n h0 h1 => by rw [u64w]; rw [← e64] at h1; omega) (64 - n) (H % 2 ^ n * 2 ^ (64 - n)) (L / 2 ^ n) hm3 (Int.mul_emod_left _ _) (by rw [← e64]; omega) l0 l1 (by rw [← e64]; omega)
      rw [Int.add_comm, ← this]
      simp only [bits]
      rw [BitVec.or_comm]
    rw [ej]
    refine ⟨_, _, rfl, by omega, by omega, ?_⟩
    have eH := Int.mul_ediv_add_emod H (2 ^ n)
    have eL := Int.mul_ediv_add_emod L (2 ^ n)
    have r0 := Int.emod_nonneg L (show (2 : Int) ^ n ≠ 0 from by omega)
    have r1 := Int.emod_lt_of_pos L hpn
    refine (div_unique (r := L % 2 ^ n) ?_ r0 r1).1.symm
    have x1 : H / 2 ^ n * 18446744073709551616 * 2 ^ n = 2 ^ n * (H / 2 ^ n) * 18446744073709551616 := by
      rw [Int.mul_right_comm, Int.mul_comm (H / 2 ^ n)]
    have x2 : H % 2 ^ n * 2 ^ (64 - n) * 2 ^ n = H % 2 ^ n * 18446744073709551616 := by rw [Int.mul_assoc, ps]
    have x3 : L / 2 ^ n * 2 ^ n = 2 ^ n * (L / 2 ^ n) := Int.mul_comm _ _
    rw [Int.add_mul, Int.add_mul, x1, x2, x3]
    have x4 : 2 ^ n * (H / 2 ^ n) * 18446744073709551616 = (H - H % 2 ^ n) * 18446744073709551616 := by congr 1; omega
    rw [x4]
    omega
theorem wide_exact_eq {p : Int} (hp : 0 ≤ p ∧ p < 340282366920938463463374607431768211456) (n : Nat) (hn : n ≤ 127) :
    wide_exact.f (p / 18446744073709551616) (p % 18446744073709551616) (n : Int) = some (decide (p % 2 ^ n = 0)) := by
  have e64 : (18446744073709551616 : Int) = 2 ^ 64 := by decide
  unfold wide_exact.f
  by_cases c : (n : Int) ≥ 64
  · rw [if_pos c, w64_id (show -9223372036854775808 ≤ 128 - (n : Int) from by omega) (by omega)]
    have en : (2 : Int) ^ n = 18446744073709551616 * 2 ^ (n - 64) := by rw [e64, ← Int.pow_add, show 64 + (n - 64) = n from by omega]
    have hpn := pow_pos (n - 64)
    have e : p % 2 ^ n = p % 18446744073709551616 + 18446744073709551616 * (p / 18446744073709551616 % 2 ^ (n - 64)) := by
      have d1 := Int.mul_ediv_add_emod p 18446744073709551616
      have d2 := Int.mul_ediv_add_emod (p / 18446744073709551616) (2 ^ (n - 64))
      have r0 := Int.emod_nonneg (p / 18446744073709551616) (show (2 : Int) ^ (n - 64) ≠ 0 from by omega)
      have r1 := Int.emod_lt_of_pos (p / 18446744073709551616) hpn
      refine (div_unique (q := p / 18446744073709551616 / 2 ^ (n - 64)) ?_ (by omega) (by rw [en]; omega)).2
      rw [en, Int.mul_left_comm, Int.mul_comm (p / 18446744073709551616 / 2 ^ (n - 64))]
      omega
    have r0 := Int.emod_nonneg (p / 18446744073709551616) (show (2 : Int) ^ (n - 64) ≠ 0 from by omega)
    by_cases z : p % 18446744073709551616 = 0
    · rw [if_pos z, if_pos (by omega), show 128 - (n : Int) = ((128 - n : Nat) : Int) from by omega, shl_u _ _ (by omega)]
      congr 1
      have ps : (2 : Int) ^ (128 - n) * 2 ^ (n - 64) = 18446744073709551616 := by rw [← Int.pow_add, show 128 - n + (n - 64) = 64 from by omega]; decide
      have : p / 18446744073709551616 * 2 ^ (128 - n) % 18446744073709551616 = 2 ^ (128 - n) * (p / 18446744073709551616 % 2 ^ (n - 64)) := by
        have h := Int.mul_emod_mul_of_pos (p / 18446744073709551616) (2 ^ (n - 64)) (pow_pos (128 - n))
        rw [ps, Int.mul_comm (2 ^ (128 - n)) (p / 18446744073709551616)] at h
        exact h
      rw [this, e, z]
      have hq := pow_pos (128 - n)
      rw [Bool.eq_iff_iff]
      simp only [beq_iff_eq, decide_eq_true_eq]
      constructor
      · intro h
        rcases Int.mul_eq_zero.1 h with h | h
        · omega
        · rw [h]; rfl
      · intro h
        rw [show p / 18446744073709551616 % 2 ^ (n - 64) = 0 from by omega, Int.mul_zero]
    · rw [if_neg z]
      congr 1
      refine (decide_eq_false ?_).symm
      omega
  · rw [if_neg c, w64_id (show -9223372036854775808 ≤ 64 - (n : Int) from by omega) (by omega), if_pos (by omega), show 64 - (n : Int) = ((64 - n : Nat) : Int) from by omega, shl_u _ _ (by omega)]
    have ps := p64_split (show n ≤ 64 from by omega)
    have hpn := pow_pos n
    have hpm := pow_pos (64 - n)
    congr 1
    have e : p % 2 ^ n = p % 18446744073709551616 % 2 ^ n := (Int.emod_emod_of_dvd p ⟨2 ^ (64 - n), by rw [← ps, Int.mul_comm]⟩).symm
    rw [e]
    generalize p % 18446744073709551616 = L
    have : L * 2 ^ (64 - n) % 18446744073709551616 = 2 ^ (64 - n) * (L % 2 ^ n) := by
      have h := Int.mul_emod_mul_of_pos L (2 ^ n) hpm
      rw [ps, Int.mul_comm (2 ^ (64 - n)) L] at h
      exact h
    rw [this]
    rw [Bool.eq_iff_iff]
    simp only [beq_iff_eq, decide_eq_true_eq]
    constructor
    · intro h
      rcases Int.mul_eq_zero.1 h with h | h
      · omega
      · exact h
    · intro h; rw [h, Int.mul_zero]
/-- A product by bits, rounded. -/
def mulsh (a b n : Int) : Int := if n ≥ 128 then 0 else hold (rdiv (a * b) (2 ^ (mx 0 n).toNat))
theorem rdiv_sgn_pow (s : Bool) {p : Int} (hp : 0 ≤ p) (n : Nat) (hn : 1 ≤ n) :
    rdiv (sgn s p) (2 ^ n) = sgn s (p / 2 ^ n + if p / 2 ^ (n - 1) % 2 = 0 ∨ (s = true ∧ p % 2 ^ (n - 1) = 0) then 0 else 1) := by
  obtain ⟨m, rfl⟩ : ∃ m, n = m + 1 := ⟨n - 1, by omega⟩
  rw [Nat.add_sub_cancel]
  have hpm := pow_pos m
  rw [rdiv_sgn s hp (pow_pos _)]
  have h2 := half_pow p m
  have e1 := Int.mul_ediv_add_emod p (2 ^ (m + 1))
  have e2 := Int.mul_ediv_add_emod p (2 ^ m)
  have r0 := Int.emod_nonneg p (show (2 : Int) ^ m ≠ 0 from by omega)
  have r1 := Int.emod_lt_of_pos p hpm
  have er : p % 2 ^ (m + 1) = 2 ^ m * (p / 2 ^ m % 2) + p % 2 ^ m := by
    have hb : p / 2 ^ m % 2 = 0 ∨ p / 2 ^ m % 2 = 1 := by omega
    refine (div_unique (q := p / 2 ^ (m + 1)) ?_ ?_ ?_).2
    · rw [pow_succ2, ← Int.mul_assoc]
      have : p / (2 * 2 ^ m) = p / 2 ^ (m + 1) := by rw [pow_succ2]
      rw [this]
      have h3 : p / 2 ^ (m + 1) * 2 * 2 ^ m + (2 ^ m * (p / 2 ^ m % 2) + p % 2 ^ m) = 2 ^ m * (2 * (p / 2 ^ (m + 1)) + p / 2 ^ m % 2) + p % 2 ^ m := by
        rw [Int.mul_add, Int.mul_comm (p / 2 ^ (m + 1)) 2, Int.mul_comm (2 * (p / 2 ^ (m + 1)))]; omega
      rw [h3, ← h2]; exact e2
    · rcases hb with h | h <;> rw [h] <;> omega
    · rw [pow_succ2]; rcases hb with h | h <;> rw [h] <;> omega
  rw [er, pow_succ2]
  generalize (2 : Int) ^ m = d at *
  have hb : p / d % 2 = 0 ∨ p / d % 2 = 1 := by omega
  generalize p / d % 2 = bit at *
  generalize p % d = r at *
  congr 1
  cases s
  · simp only [Bool.false_eq_true, if_false, false_and, or_false]
    rcases hb with h | h
    · rw [h, if_neg (by omega), if_pos rfl]; omega
    · rw [h, if_pos (by omega), if_neg (by omega)]
  · simp only [if_true, true_and]
    rcases hb with h | h
    · rw [h, if_neg (by omega), if_pos (Or.inl rfl)]; omega
    · rw [h]
      by_cases z : r = 0
      · rw [if_neg (by omega), if_pos (Or.inr z)]; omega
      · rw [if_pos (by omega), if_neg (by omega)]
theorem wide_MulShift_eq {k : Nat} (hk : 3 ≤ k) {a b n : Int} (ha : I64 a) (hb : I64 b) (hn : I64 n) : wide_MulShift.f k a b n = some (mulsh a b n) := by
  unfold wide_MulShift.f mulsh
  have ua := siz_u ha
  have ub := siz_u hb
  by_cases c : n ≥ 128
  · rw [if_pos c, if_pos (by unfold mx; split <;> omega)]
  rw [if_neg c, if_neg (by unfold mx; split <;> omega), wide_product_eq ha hb]
  simp only [Option.bind_some]
  have p0 := Int.mul_nonneg ua.1 ub.1
  have p1 : siz a * siz b ≤ 9223372036854775808 * 9223372036854775808 := Int.mul_le_mul ua.2 ub.2 ub.1 (by decide)
  have e0 := sgn_siz2 a b
  rw [← e0]
  generalize siz a * siz b = p at *
  generalize ((decide (a < 0)) != (decide (b < 0))) = s at *
  obtain ⟨m, hm⟩ : ∃ m : Nat, mx 0 n = m := ⟨(mx 0 n).toNat, by unfold mx; split <;> omega⟩
  have hm2 : m ≤ 127 := by unfold mx at hm; split at hm <;> omega
  rw [hm, show ((m : Int)).toNat = m from by omega]
  by_cases z : (m : Int) = 0
  · rw [if_pos z, wide_signed_eq (by omega) (by omega) (by omega)]
    simp only [Option.bind_some]
    rw [show m = 0 from by omega, Int.pow_zero, rdiv_one]
    congr 3; omega
  rw [if_neg z, w64_id (show -9223372036854775808 ≤ (m : Int) - 1 from by omega) (by omega), show (m : Int) - 1 = ((m - 1 : Nat) : Int) from by omega]
  obtain ⟨h1, l1, x1, x2, x3, x4⟩ := wide_shift_eq (p := p) ⟨p0, by omega⟩ m hm2
  obtain ⟨h2, l2, y1, y2, y3, y4⟩ := wide_shift_eq (p := p) ⟨p0, by omega⟩ (m - 1) (by omega)
  rw [x1, y1, wide_exact_eq (p := p) ⟨p0, by omega⟩ (m - 1) (by omega)]
  simp only [Option.bind_some]
  rw [u64and1]
  have eb : l2 % 2 = p / 2 ^ (m - 1) % 2 := by omega
  rw [eb, rdiv_sgn_pow s p0 m (by omega)]
  obtain ⟨k, rfl⟩ : ∃ j, k = j + 1 := ⟨k - 1, by omega⟩
  have dn : wide_MulShift.j0 (k + 1) s h1 l1 true = some (hold (sgn s (p / 2 ^ m + 0))) := by
    rw [wide_MulShift.j0, if_pos rfl, wide_signed_eq (by omega) x2 x3, x4]
    simp
  have q1 : 2 * (p / 2 ^ m) ≤ p := by
    have := (ediv_bounds p (pow_pos m)).1
    have h2 : (2 : Int) ≤ 2 ^ m := by
      calc (2 : Int) = 2 ^ 1 := by decide
        _ ≤ 2 ^ m := pow_le (by omega)
    have h3 : p / 2 ^ m * 2 ≤ p / 2 ^ m * 2 ^ m := Int.mul_le_mul_of_nonneg_left h2 (Int.ediv_nonneg p0 (by omega))
    omega
  have up : wide_MulShift.j0 (k + 1) s h1 l1 false = some (hold (sgn s (p / 2 ^ m + 1))) := by
    obtain ⟨z1, z2⟩ := add64_u (x := l1) (y := 1) x3 (by omega)
    rw [wide_MulShift.j0, if_neg (by decide), z1, z2, u64w, wide_signed_eq (by omega) (by omega) (by omega)]
    simp only [Option.bind_some]; congr 3; omega
  by_cases g : p / 2 ^ (m - 1) % 2 = 0
  · rw [if_pos g, if_pos (Or.inl g)]; exact dn
  rw [if_neg g]
  cases s
  · simp only [Bool.false_eq_true, if_false, false_and, or_false]
    rw [if_neg g]; exact up
  · simp only [if_true, true_and]
    by_cases e : p % 2 ^ (m - 1) = 0
    · rw [decide_eq_true e, if_pos (Or.inr e)]; exact dn
    · rw [decide_eq_false e, if_neg (by omega)]; exact up
/-- May a fraction be? -/
def mayP (p q : Int) : Prop := 1 ≤ q ∧ q ≤ 1048576 ∧ -4 * q ≤ p ∧ p ≤ 4 * q
instance (p q : Int) : Decidable (mayP p q) := by unfold mayP; exact inferInstance
theorem sinc_May_eq (p q : Int) : sinc_May.f p q = some (decide (mayP p q)) := by
  unfold sinc_May.f mayP
  by_cases h1 : q ≥ 1
  · rw [if_pos h1]
    by_cases h2 : q ≤ 1048576
    · rw [if_pos h2, w64_id (show -9223372036854775808 ≤ -4 * q from by omega) (by omega), w64_id (show -9223372036854775808 ≤ 4 * q from by omega) (by omega)]
      by_cases h3 : p ≥ -4 * q
      · rw [if_pos h3]; congr 1; exact decide_eq_decide.2 (by omega)
      · rw [if_neg h3]; congr 1; exact (decide_eq_false (by omega)).symm
    · rw [if_neg h2]; congr 1; exact (decide_eq_false (by omega)).symm
  · rw [if_neg h1]; congr 1; exact (decide_eq_false (by omega)).symm
def serU (p q : Int) : Int := hold (rdiv (hold (rdiv (10851744800547 * p) q) * p) q)
def serT (u : Int) : Nat → Int
  | 0 => 1099511627776
  | n + 1 => hold (rdiv (serT u n * u) ((2 * ((n : Int) + 1)) * (2 * ((n : Int) + 1) + 1) * 1099511627776))
def serS (u : Int) : Nat → Int
  | 0 => 1099511627776
  | n + 1 => if n % 2 = 0 then wrap64 (serS u n - serT u (n + 1)) else wrap64 (serS u n + serT u (n + 1))
/-- The series of a fraction. -/
def serV (p q : Int) : Int := serS (serU (siz p) q) 30
theorem serT_i (r : Int) : ∀ n, I64 (serT r n)
  | 0 => by unfold serT; decide
  | n + 1 => by unfold serT; exact hold_i _
theorem w64_i4 (x : Int) : I64 (wrap64 x) := by unfold wrap64; constructor <;> omega
theorem serS_i (r : Int) : ∀ n, I64 (serS r n)
  | 0 => by unfold serS; decide
  | n + 1 => by unfold serS; split <;> exact w64_i4 _
theorem den_le (n : Nat) (h : n ≤ 29) : 6 ≤ (2 * ((n : Int) + 1)) * (2 * ((n : Int) + 1) + 1) ∧ (2 * ((n : Int) + 1)) * (2 * ((n : Int) + 1) + 1) ≤ 3660 := by
  have a : (2 * ((n : Int) + 1)) * (2 * ((n : Int) + 1) + 1) ≤ 60 * 61 := Int.mul_le_mul (by omega) (by omega) (by omega) (by decide)
  have b : 2 * 3 ≤ (2 * ((n : Int) + 1)) * (2 * ((n : Int) + 1) + 1) := Int.mul_le_mul (by omega) (by omega) (by decide) (by omega)
  constructor <;> omega
theorem sinc_series_l0 (u : Int) (hu : I64 u) : ∀ (d k n : Nat), n + d = 30 → d + 60 < k →
    sinc_series.l0 k u (serS u n) (serT u n) (if n % 2 = 0 then 1 else -1) ((n : Int) + 1) = some (serS u 30) := by
  intro d
  induction d with
  | zero =>
    intro k n hn hk
    obtain ⟨k, rfl⟩ : ∃ m, k = m + 1 := ⟨k - 1, by omega⟩
    rw [sinc_series.l0, if_neg (by omega), show n = 30 from by omega]
  | succ d ih =>
    intro k n hn hk
    obtain ⟨k, rfl⟩ : ∃ m, k = m + 1 := ⟨k - 1, by omega⟩
    have hd := den_le n (by omega)
    rw [sinc_series.l0, if_pos (by omega), w64_id (show -9223372036854775808 ≤ 2 * ((n : Int) + 1) from by omega) (by omega), w64_id (show -9223372036854775808 ≤ 2 * ((n : Int) + 1) + 1 from by omega) (by omega),
      w64_id (show -9223372036854775808 ≤ 2 * ((n : Int) + 1) * (2 * ((n : Int) + 1) + 1) from by omega) (by omega), w64_id (show -9223372036854775808 ≤ 2 * ((n : Int) + 1) * (2 * ((n : Int) + 1) + 1) * 1099511627776 from by omega) (by omega),
      w64_id (show -9223372036854775808 ≤ (n : Int) + 1 + 1 from by omega) (by omega)]
    rw [wide_MulDiv_eq (by omega) (serT_i u n) hu (by constructor <;> omega)]
    simp only [Option.bind_some]
    have et : hold (rdiv (serT u n * u) (2 * ((n : Int) + 1) * (2 * ((n : Int) + 1) + 1) * 1099511627776)) = serT u (n + 1) := by rw [serT]
    rw [et]
    have h := ih k (n + 1) (by omega) (by omega)
    have es : serS u (n + 1) = if n % 2 = 0 then wrap64 (serS u n - serT u (n + 1)) else wrap64 (serS u n + serT u (n + 1)) := by rw [serS]
    rw [show ((n + 1 : Nat) : Int) = (n : Int) + 1 from by omega, es] at h
    rw [← h]
    by_cases c : n % 2 = 0
    · rw [if_pos c, if_pos c, if_neg (by omega), w64_id (show -9223372036854775808 ≤ (-1 : Int) from by decide) (by decide)]
      congr 1
      generalize serT u (n + 1) = t
      unfold wrap64; omega
    · rw [if_neg c, if_neg c, if_pos (by omega), w64_id (show -9223372036854775808 ≤ -(-1 : Int) from by decide) (by decide)]
      congr 1
      generalize serT u (n + 1) = t
      unfold wrap64; omega
theorem sinc_series_eq {k : Nat} (hk : 200 ≤ k) {p q : Int} (hp : -9223372036854775807 ≤ p ∧ p ≤ 9223372036854775807) (hq : I64 q) : sinc_series.f k p q = some (serV p q) := by
  unfold sinc_series.f sinc_size.f serV
  have e : mx p (wrap64 (-p)) = siz p := by rw [w64_id (by omega) (by omega)]; unfold mx siz; split <;> split <;> omega
  have hs : I64 (siz p) := by unfold siz; split <;> constructor <;> omega
  rw [e]
  simp only [Option.bind_some]
  rw [wide_MulDiv_eq (by omega) (by decide) hs hq]
  simp only [Option.bind_some]
  rw [wide_MulDiv_eq (by omega) (hold_i _) hs hq]
  simp only [Option.bind_some]
  exact sinc_series_l0 _ (hold_i _) 30 k 0 (by omega) (by omega)
def sincV (p q : Int) : Int := if mayP p q then serV p q else 0
theorem sinc_Sinc_eq {k : Nat} (hk : 200 ≤ k) (p q : Int) : sinc_Sinc.f k p q = some (sincV p q) := by
  unfold sinc_Sinc.f sincV
  rw [sinc_May_eq]
  simp only [Option.bind_some]
  by_cases c : mayP p q
  · have c' : 1 ≤ q ∧ q ≤ 1048576 ∧ -4 * q ≤ p ∧ p ≤ 4 * q := c
    rw [if_pos (decide_eq_true c), if_pos c, sinc_series_eq hk (by omega) (by constructor <;> omega)]; rfl
  · rw [if_neg (by simpa using c), if_neg c]
def lanV (p q : Int) : Int := if mayP p q ∧ siz p < 3 * q then sh (mulsh (serV p q) (serV p (3 * q)) 40) 10 else 0
theorem mulsh_i (a b n : Int) : I64 (mulsh a b n) := by
  unfold mulsh; split
  · constructor <;> omega
  · exact hold_i _
theorem serV_i (p q : Int) : I64 (serV p q) := serS_i _ _
theorem sinc_Lanczos_eq {k : Nat} (hk : 300 ≤ k) (p q : Int) : sinc_Lanczos.f k p q = some (lanV p q) := by
  obtain ⟨k, rfl⟩ : ∃ m, k = m + 1 := ⟨k - 1, by omega⟩
  unfold sinc_Lanczos.f lanV
  rw [sinc_May_eq]
  simp only [Option.bind_some]
  by_cases c : mayP p q
  · have c' : 1 ≤ q ∧ q ≤ 1048576 ∧ -4 * q ≤ p ∧ p ≤ 4 * q := c
    rw [if_pos (decide_eq_true c)]
    have e : mx p (wrap64 (-p)) = siz p := by rw [w64_id (by omega) (by omega)]; unfold mx siz; split <;> split <;> omega
    unfold sinc_size.f
    rw [e, w64_id (show -9223372036854775808 ≤ 3 * q from by omega) (by omega)]
    simp only [Option.bind_some]
    rw [sinc_Lanczos.j0]
    by_cases g : siz p < 3 * q
    · rw [if_neg (by simp; omega), if_pos ⟨c, g⟩, w64_id (show -9223372036854775808 ≤ 3 * q from by omega) (by omega), sinc_series_eq (by omega) (by omega) (by constructor <;> omega), sinc_series_eq (by omega) (by omega) (by constructor <;> omega)]
      simp only [Option.bind_some]
      rw [wide_MulShift_eq (by omega) (serV_i _ _) (serV_i _ _) (by decide)]
      simp only [Option.bind_some]
      rw [fixed_Shift_eq (mulsh_i _ _ _) (by decide)]
      rfl
    · rw [if_pos (by simp; omega), if_neg (by omega)]
  · rw [if_neg (by simpa using c), if_neg (by intro h; exact c h.1), sinc_Lanczos.j0, if_pos rfl]
theorem lives04 {k : Nat} (hk : 300 ≤ k) : smaltolaw04_lives.f k = some true :=
  at_rounds (fun k => smaltolaw04_lives.mono k) hk (show smaltolaw04_lives.f 300 = some true by decide +kernel)
theorem SinTab.below {w w' : World} (h : SinTab w) (hb : Below w.heap.size w w') : SinTab w' := by
  have c : ∀ {a : Addr} {v : Value}, w.cell? a = some v → w'.cell? a = some v := fun h => (hb.cell (World.block_lt_of_cell? w _ h)).trans h
  obtain ⟨⟨t0, t1, t2, t3, t4, t5⟩, ⟨k0, k1, k2, k3, k4, k5⟩⟩ := h
  exact ⟨⟨c t0, c t1, c t2, c t3, c t4, c t5⟩, ⟨c k0, c k1, c k2, c k3, c k4, c k5⟩⟩
theorem fl_w64 (x : Int) : Fl.wrap64 x = wrap64 x := by unfold Fl.wrap64 wrap64; omega
theorem i64and20n (x : Int) : bits .and .i64 x 1048575 = x % 1048576 := by
  have := and_mask .i64 x 20 (by decide) (by rw [i64w]; unfold wrap64; omega)
  simpa using this
theorem fl_serT (u : Int) : ∀ n, Fl.serT u n = serT u n
  | 0 => rfl
  | n + 1 => by rw [Fl.serT, serT, fl_serT u n]; rfl
theorem fl_serS (u : Int) : ∀ n, Fl.serS u n = serS u n
  | 0 => rfl
  | n + 1 => by rw [Fl.serS, serS, fl_serS u n, fl_serT u (n + 1), fl_w64, fl_w64]
theorem frac_eq {p q : Int} (hp : I64 p) : ∃ a d, smaltolaw04_fraction.f p q = some (a, d) ∧ 1 ≤ d ∧ d ≤ 1048576 ∧ -(4 * d) ≤ a ∧ a ≤ 4 * d := by
  have h0 : 0 ≤ q % 1048576 := Int.emod_nonneg _ (by decide)
  have h1 : q % 1048576 < 1048576 := Int.emod_lt_of_pos _ (by decide)
  unfold smaltolaw04_fraction.f
  rw [i64and20n]
  generalize q % 1048576 = D at h0 h1
  rw [w64_id (x := 1 + D) (by omega) (by omega), w64_id (x := 4 * (1 + D)) (by omega) (by omega), w64_id (x := 4 * (1 + D) + 1) (by omega) (by omega), if_neg (by omega)]
  refine ⟨_, _, rfl, by omega, by omega, ?_, ?_⟩
  · have := Int.lt_tmod_of_pos p (show 0 < 4 * (1 + D) + 1 by omega); omega
  · have := Int.tmod_lt_of_pos p (show 0 < 4 * (1 + D) + 1 by omega); omega
set_option maxHeartbeats 4000000 in
set_option maxRecDepth 100000 in
theorem sincNear_calls (p q : Int) (hp : I64 p) (hq : I64 q) (w : World) (hT : SinTab w) : Calls Tryd.prog 3 #[.int .i64 p, .int .i64 q] w fun e w' => e = .returned (.bool true) ∧ Below w.heap.size w w' := by
  have LV := Aside0.mk (fun w' => smaltolaw04_lives.calls 300 true w' (lives04 (Nat.le_refl _)))
  obtain ⟨a, d, hf, d1, d2, a1, a2⟩ := frac_eq (p := p) (q := q) hp
  have FR := Aside0.mk hf
  have sz : 0 ≤ siz a ∧ (siz a = a ∨ siz a = -a) := by unfold siz; split <;> omega
  have es : sincV a d = Fl.serS (Fl.serU (siz a) d) 30 := by
    unfold sincV
    rw [if_pos ⟨d1, d2, by omega, by omega⟩, fl_serS]; rfl
  have sn := sinc_Sinc_eq (k := 200) (Nat.le_refl _) a d
  rw [es] at sn
  obtain ⟨s, x, rl, df, o, g1, g2, hR, g3, ho, hn⟩ := Fl.near_chain d1 d2 a1 a2 sz
  obtain ⟨S, hS⟩ : ∃ S, S = Fl.serS (Fl.serU (siz a) d) 30 := ⟨_, rfl⟩
  rw [← hS] at sn g1
  have SN := Aside0.mk (fun w' => sinc_Sinc.calls 200 a d S w' sn)
  have RL := Aside0.mk (fun w' (hb : Below w.heap.size w w') => realCode_calls x rl hR w' (hT.below hb))
  have AB := Aside0.mk (abs_calls df (f_lt (op := .sub) g3))
  have f1 : ∀ t w, (binOp .quo t (.float .f64 (floatOfInt .f64 S)) (.float .f64 4787326403894837248)).run Tryd.prog w = .ok (.float .f64 s) w := binF (op := .quo) g1
  have f2 : ∀ t w, (binOp .quo t (.float .f64 (floatOfInt .f64 a)) (.float .f64 (floatOfInt .f64 d))).run Tryd.prog w = .ok (.float .f64 x) w := binF (op := .quo) g2
  have f3 : ∀ t w, (binOp .sub t (.float .f64 s) (.float .f64 rl)).run Tryd.prog w = .ok (.float .f64 df) w := binF (op := .sub) g3
  obtain ⟨y, hy⟩ : ∃ y, y = df % 9223372036854775808 := ⟨_, rfl⟩
  rw [← hy] at AB ho
  have b2 : (FloatKind.f64.format.order y 4499096027743125504 == some .lt || FloatKind.f64.format.order y 4499096027743125504 == some .eq) = true := by
    rw [show FloatKind.f64.format.order y 4499096027743125504 = some o from ho]; cases o <;> first | rfl | exact absurd rfl hn
  have B0 := Aside0.mk (Below.refl w.heap.size w)
  clear hf sz es sn g1 g2 hR g3 ho hn hS hy hT
  go_enter Tryd.func3, Tryd.ntmps3
  go_wp2_with (first
    | (go_at_call 5; (with_reducible refine (LV.out _).mono ?_); rintro e w1 ⟨rfl, hb⟩; have B0 := Aside0.mk (below_step B0.out hb); clear hb)
    | (go_at_call 6; (with_reducible refine (smaltolaw04_fraction.calls p q a d _ FR.out).mono ?_); rintro e w1 ⟨rfl, hb⟩; have B0 := Aside0.mk (below_step B0.out hb.below); clear hb)
    | (go_at_call 7; (with_reducible refine (SN.out _).mono ?_); rintro e w1 ⟨rfl, hb⟩; have B0 := Aside0.mk (below_step B0.out hb); clear hb)
    | (go_at_call 9; (with_reducible refine (RL.out _ B0.out).mono ?_); rintro e w1 ⟨rfl, rfl⟩)
    | (go_at_call 8; (with_reducible refine (AB.out _).mono ?_); rintro e w1 ⟨rfl, rfl⟩)
    | (simp only [f1, f2, f3]))
  go_ret
  exact ⟨by rfl, B0.out⟩
/-- What lan_chain asks of a raw weight. -/
theorem lan_num {a d : Int} (d1 : 1 ≤ d) (d2 : d ≤ 1048576) (h1 : -(3 * d) < a) (h2 : a < 3 * d) :
    ∃ M, M * 1099511627776 - Fl.serS (Fl.serU (siz a) d) 30 * Fl.serS (Fl.serU (siz a) (3 * d)) 30 ≤ 1099511627776 ∧ Fl.serS (Fl.serU (siz a) d) 30 * Fl.serS (Fl.serU (siz a) (3 * d)) 30 - M * 1099511627776 ≤ 1099511627776 ∧ lanV a d * 1024 - M ≤ 1024 ∧ M - lanV a d * 1024 ≤ 1024 := by
  have sz : 0 ≤ siz a ∧ siz a < 3 * d := by unfold siz; split <;> omega
  obtain ⟨b1, b2⟩ := Fl.ser_bound (p := siz a) (q := d) d1 (by omega) sz.1 (by omega)
  obtain ⟨b3, b4⟩ := Fl.ser_bound (p := siz a) (q := 3 * d) (by omega) (by omega) sz.1 (by omega)
  have e1 : serV a d = Fl.serS (Fl.serU (siz a) d) 30 := by rw [fl_serS]; rfl
  have e2 : serV a (3 * d) = Fl.serS (Fl.serU (siz a) (3 * d)) 30 := by rw [fl_serS]; rfl
  unfold lanV
  rw [if_pos ⟨⟨d1, d2, by omega, by omega⟩, sz.2⟩, e1, e2]
  generalize Fl.serS (Fl.serU (siz a) d) 30 = s at *
  generalize Fl.serS (Fl.serU (siz a) (3 * d)) 30 = t at *
  have ab : (s * t).natAbs ≤ 10880332376531662572355584 := by
    rw [Int.natAbs_mul]
    exact Nat.mul_le_mul (show s.natAbs ≤ 3298534883328 by omega) (show t.natAbs ≤ 3298534883328 by omega)
  have em : mulsh s t 40 = (2 * (s * t) + 1099511627776) / 2199023255552 := by
    unfold mulsh
    rw [if_neg (by decide), show (2 : Int) ^ (mx 0 40).toNat = 1099511627776 from by decide]
    unfold rdiv
    rw [if_pos (by decide), hold_id (by omega) (by omega)]
    rfl
  refine ⟨mulsh s t 40, ?_⟩
  have es : sh (mulsh s t 40) 10 = (2 * mulsh s t 40 + 1024) / 2048 := by
    unfold sh
    rw [if_neg (by decide), show (2 : Int) ^ (10 : Int).toNat = 1024 from by decide]
    unfold rdiv
    rw [if_pos (by decide)]
    rfl
  rw [es, em]
  generalize s * t = x at *
  omega
set_option maxHeartbeats 4000000 in
set_option maxRecDepth 100000 in
theorem sincLanczos_in (p q a d : Int) (hp : I64 p) (hq : I64 q) (hf : smaltolaw04_fraction.f p q = some (a, d)) (d1 : 1 ≤ d) (d2 : d ≤ 1048576) (a1 : -(3 * d) < a) (a2 : a < 3 * d) (w : World) (hT : SinTab w) : Calls Tryd.prog 4 #[.int .i64 p, .int .i64 q] w fun e w' => e = .returned (.bool true) ∧ Below w.heap.size w w' := by
  have LV := Aside0.mk (fun w' => smaltolaw04_lives.calls 300 true w' (lives04 (Nat.le_refl _)))
  have FR := Aside0.mk hf
  have sz : 0 ≤ siz a ∧ (siz a = a ∨ siz a = -a) := by unfold siz; split <;> omega
  obtain ⟨M, m1, m2, m3, m4⟩ := lan_num d1 d2 a1 a2
  have sn := sinc_Lanczos_eq (k := 300) (Nat.le_refl _) a d
  obtain ⟨s, x, y, r1, r2, m, df, o, g1, g2, hR, g3, hR2, g4, g5, ho, hn⟩ := Fl.lan_chain d1 d2 a1 a2 sz ⟨m1, m2⟩ ⟨m3, m4⟩
  obtain ⟨S, hS⟩ : ∃ S, S = lanV a d := ⟨_, rfl⟩
  rw [← hS] at sn g1
  have SN := Aside0.mk (fun w' => sinc_Lanczos.calls 300 a d S w' sn)
  have RL := Aside0.mk (fun w' (hb : Below w.heap.size w w') => realCode_calls x r1 hR w' (hT.below hb))
  have RM := Aside0.mk (fun w' (hb : Below w.heap.size w w') => realCode_calls y r2 hR2 w' (hT.below hb))
  have AB := Aside0.mk (abs_calls df (f_lt (op := .sub) g5))
  have f1 : ∀ t w, (binOp .quo t (.float .f64 (floatOfInt .f64 S)) (.float .f64 4742290407621132288)).run Tryd.prog w = .ok (.float .f64 s) w := binF (op := .quo) g1
  have f2 : ∀ t w, (binOp .quo t (.float .f64 (floatOfInt .f64 a)) (.float .f64 (floatOfInt .f64 d))).run Tryd.prog w = .ok (.float .f64 x) w := binF (op := .quo) g2
  have f3 : ∀ t w, (binOp .quo t (.float .f64 x) (.float .f64 4613937818241073152)).run Tryd.prog w = .ok (.float .f64 y) w := binF (op := .quo) g3
  have f4 : ∀ t w, (binOp .mul t (.float .f64 r1) (.float .f64 r2)).run Tryd.prog w = .ok (.float .f64 m) w := binF (op := .mul) g4
  have f5 : ∀ t w, (binOp .sub t (.float .f64 s) (.float .f64 m)).run Tryd.prog w = .ok (.float .f64 df) w := binF (op := .sub) g5
  obtain ⟨z, hz⟩ : ∃ z, z = df % 9223372036854775808 := ⟨_, rfl⟩
  rw [← hz] at AB ho
  have b2 : (FloatKind.f64.format.order z 4517110426252607488 == some .lt || FloatKind.f64.format.order z 4517110426252607488 == some .eq) = true := by
    rw [show FloatKind.f64.format.order z 4517110426252607488 = some o from ho]; cases o <;> first | rfl | exact absurd rfl hn
  have u1 : ¬ (a ≥ wrap64 (3 * d)) := by rw [w64_id (by omega) (by omega)]; omega
  have u2 : ¬ (a ≤ wrap64 (-3 * d)) := by rw [w64_id (by omega) (by omega)]; omega
  have B0 := Aside0.mk (Below.refl w.heap.size w)
  clear hf sz sn g1 g2 hR hR2 g3 g4 g5 ho hn hS hz hT m1 m2 m3 m4 d1 d2 a1 a2 hp hq
  go_enter Tryd.func4, Tryd.ntmps4
  go_wp2_with (first
    | (go_at_call 5; (with_reducible refine (LV.out _).mono ?_); rintro e w1 ⟨rfl, hb⟩; have B0 := Aside0.mk (below_step B0.out hb); clear hb)
    | (go_at_call 6; (with_reducible refine (smaltolaw04_fraction.calls p q a d _ FR.out).mono ?_); rintro e w1 ⟨rfl, hb⟩; have B0 := Aside0.mk (below_step B0.out hb.below); clear hb)
    | (go_at_call 10; (with_reducible refine (SN.out _).mono ?_); rintro e w1 ⟨rfl, hb⟩; have B0 := Aside0.mk (below_step B0.out hb); clear hb)
    | (go_at_call 9; (with_reducible refine (RL.out _ B0.out).mono ?_); rintro e w1 ⟨rfl, rfl⟩)
    | (go_at_call 9; (with_reducible refine (RM.out _ B0.out).mono ?_); rintro e w1 ⟨rfl, rfl⟩)
    | (go_at_call 8; (with_reducible refine (AB.out _).mono ?_); rintro e w1 ⟨rfl, rfl⟩)
    | (simp only [f1, f2, f3, f4, f5]))
  go_ret
  exact ⟨by rfl, B0.out⟩
set_option maxHeartbeats 4000000 in
set_option maxRecDepth 100000 in
theorem sincLanczos_out (p q a d : Int) (hp : I64 p) (hq : I64 q) (hf : smaltolaw04_fraction.f p q = some (a, d)) (d1 : 1 ≤ d) (d2 : d ≤ 1048576) (a1 : -(4 * d) ≤ a) (a2 : a ≤ 4 * d) (hc : 3 * d ≤ a ∨ a ≤ -3 * d) (w : World) : Calls Tryd.prog 4 #[.int .i64 p, .int .i64 q] w fun e w' => e = .returned (.bool true) ∧ Below w.heap.size w w' := by
  have LV := Aside0.mk (fun w' => smaltolaw04_lives.calls 300 true w' (lives04 (Nat.le_refl _)))
  have FR := Aside0.mk hf
  have sz : 0 ≤ siz a ∧ (siz a = a ∨ siz a = -a) := by unfold siz; split <;> omega
  have sn := sinc_Lanczos_eq (k := 300) (Nat.le_refl _) a d
  have e0 : lanV a d = 0 := by
    unfold lanV
    exact if_neg (by intro h; have := h.2; omega)
  rw [e0] at sn
  obtain ⟨s, x, rl, df, o, g1, g2, hR, g3, ho, hn⟩ := Fl.near_chain d1 d2 a1 a2 sz
  have SN := Aside0.mk (fun w' => sinc_Lanczos.calls 300 a d 0 w' sn)
  have f1 : ∀ t w, (binOp .quo t (.float .f64 (floatOfInt .f64 0)) (.float .f64 4742290407621132288)).run Tryd.prog w = .ok (.float .f64 0) w := binF (op := .quo) (by decide +kernel)
  have f2 : ∀ t w, (binOp .quo t (.float .f64 (floatOfInt .f64 a)) (.float .f64 (floatOfInt .f64 d))).run Tryd.prog w = .ok (.float .f64 x) w := binF (op := .quo) g2
  have b2 : (FloatKind.f64.format.order 0 0 == some .eq) = true := by decide +kernel
  have B0 := Aside0.mk (Below.refl w.heap.size w)
  clear hf sz sn g1 g2 hR g3 ho hn e0 hp hq
  by_cases h1 : 3 * d ≤ a
  · have u1 : a ≥ wrap64 (3 * d) := by rw [w64_id (by omega) (by omega)]; omega
    clear d1 d2 a1 a2 hc h1
    go_enter Tryd.func4, Tryd.ntmps4
    go_wp2_with (first
      | (go_at_call 5; (with_reducible refine (LV.out _).mono ?_); rintro e w1 ⟨rfl, hb⟩; have B0 := Aside0.mk (below_step B0.out hb); clear hb)
      | (go_at_call 6; (with_reducible refine (smaltolaw04_fraction.calls p q a d _ FR.out).mono ?_); rintro e w1 ⟨rfl, hb⟩; have B0 := Aside0.mk (below_step B0.out hb.below); clear hb)
      | (go_at_call 10; (with_reducible refine (SN.out _).mono ?_); rintro e w1 ⟨rfl, hb⟩; have B0 := Aside0.mk (below_step B0.out hb); clear hb)
      | (simp only [f1, f2]))
    go_ret
    exact ⟨by rfl, B0.out⟩
  · have u1 : ¬ (a ≥ wrap64 (3 * d)) := by rw [w64_id (by omega) (by omega)]; omega
    have u2 : a ≤ wrap64 (-3 * d) := by rw [w64_id (by omega) (by omega)]; omega
    clear d1 d2 a1 a2 hc h1
    go_enter Tryd.func4, Tryd.ntmps4
    go_wp2_with (first
      | (go_at_call 5; (with_reducible refine (LV.out _).mono ?_); rintro e w1 ⟨rfl, hb⟩; have B0 := Aside0.mk (below_step B0.out hb); clear hb)
      | (go_at_call 6; (with_reducible refine (smaltolaw04_fraction.calls p q a d _ FR.out).mono ?_); rintro e w1 ⟨rfl, hb⟩; have B0 := Aside0.mk (below_step B0.out hb.below); clear hb)
      | (go_at_call 10; (with_reducible refine (SN.out _).mono ?_); rintro e w1 ⟨rfl, hb⟩; have B0 := Aside0.mk (below_step B0.out hb); clear hb)
      | (simp only [f1, f2]))
    go_ret
    exact ⟨by rfl, B0.out⟩
theorem sincLanczos_calls (p q : Int) (hp : I64 p) (hq : I64 q) (w : World) (hT : SinTab w) : Calls Tryd.prog 4 #[.int .i64 p, .int .i64 q] w fun e w' => e = .returned (.bool true) ∧ Below w.heap.size w w' := by
  obtain ⟨a, d, hf, d1, d2, a1, a2⟩ := frac_eq (p := p) (q := q) hp
  by_cases hc : 3 * d ≤ a ∨ a ≤ -3 * d
  · exact sincLanczos_out p q a d hp hq hf d1 d2 a1 a2 hc w
  · exact sincLanczos_in p q a d hp hq hf d1 d2 (by omega) (by omega) w hT
end Go.Proofs.YtcfpfaakbomcnaaDoor.QA

namespace Go.Proofs.YtcfpfaakbomcnaaDoor.T
open Go.ChangeShapes Go.WideShapes Go.ChangeAt Go.RowKit
theorem float_cell {W : World} {m b : Nat} {cs : List Value} {x : DataW Unit × List MemPlace} (h : DataW.trod (fun _ => ()) Tryd.prog W 0 (fun _ => true) false m 25 cs = some x) (hx : x.1 = .lit (.float .f64 b)) : cs[0]? = some (.float .f64 b) := by
  have ht := Tryd.underlying25
  cases m with
  | zero => simp [DataW.trod] at h
  | succ n =>
    unfold DataW.trod at h
    rw [ht] at h
    split at h <;> simp_all
    obtain ⟨_, h2⟩ := h
    subst h2
    simpa using hx
theorem g_sin : Tryd.prog.globalNamed "math._sin" = some 2 := by kernel_rfl
theorem t_sin : (Tryd.prog.globals[2]?).map (·.type) = some 50 := by kernel_rfl
set_option maxRecDepth 100000 in
theorem sin_cells {W : World} {fuel : Nat} {cs : Array Value} {x : DataW Unit × List MemPlace} (hv : W.var? Tryd.prog "math._sin" = some cs)
    (h : DataW.trod (fun _ => ()) Tryd.prog W 0 (fun _ => true) false fuel 50 cs.toList = some x) (hx : x.1 = Rows.laid_math_sin) : W.cell? ⟨2, 0, none⟩ = some (.float .f64 4460209587652500685) ∧ W.cell? ⟨2, 1, none⟩ = some (.float .f64 13716528389658582877) ∧ W.cell? ⟨2, 2, none⟩ = some (.float .f64 4523617212962785441) ∧ W.cell? ⟨2, 3, none⟩ = some (.float .f64 13774824197404483331) ∧ W.cell? ⟨2, 4, none⟩ = some (.float .f64 4575957461383575504) ∧ W.cell? ⟨2, 5, none⟩ = some (.float .f64 13818544856648471880) := by
  obtain ⟨xs, m, _, rfl, hl, hlen, hel⟩ := DataW.trod_array Tryd.underlying50 h
  have c1 : Tryd.prog.cellsOf 25 = 1 := by kernel_rfl
  match xs, hlen with
  | [x0, x1, x2, x3, x4, x5], _ =>
    have hx' := hx
    simp only [Rows.laid_math_sin, List.map_cons, List.map_nil, DataW.agg.injEq, List.cons.injEq, and_true] at hx'
    obtain ⟨k0, k1, k2, k3, k4, k5⟩ := hx'
    have g0 := float_cell (hel 0 (by decide)) k0
    have g1 := float_cell (hel 1 (by decide)) k1
    have g2 := float_cell (hel 2 (by decide)) k2
    have g3 := float_cell (hel 3 (by decide)) k3
    have g4 := float_cell (hel 4 (by decide)) k4
    have g5 := float_cell (hel 5 (by decide)) k5
    rw [c1] at g0 g1 g2 g3 g4 g5
    simp only [List.getElem?_take, List.getElem?_drop] at g0 g1 g2 g3 g4 g5
    simp at g0 g1 g2 g3 g4 g5
    simp only [World.var?_cell g_sin hv]
    exact ⟨g0, g1, g2, g3, g4, g5⟩
theorem g_cos : Tryd.prog.globalNamed "math._cos" = some 1 := by kernel_rfl
theorem t_cos : (Tryd.prog.globals[1]?).map (·.type) = some 50 := by kernel_rfl
set_option maxRecDepth 100000 in
theorem cos_cells {W : World} {fuel : Nat} {cs : Array Value} {x : DataW Unit × List MemPlace} (hv : W.var? Tryd.prog "math._cos" = some cs)
    (h : DataW.trod (fun _ => ()) Tryd.prog W 0 (fun _ => true) false fuel 50 cs.toList = some x) (hx : x.1 = Rows.laid_math_cos) : W.cell? ⟨1, 0, none⟩ = some (.float .f64 13666448263388469915) ∧ W.cell? ⟨1, 1, none⟩ = some (.float .f64 4477121864728985349) ∧ W.cell? ⟨1, 2, none⟩ = some (.float .f64 13732177093698800582) ∧ W.cell? ⟨1, 3, none⟩ = some (.float .f64 4537941361668146421) ∧ W.cell? ⟨1, 4, none⟩ = some (.float .f64 13787419979223748497) ∧ W.cell? ⟨1, 5, none⟩ = some (.float .f64 4586165620538955083) := by
  obtain ⟨xs, m, _, rfl, hl, hlen, hel⟩ := DataW.trod_array Tryd.underlying50 h
  have c1 : Tryd.prog.cellsOf 25 = 1 := by kernel_rfl
  match xs, hlen with
  | [x0, x1, x2, x3, x4, x5], _ =>
    have hx' := hx
    simp only [Rows.laid_math_cos, List.map_cons, List.map_nil, DataW.agg.injEq, List.cons.injEq, and_true] at hx'
    obtain ⟨k0, k1, k2, k3, k4, k5⟩ := hx'
    have g0 := float_cell (hel 0 (by decide)) k0
    have g1 := float_cell (hel 1 (by decide)) k1
    have g2 := float_cell (hel 2 (by decide)) k2
    have g3 := float_cell (hel 3 (by decide)) k3
    have g4 := float_cell (hel 4 (by decide)) k4
    have g5 := float_cell (hel 5 (by decide)) k5
    rw [c1] at g0 g1 g2 g3 g4 g5
    simp only [List.getElem?_take, List.getElem?_drop] at g0 g1 g2 g3 g4 g5
    simp at g0 g1 g2 g3 g4 g5
    simp only [World.var?_cell g_cos hv]
    exact ⟨g0, g1, g2, g3, g4, g5⟩
theorem gl_of_laid {W : World} (h : laidMetH Tryd.prog [("math._sin", Rows.laid_math_sin), ("math._cos", Rows.laid_math_cos), ("math.mPi4", Rows.laid_math_mPi4)] W) : QA.SinTab W := by
  rw [MakeChecks.laidMetH_plain _ _ _ (by kernel_rfl)] at h
  obtain ⟨ps, ⟨g, t, cs, fuel, p, q, hg, ht, hv, hd, ⟨g2, t2, cs2, fuel2, p2, q2, hg2, ht2, hv2, hd2, _, _⟩, _⟩, _, _⟩ := h
  obtain rfl := Option.some.inj (g_sin.symm.trans hg)
  obtain rfl := Option.some.inj (t_sin.symm.trans ht)
  obtain rfl := Option.some.inj (g_cos.symm.trans hg2)
  obtain rfl := Option.some.inj (t_cos.symm.trans ht2)
  exact ⟨sin_cells hv hd rfl, cos_cells hv2 hd2 rfl⟩
theorem laid_witness (os : Os) (args : Array Value) : laidMetH Tryd.prog [("math._sin", Rows.laid_math_sin), ("math._cos", Rows.laid_math_cos), ("math.mPi4", Rows.laid_math_mPi4)] ((World.laidAll Tryd.prog os [("math._sin", Rows.laid_math_sin), ("math._cos", Rows.laid_math_cos), ("math.mPi4", Rows.laid_math_mPi4)]).forCall (fun _ _ => 0) ⟨#[], args, []⟩).memory := by
  rw [MakeChecks.laidMetH_plain _ _ _ (by kernel_rfl)]
  exact laidMet_laidAll _ (by kernel_rfl) (by kernel_rfl)
end Go.Proofs.YtcfpfaakbomcnaaDoor.T
