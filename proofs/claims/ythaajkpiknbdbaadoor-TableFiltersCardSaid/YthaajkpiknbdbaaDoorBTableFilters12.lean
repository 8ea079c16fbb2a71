/- Joined by wip/tools/bundle.py out of: F8. -/
import Derived.Test.YthaajkpiknbdbaaDoorBTableFilters1
import Derived.Test.YthaajkpiknbdbaaDoorBTableFilters5
import Derived.Test.YthaajkpiknbdbaaDoorBTableFilters4
import Derived.Test.YthaajkpiknbdbaaDoorBTableFilters2
import Derived.Test.YthaajkpiknbdbaaDoorBTableFilters3
import Derived.Test.YthaajkpiknbdbaaDoorBTableFilters6
import Derived.Test.YthaajkpiknbdbaaDoorBTableFilters7
import Derived.Test.YthaajkpiknbdbaaDoorBTableFilters8
import Derived.Test.YthaajkpiknbdbaaDoorBTableFilters9
import Derived.Test.YthaajkpiknbdbaaDoorBTableFilters10
import Derived.Test.YthaajkpiknbdbaaDoorBTableFilters11
import Derived.Handy
import Derived.Test.YthaajkpiknbdbaaDoorBTableFilters0
namespace Go.Proofs.YthaajkpiknbdbaaDoor.QA
open Go.RowKit Go.Proofs.YthaajkpiknbdbaaDoorW.PrintWords Go.Proofs.YthaajkpiknbdbaaDoorW.PrintLast Go.Proofs.YthaajkpiknbdbaaDoorW.PrintMore Go.Proofs.YthaajkpiknbdbaaDoor.T
set_option linter.unusedVariables false
set_option linter.unusedSimpArgs false
theorem fixed_Shift_eq {x n : Int} (hx : I64 x) (hn : I64 n) : fixed_Shift.f x n = some (sh x n) := by
  unfold fixed_Shift.f sh
  by_cases h0 : n ≤ 0
  · rw [if_pos h0, if_pos h0]
  rw [if_neg h0, if_neg h0]
  by_cases h1 : n ≥ 64
  · rw [if_pos h1, rdiv_far (x := x) _ hx]
    calc (18446744073709551616 : Int) = 2 ^ 64 := by decide
      _ ≤ 2 ^ n.toNat := pow_le (by omega)
  rw [if_neg h1, if_pos (by omega), w64_id (show -9223372036854775808 ≤ n - 1 from by omega) (by omega), if_pos (by omega), i64and1, rdiv_pow x n.toNat (by omega)]
  unfold shr
  simp only [IntKind.bits]
  rw [Nat.min_eq_left (by omega), Nat.min_eq_left (by omega)]
  rw [show (n - 1).toNat = n.toNat - 1 from by omega]
  congr 1
  have hp := pow_pos n.toNat
  have h2 : (2 : Int) ≤ 2 ^ n.toNat := by
    calc (2 : Int) = 2 ^ 1 := by decide
      _ ≤ 2 ^ n.toNat := pow_le (by omega)
  have q0 : -4611686018427387904 ≤ x / 2 ^ n.toNat := by
    rw [Int.le_ediv_iff_mul_le hp]
    calc -4611686018427387904 * 2 ^ n.toNat ≤ -4611686018427387904 * 2 := Int.mul_le_mul_of_nonpos_left (by decide) h2
      _ ≤ x := by omega
  have q1 : x / 2 ^ n.toNat < 4611686018427387904 := by
    rw [Int.ediv_lt_iff_lt_mul hp]
    calc x < 4611686018427387904 * 2 := by omega
      _ ≤ 4611686018427387904 * 2 ^ n.toNat := Int.mul_le_mul_of_nonneg_left h2 (by decide)
  exact w64_id (by omega) (by omega)
theorem ref01_Size_eq {a : Int} (ha : I64 a) : smaltoref01_Size.f a = some (siz a) := by
  unfold smaltoref01_Size.f siz wrap64
  simp only [u64w]
  split
  · congr 1; omega
  · congr 1; omega
theorem ref01_Hold_eq {k : Nat} (hk : 1 ≤ k) {h l : Int} (hh : U64 h) (hl : U64 l) (b : Bool) : smaltoref01_Hold.f k h l b = some (hold (sgn b (h * 18446744073709551616 + l))) := by
  obtain ⟨k, rfl⟩ : ∃ n, k = n + 1 := ⟨k - 1, by omega⟩
  unfold smaltoref01_Hold.f sgn hold
  cases b
  · simp only [Bool.false_eq_true, if_false]
    rw [if_neg (show ¬ h * 18446744073709551616 + l < -9223372036854775808 from by omega)]
    by_cases c : h > 0
    · rw [if_pos c, if_pos (by omega)]
    · rw [if_neg c]
      by_cases d : l > 9223372036854775807
      · rw [if_pos d, if_pos (by omega)]
      · rw [if_neg d, if_neg (by omega)]; congr 1; unfold wrap64; omega
  · simp only [if_true]
    simp only [smaltoref01_Hold.j0]
    by_cases c : h > 0
    · rw [if_pos c, if_pos trivial, if_pos (by omega)]
    · rw [if_neg c]
      by_cases d : l > 9223372036854775807
      · rw [if_pos (decide_eq_true d)]
        by_cases e : l = 9223372036854775808
        · rw [if_neg (by omega), if_neg (by omega)]; congr 1; omega
        · rw [if_pos (by omega)]
      · rw [if_neg (by simpa using d), if_neg (by omega), if_neg (by omega)]; congr 1; unfold wrap64; omega
theorem ref01_Plus_eq {a b c d : Int} (_ha : U64 a) (hb : U64 b) (_hc : U64 c) (hd : U64 d) :
    smaltoref01_Plus.f a b c d = some ((a + c + (b + d) / 18446744073709551616) % 18446744073709551616, (b + d) % 18446744073709551616) := by
  unfold smaltoref01_Plus.f
  simp only [u64w]
  split
  · congr 2; omega
  · congr 2; omega
theorem ref01_Minus_eq {a b c d : Int} (_ha : U64 a) (hb : U64 b) (_hc : U64 c) (hd : U64 d) :
    smaltoref01_Minus.f a b c d = some ((a - c + (b - d) / 18446744073709551616) % 18446744073709551616, (b - d) % 18446744073709551616) := by
  unfold smaltoref01_Minus.f
  simp only [u64w]
  split
  · congr 2; omega
  · congr 2; omega
theorem ref01_Twice_eq {a b c : Int} (_ha : U64 a) (_hb : U64 b) (_hc : 0 ≤ c ∧ c ≤ 1) :
    smaltoref01_Twice.f a b c = some ((2 * a + b / 9223372036854775808) % 18446744073709551616, (2 * b + c) % 18446744073709551616) := by
  unfold smaltoref01_Twice.f
  simp only [u64w]
  congr 2 <;> omega
theorem ref01_Less_eq {a b c d : Int} (_ha : U64 a) (hb : U64 b) (_hc : U64 c) (hd : U64 d) :
    smaltoref01_Less.f a b c d = some (decide (a * 18446744073709551616 + b < c * 18446744073709551616 + d)) := by
  unfold smaltoref01_Less.f
  split
  · congr 1; exact decide_eq_decide.2 (by omega)
  · congr 1; exact decide_eq_decide.2 (by omega)
theorem ref01_Bit_eq {a b : Int} (ha : U64 a) (hb : U64 b) (i : Nat) (hi : i < 128) :
    smaltoref01_Bit.f a b i = some ((a * 18446744073709551616 + b) / 2 ^ i % 2) := by
  have e64 : (18446744073709551616 : Int) = 2 ^ 64 := by decide
  unfold smaltoref01_Bit.f
  by_cases h : (i : Int) ≥ 64
  · rw [if_pos h, w64_id (show -9223372036854775808 ≤ (i : Int) - 64 from by omega) (by omega), if_pos (by omega), u64and1]
    unfold shr
    simp only [IntKind.bits]
    rw [show ((i : Int) - 64).toNat = i - 64 from by omega, Nat.min_eq_left (by omega)]
    congr 2
    have : (2 : Int) ^ i = 2 ^ 64 * 2 ^ (i - 64) := by rw [← Int.pow_add]; congr 1; omega
    rw [this, ← Int.ediv_ediv_of_nonneg (by decide), ← e64]
    congr 1; omega
  · rw [if_neg h, if_pos (by omega), u64and1]
    unfold shr
    simp only [IntKind.bits]
    rw [show ((i : Int)).toNat = i from by omega, Nat.min_eq_left (by omega)]
    congr 1
    have : (18446744073709551616 : Int) = 2 ^ i * (2 * 2 ^ (63 - i)) := by
      rw [e64, ← pow_succ2, ← Int.pow_add]; congr 1; omega
    rw [this, Int.mul_left_comm, Int.add_comm, Int.add_mul_ediv_left _ _ (by have := pow_pos i; omega), Int.mul_left_comm, Int.add_comm, Int.mul_add_emod_self_left]
theorem ref01_Times_l0 {a b : Int} (ha : U64 a) (hb : U64 b) : ∀ (n : Nat) (k : Nat) (h l : Int), n ≤ 64 → n < k → U64 h → U64 l → h * 18446744073709551616 + l = a * (b / 2 ^ n) →
    smaltoref01_Times.l0 k a b ((n : Int) - 1) h l = some (a * b / 18446744073709551616, a * b % 18446744073709551616) := by
  intro n
  induction n with
  | zero =>
    intro k h l _ hk hh hl he
    obtain ⟨k, rfl⟩ : ∃ n, k = n + 1 := ⟨k - 1, by omega⟩
    unfold smaltoref01_Times.l0
    rw [if_neg (by omega)]
    rw [Int.pow_zero, Int.ediv_one] at he
    rw [← he]
    congr 2 <;> omega
  | succ n ih =>
    intro k h l hn hk hh hl he
    obtain ⟨k, rfl⟩ : ∃ n, k = n + 1 := ⟨k - 1, by omega⟩
    unfold smaltoref01_Times.l0
    rw [show ((n + 1 : Nat) : Int) - 1 = n from by omega, if_pos (by omega), ref01_Twice_eq hh hl (by omega)]
    simp only [Option.bind_some]
    rw [if_pos (by omega), u64and1]
    have hs : shr .u64 b n = b / 2 ^ n := by
      unfold shr
      simp only [IntKind.bits]
      rw [show ((n : Int)).toNat = n from by omega, Nat.min_eq_left (by omega)]
    rw [hs, w64_id (by omega) (by omega)]
    have hh2 := half_pow b n
    have hpn := pow_pos n
    have bl : b / 2 ^ n ≤ b := Int.ediv_le_self _ hb.1
    have b0 : 0 ≤ b / 2 ^ n := Int.ediv_nonneg hb.1 (by omega)
    have m1 : a * (b / 2 ^ n) ≤ 18446744073709551615 * 18446744073709551615 := Int.mul_le_mul (by omega) (by omega) b0 (by decide)
    by_cases hbit : b / 2 ^ n % 2 = 1
    · rw [if_pos hbit, ref01_Plus_eq (by omega) (by omega) (by omega) ha]
      simp only [Option.bind_some]
      have e1 : a * (b / 2 ^ n) = 2 * (a * (b / 2 ^ (n + 1))) + a := by
        rw [hh2, hbit, Int.mul_add, Int.mul_left_comm, Int.mul_one]
      rw [e1] at m1
      refine ih k _ _ (by omega) (by omega) (by omega) (by omega) ?_
      rw [e1]
      generalize a * (b / 2 ^ (n + 1)) = p at *
      omega
    · rw [if_neg hbit]
      have e1 : a * (b / 2 ^ n) = 2 * (a * (b / 2 ^ (n + 1))) := by
        rw [hh2, show b / 2 ^ n % 2 = 0 from by omega, Int.add_zero, Int.mul_left_comm]
      rw [e1] at m1
      refine ih k _ _ (by omega) (by omega) (by omega) (by omega) ?_
      rw [e1]
      generalize a * (b / 2 ^ (n + 1)) = p at *
      omega
theorem ref01_Times_eq {k : Nat} (hk : 65 ≤ k) {a b : Int} (ha : U64 a) (hb : U64 b) :
    smaltoref01_Times.f k a b = some (a * b / 18446744073709551616, a * b % 18446744073709551616) := by
  unfold smaltoref01_Times.f
  refine ref01_Times_l0 ha hb 64 k 0 0 (by omega) (by omega) (by omega) (by omega) ?_
  rw [Int.ediv_eq_zero_of_lt hb.1 (by have : (2 : Int) ^ 64 = 18446744073709551616 := by decide
                                      omega)]
  omega
theorem ref01_Over_l0 {d ah al : Int} (hd : 0 < d ∧ d < 18446744073709551616) (hah : U64 ah) (hal : U64 al) : ∀ (n : Nat) (k : Nat) (qh ql rh rl : Int), n ≤ 128 → n < k → U64 qh → U64 ql → U64 rh → U64 rl →
    rh * 18446744073709551616 + rl < d → (qh * 18446744073709551616 + ql) * d + (rh * 18446744073709551616 + rl) = (ah * 18446744073709551616 + al) / 2 ^ n →
    smaltoref01_Over.l0 k d ((n : Int) - 1) ah al qh ql rh rl =
      some ((ah * 18446744073709551616 + al) / d / 18446744073709551616, (ah * 18446744073709551616 + al) / d % 18446744073709551616, (ah * 18446744073709551616 + al) % d) := by
  intro n
  generalize hA : ah * 18446744073709551616 + al = A
  induction n with
  | zero =>
    intro k qh ql rh rl _ hk hqh hql hrh hrl hr he
    obtain ⟨k, rfl⟩ : ∃ n, k = n + 1 := ⟨k - 1, by omega⟩
    unfold smaltoref01_Over.l0
    rw [if_neg (by omega)]
    rw [Int.pow_zero, Int.ediv_one] at he
    obtain ⟨u1, u2⟩ := div_unique he (by omega) hr
    rw [u1, u2]
    congr 2
    · omega
    · congr 1 <;> omega
  | succ n ih =>
    intro k qh ql rh rl hn hk hqh hql hrh hrl hr he
    obtain ⟨k, rfl⟩ : ∃ n, k = n + 1 := ⟨k - 1, by omega⟩
    unfold smaltoref01_Over.l0
    rw [show ((n + 1 : Nat) : Int) - 1 = n from by omega, if_pos (by omega), ref01_Bit_eq hah hal n (by omega), hA]
    simp only [Option.bind_some]
    have hh2 := half_pow A n
    have hpn := pow_pos n
    have A0 : 0 ≤ A := by omega
    have al1 : A / 2 ^ n ≤ A := Int.ediv_le_self _ A0
    generalize hbit : A / 2 ^ n % 2 = bit at *
    have hb : 0 ≤ bit ∧ bit ≤ 1 := by omega
    rw [ref01_Twice_eq hrh hrl hb, ref01_Twice_eq hqh hql (by omega)]
    simp only [Option.bind_some]
    rw [ref01_Less_eq (by omega) (by omega) (by omega) (by omega)]
    simp only [Option.bind_some]
    rw [w64_id (by omega) (by omega)]
    have q0 : 0 ≤ qh * 18446744073709551616 + ql := by omega
    have qd : qh * 18446744073709551616 + ql ≤ (qh * 18446744073709551616 + ql) * d := by
      calc qh * 18446744073709551616 + ql = (qh * 18446744073709551616 + ql) * 1 := by rw [Int.mul_one]
        _ ≤ _ := Int.mul_le_mul_of_nonneg_left (by omega) q0
    generalize hQ : qh * 18446744073709551616 + ql = Q at *
    have e2 : (2 * Q) * d = 2 * (Q * d) := Int.mul_assoc _ _ _
    have e3 : (2 * Q + 1) * d = 2 * (Q * d) + d := by rw [Int.add_mul, e2, Int.one_mul]
    generalize hP : Q * d = P at *
    by_cases hl : 2 * (rh * 18446744073709551616 + rl) + bit < d
    · rw [if_pos (decide_eq_true (by omega))]
      refine ih k _ _ _ _ (by omega) (by omega) (by omega) (by omega) (by omega) (by omega) (by omega) ?_
      rw [show (2 * qh + ql / 9223372036854775808) % 18446744073709551616 * 18446744073709551616 + (2 * ql + 0) % 18446744073709551616 = 2 * Q from by omega, e2]
      omega
    · rw [if_neg (by simp; omega), ref01_Minus_eq (by omega) (by omega) (by omega) (by omega)]
      simp only [Option.bind_some, u64w]
      refine ih k _ _ _ _ (by omega) (by omega) (by omega) (by omega) (by omega) (by omega) (by omega) ?_
      rw [show (2 * qh + ql / 9223372036854775808) % 18446744073709551616 * 18446744073709551616 + ((2 * ql + 0) % 18446744073709551616 + 1) % 18446744073709551616 = 2 * Q + 1 from by omega, e3]
      omega
theorem ref01_Over_eq {k : Nat} (hk : 129 ≤ k) {d ah al : Int} (hd : 0 < d ∧ d < 18446744073709551616) (hah : U64 ah) (hal : U64 al) :
    smaltoref01_Over.f k ah al d = some ((ah * 18446744073709551616 + al) / d / 18446744073709551616, (ah * 18446744073709551616 + al) / d % 18446744073709551616, (ah * 18446744073709551616 + al) % d) := by
  unfold smaltoref01_Over.f
  rw [if_neg (by omega)]
  refine ref01_Over_l0 hd hah hal 128 k 0 0 0 0 (by omega) (by omega) (by omega) (by omega) (by omega) (by omega) (by omega) ?_
  rw [Int.ediv_eq_zero_of_lt (by omega) (by have : (2 : Int) ^ 128 = 340282366920938463463374607431768211456 := by decide
                                            omega)]
  omega
theorem ref01_Nearest_eq {k : Nat} (hk : 129 ≤ k) {d ah al : Int} (hd : 0 < d ∧ d < 18446744073709551616) (hah : U64 ah) (hal : U64 al) (s : Bool) :
    smaltoref01_Nearest.f k ah al d s = some (hold (rdiv (sgn s (ah * 18446744073709551616 + al)) d)) := by
  unfold smaltoref01_Nearest.f
  rw [ref01_Over_eq hk hd hah hal]
  simp only [Option.bind_some]
  generalize hA : ah * 18446744073709551616 + al = A
  have A0 : 0 ≤ A := by omega
  have r0 := Int.emod_nonneg A (show d ≠ 0 from by omega)
  have r1 := Int.emod_lt_of_pos A hd.1
  have q0 : 0 ≤ A / d := Int.ediv_nonneg A0 (by omega)
  have q1 : A / d ≤ A := Int.ediv_le_self _ A0
  have q2 : 2 ≤ d → 2 * (A / d) ≤ A := by
    intro h2
    have := Int.mul_ediv_add_emod A d
    have h3 : 2 * (A / d) ≤ d * (A / d) := Int.mul_le_mul_of_nonneg_right h2 q0
    omega
  rw [rdiv_sgn s A0 hd.1]
  generalize A / d = q at *
  generalize A % d = r at *
  rw [ref01_Twice_eq (by omega) (by omega) (by omega)]
  simp only [Option.bind_some]
  rw [ref01_Less_eq (by omega) (by omega) (by omega) (by omega), ref01_Less_eq (by omega) (by omega) (by omega) (by omega)]
  simp only [Option.bind_some]
  obtain ⟨k, rfl⟩ : ∃ n, k = n + 1 := ⟨k - 1, by omega⟩
  simp only [smaltoref01_Nearest.j0]
  cases s
  · simp only [Bool.false_eq_true, if_false]
    by_cases c : r ≥ d - r
    · rw [if_pos (by simp; omega), if_pos c, ref01_Plus_eq (by omega) (by omega) (by omega) (by omega)]
      simp only [Option.bind_some]
      rw [ref01_Hold_eq (by omega) (by omega) (by omega)]
      simp only [Option.bind_some]
      congr 3; omega
    · rw [if_neg (by simp; omega), if_neg c, ref01_Hold_eq (by omega) (by omega) (by omega)]
      simp only [Option.bind_some]
      congr 3; omega
  · simp only [if_true]
    by_cases c : r > d - r
    · rw [if_pos (decide_eq_true (by omega)), if_pos c, ref01_Plus_eq (by omega) (by omega) (by omega) (by omega)]
      simp only [Option.bind_some]
      rw [ref01_Hold_eq (by omega) (by omega) (by omega)]
      simp only [Option.bind_some]
      congr 3; omega
    · rw [if_neg (by simp; omega), if_neg c, ref01_Hold_eq (by omega) (by omega) (by omega)]
      simp only [Option.bind_some]
      congr 3; omega
theorem ref01_Floor_eq {k : Nat} (hk : 129 ≤ k) {a b : Int} (ha : I64 a) (hb : I64 b) : smaltoref01_Floor.f k a b = some (hold (flo a b)) := by
  unfold smaltoref01_Floor.f
  by_cases hb0 : b = 0
  · rw [if_pos hb0, hb0]; simp [flo, hold]
  have ua := siz_u ha
  have ub := siz_u hb
  have ub0 : siz b ≠ 0 := fun h => hb0 (siz_zero.1 h)
  rw [if_neg hb0, ref01_Size_eq ha, ref01_Size_eq hb]
  simp only [Option.bind_some]
  rw [ref01_Over_eq hk (by omega) (by omega) (by omega)]
  simp only [Option.bind_some]
  have e := flo_xor (decide (a < 0)) b (siz a) hb0
  rw [sgn_siz a, flo_sgn _ (by omega)] at e
  rw [← e]
  generalize (decide (a < 0) != decide (b < 0)) = s
  rw [show 0 * 18446744073709551616 + siz a = siz a from by omega]
  have q0 : 0 ≤ siz a / siz b := Int.ediv_nonneg ua.1 ub.1
  have q1 : siz a / siz b ≤ siz a := Int.ediv_le_self _ ua.1
  have r0 := Int.emod_nonneg (siz a) ub0
  generalize siz a / siz b = q at *
  generalize siz a % siz b = r at *
  obtain ⟨k, rfl⟩ : ∃ n, k = n + 1 := ⟨k - 1, by omega⟩
  simp only [smaltoref01_Floor.j0]
  cases s
  · simp only [Bool.false_eq_true, if_false, false_and]
    rw [ref01_Hold_eq (by omega) (by omega) (by omega)]
    simp only [Option.bind_some]
    congr 3; omega
  · simp only [if_true, true_and]
    by_cases c : r = 0
    · rw [if_neg (by simp; omega), if_neg (by simpa using c), ref01_Hold_eq (by omega) (by omega) (by omega)]
      simp only [Option.bind_some]
      congr 3; omega
    · rw [if_pos (by simp; omega), if_pos c, ref01_Plus_eq (by omega) (by omega) (by omega) (by omega)]
      simp only [Option.bind_some]
      rw [ref01_Hold_eq (by omega) (by omega) (by omega)]
      simp only [Option.bind_some]
      congr 3; omega
theorem pow_mul_succ (a : Int) (i : Nat) : a / 2 ^ i * 2 ^ i = a / 2 ^ (i + 1) * 2 ^ (i + 1) + a / 2 ^ i % 2 * 2 ^ i := by
  have h := half_pow a i
  rw [pow_succ2] at h
  rw [pow_succ2, Int.mul_left_comm, ← Int.mul_assoc, ← Int.add_mul]
  congr 1
theorem ref01_Shift_l3 (x sh sl mh ml qh ql rh rl : Int) (i : Nat) (hi : i ≤ 127) (hrh : U64 rh) (hrl : U64 rl) (hr : 2 ^ i ≤ rh * 18446744073709551616 + rl) : ∀ (d k j : Nat) (ph pl : Int), j + d = i → d < k → U64 ph → U64 pl →
    ph * 18446744073709551616 + pl = 2 ^ j →
    ∃ rh' rl' : Int, U64 rh' ∧ U64 rl' ∧ rh' * 18446744073709551616 + rl' = rh * 18446744073709551616 + rl - 2 ^ i ∧
    smaltoref01_Shift.l3 k x (i : Int) (i : Int) (j : Int) sh sl mh ml qh ql rh rl ph pl = smaltoref01_Shift.l2 (k - d - 1) x ((i + 1 : Nat) : Int) sh sl mh ml qh ql rh' rl' := by
  have hb : (2 : Int) ^ i ≤ 170141183460469231731687303715884105728 := by
    calc (2 : Int) ^ i ≤ 2 ^ 127 := pow_le hi
      _ = _ := by decide
  intro d
  induction d with
  | zero =>
    intro k j ph pl hj hk hph hpl he
    obtain ⟨k, rfl⟩ : ∃ m, k = m + 1 := ⟨k - 1, by omega⟩
    rw [smaltoref01_Shift.l3, if_neg (by omega), ref01_Minus_eq hrh hrl hph hpl]
    simp only [Option.bind_some]
    obtain rfl : j = i := by omega
    rw [w64_id (by omega) (by omega)]
    have hp := pow_pos j
    generalize (2 : Int) ^ j = p at *
    exact ⟨_, _, by omega, by omega, by omega, rfl⟩
  | succ d ih =>
    intro k j ph pl hj hk hph hpl he
    obtain ⟨k, rfl⟩ : ∃ m, k = m + 1 := ⟨k - 1, by omega⟩
    rw [smaltoref01_Shift.l3, if_pos (by omega), ref01_Twice_eq hph hpl (by omega)]
    simp only [Option.bind_some]
    rw [w64_id (by omega) (by omega), show ((j : Int) + 1) = ((j + 1 : Nat) : Int) from by omega]
    have hp := pow_pos j
    have hp2 : (2 : Int) ^ (j + 1) ≤ 2 ^ i := pow_le (by omega)
    rw [pow_succ2] at hp2
    obtain ⟨r1, r2, a1, a2, a3, a4⟩ := ih k (j + 1) _ _ (by omega) (by omega) (show U64 ((2 * ph + pl / 9223372036854775808) % 18446744073709551616) from by omega) (show U64 ((2 * pl + 0) % 18446744073709551616) from by omega) (by
      rw [pow_succ2]; generalize (2 : Int) ^ j = p at *; omega)
    refine ⟨r1, r2, a1, a2, a3, ?_⟩
    rw [a4, show k + 1 - (d + 1) - 1 = k - d - 1 from by omega]
theorem ref01_Shift_j4 {k : Nat} (hk : 2 ≤ k) (x : Int) (u : Bool) {qh ql : Int} (hqh : U64 qh) (hql : U64 ql) (hq : qh * 18446744073709551616 + ql < 340282366920938463463374607431768211455) :
    smaltoref01_Shift.j4 k x u qh ql = some (hold (sgn (decide (x < 0)) (qh * 18446744073709551616 + ql + if u = true then 1 else 0))) := by
  obtain ⟨k, rfl⟩ : ∃ m, k = m + 1 := ⟨k - 1, by omega⟩
  rw [smaltoref01_Shift.j4]
  cases u
  · rw [if_neg (by decide), if_neg (by decide), ref01_Hold_eq (by omega) hqh hql]
    simp only [Option.bind_some]; congr 3; omega
  · rw [if_pos rfl, if_pos rfl, ref01_Plus_eq hqh hql (by omega) (by omega)]
    simp only [Option.bind_some]
    rw [ref01_Hold_eq (by omega) (by omega) (by omega)]
    simp only [Option.bind_some]; congr 3; omega
theorem ref01_Shift_l2 (x sh sl mh ml qh ql : Int) (n : Nat) (hsh : U64 sh) (hsl : U64 sl) (hmh : U64 mh) (hml : U64 ml) (hqh : U64 qh) (hql : U64 ql)
    (hq : qh * 18446744073709551616 + ql < 340282366920938463463374607431768211455) (R : Int) (hR : (mh * 18446744073709551616 + ml) % 2 ^ n = R) : ∀ (d k i : Nat) (rh rl : Int), i + d = 128 → d * 200 + 10 < k → U64 rh → U64 rl →
    rh * 18446744073709551616 + rl = R + (mh * 18446744073709551616 + ml) / 2 ^ i * 2 ^ i →
    smaltoref01_Shift.l2 k x (i : Int) sh sl mh ml qh ql rh rl = some (hold (sgn (decide (x < 0)) (qh * 18446744073709551616 + ql +
      if (if x < 0 then decide (sh * 18446744073709551616 + sl < R) else !decide (R < sh * 18446744073709551616 + sl)) = true then 1 else 0))) := by
  have R0 : 0 ≤ R := by rw [← hR]; exact Int.emod_nonneg _ (by have := pow_pos n; omega)
  intro d
  induction d with
  | zero =>
    intro k i rh rl hi hk hrh hrl he
    obtain ⟨k, rfl⟩ : ∃ m, k = m + 1 := ⟨k - 1, by omega⟩
    rw [Int.ediv_eq_zero_of_lt (by omega) (by rw [show i = 128 from by omega]; have : (2 : Int) ^ 128 = 340282366920938463463374607431768211456 := by decide
                                              omega)] at he
    rw [smaltoref01_Shift.l2, if_neg (by omega), ref01_Less_eq hrh hrl hsh hsl, ref01_Less_eq hsh hsl hrh hrl]
    simp only [Option.bind_some]
    rw [show rh * 18446744073709551616 + rl = R from by omega]
    split
    · rw [ref01_Shift_j4 (by omega) x _ hqh hql hq]
    · rw [ref01_Shift_j4 (by omega) x _ hqh hql hq]
  | succ d ih =>
    intro k i rh rl hi hk hrh hrl he
    obtain ⟨k, rfl⟩ : ∃ m, k = m + 1 := ⟨k - 1, by omega⟩
    rw [smaltoref01_Shift.l2, if_pos (by omega), ref01_Bit_eq hmh hml i (by omega)]
    simp only [Option.bind_some]
    have hs := pow_mul_succ (mh * 18446744073709551616 + ml) i
    have hq0 : 0 ≤ (mh * 18446744073709551616 + ml) / 2 ^ (i + 1) * 2 ^ (i + 1) := Int.mul_nonneg (Int.ediv_nonneg (by omega) (by have := pow_pos (i + 1); omega)) (by have := pow_pos (i + 1); omega)
    split
    · rename_i hb
      rw [hb, Int.one_mul] at hs
      obtain ⟨r1, r2, a1, a2, a3, a4⟩ := ref01_Shift_l3 x sh sl mh ml qh ql rh rl i (by omega) hrh hrl (by omega) i k 0 0 1 (by omega) (by omega) (by omega) (by omega) (by decide)
      have a4' : smaltoref01_Shift.l3 k x (i : Int) (i : Int) 0 sh sl mh ml qh ql rh rl 0 1 = _ := a4
      rw [a4', ih (k - i - 1) (i + 1) r1 r2 (by omega) (by omega) a1 a2 (by omega)]
    · rename_i hb
      rw [show (mh * 18446744073709551616 + ml) / 2 ^ i % 2 = 0 from by omega, Int.zero_mul, Int.add_zero] at hs
      rw [w64_id (by omega) (by omega), show ((i : Int) + 1) = ((i + 1 : Nat) : Int) from by omega]
      exact ih k (i + 1) rh rl (by omega) (by omega) hrh hrl (by omega)
theorem ref01_Shift_l1 (x sh sl mh ml : Int) (n : Nat) (hn : 1 ≤ n ∧ n ≤ 64) (hsh : U64 sh) (hsl : U64 sl) (hmh : U64 mh) (hml : U64 ml) : ∀ (d k : Nat) (qh ql : Int), d + n ≤ 128 → d + 30000 < k → U64 qh → U64 ql →
    qh * 18446744073709551616 + ql = (mh * 18446744073709551616 + ml) / 2 ^ (n + d) →
    smaltoref01_Shift.l1 k x (n : Int) (((n + d : Nat) : Int) - 1) sh sl mh ml qh ql = some (hold (sgn (decide (x < 0)) ((mh * 18446744073709551616 + ml) / 2 ^ n +
      if (if x < 0 then decide (sh * 18446744073709551616 + sl < (mh * 18446744073709551616 + ml) % 2 ^ n) else !decide ((mh * 18446744073709551616 + ml) % 2 ^ n < sh * 18446744073709551616 + sl)) = true then 1 else 0))) := by
  intro d
  have hn2 : (2 : Int) ≤ 2 ^ n := by
    calc (2 : Int) = 2 ^ 1 := by decide
      _ ≤ 2 ^ n := pow_le (by omega)
  have hh : ∀ a : Int, 0 ≤ a → 2 * (a / 2 ^ n) ≤ a := by
    intro a ha
    have := Int.mul_ediv_add_emod a (2 ^ n)
    have h0 := Int.emod_nonneg a (show (2 : Int) ^ n ≠ 0 from by omega)
    have h1 : 2 * (a / 2 ^ n) ≤ 2 ^ n * (a / 2 ^ n) := Int.mul_le_mul_of_nonneg_right hn2 (Int.ediv_nonneg ha (by omega))
    omega
  induction d with
  | zero =>
    intro k qh ql hd hk hqh hql he
    obtain ⟨k, rfl⟩ : ∃ m, k = m + 1 := ⟨k - 1, by omega⟩
    rw [smaltoref01_Shift.l1, if_neg (by omega)]
    rw [Nat.add_zero] at he
    have := hh (mh * 18446744073709551616 + ml) (by omega)
    have e := Int.mul_ediv_add_emod (mh * 18446744073709551616 + ml) (2 ^ n)
    rw [ref01_Shift_l2 x sh sl mh ml qh ql n hsh hsl hmh hml hqh hql (by omega) _ rfl (128 - n) k n mh ml (by omega) (by omega) hmh hml (by rw [Int.mul_comm ((mh * 18446744073709551616 + ml) / 2 ^ n)]; omega), he]
  | succ d ih =>
    intro k qh ql hd hk hqh hql he
    obtain ⟨k, rfl⟩ : ∃ m, k = m + 1 := ⟨k - 1, by omega⟩
    rw [smaltoref01_Shift.l1, if_pos (by omega), show (((n + (d + 1) : Nat) : Int) - 1) = ((n + d : Nat) : Int) from by omega, ref01_Bit_eq hmh hml (n + d) (by omega)]
    simp only [Option.bind_some]
    rw [ref01_Twice_eq hqh hql (by omega), w64_id (by omega) (by omega)]
    simp only [Option.bind_some]
    have hs := half_pow (mh * 18446744073709551616 + ml) (n + d)
    have hq : (mh * 18446744073709551616 + ml) / 2 ^ (n + d) ≤ mh * 18446744073709551616 + ml := Int.ediv_le_self _ (by omega)
    rw [show n + (d + 1) = n + d + 1 from rfl] at he
    exact ih k _ _ (by omega) (by omega) (by omega) (by omega) (by omega)
theorem ref01_Shift_l0 (x : Int) (hx : I64 x) (n : Nat) (hn : 1 ≤ n ∧ n ≤ 64) : ∀ (d k i : Nat) (ph pl : Int), i + d + 1 = n → d + 40000 < k → U64 ph → U64 pl → ph * 18446744073709551616 + pl = 2 ^ i →
    smaltoref01_Shift.l0 k x (n : Int) ((n : Int) - 1) (i : Int) ph pl = some (hold (rdiv x (2 ^ n))) := by
  intro d
  induction d with
  | zero =>
    intro k i ph pl hi hk hph hpl he
    obtain ⟨k, rfl⟩ : ∃ m, k = m + 1 := ⟨k - 1, by omega⟩
    have u := siz_u hx
    rw [smaltoref01_Shift.l0, if_neg (by omega), ref01_Size_eq hx]
    simp only [Option.bind_some]
    have p128 : (2 : Int) ^ 128 = 340282366920938463463374607431768211456 := by decide
    have h := ref01_Shift_l1 x ph pl 0 (siz x) n hn hph hpl (by omega) (by omega) (128 - n) k 0 0 (by omega) (by omega) (by omega) (by omega) (by
      rw [show n + (128 - n) = 128 from by omega, Int.ediv_eq_zero_of_lt (by omega) (by omega)]; rfl)
    rw [show (((n + (128 - n) : Nat) : Int) - 1) = 127 from by omega] at h
    rw [h]
    rw [show 0 * 18446744073709551616 + siz x = siz x from by omega, he]
    have e : rdiv x (2 ^ n) = rdiv (sgn (decide (x < 0)) (siz x)) (2 ^ n) := by rw [sgn_siz]
    rw [e, rdiv_sgn _ u.1 (pow_pos n)]
    have h2 : (2 : Int) ^ n = 2 * 2 ^ i := by rw [← pow_succ2]; congr 1; omega
    have r0 := Int.emod_nonneg (siz x) (show (2 : Int) ^ n ≠ 0 from by have := pow_pos n; omega)
    generalize siz x % 2 ^ n = r at *
    generalize siz x / 2 ^ n = q at *
    rw [h2]
    generalize (2 : Int) ^ i = p at *
    congr 3
    by_cases c : x < 0
    · rw [if_pos c, if_pos (decide_eq_true c)]
      by_cases g : p < r
      · rw [if_pos (decide_eq_true g), if_pos (by omega)]
      · rw [if_neg (by simpa using g), if_neg (by omega)]; omega
    · rw [if_neg c, if_neg (show ¬ (decide (x < 0) = true) from by simpa using c)]
      by_cases g : r < p
      · rw [if_neg (by simpa using g), if_neg (by omega)]; omega
      · rw [if_pos (by simpa using g), if_pos (by omega)]
  | succ d ih =>
    intro k i ph pl hi hk hph hpl he
    obtain ⟨k, rfl⟩ : ∃ m, k = m + 1 := ⟨k - 1, by omega⟩
    rw [smaltoref01_Shift.l0, if_pos (by omega), ref01_Twice_eq hph hpl (by omega)]
    simp only [Option.bind_some]
    rw [w64_id (by omega) (by omega), show ((i : Int) + 1) = ((i + 1 : Nat) : Int) from by omega]
    have hp := pow_pos i
    have hb : (2 : Int) ^ i ≤ 9223372036854775808 := by
      calc (2 : Int) ^ i ≤ 2 ^ 63 := pow_le (by omega)
        _ = _ := by decide
    exact ih k (i + 1) _ _ (by omega) (by omega) (by omega) (by omega) (by rw [pow_succ2]; omega)
theorem ref01_Shift_eq {k : Nat} (hk : 50000 ≤ k) {x n : Int} (hx : I64 x) (hn : I64 n) : smaltoref01_Shift.f k x n = some (sh x n) := by
  unfold smaltoref01_Shift.f sh
  by_cases h0 : n < 1
  · rw [if_pos h0, if_pos (by omega)]
  rw [if_neg h0, if_neg (show ¬ n ≤ 0 from by omega)]
  by_cases h1 : n > 64
  · rw [if_pos h1, rdiv_far (x := x) _ hx]
    calc (18446744073709551616 : Int) = 2 ^ 64 := by decide
      _ ≤ 2 ^ n.toNat := pow_le (by omega)
  rw [if_neg h1, w64_id (by omega) (by omega)]
  have e : n = (n.toNat : Int) := by omega
  have h := ref01_Shift_l0 x hx n.toNat (by omega) (n.toNat - 1) k 0 0 1 (by omega) (by omega) (by omega) (by omega) (by decide)
  rw [← e] at h
  have h' : smaltoref01_Shift.l0 k x n (n - 1) 0 0 1 = _ := h
  rw [h']
  congr 1
  refine hold_id ?_ ?_
  · rw [rdiv_pow x n.toNat (by omega)]
    have hp := pow_pos n.toNat
    have : -9223372036854775808 ≤ x / 2 ^ n.toNat := by
      rw [Int.le_ediv_iff_mul_le hp]
      have : -9223372036854775808 * 2 ^ n.toNat ≤ -9223372036854775808 * 1 := Int.mul_le_mul_of_nonpos_left (by decide) (by omega)
      omega
    omega
  · rw [rdiv_pow x n.toNat (by omega)]
    have h2 : (2 : Int) ≤ 2 ^ n.toNat := by
      calc (2 : Int) = 2 ^ 1 := by decide
        _ ≤ 2 ^ n.toNat := pow_le (by omega)
    have : x / 2 ^ n.toNat < 4611686018427387904 := by
      rw [Int.ediv_lt_iff_lt_mul (pow_pos _)]
      calc x < 4611686018427387904 * 2 := by omega
        _ ≤ 4611686018427387904 * 2 ^ n.toNat := Int.mul_le_mul_of_nonneg_left h2 (by decide)
    omega
theorem wide_size_eq {a : Int} (ha : I64 a) : wide_size.f a = some (siz a) := by
  unfold wide_size.f siz
  simp only [u64w]
  split
  · congr 1; omega
  · congr 1; omega
theorem wide_product_eq {a b : Int} (ha : I64 a) (hb : I64 b) : wide_product.f a b = some (siz a * siz b / 18446744073709551616, siz a * siz b % 18446744073709551616, ((decide (a < 0)) != (decide (b < 0)))) := by
  have ua := siz_u ha
  have ub := siz_u hb
  unfold wide_product.f
  rw [wide_size_eq ha, wide_size_eq hb]
  simp only [Option.bind_some]
  rw [bits_Mul64_eq (by omega) (by omega)]
  rfl
theorem wide_signed_eq {k : Nat} (hk : 1 ≤ k) {h l : Int} (hh : U64 h) (hl : U64 l) (b : Bool) : wide_signed.f k h l b = some (hold (sgn b (h * 18446744073709551616 + l))) := by
  obtain ⟨k, rfl⟩ : ∃ n, k = n + 1 := ⟨k - 1, by omega⟩
  unfold wide_signed.f sgn hold
  simp only [wide_signed.j0, u64w]
  cases b
  · simp only [Bool.false_eq_true, if_false]
    rw [if_neg (show ¬ h * 18446744073709551616 + l < -9223372036854775808 from by omega)]
    by_cases c : h > 0
    · rw [if_pos c, if_pos (by omega)]
    · rw [if_neg c]
      by_cases d : l > 9223372036854775807
      · rw [if_pos d, if_pos (by omega)]
      · rw [if_neg d, if_neg (by omega)]; congr 1; unfold wrap64; omega
  · simp only [if_true]
    by_cases c : h > 0
    · rw [if_pos c, if_pos (by omega)]
    · rw [if_neg c]
      by_cases d : l > 9223372036854775808
      · rw [if_pos (decide_eq_true d), if_pos (by omega)]
      · rw [if_neg (show ¬ (decide (l > 9223372036854775808) = true) from by simpa using d), if_neg (by omega), if_neg (by omega)]; congr 1; unfold wrap64; omega
theorem bitLen_spec : ∀ x : Nat, x ≠ 0 → x < 18446744073709551616 → ∃ m, Lib.bitLen x = m + 1 ∧ 2 ^ m ≤ x ∧ x < 2 ^ (m + 1) ∧ m ≤ 63 := by
  intro x
  induction x using Nat.strongRecOn with
  | ind x ih =>
    intro h0 h1
    rw [Lib.bitLen_half x h0 (by have : (2 : Nat) ^ 64 = 18446744073709551616 := by decide
                                 omega)]
    by_cases h : x / 2 = 0
    · refine ⟨0, ?_, by simp; omega, by simp; omega, by decide⟩
      rw [h]; rfl
    · obtain ⟨m, e, a, b, c⟩ := ih (x / 2) (by omega) h (by omega)
      have hp := Nat.pow_succ (n := 2) (m := m)
      have hp2 := Nat.pow_succ (n := 2) (m := m + 1)
      refine ⟨m + 1, by rw [e]; omega, by omega, by omega, ?_⟩
      refine Nat.le_of_not_lt fun hm => ?_
      have : (2 : Nat) ^ 64 ≤ 2 ^ (m + 1) := Nat.pow_le_pow_right (by decide) (by omega)
      have e64 : (2 : Nat) ^ 64 = 18446744073709551616 := by decide
      omega
/-- A quotient's digit, guessed: too great. -/
theorem knuth_down {y1 y0 u v q r Q y : Int} (hy : y = y1 * 4294967296 + y0) (y00 : 0 ≤ y0) (hy1 : 0 < y1)
    (hQ0 : Q * y ≤ u * 4294967296 + v) (huv : u < y) (hv : v < 4294967296) (hq : q * y1 + r = u) (hc : q ≥ 4294967296 ∨ q * y0 > 4294967296 * r + v) : Q ≤ q - 1 := by
  have hyp : 0 < y := by omega
  refine Int.le_of_lt_add_one ?_
  rw [Int.sub_add_cancel]
  refine Int.lt_of_not_ge fun hle => ?_
  rcases hc with hc | hc
  · have h1 : 4294967296 * y ≤ Q * y := Int.mul_le_mul_of_nonneg_right (by omega) (by omega)
    omega
  · have h1 : q * y ≤ Q * y := Int.mul_le_mul_of_nonneg_right hle (by omega)
    have h2 : q * y = q * y1 * 4294967296 + q * y0 := by rw [hy, Int.mul_add, Int.mul_assoc]
    generalize q * y1 = p at *
    generalize q * y0 = s at *
    generalize q * y = t at *
    omega
theorem knuth_le {y1 y0 u v q r Q y : Int} (hy : y = y1 * 4294967296 + y0) (hyp : 0 < y) (hQ1 : u * 4294967296 + v < (Q + 1) * y)
    (hle : q * y ≤ u * 4294967296 + v) : q ≤ Q := by
  refine Int.le_of_lt_add_one ?_
  refine Int.lt_of_not_ge fun h => ?_
  have h1 : (Q + 1) * y ≤ q * y := Int.mul_le_mul_of_nonneg_right h (by omega)
  omega
theorem knuth_stop {y1 y0 u v q r Q y : Int} (hy : y = y1 * 4294967296 + y0) (hyp : 0 < y) (hQ1 : u * 4294967296 + v < (Q + 1) * y) (hv : 0 ≤ v)
    (hq : q * y1 + r = u) (hc : (q * y0 ≤ 4294967296 * r + v) ∨ (0 ≤ y0 ∧ y0 < 4294967296 ∧ 0 ≤ q ∧ q ≤ 4294967296 ∧ r ≥ 4294967296)) : q ≤ Q := by
  refine knuth_le (y1 := y1) (y0 := y0) (r := r) hy hyp hQ1 ?_
  have h2 : q * y = q * y1 * 4294967296 + q * y0 := by rw [hy, Int.mul_add, Int.mul_assoc]
  rcases hc with hc | ⟨a, b, c, d, e⟩
  · generalize q * y1 = p at *
    generalize q * y0 = s at *
    generalize q * y = t at *
    omega
  · have h3 : q * y0 ≤ 4294967296 * 4294967296 := Int.mul_le_mul d (by omega) a (by decide)
    generalize q * y1 = p at *
    generalize q * y0 = s at *
    generalize q * y = t at *
    omega
theorem knuth_first {y1 y0 u y : Int} (hy : y = y1 * 4294967296 + y0) (y00 : y0 < 4294967296) (hy1 : 2147483648 ≤ y1) (hu : u < y) : u / y1 ≤ 4294967297 := by
  refine Int.le_of_lt_add_one ?_
  rw [Int.ediv_lt_iff_lt_mul (by omega)]
  omega
theorem Div64_l0 (y s y1 y0 u v w Q : Int) (hy : y = y1 * 4294967296 + y0) (y00 : 0 ≤ y0 ∧ y0 < 4294967296) (hy1 : 2147483648 ≤ y1 ∧ y1 < 4294967296) (hu : 0 ≤ u ∧ u < y) (hv : 0 ≤ v ∧ v < 4294967296)
    (hQ0 : Q * y ≤ u * 4294967296 + v) (hQ1 : u * 4294967296 + v < (Q + 1) * y) : ∀ (n k : Nat) (q r : Int), 4294967296 ≤ n * 2147483648 + r → 0 ≤ r → r < 4294967296 → 2 * n + 4 ≤ k → q * y1 + r = u → Q ≤ q → 0 ≤ Q → q ≤ 4294967297 →
    ∃ k', k ≤ k' + 2 * n + 4 ∧ bits_Div64.l0 k y s y1 y0 u v w q r = bits_Div64.j2 k' y s y1 y0 u v w Q := by
  intro n
  induction n with
  | zero => intro k q r h0 h1 h2; omega
  | succ n ih =>
    intro k q r h0 hr0 hr1 hk hq hQ hQ00 hqb
    obtain ⟨k, rfl⟩ : ∃ m, k = m + 2 := ⟨k - 2, by omega⟩
    rw [bits_Div64.l0]
    have up : (q ≥ 4294967296 ∨ q * y0 > 4294967296 * r + v) → ∃ k', k + 2 ≤ k' + 2 * (n + 1) + 4 ∧ bits_Div64.j1 (k + 1) y s y1 y0 u v w q r true = bits_Div64.j2 k' y s y1 y0 u v w Q := by
      intro hc
      have hd := knuth_down hy y00.1 (by omega) hQ0 hu.2 hv.2 hq hc
      have hq' : (q - 1) * y1 + (r + y1) = u := by rw [Int.sub_mul, Int.one_mul]; omega
      rw [bits_Div64.j1, if_pos rfl, u64w, u64w, show (r + y1) % 18446744073709551616 = r + y1 from by omega, show (q - 1) % 18446744073709551616 = q - 1 from by omega]
      by_cases hc2 : r + y1 ≥ 4294967296
      · rw [if_pos hc2]
        have hs := knuth_stop hy (by omega) hQ1 hv.1 hq' (Or.inr ⟨y00.1, y00.2, by omega, by omega, hc2⟩)
        exact ⟨k, by omega, by rw [show Q = q - 1 from by omega]⟩
      · rw [if_neg hc2]
        obtain ⟨k', a, b⟩ := ih k (q - 1) (r + y1) (by omega) (by omega) (by omega) (by omega) hq' hd hQ00 (by omega)
        exact ⟨k', by omega, b⟩
    by_cases hc1 : q ≥ 4294967296
    · rw [if_pos hc1]; exact up (Or.inl hc1)
    · rw [if_neg hc1]
      have p0 : 0 ≤ q * y0 := Int.mul_nonneg (by omega) y00.1
      have p1 : q * y0 ≤ 4294967295 * 4294967295 := Int.mul_le_mul (by omega) (by omega) y00.1 (by decide)
      simp only [u64w]
      rw [show (q * y0) % 18446744073709551616 = q * y0 from by omega, show ((4294967296 * r) % 18446744073709551616 + v) % 18446744073709551616 = 4294967296 * r + v from by omega]
      by_cases hc2 : q * y0 > 4294967296 * r + v
      · rw [decide_eq_true hc2]; exact up (Or.inr hc2)
      · rw [decide_eq_false hc2, bits_Div64.j1, if_neg (by decide)]
        have hs := knuth_stop hy (by omega) hQ1 hv.1 hq (Or.inl (by omega))
        exact ⟨k, by omega, by rw [show Q = q from by omega]⟩
theorem Div64_l1 (y s y1 y0 w q1 u Q : Int) (hy : y = y1 * 4294967296 + y0) (y00 : 0 ≤ y0 ∧ y0 < 4294967296) (hy1 : 2147483648 ≤ y1 ∧ y1 < 4294967296) (hu : 0 ≤ u ∧ u < y) (hw : 0 ≤ w ∧ w < 4294967296) (hs : 0 ≤ s ∧ s ≤ 63) (hq1 : 0 ≤ q1 ∧ q1 < 4294967296)
    (hQ0 : Q * y ≤ u * 4294967296 + w) (hQ1 : u * 4294967296 + w < (Q + 1) * y) (hQb : Q < 4294967296) : ∀ (n k : Nat) (q r : Int), 4294967296 ≤ n * 2147483648 + r → 0 ≤ r → r < 4294967296 → 2 * n + 4 ≤ k → q * y1 + r = u → Q ≤ q → 0 ≤ Q → q ≤ 4294967297 →
    bits_Div64.l1 k y s y1 y0 w q1 r u q = some (q1 * 4294967296 + Q, (u * 4294967296 + w - Q * y) / 2 ^ s.toNat) := by
  intro n
  have fin : Q * y ≤ u * 4294967296 + w → (q1 * 4294967296 % 18446744073709551616 + Q) % 18446744073709551616 = q1 * 4294967296 + Q ∨ Q < 0 := by
    intro _
    by_cases h : Q < 0
    · exact Or.inr h
    · left; omega
  have sub : ((u * 4294967296 % 18446744073709551616 + w) % 18446744073709551616 - Q * y % 18446744073709551616) % 18446744073709551616 = u * 4294967296 + w - Q * y := by
    have h1 : (Q + 1) * y = Q * y + y := by rw [Int.add_mul, Int.one_mul]
    rw [h1] at hQ1
    have hyb : y < 18446744073709551616 := by omega
    generalize Q * y = p at *
    omega
  have shs : ∀ x : Int, shr .u64 x s = x / 2 ^ s.toNat := by
    intro x; unfold shr; simp only [IntKind.bits]; rw [Nat.min_eq_left (by omega)]
  induction n with
  | zero => intro k q r h0 h1 h2; omega
  | succ n ih =>
    intro k q r h0 hr0 hr1 hk hq hQ hQ00 hqb
    obtain ⟨k, rfl⟩ : ∃ m, k = m + 2 := ⟨k - 2, by omega⟩
    rw [bits_Div64.l1]
    have up : (q ≥ 4294967296 ∨ q * y0 > 4294967296 * r + w) → bits_Div64.j4 (k + 1) y s y1 y0 w q1 r u q true = some (q1 * 4294967296 + Q, (u * 4294967296 + w - Q * y) / 2 ^ s.toNat) := by
      intro hc
      have hd := knuth_down hy y00.1 (by omega) hQ0 hu.2 hw.2 hq hc
      have hq' : (q - 1) * y1 + (r + y1) = u := by rw [Int.sub_mul, Int.one_mul]; omega
      rw [bits_Div64.j4, if_pos rfl]
      simp only [u64w]
      rw [show (r + y1) % 18446744073709551616 = r + y1 from by omega, show (q - 1) % 18446744073709551616 = q - 1 from by omega]
      by_cases hc2 : r + y1 ≥ 4294967296
      · rw [if_pos hc2]
        have hs' := knuth_stop hy (by omega) hQ1 hw.1 hq' (Or.inr ⟨y00.1, y00.2, by omega, by omega, hc2⟩)
        rw [show q - 1 = Q from by omega, if_pos hs.1, shs, sub]
        congr 2
        rcases fin hQ0 with h | h <;> omega
      · rw [if_neg hc2]
        exact ih k (q - 1) (r + y1) (by omega) (by omega) (by omega) (by omega) hq' hd hQ00 (by omega)
    by_cases hc1 : q ≥ 4294967296
    · rw [if_pos hc1]; exact up (Or.inl hc1)
    · rw [if_neg hc1]
      have p0 : 0 ≤ q * y0 := Int.mul_nonneg (by omega) y00.1
      have p1 : q * y0 ≤ 4294967295 * 4294967295 := Int.mul_le_mul (by omega) (by omega) y00.1 (by decide)
      simp only [u64w]
      rw [show (q * y0) % 18446744073709551616 = q * y0 from by omega, show ((4294967296 * r) % 18446744073709551616 + w) % 18446744073709551616 = 4294967296 * r + w from by omega]
      by_cases hc2 : q * y0 > 4294967296 * r + w
      · rw [decide_eq_true hc2]; exact up (Or.inr hc2)
      · rw [decide_eq_false hc2, bits_Div64.j4, if_neg (by decide)]
        have hs' := knuth_stop hy (by omega) hQ1 hw.1 hq (Or.inl (by omega))
        simp only [u64w]
        rw [show q = Q from by omega, if_pos hs.1, shs, sub]
        congr 2
        rcases fin hQ0 with h | h <;> omega
theorem ediv_bounds (a : Int) {b : Int} (hb : 0 < b) : a / b * b ≤ a ∧ a < (a / b + 1) * b := by
  have e := Int.mul_ediv_add_emod a b
  have r0 := Int.emod_nonneg a (show b ≠ 0 from by omega)
  have r1 := Int.emod_lt_of_pos a hb
  rw [Int.mul_comm] at e
  rw [Int.add_mul, Int.one_mul]
  constructor <;> omega
theorem Div64_norm {k : Nat} (hk : 30 ≤ k) {y s y1 y0 u v w : Int} (hy : y = y1 * 4294967296 + y0) (y00 : 0 ≤ y0 ∧ y0 < 4294967296) (hy1 : 2147483648 ≤ y1 ∧ y1 < 4294967296) (hu : 0 ≤ u ∧ u < y) (hv : 0 ≤ v ∧ v < 4294967296) (hw : 0 ≤ w ∧ w < 4294967296) (hs : 0 ≤ s ∧ s ≤ 63) :
    bits_Div64.l0 k y s y1 y0 u v w (u / y1) (u - u / y1 * y1) = some ((u * 18446744073709551616 + (v * 4294967296 + w)) / y, (u * 18446744073709551616 + (v * 4294967296 + w)) % y / 2 ^ s.toNat) := by
  have hyp : 0 < y := by omega
  have e1 := ediv_bounds u (show 0 < y1 from by omega)
  have e1' : (u / y1 + 1) * y1 = u / y1 * y1 + y1 := by rw [Int.add_mul, Int.one_mul]
  have b1 := ediv_bounds (u * 4294967296 + v) hyp
  have q0 : 0 ≤ (u * 4294967296 + v) / y := Int.ediv_nonneg (by omega) (by omega)
  have q0b : (u * 4294967296 + v) / y < 4294967296 := by rw [Int.ediv_lt_iff_lt_mul hyp]; omega
  have q1 : (u * 4294967296 + v) / y ≤ u / y1 := by
    refine Int.le_of_lt_add_one ?_
    rw [Int.ediv_lt_iff_lt_mul hyp, hy]
    have h0 : 0 ≤ u / y1 := Int.ediv_nonneg hu.1 (by omega)
    have h1 : 0 ≤ (u / y1 + 1) * y0 := Int.mul_nonneg (by omega) y00.1
    have h2 : (u / y1 + 1) * (y1 * 4294967296 + y0) = (u / y1 + 1) * y1 * 4294967296 + (u / y1 + 1) * y0 := by rw [Int.mul_add, Int.mul_assoc]
    rw [h2]
    generalize (u / y1 + 1) * y0 = a at *
    generalize (u / y1 + 1) * y1 = b at *
    omega
  obtain ⟨k', hk', h⟩ := Div64_l0 y s y1 y0 u v w ((u * 4294967296 + v) / y) hy y00 hy1 hu hv b1.1 b1.2 2 k (u / y1) (u - u / y1 * y1) (by omega) (by omega) (by omega) (by omega) (by omega) q1 q0 (knuth_first hy y00.2 hy1.1 hu.2)
  rw [h]
  obtain ⟨k', rfl⟩ : ∃ m, k' = m + 1 := ⟨k' - 1, by omega⟩
  have eu := Int.mul_ediv_add_emod (u * 4294967296 + v) y
  have m0 := Int.emod_nonneg (u * 4294967296 + v) (show y ≠ 0 from by omega)
  have m1 := Int.emod_lt_of_pos (u * 4294967296 + v) hyp
  have big : u * 18446744073709551616 + (v * 4294967296 + w) = (u * 4294967296 + v) * 4294967296 + w := by omega
  rw [big]
  generalize (u * 4294967296 + v) / y = Q1 at *
  generalize (u * 4294967296 + v) % y = U at *
  rw [bits_Div64.j2, if_neg (by omega)]
  have eU : IntKind.u64.wrap ((IntKind.u64.wrap ((IntKind.u64.wrap (u * 4294967296)) + v)) - (IntKind.u64.wrap (Q1 * y))) = U := by
    simp only [u64w]
    rw [Int.mul_comm Q1 y]
    generalize y * Q1 = p at *
    omega
  simp only [eU]
  have f1 := ediv_bounds U (show 0 < y1 from by omega)
  have f1' : (U / y1 + 1) * y1 = U / y1 * y1 + y1 := by rw [Int.add_mul, Int.one_mul]
  have f0 : 0 ≤ U / y1 := Int.ediv_nonneg m0 (by omega)
  have fb : U / y1 ≤ 4294967297 := knuth_first hy y00.2 hy1.1 m1
  have et : IntKind.u64.wrap (Int.tdiv U y1) = U / y1 := by rw [Int.tdiv_eq_ediv_of_nonneg m0, u64w]; omega
  have er : IntKind.u64.wrap (U - IntKind.u64.wrap (U / y1 * y1)) = U - U / y1 * y1 := by simp only [u64w]; omega
  rw [et, er]
  have c1 := ediv_bounds (U * 4294967296 + w) hyp
  have g0 : 0 ≤ (U * 4294967296 + w) / y := Int.ediv_nonneg (by omega) (by omega)
  have g0b : (U * 4294967296 + w) / y < 4294967296 := by rw [Int.ediv_lt_iff_lt_mul hyp]; omega
  have g1 : (U * 4294967296 + w) / y ≤ U / y1 := by
    refine Int.le_of_lt_add_one ?_
    rw [Int.ediv_lt_iff_lt_mul hyp, hy]
    have h1 : 0 ≤ (U / y1 + 1) * y0 := Int.mul_nonneg (by omega) y00.1
    have h2 : (U / y1 + 1) * (y1 * 4294967296 + y0) = (U / y1 + 1) * y1 * 4294967296 + (U / y1 + 1) * y0 := by rw [Int.mul_add, Int.mul_assoc]
    rw [h2]
    generalize (U / y1 + 1) * y0 = a at *
    generalize (U / y1 + 1) * y1 = b at *
    omega
  rw [Div64_l1 y s y1 y0 w Q1 U ((U * 4294967296 + w) / y) hy y00 hy1 ⟨m0, m1⟩ hw hs ⟨q0, q0b⟩ c1.1 c1.2 g0b 2 k' (U / y1) (U - U / y1 * y1) (by omega) (by omega) (by omega) (by omega) (by omega) g1 g0 fb]
  have eW := Int.mul_ediv_add_emod (U * 4294967296 + w) y
  have n0 := Int.emod_nonneg (U * 4294967296 + w) (show y ≠ 0 from by omega)
  have n1 := Int.emod_lt_of_pos (U * 4294967296 + w) hyp
  obtain ⟨z1, z2⟩ := div_unique (a := (u * 4294967296 + v) * 4294967296 + w) (d := y) (q := Q1 * 4294967296 + (U * 4294967296 + w) / y) (r := (U * 4294967296 + w) % y) (by
    rw [Int.add_mul, Int.mul_right_comm, Int.mul_comm Q1 y, Int.mul_comm ((U * 4294967296 + w) / y) y]
    generalize y * Q1 = a at *
    generalize y * ((U * 4294967296 + w) / y) = b at *
    omega) n0 n1
  rw [z1, z2]
  congr 3
  rw [Int.mul_comm ((U * 4294967296 + w) / y) y]; omega
theorem bits_Div64_eq {k : Nat} (hk : 30 ≤ k) {hi lo y : Int} (hy : 0 < y ∧ y < 18446744073709551616) (hhi : 0 ≤ hi ∧ hi < y) (hlo : U64 lo) :
    bits_Div64.f k hi lo y = some ((hi * 18446744073709551616 + lo) / y, (hi * 18446744073709551616 + lo) % y) := by
  unfold bits_Div64.f
  rw [if_neg (by omega), if_neg (by omega)]
  by_cases h0 : hi = 0
  · rw [if_pos h0, h0, Int.tdiv_eq_ediv_of_nonneg hlo.1, Int.tmod_eq_emod_of_nonneg hlo.1, u64w]
    have a : 0 ≤ lo / y := Int.ediv_nonneg hlo.1 (by omega)
    have b : lo / y ≤ lo := Int.ediv_le_self _ hlo.1
    rw [show 0 * 18446744073709551616 + lo = lo from by omega, show lo / y % 18446744073709551616 = lo / y from by omega]
  rw [if_neg h0]
  obtain ⟨m, em, ma, mb, mc⟩ := bitLen_spec y.toNat (by omega) (by omega)
  unfold bits_LeadingZeros64.f
  rw [if_pos (by omega), if_pos (by omega), em]
  simp only [Option.bind_some]
  obtain ⟨s, hs⟩ : ∃ s : Nat, s = 63 - m := ⟨_, rfl⟩
  have e1 : IntKind.u64.wrap (64 - ((m + 1 : Nat) : Int)) = (s : Int) := by rw [u64w]; omega
  have e2 : IntKind.u64.wrap (64 - (s : Int)) = ((64 - s : Nat) : Int) := by rw [u64w]; omega
  rw [e1, e2, if_pos (by omega), if_pos (by omega)]
  have hp := pow_pos s
  have ma' : (2 : Int) ^ m ≤ y := by
    have : ((2 ^ m : Nat) : Int) ≤ (y.toNat : Int) := Int.ofNat_le.2 ma
    rw [Int.natCast_pow] at this
    rw [Int.toNat_of_nonneg (by omega)] at this; exact this
  have mb' : y < (2 : Int) ^ (m + 1) := by
    have : (y.toNat : Int) < ((2 ^ (m + 1) : Nat) : Int) := Int.ofNat_lt.2 mb
    rw [Int.natCast_pow] at this
    rw [Int.toNat_of_nonneg (by omega)] at this; exact this
  have p63 : (2 : Int) ^ m * 2 ^ s = 9223372036854775808 := by rw [← Int.pow_add, show m + s = 63 from by omega]; decide
  have p64 : (2 : Int) ^ (m + 1) * 2 ^ s = 18446744073709551616 := by rw [← Int.pow_add, show m + 1 + s = 64 from by omega]; decide
  have p64' : (2 : Int) ^ (64 - s) * 2 ^ s = 18446744073709551616 := by rw [← Int.pow_add, show 64 - s + s = 64 from by omega]; decide
  have y63 : 9223372036854775808 ≤ y * 2 ^ s := by rw [← p63]; exact Int.mul_le_mul_of_nonneg_right ma' (by omega)
  have y64 : y * 2 ^ s < 18446744073709551616 := by rw [← p64]; exact Int.mul_lt_mul_of_pos_right mb' hp
  have eshl : ∀ x : Int, shl .u64 x (s : Int) = (x * 2 ^ s) % 18446744073709551616 := by
    intro x; unfold shl; simp only [IntKind.bits]; rw [u64w, show ((s : Int)).toNat = s from by omega, Nat.min_eq_left (by omega)]
  have eshr : ∀ x : Int, shr .u64 x ((64 - s : Nat) : Int) = x / 2 ^ (64 - s) := by
    intro x; unfold shr; simp only [IntKind.bits]; rw [show (((64 - s : Nat) : Int)).toNat = 64 - s from by omega, Nat.min_eq_left (by omega)]
  have hh : hi * 2 ^ s + 2 ^ s ≤ y * 2 ^ s := by
    have : (hi + 1) * 2 ^ s ≤ y * 2 ^ s := Int.mul_le_mul_of_nonneg_right (by omega) (by omega)
    rw [Int.add_mul, Int.one_mul] at this; exact this
  have hh0 : 0 ≤ hi * 2 ^ s := Int.mul_nonneg hhi.1 (by omega)
  rw [eshl, eshl, eshl, eshr, Int.emod_eq_of_lt (show 0 ≤ y * 2 ^ s from by omega) y64, Int.emod_eq_of_lt hh0 (by omega)]
  have lp := pow_pos (64 - s)
  have l1 : lo / 2 ^ (64 - s) < 2 ^ s := by
    rw [Int.ediv_lt_iff_lt_mul lp, Int.mul_comm, p64']; exact hlo.2
  have l0 : 0 ≤ lo / 2 ^ (64 - s) := Int.ediv_nonneg hlo.1 (by omega)
  have ejoin : Go.bits .or .u64 (hi * 2 ^ s) (lo / 2 ^ (64 - s)) = hi * 2 ^ s + lo / 2 ^ (64 - s) := by
    have e64 : (2 : Int) ^ 64 = 18446744073709551616 := by decide
    exact bits_join .u64 64 (by decide) (fun n h0 h1 => by rw [u64w]; omega) s _ _ hh0 (Int.mul_emod_left _ _) (by omega) l0 l1 (by omega)
  rw [ejoin, u64and32, u64and32]
  have elo : lo / 2 ^ (64 - s) * 18446744073709551616 + lo * 2 ^ s % 18446744073709551616 = lo * 2 ^ s := by
    have e := Int.mul_ediv_add_emod (lo * 2 ^ s) 18446744073709551616
    have : lo * 2 ^ s / 18446744073709551616 = lo / 2 ^ (64 - s) := by
      rw [← p64', Int.mul_ediv_mul_of_pos_left _ _ hp]
    rw [this] at e; omega
  have t0 : 0 ≤ lo * 2 ^ s % 18446744073709551616 ∧ lo * 2 ^ s % 18446744073709551616 < 18446744073709551616 := by omega
  have big : (hi * 18446744073709551616 + lo) * 2 ^ s = (hi * 2 ^ s + lo / 2 ^ (64 - s)) * 18446744073709551616 + lo * 2 ^ s % 18446744073709551616 := by
    rw [Int.add_mul, Int.add_mul, Int.mul_right_comm]; omega
  have res1 : (hi * 18446744073709551616 + lo) / y = (hi * 18446744073709551616 + lo) * 2 ^ s / (y * 2 ^ s) := (Int.mul_ediv_mul_of_pos_left _ _ hp).symm
  have res2 : (hi * 18446744073709551616 + lo) % y = (hi * 18446744073709551616 + lo) * 2 ^ s % (y * 2 ^ s) / 2 ^ s := by
    rw [Int.mul_comm (hi * 18446744073709551616 + lo), Int.mul_comm y, Int.mul_emod_mul_of_pos _ _ hp, Int.mul_ediv_cancel_left _ (by omega)]
  rw [res1, res2, big]
  clear res1 res2 big elo ejoin
  have hu00 : 0 ≤ hi * 2 ^ s + lo / 2 ^ (64 - s) ∧ hi * 2 ^ s + lo / 2 ^ (64 - s) < y * 2 ^ s := by omega
  generalize hi * 2 ^ s + lo / 2 ^ (64 - s) = u at *
  generalize lo * 2 ^ s % 18446744073709551616 = T at *
  generalize hY : y * 2 ^ s = Y at *
  have hu : 0 ≤ u ∧ u < Y := hu00
  have hy1 : 0 < Y / 4294967296 := by omega
  have uq := ediv_bounds u hy1
  have uq' : (u / (Y / 4294967296) + 1) * (Y / 4294967296) = u / (Y / 4294967296) * (Y / 4294967296) + Y / 4294967296 := by rw [Int.add_mul, Int.one_mul]
  have uq0 : 0 ≤ u / (Y / 4294967296) := Int.ediv_nonneg hu.1 (by omega)
  have uq1 : u / (Y / 4294967296) ≤ u := Int.ediv_le_self _ hu.1
  have et : IntKind.u64.wrap (Int.tdiv u (Y / 4294967296)) = u / (Y / 4294967296) := by rw [Int.tdiv_eq_ediv_of_nonneg hu.1, u64w]; omega
  have er : IntKind.u64.wrap (u - IntKind.u64.wrap (u / (Y / 4294967296) * (Y / 4294967296))) = u - u / (Y / 4294967296) * (Y / 4294967296) := by simp only [u64w]; omega
  rw [if_neg (by omega), et, er]
  have h := Div64_norm hk (y := Y) (s := (s : Int)) (y1 := Y / 4294967296) (y0 := Y % 4294967296) (u := u) (v := T / 4294967296) (w := T % 4294967296) (by omega) (by omega) (by omega) hu (by omega) (by omega) (by omega)
  rw [h, show T / 4294967296 * 4294967296 + T % 4294967296 = T from by omega, show ((s : Int)).toNat = s from by omega]
theorem add64_u {x y : Int} (hx : U64 x) (hy : U64 y) : add64s x y 0 = (x + y) % 18446744073709551616 ∧ add64c x y 0 = (x + y) / 18446744073709551616 := by
  unfold add64s add64c
  constructor <;> (simp only [Int.toNat_zero]; omega)
theorem hold_big {b : Bool} {m n : Int} (hm : 9223372036854775808 ≤ m) (hn : 9223372036854775808 ≤ n) : hold (sgn b m) = hold (sgn b n) := by
  unfold hold sgn
  cases b
  · simp only [Bool.false_eq_true, if_false]; rw [if_neg (by omega), if_pos (by omega), if_neg (by omega), if_pos (by omega)]
  · simp only [if_true]
    by_cases h1 : m = 9223372036854775808
    · by_cases h2 : n = 9223372036854775808
      · rw [h1, h2]
      · rw [if_neg (by omega), if_neg (by omega), if_pos (by omega)]; omega
    · by_cases h2 : n = 9223372036854775808
      · rw [if_pos (by omega), if_neg (by omega), if_neg (by omega)]; omega
      · rw [if_pos (by omega), if_pos (by omega)]
theorem wide_MulDiv_eq {k : Nat} (hk : 40 ≤ k) {a b d : Int} (ha : I64 a) (hb : I64 b) (hd : I64 d) : wide_MulDiv.f k a b d = some (hold (rdiv (a * b) d)) := by
  unfold wide_MulDiv.f
  by_cases hd0 : d = 0
  · rw [if_pos hd0, hd0]; simp [rdiv, hold]
  have ua := siz_u ha
  have ub := siz_u hb
  have ud := siz_u hd
  have ud0 : siz d ≠ 0 := fun h => hd0 (siz_zero.1 h)
  rw [if_neg hd0, wide_product_eq ha hb, wide_size_eq hd]
  simp only [Option.bind_some]
  have p0 := Int.mul_nonneg ua.1 ub.1
  have p1 : siz a * siz b ≤ 9223372036854775808 * 9223372036854775808 := Int.mul_le_mul ua.2 ub.2 ub.1 (by decide)
  have e0 := sgn_siz2 a b
  have es := sgn_xor ((decide (a < 0)) != (decide (b < 0))) d (siz a * siz b) hd0
  rw [e0] at es
  rw [← es]
  generalize siz a * siz b = p at *
  generalize ((decide (a < 0)) != (decide (b < 0))) = s0 at *
  generalize (s0 != decide (d < 0)) = s at *
  generalize siz d = D at *
  have q0 : 0 ≤ p / D := Int.ediv_nonneg p0 (by omega)
  have eqp := ediv_bounds p (show 0 < D from by omega)
  rw [rdiv_sgn s p0 (by omega)]
  by_cases c : p / 18446744073709551616 ≥ D
  · rw [if_pos c, wide_signed_eq (by omega) (by omega) (by omega)]
    simp only [Option.bind_some]
    congr 1
    have big : 18446744073709551616 ≤ p / D := by
      rw [Int.le_ediv_iff_mul_le (by omega)]; omega
    refine hold_big (by omega) ?_
    cases s <;> (simp only [Bool.false_eq_true, if_false, if_true]; split <;> omega)
  · rw [if_neg c, bits_Div64_eq (by omega) (by omega) (by omega) (by omega)]
    simp only [Option.bind_some]
    rw [show p / 18446744073709551616 * 18446744073709551616 + p % 18446744073709551616 = p from by omega]
    have r0 := Int.emod_nonneg p (show D ≠ 0 from by omega)
    have r1 := Int.emod_lt_of_pos p (show 0 < D from by omega)
    have qb : p / D < 18446744073709551616 := by rw [Int.ediv_lt_iff_lt_mul (by omega)]; omega
    generalize p % D = r at *
    generalize p / D = q at *
    rw [u64w, show (D - r) % 18446744073709551616 = D - r from by omega]
    obtain ⟨k, rfl⟩ : ∃ n, k = n + 1 := ⟨k - 1, by omega⟩
    have up : ∀ s, wide_MulDiv.j0 (k + 1) s q 0 true = some (hold (sgn s (q + 1))) := by
      intro s
      obtain ⟨x1, x2⟩ := add64_u (x := q) (y := 1) (by omega) (by omega)
      rw [wide_MulDiv.j0, if_pos rfl, x1, x2, wide_signed_eq (by omega) (by omega) (by omega)]
      simp only [Option.bind_some]; congr 3; omega
    have dn : ∀ s, wide_MulDiv.j0 (k + 1) s q 0 false = some (hold (sgn s q)) := by
      intro s
      obtain ⟨x1, x2⟩ := add64_u (x := q) (y := 0) (by omega) (by omega)
      rw [wide_MulDiv.j0, if_neg (by decide), x1, x2, wide_signed_eq (by omega) (by omega) (by omega)]
      simp only [Option.bind_some]; congr 3; omega
    cases s
    · simp only [Bool.false_eq_true, if_false]
      by_cases g : r ≥ D - r
      · rw [if_pos g, decide_eq_true g]; exact up _
      · rw [if_neg g, decide_eq_false g]; exact dn _
    · simp only [if_true]
      by_cases g : r > D - r
      · rw [if_pos g, if_pos g]; exact up _
      · rw [if_neg g, if_neg g]; exact dn _
theorem ref02_MulDiv_eq {k : Nat} (hk : 129 ≤ k) {a b d : Int} (ha : I64 a) (hb : I64 b) (hd : I64 d) : smaltoref02_MulDiv.f k a b d = some (hold (rdiv (a * b) d)) := by
  unfold smaltoref02_MulDiv.f
  by_cases hd0 : d = 0
  · rw [if_pos hd0, hd0]; simp [rdiv, hold]
  have ua := siz_u ha
  have ub := siz_u hb
  have ud := siz_u hd
  have ud0 : siz d ≠ 0 := fun h => hd0 (siz_zero.1 h)
  rw [if_neg hd0, ref01_Size_eq ha, ref01_Size_eq hb]
  simp only [Option.bind_some]
  rw [ref01_Times_eq (by omega) (by omega) (by omega), ref01_Size_eq hd]
  simp only [Option.bind_some]
  have p0 := Int.mul_nonneg ua.1 ub.1
  have p1 : siz a * siz b ≤ 9223372036854775808 * 9223372036854775808 := Int.mul_le_mul ua.2 ub.2 ub.1 (by decide)
  have e0 := sgn_siz2 a b
  have es := sgn_xor ((decide (a < 0)) != (decide (b < 0))) d (siz a * siz b) hd0
  rw [e0] at es
  rw [← es]
  generalize siz a * siz b = p at *
  rw [ref01_Nearest_eq hk (by omega) (by omega) (by omega)]
  simp only [Option.bind_some]
  rw [show p / 18446744073709551616 * 18446744073709551616 + p % 18446744073709551616 = p from by omega]
theorem shr_u (x : Int) (n : Nat) (hn : n ≤ 64) : shr .u64 x (n : Int) = x / 2 ^ n := by
  unfold shr; simp only [IntKind.bits]; rw [show ((n : Int)).toNat = n from by omega, Nat.min_eq_left (by omega)]
theorem shl_u (x : Int) (n : Nat) (hn : n ≤ 64) : shl .u64 x (n : Int) = (x * 2 ^ n) % 18446744073709551616 := by
  unfold shl; simp only [IntKind.bits]; rw [u64w, show ((n : Int)).toNat = n from by omega, Nat.min_eq_left (by omega)]
theorem p64_split {n : Nat} (hn : n ≤ 64) : (2 : Int) ^ (64 - n) * 2 ^ n = 18446744073709551616 := by rw [← Int.pow_add, show 64 - n + n = 64 from by omega]; decide
theorem wide_shift_eq {p : Int} (hp : 0 ≤ p ∧ p < 340282366920938463463374607431768211456) (n : Nat) (hn : n ≤ 127) :
    ∃ h l, wide_shift.f (p / 18446744073709551616) (p % 18446744073709551616) (n : Int) = some (h, l) ∧ U64 h ∧ U64 l ∧ h * 18446744073709551616 + l = p / 2 ^ n := by
  have e64 : (18446744073709551616 : Int) = 2 ^ 64 := by decide
  unfold wide_shift.f
  by_cases c : (n : Int) ≥ 64
  · rw [if_pos c, w64_id (show -9223372036854775808 ≤ (n : Int) - 64 from by omega) (by omega), if_pos (by omega), show (n : Int) - 64 = ((n - 64 : Nat) : Int) from by omega, shr_u _ _ (by omega)]
    have e : p / 18446744073709551616 / 2 ^ (n - 64) = p / 2 ^ n := by
      rw [Int.ediv_ediv_of_nonneg (by decide), e64, ← Int.pow_add, show 64 + (n - 64) = n from by omega]
    have b1 : p / 18446744073709551616 / 2 ^ (n - 64) ≤ p / 18446744073709551616 := Int.ediv_le_self _ (by omega)
    have b0 : 0 ≤ p / 18446744073709551616 / 2 ^ (n - 64) := Int.ediv_nonneg (by omega) (by have := pow_pos (n - 64); omega)
    exact ⟨_, _, rfl, by omega, by omega, by rw [← e]; omega⟩
  · rw [if_neg c, if_pos (by omega), w64_id (show -9223372036854775808 ≤ 64 - (n : Int) from by omega) (by omega), if_pos (by omega), show 64 - (n : Int) = ((64 - n : Nat) : Int) from by omega,
      shr_u _ _ (by omega), shr_u _ _ (by omega), shl_u _ _ (by omega)]
    have ps := p64_split (show n ≤ 64 from by omega)
    have hpn := pow_pos n
    have hpm := pow_pos (64 - n)
    generalize hH : p / 18446744073709551616 = H
    generalize hL : p % 18446744073709551616 = L
    have b1 : H / 2 ^ n ≤ H := Int.ediv_le_self _ (by omega)
    have b0 : 0 ≤ H / 2 ^ n := Int.ediv_nonneg (by omega) (by omega)
    have l0 : 0 ≤ L / 2 ^ n := Int.ediv_nonneg (by omega) (by omega)
    have l1 : L / 2 ^ n < 2 ^ (64 - n) := by rw [Int.ediv_lt_iff_lt_mul hpn, ps]; omega
    have pm : (2 : Int) ^ (64 - n) ≤ 18446744073709551616 := by
      calc (2 : Int) ^ (64 - n) ≤ 2 ^ 64 := pow_le (by omega)
        _ = _ := by decide
    have hm : H * 2 ^ (64 - n) % 18446744073709551616 = H % 2 ^ n * 2 ^ (64 - n) := by
      rw [← ps, Int.mul_comm H, Int.mul_emod_mul_of_pos _ _ hpm, Int.mul_comm]
    have hm0 : 0 ≤ H % 2 ^ n := Int.emod_nonneg _ (by omega)
    have hm1 : H % 2 ^ n < 2 ^ n := Int.emod_lt_of_pos _ hpn
    have hm2 : H % 2 ^ n * 2 ^ (64 - n) + 2 ^ (64 - n) ≤ 18446744073709551616 := by
      have : (H % 2 ^ n + 1) * 2 ^ (64 - n) ≤ 2 ^ n * 2 ^ (64 - n) := Int.mul_le_mul_of_nonneg_right (by omega) (by omega)
      rw [Int.add_mul, Int.one_mul, Int.mul_comm (2 ^ n), ps] at this; exact this
    have hm3 : 0 ≤ H % 2 ^ n * 2 ^ (64 - n) := Int.mul_nonneg hm0 (by omega)
    have ej : Go.bits .or .u64 (L / 2 ^ n) (H * 2 ^ (64 - n) % 18446744073709551616) = L / 2 ^ n + H % 2 ^ n * 2 ^ (64 - n) := by
      rw [hm]
      have := bits_join .u64 64 (by decide) (fun n h0 h1 => by rw [u64w]; rw [← e64] at h1; omega) (64 - n) (H % 2 ^ n * 2 ^ (64 - n)) (L / 2 ^ n) hm3 (Int.mul_emod_left _ _) (by rw [← e64]; omega) l0 l1 (by rw [← e64]; omega)
      rw [Int.add_comm, ← this]
      simp only [bits]
      rw [BitVec.or_comm]
    rw [ej]
    refine ⟨_, _, rfl, by omega, by omega, ?_⟩
    have eH := Int.mul_ediv_add_emod H (2 ^ n)
    have eL := Int.mul_ediv_add_emod L (2 ^ n)
    have r0 := Int.emod_nonneg L (show (2 : Int) ^ n ≠ 0 from by omega)
    have r1 := Int.emod_lt_of_pos L hpn
    refine (div_unique (r := L % 2 ^ n) ?_ r0 r1).1.symm
    have x1 : H / 2 ^ n * 18446744073709551616 * 2 ^ n = 2 ^ n * (H / 2 ^ n) * 18446744073709551616 := by
      rw [Int.mul_right_comm, Int.mul_comm (H / 2 ^ n)]
    have x2 : H % 2 ^ n * 2 ^ (64 - n) * 2 ^ n = H % 2 ^ n * 18446744073709551616 := by rw [Int.mul_assoc, ps]
    have x3 : L / 2 ^ n * 2 ^ n = 2 ^ n * (L / 2 ^ n) := Int.mul_comm _ _
    rw [Int.add_mul, Int.add_mul, x1, x2, x3]
    have x4 : 2 ^ n * (H / 2 ^ n) * 18446744073709551616 = (H - H % 2 ^ n) * 18446744073709551616 := by congr 1; omega
    rw [x4]
    omega
theorem wide_exact_eq {p : Int} (hp : 0 ≤ p ∧ p < 340282366920938463463374607431768211456) (n : Nat) (hn : n ≤ 127) :
    wide_exact.f (p / 18446744073709551616) (p % 18446744073709551616) (n : Int) = some (decide (p % 2 ^ n = 0)) := by
  have e64 : (18446744073709551616 : Int) = 2 ^ 64 := by decide
  unfold wide_exact.f
  by_cases c : (n : Int) ≥ 64
  · rw [if_pos c, w64_id (show -9223372036854775808 ≤ 128 - (n : Int) from by omega) (by omega)]
    have en : (2 : Int) ^ n = 18446744073709551616 * 2 ^ (n - 64) := by rw [e64, ← Int.pow_add, show 64 + (n - 64) = n from by omega]
    have hpn := pow_pos (n - 64)
    have e : p % 2 ^ n = p % 18446744073709551616 + 18446744073709551616 * (p / 18446744073709551616 % 2 ^ (n - 64)) := by
      have d1 := Int.mul_ediv_add_emod p 18446744073709551616
      have d2 := Int.mul_ediv_add_emod (p / 18446744073709551616) (2 ^ (n - 64))
      have r0 := Int.emod_nonneg (p / 18446744073709551616) (show (2 : Int) ^ (n - 64) ≠ 0 from by omega)
      have r1 := Int.emod_lt_of_pos (p / 18446744073709551616) hpn
      refine (div_unique (q := p / 18446744073709551616 / 2 ^ (n - 64)) ?_ (by omega) (by rw [en]; omega)).2
      rw [en, Int.mul_left_comm, Int.mul_comm (p / 18446744073709551616 / 2 ^ (n - 64))]
      omega
    have r0 := Int.emod_nonneg (p / 18446744073709551616) (show (2 : Int) ^ (n - 64) ≠ 0 from by omega)
    by_cases z : p % 18446744073709551616 = 0
    · rw [if_pos z, if_pos (by omega), show 128 - (n : Int) = ((128 - n : Nat) : Int) from by omega, shl_u _ _ (by omega)]
      congr 1
      have ps : (2 : Int) ^ (128 - n) * 2 ^ (n - 64) = 18446744073709551616 := by rw [← Int.pow_add, show 128 - n + (n - 64) = 64 from by omega]; decide
      have : p / 18446744073709551616 * 2 ^ (128 - n) % 18446744073709551616 = 2 ^ (128 - n) * (p / 18446744073709551616 % 2 ^ (n - 64)) := by
        have h := Int.mul_emod_mul_of_pos (p / 18446744073709551616) (2 ^ (n - 64)) (pow_pos (128 - n))
        rw [ps, Int.mul_comm (2 ^ (128 - n)) (p / 18446744073709551616)] at h
        exact h
      rw [this, e, z]
      have hq := pow_pos (128 - n)
      rw [Bool.eq_iff_iff]
      simp only [beq_iff_eq, decide_eq_true_eq]
      constructor
      · intro h
        rcases Int.mul_eq_zero.1 h with h | h
        · omega
        · rw [h]; rfl
      · intro h
        rw [show p / 18446744073709551616 % 2 ^ (n - 64) = 0 from by omega, Int.mul_zero]
    · rw [if_neg z]
      congr 1
      refine (decide_eq_false ?_).symm
      omega
  · rw [if_neg c, w64_id (show -9223372036854775808 ≤ 64 - (n : Int) from by omega) (by omega), if_pos (by omega), show 64 - (n : Int) = ((64 - n : Nat) : Int) from by omega, shl_u _ _ (by omega)]
    have ps := p64_split (show n ≤ 64 from by omega)
    have hpn := pow_pos n
    have hpm := pow_pos (64 - n)
    congr 1
    have e : p % 2 ^ n = p % 18446744073709551616 % 2 ^ n := (Int.emod_emod_of_dvd p ⟨2 ^ (64 - n), by rw [← ps, Int.mul_comm]⟩).symm
    rw [e]
    generalize p % 18446744073709551616 = L
    have : L * 2 ^ (64 - n) % 18446744073709551616 = 2 ^ (64 - n) * (L % 2 ^ n) := by
      have h := Int.mul_emod_mul_of_pos L (2 ^ n) hpm
      rw [ps, Int.mul_comm (2 ^ (64 - n)) L] at h
      exact h
    rw [this]
    rw [Bool.eq_iff_iff]
    simp only [beq_iff_eq, decide_eq_true_eq]
    constructor
    · intro h
      rcases Int.mul_eq_zero.1 h with h | h
      · omega
      · exact h
    · intro h; rw [h, Int.mul_zero]
/-- A product by bits, rounded. -/
def mulsh (a b n : Int) : Int := if n ≥ 128 then 0 else hold (rdiv (a * b) (2 ^ (mx 0 n).toNat))
theorem rdiv_sgn_pow (s : Bool) {p : Int} (hp : 0 ≤ p) (n : Nat) (hn : 1 ≤ n) :
    rdiv (sgn s p) (2 ^ n) = sgn s (p / 2 ^ n + if p / 2 ^ (n - 1) % 2 = 0 ∨ (s = true ∧ p % 2 ^ (n - 1) = 0) then 0 else 1) := by
  obtain ⟨m, rfl⟩ : ∃ m, n = m + 1 := ⟨n - 1, by omega⟩
  rw [Nat.add_sub_cancel]
  have hpm := pow_pos m
  rw [rdiv_sgn s hp (pow_pos _)]
  have h2 := half_pow p m
  have e1 := Int.mul_ediv_add_emod p (2 ^ (m + 1))
  have e2 := Int.mul_ediv_add_emod p (2 ^ m)
  have r0 := Int.emod_nonneg p (show (2 : Int) ^ m ≠ 0 from by omega)
  have r1 := Int.emod_lt_of_pos p hpm
  have er : p % 2 ^ (m + 1) = 2 ^ m * (p / 2 ^ m % 2) + p % 2 ^ m := by
    have hb : p / 2 ^ m % 2 = 0 ∨ p / 2 ^ m % 2 = 1 := by omega
    refine (div_unique (q := p / 2 ^ (m + 1)) ?_ ?_ ?_).2
    · rw [pow_succ2, ← Int.mul_assoc]
      have : p / (2 * 2 ^ m) = p / 2 ^ (m + 1) := by rw [pow_succ2]
      rw [this]
      have h3 : p / 2 ^ (m + 1) * 2 * 2 ^ m + (2 ^ m * (p / 2 ^ m % 2) + p % 2 ^ m) = 2 ^ m * (2 * (p / 2 ^ (m + 1)) + p / 2 ^ m % 2) + p % 2 ^ m := by
        rw [Int.mul_add, Int.mul_comm (p / 2 ^ (m + 1)) 2, Int.mul_comm (2 * (p / 2 ^ (m + 1)))]; omega
      rw [h3, ← h2]; exact e2
    · rcases hb with h | h <;> rw [h] <;> omega
    · rw [pow_succ2]; rcases hb with h | h <;> rw [h] <;> omega
  rw [er, pow_succ2]
  generalize (2 : Int) ^ m = d at *
  have hb : p / d % 2 = 0 ∨ p / d % 2 = 1 := by omega
  generalize p / d % 2 = bit at *
  generalize p % d = r at *
  congr 1
  cases s
  · simp only [Bool.false_eq_true, if_false, false_and, or_false]
    rcases hb with h | h
    · rw [h, if_neg (by omega), if_pos rfl]; omega
    · rw [h, if_pos (by omega), if_neg (by omega)]
  · simp only [if_true, true_and]
    rcases hb with h | h
    · rw [h, if_neg (by omega), if_pos (Or.inl rfl)]; omega
    · rw [h]
      by_cases z : r = 0
      · rw [if_neg (by omega), if_pos (Or.inr z)]; omega
      · rw [if_pos (by omega), if_neg (by omega)]
theorem wide_MulShift_eq {k : Nat} (hk : 3 ≤ k) {a b n : Int} (ha : I64 a) (hb : I64 b) (hn : I64 n) : wide_MulShift.f k a b n = some (mulsh a b n) := by
  unfold wide_MulShift.f mulsh
  have ua := siz_u ha
  have ub := siz_u hb
  by_cases c : n ≥ 128
  · rw [if_pos c, if_pos (by unfold mx; split <;> omega)]
  rw [if_neg c, if_neg (by unfold mx; split <;> omega), wide_product_eq ha hb]
  simp only [Option.bind_some]
  have p0 := Int.mul_nonneg ua.1 ub.1
  have p1 : siz a * siz b ≤ 9223372036854775808 * 9223372036854775808 := Int.mul_le_mul ua.2 ub.2 ub.1 (by decide)
  have e0 := sgn_siz2 a b
  rw [← e0]
  generalize siz a * siz b = p at *
  generalize ((decide (a < 0)) != (decide (b < 0))) = s at *
  obtain ⟨m, hm⟩ : ∃ m : Nat, mx 0 n = m := ⟨(mx 0 n).toNat, by unfold mx; split <;> omega⟩
  have hm2 : m ≤ 127 := by unfold mx at hm; split at hm <;> omega
  rw [hm, show ((m : Int)).toNat = m from by omega]
  by_cases z : (m : Int) = 0
  · rw [if_pos z, wide_signed_eq (by omega) (by omega) (by omega)]
    simp only [Option.bind_some]
    rw [show m = 0 from by omega, Int.pow_zero, rdiv_one]
    congr 3; omega
  rw [if_neg z, w64_id (show -9223372036854775808 ≤ (m : Int) - 1 from by omega) (by omega), show (m : Int) - 1 = ((m - 1 : Nat) : Int) from by omega]
  obtain ⟨h1, l1, x1, x2, x3, x4⟩ := wide_shift_eq (p := p) ⟨p0, by omega⟩ m hm2
  obtain ⟨h2, l2, y1, y2, y3, y4⟩ := wide_shift_eq (p := p) ⟨p0, by omega⟩ (m - 1) (by omega)
  rw [x1, y1, wide_exact_eq (p := p) ⟨p0, by omega⟩ (m - 1) (by omega)]
  simp only [Option.bind_some]
  rw [u64and1]
  have eb : l2 % 2 = p / 2 ^ (m - 1) % 2 := by omega
  rw [eb, rdiv_sgn_pow s p0 m (by omega)]
  obtain ⟨k, rfl⟩ : ∃ j, k = j + 1 := ⟨k - 1, by omega⟩
  have dn : wide_MulShift.j0 (k + 1) s h1 l1 true = some (hold (sgn s (p / 2 ^ m + 0))) := by
    rw [wide_MulShift.j0, if_pos rfl, wide_signed_eq (by omega) x2 x3, x4]
    simp
  have q1 : 2 * (p / 2 ^ m) ≤ p := by
    have := (ediv_bounds p (pow_pos m)).1
    have h2 : (2 : Int) ≤ 2 ^ m := by
      calc (2 : Int) = 2 ^ 1 := by decide
        _ ≤ 2 ^ m := pow_le (by omega)
    have h3 : p / 2 ^ m * 2 ≤ p / 2 ^ m * 2 ^ m := Int.mul_le_mul_of_nonneg_left h2 (Int.ediv_nonneg p0 (by omega))
    omega
  have up : wide_MulShift.j0 (k + 1) s h1 l1 false = some (hold (sgn s (p / 2 ^ m + 1))) := by
    obtain ⟨z1, z2⟩ := add64_u (x := l1) (y := 1) x3 (by omega)
    rw [wide_MulShift.j0, if_neg (by decide), z1, z2, u64w, wide_signed_eq (by omega) (by omega) (by omega)]
    simp only [Option.bind_some]; congr 3; omega
  by_cases g : p / 2 ^ (m - 1) % 2 = 0
  · rw [if_pos g, if_pos (Or.inl g)]; exact dn
  rw [if_neg g]
  cases s
  · simp only [Bool.false_eq_true, if_false, false_and, or_false]
    rw [if_neg g]; exact up
  · simp only [if_true, true_and]
    by_cases e : p % 2 ^ (m - 1) = 0
    · rw [decide_eq_true e, if_pos (Or.inr e)]; exact dn
    · rw [decide_eq_false e, if_neg (by omega)]; exact up
theorem ref02_MulShift_j3 {k : Nat} (hk : 2 ≤ k) (s u : Bool) {h l : Int} (hh : U64 h) (hl : U64 l) (hb : h * 18446744073709551616 + l < 340282366920938463463374607431768211455) :
    smaltoref02_MulShift.j3 k s u h l = some (hold (sgn s (h * 18446744073709551616 + l + if u = true then 1 else 0))) := by
  obtain ⟨k, rfl⟩ : ∃ m, k = m + 1 := ⟨k - 1, by omega⟩
  rw [smaltoref02_MulShift.j3]
  cases u
  · rw [if_neg (by decide), if_neg (by decide), ref01_Hold_eq (by omega) hh hl]
    simp only [Option.bind_some]; congr 3; omega
  · rw [if_pos rfl, if_pos rfl, ref01_Plus_eq hh hl (by omega) (by omega)]
    simp only [Option.bind_some]
    rw [ref01_Hold_eq (by omega) (by omega) (by omega)]
    simp only [Option.bind_some]; congr 3; omega
theorem emod_pow_succ (p : Int) (i : Nat) : p % 2 ^ (i + 1) = 2 ^ i * (p / 2 ^ i % 2) + p % 2 ^ i := by
  have h2 := half_pow p i
  have hpm := pow_pos i
  have e2 := Int.mul_ediv_add_emod p (2 ^ i)
  have r0 := Int.emod_nonneg p (show (2 : Int) ^ i ≠ 0 from by omega)
  have r1 := Int.emod_lt_of_pos p hpm
  have hb : p / 2 ^ i % 2 = 0 ∨ p / 2 ^ i % 2 = 1 := by omega
  refine (div_unique (q := p / 2 ^ (i + 1)) ?_ ?_ ?_).2
  · have h3 : p / 2 ^ (i + 1) * 2 ^ (i + 1) + (2 ^ i * (p / 2 ^ i % 2) + p % 2 ^ i) = 2 ^ i * (2 * (p / 2 ^ (i + 1)) + p / 2 ^ i % 2) + p % 2 ^ i := by
      rw [Int.mul_add, Int.pow_succ (2 : Int) i, Int.mul_left_comm, Int.mul_comm (p / (2 ^ i * 2)) 2]; omega
    rw [h3, ← h2]; exact e2
  · rcases hb with h | h <;> rw [h] <;> omega
  · rw [pow_succ2]; rcases hb with h | h <;> rw [h] <;> omega
theorem ref02_MulShift_l1 (n : Nat) (hn : 1 ≤ n ∧ n ≤ 127) (s : Bool) (ph pl qh ql : Int) (hph : U64 ph) (hpl : U64 pl) (hqh : U64 qh) (hql : U64 ql) (hq : qh * 18446744073709551616 + ql < 340282366920938463463374607431768211455) :
    ∀ (d k i : Nat) (m : Bool), i + d + 1 = n → d + 10 < k → m = decide ((ph * 18446744073709551616 + pl) % 2 ^ i ≠ 0) →
    smaltoref02_MulShift.l1 k (n : Int) s m ((n : Int) - 1) (i : Int) ph pl qh ql = some (hold (sgn s (qh * 18446744073709551616 + ql +
      if (ph * 18446744073709551616 + pl) / 2 ^ (n - 1) % 2 = 0 ∨ (s = true ∧ (ph * 18446744073709551616 + pl) % 2 ^ (n - 1) = 0) then 0 else 1))) := by
  intro d
  induction d with
  | zero =>
    intro k i m hi hk hm
    obtain ⟨k, rfl⟩ : ∃ m, k = m + 1 := ⟨k - 1, by omega⟩
    rw [smaltoref02_MulShift.l1, if_neg (by omega), w64_id (by omega) (by omega), show (n : Int) - 1 = ((n - 1 : Nat) : Int) from by omega, ref01_Bit_eq hph hpl (n - 1) (by omega)]
    simp only [Option.bind_some]
    rw [show i = n - 1 from by omega] at hm
    have hbit : (ph * 18446744073709551616 + pl) / 2 ^ (n - 1) % 2 = 0 ∨ (ph * 18446744073709551616 + pl) / 2 ^ (n - 1) % 2 = 1 := by omega
    generalize (ph * 18446744073709551616 + pl) / 2 ^ (n - 1) % 2 = bit at *
    by_cases hb : bit = 1
    · rw [if_pos hb]
      by_cases e : (ph * 18446744073709551616 + pl) % 2 ^ (n - 1) = 0
      · rw [show m = false from by rw [hm]; simpa using e, if_neg (by decide), ref02_MulShift_j3 (by omega) s _ hqh hql hq]
        cases s
        · rw [if_pos (by decide), if_neg (by simp; omega)]
        · rw [if_neg (by decide), if_pos (by simp; omega)]
      · rw [show m = true from by rw [hm]; simpa using e, if_pos rfl, ref02_MulShift_j3 (by omega) s _ hqh hql hq, if_pos rfl, if_neg (by omega)]
    · rw [if_neg hb, ref02_MulShift_j3 (by omega) s _ hqh hql hq, if_neg (by decide)]
      by_cases hb0 : bit = 0
      · rw [if_pos (Or.inl hb0)]
      · exfalso; omega
  | succ d ih =>
    intro k i m hi hk hm
    obtain ⟨k, rfl⟩ : ∃ m, k = m + 1 := ⟨k - 1, by omega⟩
    rw [smaltoref02_MulShift.l1, if_pos (by omega), ref01_Bit_eq hph hpl i (by omega), w64_id (by omega) (by omega), show ((i : Int) + 1) = ((i + 1 : Nat) : Int) from by omega]
    simp only [Option.bind_some]
    have es := emod_pow_succ (ph * 18446744073709551616 + pl) i
    have hp := pow_pos i
    have r0 := Int.emod_nonneg (ph * 18446744073709551616 + pl) (show (2 : Int) ^ i ≠ 0 from by omega)
    have hbb : (ph * 18446744073709551616 + pl) / 2 ^ i % 2 = 0 ∨ (ph * 18446744073709551616 + pl) / 2 ^ i % 2 = 1 := by omega
    by_cases hc : m = true
    · rw [if_pos hc]
      refine ih k (i + 1) true (by omega) (by omega) ?_
      refine (decide_eq_true ?_).symm
      have : (ph * 18446744073709551616 + pl) % 2 ^ i ≠ 0 := of_decide_eq_true (hm.symm.trans hc)
      rw [es]
      rcases hbb with h | h <;> rw [h] <;> omega
    · rw [if_neg hc]
      refine ih k (i + 1) _ (by omega) (by omega) ?_
      have : (ph * 18446744073709551616 + pl) % 2 ^ i = 0 := by
        have h2 : m = false := by simpa using hc
        have := of_decide_eq_false (hm.symm.trans h2)
        omega
      rw [es, this]
      rcases hbb with h | h
      · rw [h]; simp
      · rw [h]; simp; omega
theorem ref02_MulShift_l0 (n : Nat) (hn : 1 ≤ n ∧ n ≤ 127) (s : Bool) (ph pl : Int) (hph : U64 ph) (hpl : U64 pl) : ∀ (d k : Nat) (qh ql : Int), d + n ≤ 128 → d + 300 < k → U64 qh → U64 ql →
    qh * 18446744073709551616 + ql = (ph * 18446744073709551616 + pl) / 2 ^ (n + d) →
    smaltoref02_MulShift.l0 k (n : Int) s (((n + d : Nat) : Int) - 1) ph pl qh ql = some (hold (rdiv (sgn s (ph * 18446744073709551616 + pl)) (2 ^ n))) := by
  intro d
  induction d with
  | zero =>
    intro k qh ql hd hk hqh hql he
    obtain ⟨k, rfl⟩ : ∃ m, k = m + 1 := ⟨k - 1, by omega⟩
    rw [Nat.add_zero] at he
    have p0 : 0 ≤ ph * 18446744073709551616 + pl := by omega
    have q1 : 2 * ((ph * 18446744073709551616 + pl) / 2 ^ n) ≤ ph * 18446744073709551616 + pl := by
      have := (ediv_bounds (ph * 18446744073709551616 + pl) (pow_pos n)).1
      have h2 : (2 : Int) ≤ 2 ^ n := by
        calc (2 : Int) = 2 ^ 1 := by decide
          _ ≤ 2 ^ n := pow_le (by omega)
      have h3 : (ph * 18446744073709551616 + pl) / 2 ^ n * 2 ≤ (ph * 18446744073709551616 + pl) / 2 ^ n * 2 ^ n := Int.mul_le_mul_of_nonneg_left h2 (Int.ediv_nonneg p0 (by omega))
      omega
    rw [smaltoref02_MulShift.l0, if_neg (by omega), w64_id (by omega) (by omega)]
    have h := ref02_MulShift_l1 n hn s ph pl qh ql hph hpl hqh hql (by omega) (n - 1) k 0 false (by omega) (by omega) (by simp [Int.emod_one])
    have h' : smaltoref02_MulShift.l1 k (n : Int) s false ((n : Int) - 1) 0 ph pl qh ql = _ := h
    rw [h', rdiv_sgn_pow s p0 n hn.1, he]
  | succ d ih =>
    intro k qh ql hd hk hqh hql he
    obtain ⟨k, rfl⟩ : ∃ m, k = m + 1 := ⟨k - 1, by omega⟩
    rw [smaltoref02_MulShift.l0, if_pos (by omega), show (((n + (d + 1) : Nat) : Int) - 1) = ((n + d : Nat) : Int) from by omega, ref01_Bit_eq hph hpl (n + d) (by omega)]
    simp only [Option.bind_some]
    rw [ref01_Twice_eq hqh hql (by omega), w64_id (by omega) (by omega)]
    simp only [Option.bind_some]
    have hs := half_pow (ph * 18446744073709551616 + pl) (n + d)
    have hq : (ph * 18446744073709551616 + pl) / 2 ^ (n + d) ≤ ph * 18446744073709551616 + pl := Int.ediv_le_self _ (by omega)
    rw [show n + (d + 1) = n + d + 1 from rfl] at he
    exact ih k _ _ (by omega) (by omega) (by omega) (by omega) (by omega)
theorem ref02_MulShift_eq {k : Nat} (hk : 600 ≤ k) {a b n : Int} (ha : I64 a) (hb : I64 b) (hn : I64 n) : smaltoref02_MulShift.f k a b n = some (mulsh a b n) := by
  have ua := siz_u ha
  have ub := siz_u hb
  obtain ⟨k, rfl⟩ : ∃ m, k = m + 1 := ⟨k - 1, by omega⟩
  have main : ∀ m : Nat, smaltoref02_MulShift.j0 (k + 1) a b (m : Int) = some (if (m : Int) ≥ 128 then 0 else hold (rdiv (a * b) (2 ^ m))) := by
    intro m
    rw [smaltoref02_MulShift.j0]
    by_cases c : (m : Int) ≥ 128
    · rw [if_pos c, if_pos (by omega)]
    rw [if_neg c, if_neg (by omega), ref01_Size_eq ha, ref01_Size_eq hb]
    simp only [Option.bind_some]
    rw [ref01_Times_eq (by omega) (by omega) (by omega)]
    simp only [Option.bind_some]
    have p0 := Int.mul_nonneg ua.1 ub.1
    have p1 : siz a * siz b ≤ 9223372036854775808 * 9223372036854775808 := Int.mul_le_mul ua.2 ub.2 ub.1 (by decide)
    have e0 := sgn_siz2 a b
    rw [← e0]
    generalize siz a * siz b = p at *
    generalize ((decide (a < 0)) != (decide (b < 0))) = s at *
    by_cases z : (m : Int) = 0
    · rw [if_pos z, ref01_Hold_eq (by omega) (by omega) (by omega)]
      simp only [Option.bind_some]
      rw [show m = 0 from by omega, Int.pow_zero, rdiv_one]
      congr 3; omega
    rw [if_neg z]
    have p128 : (2 : Int) ^ 128 = 340282366920938463463374607431768211456 := by decide
    have h := ref02_MulShift_l0 m (by omega) s (p / 18446744073709551616) (p % 18446744073709551616) (by omega) (by omega) (128 - m) k 0 0 (by omega) (by omega) (by omega) (by omega) (by
      rw [show m + (128 - m) = 128 from by omega, Int.ediv_eq_zero_of_lt (by omega) (by omega)]; rfl)
    rw [show (((m + (128 - m) : Nat) : Int) - 1) = 127 from by omega] at h
    rw [h, show p / 18446744073709551616 * 18446744073709551616 + p % 18446744073709551616 = p from by omega]
  unfold smaltoref02_MulShift.f mulsh
  by_cases c : n < 0
  · have := main 0
    rw [if_pos c, if_neg (by omega), show (mx 0 n).toNat = 0 from by unfold mx; split <;> omega]
    exact this
  · have := main n.toNat
    rw [show ((n.toNat : Nat) : Int) = n from by omega] at this
    rw [if_neg c, this, show (mx 0 n).toNat = n.toNat from by unfold mx; split <;> omega]
/-- May a fraction be? -/
def mayP (p q : Int) : Prop := 1 ≤ q ∧ q ≤ 1048576 ∧ -4 * q ≤ p ∧ p ≤ 4 * q
instance (p q : Int) : Decidable (mayP p q) := by unfold mayP; exact inferInstance
theorem sinc_May_eq (p q : Int) : sinc_May.f p q = some (decide (mayP p q)) := by
  unfold sinc_May.f mayP
  by_cases h1 : q ≥ 1
  · rw [if_pos h1]
    by_cases h2 : q ≤ 1048576
    · rw [if_pos h2, w64_id (show -9223372036854775808 ≤ -4 * q from by omega) (by omega), w64_id (show -9223372036854775808 ≤ 4 * q from by omega) (by omega)]
      by_cases h3 : p ≥ -4 * q
      · rw [if_pos h3]; congr 1; exact decide_eq_decide.2 (by omega)
      · rw [if_neg h3]; congr 1; exact (decide_eq_false (by omega)).symm
    · rw [if_neg h2]; congr 1; exact (decide_eq_false (by omega)).symm
  · rw [if_neg h1]; congr 1; exact (decide_eq_false (by omega)).symm
def serU (p q : Int) : Int := hold (rdiv (hold (rdiv (10851744800547 * p) q) * p) q)
def serT (u : Int) : Nat → Int
  | 0 => 1099511627776
  | n + 1 => hold (rdiv (serT u n * u) ((2 * ((n : Int) + 1)) * (2 * ((n : Int) + 1) + 1) * 1099511627776))
def serS (u : Int) : Nat → Int
  | 0 => 1099511627776
  | n + 1 => if n % 2 = 0 then wrap64 (serS u n - serT u (n + 1)) else wrap64 (serS u n + serT u (n + 1))
/-- The series of a fraction. -/
def serV (p q : Int) : Int := serS (serU (siz p) q) 30
theorem serT_i (r : Int) : ∀ n, I64 (serT r n)
  | 0 => by unfold serT; decide
  | n + 1 => by unfold serT; exact hold_i _
theorem w64_i4 (x : Int) : I64 (wrap64 x) := by unfold wrap64; constructor <;> omega
theorem serS_i (r : Int) : ∀ n, I64 (serS r n)
  | 0 => by unfold serS; decide
  | n + 1 => by unfold serS; split <;> exact w64_i4 _
theorem den_le (n : Nat) (h : n ≤ 29) : 6 ≤ (2 * ((n : Int) + 1)) * (2 * ((n : Int) + 1) + 1) ∧ (2 * ((n : Int) + 1)) * (2 * ((n : Int) + 1) + 1) ≤ 3660 := by
  have a : (2 * ((n : Int) + 1)) * (2 * ((n : Int) + 1) + 1) ≤ 60 * 61 := Int.mul_le_mul (by omega) (by omega) (by omega) (by decide)
  have b : 2 * 3 ≤ (2 * ((n : Int) + 1)) * (2 * ((n : Int) + 1) + 1) := Int.mul_le_mul (by omega) (by omega) (by decide) (by omega)
  constructor <;> omega
theorem sinc_series_l0 (u : Int) (hu : I64 u) : ∀ (d k n : Nat), n + d = 30 → d + 60 < k →
    sinc_series.l0 k u (serS u n) (serT u n) (if n % 2 = 0 then 1 else -1) ((n : Int) + 1) = some (serS u 30) := by
  intro d
  induction d with
  | zero =>
    intro k n hn hk
    obtain ⟨k, rfl⟩ : ∃ m, k = m + 1 := ⟨k - 1, by omega⟩
    rw [sinc_series.l0, if_neg (by omega), show n = 30 from by omega]
  | succ d ih =>
    intro k n hn hk
    obtain ⟨k, rfl⟩ : ∃ m, k = m + 1 := ⟨k - 1, by omega⟩
    have hd := den_le n (by omega)
    rw [sinc_series.l0, if_pos (by omega), w64_id (show -9223372036854775808 ≤ 2 * ((n : Int) + 1) from by omega) (by omega), w64_id (show -9223372036854775808 ≤ 2 * ((n : Int) + 1) + 1 from by omega) (by omega),
      w64_id (show -9223372036854775808 ≤ 2 * ((n : Int) + 1) * (2 * ((n : Int) + 1) + 1) from by omega) (by omega), w64_id (show -9223372036854775808 ≤ 2 * ((n : Int) + 1) * (2 * ((n : Int) + 1) + 1) * 1099511627776 from by omega) (by omega),
      w64_id (show -9223372036854775808 ≤ (n : Int) + 1 + 1 from by omega) (by omega)]
    rw [wide_MulDiv_eq (by omega) (serT_i u n) hu (by constructor <;> omega)]
    simp only [Option.bind_some]
    have et : hold (rdiv (serT u n * u) (2 * ((n : Int) + 1) * (2 * ((n : Int) + 1) + 1) * 1099511627776)) = serT u (n + 1) := by rw [serT]
    rw [et]
    have h := ih k (n + 1) (by omega) (by omega)
    have es : serS u (n + 1) = if n % 2 = 0 then wrap64 (serS u n - serT u (n + 1)) else wrap64 (serS u n + serT u (n + 1)) := by rw [serS]
    rw [show ((n + 1 : Nat) : Int) = (n : Int) + 1 from by omega, es] at h
    rw [← h]
    by_cases c : n % 2 = 0
    · rw [if_pos c, if_pos c, if_neg (by omega), w64_id (show -9223372036854775808 ≤ (-1 : Int) from by decide) (by decide)]
      congr 1
      generalize serT u (n + 1) = t
      unfold wrap64; omega
    · rw [if_neg c, if_neg c, if_pos (by omega), w64_id (show -9223372036854775808 ≤ -(-1 : Int) from by decide) (by decide)]
      congr 1
      generalize serT u (n + 1) = t
      unfold wrap64; omega
theorem sinc_series_eq {k : Nat} (hk : 200 ≤ k) {p q : Int} (hp : -9223372036854775807 ≤ p ∧ p ≤ 9223372036854775807) (hq : I64 q) : sinc_series.f k p q = some (serV p q) := by
  unfold sinc_series.f sinc_size.f serV
  have e : mx p (wrap64 (-p)) = siz p := by rw [w64_id (by omega) (by omega)]; unfold mx siz; split <;> split <;> omega
  have hs : I64 (siz p) := by unfold siz; split <;> constructor <;> omega
  rw [e]
  simp only [Option.bind_some]
  rw [wide_MulDiv_eq (by omega) (by decide) hs hq]
  simp only [Option.bind_some]
  rw [wide_MulDiv_eq (by omega) (hold_i _) hs hq]
  simp only [Option.bind_some]
  exact sinc_series_l0 _ (hold_i _) 30 k 0 (by omega) (by omega)
def lanV (p q : Int) : Int := if mayP p q ∧ siz p < 3 * q then sh (mulsh (serV p q) (serV p (3 * q)) 40) 10 else 0
theorem mulsh_i (a b n : Int) : I64 (mulsh a b n) := by
  unfold mulsh; split
  · constructor <;> omega
  · exact hold_i _
theorem serV_i (p q : Int) : I64 (serV p q) := serS_i _ _
theorem lanV_i (p q : Int) : I64 (lanV p q) := by
  unfold lanV; split
  · exact sh_range (mulsh_i _ _ _)
  · constructor <;> omega
theorem sinc_Lanczos_eq {k : Nat} (hk : 300 ≤ k) (p q : Int) : sinc_Lanczos.f k p q = some (lanV p q) := by
  obtain ⟨k, rfl⟩ : ∃ m, k = m + 1 := ⟨k - 1, by omega⟩
  unfold sinc_Lanczos.f lanV
  rw [sinc_May_eq]
  simp only [Option.bind_some]
  by_cases c : mayP p q
  · have c' : 1 ≤ q ∧ q ≤ 1048576 ∧ -4 * q ≤ p ∧ p ≤ 4 * q := c
    rw [if_pos (decide_eq_true c)]
    have e : mx p (wrap64 (-p)) = siz p := by rw [w64_id (by omega) (by omega)]; unfold mx siz; split <;> split <;> omega
    unfold sinc_size.f
    rw [e, w64_id (show -9223372036854775808 ≤ 3 * q from by omega) (by omega)]
    simp only [Option.bind_some]
    rw [sinc_Lanczos.j0]
    by_cases g : siz p < 3 * q
    · rw [if_neg (by simp; omega), if_pos ⟨c, g⟩, w64_id (show -9223372036854775808 ≤ 3 * q from by omega) (by omega), sinc_series_eq (by omega) (by omega) (by constructor <;> omega), sinc_series_eq (by omega) (by omega) (by constructor <;> omega)]
      simp only [Option.bind_some]
      rw [wide_MulShift_eq (by omega) (serV_i _ _) (serV_i _ _) (by decide)]
      simp only [Option.bind_some]
      rw [fixed_Shift_eq (mulsh_i _ _ _) (by decide)]
      rfl
    · rw [if_pos (by simp; omega), if_neg (by omega)]
  · rw [if_neg (by simpa using c), if_neg (by intro h; exact c h.1), sinc_Lanczos.j0, if_pos rfl]
theorem ref04_May_eq (p q : Int) : smaltoref04_May.f p q = some (decide (mayP p q)) := by
  unfold smaltoref04_May.f mayP
  by_cases h1 : q < 1
  · rw [if_pos h1]; congr 1; exact (decide_eq_false (by omega)).symm
  rw [if_neg h1]
  by_cases h2 : q > 1048576
  · rw [if_pos h2]; congr 1; exact (decide_eq_false (by omega)).symm
  rw [if_neg h2, w64_id (show -9223372036854775808 ≤ -4 * q from by omega) (by omega), w64_id (show -9223372036854775808 ≤ 4 * q from by omega) (by omega)]
  by_cases h3 : p ≤ 4 * q
  · rw [if_pos h3]; congr 1; exact decide_eq_decide.2 (by omega)
  · rw [if_neg h3]; congr 1; exact (decide_eq_false (by omega)).symm
theorem ref04_Series_l0 (u : Int) (hu : I64 u) : ∀ (d k n : Nat) (a b : Int), n + d = 30 → d + 600 < k → I64 a → I64 b → wrap64 (a - b) = serS u n →
    smaltoref04_Series.l0 k u a b (serT u n) ((n : Int) + 1) = some (serS u 30) := by
  intro d
  induction d with
  | zero =>
    intro k n a b hn hk ha hb he
    obtain ⟨k, rfl⟩ : ∃ m, k = m + 1 := ⟨k - 1, by omega⟩
    rw [smaltoref04_Series.l0, if_neg (by omega), he, show n = 30 from by omega]
  | succ d ih =>
    intro k n a b hn hk ha hb he
    obtain ⟨k, rfl⟩ : ∃ m, k = m + 1 := ⟨k - 1, by omega⟩
    have hd := den_le n (by omega)
    rw [smaltoref04_Series.l0, if_pos (by omega), w64_id (show -9223372036854775808 ≤ 2 * ((n : Int) + 1) from by omega) (by omega), w64_id (show -9223372036854775808 ≤ 2 * ((n : Int) + 1) + 1 from by omega) (by omega),
      w64_id (show -9223372036854775808 ≤ 2 * ((n : Int) + 1) * (2 * ((n : Int) + 1) + 1) from by omega) (by omega), w64_id (show -9223372036854775808 ≤ 2 * ((n : Int) + 1) * (2 * ((n : Int) + 1) + 1) * 1099511627776 from by omega) (by omega),
      w64_id (show -9223372036854775808 ≤ (n : Int) + 1 + 1 from by omega) (by omega)]
    rw [ref02_MulDiv_eq (by omega) (serT_i u n) hu (by constructor <;> omega)]
    simp only [Option.bind_some]
    have et : hold (rdiv (serT u n * u) (2 * ((n : Int) + 1) * (2 * ((n : Int) + 1) + 1) * 1099511627776)) = serT u (n + 1) := by rw [serT]
    rw [et]
    have em : Int.tmod ((n : Int) + 1) 2 = (((n + 1) % 2 : Nat) : Int) := by rw [Int.tmod_eq_emod_of_nonneg (by omega)]; omega
    have ec : ((n + 1 : Nat) : Int) = (n : Int) + 1 := by omega
    rw [em]
    have es : serS u (n + 1) = if n % 2 = 0 then wrap64 (serS u n - serT u (n + 1)) else wrap64 (serS u n + serT u (n + 1)) := by rw [serS]
    by_cases c : n % 2 = 0
    · rw [if_pos (by omega)]
      rw [if_pos c] at es
      have e2 : wrap64 (a - wrap64 (b + serT u (n + 1))) = serS u (n + 1) := by
        rw [es, ← he]
        generalize serT u (n + 1) = x
        unfold wrap64; omega
      have h := ih k (n + 1) a (wrap64 (b + serT u (n + 1))) (by omega) (by omega) ha (w64_i4 _) e2
      rw [ec] at h; exact h
    · rw [if_neg (by omega)]
      rw [if_neg c] at es
      have e2 : wrap64 (wrap64 (a + serT u (n + 1)) - b) = serS u (n + 1) := by
        rw [es, ← he]
        generalize serT u (n + 1) = x
        unfold wrap64; omega
      have h := ih k (n + 1) (wrap64 (a + serT u (n + 1))) b (by omega) (by omega) (w64_i4 _) hb e2
      rw [ec] at h; exact h
theorem ref04_Series_eq {k : Nat} (hk : 1000 ≤ k) {p q : Int} (hp : -9223372036854775807 ≤ p ∧ p ≤ 9223372036854775807) (hq : I64 q) : smaltoref04_Series.f k p q = some (serV p q) := by
  obtain ⟨k, rfl⟩ : ∃ m, k = m + 1 := ⟨k - 1, by omega⟩
  have main : ∀ x, 0 ≤ x → x ≤ 9223372036854775807 → smaltoref04_Series.j0 (k + 1) x q = some (serS (serU x q) 30) := by
    intro x h0 h1
    rw [smaltoref04_Series.j0, ref02_MulDiv_eq (by omega) (by decide) (by constructor <;> omega) hq]
    simp only [Option.bind_some]
    rw [ref02_MulDiv_eq (by omega) (hold_i _) (by constructor <;> omega) hq]
    simp only [Option.bind_some]
    exact ref04_Series_l0 _ (hold_i _) 30 k 0 _ _ (by omega) (by omega) (by decide) (by decide) (by rw [serS]; unfold wrap64; decide)
  unfold smaltoref04_Series.f serV siz
  by_cases c : p < 0
  · rw [if_pos c, if_pos c, w64_id (by omega) (by omega), main _ (by omega) (by omega)]
  · rw [if_neg c, if_neg c, main _ (by omega) (by omega)]
theorem ref04_Lanczos_eq {k : Nat} (hk : 60000 ≤ k) (p q : Int) : smaltoref04_Lanczos.f k p q = some (lanV p q) := by
  obtain ⟨k, rfl⟩ : ∃ m, k = m + 1 := ⟨k - 1, by omega⟩
  unfold smaltoref04_Lanczos.f lanV
  rw [ref04_May_eq]
  simp only [Option.bind_some]
  by_cases c : mayP p q
  · have c' : 1 ≤ q ∧ q ≤ 1048576 ∧ -4 * q ≤ p ∧ p ≤ 4 * q := c
    rw [if_pos (decide_eq_true c), w64_id (show -9223372036854775808 ≤ 3 * q from by omega) (by omega), w64_id (show -9223372036854775808 ≤ -3 * q from by omega) (by omega)]
    by_cases g : siz p < 3 * q
    · have g2 : p < 3 * q ∧ -(3 * q) < p := by unfold siz at g; split at g <;> omega
      rw [if_neg (by omega), decide_eq_false (by omega), smaltoref04_Lanczos.j0, if_neg (by decide), if_pos ⟨c, g⟩, w64_id (show -9223372036854775808 ≤ 3 * q from by omega) (by omega), ref04_Series_eq (by omega) (by omega) (by constructor <;> omega), ref04_Series_eq (by omega) (by omega) (by constructor <;> omega)]
      simp only [Option.bind_some]
      rw [ref02_MulShift_eq (by omega) (serV_i _ _) (serV_i _ _) (by decide)]
      simp only [Option.bind_some]
      rw [ref01_Shift_eq (by omega) (mulsh_i _ _ _) (by decide)]
      rfl
    · rw [if_neg (show ¬ (mayP p q ∧ siz p < 3 * q) from by omega)]
      by_cases g3 : p ≥ 3 * q
      · rw [if_pos g3, smaltoref04_Lanczos.j0, if_pos rfl]
      · rw [if_neg g3, decide_eq_true (by unfold siz at g; split at g <;> omega), smaltoref04_Lanczos.j0, if_pos rfl]
  · rw [if_neg (by simpa using c), if_neg (by intro h; exact c h.1), smaltoref04_Lanczos.j0, if_pos rfl]
/-- May there be such a sample? -/
def mayR (f n m i : Int) : Prop := 0 ≤ f ∧ f < 3 ∧ 1 ≤ n ∧ n ≤ 65536 ∧ 1 ≤ m ∧ m ≤ 65536 ∧ 0 ≤ i ∧ i < m
instance (f n m i : Int) : Decidable (mayR f n m i) := by unfold mayR; exact inferInstance
theorem raw_may_eq (f n m i : Int) : raw_may.f f n m i = some (decide (mayR f n m i)) := by
  unfold raw_may.f mayR
  by_cases h1 : f ≥ 0
  · rw [if_pos h1]
    by_cases h2 : f < 3
    · rw [if_pos h2]
      by_cases h3 : n ≥ 1
      · rw [if_pos h3]
        by_cases h4 : n ≤ 65536
        · rw [if_pos h4]
          by_cases h5 : m ≥ 1
          · rw [if_pos h5]
            by_cases h6 : m ≤ 65536
            · rw [if_pos h6]
              by_cases h7 : i ≥ 0
              · rw [if_pos h7]; congr 1; exact decide_eq_decide.2 (by omega)
              · rw [if_neg h7]; congr 1; exact (decide_eq_false (by omega)).symm
            · rw [if_neg h6]; congr 1; exact (decide_eq_false (by omega)).symm
          · rw [if_neg h5]; congr 1; exact (decide_eq_false (by omega)).symm
        · rw [if_neg h4]; congr 1; exact (decide_eq_false (by omega)).symm
      · rw [if_neg h3]; congr 1; exact (decide_eq_false (by omega)).symm
    · rw [if_neg h2]; congr 1; exact (decide_eq_false (by omega)).symm
  · rw [if_neg h1]; congr 1; exact (decide_eq_false (by omega)).symm
/-- The quotient, upwards. -/
def cei (a b : Int) : Int := -((-a) / b)
theorem ediv_bnd {a b M : Int} (hb : 0 < b) (hM : 0 ≤ M) (h0 : -M ≤ a) (h1 : a ≤ M) : -M ≤ a / b ∧ a / b ≤ M := by
  have e : M * 1 ≤ M * b := Int.mul_le_mul_of_nonneg_left (by omega) hM
  have n : -M * b = -(M * b) := Int.neg_mul _ _
  refine ⟨?_, ?_⟩
  · rw [Int.le_ediv_iff_mul_le hb]; omega
  · have : a / b < M + 1 := by
      rw [Int.ediv_lt_iff_lt_mul hb, Int.add_mul]; omega
    omega
theorem lt_cei {a b j : Int} (hb : 0 < b) : j < cei a b ↔ j * b < a := by
  unfold cei
  have := Int.ediv_lt_iff_lt_mul (a := -a) (b := -j) hb
  rw [Int.neg_mul] at this
  omega
theorem div_lt {a b j : Int} (hb : 0 < b) : a / b < j ↔ a < j * b := Int.ediv_lt_iff_lt_mul hb
theorem fixed_Floor_pos {k : Nat} (hk : 1 ≤ k) {a b : Int} (ha : -1152921504606846976 ≤ a ∧ a ≤ 1152921504606846976) (hb : 0 < b ∧ b ≤ 9223372036854775807) : fixed_Floor.f k a b = some (a / b) := by
  have h := ediv_bnd (a := a) (M := 1152921504606846976) hb.1 (by decide) ha.1 ha.2
  rw [fixed_Floor_eq hk (by constructor <;> omega) (by constructor <;> omega)]
  unfold flo
  rw [if_pos hb.1, hold_id (by omega) (by omega)]
theorem raw_ceil_eq {k : Nat} (hk : 1 ≤ k) {a b : Int} (ha : -1152921504606846976 ≤ a ∧ a ≤ 1152921504606846976) (hb : 0 < b ∧ b ≤ 9223372036854775807) : raw_ceil.f k a b = some (cei a b) := by
  have h := ediv_bnd (a := -a) (M := 1152921504606846976) hb.1 (by decide) (by omega) (by omega)
  unfold raw_ceil.f cei
  rw [w64_id (by omega) (by omega), fixed_Floor_pos hk (by omega) hb]
  simp only [Option.bind_some]
  rw [w64_id (by omega) (by omega)]
/-- How far a window reaches. -/
def reachR (f n m : Int) : Int := (if f = 1 then 4 else 6) * mx n m
/-- The window's least one. -/
def winLo (f n m i : Int) : Int := if f = 0 then i * n / m else ((2 * (i * n) + n - m) - reachR f n m) / (2 * m) + 1
/-- The one behind the window's last one. -/
def winHi (f n m i : Int) : Int := if f = 0 then cei (i * n + n) m else cei ((2 * (i * n) + n - m) + reachR f n m) (2 * m)
theorem in_le {n m i : Int} (hn : 1 ≤ n ∧ n ≤ 65536) (hm : 1 ≤ m ∧ m ≤ 65536) (hi : 0 ≤ i ∧ i < m) : 0 ≤ i * n ∧ i * n ≤ 4294967296 := by
  constructor
  · exact Int.mul_nonneg (by omega) (by omega)
  · have : i * n ≤ 65536 * 65536 := Int.mul_le_mul (by omega) (by omega) (by omega) (by decide)
    omega
theorem reachR_le {f n m : Int} (hn : 1 ≤ n ∧ n ≤ 65536) (hm : 1 ≤ m ∧ m ≤ 65536) : 4 ≤ reachR f n m ∧ reachR f n m ≤ 393216 := by
  unfold reachR mx; split <;> split <;> omega
theorem win_bnd {f n m i : Int} (h : mayR f n m i) : -8589934592 ≤ winLo f n m i ∧ winLo f n m i ≤ 17179869184 ∧ -17179869184 ≤ winHi f n m i ∧ winHi f n m i ≤ 17179869184 := by
  obtain ⟨h1, h2, h3, h4, h5, h6, h7, h8⟩ := h
  have hP := in_le ⟨h3, h4⟩ ⟨h5, h6⟩ ⟨h7, h8⟩
  have hR := reachR_le (f := f) ⟨h3, h4⟩ ⟨h5, h6⟩
  unfold winLo winHi cei
  have a := ediv_bnd (a := i * n) (b := m) (M := 8589934591) (by omega) (by decide) (by omega) (by omega)
  have a2 := ediv_bnd (a := -(i * n + n)) (b := m) (M := 17179869184) (by omega) (by decide) (by omega) (by omega)
  have b := ediv_bnd (a := (2 * (i * n) + n - m) - reachR f n m) (b := 2 * m) (M := 17179869183) (by omega) (by decide) (by omega) (by omega)
  have b2 := ediv_bnd (a := -((2 * (i * n) + n - m) + reachR f n m)) (b := 2 * m) (M := 17179869184) (by omega) (by decide) (by omega) (by omega)
  have c : -8589934592 ≤ ((2 * (i * n) + n - m) - reachR f n m) / (2 * m) := by
    have : -(8589934592 : Int) ≤ (2 * (i * n) + n - m) - reachR f n m := by omega
    rw [Int.le_ediv_iff_mul_le (by omega)]; omega
  split <;> omega
theorem raw_Window_eq {k : Nat} (hk : 1 ≤ k) (f n m i : Int) : raw_Window.f k f n m i = some (if mayR f n m i then (winLo f n m i, winHi f n m i - winLo f n m i) else (0, 0)) := by
  by_cases h : mayR f n m i
  · rw [if_pos h]
    have hw := win_bnd h
    obtain ⟨h1, h2, h3, h4, h5, h6, h7, h8⟩ := id h
    have hP := in_le ⟨h3, h4⟩ ⟨h5, h6⟩ ⟨h7, h8⟩
    have hx : 1 ≤ mx n m ∧ mx n m ≤ 65536 := by unfold mx; split <;> omega
    have q1 : (i + 1) * n = i * n + n := by rw [Int.add_mul, Int.one_mul]
    have q2 : (2 * i + 1) * n = 2 * (i * n) + n := by rw [Int.add_mul, Int.one_mul, Int.mul_assoc]
    have e1 : wrap64 (i * n) = i * n := w64_id (by omega) (by omega)
    have e2 : wrap64 (i + 1) = i + 1 := w64_id (by omega) (by omega)
    have e3 : wrap64 (i * n + n) = i * n + n := w64_id (by omega) (by omega)
    have e4 : wrap64 (2 * i) = 2 * i := w64_id (by omega) (by omega)
    have e5 : wrap64 (2 * i + 1) = 2 * i + 1 := w64_id (by omega) (by omega)
    have e6 : wrap64 (2 * (i * n) + n) = 2 * (i * n) + n := w64_id (by omega) (by omega)
    have e7 : wrap64 (2 * (i * n) + n - m) = 2 * (i * n) + n - m := w64_id (by omega) (by omega)
    have e8 : wrap64 (2 * m) = 2 * m := w64_id (by omega) (by omega)
    have e9 : wrap64 (4 * mx n m) = 4 * mx n m := w64_id (by omega) (by omega)
    have e10 : wrap64 (6 * mx n m) = 6 * mx n m := w64_id (by omega) (by omega)
    have f1 : fixed_Floor.f k (i * n) m = some (i * n / m) := fixed_Floor_pos hk (by omega) (by omega)
    have f2 : raw_ceil.f k (i * n + n) m = some (cei (i * n + n) m) := raw_ceil_eq hk (by omega) (by omega)
    have hf : f = 0 ∨ f = 1 ∨ f = 2 := by omega
    unfold raw_Window.f
    rcases hf with rfl | rfl | rfl
    · rw [if_neg (by decide), if_neg (by decide)]
      unfold raw_Window_gen.f
      rw [raw_may_eq, decide_eq_true h]
      simp only [Option.bind_some, if_true, e1, e2, q1, e3, f1, f2]
      unfold winLo winHi at hw ⊢
      simp only [if_true] at hw ⊢
      rw [w64_id (by omega) (by omega)]
    · rw [if_pos rfl]
      unfold raw_Window_at1.f
      rw [raw_may_eq, decide_eq_true h]
      unfold winLo winHi reachR at hw ⊢
      simp only [if_true] at hw ⊢
      rw [if_neg (by decide), if_neg (by decide)] at hw
      rw [if_neg (by decide), if_neg (by decide)]
      simp only [Option.bind_some, if_true, e1, e2, q1, e3, f1, f2, e4, e5, q2, e6, e7, e8, e9]
      have e11 : wrap64 (2 * (i * n) + n - m - 4 * mx n m) = 2 * (i * n) + n - m - 4 * mx n m := w64_id (by omega) (by omega)
      have e12 : wrap64 (2 * (i * n) + n - m + 4 * mx n m) = 2 * (i * n) + n - m + 4 * mx n m := w64_id (by omega) (by omega)
      rw [e11, e12, fixed_Floor_pos hk (by omega) (by omega), raw_ceil_eq hk (by omega) (by omega)]
      simp only [Option.bind_some]
      have e13 : wrap64 ((2 * (i * n) + n - m - 4 * mx n m) / (2 * m) + 1) = (2 * (i * n) + n - m - 4 * mx n m) / (2 * m) + 1 := w64_id (by omega) (by omega)
      rw [e13, w64_id (by omega) (by omega)]
    · rw [if_neg (by decide), if_pos rfl]
      unfold raw_Window_at2.f
      rw [raw_may_eq, decide_eq_true h]
      unfold winLo winHi reachR at hw ⊢
      rw [if_neg (by decide), if_neg (by decide), if_neg (by decide)] at hw
      rw [if_neg (by decide), if_neg (by decide), if_neg (by decide)]
      simp only [Option.bind_some, if_true, e1, e2, q1, e3, f1, f2, e4, e5, q2, e6, e7, e8, e10]
      have e11 : wrap64 (2 * (i * n) + n - m - 6 * mx n m) = 2 * (i * n) + n - m - 6 * mx n m := w64_id (by omega) (by omega)
      have e12 : wrap64 (2 * (i * n) + n - m + 6 * mx n m) = 2 * (i * n) + n - m + 6 * mx n m := w64_id (by omega) (by omega)
      rw [e11, e12, fixed_Floor_pos hk (by omega) (by omega), raw_ceil_eq hk (by omega) (by omega)]
      simp only [Option.bind_some]
      have e13 : wrap64 ((2 * (i * n) + n - m - 6 * mx n m) / (2 * m) + 1) = (2 * (i * n) + n - m - 6 * mx n m) / (2 * m) + 1 := w64_id (by omega) (by omega)
      rw [e13, w64_id (by omega) (by omega)]
  · rw [if_neg h]
    unfold raw_Window.f
    have hd := decide_eq_false h
    split
    · rename_i c; subst c; unfold raw_Window_at1.f; rw [raw_may_eq, hd]; rfl
    · split
      · rename_i c; subst c; unfold raw_Window_at2.f; rw [raw_may_eq, hd]; rfl
      · unfold raw_Window_gen.f; rw [raw_may_eq, hd]; rfl
/-- The cubic's weight of a fraction. -/
def keyV (p q : Int) : Int :=
  if 1 ≤ q ∧ q ≤ 262144 ∧ p < 2 * q ∧ -2 * q < p then
    hold (rdiv ((if siz p ≥ q then -(siz p * siz p * siz p) + 5 * (siz p * siz p * q) - 8 * (siz p * q * q) + 4 * (q * q * q) else 3 * (siz p * siz p * siz p) - 5 * (siz p * siz p * q) + 2 * (q * q * q)) * 1073741824) (2 * (q * q * q)))
  else 0
theorem keyV_i (p q : Int) : I64 (keyV p q) := by
  unfold keyV; split
  · exact hold_i _
  · constructor <;> omega
theorem keyV_neg (p q : Int) : keyV (-p) q = keyV p q := by
  unfold keyV
  have e2 : siz (-p) = siz p := by unfold siz; split <;> split <;> omega
  rw [e2]
  by_cases c : 1 ≤ q ∧ q ≤ 262144 ∧ p < 2 * q ∧ -2 * q < p
  · rw [if_pos c, if_pos (by omega)]
  · rw [if_neg c, if_neg (by omega)]
theorem cub_le {a b c M : Int} (ha : 0 ≤ a ∧ a ≤ M) (hb : 0 ≤ b ∧ b ≤ M) (hc : 0 ≤ c ∧ c ≤ M) : 0 ≤ a * b ∧ a * b ≤ M * M ∧ 0 ≤ a * b * c ∧ a * b * c ≤ M * M * M := by
  have h1 : 0 ≤ a * b := Int.mul_nonneg ha.1 hb.1
  have h2 : a * b ≤ M * M := Int.mul_le_mul ha.2 hb.2 hb.1 (by omega)
  exact ⟨h1, h2, Int.mul_nonneg h1 hc.1, Int.mul_le_mul h2 hc.2 hc.1 (by omega)⟩
theorem raw_Keys_eq {k : Nat} (hk : 50 ≤ k) {p q : Int} (hp : I64 p) (hq : I64 q) : raw_Keys.f k p q = some (keyV p q) := by
  obtain ⟨k, rfl⟩ : ∃ m, k = m + 1 := ⟨k - 1, by omega⟩
  unfold raw_Keys.f keyV
  by_cases h1 : q < 1
  · rw [if_pos h1, if_neg (by omega), raw_Keys.j0, if_pos rfl]
  rw [if_neg h1]
  by_cases h2 : q > 262144
  · rw [if_pos h2, if_neg (by omega), raw_Keys.j0, if_pos rfl]
  rw [if_neg h2, w64_id (show -9223372036854775808 ≤ 2 * q from by omega) (by omega), w64_id (show -9223372036854775808 ≤ -2 * q from by omega) (by omega)]
  by_cases h3 : p ≥ 2 * q
  · rw [if_pos h3, if_neg (by omega), raw_Keys.j0, if_pos rfl]
  rw [if_neg h3, raw_Keys.j0]
  by_cases h4 : p ≤ -2 * q
  · rw [if_pos (by simpa using h4), if_neg (by omega)]
  rw [if_neg (by simpa using h4), if_pos (show 1 ≤ q ∧ q ≤ 262144 ∧ p < 2 * q ∧ -2 * q < p from by omega)]
  have e : mx p (wrap64 (-p)) = siz p := by rw [w64_id (by omega) (by omega)]; unfold mx siz; split <;> split <;> omega
  have hs : 0 ≤ siz p ∧ siz p ≤ 524288 := by unfold siz; split <;> omega
  rw [e]
  generalize siz p = s at hs ⊢
  have b1 := cub_le hs hs hs
  have b2 := cub_le hs hs (show 0 ≤ q ∧ q ≤ 524288 by omega)
  have b3 := cub_le hs (show 0 ≤ q ∧ q ≤ 524288 by omega) (show 0 ≤ q ∧ q ≤ 524288 by omega)
  have b4 := cub_le (show 0 ≤ q ∧ q ≤ 262144 by omega) (show 0 ≤ q ∧ q ≤ 262144 by omega) (show 0 ≤ q ∧ q ≤ 262144 by omega)
  have a1 : -s * s = -(s * s) := Int.neg_mul _ _
  have a2 : -(s * s) * s = -(s * s * s) := Int.neg_mul _ _
  have a3 : ∀ x y : Int, 5 * x * y = 5 * (x * y) := fun x y => Int.mul_assoc _ _ _
  have a4 : ∀ x y : Int, 8 * x * y = 8 * (x * y) := fun x y => Int.mul_assoc _ _ _
  have a5 : ∀ x y : Int, 4 * x * y = 4 * (x * y) := fun x y => Int.mul_assoc _ _ _
  have a6 : ∀ x y : Int, 2 * x * y = 2 * (x * y) := fun x y => Int.mul_assoc _ _ _
  have a7 : ∀ x y : Int, 3 * x * y = 3 * (x * y) := fun x y => Int.mul_assoc _ _ _
  have w1 : wrap64 (-s) = -s := w64_id (by omega) (by omega)
  have w2 : wrap64 (-(s * s)) = -(s * s) := w64_id (by omega) (by omega)
  have w3 : wrap64 (-(s * s * s)) = -(s * s * s) := w64_id (by omega) (by omega)
  have w4 : wrap64 (5 * s) = 5 * s := w64_id (by omega) (by omega)
  have w5 : wrap64 (5 * (s * s)) = 5 * (s * s) := w64_id (by omega) (by omega)
  have w6 : wrap64 (5 * (s * s * q)) = 5 * (s * s * q) := w64_id (by omega) (by omega)
  have w7 : wrap64 (8 * s) = 8 * s := w64_id (by omega) (by omega)
  have w8 : wrap64 (8 * (s * q)) = 8 * (s * q) := w64_id (by omega) (by omega)
  have w9 : wrap64 (8 * (s * q * q)) = 8 * (s * q * q) := w64_id (by omega) (by omega)
  have w10 : wrap64 (4 * q) = 4 * q := w64_id (by omega) (by omega)
  have w11 : wrap64 (4 * (q * q)) = 4 * (q * q) := w64_id (by omega) (by omega)
  have w12 : wrap64 (4 * (q * q * q)) = 4 * (q * q * q) := w64_id (by omega) (by omega)
  have w13 : wrap64 (2 * q) = 2 * q := w64_id (by omega) (by omega)
  have w14 : wrap64 (2 * (q * q)) = 2 * (q * q) := w64_id (by omega) (by omega)
  have w15 : wrap64 (2 * (q * q * q)) = 2 * (q * q * q) := w64_id (by omega) (by omega)
  have w16 : wrap64 (3 * s) = 3 * s := w64_id (by omega) (by omega)
  have w17 : wrap64 (3 * (s * s)) = 3 * (s * s) := w64_id (by omega) (by omega)
  have w18 : wrap64 (3 * (s * s * s)) = 3 * (s * s * s) := w64_id (by omega) (by omega)
  simp only [w1, a1, w2, a2, w3, w4, a3, w5, w6, w7, a4, w8, w9, w10, a5, w11, w12, w13, a6, w14, w15, w16, a7, w17, w18]
  by_cases h5 : s ≥ q
  · rw [if_pos h5, if_pos h5]
    have v1 : wrap64 (-(s * s * s) + 5 * (s * s * q)) = -(s * s * s) + 5 * (s * s * q) := w64_id (by omega) (by omega)
    have v2 : wrap64 (-(s * s * s) + 5 * (s * s * q) - 8 * (s * q * q)) = -(s * s * s) + 5 * (s * s * q) - 8 * (s * q * q) := w64_id (by omega) (by omega)
    have v3 : wrap64 (-(s * s * s) + 5 * (s * s * q) - 8 * (s * q * q) + 4 * (q * q * q)) = -(s * s * s) + 5 * (s * s * q) - 8 * (s * q * q) + 4 * (q * q * q) := w64_id (by omega) (by omega)
    rw [v1, v2, v3, wide_MulDiv_eq (by omega) (by constructor <;> omega) (by decide) (by constructor <;> omega)]
    rfl
  · rw [if_neg h5, if_neg h5]
    have v1 : wrap64 (3 * (s * s * s) - 5 * (s * s * q)) = 3 * (s * s * s) - 5 * (s * s * q) := w64_id (by omega) (by omega)
    have v2 : wrap64 (3 * (s * s * s) - 5 * (s * s * q) + 2 * (q * q * q)) = 3 * (s * s * s) - 5 * (s * s * q) + 2 * (q * q * q) := w64_id (by omega) (by omega)
    rw [v1, v2, wide_MulDiv_eq (by omega) (by constructor <;> omega) (by decide) (by constructor <;> omega)]
    rfl
/-- The part of the output's stretch that a source sample covers; the fraction of a source sample. -/
def partR (n m i j : Int) : Int := mn (i * n + n) (j * m + m) - mx (i * n) (j * m)
def fracR (n m i j : Int) : Int := 2 * (m * j) - (2 * (i * n) + n) + m
/-- A weight. -/
def wV (f n m i j : Int) : Int := if f = 0 then hold (rdiv (partR n m i j * 1073741824) n) else if f = 1 then keyV (fracR n m i j) (2 * mx n m) else lanV (fracR n m i j) (2 * mx n m)
theorem wV_i (f n m i j : Int) : I64 (wV f n m i j) := by
  unfold wV; split
  · exact hold_i _
  · split
    · exact keyV_i _ _
    · exact lanV_i _ _
theorem jm_le {m j : Int} (hm : 1 ≤ m ∧ m ≤ 65536) (hj : -34359738368 ≤ j ∧ j ≤ 34359738368) : -2251799813685248 ≤ j * m ∧ j * m ≤ 2251799813685248 := by
  have a : j * m ≤ 34359738368 * 65536 := by
    by_cases c : 0 ≤ j
    · exact Int.mul_le_mul hj.2 hm.2 (by omega) (by decide)
    · have : j * m ≤ 0 * m := Int.mul_le_mul_of_nonneg_right (by omega) (by omega)
      omega
  have b : -j * m ≤ 34359738368 * 65536 := by
    by_cases c : 0 ≤ -j
    · exact Int.mul_le_mul (by omega) hm.2 (by omega) (by decide)
    · have : -j * m ≤ 0 * m := Int.mul_le_mul_of_nonneg_right (by omega) (by omega)
      omega
  rw [Int.neg_mul] at b
  constructor <;> omega
theorem raw_weigh_eq {k : Nat} (hk : 300 ≤ k) {f n m i j : Int} (h : mayR f n m i) (hj : -34359738368 ≤ j ∧ j ≤ 34359738368) : raw_weigh.f k f n m i j = some (wV f n m i j) := by
  obtain ⟨h1, h2, h3, h4, h5, h6, h7, h8⟩ := id h
  have hP := in_le ⟨h3, h4⟩ ⟨h5, h6⟩ ⟨h7, h8⟩
  have hx : 1 ≤ mx n m ∧ mx n m ≤ 65536 := by unfold mx; split <;> omega
  have hJ := jm_le ⟨h5, h6⟩ hj
  have q1 : (i + 1) * n = i * n + n := by rw [Int.add_mul, Int.one_mul]
  have q2 : (2 * i + 1) * n = 2 * (i * n) + n := by rw [Int.add_mul, Int.one_mul, Int.mul_assoc]
  have q3 : (j + 1) * m = j * m + m := by rw [Int.add_mul, Int.one_mul]
  have q4 : 2 * m * j = 2 * (m * j) := Int.mul_assoc _ _ _
  have q5 : m * j = j * m := Int.mul_comm _ _
  have e1 : wrap64 (i * n) = i * n := w64_id (by omega) (by omega)
  have e2 : wrap64 (i + 1) = i + 1 := w64_id (by omega) (by omega)
  have e3 : wrap64 (i * n + n) = i * n + n := w64_id (by omega) (by omega)
  have e4 : wrap64 (2 * i) = 2 * i := w64_id (by omega) (by omega)
  have e5 : wrap64 (2 * i + 1) = 2 * i + 1 := w64_id (by omega) (by omega)
  have e6 : wrap64 (2 * (i * n) + n) = 2 * (i * n) + n := w64_id (by omega) (by omega)
  have e7 : wrap64 (j + 1) = j + 1 := w64_id (by omega) (by omega)
  have e8 : wrap64 (j * m) = j * m := w64_id (by omega) (by omega)
  have e9 : wrap64 (j * m + m) = j * m + m := w64_id (by omega) (by omega)
  have e10 : wrap64 (2 * m) = 2 * m := w64_id (by omega) (by omega)
  have e11 : wrap64 (2 * (m * j)) = 2 * (m * j) := w64_id (by omega) (by omega)
  have e12 : wrap64 (2 * (m * j) - (2 * (i * n) + n)) = 2 * (m * j) - (2 * (i * n) + n) := w64_id (by omega) (by omega)
  have e13 : wrap64 (2 * (m * j) - (2 * (i * n) + n) + m) = 2 * (m * j) - (2 * (i * n) + n) + m := w64_id (by omega) (by omega)
  have e14 : wrap64 (2 * mx n m) = 2 * mx n m := w64_id (by omega) (by omega)
  have hp : -9223372036854775808 ≤ partR n m i j ∧ partR n m i j ≤ 9223372036854775807 := by unfold partR mn mx; split <;> split <;> omega
  unfold raw_weigh.f wV
  simp only [e1, e2, q1, e3, e4, e5, q2, e6, e7, e8, q3, e9, e10, q4, e11, e12, e13, e14]
  by_cases c0 : f = 0
  · rw [if_pos c0, if_pos c0]
    have : wrap64 (mn (i * n + n) (j * m + m) - mx (i * n) (j * m)) = partR n m i j := w64_id hp.1 hp.2
    rw [this, wide_MulDiv_eq (by omega) hp (by decide) (by constructor <;> omega)]; rfl
  · rw [if_neg c0, if_neg c0]
    by_cases c1 : f = 1
    · rw [if_pos c1, if_pos c1, raw_Keys_eq (by omega) (by constructor <;> omega) (by constructor <;> omega)]; rfl
    · rw [if_neg c1, if_neg c1, sinc_Lanczos_eq (by omega)]; rfl
/-- A row's weights. -/
def rowV (f n m i : Int) : List Int := (List.range (winHi f n m i - winLo f n m i).toNat).map fun (t : Nat) => wV f n m i (winLo f n m i + (t : Int))
theorem raw_Row_l0 {f n m i : Int} (h : mayR f n m i) (c : Nat) (hc : (c : Int) = winHi f n m i - winLo f n m i) : ∀ (d k t : Nat), t + d = c → d + 400 < k →
    raw_Row.l0 k f n m i (winLo f n m i) ((List.range t).map fun (t : Nat) => wV f n m i (winLo f n m i + (t : Int))) (c : Int) (t : Int) = some (winLo f n m i, (List.range c).map fun (t : Nat) => wV f n m i (winLo f n m i + (t : Int))) := by
  have hw := win_bnd h
  intro d
  induction d with
  | zero =>
    intro k t ht hk
    obtain ⟨k, rfl⟩ : ∃ m, k = m + 1 := ⟨k - 1, by omega⟩
    rw [raw_Row.l0, if_neg (by omega), show t = c from by omega]
  | succ d ih =>
    intro k t ht hk
    obtain ⟨k, rfl⟩ : ∃ m, k = m + 1 := ⟨k - 1, by omega⟩
    rw [raw_Row.l0, if_pos (by omega), w64_id (show -9223372036854775808 ≤ winLo f n m i + (t : Int) from by omega) (by omega), raw_weigh_eq (by omega) h (by omega)]
    simp only [Option.bind_some]
    rw [if_pos (by rw [List.length_map, List.length_range]; omega), w64_id (show -9223372036854775808 ≤ (t : Int) + 1 from by omega) (by omega)]
    have := ih k (t + 1) (by omega) (by omega)
    rw [List.range_succ, List.map_append, List.map_singleton] at this
    rw [show ((t + 1 : Nat) : Int) = (t : Int) + 1 from by omega] at this
    exact this
theorem cei_ge {a b c : Int} (hb : 0 < b) (h : c * b ≤ a) : c ≤ cei a b := by
  have : ¬ cei a b < c := by
    intro hl
    have h1 := (div_lt (a := -a) (j := -(cei a b) + 1) hb).1 (by unfold cei; omega)
    have h2 : (-(cei a b) + 1) * b = -(cei a b * b) + b := by rw [Int.add_mul, Int.neg_mul, Int.one_mul]
    have h3 : (cei a b + 1) * b ≤ c * b := Int.mul_le_mul_of_nonneg_right (by omega) (by omega)
    rw [Int.add_mul, Int.one_mul] at h3
    have h4 : ¬ cei a b * b < a := fun hh => by
      have := (lt_cei (a := a) (j := cei a b) hb).2 hh
      omega
    omega
  omega
/-- The window holds the sample in the middle. -/
theorem win_mid {f n m i : Int} (h : mayR f n m i) : winLo f n m i ≤ i * n / m ∧ i * n / m < winHi f n m i := by
  obtain ⟨h1, h2, h3, h4, h5, h6, h7, h8⟩ := id h
  have hP := in_le ⟨h3, h4⟩ ⟨h5, h6⟩ ⟨h7, h8⟩
  have hx : n ≤ mx n m ∧ m ≤ mx n m := by unfold mx; split <;> omega
  have e := Int.mul_ediv_add_emod (i * n) m
  have r0 := Int.emod_nonneg (i * n) (show m ≠ 0 by omega)
  have r1 := Int.emod_lt_of_pos (i * n) (show 0 < m by omega)
  have ec : i * n / m * m = m * (i * n / m) := Int.mul_comm _ _
  unfold winLo winHi
  by_cases c : f = 0
  · rw [if_pos c, if_pos c]
    refine ⟨Int.le_refl _, (lt_cei (by omega)).2 (by omega)⟩
  · rw [if_neg c, if_neg c]
    have hR : 4 * mx n m ≤ reachR f n m := by unfold reachR; split <;> omega
    have e2 : i * n / m * (2 * m) = 2 * (m * (i * n / m)) := by rw [Int.mul_comm (2 : Int) m, ← Int.mul_assoc, Int.mul_comm _ (2 : Int), ec]
    constructor
    · have := (div_lt (a := 2 * (i * n) + n - m - reachR f n m) (j := i * n / m) (show 0 < 2 * m by omega)).2 (by omega)
      omega
    · exact (lt_cei (by omega)).2 (by omega)
theorem raw_Row_may {k : Nat} {f n m i : Int} (h : mayR f n m i) (hk : (winHi f n m i - winLo f n m i).toNat + 401 ≤ k) : raw_Row.f k f n m i = some (winLo f n m i, rowV f n m i) := by
  have hm := win_mid h
  unfold raw_Row.f rowV
  rw [raw_Window_eq (by omega), if_pos h]
  simp only [Option.bind_some]
  have := raw_Row_l0 h (winHi f n m i - winLo f n m i).toNat (by omega) (winHi f n m i - winLo f n m i).toNat k 0 (by omega) (by omega)
  rw [show (((winHi f n m i - winLo f n m i).toNat : Nat) : Int) = winHi f n m i - winLo f n m i from by omega] at this
  exact this
theorem raw_Row_not {k : Nat} {f n m i : Int} (h : ¬ mayR f n m i) (hk : 2 ≤ k) : raw_Row.f k f n m i = some (0, []) := by
  obtain ⟨k, rfl⟩ : ∃ m, k = m + 1 := ⟨k - 1, by omega⟩
  unfold raw_Row.f
  rw [raw_Window_eq (by omega), if_neg h]
  simp only [Option.bind_some]
  rw [raw_Row.l0, if_neg (by decide)]
theorem rowV_len (f n m i : Int) : (rowV f n m i).length = (winHi f n m i - winLo f n m i).toNat := by
  unfold rowV; rw [List.length_map, List.length_range]
theorem rowV_rd {f n m i : Int} {t : Int} (h0 : 0 ≤ t) (h1 : t < winHi f n m i - winLo f n m i) : rd (rowV f n m i) t = wV f n m i (winLo f n m i + t) := by
  unfold rd rowV
  rw [List.getD_eq_getElem?_getD, List.getElem?_map, List.getElem?_range (by omega)]
  simp only [Option.map_some, Option.getD_some]
  rw [show ((t.toNat : Nat) : Int) = t from by omega]
theorem ref05_May_eq (f n m i : Int) : smaltoref05_May.f f n m i = some (decide (mayR f n m i)) := by
  have e : smaltoref05_May.f f n m i = raw_may.f f n m i := by
    unfold smaltoref05_May.f raw_may.f
    by_cases h2 : f ≤ 2
    · rw [if_pos h2, if_pos (show f < 3 by omega)]
    · rw [if_neg h2, if_neg (show ¬ f < 3 by omega)]
  rw [e, raw_may_eq]
theorem ref05_In_eq {f n m i j : Int} (h : mayR f n m i) (hj : -34359738368 ≤ j ∧ j ≤ 34359738368) : smaltoref05_In.f f n m i j = some (decide (winLo f n m i ≤ j ∧ j < winHi f n m i)) := by
  obtain ⟨h1, h2, h3, h4, h5, h6, h7, h8⟩ := id h
  have hP := in_le ⟨h3, h4⟩ ⟨h5, h6⟩ ⟨h7, h8⟩
  have hx : 1 ≤ mx n m ∧ mx n m ≤ 65536 := by unfold mx; split <;> omega
  have hJ := jm_le ⟨h5, h6⟩ hj
  have q1 : (i + 1) * n = i * n + n := by rw [Int.add_mul, Int.one_mul]
  have q2 : (2 * i + 1) * n = 2 * (i * n) + n := by rw [Int.add_mul, Int.one_mul, Int.mul_assoc]
  have q3 : (j + 1) * m = j * m + m := by rw [Int.add_mul, Int.one_mul]
  have q4 : 2 * m * j = 2 * (j * m) := by rw [Int.mul_assoc, Int.mul_comm m j]
  have q6 : j * (2 * m) = 2 * (j * m) := by rw [Int.mul_comm (2 : Int) m, ← Int.mul_assoc, Int.mul_comm _ (2 : Int)]
  have e1 : wrap64 (i * n) = i * n := w64_id (by omega) (by omega)
  have e2 : wrap64 (i + 1) = i + 1 := w64_id (by omega) (by omega)
  have e3 : wrap64 (i * n + n) = i * n + n := w64_id (by omega) (by omega)
  have e4 : wrap64 (2 * i) = 2 * i := w64_id (by omega) (by omega)
  have e5 : wrap64 (2 * i + 1) = 2 * i + 1 := w64_id (by omega) (by omega)
  have e6 : wrap64 (2 * (i * n) + n) = 2 * (i * n) + n := w64_id (by omega) (by omega)
  have e7 : wrap64 (j + 1) = j + 1 := w64_id (by omega) (by omega)
  have e8 : wrap64 (j * m) = j * m := w64_id (by omega) (by omega)
  have e9 : wrap64 (j * m + m) = j * m + m := w64_id (by omega) (by omega)
  have e10 : wrap64 (2 * m) = 2 * m := w64_id (by omega) (by omega)
  have e10' : wrap64 (2 * n) = 2 * n := w64_id (by omega) (by omega)
  have e11 : wrap64 (2 * (j * m)) = 2 * (j * m) := w64_id (by omega) (by omega)
  have e12 : wrap64 (2 * (j * m) - (2 * (i * n) + n)) = 2 * (j * m) - (2 * (i * n) + n) := w64_id (by omega) (by omega)
  have e13 : wrap64 (2 * (j * m) - (2 * (i * n) + n) + m) = 2 * (j * m) - (2 * (i * n) + n) + m := w64_id (by omega) (by omega)
  have fr : smaltoref05_fraction.f n m i j = some (2 * (j * m) - (2 * (i * n) + n) + m, 2 * mx n m) := by
    unfold smaltoref05_fraction.f mx
    simp only [e4, e5, q2, e6, e10, e10', q4, e11, e12, e13]
    by_cases c : m > n
    · rw [if_pos c, if_pos (show n < m from c)]
    · rw [if_neg c, if_neg (show ¬ n < m from c)]
  unfold smaltoref05_In.f winLo winHi
  by_cases c0 : f = 0
  · simp only [if_pos c0, e1, e2, q1, e3, e7, q3, e8, e9]
    have a1 := div_lt (a := i * n) (b := m) (j := j + 1) (by omega)
    have a2 := lt_cei (a := i * n + n) (b := m) (j := j) (by omega)
    rw [q3] at a1
    by_cases d : j * m + m > i * n
    · rw [if_pos d]; congr 1; exact decide_eq_decide.2 (by omega)
    · rw [if_neg d]; congr 1; exact (decide_eq_false (by omega)).symm
  · have hf : f = 1 ∨ f = 2 := by omega
    simp only [if_neg c0, fr, Option.bind_some]
    have a1 := div_lt (a := 2 * (i * n) + n - m - reachR f n m) (b := 2 * m) (j := j) (by omega)
    have a2 := lt_cei (a := 2 * (i * n) + n - m + reachR f n m) (b := 2 * m) (j := j) (by omega)
    rw [q6] at a1 a2
    rcases hf with rfl | rfl
    · have hr : reachR 1 n m = 4 * mx n m := by unfold reachR; rw [if_pos rfl]
      rw [hr] at a1 a2
      rw [if_neg (by decide), w64_id (show -9223372036854775808 ≤ 2 * (2 * mx n m) from by omega) (by omega), w64_id (show -9223372036854775808 ≤ -(2 * (2 * mx n m)) from by omega) (by omega), hr]
      by_cases d : 2 * (j * m) - (2 * (i * n) + n) + m < 2 * (2 * mx n m)
      · rw [if_pos d]; congr 1; exact decide_eq_decide.2 (by omega)
      · rw [if_neg d]; congr 1; exact (decide_eq_false (by omega)).symm
    · have hr : reachR 2 n m = 6 * mx n m := by unfold reachR; rw [if_neg (by decide)]
      rw [hr] at a1 a2
      rw [if_pos rfl, w64_id (show -9223372036854775808 ≤ 3 * (2 * mx n m) from by omega) (by omega), w64_id (show -9223372036854775808 ≤ -(3 * (2 * mx n m)) from by omega) (by omega), hr]
      by_cases d : 2 * (j * m) - (2 * (i * n) + n) + m < 3 * (2 * mx n m)
      · rw [if_pos d]; congr 1; exact decide_eq_decide.2 (by omega)
      · rw [if_neg d]; congr 1; exact (decide_eq_false (by omega)).symm
theorem ref05_Keys_eq {k : Nat} (hk : 200 ≤ k) {p q : Int} (hp : I64 p) (hq : I64 q) : smaltoref05_Keys.f k p q = some (keyV p q) := by
  obtain ⟨k, rfl⟩ : ∃ m, k = m + 3 := ⟨k - 3, by omega⟩
  unfold smaltoref05_Keys.f keyV
  by_cases h1 : q < 1
  · rw [if_pos h1, if_neg (by omega), smaltoref05_Keys.j0, if_pos rfl]
  rw [if_neg h1, smaltoref05_Keys.j0]
  by_cases h2 : q > 262144
  · rw [if_pos (by simpa using h2), if_neg (by omega)]
  rw [if_neg (by simpa using h2), w64_id (show -9223372036854775808 ≤ 2 * q from by omega) (by omega), w64_id (show -9223372036854775808 ≤ -2 * q from by omega) (by omega)]
  by_cases h3 : p ≥ 2 * q
  · rw [if_pos h3, if_neg (by omega), smaltoref05_Keys.j1, if_pos rfl]
  rw [if_neg h3, smaltoref05_Keys.j1]
  by_cases h4 : p ≤ -2 * q
  · rw [if_pos (by simpa using h4), if_neg (by omega)]
  rw [if_neg (by simpa using h4), if_pos (show 1 ≤ q ∧ q ≤ 262144 ∧ p < 2 * q ∧ -2 * q < p from by omega)]
  have e : (if p < 0 then smaltoref05_Keys.j2 (k + 1) (wrap64 (-p)) q else smaltoref05_Keys.j2 (k + 1) p q) = smaltoref05_Keys.j2 (k + 1) (siz p) q := by
    unfold siz; split
    · rw [w64_id (by omega) (by omega)]
    · rfl
  rw [e, smaltoref05_Keys.j2]
  have hs : 0 ≤ siz p ∧ siz p ≤ 524288 := by unfold siz; split <;> omega
  generalize siz p = s at hs ⊢
  have b1 := cub_le hs hs hs
  have b2 := cub_le hs hs (show 0 ≤ q ∧ q ≤ 524288 by omega)
  have b3 := cub_le hs (show 0 ≤ q ∧ q ≤ 524288 by omega) (show 0 ≤ q ∧ q ≤ 524288 by omega)
  have b4 := cub_le (show 0 ≤ q ∧ q ≤ 262144 by omega) (show 0 ≤ q ∧ q ≤ 262144 by omega) (show 0 ≤ q ∧ q ≤ 262144 by omega)
  have a3 : 5 * (s * s) * q = 5 * (s * s * q) := Int.mul_assoc _ _ _
  have a4 : 8 * s * (q * q) = 8 * (s * q * q) := by rw [Int.mul_assoc, ← Int.mul_assoc s q q]
  have w0 : wrap64 (s * s) = s * s := w64_id (by omega) (by omega)
  have w1 : wrap64 (s * s * s) = s * s * s := w64_id (by omega) (by omega)
  have w2 : wrap64 (q * q) = q * q := w64_id (by omega) (by omega)
  have w3 : wrap64 (q * q * q) = q * q * q := w64_id (by omega) (by omega)
  have w5 : wrap64 (5 * (s * s)) = 5 * (s * s) := w64_id (by omega) (by omega)
  have w6 : wrap64 (5 * (s * s * q)) = 5 * (s * s * q) := w64_id (by omega) (by omega)
  have w7 : wrap64 (8 * s) = 8 * s := w64_id (by omega) (by omega)
  have w9 : wrap64 (8 * (s * q * q)) = 8 * (s * q * q) := w64_id (by omega) (by omega)
  have w12 : wrap64 (4 * (q * q * q)) = 4 * (q * q * q) := w64_id (by omega) (by omega)
  have w15 : wrap64 (2 * (q * q * q)) = 2 * (q * q * q) := w64_id (by omega) (by omega)
  have w18 : wrap64 (3 * (s * s * s)) = 3 * (s * s * s) := w64_id (by omega) (by omega)
  simp only [w0, w1, w2, w3, w5, a3, w6, w7, a4, w9, w12, w15, w18]
  by_cases h5 : s < q
  · rw [if_pos h5, if_neg (show ¬ s ≥ q from by omega)]
    have v1 : wrap64 (3 * (s * s * s) - 5 * (s * s * q)) = 3 * (s * s * s) - 5 * (s * s * q) := w64_id (by omega) (by omega)
    have v2 : wrap64 (3 * (s * s * s) - 5 * (s * s * q) + 2 * (q * q * q)) = 3 * (s * s * s) - 5 * (s * s * q) + 2 * (q * q * q) := w64_id (by omega) (by omega)
    rw [v1, v2, ref02_MulDiv_eq (by omega) (by constructor <;> omega) (by decide) (by constructor <;> omega)]
    rfl
  · rw [if_neg h5, if_pos (show s ≥ q from by omega)]
    have v1 : wrap64 (5 * (s * s * q) - s * s * s) = -(s * s * s) + 5 * (s * s * q) := by rw [w64_id (by omega) (by omega)]; omega
    have v2 : wrap64 (-(s * s * s) + 5 * (s * s * q) - 8 * (s * q * q)) = -(s * s * s) + 5 * (s * s * q) - 8 * (s * q * q) := w64_id (by omega) (by omega)
    have v3 : wrap64 (-(s * s * s) + 5 * (s * s * q) - 8 * (s * q * q) + 4 * (q * q * q)) = -(s * s * s) + 5 * (s * s * q) - 8 * (s * q * q) + 4 * (q * q * q) := w64_id (by omega) (by omega)
    rw [v1, v2, v3, ref02_MulDiv_eq (by omega) (by constructor <;> omega) (by decide) (by constructor <;> omega)]
    rfl
theorem ref05_Weight_eq {k : Nat} (hk : 60000 ≤ k) {f n m i j : Int} (h : mayR f n m i) (hj : -34359738368 ≤ j ∧ j ≤ 34359738368) : smaltoref05_Weight.f k f n m i j = some (wV f n m i j) := by
  obtain ⟨h1, h2, h3, h4, h5, h6, h7, h8⟩ := id h
  have hP := in_le ⟨h3, h4⟩ ⟨h5, h6⟩ ⟨h7, h8⟩
  have hx : 1 ≤ mx n m ∧ mx n m ≤ 65536 := by unfold mx; split <;> omega
  have hJ := jm_le ⟨h5, h6⟩ hj
  have q1 : (i + 1) * n = i * n + n := by rw [Int.add_mul, Int.one_mul]
  have q2 : (2 * i + 1) * n = 2 * (i * n) + n := by rw [Int.add_mul, Int.one_mul, Int.mul_assoc]
  have q3 : (j + 1) * m = j * m + m := by rw [Int.add_mul, Int.one_mul]
  have q4 : 2 * m * j = 2 * (m * j) := Int.mul_assoc _ _ _
  have q5 : m * j = j * m := Int.mul_comm _ _
  have e1 : wrap64 (i * n) = i * n := w64_id (by omega) (by omega)
  have e2 : wrap64 (i + 1) = i + 1 := w64_id (by omega) (by omega)
  have e3 : wrap64 (i * n + n) = i * n + n := w64_id (by omega) (by omega)
  have e4 : wrap64 (2 * i) = 2 * i := w64_id (by omega) (by omega)
  have e5 : wrap64 (2 * i + 1) = 2 * i + 1 := w64_id (by omega) (by omega)
  have e6 : wrap64 (2 * (i * n) + n) = 2 * (i * n) + n := w64_id (by omega) (by omega)
  have e7 : wrap64 (j + 1) = j + 1 := w64_id (by omega) (by omega)
  have e8 : wrap64 (j * m) = j * m := w64_id (by omega) (by omega)
  have e9 : wrap64 (j * m + m) = j * m + m := w64_id (by omega) (by omega)
  have e10 : wrap64 (2 * m) = 2 * m := w64_id (by omega) (by omega)
  have e10' : wrap64 (2 * n) = 2 * n := w64_id (by omega) (by omega)
  have e11 : wrap64 (2 * (m * j)) = 2 * (m * j) := w64_id (by omega) (by omega)
  have e12 : wrap64 (2 * (m * j) - (2 * (i * n) + n)) = 2 * (m * j) - (2 * (i * n) + n) := w64_id (by omega) (by omega)
  have e13 : wrap64 (2 * (m * j) - (2 * (i * n) + n) + m) = 2 * (m * j) - (2 * (i * n) + n) + m := w64_id (by omega) (by omega)
  have fr : smaltoref05_fraction.f n m i j = some (fracR n m i j, 2 * mx n m) := by
    unfold smaltoref05_fraction.f mx fracR
    simp only [e4, e5, q2, e6, e10, e10', q4, e11, e12, e13]
    by_cases c : m > n
    · rw [if_pos c, if_pos (show n < m from c)]
    · rw [if_neg c, if_neg (show ¬ n < m from c)]
  have hfr : -9223372036854775808 ≤ fracR n m i j ∧ fracR n m i j ≤ 9223372036854775807 := by unfold fracR; omega
  unfold smaltoref05_Weight.f wV
  simp only [fr, e1, e2, q1, e3, e7, q3, e8, e9]
  by_cases c0 : f = 0
  · rw [if_pos c0, if_pos c0]
    unfold partR mn mx
    by_cases g1 : j * m > i * n
    · rw [if_pos g1, if_pos (show i * n < j * m from g1)]
      by_cases g2 : j * m + m < i * n + n
      · rw [if_pos g2, if_pos g2, w64_id (by omega) (by omega), ref02_MulDiv_eq (by omega) (by constructor <;> omega) (by decide) (by constructor <;> omega)]; rfl
      · rw [if_neg g2, if_neg g2, w64_id (by omega) (by omega), ref02_MulDiv_eq (by omega) (by constructor <;> omega) (by decide) (by constructor <;> omega)]; rfl
    · rw [if_neg g1, if_neg (show ¬ i * n < j * m from g1)]
      by_cases g2 : j * m + m < i * n + n
      · rw [if_pos g2, if_pos g2, w64_id (by omega) (by omega), ref02_MulDiv_eq (by omega) (by constructor <;> omega) (by decide) (by constructor <;> omega)]; rfl
      · rw [if_neg g2, if_neg g2, w64_id (by omega) (by omega), ref02_MulDiv_eq (by omega) (by constructor <;> omega) (by decide) (by constructor <;> omega)]; rfl
  · rw [if_neg c0, if_neg c0]
    simp only [Option.bind_some]
    by_cases c1 : f = 1
    · rw [if_pos c1, if_pos c1, ref05_Keys_eq (by omega) hfr (by constructor <;> omega)]; rfl
    · rw [if_neg c1, if_neg c1, ref04_Lanczos_eq (by omega)]; rfl
theorem ref05_Row_l2 {f n m i : Int} (h : mayR f n m i) (c : Nat) (hc : (c : Int) = winHi f n m i - winLo f n m i) : ∀ (d k t : Nat), t + d = c → d + 60100 < k →
    smaltoref05_Row.l2 k f n m i (winLo f n m i + (t : Int)) (winLo f n m i) ((List.range t).map fun (t : Nat) => wV f n m i (winLo f n m i + (t : Int))) = some (winLo f n m i, (List.range c).map fun (t : Nat) => wV f n m i (winLo f n m i + (t : Int))) := by
  have hw := win_bnd h
  intro d
  induction d with
  | zero =>
    intro k t ht hk
    obtain ⟨k, rfl⟩ : ∃ m, k = m + 1 := ⟨k - 1, by omega⟩
    rw [smaltoref05_Row.l2, ref05_In_eq h (by omega), decide_eq_false (by omega)]
    simp only [Option.bind_some]
    rw [if_neg (by decide), show t = c from by omega]
  | succ d ih =>
    intro k t ht hk
    obtain ⟨k, rfl⟩ : ∃ m, k = m + 1 := ⟨k - 1, by omega⟩
    rw [smaltoref05_Row.l2, ref05_In_eq h (by omega), decide_eq_true (by omega)]
    simp only [Option.bind_some, if_true]
    rw [ref05_Weight_eq (by omega) h (by omega)]
    simp only [Option.bind_some]
    rw [if_pos (by rw [List.length_map, List.length_range]; omega), w64_id (show -9223372036854775808 ≤ winLo f n m i + (t : Int) + 1 from by omega) (by omega)]
    have := ih k (t + 1) (by omega) (by omega)
    rw [List.range_succ, List.map_append, List.map_singleton] at this
    rw [show winLo f n m i + ((t + 1 : Nat) : Int) = winLo f n m i + (t : Int) + 1 from by omega] at this
    exact this
theorem ref05_Row_l0 {f n m i : Int} (h : mayR f n m i) : ∀ (d k : Nat), winLo f n m i + (d : Int) < winHi f n m i → d + (winHi f n m i - winLo f n m i).toNat + 60200 < k →
    smaltoref05_Row.l0 k f n m i (winLo f n m i + (d : Int)) = some (winLo f n m i, rowV f n m i) := by
  have hw := win_bnd h
  intro d
  induction d with
  | zero =>
    intro k hd hk
    obtain ⟨k, rfl⟩ : ∃ m, k = m + 2 := ⟨k - 2, by omega⟩
    rw [smaltoref05_Row.l0, w64_id (show -9223372036854775808 ≤ winLo f n m i + ((0 : Nat) : Int) - 1 from by omega) (by omega), ref05_In_eq h (by omega), decide_eq_false (by omega)]
    simp only [Option.bind_some]
    rw [if_neg (by decide), smaltoref05_Row.l1, ref05_In_eq h (by omega), decide_eq_true (by omega)]
    simp only [Option.bind_some, if_true]
    have := ref05_Row_l2 h (winHi f n m i - winLo f n m i).toNat (by omega) (winHi f n m i - winLo f n m i).toNat k 0 (by omega) (by omega)
    rw [show winLo f n m i + ((0 : Nat) : Int) = winLo f n m i from by omega] at this ⊢
    exact this
  | succ d ih =>
    intro k hd hk
    obtain ⟨k, rfl⟩ : ∃ m, k = m + 1 := ⟨k - 1, by omega⟩
    rw [smaltoref05_Row.l0, w64_id (show -9223372036854775808 ≤ winLo f n m i + ((d + 1 : Nat) : Int) - 1 from by omega) (by omega), ref05_In_eq h (by omega), decide_eq_true (by omega)]
    simp only [Option.bind_some, if_true]
    rw [show winLo f n m i + ((d + 1 : Nat) : Int) - 1 = winLo f n m i + (d : Int) from by omega]
    exact ih k (by omega) (by omega)
theorem ref05_Row_may {k : Nat} {f n m i : Int} (h : mayR f n m i) (hk : 2 * (winHi f n m i - winLo f n m i).toNat + 60201 ≤ k) : smaltoref05_Row.f k f n m i = some (winLo f n m i, rowV f n m i) := by
  have hm := win_mid h
  have hw := win_bnd h
  obtain ⟨h1, h2, h3, h4, h5, h6, h7, h8⟩ := id h
  have hP := in_le ⟨h3, h4⟩ ⟨h5, h6⟩ ⟨h7, h8⟩
  unfold smaltoref05_Row.f
  rw [ref05_May_eq, decide_eq_true h]
  simp only [Option.bind_some, if_true]
  rw [if_neg (by omega), w64_id (show -9223372036854775808 ≤ i * n from by omega) (by omega), Int.tdiv_eq_ediv_of_nonneg (by omega), w64_id (by omega) (by omega)]
  have := ref05_Row_l0 h (i * n / m - winLo f n m i).toNat k (by omega) (by omega)
  rw [show winLo f n m i + (((i * n / m - winLo f n m i).toNat : Nat) : Int) = i * n / m from by omega] at this
  exact this
theorem ref05_Row_not {k : Nat} {f n m i : Int} (h : ¬ mayR f n m i) : smaltoref05_Row.f k f n m i = some (0, []) := by
  unfold smaltoref05_Row.f
  rw [ref05_May_eq, decide_eq_false h]; rfl
theorem lives05 {k : Nat} (hk : 400 ≤ k) : smaltolaw05_Lives.f k = some true :=
  at_rounds (fun k => smaltolaw05_Lives.mono k) hk (show smaltolaw05_Lives.f 400 = some true by decide +kernel)
theorem same_l0 (l : List Int) (hl : l.length < 4611686018427387904) : ∀ (d k i : Nat), i + d = l.length → d + 1 < k → smaltoref06_Same.l0 k l l (l.length : Int) (i : Int) = some true := by
  intro d
  induction d with
  | zero =>
    intro k i h1 h2
    obtain ⟨k, rfl⟩ : ∃ m, k = m + 1 := ⟨k - 1, by omega⟩
    rw [smaltoref06_Same.l0, if_neg (by omega)]
  | succ d ih =>
    intro k i h1 h2
    obtain ⟨k, rfl⟩ : ∃ m, k = m + 1 := ⟨k - 1, by omega⟩
    rw [smaltoref06_Same.l0, if_pos (by omega), if_pos (by omega), if_pos (by omega), if_pos (by omega), if_pos rfl, w64_id (by omega) (by omega)]
    exact ih k (i + 1) (by omega) (by omega)
theorem same_refl {k : Nat} (l : List Int) (hl : l.length < 4611686018427387904) (hk : l.length + 2 ≤ k) : smaltoref06_Same.f k l l = some true := by
  unfold smaltoref06_Same.f
  rw [if_pos rfl]
  exact same_l0 l hl l.length k 0 (by omega) (by omega)
theorem ref06_plus_eq {k : Nat} (hk : 1 ≤ k) {a b : Int} (ha : I64 a) (hb : I64 b) : smaltoref06_plus.f k a b = some (hold (a + b)) := by
  obtain ⟨k, rfl⟩ : ∃ m, k = m + 1 := ⟨k - 1, by omega⟩
  unfold smaltoref06_plus.f
  by_cases h1 : b > 0
  · rw [if_pos h1, w64_id (by omega) (by omega), smaltoref06_plus.j0]
    by_cases h2 : a > 9223372036854775807 - b
    · rw [if_pos (by simpa using h2)]
      unfold hold; rw [if_neg (by omega), if_pos (by omega)]
    · rw [if_neg (by simpa using h2), if_neg (by omega), w64_id (by omega) (by omega), hold_id (by omega) (by omega)]
  · rw [if_neg h1, smaltoref06_plus.j0, if_neg (by decide)]
    by_cases h2 : b < 0
    · rw [if_pos h2, w64_id (show -9223372036854775808 ≤ -9223372036854775808 - b from by omega) (by omega)]
      by_cases h3 : a < -9223372036854775808 - b
      · rw [if_pos h3]; unfold hold; rw [if_pos (by omega)]
      · rw [if_neg h3, w64_id (by omega) (by omega), hold_id (by omega) (by omega)]
    · rw [if_neg h2, w64_id (by omega) (by omega), hold_id (by omega) (by omega)]
theorem szV_is {x : Int} (hx : I64 x) : szV x = if x ≥ 0 then x else if x < -9223372036854775807 then 9223372036854775807 else -x := by
  have e : x * -1 = -x := by omega
  unfold szV
  rw [e]
  unfold mx hold
  repeat' split
  all_goals omega
theorem szV_i {x : Int} (hx : I64 x) : 0 ≤ szV x ∧ szV x ≤ 9223372036854775807 := by
  rw [szV_is hx]; repeat' split
  all_goals omega
theorem ref06_Size_eq {x : Int} (hx : I64 x) : smaltoref06_Size.f x = some (szV x) := by
  rw [szV_is hx]
  unfold smaltoref06_Size.f
  by_cases h1 : x ≥ 0
  · rw [if_pos h1, if_pos h1]
  · rw [if_neg h1, if_neg h1]
    by_cases h2 : x < -9223372036854775807
    · rw [if_pos h2, if_pos h2]
    · rw [if_neg h2, if_neg h2, w64_id (by omega) (by omega)]
/-- The sum without signs, held at each step. -/
def szFrom (s : Int) (l : List Int) : Int := l.foldl (fun s x => hold (s + szV x)) s
theorem rd_i64 {l : List Int} (hx : ∀ x ∈ l, I64 x) (i : Int) : I64 (rd l i) := by
  unfold rd
  rw [List.getD_eq_getElem?_getD]
  rcases Nat.lt_or_ge i.toNat l.length with q | q
  · rw [List.getElem?_eq_getElem q]; exact hx _ (List.getElem_mem _)
  · rw [List.getElem?_eq_none q]; decide
theorem drop_rd {l : List Int} {i : Nat} (h : i < l.length) : l.drop i = rd l (i : Int) :: l.drop (i + 1) := by
  rw [List.drop_eq_getElem_cons h]
  congr 1
  unfold rd
  rw [List.getD_eq_getElem?_getD, show ((i : Int)).toNat = i from by omega, List.getElem?_eq_getElem h]; rfl
theorem szFrom_i {s : Int} (hs : 0 ≤ s ∧ s ≤ 9223372036854775807) : ∀ {l : List Int}, (∀ x ∈ l, I64 x) → 0 ≤ szFrom s l ∧ szFrom s l ≤ 9223372036854775807 := by
  intro l
  induction l generalizing s with
  | nil => intro _; exact hs
  | cons x l ih =>
    intro hx
    have h1 := szV_i (hx x List.mem_cons_self)
    refine ih (s := hold (s + szV x)) ⟨?_, hold_le _⟩ (fun y hy => hx y (List.mem_cons_of_mem _ hy))
    unfold hold; split
    · omega
    · split <;> omega
theorem taps_Size_l0 (l : List Int) (hl : l.length < 4611686018427387904) (hx : ∀ x ∈ l, I64 x) : ∀ (d k i : Nat) (s : Int), i + d = l.length → d + 2 < k → I64 s → taps_Size.l0 k s l (l.length : Int) (i : Int) = some (szFrom s (l.drop i)) := by
  intro d
  induction d with
  | zero =>
    intro k i s h1 h2 hs
    obtain ⟨k, rfl⟩ : ∃ m, k = m + 1 := ⟨k - 1, by omega⟩
    rw [taps_Size.l0, if_neg (by omega), List.drop_of_length_le (by omega)]; rfl
  | succ d ih =>
    intro k i s h1 h2 hs
    obtain ⟨k, rfl⟩ : ∃ m, k = m + 1 := ⟨k - 1, by omega⟩
    have hz := szV_i (rd_i64 hx (i : Int))
    rw [taps_Size.l0, if_pos (by omega), if_pos (by omega), if_pos (by omega), taps_size_eq (by omega) (rd_i64 hx _)]
    simp only [Option.bind_some]
    rw [fixed_Add_eq (by omega) hs (by constructor <;> omega)]
    simp only [Option.bind_some]
    rw [w64_id (show -9223372036854775808 ≤ (i : Int) + 1 from by omega) (by omega), drop_rd (by omega)]
    exact ih k (i + 1) _ (by omega) (by omega) (hold_i _)
theorem taps_Size_eq {k : Nat} {l : List Int} (hk : l.length + 3 ≤ k) (hl : l.length < 4611686018427387904) (hx : ∀ x ∈ l, I64 x) : taps_Size.f k l = some (szFrom 0 l) :=
  taps_Size_l0 l hl hx l.length k 0 0 (by omega) (by omega) (by decide)
theorem ref06_Sizes_l0 (l : List Int) (hl : l.length < 4611686018427387904) (hx : ∀ x ∈ l, I64 x) : ∀ (d k i : Nat) (s : Int), i + d = l.length → d + 2 < k → I64 s → smaltoref06_Sizes.l0 k s l (l.length : Int) (i : Int) = some (szFrom s (l.drop i)) := by
  intro d
  induction d with
  | zero =>
    intro k i s h1 h2 hs
    obtain ⟨k, rfl⟩ : ∃ m, k = m + 1 := ⟨k - 1, by omega⟩
    rw [smaltoref06_Sizes.l0, if_neg (by omega), List.drop_of_length_le (by omega)]; rfl
  | succ d ih =>
    intro k i s h1 h2 hs
    obtain ⟨k, rfl⟩ : ∃ m, k = m + 1 := ⟨k - 1, by omega⟩
    have hz := szV_i (rd_i64 hx (i : Int))
    rw [smaltoref06_Sizes.l0, if_pos (by omega), if_pos (by omega), if_pos (by omega), ref06_Size_eq (rd_i64 hx _)]
    simp only [Option.bind_some]
    rw [ref06_plus_eq (by omega) hs (by constructor <;> omega)]
    simp only [Option.bind_some]
    rw [w64_id (show -9223372036854775808 ≤ (i : Int) + 1 from by omega) (by omega), drop_rd (by omega)]
    exact ih k (i + 1) _ (by omega) (by omega) (hold_i _)
theorem ref06_Sizes_eq {k : Nat} {l : List Int} (hk : l.length + 3 ≤ k) (hl : l.length < 4611686018427387904) (hx : ∀ x ∈ l, I64 x) : smaltoref06_Sizes.f k l = some (szFrom 0 l) :=
  ref06_Sizes_l0 l hl hx l.length k 0 0 (by omega) (by omega) (by decide)
theorem ref06_Sum_l0 (l : List Int) (hl : l.length < 4611686018427387904) (hx : ∀ x ∈ l, I64 x) : ∀ (d k i : Nat) (s : Int), i + d = l.length → d + 2 < k → I64 s → smaltoref06_Sum.l0 k s l (l.length : Int) (i : Int) = some (sumFrom s (l.drop i)) := by
  intro d
  induction d with
  | zero =>
    intro k i s h1 h2 hs
    obtain ⟨k, rfl⟩ : ∃ m, k = m + 1 := ⟨k - 1, by omega⟩
    rw [smaltoref06_Sum.l0, if_neg (by omega), List.drop_of_length_le (by omega)]; rfl
  | succ d ih =>
    intro k i s h1 h2 hs
    obtain ⟨k, rfl⟩ : ∃ m, k = m + 1 := ⟨k - 1, by omega⟩
    rw [smaltoref06_Sum.l0, if_pos (by omega), if_pos (by omega), if_pos (by omega), ref06_plus_eq (by omega) hs (rd_i64 hx _)]
    simp only [Option.bind_some]
    rw [w64_id (show -9223372036854775808 ≤ (i : Int) + 1 from by omega) (by omega), drop_rd (by omega)]
    exact ih k (i + 1) _ (by omega) (by omega) (hold_i _)
theorem ref06_Sum_eq {k : Nat} {l : List Int} (hk : l.length + 3 ≤ k) (hl : l.length < 4611686018427387904) (hx : ∀ x ∈ l, I64 x) : smaltoref06_Sum.f k l = some (sumFrom 0 l) :=
  ref06_Sum_l0 l hl hx l.length k 0 0 (by omega) (by omega) (by decide)
theorem lives06 {k : Nat} (hk : 400 ≤ k) : smaltolaw06_Lives.f k = some true :=
  at_rounds (fun k => smaltolaw06_Lives.mono k) hk (show smaltolaw06_Lives.f 400 = some true by decide +kernel)
theorem rd_set (o : List Int) (b : Nat) (v : Int) (hb : b < o.length) (j : Nat) : rd (o.set b v) (j : Int) = if j = b then v else rd o (j : Int) := by
  unfold rd
  rw [List.getD_eq_getElem?_getD, List.getD_eq_getElem?_getD, show ((j : Int)).toNat = j from by omega, List.getElem?_set]
  by_cases c : b = j
  · subst c; rw [if_pos rfl, if_pos rfl, if_pos hb]; rfl
  · rw [if_neg c, if_neg (fun e => c e.symm)]
theorem ref06_l3 (o r : List Int) (left : Int) (n : Nat) (hr : r.length = n) (ho : o.length = n) (h1 : 1 ≤ n) (hn : n ≤ 1048576) : ∀ (d k i : Nat), i + d = n →
    smaltoref06_Apportion.l3 (k + d + 1) o r left (best r i : Int) (n : Int) (i : Int) = smaltoref06_Apportion.l2 k (o.set (best r n) (wrap64 (rd o (best r n : Int) + 1))) (r.set (best r n) (-1)) (wrap64 (left - 1)) := by
  intro d
  induction d with
  | zero =>
    intro k i hi
    have e : i = n := by omega
    have hb := best_lt r n h1
    rw [smaltoref06_Apportion.l3, if_neg (by omega), e, if_pos (by omega), if_pos (by omega), if_pos (by omega)]
    rw [show ((best r n : Nat) : Int).toNat = best r n from by omega]
  | succ d ih =>
    intro k i hi
    have hb : best r i < n := by
      by_cases c : 1 ≤ i
      · have := best_lt r i c; omega
      · have : i = 0 := by omega
        subst this; rw [best]; omega
    rw [show k + (d + 1) + 1 = (k + d + 1) + 1 from by omega, smaltoref06_Apportion.l3, if_pos (by omega), if_pos (by omega), if_pos (by omega), if_pos (by omega), if_pos (by omega)]
    have := ih k (i + 1) (by omega)
    rw [best] at this
    rw [w64_id (show -9223372036854775808 ≤ (i : Int) + 1 from by omega) (by omega)]
    by_cases c : rd r (i : Int) > rd r (best r i : Int)
    · rw [if_pos c] at this ⊢; exact this
    · rw [if_neg c] at this ⊢; exact this
theorem ref06_l2 (n : Nat) (h1 : 1 ≤ n) (hn : n ≤ 1048576) : ∀ (t k : Nat) (o r : List Int), o.length = n → r.length = n → (t : Int) ≤ 1048576 → (∀ j : Nat, -1099511627776 ≤ rd o (j : Int) ∧ rd o (j : Int) + t ≤ 1099511627776) →
    smaltoref06_Apportion.l2 (k + t * (n + 2) + 1) o r (t : Int) = some (picks t o r, 0) := by
  intro t
  induction t with
  | zero =>
    intro k o r ho hr ht hb
    rw [smaltoref06_Apportion.l2, if_neg (by omega)]; rfl
  | succ t ih =>
    intro k o r ho hr ht hb
    have e : k + (t + 1) * (n + 2) + 1 = ((k + t * (n + 2) + 1) + n + 1) + 1 := by rw [Nat.add_mul, Nat.one_mul]; omega
    have h3 := ref06_l3 o r ((t + 1 : Nat) : Int) n hr ho h1 hn n (k + t * (n + 2) + 1) 0 (by omega)
    have hbb := best_lt r n h1
    have hbd := hb (best r n)
    rw [e, smaltoref06_Apportion.l2, if_pos (by omega), hr]
    rw [show ((best r 0 : Nat) : Int) = 0 from rfl] at h3
    rw [show (0 : Int) = ((0 : Nat) : Int) from rfl]
    refine h3.trans ?_
    rw [w64_id (show -9223372036854775808 ≤ rd o (best r n : Int) + 1 from by omega) (by omega), w64_id (show -9223372036854775808 ≤ ((t + 1 : Nat) : Int) - 1 from by omega) (by omega), show ((t + 1 : Nat) : Int) - 1 = (t : Int) from by omega, picks, hr]
    refine ih k _ _ (by rw [List.length_set]; exact ho) (by rw [List.length_set]; exact hr) (by omega) (fun j => ?_)
    rw [rd_set _ _ _ (by omega)]
    have := hb j
    split
    · rename_i c; subst c; omega
    · omega
theorem ref06_l1 {l : List Int} {s : Int} (hG : Good l s) (R : Option (List Int × Int)) (K : Nat) (hR : ∀ k, K ≤ k → smaltoref06_Apportion.l2 k ((List.range l.length).map fun j => qV l s j) ((List.range l.length).map fun j => mV l s j) (16384 - psum (qV l s) l.length) = R) : ∀ (d k i : Nat), i + d = l.length → d + K + 200 < k →
    smaltoref06_Apportion.l1 k s ((List.range i).map fun j => qV l s j) ((List.range i).map fun j => mV l s j) (16384 - psum (qV l s) i) l (l.length : Int) (i : Int) = R := by
  intro d
  induction d with
  | zero =>
    intro k i h1 h2
    obtain ⟨k, rfl⟩ : ∃ m, k = m + 1 := ⟨k - 1, by omega⟩
    rw [smaltoref06_Apportion.l1, if_neg (by omega), show i = l.length from by omega]
    exact hR k (by omega)
  | succ d ih =>
    intro k i h1 h2
    obtain ⟨k, rfl⟩ : ∃ m, k = m + 1 := ⟨k - 1, by omega⟩
    have hx := hG.xb i (by omega)
    have hq := hG.qb i (by omega)
    have hs := hG.sb
    have hn1 := hG.n1
    have hp := psum_bnd (qV l s) l.length hG.qb i (by omega)
    have e := Int.mul_ediv_add_emod (rd l (i : Int) * 16384) s
    have r0 := Int.emod_nonneg (rd l (i : Int) * 16384) (show s ≠ 0 by omega)
    have r1 := Int.emod_lt_of_pos (rd l (i : Int) * 16384) (show 0 < s by omega)
    have eq : qV l s i = rd l (i : Int) * 16384 / s := rfl
    have em : mV l s i = rd l (i : Int) * 16384 % s := rfl
    have ec : qV l s i * s = s * (rd l (i : Int) * 16384 / s) := by rw [eq, Int.mul_comm]
    rw [smaltoref06_Apportion.l1, if_pos (by omega), if_pos (by omega), if_pos (by omega), w64_id (show -9223372036854775808 ≤ rd l (i : Int) * 16384 from by omega) (by omega), ref01_Floor_eq (by omega) (by constructor <;> omega) (by constructor <;> omega)]
    simp only [Option.bind_some]
    rw [if_pos (by simp; omega), if_pos (by simp; omega)]
    have ef : hold (flo (rd l (i : Int) * 16384) s) = qV l s i := by
      unfold flo; rw [if_pos (by omega), ← eq, hold_id (by omega) (by omega)]
    rw [ef, w64_id (show -9223372036854775808 ≤ qV l s i * s from by omega) (by omega), w64_id (show -9223372036854775808 ≤ rd l (i : Int) * 16384 - qV l s i * s from by omega) (by omega), show rd l (i : Int) * 16384 - qV l s i * s = mV l s i from by omega,
      w64_id (show -9223372036854775808 ≤ 16384 - psum (qV l s) i - qV l s i from by omega) (by omega), w64_id (show -9223372036854775808 ≤ (i : Int) + 1 from by omega) (by omega)]
    have := ih k (i + 1) (by omega) (by omega)
    rw [List.range_succ, List.map_append, List.map_append, psum] at this
    rw [show 16384 - psum (qV l s) i - qV l s i = 16384 - (psum (qV l s) i + qV l s i) from by omega]
    exact this
theorem ref06_Apportion_eq {l : List Int} (hx : ∀ x ∈ l, I64 x) (hl : l.length < 4611686018427387904) : ∃ K, ∀ k, K ≤ k → smaltoref06_Apportion.f k l = some (if chkV l = 0 then (appL l, 0) else ([], chkV l)) := by
  by_cases h0 : l.length = 0
  · refine ⟨2, fun k hk => ?_⟩
    obtain ⟨k, rfl⟩ : ∃ m, k = m + 1 := ⟨k - 1, by omega⟩
    have e : chkV l = 7 := by unfold chkV; rw [if_pos (Or.inl h0)]
    unfold smaltoref06_Apportion.f
    rw [if_pos (by omega), smaltoref06_Apportion.j0, if_pos rfl, e]; rfl
  by_cases h1 : l.length > 1048576
  · refine ⟨2, fun k hk => ?_⟩
    obtain ⟨k, rfl⟩ : ∃ m, k = m + 1 := ⟨k - 1, by omega⟩
    have e : chkV l = 7 := by unfold chkV; rw [if_pos (Or.inr (Or.inl h1))]
    unfold smaltoref06_Apportion.f
    rw [if_neg (by omega), smaltoref06_Apportion.j0, if_pos (by simp; omega), e]; rfl
  have loop : ∀ (R : Option (List Int × Int)) (K : Nat), ((∃ x ∈ l, szV x > 1099511627776) → R = some ([], 7)) → ((¬ ∃ x ∈ l, szV x > 1099511627776) → ∀ k, K ≤ k → (smaltoref06_Sum.f k l).bind (fun t => if t < 268435456 then some (([] : List Int), (8 : Int)) else smaltoref06_Apportion.l1 k t [] [] 16384 l (l.length : Int) 0) = R) →
      ∀ (d k i : Nat), i + d = l.length → d + K + 2 < k → (∀ j, j < i → ¬ szV (rd l (j : Int)) > 1099511627776) → smaltoref06_Apportion.l0 k l l (l.length : Int) (i : Int) = R := by
    intro R K g1 g2 d
    induction d with
    | zero =>
      intro k i q1 q2 q3
      obtain ⟨k, rfl⟩ : ∃ m, k = m + 1 := ⟨k - 1, by omega⟩
      rw [smaltoref06_Apportion.l0, if_neg (by omega)]
      refine g2 ?_ k (by omega)
      rintro ⟨x, hx1, hx2⟩
      obtain ⟨j, hj, rfl⟩ := List.getElem_of_mem hx1
      have := q3 j (by omega)
      unfold rd at this
      rw [List.getD_eq_getElem?_getD, show ((j : Int)).toNat = j from by omega, List.getElem?_eq_getElem hj] at this
      exact this hx2
    | succ d ih =>
      intro k i q1 q2 q3
      obtain ⟨k, rfl⟩ : ∃ m, k = m + 1 := ⟨k - 1, by omega⟩
      rw [smaltoref06_Apportion.l0, if_pos (by omega), if_pos (by omega), if_pos (by omega), ref06_Size_eq (rd_i64 hx _)]
      simp only [Option.bind_some]
      by_cases c : szV (rd l (i : Int)) > 1099511627776
      · rw [if_pos c]; exact (g1 ⟨_, rd_mem (by omega), c⟩).symm
      · rw [if_neg c, w64_id (show -9223372036854775808 ≤ (i : Int) + 1 from by omega) (by omega)]
        refine ih k (i + 1) (by omega) (by omega) (fun j hj => ?_)
        by_cases c2 : j = i
        · subst c2; exact c
        · exact q3 j (by omega)
  have top : ∀ (R : Option (List Int × Int)) (K : Nat), ((∃ x ∈ l, szV x > 1099511627776) → R = some ([], 7)) → ((¬ ∃ x ∈ l, szV x > 1099511627776) → ∀ k, K ≤ k → (smaltoref06_Sum.f k l).bind (fun t => if t < 268435456 then some (([] : List Int), (8 : Int)) else smaltoref06_Apportion.l1 k t [] [] 16384 l (l.length : Int) 0) = R) →
      ∀ k, l.length + K + 10 ≤ k → smaltoref06_Apportion.f k l = R := by
    intro R K g1 g2 k hk
    obtain ⟨k, rfl⟩ : ∃ m, k = m + 1 := ⟨k - 1, by omega⟩
    unfold smaltoref06_Apportion.f
    rw [if_neg (by omega), smaltoref06_Apportion.j0, if_neg (by simp; omega)]
    exact loop R K g1 g2 l.length k 0 (by omega) (by omega) (fun j hj => by omega)
  by_cases hs : sumFrom 0 l < 268435456
  · refine ⟨l.length + (l.length + 3) + 10, top _ (l.length + 3) (fun q => ?_) (fun q k hk => ?_)⟩
    · have e : chkV l = 7 := by unfold chkV; rw [if_pos (Or.inr (Or.inr q))]
      rw [e]; rfl
    · have e : chkV l = 8 := by
        unfold chkV; rw [if_neg (by rintro (g | g | g); exact h0 g; exact h1 g; exact q g), if_pos hs]
      rw [ref06_Sum_eq hk hl hx, e]
      simp only [Option.bind_some]
      rw [if_pos hs]; rfl
  · by_cases hz : ∃ x ∈ l, szV x > 1099511627776
    · refine ⟨l.length + 0 + 10, top _ 0 (fun q => ?_) (fun q => absurd hz q)⟩
      have e : chkV l = 7 := by unfold chkV; rw [if_pos (Or.inr (Or.inr q))]
      rw [e]; rfl
    · have e : chkV l = 0 := by
        unfold chkV; rw [if_neg (by rintro (g | g | g); exact h0 g; exact h1 g; exact hz g), if_neg hs]
      have hG := good_of_chk (fun i => rd_i64 hx _) e
      have hlb := hG.lb
      obtain ⟨t, ht⟩ : ∃ t : Nat, 16384 - psum (qV l (sumFrom 0 l)) l.length = (t : Int) := ⟨(16384 - psum (qV l (sumFrom 0 l)) l.length).toNat, by omega⟩
      have e2 : appL l = picks t ((List.range l.length).map fun j => qV l (sumFrom 0 l) j) ((List.range l.length).map fun j => mV l (sumFrom 0 l) j) := by
        unfold appL; rw [ht]; rfl
      have hK : ∀ k, t * (l.length + 2) + 1 ≤ k → smaltoref06_Apportion.l2 k ((List.range l.length).map fun j => qV l (sumFrom 0 l) j) ((List.range l.length).map fun j => mV l (sumFrom 0 l) j) (16384 - psum (qV l (sumFrom 0 l)) l.length) = some (appL l, 0) := by
        intro k hk
        rw [ht, e2, show k = (k - (t * (l.length + 2) + 1)) + t * (l.length + 2) + 1 from by omega]
        refine ref06_l2 l.length hG.n0 hG.n1 t _ _ _ (by simp) (by simp) (by have := hG.n1; omega) (fun j => ?_)
        by_cases c : j < l.length
        · have := hG.qb j c
          have := hG.n1
          rw [rd_range _ c]; omega
        · unfold rd
          rw [List.getD_eq_getElem?_getD, List.getElem?_eq_none (by simp; omega)]
          have := hG.n1
          simp; omega
      refine ⟨l.length + (l.length + (t * (l.length + 2) + 1) + 300) + 10, top _ (l.length + (t * (l.length + 2) + 1) + 300) (fun q => absurd q hz) (fun q k hk => ?_)⟩
      rw [ref06_Sum_eq (by omega) hl hx, e]
      simp only [Option.bind_some]
      rw [if_neg hs]
      exact ref06_l1 hG _ _ hK l.length k 0 (by omega) (by omega)
theorem best_max (r : List Int) : ∀ (i j : Nat), j < i → rd r (j : Int) ≤ rd r (best r i : Int)
  | 0, j, h => by omega
  | i + 1, j, h => by
    rw [best]
    by_cases c : j = i
    · subst c; split <;> omega
    · have := best_max r i j (by omega)
      split <;> omega
theorem psum_set (o : List Int) (b : Nat) (v : Int) (hb : b < o.length) : ∀ n, psum (fun j => rd (o.set b v) (j : Int)) n = psum (fun j => rd o (j : Int)) n + if b < n then v - rd o (b : Int) else 0
  | 0 => by simp [psum]
  | n + 1 => by
    rw [psum, psum, psum_set o b v hb n, rd_set _ _ _ hb]
    by_cases c : n = b
    · subst c; rw [if_pos rfl, if_neg (by omega), if_pos (by omega)]; omega
    · rw [if_neg c]
      by_cases c2 : b < n
      · rw [if_pos c2, if_pos (by omega)]; omega
      · rw [if_neg c2, if_neg (by omega)]; omega
def pos0 (x : Int) : Int := if x > 0 then x else 0
theorem ptot_set (o : List Int) (b : Nat) (v : Int) (hb : b < o.length) : ∀ n, psum (fun j => pos0 (rd (o.set b v) (j : Int))) n = psum (fun j => pos0 (rd o (j : Int))) n + if b < n then pos0 v - pos0 (rd o (b : Int)) else 0
  | 0 => by simp [psum]
  | n + 1 => by
    rw [psum, psum, ptot_set o b v hb n, rd_set _ _ _ hb]
    by_cases c : n = b
    · subst c; rw [if_pos rfl, if_neg (by omega), if_pos (by omega)]; omega
    · rw [if_neg c]
      by_cases c2 : b < n
      · rw [if_pos c2, if_pos (by omega)]; omega
      · rw [if_neg c2, if_neg (by omega)]; omega
theorem ptot_zero (r : List Int) : ∀ (n : Nat), (∀ j : Nat, j < n → rd r (j : Int) ≤ 0) → psum (fun j => pos0 (rd r (j : Int))) n = 0
  | 0, _ => rfl
  | n + 1, h => by
    rw [psum, ptot_zero r n (fun j hj => h j (by omega))]
    have := h n (by omega)
    unfold pos0; rw [if_neg (by omega)]; rfl
theorem picks_prop (n : Nat) (s : Int) (hs : 1 ≤ s) (h1 : 1 ≤ n) : ∀ (t : Nat) (o r : List Int), o.length = n → r.length = n → (∀ j, j < n → rd r (j : Int) ≤ s - 1) → (1 ≤ t → psum (fun j => pos0 (rd r (j : Int))) n > ((t : Int) - 1) * (s - 1)) →
    ∃ S : Nat → Prop, (∀ j, j < n → (S j → rd (picks t o r) (j : Int) = rd o (j : Int) + 1 ∧ rd r (j : Int) > 0) ∧ (¬ S j → rd (picks t o r) (j : Int) = rd o (j : Int))) ∧ (∀ i k, i < n → k < n → ¬ S i → S k → rd r (i : Int) ≤ rd r (k : Int)) ∧
      psum (fun j => rd (picks t o r) (j : Int)) n = psum (fun j => rd o (j : Int)) n + t := by
  intro t
  induction t with
  | zero => intro o r ho hr hb ht; exact ⟨fun _ => False, fun j hj => ⟨fun h => h.elim, fun _ => rfl⟩, fun i k _ _ _ h => h.elim, by rw [picks]; omega⟩
  | succ t ih =>
    intro o r ho hr hb ht
    have hbb := best_lt r n h1
    have hmax := best_max r n
    have htot := ht (by omega)
    rw [show ((t + 1 : Nat) : Int) - 1 = (t : Int) from by omega] at htot
    have ht0 : 0 ≤ (t : Int) * (s - 1) := Int.mul_nonneg (by omega) (by omega)
    have hpos : rd r (best r n : Int) > 0 := by
      apply Classical.byContradiction; intro q
      have := ptot_zero r n (fun j hj => by have := hmax j hj; omega)
      omega
    obtain ⟨b, hbe⟩ : ∃ b, b = best r n := ⟨_, rfl⟩
    rw [← hbe] at hbb hmax hpos
    have hbv := hb b hbb
    obtain ⟨S, S1, S2, S3⟩ := ih (o.set b (rd o (b : Int) + 1)) (r.set b (-1)) (by rw [List.length_set]; exact ho) (by rw [List.length_set]; exact hr)
      (fun j hj => by rw [rd_set _ _ _ (by omega)]; have := hb j hj; split <;> omega)
      (fun ht1 => by
        rw [ptot_set _ _ _ (by omega), if_pos hbb]
        have e1 : pos0 (-1) = 0 := by unfold pos0; rw [if_neg (by omega)]
        have e2 : pos0 (rd r (b : Int)) = rd r (b : Int) := by unfold pos0; rw [if_pos hpos]
        have e3 : ((t : Int) - 1) * (s - 1) = (t : Int) * (s - 1) - (s - 1) := by rw [Int.sub_mul, Int.one_mul]
        rw [e1, e2]; omega)
    have hnb : ¬ S b := fun h => by
      have := ((S1 b hbb).1 h).2
      rw [rd_set _ _ _ (by omega), if_pos rfl] at this; omega
    rw [picks, hr, ← hbe]
    refine ⟨fun j => j = b ∨ S j, fun j hj => ⟨fun h => ?_, fun h => ?_⟩, fun i k hi hk h1 h2 => ?_, ?_⟩
    · rcases h with h | h
      · subst h
        refine ⟨?_, hpos⟩
        rw [(S1 j hbb).2 hnb, rd_set _ _ _ (by omega), if_pos rfl]
      · have hne : j ≠ b := fun e => hnb (e ▸ h)
        have := (S1 j hj).1 h
        rw [rd_set _ _ _ (by omega), if_neg hne, rd_set _ _ _ (by omega), if_neg hne] at this
        exact this
    · have := (S1 j hj).2 (fun q => h (Or.inr q))
      rw [this, rd_set _ _ _ (by omega), if_neg (fun e => h (Or.inl e))]
    · rcases h2 with h2 | h2
      · subst h2; exact hmax i hi
      · have hne : k ≠ b := fun e => hnb (e ▸ h2)
        have := S2 i k hi hk (fun q => h1 (Or.inr q)) h2
        rw [rd_set _ _ _ (by omega), if_neg (fun e => h1 (Or.inl e)), rd_set _ _ _ (by omega), if_neg hne] at this
        exact this
    · rw [S3, psum_set _ _ _ (by omega), if_pos hbb]; omega
theorem psum_congr {f g : Nat → Int} : ∀ n, (∀ j, j < n → f j = g j) → psum f n = psum g n
  | 0, _ => rfl
  | n + 1, h => by rw [psum, psum, psum_congr n (fun j hj => h j (by omega)), h n (by omega)]
/-- What the taps are, of weights that may be apportioned. -/
theorem appL_prop {l : List Int} {s : Int} (hs0 : s = sumFrom 0 l) (hG : Good l s) : ∃ S : Nat → Prop, (∀ j, j < l.length → (S j → rd (appL l) (j : Int) = qV l s j + 1 ∧ mV l s j > 0) ∧ (¬ S j → rd (appL l) (j : Int) = qV l s j)) ∧ (∀ i k, i < l.length → k < l.length → ¬ S i → S k → mV l s i ≤ mV l s k) ∧
    psum (fun j => rd (appL l) (j : Int)) l.length = 16384 := by
  have hlb := hG.lb
  have hsb := hG.sb
  have hpd := psum_div l s (by omega) l.length
  obtain ⟨t, ht⟩ : ∃ t : Nat, 16384 - psum (qV l s) l.length = (t : Int) := ⟨(16384 - psum (qV l s) l.length).toNat, by omega⟩
  have hr : ∀ j, j < l.length → rd ((List.range l.length).map fun j => mV l s j) (j : Int) = mV l s j := fun j hj => rd_range _ hj
  have ho : ∀ j, j < l.length → rd ((List.range l.length).map fun j => qV l s j) (j : Int) = qV l s j := fun j hj => rd_range _ hj
  have hm : ∀ j, 0 ≤ mV l s j ∧ mV l s j ≤ s - 1 := fun j => by
    have r0 := Int.emod_nonneg (rd l (j : Int) * 16384) (show s ≠ 0 by omega)
    have r1 := Int.emod_lt_of_pos (rd l (j : Int) * 16384) (show 0 < s by omega)
    unfold mV; omega
  have htot : psum (fun j => pos0 (rd ((List.range l.length).map fun j => mV l s j) (j : Int))) l.length = psum (mV l s) l.length :=
    psum_congr _ (fun j hj => by rw [hr j hj]; have := hm j; unfold pos0; split <;> omega)
  obtain ⟨S, S1, S2, S3⟩ := picks_prop l.length s (by omega) hG.n0 t ((List.range l.length).map fun j => qV l s j) ((List.range l.length).map fun j => mV l s j) (by simp) (by simp) (fun j hj => by rw [hr j hj]; exact (hm j).2)
    (fun h1 => by
      rw [htot]
      obtain ⟨p1, p2, p3⟩ := hpd
      rw [← hG.sx] at p1
      have e1 : (16384 - psum (qV l s) l.length) * s = 16384 * s - psum (qV l s) l.length * s := Int.sub_mul _ _ _
      rw [ht] at e1
      have e2 : ((t : Int) - 1) * (s - 1) = (t : Int) * s - (t : Int) - s + 1 := by rw [Int.sub_mul, Int.mul_sub, Int.mul_one, Int.one_mul]; omega
      omega)
  have e : appL l = picks t ((List.range l.length).map fun j => qV l s j) ((List.range l.length).map fun j => mV l s j) := by
    unfold appL; rw [← hs0, ht]; rfl
  refine ⟨S, fun j hj => ?_, fun i k hi hk h1 h2 => ?_, ?_⟩
  · have := S1 j hj
    rw [ho j hj, hr j hj, ← e] at this; exact this
  · have := S2 i k hi hk h1 h2
    rw [hr i hi, hr k hk] at this; exact this
  · rw [← e] at S3
    rw [S3, psum_congr (g := qV l s) _ (fun j hj => ho j hj)]; omega
theorem appL_len2 (l : List Int) : (appL l).length = l.length := by
  have : ∀ (t : Nat) (o r : List Int), (picks t o r).length = o.length := by
    intro t
    induction t with
    | zero => intro o r; rfl
    | succ t ih => intro o r; rw [picks, ih, List.length_set]
  unfold appL; rw [this]; simp
theorem appL_bnd {l : List Int} (hx : ∀ x ∈ l, I64 x) (hk : chkV l = 0) : l.length ≤ 1048576 ∧ ∀ x ∈ appL l, -134217728 ≤ x ∧ x ≤ 134217729 := by
  have hG := good_of_chk (fun i => rd_i64 hx _) hk
  obtain ⟨S, S1, S2, S3⟩ := appL_prop rfl hG
  refine ⟨hG.n1, fun x hm => ?_⟩
  obtain ⟨j, hj, rfl⟩ := List.mem_iff_getElem.1 hm
  have cj : j < l.length := by rw [← appL_len2]; exact hj
  have hq := hG.qb j cj
  have e : (appL l)[j] = rd (appL l) (j : Int) := by unfold rd; simp [hj]
  rw [e]
  by_cases cs : S j
  · rw [((S1 j cj).1 cs).1]; omega
  · rw [(S1 j cj).2 cs]; omega
theorem appL_i64 {l : List Int} (hx : ∀ x ∈ l, I64 x) (hk : chkV l = 0) : ∀ x ∈ appL l, I64 x := fun x hm => by
  have := (appL_bnd hx hk).2 x hm
  unfold I64; omega
end Go.Proofs.YthaajkpiknbdbaaDoor.QA
