/- Of any sigma and any radius the raw weights, or that there are none, are the reference's; all of these that there are can be apportioned: of a sigma of at most 2^20, by the law's own turn. -/
import Derived.Test.YtabojpnelbmifaaQMx1
import Derived.Test.YtabojpnelbmifaaQMx2
import Derived.Test.YtabojpnelbmifaaQMx3
import Derived.Test.YtabojpnelbmifaaQMx4
import Derived.Test.YtabojpnelbmifaaQMx5
import Derived.Test.YtabojpnelbmifaaQMx6
import Derived.Test.YtabojpnelbmifaaQMx7
import Derived.Test.YtabojpnelbmifaaQMx8
import Derived.Test.YtabojpnelbmifaaQMx9
import Derived.Test.YtabojpnelbmifaaQMx10
import Derived.Test.YtabojpnelbmifaaQMx11
import Derived.Test.YtabojpnelbmifaaQMx12
import Derived.Test.YtabojpnelbmifaaQMx13
import Derived.Test.YtabojpnelbmifaaQMx14
import Derived.Test.YtabojpnelbmifaaQMx15
import Derived.Test.YtabojpnelbmifaaQMx16
import Derived.Test.YtabojpnelbmifaaQMx17
import Derived.Test.YtabojpnelbmifaaQMx18
import Derived.Test.YtabojpnelbmifaaQMx19
import Derived.Test.YtabojpnelbmifaaQMx20
import Derived.Test.YtabojpnelbmifaaQMx21
import Derived.Test.YtabojpnelbmifaaTCore
import Derived.Test.YtabojpnelbmifaaTExt
import Derived.Test.YtabojpnelbmifaaH06e
import Derived.Test.YtabojpnelbmifaaH06r
namespace Go.Proofs.Ytabojpnelbmifaa.QM
open Go.RowKit Go.Proofs.YtabojpnelbmifaaW.PrintWords Go.Proofs.YtabojpnelbmifaaW.PrintLast Go.Proofs.YtabojpnelbmifaaW.PrintMore Go.Proofs.Ytabojpnelbmifaa.T
set_option linter.unusedVariables false

theorem fixed_Shift_eq {x n : Int} (hx : I64 x) (hn : I64 n) : fixed_Shift.f x n = some (sh x n) := by
  unfold fixed_Shift.f sh
  by_cases h0 : n ≤ 0
  · rw [if_pos h0, if_pos h0]
  rw [if_neg h0, if_neg h0]
  by_cases h1 : n ≥ 64
  · rw [if_pos h1, rdiv_far (x := x) _ hx]
    calc (18446744073709551616 : Int) = 2 ^ 64 := by decide
      _ ≤ 2 ^ n.toNat := pow_le (by omega)
  rw [if_neg h1, if_pos (by omega), w64_id (show -9223372036854775808 ≤ n - 1 from by omega) (by omega), if_pos (by omega), i64and1, rdiv_pow x n.toNat (by omega)]
  unfold shr
  simp only [IntKind.bits]
  rw [Nat.min_eq_left (by omega), Nat.min_eq_left (by omega)]
  rw [show (n - 1).toNat = n.toNat - 1 from by omega]
  congr 1
  have hp := pow_pos n.toNat
  have h2 : (2 : Int) ≤ 2 ^ n.toNat := by
    calc (2 : Int) = 2 ^ 1 := by decide
      _ ≤ 2 ^ n.toNat := pow_le (by omega)
  have q0 : -4611686018427387904 ≤ x / 2 ^ n.toNat := by
    rw [Int.le_ediv_iff_mul_le hp]
    calc -4611686018427387904 * 2 ^ n.toNat ≤ -4611686018427387904 * 2 := Int.mul_le_mul_of_nonpos_left (by decide) h2
      _ ≤ x := by omega
  have q1 : x / 2 ^ n.toNat < 4611686018427387904 := by
    rw [Int.ediv_lt_iff_lt_mul hp]
    calc x < 4611686018427387904 * 2 := by omega
      _ ≤ 4611686018427387904 * 2 ^ n.toNat := Int.mul_le_mul_of_nonneg_left h2 (by decide)
  exact w64_id (by omega) (by omega)

theorem ref01_Size_eq {a : Int} (ha : I64 a) : smaltoref01_Size.f a = some (siz a) := by
  unfold smaltoref01_Size.f siz wrap64
  simp only [u64w]
  split
  · congr 1; omega
  · congr 1; omega

theorem ref01_Hold_eq {k : Nat} (hk : 1 ≤ k) {h l : Int} (hh : U64 h) (hl : U64 l) (b : Bool) : smaltoref01_Hold.f k h l b = some (hold (sgn b (h * 18446744073709551616 + l))) := by
  obtain ⟨k, rfl⟩ : ∃ n, k = n + 1 := ⟨k - 1, by omega⟩
  unfold smaltoref01_Hold.f sgn hold
  cases b
  · simp only [Bool.false_eq_true, if_false]
    rw [if_neg (show ¬ h * 18446744073709551616 + l < -9223372036854775808 from by omega)]
    by_cases c : h > 0
    · rw [if_pos c, if_pos (by omega)]
    · rw [if_neg c]
      by_cases d : l > 9223372036854775807
      · rw [if_pos d, if_pos (by omega)]
      · rw [if_neg d, if_neg (by omega)]; congr 1; unfold wrap64; omega
  · simp only [if_true]
    simp only [smaltoref01_Hold.j0]
    by_cases c : h > 0
    · rw [if_pos c, if_pos trivial, if_pos (by omega)]
    · rw [if_neg c]
      by_cases d : l > 9223372036854775807
      · rw [if_pos (decide_eq_true d)]
        by_cases e : l = 9223372036854775808
        · rw [if_neg (by omega), if_neg (by omega)]; congr 1; omega
        · rw [if_pos (by omega)]
      · rw [if_neg (by simpa using d), if_neg (by omega), if_neg (by omega)]; congr 1; unfold wrap64; omega

theorem ref01_Plus_eq {a b c d : Int} (_ha : U64 a) (hb : U64 b) (_hc : U64 c) (hd : U64 d) :
    smaltoref01_Plus.f a b c d = some ((a + c + (b + d) / 18446744073709551616) % 18446744073709551616, (b + d) % 18446744073709551616) := by
  unfold smaltoref01_Plus.f
  simp only [u64w]
  split
  · congr 2; omega
  · congr 2; omega

theorem ref01_Minus_eq {a b c d : Int} (_ha : U64 a) (hb : U64 b) (_hc : U64 c) (hd : U64 d) :
    smaltoref01_Minus.f a b c d = some ((a - c + (b - d) / 18446744073709551616) % 18446744073709551616, (b - d) % 18446744073709551616) := by
  unfold smaltoref01_Minus.f
  simp only [u64w]
  split
  · congr 2; omega
  · congr 2; omega

theorem ref01_Twice_eq {a b c : Int} (_ha : U64 a) (_hb : U64 b) (_hc : 0 ≤ c ∧ c ≤ 1) :
    smaltoref01_Twice.f a b c = some ((2 * a + b / 9223372036854775808) % 18446744073709551616, (2 * b + c) % 18446744073709551616) := by
  unfold smaltoref01_Twice.f
  simp only [u64w]
  congr 2 <;> omega

theorem ref01_Less_eq {a b c d : Int} (_ha : U64 a) (hb : U64 b) (_hc : U64 c) (hd : U64 d) :
    smaltoref01_Less.f a b c d = some (decide (a * 18446744073709551616 + b < c * 18446744073709551616 + d)) := by
  unfold smaltoref01_Less.f
  split
  · congr 1; exact decide_eq_decide.2 (by omega)
  · congr 1; exact decide_eq_decide.2 (by omega)

theorem ref01_Bit_eq {a b : Int} (ha : U64 a) (hb : U64 b) (i : Nat) (hi : i < 128) :
    smaltoref01_Bit.f a b i = some ((a * 18446744073709551616 + b) / 2 ^ i % 2) := by
  have e64 : (18446744073709551616 : Int) = 2 ^ 64 := by decide
  unfold smaltoref01_Bit.f
  by_cases h : (i : Int) ≥ 64
  · rw [if_pos h, w64_id (show -9223372036854775808 ≤ (i : Int) - 64 from by omega) (by omega), if_pos (by omega), u64and1]
    unfold shr
    simp only [IntKind.bits]
    rw [show ((i : Int) - 64).toNat = i - 64 from by omega, Nat.min_eq_left (by omega)]
    congr 2
    have : (2 : Int) ^ i = 2 ^ 64 * 2 ^ (i - 64) := by rw [← Int.pow_add]; congr 1; omega
    rw [this, ← Int.ediv_ediv_of_nonneg (by decide), ← e64]
    congr 1; omega
  · rw [if_neg h, if_pos (by omega), u64and1]
    unfold shr
    simp only [IntKind.bits]
    rw [show ((i : Int)).toNat = i from by omega, Nat.min_eq_left (by omega)]
    congr 1
    have : (18446744073709551616 : Int) = 2 ^ i * (2 * 2 ^ (63 - i)) := by
      rw [e64, ← pow_succ2, ← Int.pow_add]; congr 1; omega
    rw [this, Int.mul_left_comm, Int.add_comm, Int.add_mul_ediv_left _ _ (by have := pow_pos i; omega), Int.mul_left_comm, Int.add_comm, Int.mul_add_emod_self_left]

theorem ref01_Times_l0 {a b : Int} (ha : U64 a) (hb : U64 b) : ∀ (n : Nat) (k : Nat) (h l : Int), n ≤ 64 → n < k → U64 h → U64 l → h * 18446744073709551616 + l = a * (b / 2 ^ n) →
    smaltoref01_Times.l0 k a b ((n : Int) - 1) h l = some (a * b / 18446744073709551616, a * b % 18446744073709551616) := by
  intro n
  induction n with
  | zero =>
    intro k h l _ hk hh hl he
    obtain ⟨k, rfl⟩ : ∃ n, k = n + 1 := ⟨k - 1, by omega⟩
    unfold smaltoref01_Times.l0
    rw [if_neg (by omega)]
    rw [Int.pow_zero, Int.ediv_one] at he
    rw [← he]
    congr 2 <;> omega
  | succ n ih =>
    intro k h l hn hk hh hl he
    obtain ⟨k, rfl⟩ : ∃ n, k = n + 1 := ⟨k - 1, by omega⟩
    unfold smaltoref01_Times.l0
    rw [show ((n + 1 : Nat) : Int) - 1 = n from by omega, if_pos (by omega), ref01_Twice_eq hh hl (by omega)]
    simp only [Option.bind_some]
    rw [if_pos (by omega), u64and1]
    have hs : shr .u64 b n = b / 2 ^ n := by
      unfold shr
      simp only [IntKind.bits]
      rw [show ((n : Int)).toNat = n from by omega, Nat.min_eq_left (by omega)]
    rw [hs, w64_id (by omega) (by omega)]
    have hh2 := half_pow b n
    have hpn := pow_pos n
    have bl : b / 2 ^ n ≤ b := Int.ediv_le_self _ hb.1
    have b0 : 0 ≤ b / 2 ^ n := Int.ediv_nonneg hb.1 (by omega)
    have m1 : a * (b / 2 ^ n) ≤ 18446744073709551615 * 18446744073709551615 := Int.mul_le_mul (by omega) (by omega) b0 (by decide)
    by_cases hbit : b / 2 ^ n % 2 = 1
    · rw [if_pos hbit, ref01_Plus_eq (by omega) (by omega) (by omega) ha]
      simp only [Option.bind_some]
      have e1 : a * (b / 2 ^ n) = 2 * (a * (b / 2 ^ (n + 1))) + a := by
        rw [hh2, hbit, Int.mul_add, Int.mul_left_comm, Int.mul_one]
      rw [e1] at m1
      refine ih k _ _ (by omega) (by omega) (by omega) (by omega) ?_
      rw [e1]
      generalize a * (b / 2 ^ (n + 1)) = p at *
      omega
    · rw [if_neg hbit]
      have e1 : a * (b / 2 ^ n) = 2 * (a * (b / 2 ^ (n + 1))) := by
        rw [hh2, show b / 2 ^ n % 2 = 0 from by omega, Int.add_zero, Int.mul_left_comm]
      rw [e1] at m1
      refine ih k _ _ (by omega) (by omega) (by omega) (by omega) ?_
      rw [e1]
      generalize a * (b / 2 ^ (n + 1)) = p at *
      omega
theorem ref01_Times_eq {k : Nat} (hk : 65 ≤ k) {a b : Int} (ha : U64 a) (hb : U64 b) :
    smaltoref01_Times.f k a b = some (a * b / 18446744073709551616, a * b % 18446744073709551616) := by
  unfold smaltoref01_Times.f
  refine ref01_Times_l0 ha hb 64 k 0 0 (by omega) (by omega) (by omega) (by omega) ?_
  rw [Int.ediv_eq_zero_of_lt hb.1 (by have : (2 : Int) ^ 64 = 18446744073709551616 := by decide
                                      omega)]
  omega

theorem ref01_Over_l0 {d ah al : Int} (hd : 0 < d ∧ d < 18446744073709551616) (hah : U64 ah) (hal : U64 al) : ∀ (n : Nat) (k : Nat) (qh ql rh rl : Int), n ≤ 128 → n < k → U64 qh → U64 ql → U64 rh → U64 rl →
    rh * 18446744073709551616 + rl < d → (qh * 18446744073709551616 + ql) * d + (rh * 18446744073709551616 + rl) = (ah * 18446744073709551616 + al) / 2 ^ n →
    smaltoref01_Over.l0 k d ((n : Int) - 1) ah al qh ql rh rl =
      some ((ah * 18446744073709551616 + al) / d / 18446744073709551616, (ah * 18446744073709551616 + al) / d % 18446744073709551616, (ah * 18446744073709551616 + al) % d) := by
  intro n
  generalize hA : ah * 18446744073709551616 + al = A
  induction n with
  | zero =>
    intro k qh ql rh rl _ hk hqh hql hrh hrl hr he
    obtain ⟨k, rfl⟩ : ∃ n, k = n + 1 := ⟨k - 1, by omega⟩
    unfold smaltoref01_Over.l0
    rw [if_neg (by omega)]
    rw [Int.pow_zero, Int.ediv_one] at he
    obtain ⟨u1, u2⟩ := div_unique he (by omega) hr
    rw [u1, u2]
    congr 2
    · omega
    · congr 1 <;> omega
  | succ n ih =>
    intro k qh ql rh rl hn hk hqh hql hrh hrl hr he
    obtain ⟨k, rfl⟩ : ∃ n, k = n + 1 := ⟨k - 1, by omega⟩
    unfold smaltoref01_Over.l0
    rw [show ((n + 1 : Nat) : Int) - 1 = n from by omega, if_pos (by omega), ref01_Bit_eq hah hal n (by omega), hA]
    simp only [Option.bind_some]
    have hh2 := half_pow A n
    have hpn := pow_pos n
    have A0 : 0 ≤ A := by omega
    have al1 : A / 2 ^ n ≤ A := Int.ediv_le_self _ A0
    generalize hbit : A / 2 ^ n % 2 = bit at *
    have hb : 0 ≤ bit ∧ bit ≤ 1 := by omega
    rw [ref01_Twice_eq hrh hrl hb, ref01_Twice_eq hqh hql (by omega)]
    simp only [Option.bind_some]
    rw [ref01_Less_eq (by omega) (by omega) (by omega) (by omega)]
    simp only [Option.bind_some]
    rw [w64_id (by omega) (by omega)]
    have q0 : 0 ≤ qh * 18446744073709551616 + ql := by omega
    have qd : qh * 18446744073709551616 + ql ≤ (qh * 18446744073709551616 + ql) * d := by
      calc qh * 18446744073709551616 + ql = (qh * 18446744073709551616 + ql) * 1 := by rw [Int.mul_one]
        _ ≤ _ := Int.mul_le_mul_of_nonneg_left (by omega) q0
    generalize hQ : qh * 18446744073709551616 + ql = Q at *
    have e2 : (2 * Q) * d = 2 * (Q * d) := Int.mul_assoc _ _ _
    have e3 : (2 * Q + 1) * d = 2 * (Q * d) + d := by rw [Int.add_mul, e2, Int.one_mul]
    generalize hP : Q * d = P at *
    by_cases hl : 2 * (rh * 18446744073709551616 + rl) + bit < d
    · rw [if_pos (decide_eq_true (by omega))]
      refine ih k _ _ _ _ (by omega) (by omega) (by omega) (by omega) (by omega) (by omega) (by omega) ?_
      rw [show (2 * qh + ql / 9223372036854775808) % 18446744073709551616 * 18446744073709551616 + (2 * ql + 0) % 18446744073709551616 = 2 * Q from by omega, e2]
      omega
    · rw [if_neg (by simp; omega), ref01_Minus_eq (by omega) (by omega) (by omega) (by omega)]
      simp only [Option.bind_some, u64w]
      refine ih k _ _ _ _ (by omega) (by omega) (by omega) (by omega) (by omega) (by omega) (by omega) ?_
      rw [show (2 * qh + ql / 9223372036854775808) % 18446744073709551616 * 18446744073709551616 + ((2 * ql + 0) % 18446744073709551616 + 1) % 18446744073709551616 = 2 * Q + 1 from by omega, e3]
      omega
theorem ref01_Over_eq {k : Nat} (hk : 129 ≤ k) {d ah al : Int} (hd : 0 < d ∧ d < 18446744073709551616) (hah : U64 ah) (hal : U64 al) :
    smaltoref01_Over.f k ah al d = some ((ah * 18446744073709551616 + al) / d / 18446744073709551616, (ah * 18446744073709551616 + al) / d % 18446744073709551616, (ah * 18446744073709551616 + al) % d) := by
  unfold smaltoref01_Over.f
  rw [if_neg (by omega)]
  refine ref01_Over_l0 hd hah hal 128 k 0 0 0 0 (by omega) (by omega) (by omega) (by omega) (by omega) (by omega) (by omega) ?_
  rw [Int.ediv_eq_zero_of_lt (by omega) (by have : (2 : Int) ^ 128 = 340282366920938463463374607431768211456 := by decide
                                            omega)]
  omega

theorem ref01_Nearest_eq {k : Nat} (hk : 129 ≤ k) {d ah al : Int} (hd : 0 < d ∧ d < 18446744073709551616) (hah : U64 ah) (hal : U64 al) (s : Bool) :
    smaltoref01_Nearest.f k ah al d s = some (hold (rdiv (sgn s (ah * 18446744073709551616 + al)) d)) := by
  unfold smaltoref01_Nearest.f
  rw [ref01_Over_eq hk hd hah hal]
  simp only [Option.bind_some]
  generalize hA : ah * 18446744073709551616 + al = A
  have A0 : 0 ≤ A := by omega
  have r0 := Int.emod_nonneg A (show d ≠ 0 from by omega)
  have r1 := Int.emod_lt_of_pos A hd.1
  have q0 : 0 ≤ A / d := Int.ediv_nonneg A0 (by omega)
  have q1 : A / d ≤ A := Int.ediv_le_self _ A0
  have q2 : 2 ≤ d → 2 * (A / d) ≤ A := by
    intro h2
    have := Int.mul_ediv_add_emod A d
    have h3 : 2 * (A / d) ≤ d * (A / d) := Int.mul_le_mul_of_nonneg_right h2 q0
    omega
  rw [rdiv_sgn s A0 hd.1]
  generalize A / d = q at *
  generalize A % d = r at *
  rw [ref01_Twice_eq (by omega) (by omega) (by omega)]
  simp only [Option.bind_some]
  rw [ref01_Less_eq (by omega) (by omega) (by omega) (by omega), ref01_Less_eq (by omega) (by omega) (by omega) (by omega)]
  simp only [Option.bind_some]
  obtain ⟨k, rfl⟩ : ∃ n, k = n + 1 := ⟨k - 1, by omega⟩
  simp only [smaltoref01_Nearest.j0]
  cases s
  · simp only [Bool.false_eq_true, if_false]
    by_cases c : r ≥ d - r
    · rw [if_pos (by simp; omega), if_pos c, ref01_Plus_eq (by omega) (by omega) (by omega) (by omega)]
      simp only [Option.bind_some]
      rw [ref01_Hold_eq (by omega) (by omega) (by omega)]
      simp only [Option.bind_some]
      congr 3; omega
    · rw [if_neg (by simp; omega), if_neg c, ref01_Hold_eq (by omega) (by omega) (by omega)]
      simp only [Option.bind_some]
      congr 3; omega
  · simp only [if_true]
    by_cases c : r > d - r
    · rw [if_pos (decide_eq_true (by omega)), if_pos c, ref01_Plus_eq (by omega) (by omega) (by omega) (by omega)]
      simp only [Option.bind_some]
      rw [ref01_Hold_eq (by omega) (by omega) (by omega)]
      simp only [Option.bind_some]
      congr 3; omega
    · rw [if_neg (by simp; omega), if_neg c, ref01_Hold_eq (by omega) (by omega) (by omega)]
      simp only [Option.bind_some]
      congr 3; omega

theorem ref01_Floor_eq {k : Nat} (hk : 129 ≤ k) {a b : Int} (ha : I64 a) (hb : I64 b) : smaltoref01_Floor.f k a b = some (hold (flo a b)) := by
  unfold smaltoref01_Floor.f
  by_cases hb0 : b = 0
  · rw [if_pos hb0, hb0]; simp [flo, hold]
  have ua := siz_u ha
  have ub := siz_u hb
  have ub0 : siz b ≠ 0 := fun h => hb0 (siz_zero.1 h)
  rw [if_neg hb0, ref01_Size_eq ha, ref01_Size_eq hb]
  simp only [Option.bind_some]
  rw [ref01_Over_eq hk (by omega) (by omega) (by omega)]
  simp only [Option.bind_some]
  have e := flo_xor (decide (a < 0)) b (siz a) hb0
  rw [sgn_siz a, flo_sgn _ (by omega)] at e
  rw [← e]
  generalize (decide (a < 0) != decide (b < 0)) = s
  rw [show 0 * 18446744073709551616 + siz a = siz a from by omega]
  have q0 : 0 ≤ siz a / siz b := Int.ediv_nonneg ua.1 ub.1
  have q1 : siz a / siz b ≤ siz a := Int.ediv_le_self _ ua.1
  have r0 := Int.emod_nonneg (siz a) ub0
  generalize siz a / siz b = q at *
  generalize siz a % siz b = r at *
  obtain ⟨k, rfl⟩ : ∃ n, k = n + 1 := ⟨k - 1, by omega⟩
  simp only [smaltoref01_Floor.j0]
  cases s
  · simp only [Bool.false_eq_true, if_false, false_and]
    rw [ref01_Hold_eq (by omega) (by omega) (by omega)]
    simp only [Option.bind_some]
    congr 3; omega
  · simp only [if_true, true_and]
    by_cases c : r = 0
    · rw [if_neg (by simp; omega), if_neg (by simpa using c), ref01_Hold_eq (by omega) (by omega) (by omega)]
      simp only [Option.bind_some]
      congr 3; omega
    · rw [if_pos (by simp; omega), if_pos c, ref01_Plus_eq (by omega) (by omega) (by omega) (by omega)]
      simp only [Option.bind_some]
      rw [ref01_Hold_eq (by omega) (by omega) (by omega)]
      simp only [Option.bind_some]
      congr 3; omega

theorem pow_mul_succ (a : Int) (i : Nat) : a / 2 ^ i * 2 ^ i = a / 2 ^ (i + 1) * 2 ^ (i + 1) + a / 2 ^ i % 2 * 2 ^ i := by
  have h := half_pow a i
  rw [pow_succ2] at h
  rw [pow_succ2, Int.mul_left_comm, ← Int.mul_assoc, ← Int.add_mul]
  congr 1
theorem ref01_Shift_l3 (x sh sl mh ml qh ql rh rl : Int) (i : Nat) (hi : i ≤ 127) (hrh : U64 rh) (hrl : U64 rl) (hr : 2 ^ i ≤ rh * 18446744073709551616 + rl) : ∀ (d k j : Nat) (ph pl : Int), j + d = i → d < k → U64 ph → U64 pl →
    ph * 18446744073709551616 + pl = 2 ^ j →
    ∃ rh' rl' : Int, U64 rh' ∧ U64 rl' ∧ rh' * 18446744073709551616 + rl' = rh * 18446744073709551616 + rl - 2 ^ i ∧
    smaltoref01_Shift.l3 k x (i : Int) (i : Int) (j : Int) sh sl mh ml qh ql rh rl ph pl = smaltoref01_Shift.l2 (k - d - 1) x ((i + 1 : Nat) : Int) sh sl mh ml qh ql rh' rl' := by
  have hb : (2 : Int) ^ i ≤ 170141183460469231731687303715884105728 := by
    calc (2 : Int) ^ i ≤ 2 ^ 127 := pow_le hi
      _ = _ := by decide
  intro d
  induction d with
  | zero =>
    intro k j ph pl hj hk hph hpl he
    obtain ⟨k, rfl⟩ : ∃ m, k = m + 1 := ⟨k - 1, by omega⟩
    rw [smaltoref01_Shift.l3, if_neg (by omega), ref01_Minus_eq hrh hrl hph hpl]
    simp only [Option.bind_some]
    obtain rfl : j = i := by omega
    rw [w64_id (by omega) (by omega)]
    have hp := pow_pos j
    generalize (2 : Int) ^ j = p at *
    exact ⟨_, _, by omega, by omega, by omega, rfl⟩
  | succ d ih =>
    intro k j ph pl hj hk hph hpl he
    obtain ⟨k, rfl⟩ : ∃ m, k = m + 1 := ⟨k - 1, by omega⟩
    rw [smaltoref01_Shift.l3, if_pos (by omega), ref01_Twice_eq hph hpl (by omega)]
    simp only [Option.bind_some]
    rw [w64_id (by omega) (by omega), show ((j : Int) + 1) = ((j + 1 : Nat) : Int) from by omega]
    have hp := pow_pos j
    have hp2 : (2 : Int) ^ (j + 1) ≤ 2 ^ i := pow_le (by omega)
    rw [pow_succ2] at hp2
    obtain ⟨r1, r2, a1, a2, a3, a4⟩ := ih k (j + 1) _ _ (by omega) (by omega) (show U64 ((2 * ph + pl / 9223372036854775808) % 18446744073709551616) from by omega) (show U64 ((2 * pl + 0) % 18446744073709551616) from by omega) (by
      rw [pow_succ2]; generalize (2 : Int) ^ j = p at *; omega)
    refine ⟨r1, r2, a1, a2, a3, ?_⟩
    rw [a4, show k + 1 - (d + 1) - 1 = k - d - 1 from by omega]
theorem ref01_Shift_j4 {k : Nat} (hk : 2 ≤ k) (x : Int) (u : Bool) {qh ql : Int} (hqh : U64 qh) (hql : U64 ql) (hq : qh * 18446744073709551616 + ql < 340282366920938463463374607431768211455) :
    smaltoref01_Shift.j4 k x u qh ql = some (hold (sgn (decide (x < 0)) (qh * 18446744073709551616 + ql + if u = true then 1 else 0))) := by
  obtain ⟨k, rfl⟩ : ∃ m, k = m + 1 := ⟨k - 1, by omega⟩
  rw [smaltoref01_Shift.j4]
  cases u
  · rw [if_neg (by decide), if_neg (by decide), ref01_Hold_eq (by omega) hqh hql]
    simp only [Option.bind_some]; congr 3; omega
  · rw [if_pos rfl, if_pos rfl, ref01_Plus_eq hqh hql (by omega) (by omega)]
    simp only [Option.bind_some]
    rw [ref01_Hold_eq (by omega) (by omega) (by omega)]
    simp only [Option.bind_some]; congr 3; omega
theorem ref01_Shift_l2 (x sh sl mh ml qh ql : Int) (n : Nat) (hsh : U64 sh) (hsl : U64 sl) (hmh : U64 mh) (hml : U64 ml) (hqh : U64 qh) (hql : U64 ql)
    (hq : qh * 18446744073709551616 + ql < 340282366920938463463374607431768211455) (R : Int) (hR : (mh * 18446744073709551616 + ml) % 2 ^ n = R) : ∀ (d k i : Nat) (rh rl : Int), i + d = 128 → d * 200 + 10 < k → U64 rh → U64 rl →
    rh * 18446744073709551616 + rl = R + (mh * 18446744073709551616 + ml) / 2 ^ i * 2 ^ i →
    smaltoref01_Shift.l2 k x (i : Int) sh sl mh ml qh ql rh rl = some (hold (sgn (decide (x < 0)) (qh * 18446744073709551616 + ql +
      if (if x < 0 then decide (sh * 18446744073709551616 + sl < R) else !decide (R < sh * 18446744073709551616 + sl)) = true then 1 else 0))) := by
  have R0 : 0 ≤ R := by rw [← hR]; exact Int.emod_nonneg _ (by have := pow_pos n; omega)
  intro d
  induction d with
  | zero =>
    intro k i rh rl hi hk hrh hrl he
    obtain ⟨k, rfl⟩ : ∃ m, k = m + 1 := ⟨k - 1, by omega⟩
    rw [Int.ediv_eq_zero_of_lt (by omega) (by rw [show i = 128 from by omega]; have : (2 : Int) ^ 128 = 340282366920938463463374607431768211456 := by decide
                                              omega)] at he
    rw [smaltoref01_Shift.l2, if_neg (by omega), ref01_Less_eq hrh hrl hsh hsl, ref01_Less_eq hsh hsl hrh hrl]
    simp only [Option.bind_some]
    rw [show rh * 18446744073709551616 + rl = R from by omega]
    split
    · rw [ref01_Shift_j4 (by omega) x _ hqh hql hq]
    · rw [ref01_Shift_j4 (by omega) x _ hqh hql hq]
  | succ d ih =>
    intro k i rh rl hi hk hrh hrl he
    obtain ⟨k, rfl⟩ : ∃ m, k = m + 1 := ⟨k - 1, by omega⟩
    rw [smaltoref01_Shift.l2, if_pos (by omega), ref01_Bit_eq hmh hml i (by omega)]
    simp only [Option.bind_some]
    have hs := pow_mul_succ (mh * 18446744073709551616 + ml) i
    have hq0 : 0 ≤ (mh * 18446744073709551616 + ml) / 2 ^ (i + 1) * 2 ^ (i + 1) := Int.mul_nonneg (Int.ediv_nonneg (by omega) (by have := pow_pos (i + 1); omega)) (by have := pow_pos (i + 1); omega)
    split
    · rename_i hb
      rw [hb, Int.one_mul] at hs
      obtain ⟨r1, r2, a1, a2, a3, a4⟩ := ref01_Shift_l3 x sh sl mh ml qh ql rh rl i (by omega) hrh hrl (by omega) i k 0 0 1 (by omega) (by omega) (by omega) (by omega) (by decide)
      have a4' : smaltoref01_Shift.l3 k x (i : Int) (i : Int) 0 sh sl mh ml qh ql rh rl 0 1 = _ := a4
      rw [a4', ih (k - i - 1) (i + 1) r1 r2 (by omega) (by omega) a1 a2 (by omega)]
    · rename_i hb
      rw [show (mh * 18446744073709551616 + ml) / 2 ^ i % 2 = 0 from by omega, Int.zero_mul, Int.add_zero] at hs
      rw [w64_id (by omega) (by omega), show ((i : Int) + 1) = ((i + 1 : Nat) : Int) from by omega]
      exact ih k (i + 1) rh rl (by omega) (by omega) hrh hrl (by omega)
theorem ref01_Shift_l1 (x sh sl mh ml : Int) (n : Nat) (hn : 1 ≤ n ∧ n ≤ 64) (hsh : U64 sh) (hsl : U64 sl) (hmh : U64 mh) (hml : U64 ml) : ∀ (d k : Nat) (qh ql : Int), d + n ≤ 128 → d + 30000 < k → U64 qh → U64 ql →
    qh * 18446744073709551616 + ql = (mh * 18446744073709551616 + ml) / 2 ^ (n + d) →
    smaltoref01_Shift.l1 k x (n : Int) (((n + d : Nat) : Int) - 1) sh sl mh ml qh ql = some (hold (sgn (decide (x < 0)) ((mh * 18446744073709551616 + ml) / 2 ^ n +
      if (if x < 0 then decide (sh * 18446744073709551616 + sl < (mh * 18446744073709551616 + ml) % 2 ^ n) else !decide ((mh * 18446744073709551616 + ml) % 2 ^ n < sh * 18446744073709551616 + sl)) = true then 1 else 0))) := by
  intro d
  have hn2 : (2 : Int) ≤ 2 ^ n := by
    calc (2 : Int) = 2 ^ 1 := by decide
      _ ≤ 2 ^ n := pow_le (by omega)
  have hh : ∀ a : Int, 0 ≤ a → 2 * (a / 2 ^ n) ≤ a := by
    intro a ha
    have := Int.mul_ediv_add_emod a (2 ^ n)
    have h0 := Int.emod_nonneg a (show (2 : Int) ^ n ≠ 0 from by omega)
    have h1 : 2 * (a / 2 ^ n) ≤ 2 ^ n * (a / 2 ^ n) := Int.mul_le_mul_of_nonneg_right hn2 (Int.ediv_nonneg ha (by omega))
    omega
  induction d with
  | zero =>
    intro k qh ql hd hk hqh hql he
    obtain ⟨k, rfl⟩ : ∃ m, k = m + 1 := ⟨k - 1, by omega⟩
    rw [smaltoref01_Shift.l1, if_neg (by omega)]
    rw [Nat.add_zero] at he
    have := hh (mh * 18446744073709551616 + ml) (by omega)
    have e := Int.mul_ediv_add_emod (mh * 18446744073709551616 + ml) (2 ^ n)
    rw [ref01_Shift_l2 x sh sl mh ml qh ql n hsh hsl hmh hml hqh hql (by omega) _ rfl (128 - n) k n mh ml (by omega) (by omega) hmh hml (by rw [Int.mul_comm ((mh * 18446744073709551616 + ml) / 2 ^ n)]; omega), he]
  | succ d ih =>
    intro k qh ql hd hk hqh hql he
    obtain ⟨k, rfl⟩ : ∃ m, k = m + 1 := ⟨k - 1, by omega⟩
    rw [smaltoref01_Shift.l1, if_pos (by omega), show (((n + (d + 1) : Nat) : Int) - 1) = ((n + d : Nat) : Int) from by omega, ref01_Bit_eq hmh hml (n + d) (by omega)]
    simp only [Option.bind_some]
    rw [ref01_Twice_eq hqh hql (by omega), w64_id (by omega) (by omega)]
    simp only [Option.bind_some]
    have hs := half_pow (mh * 18446744073709551616 + ml) (n + d)
    have hq : (mh * 18446744073709551616 + ml) / 2 ^ (n + d) ≤ mh * 18446744073709551616 + ml := Int.ediv_le_self _ (by omega)
    rw [show n + (d + 1) = n + d + 1 from rfl] at he
    exact ih k _ _ (by omega) (by omega) (by omega) (by omega) (by omega)
theorem ref01_Shift_l0 (x : Int) (hx : I64 x) (n : Nat) (hn : 1 ≤ n ∧ n ≤ 64) : ∀ (d k i : Nat) (ph pl : Int), i + d + 1 = n → d + 40000 < k → U64 ph → U64 pl → ph * 18446744073709551616 + pl = 2 ^ i →
    smaltoref01_Shift.l0 k x (n : Int) ((n : Int) - 1) (i : Int) ph pl = some (hold (rdiv x (2 ^ n))) := by
  intro d
  induction d with
  | zero =>
    intro k i ph pl hi hk hph hpl he
    obtain ⟨k, rfl⟩ : ∃ m, k = m + 1 := ⟨k - 1, by omega⟩
    have u := siz_u hx
    rw [smaltoref01_Shift.l0, if_neg (by omega), ref01_Size_eq hx]
    simp only [Option.bind_some]
    have p128 : (2 : Int) ^ 128 = 340282366920938463463374607431768211456 := by decide
    have h := ref01_Shift_l1 x ph pl 0 (siz x) n hn hph hpl (by omega) (by omega) (128 - n) k 0 0 (by omega) (by omega) (by omega) (by omega) (by
      rw [show n + (128 - n) = 128 from by omega, Int.ediv_eq_zero_of_lt (by omega) (by omega)]; rfl)
    rw [show (((n + (128 - n) : Nat) : Int) - 1) = 127 from by omega] at h
    rw [h]
    rw [show 0 * 18446744073709551616 + siz x = siz x from by omega, he]
    have e : rdiv x (2 ^ n) = rdiv (sgn (decide (x < 0)) (siz x)) (2 ^ n) := by rw [sgn_siz]
    rw [e, rdiv_sgn _ u.1 (pow_pos n)]
    have h2 : (2 : Int) ^ n = 2 * 2 ^ i := by rw [← pow_succ2]; congr 1; omega
    have r0 := Int.emod_nonneg (siz x) (show (2 : Int) ^ n ≠ 0 from by have := pow_pos n; omega)
    generalize siz x % 2 ^ n = r at *
    generalize siz x / 2 ^ n = q at *
    rw [h2]
    generalize (2 : Int) ^ i = p at *
    congr 3
    by_cases c : x < 0
    · rw [if_pos c, if_pos (decide_eq_true c)]
      by_cases g : p < r
      · rw [if_pos (decide_eq_true g), if_pos (by omega)]
      · rw [if_neg (by simpa using g), if_neg (by omega)]; omega
    · rw [if_neg c, if_neg (show ¬ (decide (x < 0) = true) from by simpa using c)]
      by_cases g : r < p
      · rw [if_neg (by simpa using g), if_neg (by omega)]; omega
      · rw [if_pos (by simpa using g), if_pos (by omega)]
  | succ d ih =>
    intro k i ph pl hi hk hph hpl he
    obtain ⟨k, rfl⟩ : ∃ m, k = m + 1 := ⟨k - 1, by omega⟩
    rw [smaltoref01_Shift.l0, if_pos (by omega), ref01_Twice_eq hph hpl (by omega)]
    simp only [Option.bind_some]
    rw [w64_id (by omega) (by omega), show ((i : Int) + 1) = ((i + 1 : Nat) : Int) from by omega]
    have hp := pow_pos i
    have hb : (2 : Int) ^ i ≤ 9223372036854775808 := by
      calc (2 : Int) ^ i ≤ 2 ^ 63 := pow_le (by omega)
        _ = _ := by decide
    exact ih k (i + 1) _ _ (by omega) (by omega) (by omega) (by omega) (by rw [pow_succ2]; omega)
theorem ref01_Shift_eq {k : Nat} (hk : 50000 ≤ k) {x n : Int} (hx : I64 x) (hn : I64 n) : smaltoref01_Shift.f k x n = some (sh x n) := by
  unfold smaltoref01_Shift.f sh
  by_cases h0 : n < 1
  · rw [if_pos h0, if_pos (by omega)]
  rw [if_neg h0, if_neg (show ¬ n ≤ 0 from by omega)]
  by_cases h1 : n > 64
  · rw [if_pos h1, rdiv_far (x := x) _ hx]
    calc (18446744073709551616 : Int) = 2 ^ 64 := by decide
      _ ≤ 2 ^ n.toNat := pow_le (by omega)
  rw [if_neg h1, w64_id (by omega) (by omega)]
  have e : n = (n.toNat : Int) := by omega
  have h := ref01_Shift_l0 x hx n.toNat (by omega) (n.toNat - 1) k 0 0 1 (by omega) (by omega) (by omega) (by omega) (by decide)
  rw [← e] at h
  have h' : smaltoref01_Shift.l0 k x n (n - 1) 0 0 1 = _ := h
  rw [h']
  congr 1
  refine hold_id ?_ ?_
  · rw [rdiv_pow x n.toNat (by omega)]
    have hp := pow_pos n.toNat
    have : -9223372036854775808 ≤ x / 2 ^ n.toNat := by
      rw [Int.le_ediv_iff_mul_le hp]
      have : -9223372036854775808 * 2 ^ n.toNat ≤ -9223372036854775808 * 1 := Int.mul_le_mul_of_nonpos_left (by decide) (by omega)
      omega
    omega
  · rw [rdiv_pow x n.toNat (by omega)]
    have h2 : (2 : Int) ≤ 2 ^ n.toNat := by
      calc (2 : Int) = 2 ^ 1 := by decide
        _ ≤ 2 ^ n.toNat := pow_le (by omega)
    have : x / 2 ^ n.toNat < 4611686018427387904 := by
      rw [Int.ediv_lt_iff_lt_mul (pow_pos _)]
      calc x < 4611686018427387904 * 2 := by omega
        _ ≤ 4611686018427387904 * 2 ^ n.toNat := Int.mul_le_mul_of_nonneg_left h2 (by decide)
    omega

theorem wide_size_eq {a : Int} (ha : I64 a) : wide_size.f a = some (siz a) := by
  unfold wide_size.f siz
  simp only [u64w]
  split
  · congr 1; omega
  · congr 1; omega

theorem wide_product_eq {a b : Int} (ha : I64 a) (hb : I64 b) : wide_product.f a b = some (siz a * siz b / 18446744073709551616, siz a * siz b % 18446744073709551616, ((decide (a < 0)) != (decide (b < 0)))) := by
  have ua := siz_u ha
  have ub := siz_u hb
  unfold wide_product.f
  rw [wide_size_eq ha, wide_size_eq hb]
  simp only [Option.bind_some]
  rw [bits_Mul64_eq (by omega) (by omega)]
  rfl

theorem wide_signed_eq {k : Nat} (hk : 1 ≤ k) {h l : Int} (hh : U64 h) (hl : U64 l) (b : Bool) : wide_signed.f k h l b = some (hold (sgn b (h * 18446744073709551616 + l))) := by
  obtain ⟨k, rfl⟩ : ∃ n, k = n + 1 := ⟨k - 1, by omega⟩
  unfold wide_signed.f sgn hold
  simp only [wide_signed.j0, u64w]
  cases b
  · simp only [Bool.false_eq_true, if_false]
    rw [if_neg (show ¬ h * 18446744073709551616 + l < -9223372036854775808 from by omega)]
    by_cases c : h > 0
    · rw [if_pos c, if_pos (by omega)]
    · rw [if_neg c]
      by_cases d : l > 9223372036854775807
      · rw [if_pos d, if_pos (by omega)]
      · rw [if_neg d, if_neg (by omega)]; congr 1; unfold wrap64; omega
  · simp only [if_true]
    by_cases c : h > 0
    · rw [if_pos c, if_pos (by omega)]
    · rw [if_neg c]
      by_cases d : l > 9223372036854775808
      · rw [if_pos (decide_eq_true d), if_pos (by omega)]
      · rw [if_neg (show ¬ (decide (l > 9223372036854775808) = true) from by simpa using d), if_neg (by omega), if_neg (by omega)]; congr 1; unfold wrap64; omega

theorem bitLen_spec : ∀ x : Nat, x ≠ 0 → x < 18446744073709551616 → ∃ m, Lib.bitLen x = m + 1 ∧ 2 ^ m ≤ x ∧ x < 2 ^ (m + 1) ∧ m ≤ 63 := by
  intro x
  induction x using Nat.strongRecOn with
  | ind x ih =>
    intro h0 h1
    rw [Lib.bitLen_half x h0 (by have : (2 : Nat) ^ 64 = 18446744073709551616 := by decide
                                 omega)]
    by_cases h : x / 2 = 0
    · refine ⟨0, ?_, by simp; omega, by simp; omega, by decide⟩
      rw [h]; rfl
    · obtain ⟨m, e, a, b, c⟩ := ih (x / 2) (by omega) h (by omega)
      have hp := Nat.pow_succ (n := 2) (m := m)
      have hp2 := Nat.pow_succ (n := 2) (m := m + 1)
      refine ⟨m + 1, by rw [e]; omega, by omega, by omega, ?_⟩
      refine Nat.le_of_not_lt fun hm => ?_
      have : (2 : Nat) ^ 64 ≤ 2 ^ (m + 1) := Nat.pow_le_pow_right (by decide) (by omega)
      have e64 : (2 : Nat) ^ 64 = 18446744073709551616 := by decide
      omega

/-- A quotient's digit, guessed: too great. -/
theorem knuth_down {y1 y0 u v q r Q y : Int} (hy : y = y1 * 4294967296 + y0) (y00 : 0 ≤ y0) (hy1 : 0 < y1)
    (hQ0 : Q * y ≤ u * 4294967296 + v) (huv : u < y) (hv : v < 4294967296) (hq : q * y1 + r = u) (hc : q ≥ 4294967296 ∨ q * y0 > 4294967296 * r + v) : Q ≤ q - 1 := by
  have hyp : 0 < y := by omega
  refine Int.le_of_lt_add_one ?_
  rw [Int.sub_add_cancel]
  refine Int.lt_of_not_ge fun hle => ?_
  rcases hc with hc | hc
  · have h1 : 4294967296 * y ≤ Q * y := Int.mul_le_mul_of_nonneg_right (by omega) (by omega)
    omega
  · have h1 : q * y ≤ Q * y := Int.mul_le_mul_of_nonneg_right hle (by omega)
    have h2 : q * y = q * y1 * 4294967296 + q * y0 := by rw [hy, Int.mul_add, Int.mul_assoc]
    generalize q * y1 = p at *
    generalize q * y0 = s at *
    generalize q * y = t at *
    omega
theorem knuth_le {y1 y0 u v q r Q y : Int} (hy : y = y1 * 4294967296 + y0) (hyp : 0 < y) (hQ1 : u * 4294967296 + v < (Q + 1) * y)
    (hle : q * y ≤ u * 4294967296 + v) : q ≤ Q := by
  refine Int.le_of_lt_add_one ?_
  refine Int.lt_of_not_ge fun h => ?_
  have h1 : (Q + 1) * y ≤ q * y := Int.mul_le_mul_of_nonneg_right h (by omega)
  omega
theorem knuth_stop {y1 y0 u v q r Q y : Int} (hy : y = y1 * 4294967296 + y0) (hyp : 0 < y) (hQ1 : u * 4294967296 + v < (Q + 1) * y) (hv : 0 ≤ v)
    (hq : q * y1 + r = u) (hc : (q * y0 ≤ 4294967296 * r + v) ∨ (0 ≤ y0 ∧ y0 < 4294967296 ∧ 0 ≤ q ∧ q ≤ 4294967296 ∧ r ≥ 4294967296)) : q ≤ Q := by
  refine knuth_le (y1 := y1) (y0 := y0) (r := r) hy hyp hQ1 ?_
  have h2 : q * y = q * y1 * 4294967296 + q * y0 := by rw [hy, Int.mul_add, Int.mul_assoc]
  rcases hc with hc | ⟨a, b, c, d, e⟩
  · generalize q * y1 = p at *
    generalize q * y0 = s at *
    generalize q * y = t at *
    omega
  · have h3 : q * y0 ≤ 4294967296 * 4294967296 := Int.mul_le_mul d (by omega) a (by decide)
    generalize q * y1 = p at *
    generalize q * y0 = s at *
    generalize q * y = t at *
    omega
theorem knuth_first {y1 y0 u y : Int} (hy : y = y1 * 4294967296 + y0) (y00 : y0 < 4294967296) (hy1 : 2147483648 ≤ y1) (hu : u < y) : u / y1 ≤ 4294967297 := by
  refine Int.le_of_lt_add_one ?_
  rw [Int.ediv_lt_iff_lt_mul (by omega)]
  omega
theorem Div64_l0 (y s y1 y0 u v w Q : Int) (hy : y = y1 * 4294967296 + y0) (y00 : 0 ≤ y0 ∧ y0 < 4294967296) (hy1 : 2147483648 ≤ y1 ∧ y1 < 4294967296) (hu : 0 ≤ u ∧ u < y) (hv : 0 ≤ v ∧ v < 4294967296)
    (hQ0 : Q * y ≤ u * 4294967296 + v) (hQ1 : u * 4294967296 + v < (Q + 1) * y) : ∀ (n k : Nat) (q r : Int), 4294967296 ≤ n * 2147483648 + r → 0 ≤ r → r < 4294967296 → 2 * n + 4 ≤ k → q * y1 + r = u → Q ≤ q → 0 ≤ Q → q ≤ 4294967297 →
    ∃ k', k ≤ k' + 2 * n + 4 ∧ bits_Div64.l0 k y s y1 y0 u v w q r = bits_Div64.j2 k' y s y1 y0 u v w Q := by
  intro n
  induction n with
  | zero => intro k q r h0 h1 h2; omega
  | succ n ih =>
    intro k q r h0 hr0 hr1 hk hq hQ hQ00 hqb
    obtain ⟨k, rfl⟩ : ∃ m, k = m + 2 := ⟨k - 2, by omega⟩
    rw [bits_Div64.l0]
    have up : (q ≥ 4294967296 ∨ q * y0 > 4294967296 * r + v) → ∃ k', k + 2 ≤ k' + 2 * (n + 1) + 4 ∧ bits_Div64.j1 (k + 1) y s y1 y0 u v w q r true = bits_Div64.j2 k' y s y1 y0 u v w Q := by
      intro hc
      have hd := knuth_down hy y00.1 (by omega) hQ0 hu.2 hv.2 hq hc
      have hq' : (q - 1) * y1 + (r + y1) = u := by rw [Int.sub_mul, Int.one_mul]; omega
      rw [bits_Div64.j1, if_pos rfl, u64w, u64w, show (r + y1) % 18446744073709551616 = r + y1 from by omega, show (q - 1) % 18446744073709551616 = q - 1 from by omega]
      by_cases hc2 : r + y1 ≥ 4294967296
      · rw [if_pos hc2]
        have hs := knuth_stop hy (by omega) hQ1 hv.1 hq' (Or.inr ⟨y00.1, y00.2, by omega, by omega, hc2⟩)
        exact ⟨k, by omega, by rw [show Q = q - 1 from by omega]⟩
      · rw [if_neg hc2]
        obtain ⟨k', a, b⟩ := ih k (q - 1) (r + y1) (by omega) (by omega) (by omega) (by omega) hq' hd hQ00 (by omega)
        exact ⟨k', by omega, b⟩
    by_cases hc1 : q ≥ 4294967296
    · rw [if_pos hc1]; exact up (Or.inl hc1)
    · rw [if_neg hc1]
      have p0 : 0 ≤ q * y0 := Int.mul_nonneg (by omega) y00.1
      have p1 : q * y0 ≤ 4294967295 * 4294967295 := Int.mul_le_mul (by omega) (by omega) y00.1 (by decide)
      simp only [u64w]
      rw [show (q * y0) % 18446744073709551616 = q * y0 from by omega, show ((4294967296 * r) % 18446744073709551616 + v) % 18446744073709551616 = 4294967296 * r + v from by omega]
      by_cases hc2 : q * y0 > 4294967296 * r + v
      · rw [decide_eq_true hc2]; exact up (Or.inr hc2)
      · rw [decide_eq_false hc2, bits_Div64.j1, if_neg (by decide)]
        have hs := knuth_stop hy (by omega) hQ1 hv.1 hq (Or.inl (by omega))
        exact ⟨k, by omega, by rw [show Q = q from by omega]⟩
theorem Div64_l1 (y s y1 y0 w q1 u Q : Int) (hy : y = y1 * 4294967296 + y0) (y00 : 0 ≤ y0 ∧ y0 < 4294967296) (hy1 : 2147483648 ≤ y1 ∧ y1 < 4294967296) (hu : 0 ≤ u ∧ u < y) (hw : 0 ≤ w ∧ w < 4294967296) (hs : 0 ≤ s ∧ s ≤ 63) (hq1 : 0 ≤ q1 ∧ q1 < 4294967296)
    (hQ0 : Q * y ≤ u * 4294967296 + w) (hQ1 : u * 4294967296 + w < (Q + 1) * y) (hQb : Q < 4294967296) : ∀ (n k : Nat) (q r : Int), 4294967296 ≤ n * 2147483648 + r → 0 ≤ r → r < 4294967296 → 2 * n + 4 ≤ k → q * y1 + r = u → Q ≤ q → 0 ≤ Q → q ≤ 4294967297 →
    bits_Div64.l1 k y s y1 y0 w q1 r u q = some (q1 * 4294967296 + Q, (u * 4294967296 + w - Q * y) / 2 ^ s.toNat) := by
  intro n
  have fin : Q * y ≤ u * 4294967296 + w → (q1 * 4294967296 % 18446744073709551616 + Q) % 18446744073709551616 = q1 * 4294967296 + Q ∨ Q < 0 := by
    intro _
    by_cases h : Q < 0
    · exact Or.inr h
    · left; omega
  have sub : ((u * 4294967296 % 18446744073709551616 + w) % 18446744073709551616 - Q * y % 18446744073709551616) % 18446744073709551616 = u * 4294967296 + w - Q * y := by
    have h1 : (Q + 1) * y = Q * y + y := by rw [Int.add_mul, Int.one_mul]
    rw [h1] at hQ1
    have hyb : y < 18446744073709551616 := by omega
    generalize Q * y = p at *
    omega
  have shs : ∀ x : Int, shr .u64 x s = x / 2 ^ s.toNat := by
    intro x; unfold shr; simp only [IntKind.bits]; rw [Nat.min_eq_left (by omega)]
  induction n with
  | zero => intro k q r h0 h1 h2; omega
  | succ n ih =>
    intro k q r h0 hr0 hr1 hk hq hQ hQ00 hqb
    obtain ⟨k, rfl⟩ : ∃ m, k = m + 2 := ⟨k - 2, by omega⟩
    rw [bits_Div64.l1]
    have up : (q ≥ 4294967296 ∨ q * y0 > 4294967296 * r + w) → bits_Div64.j4 (k + 1) y s y1 y0 w q1 r u q true = some (q1 * 4294967296 + Q, (u * 4294967296 + w - Q * y) / 2 ^ s.toNat) := by
      intro hc
      have hd := knuth_down hy y00.1 (by omega) hQ0 hu.2 hw.2 hq hc
      have hq' : (q - 1) * y1 + (r + y1) = u := by rw [Int.sub_mul, Int.one_mul]; omega
      rw [bits_Div64.j4, if_pos rfl]
      simp only [u64w]
      rw [show (r + y1) % 18446744073709551616 = r + y1 from by omega, show (q - 1) % 18446744073709551616 = q - 1 from by omega]
      by_cases hc2 : r + y1 ≥ 4294967296
      · rw [if_pos hc2]
        have hs' := knuth_stop hy (by omega) hQ1 hw.1 hq' (Or.inr ⟨y00.1, y00.2, by omega, by omega, hc2⟩)
        rw [show q - 1 = Q from by omega, if_pos hs.1, shs, sub]
        congr 2
        rcases fin hQ0 with h | h <;> omega
      · rw [if_neg hc2]
        exact ih k (q - 1) (r + y1) (by omega) (by omega) (by omega) (by omega) hq' hd hQ00 (by omega)
    by_cases hc1 : q ≥ 4294967296
    · rw [if_pos hc1]; exact up (Or.inl hc1)
    · rw [if_neg hc1]
      have p0 : 0 ≤ q * y0 := Int.mul_nonneg (by omega) y00.1
      have p1 : q * y0 ≤ 4294967295 * 4294967295 := Int.mul_le_mul (by omega) (by omega) y00.1 (by decide)
      simp only [u64w]
      rw [show (q * y0) % 18446744073709551616 = q * y0 from by omega, show ((4294967296 * r) % 18446744073709551616 + w) % 18446744073709551616 = 4294967296 * r + w from by omega]
      by_cases hc2 : q * y0 > 4294967296 * r + w
      · rw [decide_eq_true hc2]; exact up (Or.inr hc2)
      · rw [decide_eq_false hc2, bits_Div64.j4, if_neg (by decide)]
        have hs' := knuth_stop hy (by omega) hQ1 hw.1 hq (Or.inl (by omega))
        simp only [u64w]
        rw [show q = Q from by omega, if_pos hs.1, shs, sub]
        congr 2
        rcases fin hQ0 with h | h <;> omega
theorem ediv_bounds (a : Int) {b : Int} (hb : 0 < b) : a / b * b ≤ a ∧ a < (a / b + 1) * b := by
  have e := Int.mul_ediv_add_emod a b
  have r0 := Int.emod_nonneg a (show b ≠ 0 from by omega)
  have r1 := Int.emod_lt_of_pos a hb
  rw [Int.mul_comm] at e
  rw [Int.add_mul, Int.one_mul]
  constructor <;> omega
theorem Div64_norm {k : Nat} (hk : 30 ≤ k) {y s y1 y0 u v w : Int} (hy : y = y1 * 4294967296 + y0) (y00 : 0 ≤ y0 ∧ y0 < 4294967296) (hy1 : 2147483648 ≤ y1 ∧ y1 < 4294967296) (hu : 0 ≤ u ∧ u < y) (hv : 0 ≤ v ∧ v < 4294967296) (hw : 0 ≤ w ∧ w < 4294967296) (hs : 0 ≤ s ∧ s ≤ 63) :
    bits_Div64.l0 k y s y1 y0 u v w (u / y1) (u - u / y1 * y1) = some ((u * 18446744073709551616 + (v * 4294967296 + w)) / y, (u * 18446744073709551616 + (v * 4294967296 + w)) % y / 2 ^ s.toNat) := by
  have hyp : 0 < y := by omega
  have e1 := ediv_bounds u (show 0 < y1 from by omega)
  have e1' : (u / y1 + 1) * y1 = u / y1 * y1 + y1 := by rw [Int.add_mul, Int.one_mul]
  have b1 := ediv_bounds (u * 4294967296 + v) hyp
  have q0 : 0 ≤ (u * 4294967296 + v) / y := Int.ediv_nonneg (by omega) (by omega)
  have q0b : (u * 4294967296 + v) / y < 4294967296 := by rw [Int.ediv_lt_iff_lt_mul hyp]; omega
  have q1 : (u * 4294967296 + v) / y ≤ u / y1 := by
    refine Int.le_of_lt_add_one ?_
    rw [Int.ediv_lt_iff_lt_mul hyp, hy]
    have h0 : 0 ≤ u / y1 := Int.ediv_nonneg hu.1 (by omega)
    have h1 : 0 ≤ (u / y1 + 1) * y0 := Int.mul_nonneg (by omega) y00.1
    have h2 : (u / y1 + 1) * (y1 * 4294967296 + y0) = (u / y1 + 1) * y1 * 4294967296 + (u / y1 + 1) * y0 := by rw [Int.mul_add, Int.mul_assoc]
    rw [h2]
    generalize (u / y1 + 1) * y0 = a at *
    generalize (u / y1 + 1) * y1 = b at *
    omega
  obtain ⟨k', hk', h⟩ := Div64_l0 y s y1 y0 u v w ((u * 4294967296 + v) / y) hy y00 hy1 hu hv b1.1 b1.2 2 k (u / y1) (u - u / y1 * y1) (by omega) (by omega) (by omega) (by omega) (by omega) q1 q0 (knuth_first hy y00.2 hy1.1 hu.2)
  rw [h]
  obtain ⟨k', rfl⟩ : ∃ m, k' = m + 1 := ⟨k' - 1, by omega⟩
  have eu := Int.mul_ediv_add_emod (u * 4294967296 + v) y
  have m0 := Int.emod_nonneg (u * 4294967296 + v) (show y ≠ 0 from by omega)
  have m1 := Int.emod_lt_of_pos (u * 4294967296 + v) hyp
  have big : u * 18446744073709551616 + (v * 4294967296 + w) = (u * 4294967296 + v) * 4294967296 + w := by omega
  rw [big]
  generalize (u * 4294967296 + v) / y = Q1 at *
  generalize (u * 4294967296 + v) % y = U at *
  rw [bits_Div64.j2, if_neg (by omega)]
  have eU : IntKind.u64.wrap ((IntKind.u64.wrap ((IntKind.u64.wrap (u * 4294967296)) + v)) - (IntKind.u64.wrap (Q1 * y))) = U := by
    simp only [u64w]
    rw [Int.mul_comm Q1 y]
    generalize y * Q1 = p at *
    omega
  simp only [eU]
  have f1 := ediv_bounds U (show 0 < y1 from by omega)
  have f1' : (U / y1 + 1) * y1 = U / y1 * y1 + y1 := by rw [Int.add_mul, Int.one_mul]
  have f0 : 0 ≤ U / y1 := Int.ediv_nonneg m0 (by omega)
  have fb : U / y1 ≤ 4294967297 := knuth_first hy y00.2 hy1.1 m1
  have et : IntKind.u64.wrap (Int.tdiv U y1) = U / y1 := by rw [Int.tdiv_eq_ediv_of_nonneg m0, u64w]; omega
  have er : IntKind.u64.wrap (U - IntKind.u64.wrap (U / y1 * y1)) = U - U / y1 * y1 := by simp only [u64w]; omega
  rw [et, er]
  have c1 := ediv_bounds (U * 4294967296 + w) hyp
  have g0 : 0 ≤ (U * 4294967296 + w) / y := Int.ediv_nonneg (by omega) (by omega)
  have g0b : (U * 4294967296 + w) / y < 4294967296 := by rw [Int.ediv_lt_iff_lt_mul hyp]; omega
  have g1 : (U * 4294967296 + w) / y ≤ U / y1 := by
    refine Int.le_of_lt_add_one ?_
    rw [Int.ediv_lt_iff_lt_mul hyp, hy]
    have h1 : 0 ≤ (U / y1 + 1) * y0 := Int.mul_nonneg (by omega) y00.1
    have h2 : (U / y1 + 1) * (y1 * 4294967296 + y0) = (U / y1 + 1) * y1 * 4294967296 + (U / y1 + 1) * y0 := by rw [Int.mul_add, Int.mul_assoc]
    rw [h2]
    generalize (U / y1 + 1) * y0 = a at *
    generalize (U / y1 + 1) * y1 = b at *
    omega
  rw [Div64_l1 y s y1 y0 w Q1 U ((U * 4294967296 + w) / y) hy y00 hy1 ⟨m0, m1⟩ hw hs ⟨q0, q0b⟩ c1.1 c1.2 g0b 2 k' (U / y1) (U - U / y1 * y1) (by omega) (by omega) (by omega) (by omega) (by omega) g1 g0 fb]
  have eW := Int.mul_ediv_add_emod (U * 4294967296 + w) y
  have n0 := Int.emod_nonneg (U * 4294967296 + w) (show y ≠ 0 from by omega)
  have n1 := Int.emod_lt_of_pos (U * 4294967296 + w) hyp
  obtain ⟨z1, z2⟩ := div_unique (a := (u * 4294967296 + v) * 4294967296 + w) (d := y) (q := Q1 * 4294967296 + (U * 4294967296 + w) / y) (r := (U * 4294967296 + w) % y) (by
    rw [Int.add_mul, Int.mul_right_comm, Int.mul_comm Q1 y, Int.mul_comm ((U * 4294967296 + w) / y) y]
    generalize y * Q1 = a at *
    generalize y * ((U * 4294967296 + w) / y) = b at *
    omega) n0 n1
  rw [z1, z2]
  congr 3
  rw [Int.mul_comm ((U * 4294967296 + w) / y) y]; omega
theorem bits_Div64_eq {k : Nat} (hk : 30 ≤ k) {hi lo y : Int} (hy : 0 < y ∧ y < 18446744073709551616) (hhi : 0 ≤ hi ∧ hi < y) (hlo : U64 lo) :
    bits_Div64.f k hi lo y = some ((hi * 18446744073709551616 + lo) / y, (hi * 18446744073709551616 + lo) % y) := by
  unfold bits_Div64.f
  rw [if_neg (by omega), if_neg (by omega)]
  by_cases h0 : hi = 0
  · rw [if_pos h0, h0, Int.tdiv_eq_ediv_of_nonneg hlo.1, Int.tmod_eq_emod_of_nonneg hlo.1, u64w]
    have a : 0 ≤ lo / y := Int.ediv_nonneg hlo.1 (by omega)
    have b : lo / y ≤ lo := Int.ediv_le_self _ hlo.1
    rw [show 0 * 18446744073709551616 + lo = lo from by omega, show lo / y % 18446744073709551616 = lo / y from by omega]
  rw [if_neg h0]
  obtain ⟨m, em, ma, mb, mc⟩ := bitLen_spec y.toNat (by omega) (by omega)
  unfold bits_LeadingZeros64.f
  rw [if_pos (by omega), if_pos (by omega), em]
  simp only [Option.bind_some]
  obtain ⟨s, hs⟩ : ∃ s : Nat, s = 63 - m := ⟨_, rfl⟩
  have e1 : IntKind.u64.wrap (64 - ((m + 1 : Nat) : Int)) = (s : Int) := by rw [u64w]; omega
  have e2 : IntKind.u64.wrap (64 - (s : Int)) = ((64 - s : Nat) : Int) := by rw [u64w]; omega
  rw [e1, e2, if_pos (by omega), if_pos (by omega)]
  have hp := pow_pos s
  have ma' : (2 : Int) ^ m ≤ y := by
    have : ((2 ^ m : Nat) : Int) ≤ (y.toNat : Int) := Int.ofNat_le.2 ma
    rw [Int.natCast_pow] at this
    rw [Int.toNat_of_nonneg (by omega)] at this; exact this
  have mb' : y < (2 : Int) ^ (m + 1) := by
    have : (y.toNat : Int) < ((2 ^ (m + 1) : Nat) : Int) := Int.ofNat_lt.2 mb
    rw [Int.natCast_pow] at this
    rw [Int.toNat_of_nonneg (by omega)] at this; exact this
  have p63 : (2 : Int) ^ m * 2 ^ s = 9223372036854775808 := by rw [← Int.pow_add, show m + s = 63 from by omega]; decide
  have p64 : (2 : Int) ^ (m + 1) * 2 ^ s = 18446744073709551616 := by rw [← Int.pow_add, show m + 1 + s = 64 from by omega]; decide
  have p64' : (2 : Int) ^ (64 - s) * 2 ^ s = 18446744073709551616 := by rw [← Int.pow_add, show 64 - s + s = 64 from by omega]; decide
  have y63 : 9223372036854775808 ≤ y * 2 ^ s := by rw [← p63]; exact Int.mul_le_mul_of_nonneg_right ma' (by omega)
  have y64 : y * 2 ^ s < 18446744073709551616 := by rw [← p64]; exact Int.mul_lt_mul_of_pos_right mb' hp
  have eshl : ∀ x : Int, shl .u64 x (s : Int) = (x * 2 ^ s) % 18446744073709551616 := by
    intro x; unfold shl; simp only [IntKind.bits]; rw [u64w, show ((s : Int)).toNat = s from by omega, Nat.min_eq_left (by omega)]
  have eshr : ∀ x : Int, shr .u64 x ((64 - s : Nat) : Int) = x / 2 ^ (64 - s) := by
    intro x; unfold shr; simp only [IntKind.bits]; rw [show (((64 - s : Nat) : Int)).toNat = 64 - s from by omega, Nat.min_eq_left (by omega)]
  have hh : hi * 2 ^ s + 2 ^ s ≤ y * 2 ^ s := by
    have : (hi + 1) * 2 ^ s ≤ y * 2 ^ s := Int.mul_le_mul_of_nonneg_right (by omega) (by omega)
    rw [Int.add_mul, Int.one_mul] at this; exact this
  have hh0 : 0 ≤ hi * 2 ^ s := Int.mul_nonneg hhi.1 (by omega)
  rw [eshl, eshl, eshl, eshr, Int.emod_eq_of_lt (show 0 ≤ y * 2 ^ s from by omega) y64, Int.emod_eq_of_lt hh0 (by omega)]
  have lp := pow_pos (64 - s)
  have l1 : lo / 2 ^ (64 - s) < 2 ^ s := by
    rw [Int.ediv_lt_iff_lt_mul lp, Int.mul_comm, p64']; exact hlo.2
  have l0 : 0 ≤ lo / 2 ^ (64 - s) := Int.ediv_nonneg hlo.1 (by omega)
  have ejoin : Go.bits .or .u64 (hi * 2 ^ s) (lo / 2 ^ (64 - s)) = hi * 2 ^ s + lo / 2 ^ (64 - s) := by
    have e64 : (2 : Int) ^ 64 = 18446744073709551616 := by decide
    exact bits_join .u64 64 (by decide) (fun n h0 h1 => by rw [u64w]; omega) s _ _ hh0 (Int.mul_emod_left _ _) (by omega) l0 l1 (by omega)
  rw [ejoin, u64and32, u64and32]
  have elo : lo / 2 ^ (64 - s) * 18446744073709551616 + lo * 2 ^ s % 18446744073709551616 = lo * 2 ^ s := by
    have e := Int.mul_ediv_add_emod (lo * 2 ^ s) 18446744073709551616
    have : lo * 2 ^ s / 18446744073709551616 = lo / 2 ^ (64 - s) := by
      rw [← p64', Int.mul_ediv_mul_of_pos_left _ _ hp]
    rw [this] at e; omega
  have t0 : 0 ≤ lo * 2 ^ s % 18446744073709551616 ∧ lo * 2 ^ s % 18446744073709551616 < 18446744073709551616 := by omega
  have big : (hi * 18446744073709551616 + lo) * 2 ^ s = (hi * 2 ^ s + lo / 2 ^ (64 - s)) * 18446744073709551616 + lo * 2 ^ s % 18446744073709551616 := by
    rw [Int.add_mul, Int.add_mul, Int.mul_right_comm]; omega
  have res1 : (hi * 18446744073709551616 + lo) / y = (hi * 18446744073709551616 + lo) * 2 ^ s / (y * 2 ^ s) := (Int.mul_ediv_mul_of_pos_left _ _ hp).symm
  have res2 : (hi * 18446744073709551616 + lo) % y = (hi * 18446744073709551616 + lo) * 2 ^ s % (y * 2 ^ s) / 2 ^ s := by
    rw [Int.mul_comm (hi * 18446744073709551616 + lo), Int.mul_comm y, Int.mul_emod_mul_of_pos _ _ hp, Int.mul_ediv_cancel_left _ (by omega)]
  rw [res1, res2, big]
  clear res1 res2 big elo ejoin
  have hu00 : 0 ≤ hi * 2 ^ s + lo / 2 ^ (64 - s) ∧ hi * 2 ^ s + lo / 2 ^ (64 - s) < y * 2 ^ s := by omega
  generalize hi * 2 ^ s + lo / 2 ^ (64 - s) = u at *
  generalize lo * 2 ^ s % 18446744073709551616 = T at *
  generalize hY : y * 2 ^ s = Y at *
  have hu : 0 ≤ u ∧ u < Y := hu00
  have hy1 : 0 < Y / 4294967296 := by omega
  have uq := ediv_bounds u hy1
  have uq' : (u / (Y / 4294967296) + 1) * (Y / 4294967296) = u / (Y / 4294967296) * (Y / 4294967296) + Y / 4294967296 := by rw [Int.add_mul, Int.one_mul]
  have uq0 : 0 ≤ u / (Y / 4294967296) := Int.ediv_nonneg hu.1 (by omega)
  have uq1 : u / (Y / 4294967296) ≤ u := Int.ediv_le_self _ hu.1
  have et : IntKind.u64.wrap (Int.tdiv u (Y / 4294967296)) = u / (Y / 4294967296) := by rw [Int.tdiv_eq_ediv_of_nonneg hu.1, u64w]; omega
  have er : IntKind.u64.wrap (u - IntKind.u64.wrap (u / (Y / 4294967296) * (Y / 4294967296))) = u - u / (Y / 4294967296) * (Y / 4294967296) := by simp only [u64w]; omega
  rw [if_neg (by omega), et, er]
  have h := Div64_norm hk (y := Y) (s := (s : Int)) (y1 := Y / 4294967296) (y0 := Y % 4294967296) (u := u) (v := T / 4294967296) (w := T % 4294967296) (by omega) (by omega) (by omega) hu (by omega) (by omega) (by omega)
  rw [h, show T / 4294967296 * 4294967296 + T % 4294967296 = T from by omega, show ((s : Int)).toNat = s from by omega]

theorem add64_u {x y : Int} (hx : U64 x) (hy : U64 y) : add64s x y 0 = (x + y) % 18446744073709551616 ∧ add64c x y 0 = (x + y) / 18446744073709551616 := by
  unfold add64s add64c
  constructor <;> (simp only [Int.toNat_zero]; omega)
theorem hold_big {b : Bool} {m n : Int} (hm : 9223372036854775808 ≤ m) (hn : 9223372036854775808 ≤ n) : hold (sgn b m) = hold (sgn b n) := by
  unfold hold sgn
  cases b
  · simp only [Bool.false_eq_true, if_false]; rw [if_neg (by omega), if_pos (by omega), if_neg (by omega), if_pos (by omega)]
  · simp only [if_true]
    by_cases h1 : m = 9223372036854775808
    · by_cases h2 : n = 9223372036854775808
      · rw [h1, h2]
      · rw [if_neg (by omega), if_neg (by omega), if_pos (by omega)]; omega
    · by_cases h2 : n = 9223372036854775808
      · rw [if_pos (by omega), if_neg (by omega), if_neg (by omega)]; omega
      · rw [if_pos (by omega), if_pos (by omega)]
theorem wide_MulDiv_eq {k : Nat} (hk : 40 ≤ k) {a b d : Int} (ha : I64 a) (hb : I64 b) (hd : I64 d) : wide_MulDiv.f k a b d = some (hold (rdiv (a * b) d)) := by
  unfold wide_MulDiv.f
  by_cases hd0 : d = 0
  · rw [if_pos hd0, hd0]; simp [rdiv, hold]
  have ua := siz_u ha
  have ub := siz_u hb
  have ud := siz_u hd
  have ud0 : siz d ≠ 0 := fun h => hd0 (siz_zero.1 h)
  rw [if_neg hd0, wide_product_eq ha hb, wide_size_eq hd]
  simp only [Option.bind_some]
  have p0 := Int.mul_nonneg ua.1 ub.1
  have p1 : siz a * siz b ≤ 9223372036854775808 * 9223372036854775808 := Int.mul_le_mul ua.2 ub.2 ub.1 (by decide)
  have e0 := sgn_siz2 a b
  have es := sgn_xor ((decide (a < 0)) != (decide (b < 0))) d (siz a * siz b) hd0
  rw [e0] at es
  rw [← es]
  generalize siz a * siz b = p at *
  generalize ((decide (a < 0)) != (decide (b < 0))) = s0 at *
  generalize (s0 != decide (d < 0)) = s at *
  generalize siz d = D at *
  have q0 : 0 ≤ p / D := Int.ediv_nonneg p0 (by omega)
  have eqp := ediv_bounds p (show 0 < D from by omega)
  rw [rdiv_sgn s p0 (by omega)]
  by_cases c : p / 18446744073709551616 ≥ D
  · rw [if_pos c, wide_signed_eq (by omega) (by omega) (by omega)]
    simp only [Option.bind_some]
    congr 1
    have big : 18446744073709551616 ≤ p / D := by
      rw [Int.le_ediv_iff_mul_le (by omega)]; omega
    refine hold_big (by omega) ?_
    cases s <;> (simp only [Bool.false_eq_true, if_false, if_true]; split <;> omega)
  · rw [if_neg c, bits_Div64_eq (by omega) (by omega) (by omega) (by omega)]
    simp only [Option.bind_some]
    rw [show p / 18446744073709551616 * 18446744073709551616 + p % 18446744073709551616 = p from by omega]
    have r0 := Int.emod_nonneg p (show D ≠ 0 from by omega)
    have r1 := Int.emod_lt_of_pos p (show 0 < D from by omega)
    have qb : p / D < 18446744073709551616 := by rw [Int.ediv_lt_iff_lt_mul (by omega)]; omega
    generalize p % D = r at *
    generalize p / D = q at *
    rw [u64w, show (D - r) % 18446744073709551616 = D - r from by omega]
    obtain ⟨k, rfl⟩ : ∃ n, k = n + 1 := ⟨k - 1, by omega⟩
    have up : ∀ s, wide_MulDiv.j0 (k + 1) s q 0 true = some (hold (sgn s (q + 1))) := by
      intro s
      obtain ⟨x1, x2⟩ := add64_u (x := q) (y := 1) (by omega) (by omega)
      rw [wide_MulDiv.j0, if_pos rfl, x1, x2, wide_signed_eq (by omega) (by omega) (by omega)]
      simp only [Option.bind_some]; congr 3; omega
    have dn : ∀ s, wide_MulDiv.j0 (k + 1) s q 0 false = some (hold (sgn s q)) := by
      intro s
      obtain ⟨x1, x2⟩ := add64_u (x := q) (y := 0) (by omega) (by omega)
      rw [wide_MulDiv.j0, if_neg (by decide), x1, x2, wide_signed_eq (by omega) (by omega) (by omega)]
      simp only [Option.bind_some]; congr 3; omega
    cases s
    · simp only [Bool.false_eq_true, if_false]
      by_cases g : r ≥ D - r
      · rw [if_pos g, decide_eq_true g]; exact up _
      · rw [if_neg g, decide_eq_false g]; exact dn _
    · simp only [if_true]
      by_cases g : r > D - r
      · rw [if_pos g, if_pos g]; exact up _
      · rw [if_neg g, if_neg g]; exact dn _

theorem ref02_MulDiv_eq {k : Nat} (hk : 129 ≤ k) {a b d : Int} (ha : I64 a) (hb : I64 b) (hd : I64 d) : smaltoref02_MulDiv.f k a b d = some (hold (rdiv (a * b) d)) := by
  unfold smaltoref02_MulDiv.f
  by_cases hd0 : d = 0
  · rw [if_pos hd0, hd0]; simp [rdiv, hold]
  have ua := siz_u ha
  have ub := siz_u hb
  have ud := siz_u hd
  have ud0 : siz d ≠ 0 := fun h => hd0 (siz_zero.1 h)
  rw [if_neg hd0, ref01_Size_eq ha, ref01_Size_eq hb]
  simp only [Option.bind_some]
  rw [ref01_Times_eq (by omega) (by omega) (by omega), ref01_Size_eq hd]
  simp only [Option.bind_some]
  have p0 := Int.mul_nonneg ua.1 ub.1
  have p1 : siz a * siz b ≤ 9223372036854775808 * 9223372036854775808 := Int.mul_le_mul ua.2 ub.2 ub.1 (by decide)
  have e0 := sgn_siz2 a b
  have es := sgn_xor ((decide (a < 0)) != (decide (b < 0))) d (siz a * siz b) hd0
  rw [e0] at es
  rw [← es]
  generalize siz a * siz b = p at *
  rw [ref01_Nearest_eq hk (by omega) (by omega) (by omega)]
  simp only [Option.bind_some]
  rw [show p / 18446744073709551616 * 18446744073709551616 + p % 18446744073709551616 = p from by omega]

/-- The terms of the exponential's row. -/
def expT (r : Int) : Nat → Int
  | 0 => 1099511627776
  | n + 1 => hold (rdiv (expT r n * r) (((n : Int) + 1) * 1099511627776))
/-- Its sums. -/
def expS (r : Int) : Nat → Int
  | 0 => 1099511627776
  | n + 1 => if n % 2 = 0 then wrap64 (expS r n - expT r (n + 1)) else wrap64 (expS r n + expT r (n + 1))
/-- e to the -t, as a fine number. -/
def expV (t : Int) : Int := sh (expS (mx 0 t % 762123384786) 16) (mx 0 t / 762123384786)
theorem w64_i (x : Int) : I64 (wrap64 x) := by unfold wrap64; constructor <;> omega
theorem expT_i (r : Int) : ∀ n, I64 (expT r n)
  | 0 => by unfold expT; decide
  | n + 1 => by unfold expT; exact hold_i _
theorem expS_i (r : Int) : ∀ n, I64 (expS r n)
  | 0 => by unfold expS; decide
  | n + 1 => by unfold expS; split <;> exact w64_i _
theorem expo_Exp_l0 (s r : Int) (hs : I64 s) (hr : I64 r) : ∀ (d k n : Nat), n + d = 16 → d + 60 < k →
    expo_Exp.l0 k s r (expS r n) (expT r n) (n : Int) = some (sh (expS r 16) s) := by
  intro d
  induction d with
  | zero =>
    intro k n hn hk
    obtain ⟨k, rfl⟩ : ∃ m, k = m + 1 := ⟨k - 1, by omega⟩
    rw [expo_Exp.l0, if_neg (by omega), show n = 16 from by omega, fixed_Shift_eq (expS_i r 16) hs]
    rfl
  | succ d ih =>
    intro k n hn hk
    obtain ⟨k, rfl⟩ : ∃ m, k = m + 1 := ⟨k - 1, by omega⟩
    rw [expo_Exp.l0, if_pos (by omega), w64_id (show -9223372036854775808 ≤ (n : Int) + 1 from by omega) (by omega), w64_id (by omega) (by omega)]
    rw [wide_MulDiv_eq (by omega) (expT_i r n) hr (by constructor <;> omega)]
    simp only [Option.bind_some]
    have et : hold (rdiv (expT r n * r) (((n : Int) + 1) * 1099511627776)) = expT r (n + 1) := by rw [expT]
    rw [et]
    have h := ih k (n + 1) (by omega) (by omega)
    rw [show ((n + 1 : Nat) : Int) = (n : Int) + 1 from by omega, expS] at h
    have em : Int.tmod (n : Int) 2 = ((n % 2 : Nat) : Int) := rfl
    rw [em]
    by_cases c : n % 2 = 0
    · rw [if_pos (by omega)]; rw [if_pos c] at h; exact h
    · rw [if_neg (by omega)]; rw [if_neg c] at h; exact h
theorem expo_Exp_eq {k : Nat} (hk : 100 ≤ k) {t : Int} (ht : I64 t) : expo_Exp.f k t = some (expV t) := by
  have hm : 0 ≤ mx 0 t ∧ mx 0 t ≤ 9223372036854775807 := by unfold mx; split <;> omega
  unfold expo_Exp.f expV
  rw [w64_id (by omega) (by omega)]
  exact expo_Exp_l0 _ _ (by omega) (by omega) 16 k 0 (by omega) (by omega)
theorem expV_i (t : Int) : I64 (expV t) := sh_range (expS_i _ _)

/-- Of a distance and a sigma. -/
def ratV (d s : Int) : Int := if s < 1 ∨ s > 4194304 ∨ d < -16384 ∨ d > 16384 then 9223372036854775807 else hold (rdiv (d * d * 2147483648 * 1099511627776) (s * s))
theorem ratV_i (d s : Int) : I64 (ratV d s) := by
  unfold ratV; split
  · constructor <;> omega
  · exact hold_i _
theorem sq_le {x m : Int} (h0 : -m ≤ x) (h1 : x ≤ m) : 0 ≤ x * x ∧ x * x ≤ m * m := by
  have hm : 0 ≤ m := by omega
  by_cases h : 0 ≤ x
  · exact ⟨Int.mul_nonneg h h, Int.mul_le_mul h1 h1 h hm⟩
  · have e : x * x = (-x) * (-x) := by rw [Int.neg_mul_neg]
    rw [e]
    exact ⟨Int.mul_nonneg (by omega) (by omega), Int.mul_le_mul (by omega) (by omega) (by omega) hm⟩
theorem expo_Ratio_eq {k : Nat} (hk : 40 ≤ k) {d s : Int} : expo_Ratio.f k d s = some (ratV d s) := by
  unfold expo_Ratio.f ratV
  by_cases h1 : s < 1
  · rw [if_pos h1, if_pos (Or.inl h1)]
  rw [if_neg h1]
  by_cases h2 : s > 4194304
  · rw [if_pos h2, if_pos (Or.inr (Or.inl h2))]
  rw [if_neg h2]
  by_cases h3 : d < -16384
  · rw [if_pos h3, if_pos (Or.inr (Or.inr (Or.inl h3)))]
  rw [if_neg h3]
  by_cases h4 : d > 16384
  · rw [if_pos h4, if_pos (Or.inr (Or.inr (Or.inr h4)))]
  rw [if_neg h4, if_neg (by omega)]
  have a := sq_le (x := d) (m := 16384) (by omega) (by omega)
  have b := sq_le (x := s) (m := 4194304) (by omega) (by omega)
  rw [w64_id (show -9223372036854775808 ≤ d * d from by omega) (by omega), w64_id (by omega) (by omega), w64_id (show -9223372036854775808 ≤ s * s from by omega) (by omega),
    wide_MulDiv_eq hk (by constructor <;> omega) (by decide) (by constructor <;> omega)]
  rfl

theorem expo_Gauss_eq {k : Nat} (hk : 100 ≤ k) {d s : Int} : expo_Gauss.f k d s = some (sh (expV (ratV d s)) 10) := by
  unfold expo_Gauss.f
  rw [expo_Ratio_eq (by omega)]
  simp only [Option.bind_some]
  rw [expo_Exp_eq hk (ratV_i d s)]
  simp only [Option.bind_some]
  rw [fixed_Shift_eq (expV_i _) (by decide)]
  rfl

theorem ref03_Exp_l0 (s r : Int) (hs : I64 s) (hr : I64 r) : ∀ (d k n : Nat) (p m : Int), n + d = 16 → d + 60000 < k → I64 p → I64 m → wrap64 (p - m) = expS r n →
    smaltoref03_Exp.l0 k s r p m (expT r n) ((n : Int) + 1) = some (sh (expS r 16) s) := by
  intro d
  induction d with
  | zero =>
    intro k n p m hn hk hp hm he
    obtain ⟨k, rfl⟩ : ∃ m, k = m + 1 := ⟨k - 1, by omega⟩
    rw [smaltoref03_Exp.l0, if_neg (by omega), he, show n = 16 from by omega, ref01_Shift_eq (by omega) (expS_i r 16) hs]
    rfl
  | succ d ih =>
    intro k n p m hn hk hp hm he
    obtain ⟨k, rfl⟩ : ∃ m, k = m + 1 := ⟨k - 1, by omega⟩
    rw [smaltoref03_Exp.l0, if_pos (by omega), w64_id (show -9223372036854775808 ≤ ((n : Int) + 1) * 1099511627776 from by omega) (by omega), w64_id (show -9223372036854775808 ≤ (n : Int) + 1 + 1 from by omega) (by omega)]
    rw [ref02_MulDiv_eq (by omega) (expT_i r n) hr (by constructor <;> omega)]
    simp only [Option.bind_some]
    have et : hold (rdiv (expT r n * r) (((n : Int) + 1) * 1099511627776)) = expT r (n + 1) := by rw [expT]
    rw [et]
    have em : Int.tmod ((n : Int) + 1) 2 = (((n + 1) % 2 : Nat) : Int) := by rw [Int.tmod_eq_emod_of_nonneg (by omega)]; omega
    have ec : ((n + 1 : Nat) : Int) = (n : Int) + 1 := by omega
    rw [em]
    have es : expS r (n + 1) = if n % 2 = 0 then wrap64 (expS r n - expT r (n + 1)) else wrap64 (expS r n + expT r (n + 1)) := by rw [expS]
    by_cases c : n % 2 = 0
    · rw [if_pos (by omega)]
      rw [if_pos c] at es
      have e2 : wrap64 (p - wrap64 (m + expT r (n + 1))) = expS r (n + 1) := by
        rw [es, ← he]
        generalize expT r (n + 1) = u
        unfold wrap64; omega
      have h := ih k (n + 1) p (wrap64 (m + expT r (n + 1))) (by omega) (by omega) hp (w64_i _) e2
      rw [ec] at h; exact h
    · rw [if_neg (by omega)]
      rw [if_neg c] at es
      have e2 : wrap64 (wrap64 (p + expT r (n + 1)) - m) = expS r (n + 1) := by
        rw [es, ← he]
        generalize expT r (n + 1) = u
        unfold wrap64; omega
      have h := ih k (n + 1) (wrap64 (p + expT r (n + 1))) m (by omega) (by omega) (w64_i _) hm e2
      rw [ec] at h; exact h
theorem ref03_Exp_eq {k : Nat} (hk : 70000 ≤ k) {t : Int} (ht : I64 t) : smaltoref03_Exp.f k t = some (expV t) := by
  obtain ⟨k, rfl⟩ : ∃ m, k = m + 1 := ⟨k - 1, by omega⟩
  have main : ∀ x, 0 ≤ x → x ≤ 9223372036854775807 → smaltoref03_Exp.j0 (k + 1) x = some (sh (expS (x % 762123384786) 16) (x / 762123384786)) := by
    intro x h0 h1
    rw [smaltoref03_Exp.j0, ref01_Floor_eq (by omega) (by constructor <;> omega) (by decide)]
    have e : flo x 762123384786 = x / 762123384786 := by unfold flo; rw [if_pos (by decide)]
    rw [e, hold_id (by omega) (by omega)]
    simp only [Option.bind_some]
    rw [w64_id (show -9223372036854775808 ≤ x / 762123384786 * 762123384786 from by omega) (by omega), w64_id (by omega) (by omega), show x - x / 762123384786 * 762123384786 = x % 762123384786 from by omega]
    exact ref03_Exp_l0 _ _ (by omega) (by omega) 16 k 0 1099511627776 0 (by omega) (by omega) (by decide) (by decide) (by rw [expS]; unfold wrap64; decide)
  unfold smaltoref03_Exp.f expV
  by_cases c : t < 0
  · rw [if_pos c, main 0 (by omega) (by omega), show mx 0 t = 0 from by unfold mx; split <;> omega]
  · rw [if_neg c, main t (by omega) (by omega), show mx 0 t = t from by unfold mx; split <;> omega]

theorem ref03_Ratio_eq {k : Nat} (hk : 200 ≤ k) {d s : Int} : smaltoref03_Ratio.f k d s = some (ratV d s) := by
  unfold smaltoref03_Ratio.f ratV
  by_cases h1 : s < 1
  · rw [if_pos h1, if_pos (Or.inl h1)]
  rw [if_neg h1]
  by_cases h2 : s > 4194304
  · rw [if_pos h2, if_pos (Or.inr (Or.inl h2))]
  rw [if_neg h2]
  by_cases h3 : d < -16384
  · rw [if_pos h3, if_pos (Or.inr (Or.inr (Or.inl h3)))]
  rw [if_neg h3]
  by_cases h4 : d > 16384
  · rw [if_pos h4, if_pos (Or.inr (Or.inr (Or.inr h4)))]
  rw [if_neg h4, if_neg (by omega)]
  have a := sq_le (x := d) (m := 16384) (by omega) (by omega)
  have b := sq_le (x := s) (m := 4194304) (by omega) (by omega)
  rw [w64_id (show -9223372036854775808 ≤ d * d from by omega) (by omega), w64_id (by omega) (by omega), w64_id (show -9223372036854775808 ≤ s * s from by omega) (by omega),
    ref02_MulDiv_eq (by omega) (by constructor <;> omega) (by decide) (by constructor <;> omega)]
  rfl

theorem ref03_Gauss_eq {k : Nat} (hk : 70000 ≤ k) {d s : Int} : smaltoref03_Gauss.f k d s = some (sh (expV (ratV d s)) 10) := by
  unfold smaltoref03_Gauss.f
  rw [ref03_Ratio_eq (by omega)]
  simp only [Option.bind_some]
  rw [ref03_Exp_eq hk (ratV_i d s)]
  simp only [Option.bind_some]
  rw [ref01_Shift_eq (by omega) (expV_i _) (by decide)]
  rfl

theorem same_l0 (l : List Int) (hl : l.length < 4611686018427387904) : ∀ (d k i : Nat), i + d = l.length → d + 1 < k → smaltoref06_Same.l0 k l l (l.length : Int) (i : Int) = some true := by
  intro d
  induction d with
  | zero =>
    intro k i h1 h2
    obtain ⟨k, rfl⟩ : ∃ m, k = m + 1 := ⟨k - 1, by omega⟩
    rw [smaltoref06_Same.l0, if_neg (by omega)]
  | succ d ih =>
    intro k i h1 h2
    obtain ⟨k, rfl⟩ : ∃ m, k = m + 1 := ⟨k - 1, by omega⟩
    rw [smaltoref06_Same.l0, if_pos (by omega), if_pos (by omega), if_pos (by omega), if_pos (by omega), if_pos rfl, w64_id (by omega) (by omega)]
    exact ih k (i + 1) (by omega) (by omega)
theorem same_refl {k : Nat} (l : List Int) (hl : l.length < 4611686018427387904) (hk : l.length + 2 ≤ k) : smaltoref06_Same.f k l l = some true := by
  unfold smaltoref06_Same.f
  rw [if_pos rfl]
  exact same_l0 l hl l.length k 0 (by omega) (by omega)

theorem ref06_plus_eq {k : Nat} (hk : 1 ≤ k) {a b : Int} (ha : I64 a) (hb : I64 b) : smaltoref06_plus.f k a b = some (hold (a + b)) := by
  obtain ⟨k, rfl⟩ : ∃ m, k = m + 1 := ⟨k - 1, by omega⟩
  unfold smaltoref06_plus.f
  by_cases h1 : b > 0
  · rw [if_pos h1, w64_id (by omega) (by omega), smaltoref06_plus.j0]
    by_cases h2 : a > 9223372036854775807 - b
    · rw [if_pos (by simpa using h2)]
      unfold hold; rw [if_neg (by omega), if_pos (by omega)]
    · rw [if_neg (by simpa using h2), if_neg (by omega), w64_id (by omega) (by omega), hold_id (by omega) (by omega)]
  · rw [if_neg h1, smaltoref06_plus.j0, if_neg (by decide)]
    by_cases h2 : b < 0
    · rw [if_pos h2, w64_id (show -9223372036854775808 ≤ -9223372036854775808 - b from by omega) (by omega)]
      by_cases h3 : a < -9223372036854775808 - b
      · rw [if_pos h3]; unfold hold; rw [if_pos (by omega)]
      · rw [if_neg h3, w64_id (by omega) (by omega), hold_id (by omega) (by omega)]
    · rw [if_neg h2, w64_id (by omega) (by omega), hold_id (by omega) (by omega)]

theorem szV_is {x : Int} (hx : I64 x) : szV x = if x ≥ 0 then x else if x < -9223372036854775807 then 9223372036854775807 else -x := by
  have e : x * -1 = -x := by omega
  unfold szV
  rw [e]
  unfold mx hold
  repeat' split
  all_goals omega
theorem ref06_Size_eq {x : Int} (hx : I64 x) : smaltoref06_Size.f x = some (szV x) := by
  rw [szV_is hx]
  unfold smaltoref06_Size.f
  by_cases h1 : x ≥ 0
  · rw [if_pos h1, if_pos h1]
  · rw [if_neg h1, if_neg h1]
    by_cases h2 : x < -9223372036854775807
    · rw [if_pos h2, if_pos h2]
    · rw [if_neg h2, if_neg h2, w64_id (by omega) (by omega)]
theorem szV_i {x : Int} (hx : I64 x) : 0 ≤ szV x ∧ szV x ≤ 9223372036854775807 := by
  rw [szV_is hx]; repeat' split
  all_goals omega

/-- The sum without signs, held at each step. -/
def szFrom (s : Int) (l : List Int) : Int := l.foldl (fun s x => hold (s + szV x)) s
theorem rd_i64 {l : List Int} (hx : ∀ x ∈ l, I64 x) (i : Int) : I64 (rd l i) := by
  unfold rd
  rw [List.getD_eq_getElem?_getD]
  rcases Nat.lt_or_ge i.toNat l.length with q | q
  · rw [List.getElem?_eq_getElem q]; exact hx _ (List.getElem_mem _)
  · rw [List.getElem?_eq_none q]; decide
theorem drop_rd {l : List Int} {i : Nat} (h : i < l.length) : l.drop i = rd l (i : Int) :: l.drop (i + 1) := by
  rw [List.drop_eq_getElem_cons h]
  congr 1
  unfold rd
  rw [List.getD_eq_getElem?_getD, show ((i : Int)).toNat = i from by omega, List.getElem?_eq_getElem h]; rfl
theorem szFrom_i {s : Int} (hs : 0 ≤ s ∧ s ≤ 9223372036854775807) : ∀ {l : List Int}, (∀ x ∈ l, I64 x) → 0 ≤ szFrom s l ∧ szFrom s l ≤ 9223372036854775807 := by
  intro l
  induction l generalizing s with
  | nil => intro _; exact hs
  | cons x l ih =>
    intro hx
    have h1 := szV_i (hx x List.mem_cons_self)
    refine ih (s := hold (s + szV x)) ⟨?_, hold_le _⟩ (fun y hy => hx y (List.mem_cons_of_mem _ hy))
    unfold hold; split
    · omega
    · split <;> omega
theorem taps_Size_l0 (l : List Int) (hl : l.length < 4611686018427387904) (hx : ∀ x ∈ l, I64 x) : ∀ (d k i : Nat) (s : Int), i + d = l.length → d + 2 < k → I64 s → taps_Size.l0 k s l (l.length : Int) (i : Int) = some (szFrom s (l.drop i)) := by
  intro d
  induction d with
  | zero =>
    intro k i s h1 h2 hs
    obtain ⟨k, rfl⟩ : ∃ m, k = m + 1 := ⟨k - 1, by omega⟩
    rw [taps_Size.l0, if_neg (by omega), List.drop_of_length_le (by omega)]; rfl
  | succ d ih =>
    intro k i s h1 h2 hs
    obtain ⟨k, rfl⟩ : ∃ m, k = m + 1 := ⟨k - 1, by omega⟩
    have hz := szV_i (rd_i64 hx (i : Int))
    rw [taps_Size.l0, if_pos (by omega), if_pos (by omega), if_pos (by omega), taps_size_eq (by omega) (rd_i64 hx _)]
    simp only [Option.bind_some]
    rw [fixed_Add_eq (by omega) hs (by constructor <;> omega)]
    simp only [Option.bind_some]
    rw [w64_id (show -9223372036854775808 ≤ (i : Int) + 1 from by omega) (by omega), drop_rd (by omega)]
    exact ih k (i + 1) _ (by omega) (by omega) (hold_i _)
theorem taps_Size_eq {k : Nat} {l : List Int} (hk : l.length + 3 ≤ k) (hl : l.length < 4611686018427387904) (hx : ∀ x ∈ l, I64 x) : taps_Size.f k l = some (szFrom 0 l) :=
  taps_Size_l0 l hl hx l.length k 0 0 (by omega) (by omega) (by decide)

theorem ref06_Sizes_l0 (l : List Int) (hl : l.length < 4611686018427387904) (hx : ∀ x ∈ l, I64 x) : ∀ (d k i : Nat) (s : Int), i + d = l.length → d + 2 < k → I64 s → smaltoref06_Sizes.l0 k s l (l.length : Int) (i : Int) = some (szFrom s (l.drop i)) := by
  intro d
  induction d with
  | zero =>
    intro k i s h1 h2 hs
    obtain ⟨k, rfl⟩ : ∃ m, k = m + 1 := ⟨k - 1, by omega⟩
    rw [smaltoref06_Sizes.l0, if_neg (by omega), List.drop_of_length_le (by omega)]; rfl
  | succ d ih =>
    intro k i s h1 h2 hs
    obtain ⟨k, rfl⟩ : ∃ m, k = m + 1 := ⟨k - 1, by omega⟩
    have hz := szV_i (rd_i64 hx (i : Int))
    rw [smaltoref06_Sizes.l0, if_pos (by omega), if_pos (by omega), if_pos (by omega), ref06_Size_eq (rd_i64 hx _)]
    simp only [Option.bind_some]
    rw [ref06_plus_eq (by omega) hs (by constructor <;> omega)]
    simp only [Option.bind_some]
    rw [w64_id (show -9223372036854775808 ≤ (i : Int) + 1 from by omega) (by omega), drop_rd (by omega)]
    exact ih k (i + 1) _ (by omega) (by omega) (hold_i _)
theorem ref06_Sizes_eq {k : Nat} {l : List Int} (hk : l.length + 3 ≤ k) (hl : l.length < 4611686018427387904) (hx : ∀ x ∈ l, I64 x) : smaltoref06_Sizes.f k l = some (szFrom 0 l) :=
  ref06_Sizes_l0 l hl hx l.length k 0 0 (by omega) (by omega) (by decide)

/-- A user's raw weights. -/
def userV (l : List Int) : List Int × Int := if l.length % 2 = 0 ∨ l.length > 1024 ∨ szFrom 0 l < 1 ∨ szFrom 0 l > 1048576 then ([], 7) else ((List.range l.length).map (fun (i : Nat) => hold (rdiv (rd l (i : Int) * 1073741824) (szFrom 0 l))), 0)
theorem taps_User_l0 (l : List Int) (s : Int) (hs : I64 s) (hl : l.length ≤ 1024) (hx : ∀ x ∈ l, I64 x) : ∀ (d k i : Nat), i + d = l.length → d + 60 < k →
    taps_User.l0 k s ((List.range i).map (fun (i : Nat) => hold (rdiv (rd l (i : Int) * 1073741824) s))) l (l.length : Int) (i : Int) = some ((List.range l.length).map (fun (i : Nat) => hold (rdiv (rd l (i : Int) * 1073741824) s)), 0) := by
  intro d
  induction d with
  | zero =>
    intro k i h1 h2
    obtain ⟨k, rfl⟩ : ∃ m, k = m + 1 := ⟨k - 1, by omega⟩
    rw [taps_User.l0, if_neg (by omega), show i = l.length from by omega]
  | succ d ih =>
    intro k i h1 h2
    obtain ⟨k, rfl⟩ : ∃ m, k = m + 1 := ⟨k - 1, by omega⟩
    rw [taps_User.l0, if_pos (by omega), if_pos (by omega), if_pos (by omega), wide_MulDiv_eq (by omega) (rd_i64 hx _) (by decide) hs]
    simp only [Option.bind_some]
    rw [if_pos (by simp; omega), w64_id (by omega) (by omega)]
    have := ih k (i + 1) (by omega) (by omega)
    rw [List.range_succ, List.map_append] at this
    exact this
theorem taps_User_eq {k : Nat} {l : List Int} (hk : l.length + 100 ≤ k) (hl : l.length < 4611686018427387904) (hx : ∀ x ∈ l, I64 x) : taps_User.f k l = some (userV l) := by
  obtain ⟨k, rfl⟩ : ∃ m, k = m + 1 := ⟨k - 1, by omega⟩
  have hz := szFrom_i (s := 0) (by decide) hx
  unfold taps_User.f userV
  rw [taps_Size_eq (by omega) hl hx]
  simp only [Option.bind_some]
  by_cases h1 : (l.length : Int) % 2 = 0
  · rw [if_pos h1, taps_User.j0, if_pos rfl, if_pos (Or.inl (by omega))]
  rw [if_neg h1]
  by_cases h2 : (l.length : Int) > 1024
  · rw [if_pos h2, taps_User.j0, if_pos rfl, if_pos (Or.inr (Or.inl (by omega)))]
  rw [if_neg h2]
  by_cases h3 : szFrom 0 l < 1
  · rw [if_pos h3, taps_User.j0, if_pos rfl, if_pos (Or.inr (Or.inr (Or.inl h3)))]
  rw [if_neg h3, taps_User.j0]
  by_cases h4 : szFrom 0 l > 1048576
  · rw [if_pos (by simpa using h4), if_pos (Or.inr (Or.inr (Or.inr h4)))]
  rw [if_neg (by simpa using h4), if_neg (by omega)]
  exact taps_User_l0 l (szFrom 0 l) (by constructor <;> omega) (by omega) hx l.length k 0 (by omega) (by omega)

theorem ref06_User_l0 (l : List Int) (s : Int) (hs : I64 s) (hl : l.length ≤ 1024) (hx : ∀ x ∈ l, I64 x) : ∀ (d k i : Nat), i + d = l.length → d + 160 < k →
    smaltoref06_User.l0 k s ((List.range i).map (fun (i : Nat) => hold (rdiv (rd l (i : Int) * 1073741824) s))) l (l.length : Int) (i : Int) = some ((List.range l.length).map (fun (i : Nat) => hold (rdiv (rd l (i : Int) * 1073741824) s)), 0) := by
  intro d
  induction d with
  | zero =>
    intro k i h1 h2
    obtain ⟨k, rfl⟩ : ∃ m, k = m + 1 := ⟨k - 1, by omega⟩
    rw [smaltoref06_User.l0, if_neg (by omega), show i = l.length from by omega]
  | succ d ih =>
    intro k i h1 h2
    obtain ⟨k, rfl⟩ : ∃ m, k = m + 1 := ⟨k - 1, by omega⟩
    rw [smaltoref06_User.l0, if_pos (by omega), if_pos (by omega), if_pos (by omega), ref02_MulDiv_eq (by omega) (rd_i64 hx _) (by decide) hs]
    simp only [Option.bind_some]
    rw [if_pos (by simp; omega), w64_id (by omega) (by omega)]
    have := ih k (i + 1) (by omega) (by omega)
    rw [List.range_succ, List.map_append] at this
    exact this
theorem ref06_User_eq {k : Nat} {l : List Int} (hk : l.length + 200 ≤ k) (hl : l.length < 4611686018427387904) (hx : ∀ x ∈ l, I64 x) : smaltoref06_User.f k l = some (userV l) := by
  obtain ⟨k, rfl⟩ : ∃ m, k = m + 1 := ⟨k - 1, by omega⟩
  have hz := szFrom_i (s := 0) (by decide) hx
  unfold smaltoref06_User.f userV
  rw [ref06_Sizes_eq (by omega) hl hx]
  simp only [Option.bind_some]
  by_cases h1 : (l.length : Int) % 2 = 0
  · rw [if_pos h1, smaltoref06_User.j0, if_pos rfl, if_pos (Or.inl (by omega))]
  rw [if_neg h1]
  by_cases h2 : (l.length : Int) > 1024
  · rw [if_pos h2, smaltoref06_User.j0, if_pos rfl, if_pos (Or.inr (Or.inl (by omega)))]
  rw [if_neg h2]
  by_cases h3 : szFrom 0 l = 0
  · rw [if_pos h3, smaltoref06_User.j0, if_pos rfl, if_pos (Or.inr (Or.inr (Or.inl (by omega))))]
  rw [if_neg h3, smaltoref06_User.j0]
  by_cases h4 : szFrom 0 l > 1048576
  · rw [if_pos (by simpa using h4), if_pos (Or.inr (Or.inr (Or.inr h4)))]
  rw [if_neg (by simpa using h4), if_neg (by omega)]
  exact ref06_User_l0 l (szFrom 0 l) (by constructor <;> omega) (by omega) hx l.length k 0 (by omega) (by omega)
theorem userV_len (l : List Int) : (userV l).1.length ≤ l.length := by
  unfold userV; split <;> simp

theorem lives06 {k : Nat} (hk : 400 ≤ k) : smaltolaw06_Lives.f k = some true :=
  at_rounds (fun k => smaltolaw06_Lives.mono k) hk (show smaltolaw06_Lives.f 400 = some true by decide +kernel)

theorem expT_step {r : Int} (h0 : 0 ≤ r) (h1 : r ≤ 1099511627776) : ∀ n : Nat, n ≤ 20 → 0 ≤ expT r n ∧ expT r n ≤ 1099511627776
  | 0, _ => by unfold expT; omega
  | n + 1, hn => by
    obtain ⟨a, b⟩ := expT_step h0 h1 n (by omega)
    have hd : 1099511627776 ≤ ((n : Int) + 1) * 1099511627776 := by omega
    have hp : 0 ≤ expT r n * r := Int.mul_nonneg a h0
    have hq : expT r n * r ≤ expT r n * (((n : Int) + 1) * 1099511627776) := Int.mul_le_mul_of_nonneg_left (by omega) a
    have hk : 0 ≤ rdiv (expT r n * r) (((n : Int) + 1) * 1099511627776) ∧ rdiv (expT r n * r) (((n : Int) + 1) * 1099511627776) ≤ expT r n := by
      generalize ((n : Int) + 1) * 1099511627776 = d at hd hq
      generalize expT r n = T at *
      generalize T * r = P at *
      unfold rdiv
      rw [if_pos (by omega)]
      refine ⟨Int.ediv_nonneg (by omega) (by omega), ?_⟩
      have : (2 * P + d) / (2 * d) < T + 1 := by
        rw [Int.ediv_lt_iff_lt_mul (by omega)]
        have : (T + 1) * (2 * d) = 2 * (T * d) + 2 * d := by rw [Int.add_mul, Int.one_mul, ← Int.mul_assoc, Int.mul_comm T 2, Int.mul_assoc]
        omega
      omega
    rw [expT, hold_id (by omega) (by omega)]; omega
theorem expT_le {r : Int} (h0 : 0 ≤ r) (h1 : r ≤ 1099511627776) (n : Nat) (hn : n ≤ 19) : expT r (n + 1) ≤ expT r n := by
  obtain ⟨a, b⟩ := expT_step h0 h1 n (by omega)
  have hd : 1099511627776 ≤ ((n : Int) + 1) * 1099511627776 := by omega
  have hp : 0 ≤ expT r n * r := Int.mul_nonneg a h0
  have hq : expT r n * r ≤ expT r n * (((n : Int) + 1) * 1099511627776) := Int.mul_le_mul_of_nonneg_left (by omega) a
  have hk : 0 ≤ rdiv (expT r n * r) (((n : Int) + 1) * 1099511627776) ∧ rdiv (expT r n * r) (((n : Int) + 1) * 1099511627776) ≤ expT r n := by
    generalize ((n : Int) + 1) * 1099511627776 = d at hd hq
    generalize expT r n = T at *
    generalize T * r = P at *
    unfold rdiv
    rw [if_pos (by omega)]
    refine ⟨Int.ediv_nonneg (by omega) (by omega), ?_⟩
    have : (2 * P + d) / (2 * d) < T + 1 := by
      rw [Int.ediv_lt_iff_lt_mul (by omega)]
      have : (T + 1) * (2 * d) = 2 * (T * d) + 2 * d := by rw [Int.add_mul, Int.one_mul, ← Int.mul_assoc, Int.mul_comm T 2, Int.mul_assoc]
      omega
    omega
  rw [expT, hold_id (by omega) (by omega)]; exact hk.2
theorem expS_bnd {r : Int} (h0 : 0 ≤ r) (h1 : r ≤ 1099511627776) : ∀ n : Nat, n ≤ 18 → if n % 2 = 0 then expT r n ≤ expS r n ∧ expS r n ≤ 1099511627776 else 0 ≤ expS r n ∧ expS r n + expT r n ≤ 1099511627776
  | 0, _ => by rw [if_pos (by decide)]; unfold expT expS; omega
  | n + 1, hn => by
    have ih := expS_bnd h0 h1 n (by omega)
    have a := expT_step h0 h1 n (by omega)
    have b := expT_step h0 h1 (n + 1) (by omega)
    have c := expT_le h0 h1 n (by omega)
    by_cases e : n % 2 = 0
    · rw [if_pos e] at ih
      rw [if_neg (by omega), expS, if_pos e, w64_id (by omega) (by omega)]; omega
    · rw [if_neg e] at ih
      rw [if_pos (by omega), expS, if_neg e, w64_id (by omega) (by omega)]; omega
theorem sh_pos {x n : Int} (h : 0 ≤ x) : 0 ≤ sh x n ∧ sh x n ≤ x := by
  unfold sh
  split
  · omega
  · have hd : (1 : Int) < 2 ^ n.toNat := by
      have := pow_le (m := 1) (n := n.toNat) (by omega)
      omega
    generalize (2 : Int) ^ n.toNat = d at hd
    unfold rdiv
    rw [if_pos (by omega)]
    refine ⟨Int.ediv_nonneg (by omega) (by omega), ?_⟩
    have : (2 * x + d) / (2 * d) < x + 1 := by
      rw [Int.ediv_lt_iff_lt_mul (by omega)]
      have e : (x + 1) * (2 * d) = 2 * (x * d) + 2 * d := by rw [Int.add_mul, Int.one_mul, ← Int.mul_assoc, Int.mul_comm x 2, Int.mul_assoc]
      have g : x * 1 ≤ x * d := Int.mul_le_mul_of_nonneg_left (by omega) h
      omega
    omega
theorem mem_range_i64' {g : Nat → Int} {n : Nat} (h : ∀ t, t < n → I64 (g t)) : ∀ x ∈ (List.range n).map g, I64 x := by
  intro x hx
  obtain ⟨t, ht, rfl⟩ := List.mem_map.1 hx
  exact h t (List.mem_range.1 ht)
/-- A raw weight of Gauss's. -/
def gV (s d : Int) : Int := sh (expV (ratV d s)) 10
theorem gV_bnd (s d : Int) : 0 ≤ gV s d ∧ gV s d ≤ 1099511627776 := by
  have hr : 0 ≤ mx 0 (ratV d s) % 762123384786 ∧ mx 0 (ratV d s) % 762123384786 ≤ 1099511627776 := by omega
  have hs := expS_bnd hr.1 hr.2 16 (by omega)
  have ht := expT_step hr.1 hr.2 16 (by omega)
  rw [if_pos (by decide)] at hs
  have h1 := sh_pos (x := expS (mx 0 (ratV d s) % 762123384786) 16) (n := mx 0 (ratV d s) / 762123384786) (by omega)
  have h2 := sh_pos (x := expV (ratV d s)) (n := 10) (by unfold expV; exact h1.1)
  unfold gV
  unfold expV at h2 ⊢
  omega
theorem gV_mid {s : Int} (hs : 1 ≤ s ∧ s ≤ 4194304) : gV s 0 = 1073741824 := by
  have e : ratV 0 s = 0 := by
    unfold ratV
    rw [if_neg (by omega)]
    have hp : 0 < s * s := Int.mul_pos (by omega) (by omega)
    unfold rdiv
    rw [if_pos hp, show 2 * (0 * 0 * 2147483648 * 1099511627776) + s * s = s * s from by omega, Int.ediv_eq_zero_of_lt (by omega) (by omega)]
    decide
  unfold gV
  rw [e]; decide +kernel
def gaussL (s : Int) : List Int := (List.range (2 * ((3 * s + 65535) / 65536).toNat + 1)).map fun (t : Nat) => gV s ((t : Int) - (3 * s + 65535) / 65536)
/-- Gauss's raw weights. -/
def gaussV (s : Int) : List Int × Int := if s < 1 ∨ s > 4194304 then ([], 7) else (gaussL s, 0)
theorem gauss_l0 {s : Int} (hs : 1 ≤ s ∧ s ≤ 4194304) (r : Nat) (hr : (r : Int) = (3 * s + 65535) / 65536) : ∀ (d k i : Nat), i + d = 2 * r + 1 → d + 200 < k →
    taps_Gaussian.l0 k s (r : Int) ((List.range i).map fun (t : Nat) => gV s ((t : Int) - (r : Int))) ((i : Int) - (r : Int)) = some ((List.range (2 * r + 1)).map fun (t : Nat) => gV s ((t : Int) - (r : Int)), 0) := by
  intro d
  induction d with
  | zero =>
    intro k i h1 h2
    obtain ⟨k, rfl⟩ : ∃ m, k = m + 1 := ⟨k - 1, by omega⟩
    rw [taps_Gaussian.l0, if_neg (by omega), show i = 2 * r + 1 from by omega]
  | succ d ih =>
    intro k i h1 h2
    obtain ⟨k, rfl⟩ : ∃ m, k = m + 1 := ⟨k - 1, by omega⟩
    rw [taps_Gaussian.l0, if_pos (by omega), expo_Gauss_eq (by omega)]
    simp only [Option.bind_some]
    rw [if_pos (by simp; omega), w64_id (by omega) (by omega)]
    have := ih k (i + 1) (by omega) (by omega)
    rw [List.range_succ, List.map_append, show ((i + 1 : Nat) : Int) - (r : Int) = (i : Int) - (r : Int) + 1 from by omega] at this
    exact this
theorem gauss_eq {k : Nat} (hk : 1000 ≤ k) {s : Int} (hs : I64 s) : taps_Gaussian.f k s = some (gaussV s) := by
  obtain ⟨k, rfl⟩ : ∃ m, k = m + 1 := ⟨k - 1, by omega⟩
  unfold taps_Gaussian.f gaussV
  by_cases h1 : s < 1
  · rw [if_pos h1, taps_Gaussian.j0, if_pos rfl, if_pos (Or.inl h1)]
  rw [if_neg h1, taps_Gaussian.j0]
  by_cases h2 : s > 4194304
  · rw [if_pos (by simpa using h2), if_pos (Or.inr h2)]
  rw [if_neg (by simpa using h2), if_neg (by omega)]
  have e : (wrap64 (wrap64 (wrap64 (3 * s) + 65536) - 1)) / 65536 = (3 * s + 65535) / 65536 := by
    rw [w64_id (show -9223372036854775808 ≤ 3 * s from by omega) (by omega), w64_id (show -9223372036854775808 ≤ 3 * s + 65536 from by omega) (by omega), w64_id (show -9223372036854775808 ≤ 3 * s + 65536 - 1 from by omega) (by omega), show 3 * s + 65536 - 1 = 3 * s + 65535 from by omega]
  obtain ⟨r, hr⟩ : ∃ r : Nat, (r : Int) = (3 * s + 65535) / 65536 := ⟨((3 * s + 65535) / 65536).toNat, by omega⟩
  rw [e, ← hr, w64_id (by omega) (by omega)]
  have := gauss_l0 (s := s) (by omega) r hr (2 * r + 1) k 0 (by omega) (by omega)
  rw [show ((0 : Nat) : Int) - (r : Int) = -(r : Int) from by omega] at this
  unfold gaussL
  rw [← hr, show ((r : Int)).toNat = r from by omega]
  exact this
theorem ref06_gauss_l1 {s : Int} (r : Nat) (hr : r ≤ 200) : ∀ (d k i : Nat), i + d = 2 * r + 1 → d + 70100 < k →
    smaltoref06_Gaussian.l1 k s (r : Int) ((List.range i).map fun (t : Nat) => gV s ((t : Int) - (r : Int))) ((i : Int) - (r : Int)) = some ((List.range (2 * r + 1)).map fun (t : Nat) => gV s ((t : Int) - (r : Int)), 0) := by
  intro d
  induction d with
  | zero =>
    intro k i h1 h2
    obtain ⟨k, rfl⟩ : ∃ m, k = m + 1 := ⟨k - 1, by omega⟩
    rw [smaltoref06_Gaussian.l1, if_neg (by omega), show i = 2 * r + 1 from by omega]
  | succ d ih =>
    intro k i h1 h2
    obtain ⟨k, rfl⟩ : ∃ m, k = m + 1 := ⟨k - 1, by omega⟩
    rw [smaltoref06_Gaussian.l1, if_pos (by omega), ref03_Gauss_eq (by omega)]
    simp only [Option.bind_some]
    rw [if_pos (by simp; omega), w64_id (by omega) (by omega)]
    have := ih k (i + 1) (by omega) (by omega)
    rw [List.range_succ, List.map_append, show ((i + 1 : Nat) : Int) - (r : Int) = (i : Int) - (r : Int) + 1 from by omega] at this
    exact this
theorem ref06_gauss_l0 {s : Int} (hs : 1 ≤ s ∧ s ≤ 4194304) (r : Nat) (hr : (r : Int) = (3 * s + 65535) / 65536) : ∀ (d k i : Nat), i + d = r → d + 71000 < k →
    smaltoref06_Gaussian.l0 k s (i : Int) = some ((List.range (2 * r + 1)).map fun (t : Nat) => gV s ((t : Int) - (r : Int)), 0) := by
  intro d
  induction d with
  | zero =>
    intro k i h1 h2
    obtain ⟨k, rfl⟩ : ∃ m, k = m + 1 := ⟨k - 1, by omega⟩
    rw [smaltoref06_Gaussian.l0, w64_id (by omega) (by omega), w64_id (by omega) (by omega), if_neg (by omega), w64_id (by omega) (by omega)]
    have := ref06_gauss_l1 (s := s) r (by omega) (2 * r + 1) k 0 (by omega) (by omega)
    rw [show ((0 : Nat) : Int) - (r : Int) = -(i : Int) from by omega] at this
    rw [show (i : Int) = (r : Int) from by omega] at this ⊢
    exact this
  | succ d ih =>
    intro k i h1 h2
    obtain ⟨k, rfl⟩ : ∃ m, k = m + 1 := ⟨k - 1, by omega⟩
    rw [smaltoref06_Gaussian.l0, w64_id (by omega) (by omega), w64_id (by omega) (by omega), if_pos (by omega), w64_id (by omega) (by omega)]
    exact ih k (i + 1) (by omega) (by omega)
theorem ref06_gauss_eq {k : Nat} (hk : 72000 ≤ k) {s : Int} (hs : I64 s) : smaltoref06_Gaussian.f k s = some (gaussV s) := by
  obtain ⟨k, rfl⟩ : ∃ m, k = m + 1 := ⟨k - 1, by omega⟩
  unfold smaltoref06_Gaussian.f gaussV
  by_cases h1 : s < 1
  · rw [if_pos h1, smaltoref06_Gaussian.j0, if_pos rfl, if_pos (Or.inl h1)]
  rw [if_neg h1, smaltoref06_Gaussian.j0]
  by_cases h2 : s > 4194304
  · rw [if_pos (by simpa using h2), if_pos (Or.inr h2)]
  rw [if_neg (by simpa using h2), if_neg (by omega)]
  obtain ⟨r, hr⟩ : ∃ r : Nat, (r : Int) = (3 * s + 65535) / 65536 := ⟨((3 * s + 65535) / 65536).toNat, by omega⟩
  have := ref06_gauss_l0 (s := s) (by omega) r hr r k 0 (by omega) (by omega)
  unfold gaussL
  rw [← hr, show ((r : Int)).toNat = r from by omega]
  exact this
/-- A blur's raw weights. -/
def blurV (r : Int) : List Int × Int := if r < 0 ∨ r > 511 then ([], 7) else userV (List.replicate (2 * r + 1).toNat 1)
theorem ones_i64 (n : Nat) : ∀ x ∈ List.replicate n (1 : Int), I64 x := by
  intro x hx; rw [List.eq_of_mem_replicate hx]; decide
theorem blur_eq {k : Nat} (hk : 1400 ≤ k) {r : Int} (hr : I64 r) : taps_Blur.f k r = some (blurV r) := by
  obtain ⟨k, rfl⟩ : ∃ m, k = m + 1 := ⟨k - 1, by omega⟩
  unfold taps_Blur.f blurV
  by_cases h1 : r < 0
  · rw [if_pos h1, taps_Blur.j0, if_pos rfl, if_pos (Or.inl h1)]
  rw [if_neg h1, taps_Blur.j0]
  by_cases h2 : r > 511
  · rw [if_pos (by simpa using h2), if_pos (Or.inr h2)]
  rw [if_neg (by simpa using h2), if_neg (by omega), w64_id (show -9223372036854775808 ≤ 2 * r from by omega) (by omega), w64_id (show -9223372036854775808 ≤ 2 * r + 1 from by omega) (by omega)]
  have e : slices_Repeat_int64_int64.f [1] (2 * r + 1) = some (List.replicate (2 * r + 1).toNat 1) := by
    unfold slices_Repeat_int64_int64.f repF
    rw [if_pos ⟨rfl, by omega, by omega⟩]; rfl
  rw [e]
  simp only [Option.bind_some]
  rw [taps_User_eq (by simp; omega) (by simp; omega) (ones_i64 _)]; rfl
theorem ref06_blur_l0 (n : Nat) (hn : n ≤ 1023) : ∀ (d k i : Nat), i + d = n → d + 1300 < k → smaltoref06_Blur.l0 k (List.replicate i 1) (n : Int) (i : Int) = some (userV (List.replicate n 1)) := by
  intro d
  induction d with
  | zero =>
    intro k i h1 h2
    obtain ⟨k, rfl⟩ : ∃ m, k = m + 1 := ⟨k - 1, by omega⟩
    rw [smaltoref06_Blur.l0, if_neg (by omega), ref06_User_eq (by simp; omega) (by simp; omega) (ones_i64 _), show i = n from by omega]; rfl
  | succ d ih =>
    intro k i h1 h2
    obtain ⟨k, rfl⟩ : ∃ m, k = m + 1 := ⟨k - 1, by omega⟩
    rw [smaltoref06_Blur.l0, if_pos (by omega), if_pos (by simp; omega), w64_id (by omega) (by omega)]
    have := ih k (i + 1) (by omega) (by omega)
    rw [List.replicate_succ'] at this
    exact this
theorem ref06_blur_eq {k : Nat} (hk : 3000 ≤ k) {r : Int} (hr : I64 r) : smaltoref06_Blur.f k r = some (blurV r) := by
  obtain ⟨k, rfl⟩ : ∃ m, k = m + 1 := ⟨k - 1, by omega⟩
  unfold smaltoref06_Blur.f blurV
  by_cases h1 : r < 0
  · rw [if_pos h1, smaltoref06_Blur.j0, if_pos rfl, if_pos (Or.inl h1)]
  rw [if_neg h1, smaltoref06_Blur.j0]
  by_cases h2 : r > 511
  · rw [if_pos (by simpa using h2), if_pos (Or.inr h2)]
  rw [if_neg (by simpa using h2), if_neg (by omega), w64_id (show -9223372036854775808 ≤ 2 * r from by omega) (by omega), w64_id (show -9223372036854775808 ≤ 2 * r + 1 from by omega) (by omega)]
  have := ref06_blur_l0 (2 * r + 1).toNat (by omega) (2 * r + 1).toNat k 0 (by omega) (by omega)
  rw [show (((2 * r + 1).toNat : Nat) : Int) = 2 * r + 1 from by omega] at this
  exact this
theorem psum_cong2 {f g : Nat → Int} : ∀ n, (∀ j, j < n → f j = g j) → psum f n = psum g n
  | 0, _ => rfl
  | n + 1, h => by rw [psum, psum, psum_cong2 n (fun j hj => h j (by omega)), h n (by omega)]
theorem psum_nonneg {f : Nat → Int} : ∀ n : Nat, (∀ j, j < n → 0 ≤ f j) → 0 ≤ psum f n ∧ ∀ j, j < n → f j ≤ psum f n
  | 0, _ => ⟨by simp [psum], fun j h => by omega⟩
  | n + 1, h => by
    obtain ⟨a, b⟩ := psum_nonneg n (fun j hj => h j (by omega))
    have c := h n (by omega)
    refine ⟨by rw [psum]; omega, fun j hj => ?_⟩
    rw [psum]
    by_cases e : j = n
    · subst e; omega
    · have := b j (by omega); omega
/-- Weights that aren't below nought, few and not too great, and enough together, can be apportioned. -/
theorem chk_ok {f : Nat → Int} {n : Nat} (hn : 1 ≤ n ∧ n ≤ 1048576) (hf : ∀ j, j < n → 0 ≤ f j ∧ f j ≤ 1099511627776) (hs : 268435456 ≤ psum f n) : chkV ((List.range n).map f) = 0 := by
  have hlen : ((List.range n).map f).length = n := by simp
  have st := sum_take ((List.range n).map f) (by omega) (fun j hj => by rw [hlen] at hj; rw [rd_range _ hj]; have := hf j hj; omega) n (by omega)
  rw [List.take_of_length_le (by omega), psum_cong2 (g := f) n (fun j hj => rd_range _ hj)] at st
  unfold chkV
  rw [hlen, if_neg, if_neg (by rw [st.1]; omega)]
  rintro (g | g | ⟨x, g1, g2⟩)
  · omega
  · omega
  · obtain ⟨t, ht, rfl⟩ := List.mem_map.1 g1
    have hb := hf t (List.mem_range.1 ht)
    rw [szV_is (by constructor <;> omega)] at g2
    split at g2
    · omega
    · split at g2 <;> omega
theorem gauss_chk {s : Int} (hs : 1 ≤ s ∧ s ≤ 4194304) : chkV (gaussL s) = 0 := by
  unfold gaussL
  obtain ⟨r, hr⟩ : ∃ r : Nat, (r : Int) = (3 * s + 65535) / 65536 := ⟨((3 * s + 65535) / 65536).toNat, by omega⟩
  rw [← hr, show ((r : Int)).toNat = r from by omega]
  have hp := psum_nonneg (f := fun (t : Nat) => gV s ((t : Int) - (r : Int))) (2 * r + 1) (fun j _ => (gV_bnd _ _).1)
  have hm := hp.2 r (by omega)
  rw [show (r : Int) - (r : Int) = 0 from by omega, gV_mid hs] at hm
  exact chk_ok (by omega) (fun j _ => gV_bnd _ _) (by omega)
theorem psum_const (c : Int) : ∀ n : Nat, psum (fun _ => c) n = n * c
  | 0 => by simp [psum]
  | n + 1 => by rw [psum, psum_const c n, show ((n + 1 : Nat) : Int) = (n : Int) + 1 from by omega, Int.add_mul, Int.one_mul]
theorem szFrom_ones : ∀ n : Nat, n ≤ 2000 → szFrom 0 (List.replicate n 1) = n
  | 0, _ => by simp [szFrom]
  | n + 1, h => by
    have ih := szFrom_ones n (by omega)
    rw [List.replicate_succ']
    unfold szFrom at ih ⊢
    rw [List.foldl_append, ih]
    show hold ((n : Int) + szV 1) = _
    rw [szV_is (by decide), if_pos (by decide), hold_id (by omega) (by omega)]; omega
theorem blur_chk {r : Int} (hr : 0 ≤ r ∧ r ≤ 511) : (blurV r).2 = 0 ∧ chkV (blurV r).1 = 0 ∧ (∀ x ∈ (blurV r).1, I64 x) := by
  obtain ⟨n, hn⟩ : ∃ n : Nat, (n : Int) = 2 * r + 1 := ⟨(2 * r + 1).toNat, by omega⟩
  have e : blurV r = ((List.range n).map (fun (i : Nat) => hold (rdiv (rd (List.replicate n (1 : Int)) (i : Int) * 1073741824) (n : Int))), 0) := by
    unfold blurV
    rw [if_neg (by omega), show (2 * r + 1).toNat = n from by omega]
    unfold userV
    rw [szFrom_ones n (by omega), List.length_replicate, if_neg (by omega)]
  have hv : ∀ i, i < n → hold (rdiv (rd (List.replicate n (1 : Int)) (i : Int) * 1073741824) (n : Int)) = (2 * 1073741824 + (n : Int)) / (2 * n) := by
    intro i hi
    have e1 : rd (List.replicate n (1 : Int)) (i : Int) = 1 := by
      unfold rd
      rw [List.getD_eq_getElem?_getD, show ((i : Int)).toNat = i from by omega, List.getElem?_replicate, if_pos hi]; rfl
    rw [e1]
    unfold rdiv
    rw [if_pos (by omega), show 2 * (1 * 1073741824) + (n : Int) = 2 * 1073741824 + (n : Int) from by omega]
    have h1 : 0 ≤ (2 * 1073741824 + (n : Int)) / (2 * n) := Int.ediv_nonneg (by omega) (by omega)
    have h2 : (2 * 1073741824 + (n : Int)) / (2 * n) < 1099511627776 := by rw [Int.ediv_lt_iff_lt_mul (by omega)]; omega
    rw [hold_id (by omega) (by omega)]
  obtain ⟨c, hc⟩ : ∃ c, c = (2 * 1073741824 + (n : Int)) / (2 * n) := ⟨_, rfl⟩
  have hc1 : 0 ≤ c := by rw [hc]; exact Int.ediv_nonneg (by omega) (by omega)
  have hc2 : c < 1099511627776 := by rw [hc, Int.ediv_lt_iff_lt_mul (by omega)]; omega
  have hc3 : 268435456 ≤ (n : Int) * c := by
    have e1 := Int.mul_ediv_add_emod (2 * 1073741824 + (n : Int)) (2 * n)
    have r1 := Int.emod_lt_of_pos (2 * 1073741824 + (n : Int)) (show 0 < 2 * (n : Int) by omega)
    rw [← hc] at e1
    have : 2 * (n : Int) * c = 2 * ((n : Int) * c) := Int.mul_assoc _ _ _
    omega
  rw [e]
  refine ⟨rfl, chk_ok (by omega) (fun j hj => by rw [hv j hj, ← hc]; omega) ?_, ?_⟩
  · rw [psum_cong2 (g := fun _ => c) n (fun j hj => by rw [hv j hj, hc]), psum_const]; exact hc3
  · exact mem_range_i64' (fun t ht => by rw [hv t ht, ← hc]; constructor <;> omega)
theorem made_j1 {s r : Int} (hs : I64 s) (hr : I64 r) {k : Nat} (hk : 72010 ≤ k) : smaltolaw06_TapsMade.j1 k s r = some true := by
  obtain ⟨k, rfl⟩ : ∃ m, k = m + 2 := ⟨k - 2, by omega⟩
  rw [smaltolaw06_TapsMade.j1, gauss_eq (by omega) hs, ref06_gauss_eq (by omega) hs, blur_eq (by omega) hr, ref06_blur_eq (by omega) hr]
  simp only [Option.bind_some]
  have l1 : (gaussV s).1.length ≤ 1000 := by
    unfold gaussV gaussL; split
    · simp
    · simp; omega
  have l2 : (blurV r).1.length ≤ 2000 := by
    unfold blurV; split
    · simp
    · refine Nat.le_trans (userV_len _) ?_; simp; omega
  rw [same_refl _ (by omega) (by omega), same_refl _ (by omega) (by omega)]
  simp only [Option.bind_some, if_true]
  rw [smaltolaw06_TapsMade.j2, if_neg (by simp)]
  have g64 : ∀ x ∈ (gaussV s).1, I64 x := by
    unfold gaussV gaussL; split
    · intro x hx; simp at hx
    · exact mem_range_i64' (fun t _ => by have := gV_bnd s ((t : Int) - (3 * s + 65535) / 65536); constructor <;> omega)
  have b64 : ∀ x ∈ (blurV r).1, I64 x := by
    by_cases c : 0 ≤ r ∧ r ≤ 511
    · exact (blur_chk c).2.2
    · unfold blurV; rw [if_pos (by omega)]; intro x hx; simp at hx
  have ha : taps_Apportion.f (gaussV s).1 = some (if chkV (gaussV s).1 = 0 then (appL (gaussV s).1, 0) else ([], chkV (gaussV s).1)) := by
    unfold taps_Apportion.f appF; rw [if_pos g64]
  have hb : taps_Apportion.f (blurV r).1 = some (if chkV (blurV r).1 = 0 then (appL (blurV r).1, 0) else ([], chkV (blurV r).1)) := by
    unfold taps_Apportion.f appF; rw [if_pos b64]
  rw [ha, hb]
  simp only [Option.bind_some]
  have hg : (gaussV s).2 = 0 → chkV (gaussV s).1 = 0 := by
    unfold gaussV
    by_cases c : s < 1 ∨ s > 4194304
    · rw [if_pos c]; intro h; simp at h
    · rw [if_neg c]; intro _; exact gauss_chk (by omega)
  have hbb : (blurV r).2 = 0 → chkV (blurV r).1 = 0 := by
    intro h
    by_cases c : 0 ≤ r ∧ r ≤ 511
    · exact (blur_chk c).2.1
    · unfold blurV at h; rw [if_pos (by omega)] at h; simp at h
  by_cases c1 : (gaussV s).2 = 0
  · rw [if_pos c1, if_pos (hg c1), if_pos rfl]
    by_cases c2 : (blurV r).2 = 0
    · rw [if_pos c2, if_pos (hbb c2)]; rfl
    · rw [if_neg c2]
  · rw [if_neg c1]
    by_cases c2 : (blurV r).2 = 0
    · rw [if_pos c2, if_pos (hbb c2)]; rfl
    · rw [if_neg c2]
theorem TapsMade_pure : smaltolaw06_TapsMade.Pure := by
  intro s r hs hr
  have hs := wf64 hs
  have hr := wf64 hr
  refine ⟨72012, ?_⟩
  unfold smaltolaw06_TapsMade.f
  rw [lives06 (by omega)]
  simp only [Option.bind_some, if_true]
  have q : ∀ b, smaltolaw06_TapsMade.j0 72012 s r b = some true := by
    intro b
    rw [smaltolaw06_TapsMade.j0]
    cases b with
    | true => rw [if_pos rfl]; exact made_j1 (by constructor <;> omega) hr (by omega)
    | false => rw [if_neg (by decide)]; exact made_j1 hs hr (by omega)
  split <;> exact q _

end Go.Proofs.Ytabojpnelbmifaa.QM
