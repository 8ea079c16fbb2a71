/- Joined by wip/tools/bundle.py out of: TR TY. -/
import Derived.Test.YtebipmdopdogkaaGreatDoorBOpMakes1
import Derived.Test.YtebipmdopdogkaaGreatDoorBOpMakes4
import Derived.Test.YtebipmdopdogkaaGreatDoorBOpMakes7
import Derived.Test.YtebipmdopdogkaaGreatDoorBOpMakes8
import Derived.Test.YtebipmdopdogkaaGreatDoorBOpMakes9
import Derived.Test.YtebipmdopdogkaaGreatDoorBOpMakes10
import Derived.Handy
import Derived.Lib.SliceRun
import Derived.Test.YtebipmdopdogkaaGreatDoorBOpMakes0
import Derived.Test.YtebipmdopdogkaaGreatDoorBOpMakes3
import Derived.Test.YtebipmdopdogkaaGreatDoorBOpMakes6
import Derived.Test.YtebipmdopdogkaaGreatDoorBOpMakes5
namespace Go.Proofs.YtebipmdopdogkaaGreatDoor.QA
open Go.RowKit Go.Proofs.YtebipmdopdogkaaGreatDoorW.PrintWords Go.Proofs.YtebipmdopdogkaaGreatDoorW.PrintLast Go.Proofs.YtebipmdopdogkaaGreatDoorW.PrintMore Go.Proofs.YtebipmdopdogkaaGreatDoor.T
set_option linter.unusedVariables false
set_option linter.unusedSimpArgs false
theorem ref01_Size_eq {a : Int} (ha : I64 a) : smaltoref01_Size.f a = some (siz a) := by
  unfold smaltoref01_Size.f siz wrap64
  simp only [u64w]
  split
  · congr 1; omega
  · congr 1; omega
theorem ref01_Hold_eq {k : Nat} (hk : 1 ≤ k) {h l : Int} (hh : U64 h) (hl : U64 l) (b : Bool) : smaltoref01_Hold.f k h l b = some (hold (sgn b (h * 18446744073709551616 + l))) := by
  obtain ⟨k, rfl⟩ : ∃ n, k = n + 1 := ⟨k - 1, by omega⟩
  unfold smaltoref01_Hold.f sgn hold
  cases b
  · simp only [Bool.false_eq_true, if_false]
    rw [if_neg (show ¬ h * 18446744073709551616 + l < -9223372036854775808 from by omega)]
    by_cases c : h > 0
    · rw [if_pos c, if_pos (by omega)]
    · rw [if_neg c]
      by_cases d : l > 9223372036854775807
      · rw [if_pos d, if_pos (by omega)]
      · rw [if_neg d, if_neg (by omega)]; congr 1; unfold wrap64; omega
  · simp only [if_true]
    simp only [smaltoref01_Hold.j0]
    by_cases c : h > 0
    · rw [if_pos c, if_pos trivial, if_pos (by omega)]
    · rw [if_neg c]
      by_cases d : l > 9223372036854775807
      · rw [if_pos (decide_eq_true d)]
        by_cases e : l = 9223372036854775808
        · rw [if_neg (by omega), if_neg (by omega)]; congr 1; omega
        · rw [if_pos (by omega)]
      · rw [if_neg (by simpa using d), if_neg (by omega), if_neg (by omega)]; congr 1; unfold wrap64; omega
theorem ref01_Plus_eq {a b c d : Int} (_ha : U64 a) (hb : U64 b) (_hc : U64 c) (hd : U64 d) :
    smaltoref01_Plus.f a b c d = some ((a + c + (b + d) / 18446744073709551616) % 18446744073709551616, (b + d) % 18446744073709551616) := by
  unfold smaltoref01_Plus.f
  simp only [u64w]
  split
  · congr 2; omega
  · congr 2; omega
theorem ref01_Minus_eq {a b c d : Int} (_ha : U64 a) (hb : U64 b) (_hc : U64 c) (hd : U64 d) :
    smaltoref01_Minus.f a b c d = some ((a - c + (b - d) / 18446744073709551616) % 18446744073709551616, (b - d) % 18446744073709551616) := by
  unfold smaltoref01_Minus.f
  simp only [u64w]
  split
  · congr 2; omega
  · congr 2; omega
theorem ref01_Twice_eq {a b c : Int} (_ha : U64 a) (_hb : U64 b) (_hc : 0 ≤ c ∧ c ≤ 1) :
    smaltoref01_Twice.f a b c = some ((2 * a + b / 9223372036854775808) % 18446744073709551616, (2 * b + c) % 18446744073709551616) := by
  unfold smaltoref01_Twice.f
  simp only [u64w]
  congr 2 <;> omega
theorem ref01_Less_eq {a b c d : Int} (_ha : U64 a) (hb : U64 b) (_hc : U64 c) (hd : U64 d) :
    smaltoref01_Less.f a b c d = some (decide (a * 18446744073709551616 + b < c * 18446744073709551616 + d)) := by
  unfold smaltoref01_Less.f
  split
  · congr 1; exact decide_eq_decide.2 (by omega)
  · congr 1; exact decide_eq_decide.2 (by omega)
theorem ref01_Bit_eq {a b : Int} (ha : U64 a) (hb : U64 b) (i : Nat) (hi : i < 128) :
    smaltoref01_Bit.f a b i = some ((a * 18446744073709551616 + b) / 2 ^ i % 2) := by
  have e64 : (18446744073709551616 : Int) = 2 ^ 64 := by decide
  unfold smaltoref01_Bit.f
  by_cases h : (i : Int) ≥ 64
  · rw [if_pos h, w64_id (show -9223372036854775808 ≤ (i : Int) - 64 from by omega) (by omega), if_pos (by omega), u64and1]
    unfold shr
    simp only [IntKind.bits]
    rw [show ((i : Int) - 64).toNat = i - 64 from by omega, Nat.min_eq_left (by omega)]
    congr 2
    have : (2 : Int) ^ i = 2 ^ 64 * 2 ^ (i - 64) := by rw [← Int.pow_add]; congr 1; omega
    rw [this, ← Int.ediv_ediv_of_nonneg (by decide), ← e64]
    congr 1; omega
  · rw [if_neg h, if_pos (by omega), u64and1]
    unfold shr
    simp only [IntKind.bits]
    rw [show ((i : Int)).toNat = i from by omega, Nat.min_eq_left (by omega)]
    congr 1
    have : (18446744073709551616 : Int) = 2 ^ i * (2 * 2 ^ (63 - i)) := by
      rw [e64, ← pow_succ2, ← Int.pow_add]; congr 1; omega
    rw [this, Int.mul_left_comm, Int.add_comm, Int.add_mul_ediv_left _ _ (by have := pow_pos i; omega), Int.mul_left_comm, Int.add_comm, Int.mul_add_emod_self_left]
theorem ref01_Times_l0 {a b : Int} (ha : U64 a) (hb : U64 b) : ∀ (n : Nat) (k : Nat) (h l : Int), n ≤ 64 → n < k → U64 h → U64 l → h * 18446744073709551616 + l = a * (b / 2 ^ n) →
    smaltoref01_Times.l0 k a b ((n : Int) - 1) h l = some (a * b / 18446744073709551616, a * b % 18446744073709551616) := by
  intro n
  induction n with
  | zero =>
    intro k h l _ hk hh hl he
    obtain ⟨k, rfl⟩ : ∃ n, k = n + 1 := ⟨k - 1, by omega⟩
    unfold smaltoref01_Times.l0
    rw [if_neg (by omega)]
    rw [Int.pow_zero, Int.ediv_one] at he
    rw [← he]
    congr 2 <;> omega
  | succ n ih =>
    intro k h l hn hk hh hl he
    obtain ⟨k, rfl⟩ : ∃ n, k = n + 1 := ⟨k - 1, by omega⟩
    unfold smaltoref01_Times.l0
    rw [show ((n + 1 : Nat) : Int) - 1 = n from by omega, if_pos (by omega), ref01_Twice_eq hh hl (by omega)]
    simp only [Option.bind_some]
    rw [if_pos (by omega), u64and1]
    have hs : shr .u64 b n = b / 2 ^ n := by
      unfold shr
      simp only [IntKind.bits]
      rw [show ((n : Int)).toNat = n from by omega, Nat.min_eq_left (by omega)]
    rw [hs, w64_id (by omega) (by omega)]
    have hh2 := half_pow b n
    have hpn := pow_pos n
    have bl : b / 2 ^ n ≤ b := Int.ediv_le_self _ hb.1
    have b0 : 0 ≤ b / 2 ^ n := Int.ediv_nonneg hb.1 (by omega)
    have m1 : a * (b / 2 ^ n) ≤ 18446744073709551615 * 18446744073709551615 := Int.mul_le_mul (by omega) (by omega) b0 (by decide)
    by_cases hbit : b / 2 ^ n % 2 = 1
    · rw [if_pos hbit, ref01_Plus_eq (by omega) (by omega) (by omega) ha]
      simp only [Option.bind_some]
      have e1 : a * (b / 2 ^ n) = 2 * (a * (b / 2 ^ (n + 1))) + a := by
        rw [hh2, hbit, Int.mul_add, Int.mul_left_comm, Int.mul_one]
      rw [e1] at m1
      refine ih k _ _ (by omega) (by omega) (by omega) (by omega) ?_
      rw [e1]
      generalize a * (b / 2 ^ (n + 1)) = p at *
      omega
    · rw [if_neg hbit]
      have e1 : a * (b / 2 ^ n) = 2 * (a * (b / 2 ^ (n + 1))) := by
        rw [hh2, show b / 2 ^ n % 2 = 0 from by omega, Int.add_zero, Int.mul_left_comm]
      rw [e1] at m1
      refine ih k _ _ (by omega) (by omega) (by omega) (by omega) ?_
      rw [e1]
      generalize a * (b / 2 ^ (n + 1)) = p at *
      omega
theorem ref01_Times_eq {k : Nat} (hk : 65 ≤ k) {a b : Int} (ha : U64 a) (hb : U64 b) :
    smaltoref01_Times.f k a b = some (a * b / 18446744073709551616, a * b % 18446744073709551616) := by
  unfold smaltoref01_Times.f
  refine ref01_Times_l0 ha hb 64 k 0 0 (by omega) (by omega) (by omega) (by omega) ?_
  rw [Int.ediv_eq_zero_of_lt hb.1 (by have : (2 : Int) ^ 64 = 18446744073709551616 := by decide
                                      omega)]
  omega
theorem ref01_Over_l0 {d ah al : Int} (hd : 0 < d ∧ d < 18446744073709551616) (hah : U64 ah) (hal : U64 al) : ∀ (n : Nat) (k : Nat) (qh ql rh rl : Int), n ≤ 128 → n < k → U64 qh → U64 ql → U64 rh → U64 rl →
    rh * 18446744073709551616 + rl < d → (qh * 18446744073709551616 + ql) * d + (rh * 18446744073709551616 + rl) = (ah * 18446744073709551616 + al) / 2 ^ n →
    smaltoref01_Over.l0 k d ((n : Int) - 1) ah al qh ql rh rl =
      some ((ah * 18446744073709551616 + al) / d / 18446744073709551616, (ah * 18446744073709551616 + al) / d % 18446744073709551616, (ah * 18446744073709551616 + al) % d) := by
  intro n
  generalize hA : ah * 18446744073709551616 + al = A
  induction n with
  | zero =>
    intro k qh ql rh rl _ hk hqh hql hrh hrl hr he
    obtain ⟨k, rfl⟩ : ∃ n, k = n + 1 := ⟨k - 1, by omega⟩
    unfold smaltoref01_Over.l0
    rw [if_neg (by omega)]
    rw [Int.pow_zero, Int.ediv_one] at he
    obtain ⟨u1, u2⟩ := div_unique he (by omega) hr
    rw [u1, u2]
    congr 2
    · omega
    · congr 1 <;> omega
  | succ n ih =>
    intro k qh ql rh rl hn hk hqh hql hrh hrl hr he
    obtain ⟨k, rfl⟩ : ∃ n, k = n + 1 := ⟨k - 1, by omega⟩
    unfold smaltoref01_Over.l0
    rw [show ((n + 1 : Nat) : Int) - 1 = n from by omega, if_pos (by omega), ref01_Bit_eq hah hal n (by omega), hA]
    simp only [Option.bind_some]
    have hh2 := half_pow A n
    have hpn := pow_pos n
    have A0 : 0 ≤ A := by omega
    have al1 : A / 2 ^ n ≤ A := Int.ediv_le_self _ A0
    generalize hbit : A / 2 ^ n % 2 = bit at *
    have hb : 0 ≤ bit ∧ bit ≤ 1 := by omega
    rw [ref01_Twice_eq hrh hrl hb, ref01_Twice_eq hqh hql (by omega)]
    simp only [Option.bind_some]
    rw [ref01_Less_eq (by omega) (by omega) (by omega) (by omega)]
    simp only [Option.bind_some]
    rw [w64_id (by omega) (by omega)]
    have q0 : 0 ≤ qh * 18446744073709551616 + ql := by omega
    have qd : qh * 18446744073709551616 + ql ≤ (qh * 18446744073709551616 + ql) * d := by
      calc qh * 18446744073709551616 + ql = (qh * 18446744073709551616 + ql) * 1 := by rw [Int.mul_one]
        _ ≤ _ := Int.mul_le_mul_of_nonneg_left (by omega) q0
    generalize hQ : qh * 18446744073709551616 + ql = Q at *
    have e2 : (2 * Q) * d = 2 * (Q * d) := Int.mul_assoc _ _ _
    have e3 : (2 * Q + 1) * d = 2 * (Q * d) + d := by rw [Int.add_mul, e2, Int.one_mul]
    generalize hP : Q * d = P at *
    by_cases hl : 2 * (rh * 18446744073709551616 + rl) + bit < d
    · rw [if_pos (decide_eq_true (by omega))]
      refine ih k _ _ _ _ (by omega) (by omega) (by omega) (by omega) (by omega) (by omega) (by omega) ?_
      rw [show (2 * qh + ql / 9223372036854775808) % 18446744073709551616 * 18446744073709551616 + (2 * ql + 0) % 18446744073709551616 = 2 * Q from by omega, e2]
      omega
    · rw [if_neg (by simp; omega), ref01_Minus_eq (by omega) (by omega) (by omega) (by omega)]
      simp only [Option.bind_some, u64w]
      refine ih k _ _ _ _ (by omega) (by omega) (by omega) (by omega) (by omega) (by omega) (by omega) ?_
      rw [show (2 * qh + ql / 9223372036854775808) % 18446744073709551616 * 18446744073709551616 + ((2 * ql + 0) % 18446744073709551616 + 1) % 18446744073709551616 = 2 * Q + 1 from by omega, e3]
      omega
theorem ref01_Over_eq {k : Nat} (hk : 129 ≤ k) {d ah al : Int} (hd : 0 < d ∧ d < 18446744073709551616) (hah : U64 ah) (hal : U64 al) :
    smaltoref01_Over.f k ah al d = some ((ah * 18446744073709551616 + al) / d / 18446744073709551616, (ah * 18446744073709551616 + al) / d % 18446744073709551616, (ah * 18446744073709551616 + al) % d) := by
  unfold smaltoref01_Over.f
  rw [if_neg (by omega)]
  refine ref01_Over_l0 hd hah hal 128 k 0 0 0 0 (by omega) (by omega) (by omega) (by omega) (by omega) (by omega) (by omega) ?_
  rw [Int.ediv_eq_zero_of_lt (by omega) (by have : (2 : Int) ^ 128 = 340282366920938463463374607431768211456 := by decide
                                            omega)]
  omega
theorem ref01_Nearest_eq {k : Nat} (hk : 129 ≤ k) {d ah al : Int} (hd : 0 < d ∧ d < 18446744073709551616) (hah : U64 ah) (hal : U64 al) (s : Bool) :
    smaltoref01_Nearest.f k ah al d s = some (hold (rdiv (sgn s (ah * 18446744073709551616 + al)) d)) := by
  unfold smaltoref01_Nearest.f
  rw [ref01_Over_eq hk hd hah hal]
  simp only [Option.bind_some]
  generalize hA : ah * 18446744073709551616 + al = A
  have A0 : 0 ≤ A := by omega
  have r0 := Int.emod_nonneg A (show d ≠ 0 from by omega)
  have r1 := Int.emod_lt_of_pos A hd.1
  have q0 : 0 ≤ A / d := Int.ediv_nonneg A0 (by omega)
  have q1 : A / d ≤ A := Int.ediv_le_self _ A0
  have q2 : 2 ≤ d → 2 * (A / d) ≤ A := by
    intro h2
    have := Int.mul_ediv_add_emod A d
    have h3 : 2 * (A / d) ≤ d * (A / d) := Int.mul_le_mul_of_nonneg_right h2 q0
    omega
  rw [rdiv_sgn s A0 hd.1]
  generalize A / d = q at *
  generalize A % d = r at *
  rw [ref01_Twice_eq (by omega) (by omega) (by omega)]
  simp only [Option.bind_some]
  rw [ref01_Less_eq (by omega) (by omega) (by omega) (by omega), ref01_Less_eq (by omega) (by omega) (by omega) (by omega)]
  simp only [Option.bind_some]
  obtain ⟨k, rfl⟩ : ∃ n, k = n + 1 := ⟨k - 1, by omega⟩
  simp only [smaltoref01_Nearest.j0]
  cases s
  · simp only [Bool.false_eq_true, if_false]
    by_cases c : r ≥ d - r
    · rw [if_pos (by simp; omega), if_pos c, ref01_Plus_eq (by omega) (by omega) (by omega) (by omega)]
      simp only [Option.bind_some]
      rw [ref01_Hold_eq (by omega) (by omega) (by omega)]
      simp only [Option.bind_some]
      congr 3; omega
    · rw [if_neg (by simp; omega), if_neg c, ref01_Hold_eq (by omega) (by omega) (by omega)]
      simp only [Option.bind_some]
      congr 3; omega
  · simp only [if_true]
    by_cases c : r > d - r
    · rw [if_pos (decide_eq_true (by omega)), if_pos c, ref01_Plus_eq (by omega) (by omega) (by omega) (by omega)]
      simp only [Option.bind_some]
      rw [ref01_Hold_eq (by omega) (by omega) (by omega)]
      simp only [Option.bind_some]
      congr 3; omega
    · rw [if_neg (by simp; omega), if_neg c, ref01_Hold_eq (by omega) (by omega) (by omega)]
      simp only [Option.bind_some]
      congr 3; omega
theorem ref01_Floor_eq {k : Nat} (hk : 129 ≤ k) {a b : Int} (ha : I64 a) (hb : I64 b) : smaltoref01_Floor.f k a b = some (hold (flo a b)) := by
  unfold smaltoref01_Floor.f
  by_cases hb0 : b = 0
  · rw [if_pos hb0, hb0]; simp [flo, hold]
  have ua := siz_u ha
  have ub := siz_u hb
  have ub0 : siz b ≠ 0 := fun h => hb0 (siz_zero.1 h)
  rw [if_neg hb0, ref01_Size_eq ha, ref01_Size_eq hb]
  simp only [Option.bind_some]
  rw [ref01_Over_eq hk (by omega) (by omega) (by omega)]
  simp only [Option.bind_some]
  have e := flo_xor (decide (a < 0)) b (siz a) hb0
  rw [sgn_siz a, flo_sgn _ (by omega)] at e
  rw [← e]
  generalize (decide (a < 0) != decide (b < 0)) = s
  rw [show 0 * 18446744073709551616 + siz a = siz a from by omega]
  have q0 : 0 ≤ siz a / siz b := Int.ediv_nonneg ua.1 ub.1
  have q1 : siz a / siz b ≤ siz a := Int.ediv_le_self _ ua.1
  have r0 := Int.emod_nonneg (siz a) ub0
  generalize siz a / siz b = q at *
  generalize siz a % siz b = r at *
  obtain ⟨k, rfl⟩ : ∃ n, k = n + 1 := ⟨k - 1, by omega⟩
  simp only [smaltoref01_Floor.j0]
  cases s
  · simp only [Bool.false_eq_true, if_false, false_and]
    rw [ref01_Hold_eq (by omega) (by omega) (by omega)]
    simp only [Option.bind_some]
    congr 3; omega
  · simp only [if_true, true_and]
    by_cases c : r = 0
    · rw [if_neg (by simp; omega), if_neg (by simpa using c), ref01_Hold_eq (by omega) (by omega) (by omega)]
      simp only [Option.bind_some]
      congr 3; omega
    · rw [if_pos (by simp; omega), if_pos c, ref01_Plus_eq (by omega) (by omega) (by omega) (by omega)]
      simp only [Option.bind_some]
      rw [ref01_Hold_eq (by omega) (by omega) (by omega)]
      simp only [Option.bind_some]
      congr 3; omega
theorem pow_mul_succ (a : Int) (i : Nat) : a / 2 ^ i * 2 ^ i = a / 2 ^ (i + 1) * 2 ^ (i + 1) + a / 2 ^ i % 2 * 2 ^ i := by
  have h := half_pow a i
  rw [pow_succ2] at h
  rw [pow_succ2, Int.mul_left_comm, ← Int.mul_assoc, ← Int.add_mul]
  congr 1
theorem ref01_Shift_l3 (x sh sl mh ml qh ql rh rl : Int) (i : Nat) (hi : i ≤ 127) (hrh : U64 rh) (hrl : U64 rl) (hr : 2 ^ i ≤ rh * 18446744073709551616 + rl) : ∀ (d k j : Nat) (ph pl : Int), j + d = i → d < k → U64 ph → U64 pl →
    ph * 18446744073709551616 + pl = 2 ^ j →
    ∃ rh' rl' : Int, U64 rh' ∧ U64 rl' ∧ rh' * 18446744073709551616 + rl' = rh * 18446744073709551616 + rl - 2 ^ i ∧
    smaltoref01_Shift.l3 k x (i : Int) (i : Int) (j : Int) sh sl mh ml qh ql rh rl ph pl = smaltoref01_Shift.l2 (k - d - 1) x ((i + 1 : Nat) : Int) sh sl mh ml qh ql rh' rl' := by
  have hb : (2 : Int) ^ i ≤ 170141183460469231731687303715884105728 := by
    calc (2 : Int) ^ i ≤ 2 ^ 127 := pow_le hi
      _ = _ := by decide
  intro d
  induction d with
  | zero =>
    intro k j ph pl hj hk hph hpl he
    obtain ⟨k, rfl⟩ : ∃ m, k = m + 1 := ⟨k - 1, by omega⟩
    rw [smaltoref01_Shift.l3, if_neg (by omega), ref01_Minus_eq hrh hrl hph hpl]
    simp only [Option.bind_some]
    obtain rfl : j = i := by omega
    rw [w64_id (by omega) (by omega)]
    have hp := pow_pos j
    generalize (2 : Int) ^ j = p at *
    exact ⟨_, _, by omega, by omega, by omega, rfl⟩
  | succ d ih =>
    intro k j ph pl hj hk hph hpl he
    obtain ⟨k, rfl⟩ : ∃ m, k = m + 1 := ⟨k - 1, by omega⟩
    rw [smaltoref01_Shift.l3, if_pos (by omega), ref01_Twice_eq hph hpl (by omega)]
    simp only [Option.bind_some]
    rw [w64_id (by omega) (by omega), show ((j : Int) + 1) = ((j + 1 : Nat) : Int) from by omega]
    have hp := pow_pos j
    have hp2 : (2 : Int) ^ (j + 1) ≤ 2 ^ i := pow_le (by omega)
    rw [pow_succ2] at hp2
    obtain ⟨r1, r2, a1, a2, a3, a4⟩ := ih k (j + 1) _ _ (by omega) (by omega) (show U64 ((2 * ph + pl / 9223372036854775808) % 18446744073709551616) from by omega) (show U64 ((2 * pl + 0) % 18446744073709551616) from by omega) (by
      rw [pow_succ2]; generalize (2 : Int) ^ j = p at *; omega)
    refine ⟨r1, r2, a1, a2, a3, ?_⟩
    rw [a4, show k + 1 - (d + 1) - 1 = k - d - 1 from by omega]
theorem ref01_Shift_j4 {k : Nat} (hk : 2 ≤ k) (x : Int) (u : Bool) {qh ql : Int} (hqh : U64 qh) (hql : U64 ql) (hq : qh * 18446744073709551616 + ql < 340282366920938463463374607431768211455) :
    smaltoref01_Shift.j4 k x u qh ql = some (hold (sgn (decide (x < 0)) (qh * 18446744073709551616 + ql + if u = true then 1 else 0))) := by
  obtain ⟨k, rfl⟩ : ∃ m, k = m + 1 := ⟨k - 1, by omega⟩
  rw [smaltoref01_Shift.j4]
  cases u
  · rw [if_neg (by decide), if_neg (by decide), ref01_Hold_eq (by omega) hqh hql]
    simp only [Option.bind_some]; congr 3; omega
  · rw [if_pos rfl, if_pos rfl, ref01_Plus_eq hqh hql (by omega) (by omega)]
    simp only [Option.bind_some]
    rw [ref01_Hold_eq (by omega) (by omega) (by omega)]
    simp only [Option.bind_some]; congr 3; omega
theorem ref01_Shift_l2 (x sh sl mh ml qh ql : Int) (n : Nat) (hsh : U64 sh) (hsl : U64 sl) (hmh : U64 mh) (hml : U64 ml) (hqh : U64 qh) (hql : U64 ql)
    (hq : qh * 18446744073709551616 + ql < 340282366920938463463374607431768211455) (R : Int) (hR : (mh * 18446744073709551616 + ml) % 2 ^ n = R) : ∀ (d k i : Nat) (rh rl : Int), i + d = 128 → d * 200 + 10 < k → U64 rh → U64 rl →
    rh * 18446744073709551616 + rl = R + (mh * 18446744073709551616 + ml) / 2 ^ i * 2 ^ i →
    smaltoref01_Shift.l2 k x (i : Int) sh sl mh ml qh ql rh rl = some (hold (sgn (decide (x < 0)) (qh * 18446744073709551616 + ql +
      if (if x < 0 then decide (sh * 18446744073709551616 + sl < R) else !decide (R < sh * 18446744073709551616 + sl)) = true then 1 else 0))) := by
  have R0 : 0 ≤ R := by rw [← hR]; exact Int.emod_nonneg _ (by have := pow_pos n; omega)
  intro d
  induction d with
  | zero =>
    intro k i rh rl hi hk hrh hrl he
    obtain ⟨k, rfl⟩ : ∃ m, k = m + 1 := ⟨k - 1, by omega⟩
    rw [Int.ediv_eq_zero_of_lt (by omega) (by rw [show i = 128 from by omega]; have : (2 : Int) ^ 128 = 340282366920938463463374607431768211456 := by decide
                                              omega)] at he
    rw [smaltoref01_Shift.l2, if_neg (by omega), ref01_Less_eq hrh hrl hsh hsl, ref01_Less_eq hsh hsl hrh hrl]
    simp only [Option.bind_some]
    rw [show rh * 18446744073709551616 + rl = R from by omega]
    split
    · rw [ref01_Shift_j4 (by omega) x _ hqh hql hq]
    · rw [ref01_Shift_j4 (by omega) x _ hqh hql hq]
  | succ d ih =>
    intro k i rh rl hi hk hrh hrl he
    obtain ⟨k, rfl⟩ : ∃ m, k = m + 1 := ⟨k - 1, by omega⟩
    rw [smaltoref01_Shift.l2, if_pos (by omega), ref01_Bit_eq hmh hml i (by omega)]
    simp only [Option.bind_some]
    have hs := pow_mul_succ (mh * 18446744073709551616 + ml) i
    have hq0 : 0 ≤ (mh * 18446744073709551616 + ml) / 2 ^ (i + 1) * 2 ^ (i + 1) := Int.mul_nonneg (Int.ediv_nonneg (by omega) (by have := pow_pos (i + 1); omega)) (by have := pow_pos (i + 1); omega)
    split
    · rename_i hb
      rw [hb, Int.one_mul] at hs
      obtain ⟨r1, r2, a1, a2, a3, a4⟩ := ref01_Shift_l3 x sh sl mh ml qh ql rh rl i (by omega) hrh hrl (by omega) i k 0 0 1 (by omega) (by omega) (by omega) (by omega) (by decide)
      have a4' : smaltoref01_Shift.l3 k x (i : Int) (i : Int) 0 sh sl mh ml qh ql rh rl 0 1 = _ := a4
      rw [a4', ih (k - i - 1) (i + 1) r1 r2 (by omega) (by omega) a1 a2 (by omega)]
    · rename_i hb
      rw [show (mh * 18446744073709551616 + ml) / 2 ^ i % 2 = 0 from by omega, Int.zero_mul, Int.add_zero] at hs
      rw [w64_id (by omega) (by omega), show ((i : Int) + 1) = ((i + 1 : Nat) : Int) from by omega]
      exact ih k (i + 1) rh rl (by omega) (by omega) hrh hrl (by omega)
theorem ref01_Shift_l1 (x sh sl mh ml : Int) (n : Nat) (hn : 1 ≤ n ∧ n ≤ 64) (hsh : U64 sh) (hsl : U64 sl) (hmh : U64 mh) (hml : U64 ml) : ∀ (d k : Nat) (qh ql : Int), d + n ≤ 128 → d + 30000 < k → U64 qh → U64 ql →
    qh * 18446744073709551616 + ql = (mh * 18446744073709551616 + ml) / 2 ^ (n + d) →
    smaltoref01_Shift.l1 k x (n : Int) (((n + d : Nat) : Int) - 1) sh sl mh ml qh ql = some (hold (sgn (decide (x < 0)) ((mh * 18446744073709551616 + ml) / 2 ^ n +
      if (if x < 0 then decide (sh * 18446744073709551616 + sl < (mh * 18446744073709551616 + ml) % 2 ^ n) else !decide ((mh * 18446744073709551616 + ml) % 2 ^ n < sh * 18446744073709551616 + sl)) = true then 1 else 0))) := by
  intro d
  have hn2 : (2 : Int) ≤ 2 ^ n := by
    calc (2 : Int) = 2 ^ 1 := by decide
      _ ≤ 2 ^ n := pow_le (by omega)
  have hh : ∀ a : Int, 0 ≤ a → 2 * (a / 2 ^ n) ≤ a := by
    intro a ha
    have := Int.mul_ediv_add_emod a (2 ^ n)
    have h0 := Int.emod_nonneg a (show (2 : Int) ^ n ≠ 0 from by omega)
    have h1 : 2 * (a / 2 ^ n) ≤ 2 ^ n * (a / 2 ^ n) := Int.mul_le_mul_of_nonneg_right hn2 (Int.ediv_nonneg ha (by omega))
    omega
  induction d with
  | zero =>
    intro k qh ql hd hk hqh hql he
    obtain ⟨k, rfl⟩ : ∃ m, k = m + 1 := ⟨k - 1, by omega⟩
    rw [smaltoref01_Shift.l1, if_neg (by omega)]
    rw [Nat.add_zero] at he
    have := hh (mh * 18446744073709551616 + ml) (by omega)
    have e := Int.mul_ediv_add_emod (mh * 18446744073709551616 + ml) (2 ^ n)
    rw [ref01_Shift_l2 x sh sl mh ml qh ql n hsh hsl hmh hml hqh hql (by omega) _ rfl (128 - n) k n mh ml (by omega) (by omega) hmh hml (by rw [Int.mul_comm ((mh * 18446744073709551616 + ml) / 2 ^ n)]; omega), he]
  | succ d ih =>
    intro k qh ql hd hk hqh hql he
    obtain ⟨k, rfl⟩ : ∃ m, k = m + 1 := ⟨k - 1, by omega⟩
    rw [smaltoref01_Shift.l1, if_pos (by omega), show (((n + (d + 1) : Nat) : Int) - 1) = ((n + d : Nat) : Int) from by omega, ref01_Bit_eq hmh hml (n + d) (by omega)]
    simp only [Option.bind_some]
    rw [ref01_Twice_eq hqh hql (by omega), w64_id (by omega) (by omega)]
    simp only [Option.bind_some]
    have hs := half_pow (mh * 18446744073709551616 + ml) (n + d)
    have hq : (mh * 18446744073709551616 + ml) / 2 ^ (n + d) ≤ mh * 18446744073709551616 + ml := Int.ediv_le_self _ (by omega)
    rw [show n + (d + 1) = n + d + 1 from rfl] at he
    exact ih k _ _ (by omega) (by omega) (by omega) (by omega) (by omega)
theorem ref01_Shift_l0 (x : Int) (hx : I64 x) (n : Nat) (hn : 1 ≤ n ∧ n ≤ 64) : ∀ (d k i : Nat) (ph pl : Int), i + d + 1 = n → d + 40000 < k → U64 ph → U64 pl → ph * 18446744073709551616 + pl = 2 ^ i →
    smaltoref01_Shift.l0 k x (n : Int) ((n : Int) - 1) (i : Int) ph pl = some (hold (rdiv x (2 ^ n))) := by
  intro d
  induction d with
  | zero =>
    intro k i ph pl hi hk hph hpl he
    obtain ⟨k, rfl⟩ : ∃ m, k = m + 1 := ⟨k - 1, by omega⟩
    have u := siz_u hx
    rw [smaltoref01_Shift.l0, if_neg (by omega), ref01_Size_eq hx]
    simp only [Option.bind_some]
    have p128 : (2 : Int) ^ 128 = 340282366920938463463374607431768211456 := by decide
    have h := ref01_Shift_l1 x ph pl 0 (siz x) n hn hph hpl (by omega) (by omega) (128 - n) k 0 0 (by omega) (by omega) (by omega) (by omega) (by
      rw [show n + (128 - n) = 128 from by omega, Int.ediv_eq_zero_of_lt (by omega) (by omega)]; rfl)
    rw [show (((n + (128 - n) : Nat) : Int) - 1) = 127 from by omega] at h
    rw [h]
    rw [show 0 * 18446744073709551616 + siz x = siz x from by omega, he]
    have e : rdiv x (2 ^ n) = rdiv (sgn (decide (x < 0)) (siz x)) (2 ^ n) := by rw [sgn_siz]
    rw [e, rdiv_sgn _ u.1 (pow_pos n)]
    have h2 : (2 : Int) ^ n = 2 * 2 ^ i := by rw [← pow_succ2]; congr 1; omega
    have r0 := Int.emod_nonneg (siz x) (show (2 : Int) ^ n ≠ 0 from by have := pow_pos n; omega)
    generalize siz x % 2 ^ n = r at *
    generalize siz x / 2 ^ n = q at *
    rw [h2]
    generalize (2 : Int) ^ i = p at *
    congr 3
    by_cases c : x < 0
    · rw [if_pos c, if_pos (decide_eq_true c)]
      by_cases g : p < r
      · rw [if_pos (decide_eq_true g), if_pos (by omega)]
      · rw [if_neg (by simpa using g), if_neg (by omega)]; omega
    · rw [if_neg c, if_neg (show ¬ (decide (x < 0) = true) from by simpa using c)]
      by_cases g : r < p
      · rw [if_neg (by simpa using g), if_neg (by omega)]; omega
      · rw [if_pos (by simpa using g), if_pos (by omega)]
  | succ d ih =>
    intro k i ph pl hi hk hph hpl he
    obtain ⟨k, rfl⟩ : ∃ m, k = m + 1 := ⟨k - 1, by omega⟩
    rw [smaltoref01_Shift.l0, if_pos (by omega), ref01_Twice_eq hph hpl (by omega)]
    simp only [Option.bind_some]
    rw [w64_id (by omega) (by omega), show ((i : Int) + 1) = ((i + 1 : Nat) : Int) from by omega]
    have hp := pow_pos i
    have hb : (2 : Int) ^ i ≤ 9223372036854775808 := by
      calc (2 : Int) ^ i ≤ 2 ^ 63 := pow_le (by omega)
        _ = _ := by decide
    exact ih k (i + 1) _ _ (by omega) (by omega) (by omega) (by omega) (by rw [pow_succ2]; omega)
theorem ref01_Shift_eq {k : Nat} (hk : 50000 ≤ k) {x n : Int} (hx : I64 x) (hn : I64 n) : smaltoref01_Shift.f k x n = some (sh x n) := by
  unfold smaltoref01_Shift.f sh
  by_cases h0 : n < 1
  · rw [if_pos h0, if_pos (by omega)]
  rw [if_neg h0, if_neg (show ¬ n ≤ 0 from by omega)]
  by_cases h1 : n > 64
  · rw [if_pos h1, rdiv_far (x := x) _ hx]
    calc (18446744073709551616 : Int) = 2 ^ 64 := by decide
      _ ≤ 2 ^ n.toNat := pow_le (by omega)
  rw [if_neg h1, w64_id (by omega) (by omega)]
  have e : n = (n.toNat : Int) := by omega
  have h := ref01_Shift_l0 x hx n.toNat (by omega) (n.toNat - 1) k 0 0 1 (by omega) (by omega) (by omega) (by omega) (by decide)
  rw [← e] at h
  have h' : smaltoref01_Shift.l0 k x n (n - 1) 0 0 1 = _ := h
  rw [h']
  congr 1
  refine hold_id ?_ ?_
  · rw [rdiv_pow x n.toNat (by omega)]
    have hp := pow_pos n.toNat
    have : -9223372036854775808 ≤ x / 2 ^ n.toNat := by
      rw [Int.le_ediv_iff_mul_le hp]
      have : -9223372036854775808 * 2 ^ n.toNat ≤ -9223372036854775808 * 1 := Int.mul_le_mul_of_nonpos_left (by decide) (by omega)
      omega
    omega
  · rw [rdiv_pow x n.toNat (by omega)]
    have h2 : (2 : Int) ≤ 2 ^ n.toNat := by
      calc (2 : Int) = 2 ^ 1 := by decide
        _ ≤ 2 ^ n.toNat := pow_le (by omega)
    have : x / 2 ^ n.toNat < 4611686018427387904 := by
      rw [Int.ediv_lt_iff_lt_mul (pow_pos _)]
      calc x < 4611686018427387904 * 2 := by omega
        _ ≤ 4611686018427387904 * 2 ^ n.toNat := Int.mul_le_mul_of_nonneg_left h2 (by decide)
    omega
theorem ref02_MulDiv_eq {k : Nat} (hk : 129 ≤ k) {a b d : Int} (ha : I64 a) (hb : I64 b) (hd : I64 d) : smaltoref02_MulDiv.f k a b d = some (hold (rdiv (a * b) d)) := by
  unfold smaltoref02_MulDiv.f
  by_cases hd0 : d = 0
  · rw [if_pos hd0, hd0]; simp [rdiv, hold]
  have ua := siz_u ha
  have ub := siz_u hb
  have ud := siz_u hd
  have ud0 : siz d ≠ 0 := fun h => hd0 (siz_zero.1 h)
  rw [if_neg hd0, ref01_Size_eq ha, ref01_Size_eq hb]
  simp only [Option.bind_some]
  rw [ref01_Times_eq (by omega) (by omega) (by omega), ref01_Size_eq hd]
  simp only [Option.bind_some]
  have p0 := Int.mul_nonneg ua.1 ub.1
  have p1 : siz a * siz b ≤ 9223372036854775808 * 9223372036854775808 := Int.mul_le_mul ua.2 ub.2 ub.1 (by decide)
  have e0 := sgn_siz2 a b
  have es := sgn_xor ((decide (a < 0)) != (decide (b < 0))) d (siz a * siz b) hd0
  rw [e0] at es
  rw [← es]
  generalize siz a * siz b = p at *
  rw [ref01_Nearest_eq hk (by omega) (by omega) (by omega)]
  simp only [Option.bind_some]
  rw [show p / 18446744073709551616 * 18446744073709551616 + p % 18446744073709551616 = p from by omega]
theorem ref02_MulShift_j3 {k : Nat} (hk : 2 ≤ k) (s u : Bool) {h l : Int} (hh : U64 h) (hl : U64 l) (hb : h * 18446744073709551616 + l < 340282366920938463463374607431768211455) :
    smaltoref02_MulShift.j3 k s u h l = some (hold (sgn s (h * 18446744073709551616 + l + if u = true then 1 else 0))) := by
  obtain ⟨k, rfl⟩ : ∃ m, k = m + 1 := ⟨k - 1, by omega⟩
  rw [smaltoref02_MulShift.j3]
  cases u
  · rw [if_neg (by decide), if_neg (by decide), ref01_Hold_eq (by omega) hh hl]
    simp only [Option.bind_some]; congr 3; omega
  · rw [if_pos rfl, if_pos rfl, ref01_Plus_eq hh hl (by omega) (by omega)]
    simp only [Option.bind_some]
    rw [ref01_Hold_eq (by omega) (by omega) (by omega)]
    simp only [Option.bind_some]; congr 3; omega
theorem emod_pow_succ (p : Int) (i : Nat) : p % 2 ^ (i + 1) = 2 ^ i * (p / 2 ^ i % 2) + p % 2 ^ i := by
  have h2 := half_pow p i
  have hpm := pow_pos i
  have e2 := Int.mul_ediv_add_emod p (2 ^ i)
  have r0 := Int.emod_nonneg p (show (2 : Int) ^ i ≠ 0 from by omega)
  have r1 := Int.emod_lt_of_pos p hpm
  have hb : p / 2 ^ i % 2 = 0 ∨ p / 2 ^ i % 2 = 1 := by omega
  refine (div_unique (q := p / 2 ^ (i + 1)) ?_ ?_ ?_).2
  · have h3 : p / 2 ^ (i + 1) * 2 ^ (i + 1) + (2 ^ i * (p / 2 ^ i % 2) + p % 2 ^ i) = 2 ^ i * (2 * (p / 2 ^ (i + 1)) + p / 2 ^ i % 2) + p % 2 ^ i := by
      rw [Int.mul_add, Int.pow_succ (2 : Int) i, Int.mul_left_comm, Int.mul_comm (p / (2 ^ i * 2)) 2]; omega
    rw [h3, ← h2]; exact e2
  · rcases hb with h | h <;> rw [h] <;> omega
  · rw [pow_succ2]; rcases hb with h | h <;> rw [h] <;> omega
theorem ref02_MulShift_l1 (n : Nat) (hn : 1 ≤ n ∧ n ≤ 127) (s : Bool) (ph pl qh ql : Int) (hph : U64 ph) (hpl : U64 pl) (hqh : U64 qh) (hql : U64 ql) (hq : qh * 18446744073709551616 + ql < 340282366920938463463374607431768211455) :
    ∀ (d k i : Nat) (m : Bool), i + d + 1 = n → d + 10 < k → m = decide ((ph * 18446744073709551616 + pl) % 2 ^ i ≠ 0) →
    smaltoref02_MulShift.l1 k (n : Int) s m ((n : Int) - 1) (i : Int) ph pl qh ql = some (hold (sgn s (qh * 18446744073709551616 + ql +
      if (ph * 18446744073709551616 + pl) / 2 ^ (n - 1) % 2 = 0 ∨ (s = true ∧ (ph * 18446744073709551616 + pl) % 2 ^ (n - 1) = 0) then 0 else 1))) := by
  intro d
  induction d with
  | zero =>
    intro k i m hi hk hm
    obtain ⟨k, rfl⟩ : ∃ m, k = m + 1 := ⟨k - 1, by omega⟩
    rw [smaltoref02_MulShift.l1, if_neg (by omega), w64_id (by omega) (by omega), show (n : Int) - 1 = ((n - 1 : Nat) : Int) from by omega, ref01_Bit_eq hph hpl (n - 1) (by omega)]
    simp only [Option.bind_some]
    rw [show i = n - 1 from by omega] at hm
    have hbit : (ph * 18446744073709551616 + pl) / 2 ^ (n - 1) % 2 = 0 ∨ (ph * 18446744073709551616 + pl) / 2 ^ (n - 1) % 2 = 1 := by omega
    generalize (ph * 18446744073709551616 + pl) / 2 ^ (n - 1) % 2 = bit at *
    by_cases hb : bit = 1
    · rw [if_pos hb]
      by_cases e : (ph * 18446744073709551616 + pl) % 2 ^ (n - 1) = 0
      · rw [show m = false from by rw [hm]; simpa using e, if_neg (by decide), ref02_MulShift_j3 (by omega) s _ hqh hql hq]
        cases s
        · rw [if_pos (by decide), if_neg (by simp; omega)]
        · rw [if_neg (by decide), if_pos (by simp; omega)]
      · rw [show m = true from by rw [hm]; simpa using e, if_pos rfl, ref02_MulShift_j3 (by omega) s _ hqh hql hq, if_pos rfl, if_neg (by omega)]
    · rw [if_neg hb, ref02_MulShift_j3 (by omega) s _ hqh hql hq, if_neg (by decide)]
      by_cases hb0 : bit = 0
      · rw [if_pos (Or.inl hb0)]
      · exfalso; omega
  | succ d ih =>
    intro k i m hi hk hm
    obtain ⟨k, rfl⟩ : ∃ m, k = m + 1 := ⟨k - 1, by omega⟩
    rw [smaltoref02_MulShift.l1, if_pos (by omega), ref01_Bit_eq hph hpl i (by omega), w64_id (by omega) (by omega), show ((i : Int) + 1) = ((i + 1 : Nat) : Int) from by omega]
    simp only [Option.bind_some]
    have es := emod_pow_succ (ph * 18446744073709551616 + pl) i
    have hp := pow_pos i
    have r0 := Int.emod_nonneg (ph * 18446744073709551616 + pl) (show (2 : Int) ^ i ≠ 0 from by omega)
    have hbb : (ph * 18446744073709551616 + pl) / 2 ^ i % 2 = 0 ∨ (ph * 18446744073709551616 + pl) / 2 ^ i % 2 = 1 := by omega
    by_cases hc : m = true
    · rw [if_pos hc]
      refine ih k (i + 1) true (by omega) (by omega) ?_
      refine (decide_eq_true ?_).symm
      have : (ph * 18446744073709551616 + pl) % 2 ^ i ≠ 0 := of_decide_eq_true (hm.symm.trans hc)
      rw [es]
      rcases hbb with h | h <;> rw [h] <;> omega
    · rw [if_neg hc]
      refine ih k (i + 1) _ (by omega) (by omega) ?_
      have : (ph * 18446744073709551616 + pl) % 2 ^ i = 0 := by
        have h2 : m = false := by simpa using hc
        have := of_decide_eq_false (hm.symm.trans h2)
        omega
      rw [es, this]
      rcases hbb with h | h
      · rw [h]; simp
      · rw [h]; simp; omega
theorem ref02_MulShift_l0 (n : Nat) (hn : 1 ≤ n ∧ n ≤ 127) (s : Bool) (ph pl : Int) (hph : U64 ph) (hpl : U64 pl) : ∀ (d k : Nat) (qh ql : Int), d + n ≤ 128 → d + 300 < k → U64 qh → U64 ql →
    qh * 18446744073709551616 + ql = (ph * 18446744073709551616 + pl) / 2 ^ (n + d) →
    smaltoref02_MulShift.l0 k (n : Int) s (((n + d : Nat) : Int) - 1) ph pl qh ql = some (hold (rdiv (sgn s (ph * 18446744073709551616 + pl)) (2 ^ n))) := by
  intro d
  induction d with
  | zero =>
    intro k qh ql hd hk hqh hql he
    obtain ⟨k, rfl⟩ : ∃ m, k = m + 1 := ⟨k - 1, by omega⟩
    rw [Nat.add_zero] at he
    have p0 : 0 ≤ ph * 18446744073709551616 + pl := by omega
    have q1 : 2 * ((ph * 18446744073709551616 + pl) / 2 ^ n) ≤ ph * 18446744073709551616 + pl := by
      have := (ediv_bounds (ph * 18446744073709551616 + pl) (pow_pos n)).1
      have h2 : (2 : Int) ≤ 2 ^ n := by
        calc (2 : Int) = 2 ^ 1 := by decide
          _ ≤ 2 ^ n := pow_le (by omega)
      have h3 : (ph * 18446744073709551616 + pl) / 2 ^ n * 2 ≤ (ph * 18446744073709551616 + pl) / 2 ^ n * 2 ^ n := Int.mul_le_mul_of_nonneg_left h2 (Int.ediv_nonneg p0 (by omega))
      omega
    rw [smaltoref02_MulShift.l0, if_neg (by omega), w64_id (by omega) (by omega)]
    have h := ref02_MulShift_l1 n hn s ph pl qh ql hph hpl hqh hql (by omega) (n - 1) k 0 false (by omega) (by omega) (by simp [Int.emod_one])
    have h' : smaltoref02_MulShift.l1 k (n : Int) s false ((n : Int) - 1) 0 ph pl qh ql = _ := h
    rw [h', rdiv_sgn_pow s p0 n hn.1, he]
  | succ d ih =>
    intro k qh ql hd hk hqh hql he
    obtain ⟨k, rfl⟩ : ∃ m, k = m + 1 := ⟨k - 1, by omega⟩
    rw [smaltoref02_MulShift.l0, if_pos (by omega), show (((n + (d + 1) : Nat) : Int) - 1) = ((n + d : Nat) : Int) from by omega, ref01_Bit_eq hph hpl (n + d) (by omega)]
    simp only [Option.bind_some]
    rw [ref01_Twice_eq hqh hql (by omega), w64_id (by omega) (by omega)]
    simp only [Option.bind_some]
    have hs := half_pow (ph * 18446744073709551616 + pl) (n + d)
    have hq : (ph * 18446744073709551616 + pl) / 2 ^ (n + d) ≤ ph * 18446744073709551616 + pl := Int.ediv_le_self _ (by omega)
    rw [show n + (d + 1) = n + d + 1 from rfl] at he
    exact ih k _ _ (by omega) (by omega) (by omega) (by omega) (by omega)
theorem ref02_MulShift_eq {k : Nat} (hk : 600 ≤ k) {a b n : Int} (ha : I64 a) (hb : I64 b) (hn : I64 n) : smaltoref02_MulShift.f k a b n = some (mulsh a b n) := by
  have ua := siz_u ha
  have ub := siz_u hb
  obtain ⟨k, rfl⟩ : ∃ m, k = m + 1 := ⟨k - 1, by omega⟩
  have main : ∀ m : Nat, smaltoref02_MulShift.j0 (k + 1) a b (m : Int) = some (if (m : Int) ≥ 128 then 0 else hold (rdiv (a * b) (2 ^ m))) := by
    intro m
    rw [smaltoref02_MulShift.j0]
    by_cases c : (m : Int) ≥ 128
    · rw [if_pos c, if_pos (by omega)]
    rw [if_neg c, if_neg (by omega), ref01_Size_eq ha, ref01_Size_eq hb]
    simp only [Option.bind_some]
    rw [ref01_Times_eq (by omega) (by omega) (by omega)]
    simp only [Option.bind_some]
    have p0 := Int.mul_nonneg ua.1 ub.1
    have p1 : siz a * siz b ≤ 9223372036854775808 * 9223372036854775808 := Int.mul_le_mul ua.2 ub.2 ub.1 (by decide)
    have e0 := sgn_siz2 a b
    rw [← e0]
    generalize siz a * siz b = p at *
    generalize ((decide (a < 0)) != (decide (b < 0))) = s at *
    by_cases z : (m : Int) = 0
    · rw [if_pos z, ref01_Hold_eq (by omega) (by omega) (by omega)]
      simp only [Option.bind_some]
      rw [show m = 0 from by omega, Int.pow_zero, rdiv_one]
      congr 3; omega
    rw [if_neg z]
    have p128 : (2 : Int) ^ 128 = 340282366920938463463374607431768211456 := by decide
    have h := ref02_MulShift_l0 m (by omega) s (p / 18446744073709551616) (p % 18446744073709551616) (by omega) (by omega) (128 - m) k 0 0 (by omega) (by omega) (by omega) (by omega) (by
      rw [show m + (128 - m) = 128 from by omega, Int.ediv_eq_zero_of_lt (by omega) (by omega)]; rfl)
    rw [show (((m + (128 - m) : Nat) : Int) - 1) = 127 from by omega] at h
    rw [h, show p / 18446744073709551616 * 18446744073709551616 + p % 18446744073709551616 = p from by omega]
  unfold smaltoref02_MulShift.f mulsh
  by_cases c : n < 0
  · have := main 0
    rw [if_pos c, if_neg (by omega), show (mx 0 n).toNat = 0 from by unfold mx; split <;> omega]
    exact this
  · have := main n.toNat
    rw [show ((n.toNat : Nat) : Int) = n from by omega] at this
    rw [if_neg c, this, show (mx 0 n).toNat = n.toNat from by unfold mx; split <;> omega]
theorem ref03_Exp_l0 (s r : Int) (hs : I64 s) (hr : I64 r) : ∀ (d k n : Nat) (p m : Int), n + d = 16 → d + 60000 < k → I64 p → I64 m → wrap64 (p - m) = expS r n →
    smaltoref03_Exp.l0 k s r p m (expT r n) ((n : Int) + 1) = some (sh (expS r 16) s) := by
  intro d
  induction d with
  | zero =>
    intro k n p m hn hk hp hm he
    obtain ⟨k, rfl⟩ : ∃ m, k = m + 1 := ⟨k - 1, by omega⟩
    rw [smaltoref03_Exp.l0, if_neg (by omega), he, show n = 16 from by omega, ref01_Shift_eq (by omega) (expS_i r 16) hs]
    rfl
  | succ d ih =>
    intro k n p m hn hk hp hm he
    obtain ⟨k, rfl⟩ : ∃ m, k = m + 1 := ⟨k - 1, by omega⟩
    rw [smaltoref03_Exp.l0, if_pos (by omega), w64_id (show -9223372036854775808 ≤ ((n : Int) + 1) * 1099511627776 from by omega) (by omega), w64_id (show -9223372036854775808 ≤ (n : Int) + 1 + 1 from by omega) (by omega)]
    rw [ref02_MulDiv_eq (by omega) (expT_i r n) hr (by constructor <;> omega)]
    simp only [Option.bind_some]
    have et : hold (rdiv (expT r n * r) (((n : Int) + 1) * 1099511627776)) = expT r (n + 1) := by rw [expT]
    rw [et]
    have em : Int.tmod ((n : Int) + 1) 2 = (((n + 1) % 2 : Nat) : Int) := by rw [Int.tmod_eq_emod_of_nonneg (by omega)]; omega
    have ec : ((n + 1 : Nat) : Int) = (n : Int) + 1 := by omega
    rw [em]
    have es : expS r (n + 1) = if n % 2 = 0 then wrap64 (expS r n - expT r (n + 1)) else wrap64 (expS r n + expT r (n + 1)) := by rw [expS]
    by_cases c : n % 2 = 0
    · rw [if_pos (by omega)]
      rw [if_pos c] at es
      have e2 : wrap64 (p - wrap64 (m + expT r (n + 1))) = expS r (n + 1) := by
        rw [es, ← he]
        generalize expT r (n + 1) = u
        unfold wrap64; omega
      have h := ih k (n + 1) p (wrap64 (m + expT r (n + 1))) (by omega) (by omega) hp (w64_i _) e2
      rw [ec] at h; exact h
    · rw [if_neg (by omega)]
      rw [if_neg c] at es
      have e2 : wrap64 (wrap64 (p + expT r (n + 1)) - m) = expS r (n + 1) := by
        rw [es, ← he]
        generalize expT r (n + 1) = u
        unfold wrap64; omega
      have h := ih k (n + 1) (wrap64 (p + expT r (n + 1))) m (by omega) (by omega) (w64_i _) hm e2
      rw [ec] at h; exact h
theorem ref03_Exp_eq {k : Nat} (hk : 70000 ≤ k) {t : Int} (ht : I64 t) : smaltoref03_Exp.f k t = some (expV t) := by
  obtain ⟨k, rfl⟩ : ∃ m, k = m + 1 := ⟨k - 1, by omega⟩
  have main : ∀ x, 0 ≤ x → x ≤ 9223372036854775807 → smaltoref03_Exp.j0 (k + 1) x = some (sh (expS (x % 762123384786) 16) (x / 762123384786)) := by
    intro x h0 h1
    rw [smaltoref03_Exp.j0, ref01_Floor_eq (by omega) (by constructor <;> omega) (by decide)]
    have e : flo x 762123384786 = x / 762123384786 := by unfold flo; rw [if_pos (by decide)]
    rw [e, hold_id (by omega) (by omega)]
    simp only [Option.bind_some]
    rw [w64_id (show -9223372036854775808 ≤ x / 762123384786 * 762123384786 from by omega) (by omega), w64_id (by omega) (by omega), show x - x / 762123384786 * 762123384786 = x % 762123384786 from by omega]
    exact ref03_Exp_l0 _ _ (by omega) (by omega) 16 k 0 1099511627776 0 (by omega) (by omega) (by decide) (by decide) (by rw [expS]; unfold wrap64; decide)
  unfold smaltoref03_Exp.f expV
  by_cases c : t < 0
  · rw [if_pos c, main 0 (by omega) (by omega), show mx 0 t = 0 from by unfold mx; split <;> omega]
  · rw [if_neg c, main t (by omega) (by omega), show mx 0 t = t from by unfold mx; split <;> omega]
theorem ref03_Ratio_eq {k : Nat} (hk : 200 ≤ k) {d s : Int} : smaltoref03_Ratio.f k d s = some (ratV d s) := by
  unfold smaltoref03_Ratio.f ratV
  by_cases h1 : s < 1
  · rw [if_pos h1, if_pos (Or.inl h1)]
  rw [if_neg h1]
  by_cases h2 : s > 4194304
  · rw [if_pos h2, if_pos (Or.inr (Or.inl h2))]
  rw [if_neg h2]
  by_cases h3 : d < -16384
  · rw [if_pos h3, if_pos (Or.inr (Or.inr (Or.inl h3)))]
  rw [if_neg h3]
  by_cases h4 : d > 16384
  · rw [if_pos h4, if_pos (Or.inr (Or.inr (Or.inr h4)))]
  rw [if_neg h4, if_neg (by omega)]
  have a := sq_le (x := d) (m := 16384) (by omega) (by omega)
  have b := sq_le (x := s) (m := 4194304) (by omega) (by omega)
  rw [w64_id (show -9223372036854775808 ≤ d * d from by omega) (by omega), w64_id (by omega) (by omega), w64_id (show -9223372036854775808 ≤ s * s from by omega) (by omega),
    ref02_MulDiv_eq (by omega) (by constructor <;> omega) (by decide) (by constructor <;> omega)]
  rfl
theorem ref03_Gauss_eq {k : Nat} (hk : 70000 ≤ k) {d s : Int} : smaltoref03_Gauss.f k d s = some (sh (expV (ratV d s)) 10) := by
  unfold smaltoref03_Gauss.f
  rw [ref03_Ratio_eq (by omega)]
  simp only [Option.bind_some]
  rw [ref03_Exp_eq hk (ratV_i d s)]
  simp only [Option.bind_some]
  rw [ref01_Shift_eq (by omega) (expV_i _) (by decide)]
  rfl
theorem ref04_May_eq (p q : Int) : smaltoref04_May.f p q = some (decide (mayP p q)) := by
  unfold smaltoref04_May.f mayP
  by_cases h1 : q < 1
  · rw [if_pos h1]; congr 1; exact (decide_eq_false (by omega)).symm
  rw [if_neg h1]
  by_cases h2 : q > 1048576
  · rw [if_pos h2]; congr 1; exact (decide_eq_false (by omega)).symm
  rw [if_neg h2, w64_id (show -9223372036854775808 ≤ -4 * q from by omega) (by omega), w64_id (show -9223372036854775808 ≤ 4 * q from by omega) (by omega)]
  by_cases h3 : p ≤ 4 * q
  · rw [if_pos h3]; congr 1; exact decide_eq_decide.2 (by omega)
  · rw [if_neg h3]; congr 1; exact (decide_eq_false (by omega)).symm
theorem ref04_Series_l0 (u : Int) (hu : I64 u) : ∀ (d k n : Nat) (a b : Int), n + d = 30 → d + 600 < k → I64 a → I64 b → wrap64 (a - b) = serS u n →
    smaltoref04_Series.l0 k u a b (serT u n) ((n : Int) + 1) = some (serS u 30) := by
  intro d
  induction d with
  | zero =>
    intro k n a b hn hk ha hb he
    obtain ⟨k, rfl⟩ : ∃ m, k = m + 1 := ⟨k - 1, by omega⟩
    rw [smaltoref04_Series.l0, if_neg (by omega), he, show n = 30 from by omega]
  | succ d ih =>
    intro k n a b hn hk ha hb he
    obtain ⟨k, rfl⟩ : ∃ m, k = m + 1 := ⟨k - 1, by omega⟩
    have hd := den_le n (by omega)
    rw [smaltoref04_Series.l0, if_pos (by omega), w64_id (show -9223372036854775808 ≤ 2 * ((n : Int) + 1) from by omega) (by omega), w64_id (show -9223372036854775808 ≤ 2 * ((n : Int) + 1) + 1 from by omega) (by omega),
      w64_id (show -9223372036854775808 ≤ 2 * ((n : Int) + 1) * (2 * ((n : Int) + 1) + 1) from by omega) (by omega), w64_id (show -9223372036854775808 ≤ 2 * ((n : Int) + 1) * (2 * ((n : Int) + 1) + 1) * 1099511627776 from by omega) (by omega),
      w64_id (show -9223372036854775808 ≤ (n : Int) + 1 + 1 from by omega) (by omega)]
    rw [ref02_MulDiv_eq (by omega) (serT_i u n) hu (by constructor <;> omega)]
    simp only [Option.bind_some]
    have et : hold (rdiv (serT u n * u) (2 * ((n : Int) + 1) * (2 * ((n : Int) + 1) + 1) * 1099511627776)) = serT u (n + 1) := by rw [serT]
    rw [et]
    have em : Int.tmod ((n : Int) + 1) 2 = (((n + 1) % 2 : Nat) : Int) := by rw [Int.tmod_eq_emod_of_nonneg (by omega)]; omega
    have ec : ((n + 1 : Nat) : Int) = (n : Int) + 1 := by omega
    rw [em]
    have es : serS u (n + 1) = if n % 2 = 0 then wrap64 (serS u n - serT u (n + 1)) else wrap64 (serS u n + serT u (n + 1)) := by rw [serS]
    by_cases c : n % 2 = 0
    · rw [if_pos (by omega)]
      rw [if_pos c] at es
      have e2 : wrap64 (a - wrap64 (b + serT u (n + 1))) = serS u (n + 1) := by
        rw [es, ← he]
        generalize serT u (n + 1) = x
        unfold wrap64; omega
      have h := ih k (n + 1) a (wrap64 (b + serT u (n + 1))) (by omega) (by omega) ha (w64_i4 _) e2
      rw [ec] at h; exact h
    · rw [if_neg (by omega)]
      rw [if_neg c] at es
      have e2 : wrap64 (wrap64 (a + serT u (n + 1)) - b) = serS u (n + 1) := by
        rw [es, ← he]
        generalize serT u (n + 1) = x
        unfold wrap64; omega
      have h := ih k (n + 1) (wrap64 (a + serT u (n + 1))) b (by omega) (by omega) (w64_i4 _) hb e2
      rw [ec] at h; exact h
theorem ref04_Series_eq {k : Nat} (hk : 1000 ≤ k) {p q : Int} (hp : -9223372036854775807 ≤ p ∧ p ≤ 9223372036854775807) (hq : I64 q) : smaltoref04_Series.f k p q = some (serV p q) := by
  obtain ⟨k, rfl⟩ : ∃ m, k = m + 1 := ⟨k - 1, by omega⟩
  have main : ∀ x, 0 ≤ x → x ≤ 9223372036854775807 → smaltoref04_Series.j0 (k + 1) x q = some (serS (serU x q) 30) := by
    intro x h0 h1
    rw [smaltoref04_Series.j0, ref02_MulDiv_eq (by omega) (by decide) (by constructor <;> omega) hq]
    simp only [Option.bind_some]
    rw [ref02_MulDiv_eq (by omega) (hold_i _) (by constructor <;> omega) hq]
    simp only [Option.bind_some]
    exact ref04_Series_l0 _ (hold_i _) 30 k 0 _ _ (by omega) (by omega) (by decide) (by decide) (by rw [serS]; unfold wrap64; decide)
  unfold smaltoref04_Series.f serV siz
  by_cases c : p < 0
  · rw [if_pos c, if_pos c, w64_id (by omega) (by omega), main _ (by omega) (by omega)]
  · rw [if_neg c, if_neg c, main _ (by omega) (by omega)]
theorem ref04_Lanczos_eq {k : Nat} (hk : 60000 ≤ k) (p q : Int) : smaltoref04_Lanczos.f k p q = some (lanV p q) := by
  obtain ⟨k, rfl⟩ : ∃ m, k = m + 1 := ⟨k - 1, by omega⟩
  unfold smaltoref04_Lanczos.f lanV
  rw [ref04_May_eq]
  simp only [Option.bind_some]
  by_cases c : mayP p q
  · have c' : 1 ≤ q ∧ q ≤ 1048576 ∧ -4 * q ≤ p ∧ p ≤ 4 * q := c
    rw [if_pos (decide_eq_true c), w64_id (show -9223372036854775808 ≤ 3 * q from by omega) (by omega), w64_id (show -9223372036854775808 ≤ -3 * q from by omega) (by omega)]
    by_cases g : siz p < 3 * q
    · have g2 : p < 3 * q ∧ -(3 * q) < p := by unfold siz at g; split at g <;> omega
      rw [if_neg (by omega), decide_eq_false (by omega), smaltoref04_Lanczos.j0, if_neg (by decide), if_pos ⟨c, g⟩, w64_id (show -9223372036854775808 ≤ 3 * q from by omega) (by omega), ref04_Series_eq (by omega) (by omega) (by constructor <;> omega), ref04_Series_eq (by omega) (by omega) (by constructor <;> omega)]
      simp only [Option.bind_some]
      rw [ref02_MulShift_eq (by omega) (serV_i _ _) (serV_i _ _) (by decide)]
      simp only [Option.bind_some]
      rw [ref01_Shift_eq (by omega) (mulsh_i _ _ _) (by decide)]
      rfl
    · rw [if_neg (show ¬ (mayP p q ∧ siz p < 3 * q) from by omega)]
      by_cases g3 : p ≥ 3 * q
      · rw [if_pos g3, smaltoref04_Lanczos.j0, if_pos rfl]
      · rw [if_neg g3, decide_eq_true (by unfold siz at g; split at g <;> omega), smaltoref04_Lanczos.j0, if_pos rfl]
  · rw [if_neg (by simpa using c), if_neg (by intro h; exact c h.1), smaltoref04_Lanczos.j0, if_pos rfl]
theorem ref05_May_eq (f n m i : Int) : smaltoref05_May.f f n m i = some (decide (mayR f n m i)) := by
  have e : smaltoref05_May.f f n m i = raw_may.f f n m i := by
    unfold smaltoref05_May.f raw_may.f
    by_cases h2 : f ≤ 2
    · rw [if_pos h2, if_pos (show f < 3 by omega)]
    · rw [if_neg h2, if_neg (show ¬ f < 3 by omega)]
  rw [e, raw_may_eq]
theorem ref05_In_eq {f n m i j : Int} (h : mayR f n m i) (hj : -34359738368 ≤ j ∧ j ≤ 34359738368) : smaltoref05_In.f f n m i j = some (decide (winLo f n m i ≤ j ∧ j < winHi f n m i)) := by
  obtain ⟨h1, h2, h3, h4, h5, h6, h7, h8⟩ := id h
  have hP := in_le ⟨h3, h4⟩ ⟨h5, h6⟩ ⟨h7, h8⟩
  have hx : 1 ≤ mx n m ∧ mx n m ≤ 65536 := by unfold mx; split <;> omega
  have hJ := jm_le ⟨h5, h6⟩ hj
  have q1 : (i + 1) * n = i * n + n := by rw [Int.add_mul, Int.one_mul]
  have q2 : (2 * i + 1) * n = 2 * (i * n) + n := by rw [Int.add_mul, Int.one_mul, Int.mul_assoc]
  have q3 : (j + 1) * m = j * m + m := by rw [Int.add_mul, Int.one_mul]
  have q4 : 2 * m * j = 2 * (j * m) := by rw [Int.mul_assoc, Int.mul_comm m j]
  have q6 : j * (2 * m) = 2 * (j * m) := by rw [Int.mul_comm (2 : Int) m, ← Int.mul_assoc, Int.mul_comm _ (2 : Int)]
  have e1 : wrap64 (i * n) = i * n := w64_id (by omega) (by omega)
  have e2 : wrap64 (i + 1) = i + 1 := w64_id (by omega) (by omega)
  have e3 : wrap64 (i * n + n) = i * n + n := w64_id (by omega) (by omega)
  have e4 : wrap64 (2 * i) = 2 * i := w64_id (by omega) (by omega)
  have e5 : wrap64 (2 * i + 1) = 2 * i + 1 := w64_id (by omega) (by omega)
  have e6 : wrap64 (2 * (i * n) + n) = 2 * (i * n) + n := w64_id (by omega) (by omega)
  have e7 : wrap64 (j + 1) = j + 1 := w64_id (by omega) (by omega)
  have e8 : wrap64 (j * m) = j * m := w64_id (by omega) (by omega)
  have e9 : wrap64 (j * m + m) = j * m + m := w64_id (by omega) (by omega)
  have e10 : wrap64 (2 * m) = 2 * m := w64_id (by omega) (by omega)
  have e10' : wrap64 (2 * n) = 2 * n := w64_id (by omega) (by omega)
  have e11 : wrap64 (2 * (j * m)) = 2 * (j * m) := w64_id (by omega) (by omega)
  have e12 : wrap64 (2 * (j * m) - (2 * (i * n) + n)) = 2 * (j * m) - (2 * (i * n) + n) := w64_id (by omega) (by omega)
  have e13 : wrap64 (2 * (j * m) - (2 * (i * n) + n) + m) = 2 * (j * m) - (2 * (i * n) + n) + m := w64_id (by omega) (by omega)
  have fr : smaltoref05_fraction.f n m i j = some (2 * (j * m) - (2 * (i * n) + n) + m, 2 * mx n m) := by
    unfold smaltoref05_fraction.f mx
    simp only [e4, e5, q2, e6, e10, e10', q4, e11, e12, e13]
    by_cases c : m > n
    · rw [if_pos c, if_pos (show n < m from c)]
    · rw [if_neg c, if_neg (show ¬ n < m from c)]
  unfold smaltoref05_In.f winLo winHi
  by_cases c0 : f = 0
  · simp only [if_pos c0, e1, e2, q1, e3, e7, q3, e8, e9]
    have a1 := div_lt (a := i * n) (b := m) (j := j + 1) (by omega)
    have a2 := lt_cei (a := i * n + n) (b := m) (j := j) (by omega)
    rw [q3] at a1
    by_cases d : j * m + m > i * n
    · rw [if_pos d]; congr 1; exact decide_eq_decide.2 (by omega)
    · rw [if_neg d]; congr 1; exact (decide_eq_false (by omega)).symm
  · have hf : f = 1 ∨ f = 2 := by omega
    simp only [if_neg c0, fr, Option.bind_some]
    have a1 := div_lt (a := 2 * (i * n) + n - m - reachR f n m) (b := 2 * m) (j := j) (by omega)
    have a2 := lt_cei (a := 2 * (i * n) + n - m + reachR f n m) (b := 2 * m) (j := j) (by omega)
    rw [q6] at a1 a2
    rcases hf with rfl | rfl
    · have hr : reachR 1 n m = 4 * mx n m := by unfold reachR; rw [if_pos rfl]
      rw [hr] at a1 a2
      rw [if_neg (by decide), w64_id (show -9223372036854775808 ≤ 2 * (2 * mx n m) from by omega) (by omega), w64_id (show -9223372036854775808 ≤ -(2 * (2 * mx n m)) from by omega) (by omega), hr]
      by_cases d : 2 * (j * m) - (2 * (i * n) + n) + m < 2 * (2 * mx n m)
      · rw [if_pos d]; congr 1; exact decide_eq_decide.2 (by omega)
      · rw [if_neg d]; congr 1; exact (decide_eq_false (by omega)).symm
    · have hr : reachR 2 n m = 6 * mx n m := by unfold reachR; rw [if_neg (by decide)]
      rw [hr] at a1 a2
      rw [if_pos rfl, w64_id (show -9223372036854775808 ≤ 3 * (2 * mx n m) from by omega) (by omega), w64_id (show -9223372036854775808 ≤ -(3 * (2 * mx n m)) from by omega) (by omega), hr]
      by_cases d : 2 * (j * m) - (2 * (i * n) + n) + m < 3 * (2 * mx n m)
      · rw [if_pos d]; congr 1; exact decide_eq_decide.2 (by omega)
      · rw [if_neg d]; congr 1; exact (decide_eq_false (by omega)).symm
theorem ref05_Keys_eq {k : Nat} (hk : 200 ≤ k) {p q : Int} (hp : I64 p) (hq : I64 q) : smaltoref05_Keys.f k p q = some (keyV p q) := by
  obtain ⟨k, rfl⟩ : ∃ m, k = m + 3 := ⟨k - 3, by omega⟩
  unfold smaltoref05_Keys.f keyV
  by_cases h1 : q < 1
  · rw [if_pos h1, if_neg (by omega), smaltoref05_Keys.j0, if_pos rfl]
  rw [if_neg h1, smaltoref05_Keys.j0]
  by_cases h2 : q > 262144
  · rw [if_pos (by simpa using h2), if_neg (by omega)]
  rw [if_neg (by simpa using h2), w64_id (show -9223372036854775808 ≤ 2 * q from by omega) (by omega), w64_id (show -9223372036854775808 ≤ -2 * q from by omega) (by omega)]
  by_cases h3 : p ≥ 2 * q
  · rw [if_pos h3, if_neg (by omega), smaltoref05_Keys.j1, if_pos rfl]
  rw [if_neg h3, smaltoref05_Keys.j1]
  by_cases h4 : p ≤ -2 * q
  · rw [if_pos (by simpa using h4), if_neg (by omega)]
  rw [if_neg (by simpa using h4), if_pos (show 1 ≤ q ∧ q ≤ 262144 ∧ p < 2 * q ∧ -2 * q < p from by omega)]
  have e : (if p < 0 then smaltoref05_Keys.j2 (k + 1) (wrap64 (-p)) q else smaltoref05_Keys.j2 (k + 1) p q) = smaltoref05_Keys.j2 (k + 1) (siz p) q := by
    unfold siz; split
    · rw [w64_id (by omega) (by omega)]
    · rfl
  rw [e, smaltoref05_Keys.j2]
  have hs : 0 ≤ siz p ∧ siz p ≤ 524288 := by unfold siz; split <;> omega
  generalize siz p = s at hs ⊢
  have b1 := cub_le hs hs hs
  have b2 := cub_le hs hs (show 0 ≤ q ∧ q ≤ 524288 by omega)
  have b3 := cub_le hs (show 0 ≤ q ∧ q ≤ 524288 by omega) (show 0 ≤ q ∧ q ≤ 524288 by omega)
  have b4 := cub_le (show 0 ≤ q ∧ q ≤ 262144 by omega) (show 0 ≤ q ∧ q ≤ 262144 by omega) (show 0 ≤ q ∧ q ≤ 262144 by omega)
  have a3 : 5 * (s * s) * q = 5 * (s * s * q) := Int.mul_assoc _ _ _
  have a4 : 8 * s * (q * q) = 8 * (s * q * q) := by rw [Int.mul_assoc, ← Int.mul_assoc s q q]
  have w0 : wrap64 (s * s) = s * s := w64_id (by omega) (by omega)
  have w1 : wrap64 (s * s * s) = s * s * s := w64_id (by omega) (by omega)
  have w2 : wrap64 (q * q) = q * q := w64_id (by omega) (by omega)
  have w3 : wrap64 (q * q * q) = q * q * q := w64_id (by omega) (by omega)
  have w5 : wrap64 (5 * (s * s)) = 5 * (s * s) := w64_id (by omega) (by omega)
  have w6 : wrap64 (5 * (s * s * q)) = 5 * (s * s * q) := w64_id (by omega) (by omega)
  have w7 : wrap64 (8 * s) = 8 * s := w64_id (by omega) (by omega)
  have w9 : wrap64 (8 * (s * q * q)) = 8 * (s * q * q) := w64_id (by omega) (by omega)
  have w12 : wrap64 (4 * (q * q * q)) = 4 * (q * q * q) := w64_id (by omega) (by omega)
  have w15 : wrap64 (2 * (q * q * q)) = 2 * (q * q * q) := w64_id (by omega) (by omega)
  have w18 : wrap64 (3 * (s * s * s)) = 3 * (s * s * s) := w64_id (by omega) (by omega)
  simp only [w0, w1, w2, w3, w5, a3, w6, w7, a4, w9, w12, w15, w18]
  by_cases h5 : s < q
  · rw [if_pos h5, if_neg (show ¬ s ≥ q from by omega)]
    have v1 : wrap64 (3 * (s * s * s) - 5 * (s * s * q)) = 3 * (s * s * s) - 5 * (s * s * q) := w64_id (by omega) (by omega)
    have v2 : wrap64 (3 * (s * s * s) - 5 * (s * s * q) + 2 * (q * q * q)) = 3 * (s * s * s) - 5 * (s * s * q) + 2 * (q * q * q) := w64_id (by omega) (by omega)
    rw [v1, v2, ref02_MulDiv_eq (by omega) (by constructor <;> omega) (by decide) (by constructor <;> omega)]
    rfl
  · rw [if_neg h5, if_pos (show s ≥ q from by omega)]
    have v1 : wrap64 (5 * (s * s * q) - s * s * s) = -(s * s * s) + 5 * (s * s * q) := by rw [w64_id (by omega) (by omega)]; omega
    have v2 : wrap64 (-(s * s * s) + 5 * (s * s * q) - 8 * (s * q * q)) = -(s * s * s) + 5 * (s * s * q) - 8 * (s * q * q) := w64_id (by omega) (by omega)
    have v3 : wrap64 (-(s * s * s) + 5 * (s * s * q) - 8 * (s * q * q) + 4 * (q * q * q)) = -(s * s * s) + 5 * (s * s * q) - 8 * (s * q * q) + 4 * (q * q * q) := w64_id (by omega) (by omega)
    rw [v1, v2, v3, ref02_MulDiv_eq (by omega) (by constructor <;> omega) (by decide) (by constructor <;> omega)]
    rfl
theorem ref05_Weight_eq {k : Nat} (hk : 60000 ≤ k) {f n m i j : Int} (h : mayR f n m i) (hj : -34359738368 ≤ j ∧ j ≤ 34359738368) : smaltoref05_Weight.f k f n m i j = some (wV f n m i j) := by
  obtain ⟨h1, h2, h3, h4, h5, h6, h7, h8⟩ := id h
  have hP := in_le ⟨h3, h4⟩ ⟨h5, h6⟩ ⟨h7, h8⟩
  have hx : 1 ≤ mx n m ∧ mx n m ≤ 65536 := by unfold mx; split <;> omega
  have hJ := jm_le ⟨h5, h6⟩ hj
  have q1 : (i + 1) * n = i * n + n := by rw [Int.add_mul, Int.one_mul]
  have q2 : (2 * i + 1) * n = 2 * (i * n) + n := by rw [Int.add_mul, Int.one_mul, Int.mul_assoc]
  have q3 : (j + 1) * m = j * m + m := by rw [Int.add_mul, Int.one_mul]
  have q4 : 2 * m * j = 2 * (m * j) := Int.mul_assoc _ _ _
  have q5 : m * j = j * m := Int.mul_comm _ _
  have e1 : wrap64 (i * n) = i * n := w64_id (by omega) (by omega)
  have e2 : wrap64 (i + 1) = i + 1 := w64_id (by omega) (by omega)
  have e3 : wrap64 (i * n + n) = i * n + n := w64_id (by omega) (by omega)
  have e4 : wrap64 (2 * i) = 2 * i := w64_id (by omega) (by omega)
  have e5 : wrap64 (2 * i + 1) = 2 * i + 1 := w64_id (by omega) (by omega)
  have e6 : wrap64 (2 * (i * n) + n) = 2 * (i * n) + n := w64_id (by omega) (by omega)
  have e7 : wrap64 (j + 1) = j + 1 := w64_id (by omega) (by omega)
  have e8 : wrap64 (j * m) = j * m := w64_id (by omega) (by omega)
  have e9 : wrap64 (j * m + m) = j * m + m := w64_id (by omega) (by omega)
  have e10 : wrap64 (2 * m) = 2 * m := w64_id (by omega) (by omega)
  have e10' : wrap64 (2 * n) = 2 * n := w64_id (by omega) (by omega)
  have e11 : wrap64 (2 * (m * j)) = 2 * (m * j) := w64_id (by omega) (by omega)
  have e12 : wrap64 (2 * (m * j) - (2 * (i * n) + n)) = 2 * (m * j) - (2 * (i * n) + n) := w64_id (by omega) (by omega)
  have e13 : wrap64 (2 * (m * j) - (2 * (i * n) + n) + m) = 2 * (m * j) - (2 * (i * n) + n) + m := w64_id (by omega) (by omega)
  have fr : smaltoref05_fraction.f n m i j = some (fracR n m i j, 2 * mx n m) := by
    unfold smaltoref05_fraction.f mx fracR
    simp only [e4, e5, q2, e6, e10, e10', q4, e11, e12, e13]
    by_cases c : m > n
    · rw [if_pos c, if_pos (show n < m from c)]
    · rw [if_neg c, if_neg (show ¬ n < m from c)]
  have hfr : -9223372036854775808 ≤ fracR n m i j ∧ fracR n m i j ≤ 9223372036854775807 := by unfold fracR; omega
  unfold smaltoref05_Weight.f wV
  simp only [fr, e1, e2, q1, e3, e7, q3, e8, e9]
  by_cases c0 : f = 0
  · rw [if_pos c0, if_pos c0]
    unfold partR mn mx
    by_cases g1 : j * m > i * n
    · rw [if_pos g1, if_pos (show i * n < j * m from g1)]
      by_cases g2 : j * m + m < i * n + n
      · rw [if_pos g2, if_pos g2, w64_id (by omega) (by omega), ref02_MulDiv_eq (by omega) (by constructor <;> omega) (by decide) (by constructor <;> omega)]; rfl
      · rw [if_neg g2, if_neg g2, w64_id (by omega) (by omega), ref02_MulDiv_eq (by omega) (by constructor <;> omega) (by decide) (by constructor <;> omega)]; rfl
    · rw [if_neg g1, if_neg (show ¬ i * n < j * m from g1)]
      by_cases g2 : j * m + m < i * n + n
      · rw [if_pos g2, if_pos g2, w64_id (by omega) (by omega), ref02_MulDiv_eq (by omega) (by constructor <;> omega) (by decide) (by constructor <;> omega)]; rfl
      · rw [if_neg g2, if_neg g2, w64_id (by omega) (by omega), ref02_MulDiv_eq (by omega) (by constructor <;> omega) (by decide) (by constructor <;> omega)]; rfl
  · rw [if_neg c0, if_neg c0]
    simp only [Option.bind_some]
    by_cases c1 : f = 1
    · rw [if_pos c1, if_pos c1, ref05_Keys_eq (by omega) hfr (by constructor <;> omega)]; rfl
    · rw [if_neg c1, if_neg c1, ref04_Lanczos_eq (by omega)]; rfl
theorem ref05_Row_l2 {f n m i : Int} (h : mayR f n m i) (c : Nat) (hc : (c : Int) = winHi f n m i - winLo f n m i) : ∀ (d k t : Nat), t + d = c → d + 60100 < k →
    smaltoref05_Row.l2 k f n m i (winLo f n m i + (t : Int)) (winLo f n m i) ((List.range t).map fun (t : Nat) => wV f n m i (winLo f n m i + (t : Int))) = some (winLo f n m i, (List.range c).map fun (t : Nat) => wV f n m i (winLo f n m i + (t : Int))) := by
  have hw := win_bnd h
  intro d
  induction d with
  | zero =>
    intro k t ht hk
    obtain ⟨k, rfl⟩ : ∃ m, k = m + 1 := ⟨k - 1, by omega⟩
    rw [smaltoref05_Row.l2, ref05_In_eq h (by omega), decide_eq_false (by omega)]
    simp only [Option.bind_some]
    rw [if_neg (by decide), show t = c from by omega]
  | succ d ih =>
    intro k t ht hk
    obtain ⟨k, rfl⟩ : ∃ m, k = m + 1 := ⟨k - 1, by omega⟩
    rw [smaltoref05_Row.l2, ref05_In_eq h (by omega), decide_eq_true (by omega)]
    simp only [Option.bind_some, if_true]
    rw [ref05_Weight_eq (by omega) h (by omega)]
    simp only [Option.bind_some]
    rw [if_pos (by rw [List.length_map, List.length_range]; omega), w64_id (show -9223372036854775808 ≤ winLo f n m i + (t : Int) + 1 from by omega) (by omega)]
    have := ih k (t + 1) (by omega) (by omega)
    rw [List.range_succ, List.map_append, List.map_singleton] at this
    rw [show winLo f n m i + ((t + 1 : Nat) : Int) = winLo f n m i + (t : Int) + 1 from by omega] at this
    exact this
theorem ref05_Row_l0 {f n m i : Int} (h : mayR f n m i) : ∀ (d k : Nat), winLo f n m i + (d : Int) < winHi f n m i → d + (winHi f n m i - winLo f n m i).toNat + 60200 < k →
    smaltoref05_Row.l0 k f n m i (winLo f n m i + (d : Int)) = some (winLo f n m i, rowV f n m i) := by
  have hw := win_bnd h
  intro d
  induction d with
  | zero =>
    intro k hd hk
    obtain ⟨k, rfl⟩ : ∃ m, k = m + 2 := ⟨k - 2, by omega⟩
    rw [smaltoref05_Row.l0, w64_id (show -9223372036854775808 ≤ winLo f n m i + ((0 : Nat) : Int) - 1 from by omega) (by omega), ref05_In_eq h (by omega), decide_eq_false (by omega)]
    simp only [Option.bind_some]
    rw [if_neg (by decide), smaltoref05_Row.l1, ref05_In_eq h (by omega), decide_eq_true (by omega)]
    simp only [Option.bind_some, if_true]
    have := ref05_Row_l2 h (winHi f n m i - winLo f n m i).toNat (by omega) (winHi f n m i - winLo f n m i).toNat k 0 (by omega) (by omega)
    rw [show winLo f n m i + ((0 : Nat) : Int) = winLo f n m i from by omega] at this ⊢
    exact this
  | succ d ih =>
    intro k hd hk
    obtain ⟨k, rfl⟩ : ∃ m, k = m + 1 := ⟨k - 1, by omega⟩
    rw [smaltoref05_Row.l0, w64_id (show -9223372036854775808 ≤ winLo f n m i + ((d + 1 : Nat) : Int) - 1 from by omega) (by omega), ref05_In_eq h (by omega), decide_eq_true (by omega)]
    simp only [Option.bind_some, if_true]
    rw [show winLo f n m i + ((d + 1 : Nat) : Int) - 1 = winLo f n m i + (d : Int) from by omega]
    exact ih k (by omega) (by omega)
theorem ref05_Row_may {k : Nat} {f n m i : Int} (h : mayR f n m i) (hk : 2 * (winHi f n m i - winLo f n m i).toNat + 60201 ≤ k) : smaltoref05_Row.f k f n m i = some (winLo f n m i, rowV f n m i) := by
  have hm := win_mid h
  have hw := win_bnd h
  obtain ⟨h1, h2, h3, h4, h5, h6, h7, h8⟩ := id h
  have hP := in_le ⟨h3, h4⟩ ⟨h5, h6⟩ ⟨h7, h8⟩
  unfold smaltoref05_Row.f
  rw [ref05_May_eq, decide_eq_true h]
  simp only [Option.bind_some, if_true]
  rw [if_neg (by omega), w64_id (show -9223372036854775808 ≤ i * n from by omega) (by omega), Int.tdiv_eq_ediv_of_nonneg (by omega), w64_id (by omega) (by omega)]
  have := ref05_Row_l0 h (i * n / m - winLo f n m i).toNat k (by omega) (by omega)
  rw [show winLo f n m i + (((i * n / m - winLo f n m i).toNat : Nat) : Int) = i * n / m from by omega] at this
  exact this
theorem ref06_plus_eq {k : Nat} (hk : 1 ≤ k) {a b : Int} (ha : I64 a) (hb : I64 b) : smaltoref06_plus.f k a b = some (hold (a + b)) := by
  obtain ⟨k, rfl⟩ : ∃ m, k = m + 1 := ⟨k - 1, by omega⟩
  unfold smaltoref06_plus.f
  by_cases h1 : b > 0
  · rw [if_pos h1, w64_id (by omega) (by omega), smaltoref06_plus.j0]
    by_cases h2 : a > 9223372036854775807 - b
    · rw [if_pos (by simpa using h2)]
      unfold hold; rw [if_neg (by omega), if_pos (by omega)]
    · rw [if_neg (by simpa using h2), if_neg (by omega), w64_id (by omega) (by omega), hold_id (by omega) (by omega)]
  · rw [if_neg h1, smaltoref06_plus.j0, if_neg (by decide)]
    by_cases h2 : b < 0
    · rw [if_pos h2, w64_id (show -9223372036854775808 ≤ -9223372036854775808 - b from by omega) (by omega)]
      by_cases h3 : a < -9223372036854775808 - b
      · rw [if_pos h3]; unfold hold; rw [if_pos (by omega)]
      · rw [if_neg h3, w64_id (by omega) (by omega), hold_id (by omega) (by omega)]
    · rw [if_neg h2, w64_id (by omega) (by omega), hold_id (by omega) (by omega)]
theorem ref06_Size_eq {x : Int} (hx : I64 x) : smaltoref06_Size.f x = some (szV x) := by
  rw [szV_is hx]
  unfold smaltoref06_Size.f
  by_cases h1 : x ≥ 0
  · rw [if_pos h1, if_pos h1]
  · rw [if_neg h1, if_neg h1]
    by_cases h2 : x < -9223372036854775807
    · rw [if_pos h2, if_pos h2]
    · rw [if_neg h2, if_neg h2, w64_id (by omega) (by omega)]
theorem ref06_Sizes_l0 (l : List Int) (hl : l.length < 4611686018427387904) (hx : ∀ x ∈ l, I64 x) : ∀ (d k i : Nat) (s : Int), i + d = l.length → d + 2 < k → I64 s → smaltoref06_Sizes.l0 k s l (l.length : Int) (i : Int) = some (szFrom s (l.drop i)) := by
  intro d
  induction d with
  | zero =>
    intro k i s h1 h2 hs
    obtain ⟨k, rfl⟩ : ∃ m, k = m + 1 := ⟨k - 1, by omega⟩
    rw [smaltoref06_Sizes.l0, if_neg (by omega), List.drop_of_length_le (by omega)]; rfl
  | succ d ih =>
    intro k i s h1 h2 hs
    obtain ⟨k, rfl⟩ : ∃ m, k = m + 1 := ⟨k - 1, by omega⟩
    have hz := szV_i (rd_i64 hx (i : Int))
    rw [smaltoref06_Sizes.l0, if_pos (by omega), if_pos (by omega), if_pos (by omega), ref06_Size_eq (rd_i64 hx _)]
    simp only [Option.bind_some]
    rw [ref06_plus_eq (by omega) hs (by constructor <;> omega)]
    simp only [Option.bind_some]
    rw [w64_id (show -9223372036854775808 ≤ (i : Int) + 1 from by omega) (by omega), drop_rd (by omega)]
    exact ih k (i + 1) _ (by omega) (by omega) (hold_i _)
theorem ref06_Sizes_eq {k : Nat} {l : List Int} (hk : l.length + 3 ≤ k) (hl : l.length < 4611686018427387904) (hx : ∀ x ∈ l, I64 x) : smaltoref06_Sizes.f k l = some (szFrom 0 l) :=
  ref06_Sizes_l0 l hl hx l.length k 0 0 (by omega) (by omega) (by decide)
theorem ref06_Sum_l0 (l : List Int) (hl : l.length < 4611686018427387904) (hx : ∀ x ∈ l, I64 x) : ∀ (d k i : Nat) (s : Int), i + d = l.length → d + 2 < k → I64 s → smaltoref06_Sum.l0 k s l (l.length : Int) (i : Int) = some (sumFrom s (l.drop i)) := by
  intro d
  induction d with
  | zero =>
    intro k i s h1 h2 hs
    obtain ⟨k, rfl⟩ : ∃ m, k = m + 1 := ⟨k - 1, by omega⟩
    rw [smaltoref06_Sum.l0, if_neg (by omega), List.drop_of_length_le (by omega)]; rfl
  | succ d ih =>
    intro k i s h1 h2 hs
    obtain ⟨k, rfl⟩ : ∃ m, k = m + 1 := ⟨k - 1, by omega⟩
    rw [smaltoref06_Sum.l0, if_pos (by omega), if_pos (by omega), if_pos (by omega), ref06_plus_eq (by omega) hs (rd_i64 hx _)]
    simp only [Option.bind_some]
    rw [w64_id (show -9223372036854775808 ≤ (i : Int) + 1 from by omega) (by omega), drop_rd (by omega)]
    exact ih k (i + 1) _ (by omega) (by omega) (hold_i _)
theorem ref06_Sum_eq {k : Nat} {l : List Int} (hk : l.length + 3 ≤ k) (hl : l.length < 4611686018427387904) (hx : ∀ x ∈ l, I64 x) : smaltoref06_Sum.f k l = some (sumFrom 0 l) :=
  ref06_Sum_l0 l hl hx l.length k 0 0 (by omega) (by omega) (by decide)
theorem ref06_User_l0 (l : List Int) (s : Int) (hs : I64 s) (hl : l.length ≤ 1024) (hx : ∀ x ∈ l, I64 x) : ∀ (d k i : Nat), i + d = l.length → d + 160 < k →
    smaltoref06_User.l0 k s ((List.range i).map (fun (i : Nat) => hold (rdiv (rd l (i : Int) * 1073741824) s))) l (l.length : Int) (i : Int) = some ((List.range l.length).map (fun (i : Nat) => hold (rdiv (rd l (i : Int) * 1073741824) s)), 0) := by
  intro d
  induction d with
  | zero =>
    intro k i h1 h2
    obtain ⟨k, rfl⟩ : ∃ m, k = m + 1 := ⟨k - 1, by omega⟩
    rw [smaltoref06_User.l0, if_neg (by omega), show i = l.length from by omega]
  | succ d ih =>
    intro k i h1 h2
    obtain ⟨k, rfl⟩ : ∃ m, k = m + 1 := ⟨k - 1, by omega⟩
    rw [smaltoref06_User.l0, if_pos (by omega), if_pos (by omega), if_pos (by omega), ref02_MulDiv_eq (by omega) (rd_i64 hx _) (by decide) hs]
    simp only [Option.bind_some]
    rw [if_pos (by simp; omega), w64_id (by omega) (by omega)]
    have := ih k (i + 1) (by omega) (by omega)
    rw [List.range_succ, List.map_append] at this
    exact this
theorem ref06_User_eq {k : Nat} {l : List Int} (hk : l.length + 200 ≤ k) (hl : l.length < 4611686018427387904) (hx : ∀ x ∈ l, I64 x) : smaltoref06_User.f k l = some (userV l) := by
  obtain ⟨k, rfl⟩ : ∃ m, k = m + 1 := ⟨k - 1, by omega⟩
  have hz := szFrom_i (s := 0) (by decide) hx
  unfold smaltoref06_User.f userV
  rw [ref06_Sizes_eq (by omega) hl hx]
  simp only [Option.bind_some]
  by_cases h1 : (l.length : Int) % 2 = 0
  · rw [if_pos h1, smaltoref06_User.j0, if_pos rfl, if_pos (Or.inl (by omega))]
  rw [if_neg h1]
  by_cases h2 : (l.length : Int) > 1024
  · rw [if_pos h2, smaltoref06_User.j0, if_pos rfl, if_pos (Or.inr (Or.inl (by omega)))]
  rw [if_neg h2]
  by_cases h3 : szFrom 0 l = 0
  · rw [if_pos h3, smaltoref06_User.j0, if_pos rfl, if_pos (Or.inr (Or.inr (Or.inl (by omega))))]
  rw [if_neg h3, smaltoref06_User.j0]
  by_cases h4 : szFrom 0 l > 1048576
  · rw [if_pos (by simpa using h4), if_pos (Or.inr (Or.inr (Or.inr h4)))]
  rw [if_neg (by simpa using h4), if_neg (by omega)]
  exact ref06_User_l0 l (szFrom 0 l) (by constructor <;> omega) (by omega) hx l.length k 0 (by omega) (by omega)
theorem ref06_l3 (o r : List Int) (left : Int) (n : Nat) (hr : r.length = n) (ho : o.length = n) (h1 : 1 ≤ n) (hn : n ≤ 1048576) : ∀ (d k i : Nat), i + d = n →
    smaltoref06_Apportion.l3 (k + d + 1) o r left (best r i : Int) (n : Int) (i : Int) = smaltoref06_Apportion.l2 k (o.set (best r n) (wrap64 (rd o (best r n : Int) + 1))) (r.set (best r n) (-1)) (wrap64 (left - 1)) := by
  intro d
  induction d with
  | zero =>
    intro k i hi
    have e : i = n := by omega
    have hb := best_lt r n h1
    rw [smaltoref06_Apportion.l3, if_neg (by omega), e, if_pos (by omega), if_pos (by omega), if_pos (by omega)]
    rw [show ((best r n : Nat) : Int).toNat = best r n from by omega]
  | succ d ih =>
    intro k i hi
    have hb : best r i < n := by
      by_cases c : 1 ≤ i
      · have := best_lt r i c; omega
      · have : i = 0 := by omega
        subst this; rw [best]; omega
    rw [show k + (d + 1) + 1 = (k + d + 1) + 1 from by omega, smaltoref06_Apportion.l3, if_pos (by omega), if_pos (by omega), if_pos (by omega), if_pos (by omega), if_pos (by omega)]
    have := ih k (i + 1) (by omega)
    rw [best] at this
    rw [w64_id (show -9223372036854775808 ≤ (i : Int) + 1 from by omega) (by omega)]
    by_cases c : rd r (i : Int) > rd r (best r i : Int)
    · rw [if_pos c] at this ⊢; exact this
    · rw [if_neg c] at this ⊢; exact this
theorem ref06_l2 (n : Nat) (h1 : 1 ≤ n) (hn : n ≤ 1048576) : ∀ (t k : Nat) (o r : List Int), o.length = n → r.length = n → (t : Int) ≤ 1048576 → (∀ j : Nat, -1099511627776 ≤ rd o (j : Int) ∧ rd o (j : Int) + t ≤ 1099511627776) →
    smaltoref06_Apportion.l2 (k + t * (n + 2) + 1) o r (t : Int) = some (picks t o r, 0) := by
  intro t
  induction t with
  | zero =>
    intro k o r ho hr ht hb
    rw [smaltoref06_Apportion.l2, if_neg (by omega)]; rfl
  | succ t ih =>
    intro k o r ho hr ht hb
    have e : k + (t + 1) * (n + 2) + 1 = ((k + t * (n + 2) + 1) + n + 1) + 1 := by rw [Nat.add_mul, Nat.one_mul]; omega
    have h3 := ref06_l3 o r ((t + 1 : Nat) : Int) n hr ho h1 hn n (k + t * (n + 2) + 1) 0 (by omega)
    have hbb := best_lt r n h1
    have hbd := hb (best r n)
    rw [e, smaltoref06_Apportion.l2, if_pos (by omega), hr]
    rw [show ((best r 0 : Nat) : Int) = 0 from rfl] at h3
    rw [show (0 : Int) = ((0 : Nat) : Int) from rfl]
    refine h3.trans ?_
    rw [w64_id (show -9223372036854775808 ≤ rd o (best r n : Int) + 1 from by omega) (by omega), w64_id (show -9223372036854775808 ≤ ((t + 1 : Nat) : Int) - 1 from by omega) (by omega), show ((t + 1 : Nat) : Int) - 1 = (t : Int) from by omega, picks, hr]
    refine ih k _ _ (by rw [List.length_set]; exact ho) (by rw [List.length_set]; exact hr) (by omega) (fun j => ?_)
    rw [rd_set _ _ _ (by omega)]
    have := hb j
    split
    · rename_i c; subst c; omega
    · omega
theorem ref06_l1 {l : List Int} {s : Int} (hG : Good l s) (R : Option (List Int × Int)) (K : Nat) (hR : ∀ k, K ≤ k → smaltoref06_Apportion.l2 k ((List.range l.length).map fun j => qV l s j) ((List.range l.length).map fun j => mV l s j) (16384 - psum (qV l s) l.length) = R) : ∀ (d k i : Nat), i + d = l.length → d + K + 200 < k →
    smaltoref06_Apportion.l1 k s ((List.range i).map fun j => qV l s j) ((List.range i).map fun j => mV l s j) (16384 - psum (qV l s) i) l (l.length : Int) (i : Int) = R := by
  intro d
  induction d with
  | zero =>
    intro k i h1 h2
    obtain ⟨k, rfl⟩ : ∃ m, k = m + 1 := ⟨k - 1, by omega⟩
    rw [smaltoref06_Apportion.l1, if_neg (by omega), show i = l.length from by omega]
    exact hR k (by omega)
  | succ d ih =>
    intro k i h1 h2
    obtain ⟨k, rfl⟩ : ∃ m, k = m + 1 := ⟨k - 1, by omega⟩
    have hx := hG.xb i (by omega)
    have hq := hG.qb i (by omega)
    have hs := hG.sb
    have hn1 := hG.n1
    have hp := psum_bnd (qV l s) l.length hG.qb i (by omega)
    have e := Int.mul_ediv_add_emod (rd l (i : Int) * 16384) s
    have r0 := Int.emod_nonneg (rd l (i : Int) * 16384) (show s ≠ 0 by omega)
    have r1 := Int.emod_lt_of_pos (rd l (i : Int) * 16384) (show 0 < s by omega)
    have eq : qV l s i = rd l (i : Int) * 16384 / s := rfl
    have em : mV l s i = rd l (i : Int) * 16384 % s := rfl
    have ec : qV l s i * s = s * (rd l (i : Int) * 16384 / s) := by rw [eq, Int.mul_comm]
    rw [smaltoref06_Apportion.l1, if_pos (by omega), if_pos (by omega), if_pos (by omega), w64_id (show -9223372036854775808 ≤ rd l (i : Int) * 16384 from by omega) (by omega), ref01_Floor_eq (by omega) (by constructor <;> omega) (by constructor <;> omega)]
    simp only [Option.bind_some]
    rw [if_pos (by simp; omega), if_pos (by simp; omega)]
    have ef : hold (flo (rd l (i : Int) * 16384) s) = qV l s i := by
      unfold flo; rw [if_pos (by omega), ← eq, hold_id (by omega) (by omega)]
    rw [ef, w64_id (show -9223372036854775808 ≤ qV l s i * s from by omega) (by omega), w64_id (show -9223372036854775808 ≤ rd l (i : Int) * 16384 - qV l s i * s from by omega) (by omega), show rd l (i : Int) * 16384 - qV l s i * s = mV l s i from by omega,
      w64_id (show -9223372036854775808 ≤ 16384 - psum (qV l s) i - qV l s i from by omega) (by omega), w64_id (show -9223372036854775808 ≤ (i : Int) + 1 from by omega) (by omega)]
    have := ih k (i + 1) (by omega) (by omega)
    rw [List.range_succ, List.map_append, List.map_append, psum] at this
    rw [show 16384 - psum (qV l s) i - qV l s i = 16384 - (psum (qV l s) i + qV l s i) from by omega]
    exact this
theorem ref06_Apportion_eq {l : List Int} (hx : ∀ x ∈ l, I64 x) (hl : l.length < 4611686018427387904) : ∃ K, ∀ k, K ≤ k → smaltoref06_Apportion.f k l = some (if chkV l = 0 then (appL l, 0) else ([], chkV l)) := by
  by_cases h0 : l.length = 0
  · refine ⟨2, fun k hk => ?_⟩
    obtain ⟨k, rfl⟩ : ∃ m, k = m + 1 := ⟨k - 1, by omega⟩
    have e : chkV l = 7 := by unfold chkV; rw [if_pos (Or.inl h0)]
    unfold smaltoref06_Apportion.f
    rw [if_pos (by omega), smaltoref06_Apportion.j0, if_pos rfl, e]; rfl
  by_cases h1 : l.length > 1048576
  · refine ⟨2, fun k hk => ?_⟩
    obtain ⟨k, rfl⟩ : ∃ m, k = m + 1 := ⟨k - 1, by omega⟩
    have e : chkV l = 7 := by unfold chkV; rw [if_pos (Or.inr (Or.inl h1))]
    unfold smaltoref06_Apportion.f
    rw [if_neg (by omega), smaltoref06_Apportion.j0, if_pos (by simp; omega), e]; rfl
  have loop : ∀ (R : Option (List Int × Int)) (K : Nat), ((∃ x ∈ l, szV x > 1099511627776) → R = some ([], 7)) → ((¬ ∃ x ∈ l, szV x > 1099511627776) → ∀ k, K ≤ k → (smaltoref06_Sum.f k l).bind (fun t => if t < 268435456 then some (([] : List Int), (8 : Int)) else smaltoref06_Apportion.l1 k t [] [] 16384 l (l.length : Int) 0) = R) →
      ∀ (d k i : Nat), i + d = l.length → d + K + 2 < k → (∀ j, j < i → ¬ szV (rd l (j : Int)) > 1099511627776) → smaltoref06_Apportion.l0 k l l (l.length : Int) (i : Int) = R := by
    intro R K g1 g2 d
    induction d with
    | zero =>
      intro k i q1 q2 q3
      obtain ⟨k, rfl⟩ : ∃ m, k = m + 1 := ⟨k - 1, by omega⟩
      rw [smaltoref06_Apportion.l0, if_neg (by omega)]
      refine g2 ?_ k (by omega)
      rintro ⟨x, hx1, hx2⟩
      obtain ⟨j, hj, rfl⟩ := List.getElem_of_mem hx1
      have := q3 j (by omega)
      unfold rd at this
      rw [List.getD_eq_getElem?_getD, show ((j : Int)).toNat = j from by omega, List.getElem?_eq_getElem hj] at this
      exact this hx2
    | succ d ih =>
      intro k i q1 q2 q3
      obtain ⟨k, rfl⟩ : ∃ m, k = m + 1 := ⟨k - 1, by omega⟩
      rw [smaltoref06_Apportion.l0, if_pos (by omega), if_pos (by omega), if_pos (by omega), ref06_Size_eq (rd_i64 hx _)]
      simp only [Option.bind_some]
      by_cases c : szV (rd l (i : Int)) > 1099511627776
      · rw [if_pos c]; exact (g1 ⟨_, rd_mem (by omega), c⟩).symm
      · rw [if_neg c, w64_id (show -9223372036854775808 ≤ (i : Int) + 1 from by omega) (by omega)]
        refine ih k (i + 1) (by omega) (by omega) (fun j hj => ?_)
        by_cases c2 : j = i
        · subst c2; exact c
        · exact q3 j (by omega)
  have top : ∀ (R : Option (List Int × Int)) (K : Nat), ((∃ x ∈ l, szV x > 1099511627776) → R = some ([], 7)) → ((¬ ∃ x ∈ l, szV x > 1099511627776) → ∀ k, K ≤ k → (smaltoref06_Sum.f k l).bind (fun t => if t < 268435456 then some (([] : List Int), (8 : Int)) else smaltoref06_Apportion.l1 k t [] [] 16384 l (l.length : Int) 0) = R) →
      ∀ k, l.length + K + 10 ≤ k → smaltoref06_Apportion.f k l = R := by
    intro R K g1 g2 k hk
    obtain ⟨k, rfl⟩ : ∃ m, k = m + 1 := ⟨k - 1, by omega⟩
    unfold smaltoref06_Apportion.f
    rw [if_neg (by omega), smaltoref06_Apportion.j0, if_neg (by simp; omega)]
    exact loop R K g1 g2 l.length k 0 (by omega) (by omega) (fun j hj => by omega)
  by_cases hs : sumFrom 0 l < 268435456
  · refine ⟨l.length + (l.length + 3) + 10, top _ (l.length + 3) (fun q => ?_) (fun q k hk => ?_)⟩
    · have e : chkV l = 7 := by unfold chkV; rw [if_pos (Or.inr (Or.inr q))]
      rw [e]; rfl
    · have e : chkV l = 8 := by
        unfold chkV; rw [if_neg (by rintro (g | g | g); exact h0 g; exact h1 g; exact q g), if_pos hs]
      rw [ref06_Sum_eq hk hl hx, e]
      simp only [Option.bind_some]
      rw [if_pos hs]; rfl
  · by_cases hz : ∃ x ∈ l, szV x > 1099511627776
    · refine ⟨l.length + 0 + 10, top _ 0 (fun q => ?_) (fun q => absurd hz q)⟩
      have e : chkV l = 7 := by unfold chkV; rw [if_pos (Or.inr (Or.inr q))]
      rw [e]; rfl
    · have e : chkV l = 0 := by
        unfold chkV; rw [if_neg (by rintro (g | g | g); exact h0 g; exact h1 g; exact hz g), if_neg hs]
      have hG := good_of_chk (fun i => rd_i64 hx _) e
      have hlb := hG.lb
      obtain ⟨t, ht⟩ : ∃ t : Nat, 16384 - psum (qV l (sumFrom 0 l)) l.length = (t : Int) := ⟨(16384 - psum (qV l (sumFrom 0 l)) l.length).toNat, by omega⟩
      have e2 : appL l = picks t ((List.range l.length).map fun j => qV l (sumFrom 0 l) j) ((List.range l.length).map fun j => mV l (sumFrom 0 l) j) := by
        unfold appL; rw [ht]; rfl
      have hK : ∀ k, t * (l.length + 2) + 1 ≤ k → smaltoref06_Apportion.l2 k ((List.range l.length).map fun j => qV l (sumFrom 0 l) j) ((List.range l.length).map fun j => mV l (sumFrom 0 l) j) (16384 - psum (qV l (sumFrom 0 l)) l.length) = some (appL l, 0) := by
        intro k hk
        rw [ht, e2, show k = (k - (t * (l.length + 2) + 1)) + t * (l.length + 2) + 1 from by omega]
        refine ref06_l2 l.length hG.n0 hG.n1 t _ _ _ (by simp) (by simp) (by have := hG.n1; omega) (fun j => ?_)
        by_cases c : j < l.length
        · have := hG.qb j c
          have := hG.n1
          rw [rd_range _ c]; omega
        · unfold rd
          rw [List.getD_eq_getElem?_getD, List.getElem?_eq_none (by simp; omega)]
          have := hG.n1
          simp; omega
      refine ⟨l.length + (l.length + (t * (l.length + 2) + 1) + 300) + 10, top _ (l.length + (t * (l.length + 2) + 1) + 300) (fun q => absurd q hz) (fun q k hk => ?_)⟩
      rw [ref06_Sum_eq (by omega) hl hx, e]
      simp only [Option.bind_some]
      rw [if_neg hs]
      exact ref06_l1 hG _ _ hK l.length k 0 (by omega) (by omega)
theorem rd_snoc (l : List S76) (x : S76) (j : Nat) : rd_T76 (l ++ [x]) (j : Int) = if j = l.length then x else rd_T76 l (j : Int) := by
  unfold rd_T76
  rw [Int.toNat_natCast, List.getD_eq_getElem?_getD, List.getD_eq_getElem?_getD]
  by_cases h : j < l.length
  · rw [List.getElem?_append_left h, if_neg (by omega)]
  · rw [List.getElem?_append_right (by omega)]
    by_cases e : j = l.length
    · subst e; simp
    · rw [if_neg e, List.getElem?_eq_none (by simp; omega), List.getElem?_eq_none (by omega)]
theorem resTab_rd (f n m : Int) : ∀ (i j : Nat), j < i → rd_T76 (resTab f n m i).lines (j : Int) = ⟨winLo f n m j, appL (rowV f n m j)⟩
  | 0, j, h => by omega
  | i + 1, j, h => by
    show rd_T76 ((resTab f n m i).lines ++ [_]) (j : Int) = _
    rw [rd_snoc, resTab_len]
    by_cases e : j = i
    · rw [if_pos e, e]
    · rw [if_neg e]; exact resTab_rd f n m i j (by omega)
theorem filTab_rd (n h : Int) (l : List Int) : ∀ (i j : Nat), j < i → rd_T76 (filTab n h l i).lines (j : Int) = ⟨(j : Int) - h, l⟩
  | 0, j, h => by omega
  | i + 1, j, hj => by
    show rd_T76 ((filTab n h l i).lines ++ [_]) (j : Int) = _
    rw [rd_snoc, filTab_len]
    by_cases e : j = i
    · rw [if_pos e, e]
    · rw [if_neg e]; exact filTab_rd n h l i j (by omega)
/-- A line, as the document has it. -/
def toR (x : S76) : S91 := ⟨x.f0, x.f1⟩
def mostU (l : List S76) : Int := l.foldl (fun m x => mx m (x.f1.length : Int)) 0
def sizeU (l : List S76) : Int := l.foldl (fun m x => mx m (szFrom 0 x.f1)) 0
/-- A table that its lines tell. -/
structure Told (t : Tab) : Prop where
  m : t.most = mostU t.lines
  s : t.size = sizeU t.lines
  n : t.lines.length ≤ 70000
  l : ∀ o : Nat, o < t.lines.length → (1 ≤ (rd_T76 t.lines (o : Int)).f1.length ∧ (rd_T76 t.lines (o : Int)).f1.length ≤ 2097152 ∧ -1099511627776 ≤ (rd_T76 t.lines (o : Int)).f0 ∧ (rd_T76 t.lines (o : Int)).f0 ≤ 1099511627776) ∧ ∀ x ∈ (rd_T76 t.lines (o : Int)).f1, I64 x
theorem rd_map (l : List S76) {o : Nat} (h : o < l.length) : rd_T91 (l.map toR) (o : Int) = toR (rd_T76 l (o : Int)) := by
  unfold rd_T91 rd_T76
  rw [Int.toNat_natCast, List.getD_eq_getElem?_getD, List.getD_eq_getElem?_getD, List.getElem?_map, List.getElem?_eq_getElem h]; rfl
theorem ref08_side_eq (n : Int) : smaltoref08_side.f n = some (decide (1 ≤ n ∧ n ≤ 65536)) := by
  unfold smaltoref08_side.f
  by_cases h : n ≥ 1
  · rw [if_pos h]; congr 1; by_cases c : n ≤ 65536
    · rw [decide_eq_true c, decide_eq_true ⟨h, c⟩]
    · rw [decide_eq_false c, decide_eq_false (fun q => c q.2)]
  · rw [if_neg h]; congr 1; rw [decide_eq_false (fun q => h q.1)]
theorem ref08_Resize_l0 {f n : Int} {M : Nat} (h : okR f n M) : ∀ (d i : Nat), i + d = M → ∃ K, ∀ k, K ≤ k → smaltoref08_Resize.l0 k f n M ((resTab f n M i).lines.map toR) M i = some (if resCode f n M i d = 0 then ((resTab f n M M).lines.map toR, 0) else ([], resCode f n M i d))
  | 0, i, hi => by
    have : i = M := by omega
    subst this
    refine ⟨1, fun k hk => ?_⟩
    obtain ⟨k, rfl⟩ : ∃ m, k = m + 1 := ⟨k - 1, by omega⟩
    rw [smaltoref08_Resize.l0, if_neg (by omega), resCode, if_pos rfl]
  | d + 1, i, hi => by
    obtain ⟨h1, h2, h3, h4, h5, h6⟩ := h
    obtain ⟨K1, ih⟩ := ref08_Resize_l0 ⟨h1, h2, h3, h4, h5, h6⟩ d (i + 1) (by omega)
    have hm : mayR f n M i := ⟨h1, h2, h3, h4, by omega, by omega, by omega, by omega⟩
    have hb := win_bnd hm
    obtain ⟨K2, ha⟩ := ref06_Apportion_eq (rowV_i64 f n M i) (by rw [rowV_len]; omega)
    obtain ⟨K3, hK3⟩ : ∃ K3, K3 = 2 * (winHi f n M i - winLo f n M i).toNat + 60201 := ⟨_, rfl⟩
    refine ⟨K1 + K2 + K3 + 1, fun k hk => ?_⟩
    obtain ⟨k, rfl⟩ : ∃ m, k = m + 1 := ⟨k - 1, by omega⟩
    rw [smaltoref08_Resize.l0, if_pos (by omega), ref05_Row_may hm (show 2 * (winHi f n M i - winLo f n M i).toNat + 60201 ≤ k by rw [← hK3]; omega), Option.bind_some, ha k (by omega), Option.bind_some, resCode]
    by_cases hc : chkV (rowV f n M i) = 0
    · rw [if_pos hc, if_pos hc, if_pos rfl, if_pos (by rw [List.length_map, resTab_len]; omega), show wrap64 ((i : Int) + 1) = ((i + 1 : Nat) : Int) by rw [w64_id (by omega) (by omega)]; omega]
      have e : (resTab f n M i).lines.map toR ++ [(⟨winLo f n M i, appL (rowV f n M i)⟩ : S91)] = (resTab f n M (i + 1)).lines.map toR := by
        show _ = ((resTab f n M i).lines ++ [_]).map toR
        rw [List.map_append]; rfl
      rw [e]
      exact ih k (by omega)
    · rw [if_neg hc, if_neg hc, if_neg hc, if_neg hc]
theorem ref08_Resize_eq {f n : Int} {M : Nat} (h : okR f n M) : ∃ K, smaltoref08_Resize.f K f n M = some (if resCode f n M 0 M = 0 then ((resTab f n M M).lines.map toR, 0) else ([], resCode f n M 0 M)) := by
  obtain ⟨K, hK⟩ := ref08_Resize_l0 h M 0 (by omega)
  obtain ⟨h1, h2, h3, h4, h5, h6⟩ := h
  refine ⟨K + 1, ?_⟩
  unfold smaltoref08_Resize.f
  rw [if_neg (by omega), if_neg (by omega), ref08_side_eq, decide_eq_true ⟨h3, h4⟩, Option.bind_some, if_pos rfl, ref08_side_eq, decide_eq_true ⟨h5, h6⟩, Option.bind_some, smaltoref08_Resize.j0, if_neg (by decide)]
  exact hK K (Nat.le_refl _)
theorem told_res {f n : Int} {M : Nat} (h : okR f n M) (hc : resCode f n M 0 M = 0) : Told (resTab f n M M) := by
  obtain ⟨h1, h2, h3, h4, h5, h6⟩ := h
  have hz : ∀ (d i : Nat), resCode f n M i d = 0 → ∀ j : Nat, i ≤ j → j < i + d → chkV (rowV f n M j) = 0 := by
    intro d
    induction d with
    | zero => intro i _ j h1 h2; omega
    | succ d ih =>
      intro i h j h1 h2
      rw [resCode] at h
      by_cases c : chkV (rowV f n M i) = 0
      · rw [if_pos c] at h
        by_cases e : j = i
        · rw [e]; exact c
        · exact ih (i + 1) h j (by omega) (by omega)
      · rw [if_neg c] at h; exact absurd h c
  have hk := hz M 0 hc
  have hms : ∀ i, (resTab f n M i).most = mostU (resTab f n M i).lines ∧ (resTab f n M i).size = sizeU (resTab f n M i).lines := by
    intro i
    induction i with
    | zero => exact ⟨rfl, rfl⟩
    | succ i ih =>
      refine ⟨?_, ?_⟩
      · show mx (resTab f n M i).most _ = mostU ((resTab f n M i).lines ++ [_])
        rw [ih.1]; unfold mostU; rw [List.foldl_append]; rfl
      · show mx (resTab f n M i).size _ = sizeU ((resTab f n M i).lines ++ [_])
        rw [ih.2]; unfold sizeU; rw [List.foldl_append]; rfl
  refine ⟨(hms M).1, (hms M).2, by rw [resTab_len]; omega, fun o ho => ?_⟩
  rw [resTab_len] at ho
  rw [resTab_rd f n M M o ho]
  have hm : mayR f n M o := ⟨h1, h2, h3, h4, by omega, by omega, by omega, by omega⟩
  have hb := win_bnd hm
  have hko := hk o (by omega) (by omega)
  have hl := appL_bnd (rowV_i64 f n M o) hko
  have hg := good_of_chk (fun i => rd_i64 (rowV_i64 f n M o) _) hko
  refine ⟨⟨?_, ?_, ?_, ?_⟩, appL_i64 (rowV_i64 f n M o) hko⟩
  · show 1 ≤ (appL (rowV f n M o)).length
    rw [appL_len2]; exact hg.n0
  · show (appL (rowV f n M o)).length ≤ 2097152
    rw [appL_len2]; have := hl.1; omega
  · show -1099511627776 ≤ winLo f n M o
    omega
  · show winLo f n M o ≤ 1099511627776
    omega
/-- What the document's Filter answers. -/
def RefR (xs : List S91) (c : Int) (w : World) (e : Ending) (w' : World) : Prop := Below w.heap.size w w' ∧ if c = 0 then ∃ v, e = .returned (.tuple #[v, .int .i64 0]) ∧ Kd.R k91 91 w' w.heap.size (fun _ => True) v xs else e = .returned (.tuple #[.slice none 0 0, .int .i64 c])
theorem infoR : (Tryz.prog.info? 91).map (fun i => (i.zero, i.size, i.bytes)) = some (some (.agg #[(.int .i64 0), (.slice none 0 0)]), 2, 32) := by kernel_rfl
set_option maxHeartbeats 8000000 in
set_option maxRecDepth 100000 in
theorem refFilterR_calls (A0 : Option Addr) (c0 : Nat) (l : List Int) (N : Nat) (w : World) (hr0 : Kd.C (Kd.int .i64) w A0 l.length l) (hc0 : l.length ≤ c0) (hx : ∀ x ∈ l, I64 x) (hl : l.length < 4611686018427387904) (h1 : 1 ≤ N) (h2 : N ≤ 65536) :
    Calls Tryz.prog 27 #[.slice A0 l.length c0, .int .i64 N] w (RefR ((filTab N ((l.length / 2 : Nat) : Int) (appL l) N).lines.map toR) (filCode l N) w) := by
  have hs1 : smaltoref08_side.f N = some true := by rw [ref08_side_eq, decide_eq_true ⟨by omega, by omega⟩]
  have hfc : filCode l N = if l.length % 2 = 0 then 7 else chkV l := by unfold filCode; rw [if_pos ⟨by omega, by omega⟩]
  rw [hfc]
  clear hfc
  obtain ⟨K, hK⟩ := ref06_Apportion_eq hx hl
  have happ := hK K (Nat.le_refl _)
  clear hK
  obtain ⟨L, hL⟩ : ∃ L, L = l.length := ⟨_, rfl⟩
  have HR0 := Aside0.mk hr0
  have HX := Aside0.mk hx
  have mixed : Tryz.prog.follows .mixedOrders = true := by kernel_rfl
  have hdv : Int.tdiv (L : Int) 2 = ((L / 2 : Nat) : Int) := rfl
  have HDV := Aside0.mk hdv
  clear hr0 hx hdv
  by_cases hev : L % 2 = 0
  · rw [← hL]
    rw [if_pos hev]
    have hrm : Int.tmod (L : Int) 2 = 0 := by show ((L % 2 : Nat) : Int) = 0; rw [hev]; rfl
    have HL := Aside0.mk hL
    clear hL hev happ
    go_enter Tryz.func27, Tryz.ntmps27
    go_wp2_with (go_at_call 41; refine (smaltoref08_side.calls N true _ hs1).mono ?_; rintro e w' ⟨rfl, ⟨nd, rfl⟩⟩)
    go_ret2
    refine ⟨pw_below_drewN (Below.refl _ _) _, ?_⟩
    rw [if_neg (by decide)]; rfl
  · rw [← hL, if_neg hev]
    have hrm : Int.tmod (L : Int) 2 = 1 := by show ((L % 2 : Nat) : Int) = 1; rw [show L % 2 = 1 by omega]; rfl
    have HLL := Aside0.mk hL
    by_cases hc : chkV l = 0
    · rw [if_pos hc] at happ
      rw [hc]
      obtain ⟨tp, htp⟩ : ∃ v, v = appL l := ⟨_, rfl⟩
      have hL9 : L ≤ 1048576 := by rw [hL]; exact (appL_bnd HX.out hc).1
      rw [← htp] at happ ⊢
      have HAPC := Aside0.mk (show ∀ w', Below w.heap.size w w' → Calls Tryz.prog 43 #[.slice A0 L c0] w' (fun e w'' => ∃ v0_ : Value, e = .returned (.tuple #[v0_, .int .i64 0]) ∧ Kd.R (Kd.int .i64) 2 w'' w'.heap.size (fun _ => True) v0_ tp ∧ Below w'.heap.size w' w'') by intro w' hb; rw [hL]; exact smaltoref06_Apportion.calls K A0 c0 l tp 0 w' (Kd.C_below HR0.out hb) hc0 happ)
      have HTP := Aside0.mk htp
      clear htp hev happ hc hL
      go_enter Tryz.func27, Tryz.ntmps27
      go_upto_region 9 with (first | (go_at_call 41; refine (smaltoref08_side.calls N true _ hs1).mono ?_; rintro e w' ⟨rfl, ⟨nd, rfl⟩⟩) | (go_at_call 43; refine (HAPC.out _ (pw_below_drewN (Below.refl _ _) _)).mono ?_; rintro e w2 ⟨v2, rfl, hr2, hb2⟩; obtain ⟨A2, c2, rfl⟩ := Kd.R_slice hr2; have HR2 := Aside0.mk (Kd.R_lower hr2 (show w.heap.size ≤ _ from Nat.le_refl _)); have HB2 := Aside0.mk (below_step (pw_below_drewN (Below.refl _ _) _) hb2); clear hr2 hb2))
      go_wp2
      go_loopg [8, 26] N (fun kx s8 s26 wr => ∃ (i : Nat), s26 = .int .i64 i ∧ i ≤ N ∧ N - i ≤ kx ∧ Aside0 (Kd.R k91 91 wr w.heap.size (fun _ => True) s8 ((filTab N ((L / 2 : Nat) : Int) tp i).lines.map toR)) ∧ Aside0 (Below w.heap.size w wr) ∧ Aside0 (Kd.R (Kd.int .i64) 2 wr w.heap.size (fun _ => True) (.slice A2 tp.length c2) tp))
      case atStart => exact ⟨0, rfl, by omega, by omega, ⟨Kd.R_nil _ _ _ _ _⟩, HB2, HR2⟩
      case round =>
        obtain ⟨i, rfl, i1, i2, HO, HB, HR⟩ := hrel
        have wi : IntKind.i64.wrap ((i : Int) + 1) = (i : Int) + 1 := by rw [i64w]; exact w64_id (by omega) (by omega)
        have wd : IntKind.i64.wrap ((i : Int) - ((L / 2 : Nat) : Int)) = (i : Int) - ((L / 2 : Nat) : Int) := by rw [i64w]; exact w64_id (by omega) (by omega)
        by_cases hlt : (i : Int) < (N : Int)
        · have hq := HDV.out
          obtain ⟨A8, c8, hs8⟩ := Kd.R_slice HO.out
          subst hs8
          have hlen : ((filTab N ((L / 2 : Nat) : Int) tp i).lines.map toR).length = i := by rw [List.length_map, filTab_len]
          have HLN := Aside0.mk hlen
          obtain ⟨xs, hxs⟩ : ∃ xs, xs = (filTab N ((L / 2 : Nat) : Int) tp i).lines.map toR := ⟨_, rfl⟩
          rw [← hxs] at HO HLN ⊢
          have HXS := Aside0.mk hxs
          clear hxs hlen
          go_wp2_with (at_builtin; refine Kd.R_append k91 (w0 := w) w.heap.size rfl (.tmp 29) (.tmp 37) 37 91 (.agg #[(.int .i64 0), (.slice none 0 0)]) 32 rfl Tryz.underlying37 infoR rfl (by decide) (by omega) (.slice A8 xs.length c8) xs (⟨(i : Int) - ((L / 2 : Nat) : Int), tp⟩ : S91) [.int .i64 ((i : Int) - ((L / 2 : Nat) : Int)), .slice A2 tp.length c2] (fun _ => True) (fun k => some k ≠ (Value.slice A8 xs.length c8).ownBlock) rfl rfl ?aP (fun k hk => ⟨trivial, hk⟩) (fun _ _ => trivial) HO.out HB.out HB.out.size ?aL ?_; (case aP => exact k91_mkM _ _ _ (⟨(i : Int) - ((L / 2 : Nat) : Int), tp⟩ : S91) (Kd.R_mono (Kd.R_apartR HR.out HO.out (by decide)) (fun k hk => hk.2))); (case aL => rw [HLN.out]; omega); intro v1 w1 ho hb1 hg hat; have HO1 := Aside0.mk ho; have HB1 := Aside0.mk hb1; have HR1 := Aside0.mk (Kd.R_over HR.out HO.out (by decide) hg); clear ho hb1 hg hat)
          go_roundg (N - (i + 1))
          case measure => omega
          case rel =>
            refine ⟨i + 1, by simp, by omega, Nat.le_refl _, ⟨?_⟩, HB1, HR1⟩
            have e : (filTab N ((L / 2 : Nat) : Int) tp (i + 1)).lines.map toR = xs ++ [(⟨(i : Int) - ((L / 2 : Nat) : Int), tp⟩ : S91)] := by
              rw [HXS.out]
              show ((filTab N ((L / 2 : Nat) : Int) tp i).lines ++ [_]).map toR = _
              rw [List.map_append]; rfl
            rw [e]; exact HO1.out
        · have him : i = N := by omega
          subst him
          go_wp2
          go_ret2
          refine ⟨HB.out, ?_⟩
          rw [if_pos rfl]
          exact ⟨_, rfl, HO.out⟩
    · rw [if_neg hc] at happ
      obtain ⟨cv, hcv⟩ : ∃ v, v = chkV l := ⟨_, rfl⟩
      rw [← hcv] at happ hc ⊢
      have bk : (cv == 0) = false := by simpa using hc
      have bk2 : (cv != 0) = true := by simpa using hc
      have HAPC := Aside0.mk (show ∀ w', Below w.heap.size w w' → Calls Tryz.prog 43 #[.slice A0 L c0] w' (fun e w'' => ∃ v0_ : Value, e = .returned (.tuple #[v0_, .int .i64 cv]) ∧ Kd.R (Kd.int .i64) 2 w'' w'.heap.size (fun _ => True) v0_ [] ∧ Below w'.heap.size w' w'') by intro w' hb; rw [hL]; exact smaltoref06_Apportion.calls K A0 c0 l [] cv w' (Kd.C_below HR0.out hb) hc0 happ)
      clear hcv hev happ hL
      go_enter Tryz.func27, Tryz.ntmps27
      go_wp2_with (first | (go_at_call 41; refine (smaltoref08_side.calls N true _ hs1).mono ?_; rintro e w' ⟨rfl, ⟨nd, rfl⟩⟩) | (go_at_call 43; refine (HAPC.out _ (pw_below_drewN (Below.refl _ _) _)).mono ?_; rintro e w2 ⟨v2, rfl, hr2, hb2⟩; have HB2 := Aside0.mk (below_step (pw_below_drewN (Below.refl _ _) _) hb2); clear hr2 hb2))
      go_ret2
      refine ⟨HB2.out, ?_⟩
      rw [if_neg hc]
      rfl
theorem told_fil {l : List Int} {N : Nat} (h1 : 1 ≤ N) (h2 : N ≤ 65536) (hx : ∀ x ∈ l, I64 x) (hc : filCode l N = 0) : Told (filTab N ((l.length / 2 : Nat) : Int) (appL l) N) := by
  have hfc : filCode l N = if l.length % 2 = 0 then 7 else chkV l := by unfold filCode; rw [if_pos ⟨by omega, by omega⟩]
  rw [hfc] at hc
  have hk : chkV l = 0 := by
    by_cases c : l.length % 2 = 0
    · rw [if_pos c] at hc; exact absurd hc (by decide)
    · rw [if_neg c] at hc; exact hc
  have hms : ∀ i, (filTab N ((l.length / 2 : Nat) : Int) (appL l) i).most = mostU (filTab N ((l.length / 2 : Nat) : Int) (appL l) i).lines ∧ (filTab N ((l.length / 2 : Nat) : Int) (appL l) i).size = sizeU (filTab N ((l.length / 2 : Nat) : Int) (appL l) i).lines := by
    intro i
    induction i with
    | zero => exact ⟨rfl, rfl⟩
    | succ i ih =>
      refine ⟨?_, ?_⟩
      · show mx (filTab N ((l.length / 2 : Nat) : Int) (appL l) i).most _ = mostU ((filTab N ((l.length / 2 : Nat) : Int) (appL l) i).lines ++ [_])
        rw [ih.1]; unfold mostU; rw [List.foldl_append]; rfl
      · show mx (filTab N ((l.length / 2 : Nat) : Int) (appL l) i).size _ = sizeU ((filTab N ((l.length / 2 : Nat) : Int) (appL l) i).lines ++ [_])
        rw [ih.2]; unfold sizeU; rw [List.foldl_append]; rfl
  refine ⟨(hms N).1, (hms N).2, by rw [filTab_len]; omega, fun o ho => ?_⟩
  rw [filTab_len] at ho
  rw [filTab_rd _ _ _ N o ho]
  have hl := appL_bnd hx hk
  have hg := good_of_chk (fun i => rd_i64 hx _) hk
  refine ⟨⟨?_, ?_, ?_, ?_⟩, appL_i64 hx hk⟩
  · show 1 ≤ (appL l).length
    rw [appL_len2]; exact hg.n0
  · show (appL l).length ≤ 2097152
    rw [appL_len2]; have := hl.1; omega
  · show -1099511627776 ≤ (o : Int) - ((l.length / 2 : Nat) : Int)
    have := hl.1; omega
  · show (o : Int) - ((l.length / 2 : Nat) : Int) ≤ 1099511627776
    have := hl.1; omega
theorem ref06_gauss_l1 {s : Int} (r : Nat) (hr : r ≤ 200) : ∀ (d k i : Nat), i + d = 2 * r + 1 → d + 70100 < k →
    smaltoref06_Gaussian.l1 k s (r : Int) ((List.range i).map fun (t : Nat) => gV s ((t : Int) - (r : Int))) ((i : Int) - (r : Int)) = some ((List.range (2 * r + 1)).map fun (t : Nat) => gV s ((t : Int) - (r : Int)), 0) := by
  intro d
  induction d with
  | zero =>
    intro k i h1 h2
    obtain ⟨k, rfl⟩ : ∃ m, k = m + 1 := ⟨k - 1, by omega⟩
    rw [smaltoref06_Gaussian.l1, if_neg (by omega), show i = 2 * r + 1 from by omega]
  | succ d ih =>
    intro k i h1 h2
    obtain ⟨k, rfl⟩ : ∃ m, k = m + 1 := ⟨k - 1, by omega⟩
    rw [smaltoref06_Gaussian.l1, if_pos (by omega), ref03_Gauss_eq (by omega)]
    simp only [Option.bind_some]
    rw [if_pos (by simp; omega), w64_id (by omega) (by omega)]
    have := ih k (i + 1) (by omega) (by omega)
    rw [List.range_succ, List.map_append, show ((i + 1 : Nat) : Int) - (r : Int) = (i : Int) - (r : Int) + 1 from by omega] at this
    exact this
theorem ref06_gauss_l0 {s : Int} (hs : 1 ≤ s ∧ s ≤ 4194304) (r : Nat) (hr : (r : Int) = (3 * s + 65535) / 65536) : ∀ (d k i : Nat), i + d = r → d + 71000 < k →
    smaltoref06_Gaussian.l0 k s (i : Int) = some ((List.range (2 * r + 1)).map fun (t : Nat) => gV s ((t : Int) - (r : Int)), 0) := by
  intro d
  induction d with
  | zero =>
    intro k i h1 h2
    obtain ⟨k, rfl⟩ : ∃ m, k = m + 1 := ⟨k - 1, by omega⟩
    rw [smaltoref06_Gaussian.l0, w64_id (by omega) (by omega), w64_id (by omega) (by omega), if_neg (by omega), w64_id (by omega) (by omega)]
    have := ref06_gauss_l1 (s := s) r (by omega) (2 * r + 1) k 0 (by omega) (by omega)
    rw [show ((0 : Nat) : Int) - (r : Int) = -(i : Int) from by omega] at this
    rw [show (i : Int) = (r : Int) from by omega] at this ⊢
    exact this
  | succ d ih =>
    intro k i h1 h2
    obtain ⟨k, rfl⟩ : ∃ m, k = m + 1 := ⟨k - 1, by omega⟩
    rw [smaltoref06_Gaussian.l0, w64_id (by omega) (by omega), w64_id (by omega) (by omega), if_pos (by omega), w64_id (by omega) (by omega)]
    exact ih k (i + 1) (by omega) (by omega)
theorem ref06_gauss_eq {k : Nat} (hk : 72000 ≤ k) {s : Int} (hs : I64 s) : smaltoref06_Gaussian.f k s = some (gaussV s) := by
  obtain ⟨k, rfl⟩ : ∃ m, k = m + 1 := ⟨k - 1, by omega⟩
  unfold smaltoref06_Gaussian.f gaussV
  by_cases h1 : s < 1
  · rw [if_pos h1, smaltoref06_Gaussian.j0, if_pos rfl, if_pos (Or.inl h1)]
  rw [if_neg h1, smaltoref06_Gaussian.j0]
  by_cases h2 : s > 4194304
  · rw [if_pos (by simpa using h2), if_pos (Or.inr h2)]
  rw [if_neg (by simpa using h2), if_neg (by omega)]
  obtain ⟨r, hr⟩ : ∃ r : Nat, (r : Int) = (3 * s + 65535) / 65536 := ⟨((3 * s + 65535) / 65536).toNat, by omega⟩
  have := ref06_gauss_l0 (s := s) (by omega) r hr r k 0 (by omega) (by omega)
  unfold gaussL
  rw [← hr, show ((r : Int)).toNat = r from by omega]
  exact this
theorem ref06_blur_l0 (n : Nat) (hn : n ≤ 1023) : ∀ (d k i : Nat), i + d = n → d + 1300 < k → smaltoref06_Blur.l0 k (List.replicate i 1) (n : Int) (i : Int) = some (userV (List.replicate n 1)) := by
  intro d
  induction d with
  | zero =>
    intro k i h1 h2
    obtain ⟨k, rfl⟩ : ∃ m, k = m + 1 := ⟨k - 1, by omega⟩
    rw [smaltoref06_Blur.l0, if_neg (by omega), ref06_User_eq (by simp; omega) (by simp; omega) (ones_i64 _), show i = n from by omega]; rfl
  | succ d ih =>
    intro k i h1 h2
    obtain ⟨k, rfl⟩ : ∃ m, k = m + 1 := ⟨k - 1, by omega⟩
    rw [smaltoref06_Blur.l0, if_pos (by omega), if_pos (by simp; omega), w64_id (by omega) (by omega)]
    have := ih k (i + 1) (by omega) (by omega)
    rw [List.replicate_succ'] at this
    exact this
theorem ref06_blur_eq {k : Nat} (hk : 3000 ≤ k) {r : Int} (hr : I64 r) : smaltoref06_Blur.f k r = some (blurV r) := by
  obtain ⟨k, rfl⟩ : ∃ m, k = m + 1 := ⟨k - 1, by omega⟩
  unfold smaltoref06_Blur.f blurV
  by_cases h1 : r < 0
  · rw [if_pos h1, smaltoref06_Blur.j0, if_pos rfl, if_pos (Or.inl h1)]
  rw [if_neg h1, smaltoref06_Blur.j0]
  by_cases h2 : r > 511
  · rw [if_pos (by simpa using h2), if_pos (Or.inr h2)]
  rw [if_neg (by simpa using h2), if_neg (by omega), w64_id (show -9223372036854775808 ≤ 2 * r from by omega) (by omega), w64_id (show -9223372036854775808 ≤ 2 * r + 1 from by omega) (by omega)]
  have := ref06_blur_l0 (2 * r + 1).toNat (by omega) (2 * r + 1).toNat k 0 (by omega) (by omega)
  rw [show (((2 * r + 1).toNat : Nat) : Int) = 2 * r + 1 from by omega] at this
  exact this
end Go.Proofs.YtebipmdopdogkaaGreatDoor.QA

namespace Go.Proofs.YtebipmdopdogkaaGreatDoor.QA
open Go.RowKit Go.Proofs.YtebipmdopdogkaaGreatDoorW.PrintWords Go.Proofs.YtebipmdopdogkaaGreatDoorW.PrintLast Go.Proofs.YtebipmdopdogkaaGreatDoorW.PrintMore Go.Proofs.YtebipmdopdogkaaGreatDoor.T
set_option linter.unusedVariables false
set_option linter.unusedSimpArgs false
theorem same_l0 (l : List Int) (hl : l.length < 4611686018427387904) : ∀ (d k i : Nat), i + d = l.length → d + 1 < k → smaltoref06_Same.l0 k l l (l.length : Int) (i : Int) = some true := by
  intro d
  induction d with
  | zero =>
    intro k i h1 h2
    obtain ⟨k, rfl⟩ : ∃ m, k = m + 1 := ⟨k - 1, by omega⟩
    rw [smaltoref06_Same.l0, if_neg (by omega)]
  | succ d ih =>
    intro k i h1 h2
    obtain ⟨k, rfl⟩ : ∃ m, k = m + 1 := ⟨k - 1, by omega⟩
    rw [smaltoref06_Same.l0, if_pos (by omega), if_pos (by omega), if_pos (by omega), if_pos (by omega), if_pos rfl, w64_id (by omega) (by omega)]
    exact ih k (i + 1) (by omega) (by omega)
theorem same_refl {k : Nat} (l : List Int) (hl : l.length < 4611686018427387904) (hk : l.length + 2 ≤ k) : smaltoref06_Same.f k l l = some true := by
  unfold smaltoref06_Same.f
  rw [if_pos rfl]
  exact same_l0 l hl l.length k 0 (by omega) (by omega)
theorem cells2 {w : World} {g t : Nat} {v0 v1 : Value} (h : w.heap[g]? = some (.cells #[v0, v1] t (0, 0))) : w.cell? ⟨g, 0, none⟩ = some v0 ∧ w.cell? ⟨g, 1, none⟩ = some v1 := ⟨(blk_cell h 0).trans rfl, (blk_cell h 1).trans rfl⟩
theorem cells3 {w : World} {g t : Nat} {v0 v1 v2 : Value} (h : w.heap[g]? = some (.cells #[v0, v1, v2] t (0, 0))) : w.cell? ⟨g, 0, none⟩ = some v0 ∧ w.cell? ⟨g, 1, none⟩ = some v1 ∧ w.cell? ⟨g, 2, none⟩ = some v2 := ⟨(blk_cell h 0).trans rfl, (blk_cell h 1).trans rfl, (blk_cell h 2).trans rfl⟩
theorem cells5 {w : World} {g t : Nat} {v0 v1 v2 v3 v4 : Value} (h : w.heap[g]? = some (.cells #[v0, v1, v2, v3, v4] t (0, 0))) : w.cell? ⟨g, 0, none⟩ = some v0 ∧ w.cell? ⟨g, 1, none⟩ = some v1 ∧ w.cell? ⟨g, 2, none⟩ = some v2 ∧ w.cell? ⟨g, 3, none⟩ = some v3 ∧ w.cell? ⟨g, 4, none⟩ = some v4 := ⟨(blk_cell h 0).trans rfl, (blk_cell h 1).trans rfl, (blk_cell h 2).trans rfl, (blk_cell h 3).trans rfl, (blk_cell h 4).trans rfl⟩
theorem cells9 {w : World} {g t : Nat} {v0 v1 v2 v3 v4 v5 v6 v7 v8 : Value} (h : w.heap[g]? = some (.cells #[v0, v1, v2, v3, v4, v5, v6, v7, v8] t (0, 0))) : w.cell? ⟨g, 0, none⟩ = some v0 ∧ w.cell? ⟨g, 1, none⟩ = some v1 ∧ w.cell? ⟨g, 2, none⟩ = some v2 ∧ w.cell? ⟨g, 3, none⟩ = some v3 ∧ w.cell? ⟨g, 4, none⟩ = some v4 ∧ w.cell? ⟨g, 5, none⟩ = some v5 ∧ w.cell? ⟨g, 6, none⟩ = some v6 ∧ w.cell? ⟨g, 7, none⟩ = some v7 ∧ w.cell? ⟨g, 8, none⟩ = some v8 := ⟨(blk_cell h 0).trans rfl, (blk_cell h 1).trans rfl, (blk_cell h 2).trans rfl, (blk_cell h 3).trans rfl, (blk_cell h 4).trans rfl, (blk_cell h 5).trans rfl, (blk_cell h 6).trans rfl, (blk_cell h 7).trans rfl, (blk_cell h 8).trans rfl⟩
set_option maxHeartbeats 8000000 in
set_option maxRecDepth 100000 in
theorem lines_calls (b : Nat) (t : Tab) (A : Option Addr) (c : Nat) (w : World) (hT : TabC w b t) (T : Told t) (hw : Kd.C k91 w A t.lines.length (t.lines.map toR)) (hc : t.lines.length ≤ c) :
    Calls Tryz.prog 28 #[.pointer (some ⟨b, 0, none⟩), .slice A t.lines.length c, .int .i64 t.n] w fun e w' => e = .returned (.bool true) ∧ Below w.heap.size w w' := by
  have FR := Aside0.mk (fun w' (hb : Below w.heap.size w w') => from_calls b t w' (hT.below hb))
  have TO := Aside0.mk (fun w' (hb : Below w.heap.size w w') => to_calls b t w' (hT.below hb))
  have LN := Aside0.mk (fun (o : Nat) (ho : o < t.lines.length) w' (hb : Below w.heap.size w w') => line_in b t (o : Int) w' (hT.below hb) (by omega) (by omega) (T.l o ho).1.2.1)
  have HT := Aside0.mk T
  have HWC := Aside0.mk hw
  obtain ⟨n, hn⟩ : ∃ n, n = t.lines.length := ⟨_, rfl⟩
  rw [← hn] at hc TO LN ⊢
  have HN := Aside0.mk hn
  have hn7 : n ≤ 70000 := by rw [hn]; exact T.n
  have q0 : (t.n != t.n) = false := by simp
  have q1 : ((n : Int) != (n : Int)) = false := by simp
  clear hT T hw hn
  have mixed : Tryz.prog.follows .mixedOrders = true := by kernel_rfl
  go_enter Tryz.func28, Tryz.ntmps28
  go_upto_region 4 with (first
    | (go_at_call 17; refine (FR.out _ (Below.refl _ _)).mono ?_; rintro e w1 ⟨rfl, rfl⟩)
    | (go_at_call 18; refine (TO.out _ (Below.refl _ _)).mono ?_; rintro e w1 ⟨rfl, rfl⟩))
  clear q0 q1
  go_loopg [27] n (fun kx s27 wr => ∃ (o : Nat), s27 = .int .i64 o ∧ o ≤ n ∧ n - o ≤ kx ∧ Aside0 (Below w1.heap.size w1 wr))
  case atStart => exact ⟨0, rfl, by omega, by omega, ⟨Below.refl _ _⟩⟩
  case round =>
    obtain ⟨o, rfl, o1, o2, HW⟩ := hrel
    by_cases hlo : o < n
    · have hlo2 : (o : Int) < (n : Int) := by omega
      have zo : (0 : Int) ≤ (o : Int) := by omega
      have wo : IntKind.i64.wrap ((o : Int) + 1) = (o : Int) + 1 := by rw [i64w]; exact w64_id (by omega) (by omega)
      have hx := (HT.out.l o (by rw [← HN.out]; exact hlo))
      obtain ⟨ad, A1, c1, e1, m0, m1, l1, g1⟩ := at_T91 (Kd.C_below HWC.out HW.out) (o : Int) zo (by rw [← HN.out]; exact hlo2)
      cases e1
      rw [rd_map t.lines (by rw [← HN.out]; exact hlo)] at m0 m1 l1 g1
      rw [Int.toNat_natCast] at m0 m1
      have LO := Aside0.mk (LN.out o hlo)
      obtain ⟨x, hxx⟩ : ∃ x, x = rd_T76 t.lines (o : Int) := ⟨_, rfl⟩
      rw [← hxx] at m0 m1 l1 g1 hx LO
      obtain ⟨xf, hxf⟩ : ∃ v, v = x.f0 := ⟨_, rfl⟩
      obtain ⟨tp, htp⟩ : ∃ v, v = x.f1 := ⟨_, rfl⟩
      have m0' : wr.cell? (ad.add (o * 2)) = some (.int .i64 xf) := by rw [hxf]; exact m0
      have m1' : wr.cell? ⟨(ad.add (o * 2)).block, (ad.add (o * 2)).off + 1, none⟩ = some (.slice A1 tp.length c1) := by rw [htp]; exact m1
      have g1' : Kd.C (Kd.int .i64) wr A1 tp.length tp := by rw [htp]; exact g1
      have l1' : tp.length ≤ c1 := by rw [htp]; exact l1
      rw [← hxf, ← htp] at LO
      obtain ⟨⟨x1, x2, -, -⟩, x5⟩ := hx
      rw [← htp] at x1 x2 x5
      have G1 := Aside0.mk g1'
      have SQ := Aside0.mk (fun w' A2 c2 (h1 : Kd.C (Kd.int .i64) w' A2 tp.length tp) (h2 : tp.length ≤ c2) (h3 : Kd.C (Kd.int .i64) w' A1 tp.length tp) => smaltoref06_Same.calls (tp.length + 2) A2 c2 tp A1 c1 tp true w' h1 h2 h3 l1' (same_refl tp (by omega) (Nat.le_refl _)))
      have b0 : (xf != xf) = false := by simp
      clear m0 m1 g1 l1 hxx hxf htp x5 g1'
      go_upto_region 6 with fail
      have hr1 := heap_alloc_new wr (.cells #[.int .i64 xf, .slice A1 tp.length c1] 91)
      have ba := below_alloc (Below.refl wr.heap.size wr) (.cells #[.int .i64 xf, .slice A1 tp.length c1] 91)
      have G7 := Aside0.mk (Kd.C_below G1.out ba)
      have B7 := Aside0.mk (below_step HW.out ba)
      obtain ⟨r1, hr1q⟩ : ∃ r, r = wr.heap.size := ⟨_, rfl⟩
      rw [← hr1q] at hr1 ⊢
      have HR1 := Aside0.mk hr1
      clear hr1 ba hr1q m0' m1' G1 HW
      generalize wr.alloc (.cells #[.int .i64 xf, .slice A1 tp.length c1] 91) = w7 at HR1 G7 B7 ⊢
      go_upto_region 7 with (go_at_call 34; refine (LO.out _ B7.out).mono ?_; rintro e w8 ⟨v8, rfl, hr8, hb8⟩; obtain ⟨A8, c8, rfl⟩ := Kd.R_slice hr8; have R8 := Aside0.mk hr8; have B8 := Aside0.mk hb8; clear hr8 hb8)
      have hr2 := heap_alloc_new w8 (.cells #[.int .i64 xf, .slice A8 tp.length c8] 76)
      have ba := below_alloc (Below.refl w8.heap.size w8) (.cells #[.int .i64 xf, .slice A8 tp.length c8] 76)
      have hr1 := ((below_step B8.out ba).block r1 (blk_lt HR1.out)).trans HR1.out
      have G8 := Aside0.mk (Kd.R_reads' (Kd.R_alloc R8.out (.cells #[.int .i64 xf, .slice A8 tp.length c8] 76)))
      have G9 := Aside0.mk (Kd.C_below G7.out (below_step B8.out ba))
      have B9 := Aside0.mk (below_step B7.out (below_step B8.out ba))
      obtain ⟨r2, hr2q⟩ : ∃ r, r = w8.heap.size := ⟨_, rfl⟩
      rw [← hr2q] at hr2 ⊢
      clear ba hr2q R8 B8 G7 B7 HR1
      generalize w8.alloc (.cells #[.int .i64 xf, .slice A8 tp.length c8] 76) = w9 at hr1 hr2 G8 G9 B9 ⊢
      obtain ⟨z0, z1⟩ := cells2 hr1
      obtain ⟨y0, y1⟩ := cells2 hr2
      clear hr1 hr2
      go_wp2_with (go_at_call 36; refine (SQ.out w9 A8 c8 G8.out.2.2 G8.out.2.1 G9.out).mono ?_; rintro e w10 ⟨rfl, ⟨nd, rfl⟩⟩)
      go_roundg (n - (o + 1))
      case measure => omega
      case rel => exact ⟨o + 1, by simp, by omega, Nat.le_refl _, ⟨pw_below_drewN B9.out _⟩⟩
    · have : o = n := by omega
      subst this
      clear LN
      go_wp2
      go_ret
      exact ⟨rfl, HW.out⟩
set_option maxHeartbeats 8000000 in
set_option maxRecDepth 100000 in
theorem same12_calls (bx bz : Nat) (tx ty : Tab) (bd : Int) (A1 : Option Addr) (c1 : Nat) (A2 : Option Addr) (c2 : Nat) (w : World) (hx : TabC w bx tx) (hz : TabC w bz ty) (Tx : Told tx) (Tz : Told ty) (h1 : Kd.C k91 w A1 tx.lines.length (tx.lines.map toR)) (h2 : Kd.C k91 w A2 ty.lines.length (ty.lines.map toR)) (l1 : tx.lines.length ≤ c1) (l2 : ty.lines.length ≤ c2) :
    Calls Tryz.prog 12 #[.agg #[.pointer (some ⟨bx, 0, none⟩), .pointer (some ⟨bz, 0, none⟩), .int .i64 bd], .agg #[.slice A1 tx.lines.length c1, .slice A2 ty.lines.length c2, .int .i64 tx.n, .int .i64 ty.n, .int .i64 bd]] w fun e w' => e = .returned (.bool true) ∧ Below w.heap.size w w' := by
  have L1 := Aside0.mk (fun w' (hb : Below w.heap.size w w') => lines_calls bx tx A1 c1 w' (hx.below hb) Tx (Kd.C_below h1 hb) l1)
  have L2 := Aside0.mk (fun w' (hb : Below w.heap.size w w') => lines_calls bz ty A2 c2 w' (hz.below hb) Tz (Kd.C_below h2 hb) l2)
  obtain ⟨p, hp⟩ : ∃ p, p = tx.lines.length := ⟨_, rfl⟩
  obtain ⟨q, hq⟩ : ∃ q, q = ty.lines.length := ⟨_, rfl⟩
  rw [← hp] at L1 ⊢
  rw [← hq] at L2 ⊢
  have b0 : (bd == bd) = true := by simp
  clear hx hz Tx Tz h1 h2 l1 l2 hp hq
  have hr1 := heap_alloc_new w (.cells #[.pointer (some ⟨bx, 0, none⟩), .pointer (some ⟨bz, 0, none⟩), .int .i64 bd] 33)
  have B1 := below_alloc (Below.refl w.heap.size w) (.cells #[.pointer (some ⟨bx, 0, none⟩), .pointer (some ⟨bz, 0, none⟩), .int .i64 bd] 33)
  obtain ⟨g, hg⟩ : ∃ g, g = w.heap.size := ⟨_, rfl⟩
  have HR1 := Aside0.mk hr1
  have HB1 := Aside0.mk B1
  clear hr1 B1
  have mixed : Tryz.prog.follows .mixedOrders = true := by kernel_rfl
  go_enter Tryz.func12, Tryz.ntmps12
  go_upto_region 1 with fail
  rw [← hg]
  have h1 : ((w.alloc (.cells #[.pointer (some ⟨bx, 0, none⟩), .pointer (some ⟨bz, 0, none⟩), .int .i64 bd] 33)).alloc (.cells #[.slice A1 p c1, .slice A2 q c2, .int .i64 tx.n, .int .i64 ty.n, .int .i64 bd] 39)).heap[g]? = some (.cells #[.pointer (some ⟨bx, 0, none⟩), .pointer (some ⟨bz, 0, none⟩), .int .i64 bd] 33 (0, 0)) := by rw [ha_old _ _ _ (by simp [hg]), hg]; exact HR1.out
  have h2 : ((w.alloc (.cells #[.pointer (some ⟨bx, 0, none⟩), .pointer (some ⟨bz, 0, none⟩), .int .i64 bd] 33)).alloc (.cells #[.slice A1 p c1, .slice A2 q c2, .int .i64 tx.n, .int .i64 ty.n, .int .i64 bd] 39)).heap[g + 1]? = some (.cells #[.slice A1 p c1, .slice A2 q c2, .int .i64 tx.n, .int .i64 ty.n, .int .i64 bd] 39 (0, 0)) := ha_at _ _ _ (by simp [hg])
  have B2 := Aside0.mk (below_alloc HB1.out (.cells #[.slice A1 p c1, .slice A2 q c2, .int .i64 tx.n, .int .i64 ty.n, .int .i64 bd] 39))
  clear hg HR1 HB1
  generalize (w.alloc (.cells #[.pointer (some ⟨bx, 0, none⟩), .pointer (some ⟨bz, 0, none⟩), .int .i64 bd] 33)).alloc (.cells #[.slice A1 p c1, .slice A2 q c2, .int .i64 tx.n, .int .i64 ty.n, .int .i64 bd] 39) = W2 at h1 h2 B2 ⊢
  obtain ⟨z0, z1, z2⟩ := cells3 h1
  obtain ⟨y0, y1, y2, y3, y4⟩ := cells5 h2
  have H1 := Aside0.mk h1
  have H2 := Aside0.mk h2
  clear h1 h2
  go_wp2_with (first
    | (go_at_call 28; (with_reducible refine (L1.out _ B2.out).mono ?_); rintro e w3 ⟨rfl, hb3⟩; have B3 := Aside0.mk (below_step B2.out hb3); have h1 := (hb3.block g (blk_lt H1.out)).trans H1.out; have h2 := (hb3.block (g + 1) (blk_lt H2.out)).trans H2.out; obtain ⟨u0, u1, u2⟩ := cells3 h1; obtain ⟨v0, v1, v2, v3, v4⟩ := cells5 h2; clear hb3 h1 h2)
    | (go_at_call 28; (with_reducible refine (L2.out _ B3.out).mono ?_); rintro e w4 ⟨rfl, hb4⟩; have B4 := Aside0.mk (below_step B3.out hb4); clear hb4))
  go_ret
  exact ⟨rfl, B4.out⟩
end Go.Proofs.YtebipmdopdogkaaGreatDoor.QA
