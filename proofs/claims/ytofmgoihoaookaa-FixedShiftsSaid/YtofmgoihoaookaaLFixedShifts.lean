/- fixed.Shift of any number by any count of bits answers what the reference answers, and by 0 to 62 bits what fixed.Div by the power answers: no condition. -/
import Derived.Test.YtofmgoihoaookaaQAx7
import Derived.Test.YtofmgoihoaookaaQAx8
import Derived.Test.YtofmgoihoaookaaQAx9
import Derived.Test.YtofmgoihoaookaaQAx10
import Derived.Test.YtofmgoihoaookaaQAx15
import Derived.Test.YtofmgoihoaookaaQAx16
import Derived.Test.YtofmgoihoaookaaTCore
namespace Go.Proofs.Ytofmgoihoaookaa.QA
open Go.RowKit Go.Proofs.YtofmgoihoaookaaW.PrintWords Go.Proofs.YtofmgoihoaookaaW.PrintLast Go.Proofs.YtofmgoihoaookaaW.PrintMore Go.Proofs.Ytofmgoihoaookaa.T
set_option linter.unusedVariables false

theorem fixed_size_eq {a : Int} (ha : I64 a) : fixed_size.f a = some (siz a) := by
  unfold fixed_size.f siz
  simp only [u64w]
  split
  · congr 1; omega
  · congr 1; omega

theorem fixed_hold_eq {k : Nat} (hk : 1 ≤ k) {m : Int} (h0 : 0 ≤ m) (h1 : m < 18446744073709551616) (b : Bool) : fixed_hold.f k m b = some (hold (sgn b m)) := by
  obtain ⟨k, rfl⟩ : ∃ n, k = n + 1 := ⟨k - 1, by omega⟩
  unfold fixed_hold.f fixed_hold.j0 sgn hold
  cases b
  · simp only [Bool.false_eq_true, if_false]
    rw [if_neg (show ¬ m < -9223372036854775808 from by omega)]
    split
    · rfl
    · congr 1; unfold wrap64; omega
  · simp only [if_true]
    by_cases h : m ≥ 9223372036854775808
    · rw [if_pos (decide_eq_true h)]
      split
      · rfl
      · rw [if_neg (by omega)]; congr 1; omega
    · rw [if_neg (by simpa using h), if_neg (by omega), if_neg (by omega)]
      congr 1; unfold wrap64; omega

theorem fixed_Div_eq {k : Nat} (hk : 1 ≤ k) {a b : Int} (ha : I64 a) (hb : I64 b) : fixed_Div.f k a b = some (hold (rdiv a b)) := by
  unfold fixed_Div.f
  by_cases hb0 : b = 0
  · rw [if_pos hb0, hb0]; simp [rdiv, hold]
  rw [if_neg hb0, fixed_size_eq ha, fixed_size_eq hb]
  simp only [Option.bind_some]
  have ua := siz_u ha
  have ub := siz_u hb
  have ub0 : siz b ≠ 0 := fun h => hb0 (siz_zero.1 h)
  simp only [if_neg ub0]
  have e := sgn_xor (decide (a < 0)) b (siz a) hb0
  rw [sgn_siz a, rdiv_sgn _ ua.1 (by omega)] at e
  rw [← e]
  generalize (decide (a < 0) != decide (b < 0)) = s
  rw [Int.tdiv_eq_ediv_of_nonneg ua.1, Int.tmod_eq_emod_of_nonneg ua.1]
  have r0 := Int.emod_nonneg (siz a) ub0
  have r1 := Int.emod_lt_of_pos (siz a) (show 0 < siz b from by omega)
  have q0 : 0 ≤ siz a / siz b := Int.ediv_nonneg ua.1 ub.1
  have q1 : siz a / siz b ≤ siz a := Int.ediv_le_self _ ua.1
  generalize siz a / siz b = q at *
  generalize siz a % siz b = r at *
  simp only [u64w]
  rw [show (siz b - r) % 18446744073709551616 = siz b - r from by omega, show q % 18446744073709551616 = q from by omega, show (q + 1) % 18446744073709551616 = q + 1 from by omega]
  have hq : ∀ b, fixed_hold.f k q b = some (hold (sgn b q)) := fixed_hold_eq hk (by omega) (by omega)
  have hq1 : ∀ b, fixed_hold.f k (q + 1) b = some (hold (sgn b (q + 1))) := fixed_hold_eq hk (by omega) (by omega)
  simp only [hq, hq1]
  cases s
  · simp only [Bool.false_eq_true, if_false, Option.bind_some]; split <;> rfl
  · simp only [if_true, Option.bind_some]; split <;> rfl

theorem fixed_Shift_eq {x n : Int} (hx : I64 x) (hn : I64 n) : fixed_Shift.f x n = some (sh x n) := by
  unfold fixed_Shift.f sh
  by_cases h0 : n ≤ 0
  · rw [if_pos h0, if_pos h0]
  rw [if_neg h0, if_neg h0]
  by_cases h1 : n ≥ 64
  · rw [if_pos h1, rdiv_far (x := x) _ hx]
    calc (18446744073709551616 : Int) = 2 ^ 64 := by decide
      _ ≤ 2 ^ n.toNat := pow_le (by omega)
  rw [if_neg h1, if_pos (by omega), w64_id (show -9223372036854775808 ≤ n - 1 from by omega) (by omega), if_pos (by omega), i64and1, rdiv_pow x n.toNat (by omega)]
  unfold shr
  simp only [IntKind.bits]
  rw [Nat.min_eq_left (by omega), Nat.min_eq_left (by omega)]
  rw [show (n - 1).toNat = n.toNat - 1 from by omega]
  congr 1
  have hp := pow_pos n.toNat
  have h2 : (2 : Int) ≤ 2 ^ n.toNat := by
    calc (2 : Int) = 2 ^ 1 := by decide
      _ ≤ 2 ^ n.toNat := pow_le (by omega)
  have q0 : -4611686018427387904 ≤ x / 2 ^ n.toNat := by
    rw [Int.le_ediv_iff_mul_le hp]
    calc -4611686018427387904 * 2 ^ n.toNat ≤ -4611686018427387904 * 2 := Int.mul_le_mul_of_nonpos_left (by decide) h2
      _ ≤ x := by omega
  have q1 : x / 2 ^ n.toNat < 4611686018427387904 := by
    rw [Int.ediv_lt_iff_lt_mul hp]
    calc x < 4611686018427387904 * 2 := by omega
      _ ≤ 4611686018427387904 * 2 ^ n.toNat := Int.mul_le_mul_of_nonneg_left h2 (by decide)
  exact w64_id (by omega) (by omega)

theorem ref01_Size_eq {a : Int} (ha : I64 a) : smaltoref01_Size.f a = some (siz a) := by
  unfold smaltoref01_Size.f siz wrap64
  simp only [u64w]
  split
  · congr 1; omega
  · congr 1; omega

theorem ref01_Hold_eq {k : Nat} (hk : 1 ≤ k) {h l : Int} (hh : U64 h) (hl : U64 l) (b : Bool) : smaltoref01_Hold.f k h l b = some (hold (sgn b (h * 18446744073709551616 + l))) := by
  obtain ⟨k, rfl⟩ : ∃ n, k = n + 1 := ⟨k - 1, by omega⟩
  unfold smaltoref01_Hold.f sgn hold
  cases b
  · simp only [Bool.false_eq_true, if_false]
    rw [if_neg (show ¬ h * 18446744073709551616 + l < -9223372036854775808 from by omega)]
    by_cases c : h > 0
    · rw [if_pos c, if_pos (by omega)]
    · rw [if_neg c]
      by_cases d : l > 9223372036854775807
      · rw [if_pos d, if_pos (by omega)]
      · rw [if_neg d, if_neg (by omega)]; congr 1; unfold wrap64; omega
  · simp only [if_true]
    simp only [smaltoref01_Hold.j0]
    by_cases c : h > 0
    · rw [if_pos c, if_pos trivial, if_pos (by omega)]
    · rw [if_neg c]
      by_cases d : l > 9223372036854775807
      · rw [if_pos (decide_eq_true d)]
        by_cases e : l = 9223372036854775808
        · rw [if_neg (by omega), if_neg (by omega)]; congr 1; omega
        · rw [if_pos (by omega)]
      · rw [if_neg (by simpa using d), if_neg (by omega), if_neg (by omega)]; congr 1; unfold wrap64; omega

theorem ref01_Plus_eq {a b c d : Int} (_ha : U64 a) (hb : U64 b) (_hc : U64 c) (hd : U64 d) :
    smaltoref01_Plus.f a b c d = some ((a + c + (b + d) / 18446744073709551616) % 18446744073709551616, (b + d) % 18446744073709551616) := by
  unfold smaltoref01_Plus.f
  simp only [u64w]
  split
  · congr 2; omega
  · congr 2; omega

theorem ref01_Minus_eq {a b c d : Int} (_ha : U64 a) (hb : U64 b) (_hc : U64 c) (hd : U64 d) :
    smaltoref01_Minus.f a b c d = some ((a - c + (b - d) / 18446744073709551616) % 18446744073709551616, (b - d) % 18446744073709551616) := by
  unfold smaltoref01_Minus.f
  simp only [u64w]
  split
  · congr 2; omega
  · congr 2; omega

theorem ref01_Twice_eq {a b c : Int} (_ha : U64 a) (_hb : U64 b) (_hc : 0 ≤ c ∧ c ≤ 1) :
    smaltoref01_Twice.f a b c = some ((2 * a + b / 9223372036854775808) % 18446744073709551616, (2 * b + c) % 18446744073709551616) := by
  unfold smaltoref01_Twice.f
  simp only [u64w]
  congr 2 <;> omega

theorem ref01_Less_eq {a b c d : Int} (_ha : U64 a) (hb : U64 b) (_hc : U64 c) (hd : U64 d) :
    smaltoref01_Less.f a b c d = some (decide (a * 18446744073709551616 + b < c * 18446744073709551616 + d)) := by
  unfold smaltoref01_Less.f
  split
  · congr 1; exact decide_eq_decide.2 (by omega)
  · congr 1; exact decide_eq_decide.2 (by omega)

theorem ref01_Bit_eq {a b : Int} (ha : U64 a) (hb : U64 b) (i : Nat) (hi : i < 128) :
    smaltoref01_Bit.f a b i = some ((a * 18446744073709551616 + b) / 2 ^ i % 2) := by
  have e64 : (18446744073709551616 : Int) = 2 ^ 64 := by decide
  unfold smaltoref01_Bit.f
  by_cases h : (i : Int) ≥ 64
  · rw [if_pos h, w64_id (show -9223372036854775808 ≤ (i : Int) - 64 from by omega) (by omega), if_pos (by omega), u64and1]
    unfold shr
    simp only [IntKind.bits]
    rw [show ((i : Int) - 64).toNat = i - 64 from by omega, Nat.min_eq_left (by omega)]
    congr 2
    have : (2 : Int) ^ i = 2 ^ 64 * 2 ^ (i - 64) := by rw [← Int.pow_add]; congr 1; omega
    rw [this, ← Int.ediv_ediv_of_nonneg (by decide), ← e64]
    congr 1; omega
  · rw [if_neg h, if_pos (by omega), u64and1]
    unfold shr
    simp only [IntKind.bits]
    rw [show ((i : Int)).toNat = i from by omega, Nat.min_eq_left (by omega)]
    congr 1
    have : (18446744073709551616 : Int) = 2 ^ i * (2 * 2 ^ (63 - i)) := by
      rw [e64, ← pow_succ2, ← Int.pow_add]; congr 1; omega
    rw [this, Int.mul_left_comm, Int.add_comm, Int.add_mul_ediv_left _ _ (by have := pow_pos i; omega), Int.mul_left_comm, Int.add_comm, Int.mul_add_emod_self_left]

theorem lives01 {k : Nat} (hk : 300 ≤ k) : smaltolaw01_Lives.f k = some true :=
  at_rounds (fun k => smaltolaw01_Lives.mono k) hk (show smaltolaw01_Lives.f 300 = some true by decide +kernel)

theorem pow_mul_succ (a : Int) (i : Nat) : a / 2 ^ i * 2 ^ i = a / 2 ^ (i + 1) * 2 ^ (i + 1) + a / 2 ^ i % 2 * 2 ^ i := by
  have h := half_pow a i
  rw [pow_succ2] at h
  rw [pow_succ2, Int.mul_left_comm, ← Int.mul_assoc, ← Int.add_mul]
  congr 1
theorem ref01_Shift_l3 (x sh sl mh ml qh ql rh rl : Int) (i : Nat) (hi : i ≤ 127) (hrh : U64 rh) (hrl : U64 rl) (hr : 2 ^ i ≤ rh * 18446744073709551616 + rl) : ∀ (d k j : Nat) (ph pl : Int), j + d = i → d < k → U64 ph → U64 pl →
    ph * 18446744073709551616 + pl = 2 ^ j →
    ∃ rh' rl' : Int, U64 rh' ∧ U64 rl' ∧ rh' * 18446744073709551616 + rl' = rh * 18446744073709551616 + rl - 2 ^ i ∧
    smaltoref01_Shift.l3 k x (i : Int) (i : Int) (j : Int) sh sl mh ml qh ql rh rl ph pl = smaltoref01_Shift.l2 (k - d - 1) x ((i + 1 : Nat) : Int) sh sl mh ml qh ql rh' rl' := by
  have hb : (2 : Int) ^ i ≤ 170141183460469231731687303715884105728 := by
    calc (2 : Int) ^ i ≤ 2 ^ 127 := pow_le hi
      _ = _ := by decide
  intro d
  induction d with
  | zero =>
    intro k j ph pl hj hk hph hpl he
    obtain ⟨k, rfl⟩ : ∃ m, k = m + 1 := ⟨k - 1, by omega⟩
    rw [smaltoref01_Shift.l3, if_neg (by omega), ref01_Minus_eq hrh hrl hph hpl]
    simp only [Option.bind_some]
    obtain rfl : j = i := by omega
    rw [w64_id (by omega) (by omega)]
    have hp := pow_pos j
    generalize (2 : Int) ^ j = p at *
    exact ⟨_, _, by omega, by omega, by omega, rfl⟩
  | succ d ih =>
    intro k j ph pl hj hk hph hpl he
    obtain ⟨k, rfl⟩ : ∃ m, k = m + 1 := ⟨k - 1, by omega⟩
    rw [smaltoref01_Shift.l3, if_pos (by omega), ref01_Twice_eq hph hpl (by omega)]
    simp only [Option.bind_some]
    rw [w64_id (by omega) (by omega), show ((j : Int) + 1) = ((j + 1 : Nat) : Int) from by omega]
    have hp := pow_pos j
    have hp2 : (2 : Int) ^ (j + 1) ≤ 2 ^ i := pow_le (by omega)
    rw [pow_succ2] at hp2
    obtain ⟨r1, r2, a1, a2, a3, a4⟩ := ih k (j + 1) _ _ (by omega) (by omega) (show U64 ((2 * ph + pl / 9223372036854775808) % 18446744073709551616) from by omega) (show U64 ((2 * pl + 0) % 18446744073709551616) from by omega) (by
      rw [pow_succ2]; generalize (2 : Int) ^ j = p at *; omega)
    refine ⟨r1, r2, a1, a2, a3, ?_⟩
    rw [a4, show k + 1 - (d + 1) - 1 = k - d - 1 from by omega]
theorem ref01_Shift_j4 {k : Nat} (hk : 2 ≤ k) (x : Int) (u : Bool) {qh ql : Int} (hqh : U64 qh) (hql : U64 ql) (hq : qh * 18446744073709551616 + ql < 340282366920938463463374607431768211455) :
    smaltoref01_Shift.j4 k x u qh ql = some (hold (sgn (decide (x < 0)) (qh * 18446744073709551616 + ql + if u = true then 1 else 0))) := by
  obtain ⟨k, rfl⟩ : ∃ m, k = m + 1 := ⟨k - 1, by omega⟩
  rw [smaltoref01_Shift.j4]
  cases u
  · rw [if_neg (by decide), if_neg (by decide), ref01_Hold_eq (by omega) hqh hql]
    simp only [Option.bind_some]; congr 3; omega
  · rw [if_pos rfl, if_pos rfl, ref01_Plus_eq hqh hql (by omega) (by omega)]
    simp only [Option.bind_some]
    rw [ref01_Hold_eq (by omega) (by omega) (by omega)]
    simp only [Option.bind_some]; congr 3; omega
theorem ref01_Shift_l2 (x sh sl mh ml qh ql : Int) (n : Nat) (hsh : U64 sh) (hsl : U64 sl) (hmh : U64 mh) (hml : U64 ml) (hqh : U64 qh) (hql : U64 ql)
    (hq : qh * 18446744073709551616 + ql < 340282366920938463463374607431768211455) (R : Int) (hR : (mh * 18446744073709551616 + ml) % 2 ^ n = R) : ∀ (d k i : Nat) (rh rl : Int), i + d = 128 → d * 200 + 10 < k → U64 rh → U64 rl →
    rh * 18446744073709551616 + rl = R + (mh * 18446744073709551616 + ml) / 2 ^ i * 2 ^ i →
    smaltoref01_Shift.l2 k x (i : Int) sh sl mh ml qh ql rh rl = some (hold (sgn (decide (x < 0)) (qh * 18446744073709551616 + ql +
      if (if x < 0 then decide (sh * 18446744073709551616 + sl < R) else !decide (R < sh * 18446744073709551616 + sl)) = true then 1 else 0))) := by
  have R0 : 0 ≤ R := by rw [← hR]; exact Int.emod_nonneg _ (by have := pow_pos n; omega)
  intro d
  induction d with
  | zero =>
    intro k i rh rl hi hk hrh hrl he
    obtain ⟨k, rfl⟩ : ∃ m, k = m + 1 := ⟨k - 1, by omega⟩
    rw [Int.ediv_eq_zero_of_lt (by omega) (by rw [show i = 128 from by omega]; have : (2 : Int) ^ 128 = 340282366920938463463374607431768211456 := by decide
                                              omega)] at he
    rw [smaltoref01_Shift.l2, if_neg (by omega), ref01_Less_eq hrh hrl hsh hsl, ref01_Less_eq hsh hsl hrh hrl]
    simp only [Option.bind_some]
    rw [show rh * 18446744073709551616 + rl = R from by omega]
    split
    · rw [ref01_Shift_j4 (by omega) x _ hqh hql hq]
    · rw [ref01_Shift_j4 (by omega) x _ hqh hql hq]
  | succ d ih =>
    intro k i rh rl hi hk hrh hrl he
    obtain ⟨k, rfl⟩ : ∃ m, k = m + 1 := ⟨k - 1, by omega⟩
    rw [smaltoref01_Shift.l2, if_pos (by omega), ref01_Bit_eq hmh hml i (by omega)]
    simp only [Option.bind_some]
    have hs := pow_mul_succ (mh * 18446744073709551616 + ml) i
    have hq0 : 0 ≤ (mh * 18446744073709551616 + ml) / 2 ^ (i + 1) * 2 ^ (i + 1) := Int.mul_nonneg (Int.ediv_nonneg (by omega) (by have := pow_pos (i + 1); omega)) (by have := pow_pos (i + 1); omega)
    split
    · rename_i hb
      rw [hb, Int.one_mul] at hs
      obtain ⟨r1, r2, a1, a2, a3, a4⟩ := ref01_Shift_l3 x sh sl mh ml qh ql rh rl i (by omega) hrh hrl (by omega) i k 0 0 1 (by omega) (by omega) (by omega) (by omega) (by decide)
      have a4' : smaltoref01_Shift.l3 k x (i : Int) (i : Int) 0 sh sl mh ml qh ql rh rl 0 1 = _ := a4
      rw [a4', ih (k - i - 1) (i + 1) r1 r2 (by omega) (by omega) a1 a2 (by omega)]
    · rename_i hb
      rw [show (mh * 18446744073709551616 + ml) / 2 ^ i % 2 = 0 from by omega, Int.zero_mul, Int.add_zero] at hs
      rw [w64_id (by omega) (by omega), show ((i : Int) + 1) = ((i + 1 : Nat) : Int) from by omega]
      exact ih k (i + 1) rh rl (by omega) (by omega) hrh hrl (by omega)
theorem ref01_Shift_l1 (x sh sl mh ml : Int) (n : Nat) (hn : 1 ≤ n ∧ n ≤ 64) (hsh : U64 sh) (hsl : U64 sl) (hmh : U64 mh) (hml : U64 ml) : ∀ (d k : Nat) (qh ql : Int), d + n ≤ 128 → d + 30000 < k → U64 qh → U64 ql →
    qh * 18446744073709551616 + ql = (mh * 18446744073709551616 + ml) / 2 ^ (n + d) →
    smaltoref01_Shift.l1 k x (n : Int) (((n + d : Nat) : Int) - 1) sh sl mh ml qh ql = some (hold (sgn (decide (x < 0)) ((mh * 18446744073709551616 + ml) / 2 ^ n +
      if (if x < 0 then decide (sh * 18446744073709551616 + sl < (mh * 18446744073709551616 + ml) % 2 ^ n) else !decide ((mh * 18446744073709551616 + ml) % 2 ^ n < sh * 18446744073709551616 + sl)) = true then 1 else 0))) := by
  intro d
  have hn2 : (2 : Int) ≤ 2 ^ n := by
    calc (2 : Int) = 2 ^ 1 := by decide
      _ ≤ 2 ^ n := pow_le (by omega)
  have hh : ∀ a : Int, 0 ≤ a → 2 * (a / 2 ^ n) ≤ a := by
    intro a ha
    have := Int.mul_ediv_add_emod a (2 ^ n)
    have h0 := Int.emod_nonneg a (show (2 : Int) ^ n ≠ 0 from by omega)
    have h1 : 2 * (a / 2 ^ n) ≤ 2 ^ n * (a / 2 ^ n) := Int.mul_le_mul_of_nonneg_right hn2 (Int.ediv_nonneg ha (by omega))
    omega
  induction d with
  | zero =>
    intro k qh ql hd hk hqh hql he
    obtain ⟨k, rfl⟩ : ∃ m, k = m + 1 := ⟨k - 1, by omega⟩
    rw [smaltoref01_Shift.l1, if_neg (by omega)]
    rw [Nat.add_zero] at he
    have := hh (mh * 18446744073709551616 + ml) (by omega)
    have e := Int.mul_ediv_add_emod (mh * 18446744073709551616 + ml) (2 ^ n)
    rw [ref01_Shift_l2 x sh sl mh ml qh ql n hsh hsl hmh hml hqh hql (by omega) _ rfl (128 - n) k n mh ml (by omega) (by omega) hmh hml (by rw [Int.mul_comm ((mh * 18446744073709551616 + ml) / 2 ^ n)]; omega), he]
  | succ d ih =>
    intro k qh ql hd hk hqh hql he
    obtain ⟨k, rfl⟩ : ∃ m, k = m + 1 := ⟨k - 1, by omega⟩
    rw [smaltoref01_Shift.l1, if_pos (by omega), show (((n + (d + 1) : Nat) : Int) - 1) = ((n + d : Nat) : Int) from by omega, ref01_Bit_eq hmh hml (n + d) (by omega)]
    simp only [Option.bind_some]
    rw [ref01_Twice_eq hqh hql (by omega), w64_id (by omega) (by omega)]
    simp only [Option.bind_some]
    have hs := half_pow (mh * 18446744073709551616 + ml) (n + d)
    have hq : (mh * 18446744073709551616 + ml) / 2 ^ (n + d) ≤ mh * 18446744073709551616 + ml := Int.ediv_le_self _ (by omega)
    rw [show n + (d + 1) = n + d + 1 from rfl] at he
    exact ih k _ _ (by omega) (by omega) (by omega) (by omega) (by omega)
theorem ref01_Shift_l0 (x : Int) (hx : I64 x) (n : Nat) (hn : 1 ≤ n ∧ n ≤ 64) : ∀ (d k i : Nat) (ph pl : Int), i + d + 1 = n → d + 40000 < k → U64 ph → U64 pl → ph * 18446744073709551616 + pl = 2 ^ i →
    smaltoref01_Shift.l0 k x (n : Int) ((n : Int) - 1) (i : Int) ph pl = some (hold (rdiv x (2 ^ n))) := by
  intro d
  induction d with
  | zero =>
    intro k i ph pl hi hk hph hpl he
    obtain ⟨k, rfl⟩ : ∃ m, k = m + 1 := ⟨k - 1, by omega⟩
    have u := siz_u hx
    rw [smaltoref01_Shift.l0, if_neg (by omega), ref01_Size_eq hx]
    simp only [Option.bind_some]
    have p128 : (2 : Int) ^ 128 = 340282366920938463463374607431768211456 := by decide
    have h := ref01_Shift_l1 x ph pl 0 (siz x) n hn hph hpl (by omega) (by omega) (128 - n) k 0 0 (by omega) (by omega) (by omega) (by omega) (by
      rw [show n + (128 - n) = 128 from by omega, Int.ediv_eq_zero_of_lt (by omega) (by omega)]; rfl)
    rw [show (((n + (128 - n) : Nat) : Int) - 1) = 127 from by omega] at h
    rw [h]
    rw [show 0 * 18446744073709551616 + siz x = siz x from by omega, he]
    have e : rdiv x (2 ^ n) = rdiv (sgn (decide (x < 0)) (siz x)) (2 ^ n) := by rw [sgn_siz]
    rw [e, rdiv_sgn _ u.1 (pow_pos n)]
    have h2 : (2 : Int) ^ n = 2 * 2 ^ i := by rw [← pow_succ2]; congr 1; omega
    have r0 := Int.emod_nonneg (siz x) (show (2 : Int) ^ n ≠ 0 from by have := pow_pos n; omega)
    generalize siz x % 2 ^ n = r at *
    generalize siz x / 2 ^ n = q at *
    rw [h2]
    generalize (2 : Int) ^ i = p at *
    congr 3
    by_cases c : x < 0
    · rw [if_pos c, if_pos (decide_eq_true c)]
      by_cases g : p < r
      · rw [if_pos (decide_eq_true g), if_pos (by omega)]
      · rw [if_neg (by simpa using g), if_neg (by omega)]; omega
    · rw [if_neg c, if_neg (show ¬ (decide (x < 0) = true) from by simpa using c)]
      by_cases g : r < p
      · rw [if_neg (by simpa using g), if_neg (by omega)]; omega
      · rw [if_pos (by simpa using g), if_pos (by omega)]
  | succ d ih =>
    intro k i ph pl hi hk hph hpl he
    obtain ⟨k, rfl⟩ : ∃ m, k = m + 1 := ⟨k - 1, by omega⟩
    rw [smaltoref01_Shift.l0, if_pos (by omega), ref01_Twice_eq hph hpl (by omega)]
    simp only [Option.bind_some]
    rw [w64_id (by omega) (by omega), show ((i : Int) + 1) = ((i + 1 : Nat) : Int) from by omega]
    have hp := pow_pos i
    have hb : (2 : Int) ^ i ≤ 9223372036854775808 := by
      calc (2 : Int) ^ i ≤ 2 ^ 63 := pow_le (by omega)
        _ = _ := by decide
    exact ih k (i + 1) _ _ (by omega) (by omega) (by omega) (by omega) (by rw [pow_succ2]; omega)
theorem ref01_Shift_eq {k : Nat} (hk : 50000 ≤ k) {x n : Int} (hx : I64 x) (hn : I64 n) : smaltoref01_Shift.f k x n = some (sh x n) := by
  unfold smaltoref01_Shift.f sh
  by_cases h0 : n < 1
  · rw [if_pos h0, if_pos (by omega)]
  rw [if_neg h0, if_neg (show ¬ n ≤ 0 from by omega)]
  by_cases h1 : n > 64
  · rw [if_pos h1, rdiv_far (x := x) _ hx]
    calc (18446744073709551616 : Int) = 2 ^ 64 := by decide
      _ ≤ 2 ^ n.toNat := pow_le (by omega)
  rw [if_neg h1, w64_id (by omega) (by omega)]
  have e : n = (n.toNat : Int) := by omega
  have h := ref01_Shift_l0 x hx n.toNat (by omega) (n.toNat - 1) k 0 0 1 (by omega) (by omega) (by omega) (by omega) (by decide)
  rw [← e] at h
  have h' : smaltoref01_Shift.l0 k x n (n - 1) 0 0 1 = _ := h
  rw [h']
  congr 1
  refine hold_id ?_ ?_
  · rw [rdiv_pow x n.toNat (by omega)]
    have hp := pow_pos n.toNat
    have : -9223372036854775808 ≤ x / 2 ^ n.toNat := by
      rw [Int.le_ediv_iff_mul_le hp]
      have : -9223372036854775808 * 2 ^ n.toNat ≤ -9223372036854775808 * 1 := Int.mul_le_mul_of_nonpos_left (by decide) (by omega)
      omega
    omega
  · rw [rdiv_pow x n.toNat (by omega)]
    have h2 : (2 : Int) ≤ 2 ^ n.toNat := by
      calc (2 : Int) = 2 ^ 1 := by decide
        _ ≤ 2 ^ n.toNat := pow_le (by omega)
    have : x / 2 ^ n.toNat < 4611686018427387904 := by
      rw [Int.ediv_lt_iff_lt_mul (pow_pos _)]
      calc x < 4611686018427387904 * 2 := by omega
        _ ≤ 4611686018427387904 * 2 ^ n.toNat := Int.mul_le_mul_of_nonneg_left h2 (by decide)
    omega

theorem sh_range {x n : Int} (hx : I64 x) : I64 (sh x n) := by
  unfold sh
  split
  · exact hx
  · by_cases h : 64 ≤ n
    · rw [rdiv_far (x := x) _ hx]
      · constructor <;> omega
      · calc (18446744073709551616 : Int) = 2 ^ 64 := by decide
          _ ≤ 2 ^ n.toNat := pow_le (by omega)
    · rw [rdiv_pow x n.toNat (by omega)]
      have hp := pow_pos n.toNat
      have h2 : (2 : Int) ≤ 2 ^ n.toNat := by
        calc (2 : Int) = 2 ^ 1 := by decide
          _ ≤ 2 ^ n.toNat := pow_le (by omega)
      have a : -9223372036854775808 ≤ x / 2 ^ n.toNat := by
        rw [Int.le_ediv_iff_mul_le hp]
        have : -9223372036854775808 * 2 ^ n.toNat ≤ -9223372036854775808 * 1 := Int.mul_le_mul_of_nonpos_left (by decide) (by omega)
        omega
      have b : x / 2 ^ n.toNat < 4611686018427387904 := by
        rw [Int.ediv_lt_iff_lt_mul hp]
        calc x < 4611686018427387904 * 2 := by omega
          _ ≤ 4611686018427387904 * 2 ^ n.toNat := Int.mul_le_mul_of_nonneg_left h2 (by decide)
      constructor <;> omega
theorem FixedShifts_pure : smaltolaw01_FixedShifts.Pure := by
  intro x n hx hn
  refine ⟨50000, ?_⟩
  have hx := wf64 hx
  have hn := wf64 hn
  unfold smaltolaw01_FixedShifts.f
  rw [lives01 (by omega), fixed_Shift_eq hx hn, ref01_Shift_eq (by omega) hx hn]
  simp only [Option.bind_some, if_true]
  by_cases h0 : n < 0
  · rw [if_pos h0]
  rw [if_neg h0]
  by_cases h1 : n > 62
  · rw [if_pos h1]
  rw [if_neg h1, if_pos (by omega)]
  have e : shl .i64 1 n = 2 ^ n.toNat := by
    unfold shl
    simp only [IntKind.bits]
    rw [Nat.min_eq_left (by omega), i64w, Int.one_mul]
    have hp := pow_pos n.toNat
    have : (2 : Int) ^ n.toNat ≤ 4611686018427387904 := by
      calc (2 : Int) ^ n.toNat ≤ 2 ^ 62 := pow_le (by omega)
        _ = _ := by decide
    exact w64_id (by omega) (by omega)
  have hp := pow_pos n.toNat
  have hb : (2 : Int) ^ n.toNat ≤ 4611686018427387904 := by
    calc (2 : Int) ^ n.toNat ≤ 2 ^ 62 := pow_le (by omega)
      _ = _ := by decide
  rw [e, fixed_Div_eq (by omega) hx (by constructor <;> omega)]
  simp only [Option.bind_some]
  have hr := @sh_range x n hx
  have es : sh x n = rdiv x (2 ^ n.toNat) := by
    unfold sh
    split
    · rw [show n.toNat = 0 from by omega, Int.pow_zero, rdiv_one]
    · rfl
  rw [← es, hold_id hr.1 hr.2]; simp

end Go.Proofs.Ytofmgoihoaookaa.QA
