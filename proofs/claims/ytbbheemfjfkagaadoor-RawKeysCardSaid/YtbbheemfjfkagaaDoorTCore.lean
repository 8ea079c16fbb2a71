/- Plain lemmas on whole numbers: wrapping, holding, rounding. No program in sight. -/
import Derived.RowKit
import Derived.Laws.BitsLemmas
import Derived.Test.YtbbheemfjfkagaaDoorWMore
namespace Go.Proofs.YtbbheemfjfkagaaDoor.T
open Go.RowKit Go.Proofs.YtbbheemfjfkagaaDoorW.PrintWords Go.Proofs.YtbbheemfjfkagaaDoorW.PrintLast Go.Proofs.YtbbheemfjfkagaaDoorW.PrintMore

theorem u64w (n : Int) : IntKind.u64.wrap n = n % 18446744073709551616 := by simp [IntKind.wrap, IntKind.bits, IntKind.signed]
theorem i64w (n : Int) : IntKind.i64.wrap n = wrap64 n := by rw [IntKind.wrap_i64]; unfold wrap64; omega

theorem wf64 {x : Int} (h : (Lit.int .i64 x).wf = true) : -9223372036854775808 ≤ x ∧ x ≤ 9223372036854775807 := by
  simp [Lit.wf, IntKind.min, IntKind.max, IntKind.bits, IntKind.signed] at h; exact h
theorem wfu64 {x : Int} (h : (Lit.int .u64 x).wf = true) : 0 ≤ x ∧ x ≤ 18446744073709551615 := by
  simp [Lit.wf, IntKind.min, IntKind.max, IntKind.bits, IntKind.signed] at h; exact h
theorem wfu8 {x : Int} (h : (Lit.int .u8 x).wf = true) : 0 ≤ x ∧ x ≤ 255 := by
  simp [Lit.wf, IntKind.min, IntKind.max, IntKind.bits, IntKind.signed] at h; exact h
theorem wfu16 {x : Int} (h : (Lit.int .u16 x).wf = true) : 0 ≤ x ∧ x ≤ 65535 := by
  simp [Lit.wf, IntKind.min, IntKind.max, IntKind.bits, IntKind.signed] at h; exact h
theorem wfu32 {x : Int} (h : (Lit.int .u32 x).wf = true) : 0 ≤ x ∧ x ≤ 4294967295 := by
  simp [Lit.wf, IntKind.min, IntKind.max, IntKind.bits, IntKind.signed] at h; exact h
theorem wfi32 {x : Int} (h : (Lit.int .i32 x).wf = true) : -2147483648 ≤ x ∧ x ≤ 2147483647 := by
  simp [Lit.wf, IntKind.min, IntKind.max, IntKind.bits, IntKind.signed] at h; exact h
theorem wfi16 {x : Int} (h : (Lit.int .i16 x).wf = true) : -32768 ≤ x ∧ x ≤ 32767 := by
  simp [Lit.wf, IntKind.min, IntKind.max, IntKind.bits, IntKind.signed] at h; exact h

theorem w64_id {x : Int} (h0 : -9223372036854775808 ≤ x) (h1 : x ≤ 9223372036854775807) : wrap64 x = x := by unfold wrap64; omega

/-- Masks of low bits, of any sign. -/
theorem and_mask (k : IntKind) (x : Int) (i : Nat) (hi : i ≤ k.bits) (hw : k.wrap (x % 2 ^ i) = x % 2 ^ i) : bits .and k x (2 ^ i - 1) = x % 2 ^ i := by
  have hc : ((2 : Int) ^ i - 1) = ((2 ^ i - 1 : Nat) : Int) := by
    rw [Int.natCast_sub (Nat.two_pow_pos i)]; simp
  have h1 : (BitVec.ofInt k.bits (2 ^ i - 1)).toNat = 2 ^ i - 1 := by
    rw [hc, BitVec.ofInt_natCast, BitVec.toNat_ofNat, Nat.mod_eq_of_lt]
    exact Nat.lt_of_lt_of_le (Nat.sub_lt (Nat.two_pow_pos i) (by decide)) (Nat.pow_le_pow_right (by decide) hi)
  have h2 : (((BitVec.ofInt k.bits x).toNat : Nat) : Int) = x % 2 ^ k.bits := by
    rw [BitVec.toNat_ofInt, Int.toNat_of_nonneg (Int.emod_nonneg _ (by have := Nat.two_pow_pos k.bits; omega))]
    simp
  have h3 : ((((BitVec.ofInt k.bits x) &&& (BitVec.ofInt k.bits (2 ^ i - 1))).toNat : Nat) : Int) = x % 2 ^ i := by
    rw [BitVec.toNat_and, h1, Nat.and_two_pow_sub_one_eq_mod]
    rw [Int.natCast_emod, h2]
    simp only [Int.natCast_pow, Int.cast_ofNat_Int]
    exact Int.emod_emod_of_dvd x ⟨2 ^ (k.bits - i), by rw [← Int.pow_add]; congr 1; omega⟩
  simp only [bits]
  rw [h3, hw]

theorem u64and1 (x : Int) : bits .and .u64 x 1 = x % 2 := by
  have := and_mask .u64 x 1 (by decide) (by rw [u64w]; omega)
  simpa using this
theorem i64and1 (x : Int) : bits .and .i64 x 1 = x % 2 := by
  have := and_mask .i64 x 1 (by decide) (by rw [i64w]; unfold wrap64; omega)
  simpa using this
theorem u64and32 (x : Int) : bits .and .u64 x 4294967295 = x % 4294967296 := by
  have := and_mask .u64 x 32 (by decide) (by rw [u64w]; omega)
  simpa using this

/-- Held within 64 bits. -/
def hold (m : Int) : Int := if m < -9223372036854775808 then -9223372036854775808 else if m > 9223372036854775807 then 9223372036854775807 else m
theorem hold_ge (m : Int) : -9223372036854775808 ≤ hold m := by unfold hold; split <;> (try split) <;> omega
theorem hold_le (m : Int) : hold m ≤ 9223372036854775807 := by unfold hold; split <;> (try split) <;> omega
theorem hold_id {m : Int} (h0 : -9223372036854775808 ≤ m) (h1 : m ≤ 9223372036854775807) : hold m = m := by unfold hold; rw [if_neg (by omega), if_neg (by omega)]

/-- The quotient downwards, of any signs. -/
def flo (a b : Int) : Int := if 0 < b then a / b else (-a) / (-b)
/-- The nearest number to a quotient; of two the greater one. -/
def rdiv (a b : Int) : Int := if 0 < b then (2 * a + b) / (2 * b) else (2 * (-a) + (-b)) / (2 * (-b))
/-- What is left, of any signs. -/
def fmo (a b : Int) : Int := a - b * flo a b

/-- Without sign. -/
def siz (x : Int) : Int := if x < 0 then -x else x
theorem siz_nonneg (x : Int) : 0 ≤ siz x := by unfold siz; split <;> omega

/-- Rounded, without sign: the half goes up (of a number that isn't below), or down (of one that is). -/
theorem near_up {p d : Int} (_hp : 0 ≤ p) (hd : 0 < d) : (2 * p + d) / (2 * d) = if p % d ≥ d - p % d then p / d + 1 else p / d := by
  have e := Int.mul_ediv_add_emod p d
  have r0 := Int.emod_nonneg p (Int.ne_of_gt hd)
  have r1 := Int.emod_lt_of_pos p hd
  have e2 : 2 * p + d = (2 * d) * (p / d) + (2 * (p % d) + d) := by rw [Int.mul_assoc]; omega
  rw [e2, Int.add_comm, Int.add_mul_ediv_left _ _ (by omega)]
  split
  · have : (2 * (p % d) + d) / (2 * d) = 1 := by
      rw [show 2 * (p % d) + d = (2 * (p % d) - d) + (2 * d) * 1 from by omega, Int.add_mul_ediv_left _ _ (by omega), Int.ediv_eq_zero_of_lt (by omega) (by omega)]; omega
    omega
  · have : (2 * (p % d) + d) / (2 * d) = 0 := Int.ediv_eq_zero_of_lt (by omega) (by omega)
    omega
theorem near_dn {p d : Int} (_hp : 0 ≤ p) (hd : 0 < d) : (2 * (-p) + d) / (2 * d) = if p % d > d - p % d then -(p / d + 1) else -(p / d) := by
  have e := Int.mul_ediv_add_emod p d
  have r0 := Int.emod_nonneg p (Int.ne_of_gt hd)
  have r1 := Int.emod_lt_of_pos p hd
  have e2 : 2 * (-p) + d = (2 * d) * (-(p / d)) + (d - 2 * (p % d)) := by rw [Int.mul_assoc, Int.mul_neg, Int.mul_neg]; omega
  rw [e2, Int.add_comm, Int.add_mul_ediv_left _ _ (by omega)]
  split
  · have : (d - 2 * (p % d)) / (2 * d) = -1 := by
      rw [show d - 2 * (p % d) = (3 * d - 2 * (p % d)) + (2 * d) * (-1) from by omega, Int.add_mul_ediv_left _ _ (by omega), Int.ediv_eq_zero_of_lt (by omega) (by omega)]; omega
    omega
  · have : (d - 2 * (p % d)) / (2 * d) = 0 := Int.ediv_eq_zero_of_lt (by omega) (by omega)
    omega

/-- A product's or a number's sign. -/
def sgn (below : Bool) (m : Int) : Int := if below = true then -m else m

theorem sgn_siz2 (a b : Int) : sgn ((decide (a < 0)) != (decide (b < 0))) (siz a * siz b) = a * b := by
  unfold sgn siz
  by_cases h : a < 0 <;> by_cases k : b < 0 <;> simp [h, k, Int.neg_mul, Int.mul_neg]
theorem sgn_siz (a : Int) : sgn (decide (a < 0)) (siz a) = a := by
  unfold sgn siz
  by_cases h : a < 0 <;> simp [h]
theorem sgn_xor (x : Bool) (d p : Int) (_hd : d ≠ 0) : rdiv (sgn (x != decide (d < 0)) p) (siz d) = rdiv (sgn x p) d := by
  unfold sgn siz rdiv
  by_cases k : d < 0
  · rw [if_pos k]
    rw [if_pos (show 0 < -d from by omega), if_neg (show ¬ 0 < d from by omega)]
    cases x <;> simp [k]
  · simp [k]
theorem flo_xor (x : Bool) (d p : Int) (_hd : d ≠ 0) : flo (sgn (x != decide (d < 0)) p) (siz d) = flo (sgn x p) d := by
  unfold sgn siz flo
  by_cases k : d < 0
  · rw [if_pos k]
    rw [if_pos (show 0 < -d from by omega), if_neg (show ¬ 0 < d from by omega)]
    cases x <;> simp [k]
  · simp [k]

theorem rdiv_sgn (below : Bool) {p d : Int} (hp : 0 ≤ p) (hd : 0 < d) :
    rdiv (sgn below p) d = sgn below (if below = true then (if p % d > d - p % d then p / d + 1 else p / d) else (if p % d ≥ d - p % d then p / d + 1 else p / d)) := by
  unfold rdiv sgn
  rw [if_pos hd]
  cases below
  · simp only [Bool.false_eq_true, if_false]; exact near_up hp hd
  · simp only [if_true]; rw [near_dn hp hd]; split <;> rfl
theorem neg_ediv {p d : Int} (hd : 0 < d) : (-p) / d = if p % d = 0 then -(p / d) else -(p / d + 1) := by
  have e := Int.mul_ediv_add_emod p d
  have r0 := Int.emod_nonneg p (Int.ne_of_gt hd)
  have r1 := Int.emod_lt_of_pos p hd
  rw [show -p = -(p % d) + d * (-(p / d)) from by rw [Int.mul_neg]; omega, Int.add_mul_ediv_left _ _ (by omega)]
  split
  · rename_i h; rw [h]; simp
  · have : (-(p % d)) / d = -1 := by
      rw [show -(p % d) = (d - p % d) + d * (-1) from by omega, Int.add_mul_ediv_left _ _ (by omega), Int.ediv_eq_zero_of_lt (by omega) (by omega)]; omega
    omega
theorem flo_sgn (below : Bool) {p d : Int} (hd : 0 < d) :
    flo (sgn below p) d = sgn below (if below = true ∧ p % d ≠ 0 then p / d + 1 else p / d) := by
  unfold flo sgn
  rw [if_pos hd]
  cases below
  · simp
  · simp only [if_true, true_and]; rw [neg_ediv hd]; by_cases h : p % d = 0 <;> simp [h]

/-- Within 64 bits; without sign. -/
abbrev I64 (x : Int) : Prop := -9223372036854775808 ≤ x ∧ x ≤ 9223372036854775807
abbrev U64 (x : Int) : Prop := 0 ≤ x ∧ x < 18446744073709551616
theorem siz_u {a : Int} (h : I64 a) : 0 ≤ siz a ∧ siz a ≤ 9223372036854775808 := by unfold siz; split <;> omega
theorem siz_zero {a : Int} : siz a = 0 ↔ a = 0 := by unfold siz; split <;> omega
theorem hold_i (m : Int) : I64 (hold m) := ⟨hold_ge m, hold_le m⟩

theorem tmod_pos (a : Int) {b : Int} (hb : 0 < b) : a.tmod b = if 0 ≤ a ∨ a % b = 0 then a % b else a % b - b := by
  have e := Int.tmod_eq_emod (a := a) (b := b)
  have hdv := Int.dvd_iff_emod_eq_zero (a := b) (b := a)
  rw [e]
  simp only [hdv]
  split
  · simp
  · rw [Int.natAbs_of_nonneg (by omega)]
/-- What is left. -/
def md (a b : Int) : Int := if b = 0 then 0 else if 0 < b then a % b else -((-a) % (-b))
/-- By bits, rounded. -/
def sh (x n : Int) : Int := if n ≤ 0 then x else rdiv x (2 ^ n.toNat)

theorem pow_pos (n : Nat) : (0 : Int) < 2 ^ n := Int.pow_pos (by decide)
theorem pow_succ2 (n : Nat) : (2 : Int) ^ (n + 1) = 2 * 2 ^ n := by rw [Int.pow_succ, Int.mul_comm]
theorem pow_le {m n : Nat} (h : m ≤ n) : (2 : Int) ^ m ≤ 2 ^ n := by
  obtain ⟨d, rfl⟩ := Nat.exists_eq_add_of_le h
  rw [Int.pow_add]
  have h1 := pow_pos m
  have h2 := pow_pos d
  calc (2 : Int) ^ m = 2 ^ m * 1 := by rw [Int.mul_one]
    _ ≤ 2 ^ m * 2 ^ d := Int.mul_le_mul_of_nonneg_left (by omega) (by omega)
/-- Rounded by a power of two: the part below and its highest bit. -/
theorem rdiv_pow (x : Int) (n : Nat) (hn : 1 ≤ n) : rdiv x (2 ^ n) = x / 2 ^ n + x / 2 ^ (n - 1) % 2 := by
  obtain ⟨m, rfl⟩ : ∃ m, n = m + 1 := ⟨n - 1, by omega⟩
  rw [Nat.add_sub_cancel]
  have hp := pow_pos m
  unfold rdiv
  rw [if_pos (pow_pos _), pow_succ2]
  have e1 : (2 * x + 2 * 2 ^ m) / (2 * (2 * 2 ^ m)) = (x + 2 ^ m) / (2 * 2 ^ m) := by
    rw [← Int.mul_add]; exact Int.mul_ediv_mul_of_pos _ _ (by omega)
  have e2 : (x + 2 ^ m) / (2 * 2 ^ m) = (x / 2 ^ m + 1) / 2 := by
    rw [Int.mul_comm, ← Int.ediv_ediv_of_nonneg (by omega)]
    congr 1
    have := Int.add_mul_ediv_right x 1 (show (2 : Int) ^ m ≠ 0 from by omega)
    rw [Int.one_mul] at this; exact this
  have e3 : x / (2 * 2 ^ m) = x / 2 ^ m / 2 := by rw [Int.mul_comm, ← Int.ediv_ediv_of_nonneg (by omega)]
  rw [e1, e2, e3]
  omega
theorem rdiv_far {x d : Int} (hd : 18446744073709551616 ≤ d) (hx : I64 x) : rdiv x d = 0 := by
  unfold rdiv
  rw [if_pos (by omega)]
  exact Int.ediv_eq_zero_of_lt (by omega) (by omega)
theorem rdiv_one (x : Int) : rdiv x 1 = x := by unfold rdiv; rw [if_pos (by decide)]; omega
theorem div_unique {a d q r : Int} (h : q * d + r = a) (h0 : 0 ≤ r) (h1 : r < d) : a / d = q ∧ a % d = r := by
  subst h
  constructor
  · rw [Int.add_comm, Int.add_mul_ediv_right _ _ (by omega), Int.ediv_eq_zero_of_lt h0 h1]; omega
  · rw [Int.add_comm, Int.add_mul_emod_self_right, Int.emod_eq_of_lt h0 h1]
theorem half_pow (a : Int) (n : Nat) : a / 2 ^ n = 2 * (a / 2 ^ (n + 1)) + a / 2 ^ n % 2 := by
  have e : a / 2 ^ (n + 1) = a / 2 ^ n / 2 := by rw [pow_succ2, Int.mul_comm, ← Int.ediv_ediv_of_nonneg (by have := pow_pos n; omega)]
  rw [e]; omega

theorem sh_range {x n : Int} (hx : I64 x) : I64 (sh x n) := by
  unfold sh
  split
  · exact hx
  · by_cases h : 64 ≤ n
    · rw [rdiv_far (x := x) _ hx]
      · constructor <;> omega
      · calc (18446744073709551616 : Int) = 2 ^ 64 := by decide
          _ ≤ 2 ^ n.toNat := pow_le (by omega)
    · rw [rdiv_pow x n.toNat (by omega)]
      have hp := pow_pos n.toNat
      have h2 : (2 : Int) ≤ 2 ^ n.toNat := by
        calc (2 : Int) = 2 ^ 1 := by decide
          _ ≤ 2 ^ n.toNat := pow_le (by omega)
      have a : -9223372036854775808 ≤ x / 2 ^ n.toNat := by
        rw [Int.le_ediv_iff_mul_le hp]
        have : -9223372036854775808 * 2 ^ n.toNat ≤ -9223372036854775808 * 1 := Int.mul_le_mul_of_nonpos_left (by decide) (by omega)
        omega
      have b : x / 2 ^ n.toNat < 4611686018427387904 := by
        rw [Int.ediv_lt_iff_lt_mul hp]
        calc x < 4611686018427387904 * 2 := by omega
          _ ≤ 4611686018427387904 * 2 ^ n.toNat := Int.mul_le_mul_of_nonneg_left h2 (by decide)
      constructor <;> omega

end Go.Proofs.YtbbheemfjfkagaaDoor.T
