/- Raw weights that are all so many times as great have the same taps: of at most 100 weights, by the law's own guard. -/
import Derived.Test.YtabojpnelbmifaaQAx1
import Derived.Test.YtabojpnelbmifaaQAx2
import Derived.Test.YtabojpnelbmifaaQAx3
import Derived.Test.YtabojpnelbmifaaQAx4
import Derived.Test.YtabojpnelbmifaaQAx8
import Derived.Test.YtabojpnelbmifaaQAx9
import Derived.Test.YtabojpnelbmifaaQAx10
import Derived.Test.YtabojpnelbmifaaQAx11
import Derived.Test.YtabojpnelbmifaaQAx12
import Derived.Test.YtabojpnelbmifaaQAx13
import Derived.Test.YtabojpnelbmifaaQAx14
import Derived.Test.YtabojpnelbmifaaQAx15
import Derived.Test.YtabojpnelbmifaaTCore
import Derived.Test.YtabojpnelbmifaaTExt
import Derived.Test.YtabojpnelbmifaaH06
import Derived.Test.YtabojpnelbmifaaH06p
import Derived.Test.YtabojpnelbmifaaH06e
namespace Go.Proofs.Ytabojpnelbmifaa.QA
open Go.RowKit Go.Proofs.YtabojpnelbmifaaW.PrintWords Go.Proofs.YtabojpnelbmifaaW.PrintLast Go.Proofs.YtabojpnelbmifaaW.PrintMore Go.Proofs.Ytabojpnelbmifaa.T
set_option linter.unusedVariables false

theorem ref01_Size_eq {a : Int} (ha : I64 a) : smaltoref01_Size.f a = some (siz a) := by
  unfold smaltoref01_Size.f siz wrap64
  simp only [u64w]
  split
  · congr 1; omega
  · congr 1; omega

theorem ref01_Hold_eq {k : Nat} (hk : 1 ≤ k) {h l : Int} (hh : U64 h) (hl : U64 l) (b : Bool) : smaltoref01_Hold.f k h l b = some (hold (sgn b (h * 18446744073709551616 + l))) := by
  obtain ⟨k, rfl⟩ : ∃ n, k = n + 1 := ⟨k - 1, by omega⟩
  unfold smaltoref01_Hold.f sgn hold
  cases b
  · simp only [Bool.false_eq_true, if_false]
    rw [if_neg (show ¬ h * 18446744073709551616 + l < -9223372036854775808 from by omega)]
    by_cases c : h > 0
    · rw [if_pos c, if_pos (by omega)]
    · rw [if_neg c]
      by_cases d : l > 9223372036854775807
      · rw [if_pos d, if_pos (by omega)]
      · rw [if_neg d, if_neg (by omega)]; congr 1; unfold wrap64; omega
  · simp only [if_true]
    simp only [smaltoref01_Hold.j0]
    by_cases c : h > 0
    · rw [if_pos c, if_pos trivial, if_pos (by omega)]
    · rw [if_neg c]
      by_cases d : l > 9223372036854775807
      · rw [if_pos (decide_eq_true d)]
        by_cases e : l = 9223372036854775808
        · rw [if_neg (by omega), if_neg (by omega)]; congr 1; omega
        · rw [if_pos (by omega)]
      · rw [if_neg (by simpa using d), if_neg (by omega), if_neg (by omega)]; congr 1; unfold wrap64; omega

theorem ref01_Plus_eq {a b c d : Int} (_ha : U64 a) (hb : U64 b) (_hc : U64 c) (hd : U64 d) :
    smaltoref01_Plus.f a b c d = some ((a + c + (b + d) / 18446744073709551616) % 18446744073709551616, (b + d) % 18446744073709551616) := by
  unfold smaltoref01_Plus.f
  simp only [u64w]
  split
  · congr 2; omega
  · congr 2; omega

theorem ref01_Minus_eq {a b c d : Int} (_ha : U64 a) (hb : U64 b) (_hc : U64 c) (hd : U64 d) :
    smaltoref01_Minus.f a b c d = some ((a - c + (b - d) / 18446744073709551616) % 18446744073709551616, (b - d) % 18446744073709551616) := by
  unfold smaltoref01_Minus.f
  simp only [u64w]
  split
  · congr 2; omega
  · congr 2; omega

theorem ref01_Twice_eq {a b c : Int} (_ha : U64 a) (_hb : U64 b) (_hc : 0 ≤ c ∧ c ≤ 1) :
    smaltoref01_Twice.f a b c = some ((2 * a + b / 9223372036854775808) % 18446744073709551616, (2 * b + c) % 18446744073709551616) := by
  unfold smaltoref01_Twice.f
  simp only [u64w]
  congr 2 <;> omega

theorem ref01_Less_eq {a b c d : Int} (_ha : U64 a) (hb : U64 b) (_hc : U64 c) (hd : U64 d) :
    smaltoref01_Less.f a b c d = some (decide (a * 18446744073709551616 + b < c * 18446744073709551616 + d)) := by
  unfold smaltoref01_Less.f
  split
  · congr 1; exact decide_eq_decide.2 (by omega)
  · congr 1; exact decide_eq_decide.2 (by omega)

theorem ref01_Bit_eq {a b : Int} (ha : U64 a) (hb : U64 b) (i : Nat) (hi : i < 128) :
    smaltoref01_Bit.f a b i = some ((a * 18446744073709551616 + b) / 2 ^ i % 2) := by
  have e64 : (18446744073709551616 : Int) = 2 ^ 64 := by decide
  unfold smaltoref01_Bit.f
  by_cases h : (i : Int) ≥ 64
  · rw [if_pos h, w64_id (show -9223372036854775808 ≤ (i : Int) - 64 from by omega) (by omega), if_pos (by omega), u64and1]
    unfold shr
    simp only [IntKind.bits]
    rw [show ((i : Int) - 64).toNat = i - 64 from by omega, Nat.min_eq_left (by omega)]
    congr 2
    have : (2 : Int) ^ i = 2 ^ 64 * 2 ^ (i - 64) := by rw [← Int.pow_add]; congr 1; omega
    rw [this, ← Int.ediv_ediv_of_nonneg (by decide), ← e64]
    congr 1; omega
  · rw [if_neg h, if_pos (by omega), u64and1]
    unfold shr
    simp only [IntKind.bits]
    rw [show ((i : Int)).toNat = i from by omega, Nat.min_eq_left (by omega)]
    congr 1
    have : (18446744073709551616 : Int) = 2 ^ i * (2 * 2 ^ (63 - i)) := by
      rw [e64, ← pow_succ2, ← Int.pow_add]; congr 1; omega
    rw [this, Int.mul_left_comm, Int.add_comm, Int.add_mul_ediv_left _ _ (by have := pow_pos i; omega), Int.mul_left_comm, Int.add_comm, Int.mul_add_emod_self_left]

theorem ref01_Over_l0 {d ah al : Int} (hd : 0 < d ∧ d < 18446744073709551616) (hah : U64 ah) (hal : U64 al) : ∀ (n : Nat) (k : Nat) (qh ql rh rl : Int), n ≤ 128 → n < k → U64 qh → U64 ql → U64 rh → U64 rl →
    rh * 18446744073709551616 + rl < d → (qh * 18446744073709551616 + ql) * d + (rh * 18446744073709551616 + rl) = (ah * 18446744073709551616 + al) / 2 ^ n →
    smaltoref01_Over.l0 k d ((n : Int) - 1) ah al qh ql rh rl =
      some ((ah * 18446744073709551616 + al) / d / 18446744073709551616, (ah * 18446744073709551616 + al) / d % 18446744073709551616, (ah * 18446744073709551616 + al) % d) := by
  intro n
  generalize hA : ah * 18446744073709551616 + al = A
  induction n with
  | zero =>
    intro k qh ql rh rl _ hk hqh hql hrh hrl hr he
    obtain ⟨k, rfl⟩ : ∃ n, k = n + 1 := ⟨k - 1, by omega⟩
    unfold smaltoref01_Over.l0
    rw [if_neg (by omega)]
    rw [Int.pow_zero, Int.ediv_one] at he
    obtain ⟨u1, u2⟩ := div_unique he (by omega) hr
    rw [u1, u2]
    congr 2
    · omega
    · congr 1 <;> omega
  | succ n ih =>
    intro k qh ql rh rl hn hk hqh hql hrh hrl hr he
    obtain ⟨k, rfl⟩ : ∃ n, k = n + 1 := ⟨k - 1, by omega⟩
    unfold smaltoref01_Over.l0
    rw [show ((n + 1 : Nat) : Int) - 1 = n from by omega, if_pos (by omega), ref01_Bit_eq hah hal n (by omega), hA]
    simp only [Option.bind_some]
    have hh2 := half_pow A n
    have hpn := pow_pos n
    have A0 : 0 ≤ A := by omega
    have al1 : A / 2 ^ n ≤ A := Int.ediv_le_self _ A0
    generalize hbit : A / 2 ^ n % 2 = bit at *
    have hb : 0 ≤ bit ∧ bit ≤ 1 := by omega
    rw [ref01_Twice_eq hrh hrl hb, ref01_Twice_eq hqh hql (by omega)]
    simp only [Option.bind_some]
    rw [ref01_Less_eq (by omega) (by omega) (by omega) (by omega)]
    simp only [Option.bind_some]
    rw [w64_id (by omega) (by omega)]
    have q0 : 0 ≤ qh * 18446744073709551616 + ql := by omega
    have qd : qh * 18446744073709551616 + ql ≤ (qh * 18446744073709551616 + ql) * d := by
      calc qh * 18446744073709551616 + ql = (qh * 18446744073709551616 + ql) * 1 := by rw [Int.mul_one]
        _ ≤ _ := Int.mul_le_mul_of_nonneg_left (by omega) q0
    generalize hQ : qh * 18446744073709551616 + ql = Q at *
    have e2 : (2 * Q) * d = 2 * (Q * d) := Int.mul_assoc _ _ _
    have e3 : (2 * Q + 1) * d = 2 * (Q * d) + d := by rw [Int.add_mul, e2, Int.one_mul]
    generalize hP : Q * d = P at *
    by_cases hl : 2 * (rh * 18446744073709551616 + rl) + bit < d
    · rw [if_pos (decide_eq_true (by omega))]
      refine ih k _ _ _ _ (by omega) (by omega) (by omega) (by omega) (by omega) (by omega) (by omega) ?_
      rw [show (2 * qh + ql / 9223372036854775808) % 18446744073709551616 * 18446744073709551616 + (2 * ql + 0) % 18446744073709551616 = 2 * Q from by omega, e2]
      omega
    · rw [if_neg (by simp; omega), ref01_Minus_eq (by omega) (by omega) (by omega) (by omega)]
      simp only [Option.bind_some, u64w]
      refine ih k _ _ _ _ (by omega) (by omega) (by omega) (by omega) (by omega) (by omega) (by omega) ?_
      rw [show (2 * qh + ql / 9223372036854775808) % 18446744073709551616 * 18446744073709551616 + ((2 * ql + 0) % 18446744073709551616 + 1) % 18446744073709551616 = 2 * Q + 1 from by omega, e3]
      omega
theorem ref01_Over_eq {k : Nat} (hk : 129 ≤ k) {d ah al : Int} (hd : 0 < d ∧ d < 18446744073709551616) (hah : U64 ah) (hal : U64 al) :
    smaltoref01_Over.f k ah al d = some ((ah * 18446744073709551616 + al) / d / 18446744073709551616, (ah * 18446744073709551616 + al) / d % 18446744073709551616, (ah * 18446744073709551616 + al) % d) := by
  unfold smaltoref01_Over.f
  rw [if_neg (by omega)]
  refine ref01_Over_l0 hd hah hal 128 k 0 0 0 0 (by omega) (by omega) (by omega) (by omega) (by omega) (by omega) (by omega) ?_
  rw [Int.ediv_eq_zero_of_lt (by omega) (by have : (2 : Int) ^ 128 = 340282366920938463463374607431768211456 := by decide
                                            omega)]
  omega

theorem ref01_Floor_eq {k : Nat} (hk : 129 ≤ k) {a b : Int} (ha : I64 a) (hb : I64 b) : smaltoref01_Floor.f k a b = some (hold (flo a b)) := by
  unfold smaltoref01_Floor.f
  by_cases hb0 : b = 0
  · rw [if_pos hb0, hb0]; simp [flo, hold]
  have ua := siz_u ha
  have ub := siz_u hb
  have ub0 : siz b ≠ 0 := fun h => hb0 (siz_zero.1 h)
  rw [if_neg hb0, ref01_Size_eq ha, ref01_Size_eq hb]
  simp only [Option.bind_some]
  rw [ref01_Over_eq hk (by omega) (by omega) (by omega)]
  simp only [Option.bind_some]
  have e := flo_xor (decide (a < 0)) b (siz a) hb0
  rw [sgn_siz a, flo_sgn _ (by omega)] at e
  rw [← e]
  generalize (decide (a < 0) != decide (b < 0)) = s
  rw [show 0 * 18446744073709551616 + siz a = siz a from by omega]
  have q0 : 0 ≤ siz a / siz b := Int.ediv_nonneg ua.1 ub.1
  have q1 : siz a / siz b ≤ siz a := Int.ediv_le_self _ ua.1
  have r0 := Int.emod_nonneg (siz a) ub0
  generalize siz a / siz b = q at *
  generalize siz a % siz b = r at *
  obtain ⟨k, rfl⟩ : ∃ n, k = n + 1 := ⟨k - 1, by omega⟩
  simp only [smaltoref01_Floor.j0]
  cases s
  · simp only [Bool.false_eq_true, if_false, false_and]
    rw [ref01_Hold_eq (by omega) (by omega) (by omega)]
    simp only [Option.bind_some]
    congr 3; omega
  · simp only [if_true, true_and]
    by_cases c : r = 0
    · rw [if_neg (by simp; omega), if_neg (by simpa using c), ref01_Hold_eq (by omega) (by omega) (by omega)]
      simp only [Option.bind_some]
      congr 3; omega
    · rw [if_pos (by simp; omega), if_pos c, ref01_Plus_eq (by omega) (by omega) (by omega) (by omega)]
      simp only [Option.bind_some]
      rw [ref01_Hold_eq (by omega) (by omega) (by omega)]
      simp only [Option.bind_some]
      congr 3; omega

theorem same_l0 (l : List Int) (hl : l.length < 4611686018427387904) : ∀ (d k i : Nat), i + d = l.length → d + 1 < k → smaltoref06_Same.l0 k l l (l.length : Int) (i : Int) = some true := by
  intro d
  induction d with
  | zero =>
    intro k i h1 h2
    obtain ⟨k, rfl⟩ : ∃ m, k = m + 1 := ⟨k - 1, by omega⟩
    rw [smaltoref06_Same.l0, if_neg (by omega)]
  | succ d ih =>
    intro k i h1 h2
    obtain ⟨k, rfl⟩ : ∃ m, k = m + 1 := ⟨k - 1, by omega⟩
    rw [smaltoref06_Same.l0, if_pos (by omega), if_pos (by omega), if_pos (by omega), if_pos (by omega), if_pos rfl, w64_id (by omega) (by omega)]
    exact ih k (i + 1) (by omega) (by omega)
theorem same_refl {k : Nat} (l : List Int) (hl : l.length < 4611686018427387904) (hk : l.length + 2 ≤ k) : smaltoref06_Same.f k l l = some true := by
  unfold smaltoref06_Same.f
  rw [if_pos rfl]
  exact same_l0 l hl l.length k 0 (by omega) (by omega)

theorem ref06_plus_eq {k : Nat} (hk : 1 ≤ k) {a b : Int} (ha : I64 a) (hb : I64 b) : smaltoref06_plus.f k a b = some (hold (a + b)) := by
  obtain ⟨k, rfl⟩ : ∃ m, k = m + 1 := ⟨k - 1, by omega⟩
  unfold smaltoref06_plus.f
  by_cases h1 : b > 0
  · rw [if_pos h1, w64_id (by omega) (by omega), smaltoref06_plus.j0]
    by_cases h2 : a > 9223372036854775807 - b
    · rw [if_pos (by simpa using h2)]
      unfold hold; rw [if_neg (by omega), if_pos (by omega)]
    · rw [if_neg (by simpa using h2), if_neg (by omega), w64_id (by omega) (by omega), hold_id (by omega) (by omega)]
  · rw [if_neg h1, smaltoref06_plus.j0, if_neg (by decide)]
    by_cases h2 : b < 0
    · rw [if_pos h2, w64_id (show -9223372036854775808 ≤ -9223372036854775808 - b from by omega) (by omega)]
      by_cases h3 : a < -9223372036854775808 - b
      · rw [if_pos h3]; unfold hold; rw [if_pos (by omega)]
      · rw [if_neg h3, w64_id (by omega) (by omega), hold_id (by omega) (by omega)]
    · rw [if_neg h2, w64_id (by omega) (by omega), hold_id (by omega) (by omega)]

theorem szV_is {x : Int} (hx : I64 x) : szV x = if x ≥ 0 then x else if x < -9223372036854775807 then 9223372036854775807 else -x := by
  have e : x * -1 = -x := by omega
  unfold szV
  rw [e]
  unfold mx hold
  repeat' split
  all_goals omega
theorem ref06_Size_eq {x : Int} (hx : I64 x) : smaltoref06_Size.f x = some (szV x) := by
  rw [szV_is hx]
  unfold smaltoref06_Size.f
  by_cases h1 : x ≥ 0
  · rw [if_pos h1, if_pos h1]
  · rw [if_neg h1, if_neg h1]
    by_cases h2 : x < -9223372036854775807
    · rw [if_pos h2, if_pos h2]
    · rw [if_neg h2, if_neg h2, w64_id (by omega) (by omega)]
theorem szV_i {x : Int} (hx : I64 x) : 0 ≤ szV x ∧ szV x ≤ 9223372036854775807 := by
  rw [szV_is hx]; repeat' split
  all_goals omega

/-- The sum without signs, held at each step. -/
def szFrom (s : Int) (l : List Int) : Int := l.foldl (fun s x => hold (s + szV x)) s
theorem rd_i64 {l : List Int} (hx : ∀ x ∈ l, I64 x) (i : Int) : I64 (rd l i) := by
  unfold rd
  rw [List.getD_eq_getElem?_getD]
  rcases Nat.lt_or_ge i.toNat l.length with q | q
  · rw [List.getElem?_eq_getElem q]; exact hx _ (List.getElem_mem _)
  · rw [List.getElem?_eq_none q]; decide
theorem drop_rd {l : List Int} {i : Nat} (h : i < l.length) : l.drop i = rd l (i : Int) :: l.drop (i + 1) := by
  rw [List.drop_eq_getElem_cons h]
  congr 1
  unfold rd
  rw [List.getD_eq_getElem?_getD, show ((i : Int)).toNat = i from by omega, List.getElem?_eq_getElem h]; rfl
theorem szFrom_i {s : Int} (hs : 0 ≤ s ∧ s ≤ 9223372036854775807) : ∀ {l : List Int}, (∀ x ∈ l, I64 x) → 0 ≤ szFrom s l ∧ szFrom s l ≤ 9223372036854775807 := by
  intro l
  induction l generalizing s with
  | nil => intro _; exact hs
  | cons x l ih =>
    intro hx
    have h1 := szV_i (hx x List.mem_cons_self)
    refine ih (s := hold (s + szV x)) ⟨?_, hold_le _⟩ (fun y hy => hx y (List.mem_cons_of_mem _ hy))
    unfold hold; split
    · omega
    · split <;> omega
theorem taps_Size_l0 (l : List Int) (hl : l.length < 4611686018427387904) (hx : ∀ x ∈ l, I64 x) : ∀ (d k i : Nat) (s : Int), i + d = l.length → d + 2 < k → I64 s → taps_Size.l0 k s l (l.length : Int) (i : Int) = some (szFrom s (l.drop i)) := by
  intro d
  induction d with
  | zero =>
    intro k i s h1 h2 hs
    obtain ⟨k, rfl⟩ : ∃ m, k = m + 1 := ⟨k - 1, by omega⟩
    rw [taps_Size.l0, if_neg (by omega), List.drop_of_length_le (by omega)]; rfl
  | succ d ih =>
    intro k i s h1 h2 hs
    obtain ⟨k, rfl⟩ : ∃ m, k = m + 1 := ⟨k - 1, by omega⟩
    have hz := szV_i (rd_i64 hx (i : Int))
    rw [taps_Size.l0, if_pos (by omega), if_pos (by omega), if_pos (by omega), taps_size_eq (by omega) (rd_i64 hx _)]
    simp only [Option.bind_some]
    rw [fixed_Add_eq (by omega) hs (by constructor <;> omega)]
    simp only [Option.bind_some]
    rw [w64_id (show -9223372036854775808 ≤ (i : Int) + 1 from by omega) (by omega), drop_rd (by omega)]
    exact ih k (i + 1) _ (by omega) (by omega) (hold_i _)
theorem taps_Size_eq {k : Nat} {l : List Int} (hk : l.length + 3 ≤ k) (hl : l.length < 4611686018427387904) (hx : ∀ x ∈ l, I64 x) : taps_Size.f k l = some (szFrom 0 l) :=
  taps_Size_l0 l hl hx l.length k 0 0 (by omega) (by omega) (by decide)

theorem ref06_Sum_l0 (l : List Int) (hl : l.length < 4611686018427387904) (hx : ∀ x ∈ l, I64 x) : ∀ (d k i : Nat) (s : Int), i + d = l.length → d + 2 < k → I64 s → smaltoref06_Sum.l0 k s l (l.length : Int) (i : Int) = some (sumFrom s (l.drop i)) := by
  intro d
  induction d with
  | zero =>
    intro k i s h1 h2 hs
    obtain ⟨k, rfl⟩ : ∃ m, k = m + 1 := ⟨k - 1, by omega⟩
    rw [smaltoref06_Sum.l0, if_neg (by omega), List.drop_of_length_le (by omega)]; rfl
  | succ d ih =>
    intro k i s h1 h2 hs
    obtain ⟨k, rfl⟩ : ∃ m, k = m + 1 := ⟨k - 1, by omega⟩
    rw [smaltoref06_Sum.l0, if_pos (by omega), if_pos (by omega), if_pos (by omega), ref06_plus_eq (by omega) hs (rd_i64 hx _)]
    simp only [Option.bind_some]
    rw [w64_id (show -9223372036854775808 ≤ (i : Int) + 1 from by omega) (by omega), drop_rd (by omega)]
    exact ih k (i + 1) _ (by omega) (by omega) (hold_i _)
theorem ref06_Sum_eq {k : Nat} {l : List Int} (hk : l.length + 3 ≤ k) (hl : l.length < 4611686018427387904) (hx : ∀ x ∈ l, I64 x) : smaltoref06_Sum.f k l = some (sumFrom 0 l) :=
  ref06_Sum_l0 l hl hx l.length k 0 0 (by omega) (by omega) (by decide)

theorem lives06 {k : Nat} (hk : 400 ≤ k) : smaltolaw06_Lives.f k = some true :=
  at_rounds (fun k => smaltolaw06_Lives.mono k) hk (show smaltolaw06_Lives.f 400 = some true by decide +kernel)

theorem ref06_l3 (o r : List Int) (left : Int) (n : Nat) (hr : r.length = n) (ho : o.length = n) (h1 : 1 ≤ n) (hn : n ≤ 1048576) : ∀ (d k i : Nat), i + d = n →
    smaltoref06_Apportion.l3 (k + d + 1) o r left (best r i : Int) (n : Int) (i : Int) = smaltoref06_Apportion.l2 k (o.set (best r n) (wrap64 (rd o (best r n : Int) + 1))) (r.set (best r n) (-1)) (wrap64 (left - 1)) := by
  intro d
  induction d with
  | zero =>
    intro k i hi
    have e : i = n := by omega
    have hb := best_lt r n h1
    rw [smaltoref06_Apportion.l3, if_neg (by omega), e, if_pos (by omega), if_pos (by omega), if_pos (by omega)]
    rw [show ((best r n : Nat) : Int).toNat = best r n from by omega]
  | succ d ih =>
    intro k i hi
    have hb : best r i < n := by
      by_cases c : 1 ≤ i
      · have := best_lt r i c; omega
      · have : i = 0 := by omega
        subst this; rw [best]; omega
    rw [show k + (d + 1) + 1 = (k + d + 1) + 1 from by omega, smaltoref06_Apportion.l3, if_pos (by omega), if_pos (by omega), if_pos (by omega), if_pos (by omega), if_pos (by omega)]
    have := ih k (i + 1) (by omega)
    rw [best] at this
    rw [w64_id (show -9223372036854775808 ≤ (i : Int) + 1 from by omega) (by omega)]
    by_cases c : rd r (i : Int) > rd r (best r i : Int)
    · rw [if_pos c] at this ⊢; exact this
    · rw [if_neg c] at this ⊢; exact this
theorem rd_set (o : List Int) (b : Nat) (v : Int) (hb : b < o.length) (j : Nat) : rd (o.set b v) (j : Int) = if j = b then v else rd o (j : Int) := by
  unfold rd
  rw [List.getD_eq_getElem?_getD, List.getD_eq_getElem?_getD, show ((j : Int)).toNat = j from by omega, List.getElem?_set]
  by_cases c : b = j
  · subst c; rw [if_pos rfl, if_pos rfl, if_pos hb]; rfl
  · rw [if_neg c, if_neg (fun e => c e.symm)]
theorem ref06_l2 (n : Nat) (h1 : 1 ≤ n) (hn : n ≤ 1048576) : ∀ (t k : Nat) (o r : List Int), o.length = n → r.length = n → (t : Int) ≤ 1048576 → (∀ j : Nat, -1099511627776 ≤ rd o (j : Int) ∧ rd o (j : Int) + t ≤ 1099511627776) →
    smaltoref06_Apportion.l2 (k + t * (n + 2) + 1) o r (t : Int) = some (picks t o r, 0) := by
  intro t
  induction t with
  | zero =>
    intro k o r ho hr ht hb
    rw [smaltoref06_Apportion.l2, if_neg (by omega)]; rfl
  | succ t ih =>
    intro k o r ho hr ht hb
    have e : k + (t + 1) * (n + 2) + 1 = ((k + t * (n + 2) + 1) + n + 1) + 1 := by rw [Nat.add_mul, Nat.one_mul]; omega
    have h3 := ref06_l3 o r ((t + 1 : Nat) : Int) n hr ho h1 hn n (k + t * (n + 2) + 1) 0 (by omega)
    have hbb := best_lt r n h1
    have hbd := hb (best r n)
    rw [e, smaltoref06_Apportion.l2, if_pos (by omega), hr]
    rw [show ((best r 0 : Nat) : Int) = 0 from rfl] at h3
    rw [show (0 : Int) = ((0 : Nat) : Int) from rfl]
    refine h3.trans ?_
    rw [w64_id (show -9223372036854775808 ≤ rd o (best r n : Int) + 1 from by omega) (by omega), w64_id (show -9223372036854775808 ≤ ((t + 1 : Nat) : Int) - 1 from by omega) (by omega), show ((t + 1 : Nat) : Int) - 1 = (t : Int) from by omega, picks, hr]
    refine ih k _ _ (by rw [List.length_set]; exact ho) (by rw [List.length_set]; exact hr) (by omega) (fun j => ?_)
    rw [rd_set _ _ _ (by omega)]
    have := hb j
    split
    · rename_i c; subst c; omega
    · omega
theorem ref06_l1 {l : List Int} {s : Int} (hG : Good l s) (R : Option (List Int × Int)) (K : Nat) (hR : ∀ k, K ≤ k → smaltoref06_Apportion.l2 k ((List.range l.length).map fun j => qV l s j) ((List.range l.length).map fun j => mV l s j) (16384 - psum (qV l s) l.length) = R) : ∀ (d k i : Nat), i + d = l.length → d + K + 200 < k →
    smaltoref06_Apportion.l1 k s ((List.range i).map fun j => qV l s j) ((List.range i).map fun j => mV l s j) (16384 - psum (qV l s) i) l (l.length : Int) (i : Int) = R := by
  intro d
  induction d with
  | zero =>
    intro k i h1 h2
    obtain ⟨k, rfl⟩ : ∃ m, k = m + 1 := ⟨k - 1, by omega⟩
    rw [smaltoref06_Apportion.l1, if_neg (by omega), show i = l.length from by omega]
    exact hR k (by omega)
  | succ d ih =>
    intro k i h1 h2
    obtain ⟨k, rfl⟩ : ∃ m, k = m + 1 := ⟨k - 1, by omega⟩
    have hx := hG.xb i (by omega)
    have hq := hG.qb i (by omega)
    have hs := hG.sb
    have hn1 := hG.n1
    have hp := psum_bnd (qV l s) l.length hG.qb i (by omega)
    have e := Int.mul_ediv_add_emod (rd l (i : Int) * 16384) s
    have r0 := Int.emod_nonneg (rd l (i : Int) * 16384) (show s ≠ 0 by omega)
    have r1 := Int.emod_lt_of_pos (rd l (i : Int) * 16384) (show 0 < s by omega)
    have eq : qV l s i = rd l (i : Int) * 16384 / s := rfl
    have em : mV l s i = rd l (i : Int) * 16384 % s := rfl
    have ec : qV l s i * s = s * (rd l (i : Int) * 16384 / s) := by rw [eq, Int.mul_comm]
    rw [smaltoref06_Apportion.l1, if_pos (by omega), if_pos (by omega), if_pos (by omega), w64_id (show -9223372036854775808 ≤ rd l (i : Int) * 16384 from by omega) (by omega), ref01_Floor_eq (by omega) (by constructor <;> omega) (by constructor <;> omega)]
    simp only [Option.bind_some]
    rw [if_pos (by simp; omega), if_pos (by simp; omega)]
    have ef : hold (flo (rd l (i : Int) * 16384) s) = qV l s i := by
      unfold flo; rw [if_pos (by omega), ← eq, hold_id (by omega) (by omega)]
    rw [ef, w64_id (show -9223372036854775808 ≤ qV l s i * s from by omega) (by omega), w64_id (show -9223372036854775808 ≤ rd l (i : Int) * 16384 - qV l s i * s from by omega) (by omega), show rd l (i : Int) * 16384 - qV l s i * s = mV l s i from by omega,
      w64_id (show -9223372036854775808 ≤ 16384 - psum (qV l s) i - qV l s i from by omega) (by omega), w64_id (show -9223372036854775808 ≤ (i : Int) + 1 from by omega) (by omega)]
    have := ih k (i + 1) (by omega) (by omega)
    rw [List.range_succ, List.map_append, List.map_append, psum] at this
    rw [show 16384 - psum (qV l s) i - qV l s i = 16384 - (psum (qV l s) i + qV l s i) from by omega]
    exact this
theorem ref06_Apportion_eq {l : List Int} (hx : ∀ x ∈ l, I64 x) (hl : l.length < 4611686018427387904) : ∃ K, ∀ k, K ≤ k → smaltoref06_Apportion.f k l = some (if chkV l = 0 then (appL l, 0) else ([], chkV l)) := by
  by_cases h0 : l.length = 0
  · refine ⟨2, fun k hk => ?_⟩
    obtain ⟨k, rfl⟩ : ∃ m, k = m + 1 := ⟨k - 1, by omega⟩
    have e : chkV l = 7 := by unfold chkV; rw [if_pos (Or.inl h0)]
    unfold smaltoref06_Apportion.f
    rw [if_pos (by omega), smaltoref06_Apportion.j0, if_pos rfl, e]; rfl
  by_cases h1 : l.length > 1048576
  · refine ⟨2, fun k hk => ?_⟩
    obtain ⟨k, rfl⟩ : ∃ m, k = m + 1 := ⟨k - 1, by omega⟩
    have e : chkV l = 7 := by unfold chkV; rw [if_pos (Or.inr (Or.inl h1))]
    unfold smaltoref06_Apportion.f
    rw [if_neg (by omega), smaltoref06_Apportion.j0, if_pos (by simp; omega), e]; rfl
  -- the sizes, one behind the other
  have loop : ∀ (R : Option (List Int × Int)) (K : Nat), ((∃ x ∈ l, szV x > 1099511627776) → R = some ([], 7)) → ((¬ ∃ x ∈ l, szV x > 1099511627776) → ∀ k, K ≤ k → (smaltoref06_Sum.f k l).bind (fun t => if t < 268435456 then some (([] : List Int), (8 : Int)) else smaltoref06_Apportion.l1 k t [] [] 16384 l (l.length : Int) 0) = R) →
      ∀ (d k i : Nat), i + d = l.length → d + K + 2 < k → (∀ j, j < i → ¬ szV (rd l (j : Int)) > 1099511627776) → smaltoref06_Apportion.l0 k l l (l.length : Int) (i : Int) = R := by
    intro R K g1 g2 d
    induction d with
    | zero =>
      intro k i q1 q2 q3
      obtain ⟨k, rfl⟩ : ∃ m, k = m + 1 := ⟨k - 1, by omega⟩
      rw [smaltoref06_Apportion.l0, if_neg (by omega)]
      refine g2 ?_ k (by omega)
      rintro ⟨x, hx1, hx2⟩
      obtain ⟨j, hj, rfl⟩ := List.getElem_of_mem hx1
      have := q3 j (by omega)
      unfold rd at this
      rw [List.getD_eq_getElem?_getD, show ((j : Int)).toNat = j from by omega, List.getElem?_eq_getElem hj] at this
      exact this hx2
    | succ d ih =>
      intro k i q1 q2 q3
      obtain ⟨k, rfl⟩ : ∃ m, k = m + 1 := ⟨k - 1, by omega⟩
      rw [smaltoref06_Apportion.l0, if_pos (by omega), if_pos (by omega), if_pos (by omega), ref06_Size_eq (rd_i64 hx _)]
      simp only [Option.bind_some]
      by_cases c : szV (rd l (i : Int)) > 1099511627776
      · rw [if_pos c]; exact (g1 ⟨_, rd_mem (by omega), c⟩).symm
      · rw [if_neg c, w64_id (show -9223372036854775808 ≤ (i : Int) + 1 from by omega) (by omega)]
        refine ih k (i + 1) (by omega) (by omega) (fun j hj => ?_)
        by_cases c2 : j = i
        · subst c2; exact c
        · exact q3 j (by omega)
  have top : ∀ (R : Option (List Int × Int)) (K : Nat), ((∃ x ∈ l, szV x > 1099511627776) → R = some ([], 7)) → ((¬ ∃ x ∈ l, szV x > 1099511627776) → ∀ k, K ≤ k → (smaltoref06_Sum.f k l).bind (fun t => if t < 268435456 then some (([] : List Int), (8 : Int)) else smaltoref06_Apportion.l1 k t [] [] 16384 l (l.length : Int) 0) = R) →
      ∀ k, l.length + K + 10 ≤ k → smaltoref06_Apportion.f k l = R := by
    intro R K g1 g2 k hk
    obtain ⟨k, rfl⟩ : ∃ m, k = m + 1 := ⟨k - 1, by omega⟩
    unfold smaltoref06_Apportion.f
    rw [if_neg (by omega), smaltoref06_Apportion.j0, if_neg (by simp; omega)]
    exact loop R K g1 g2 l.length k 0 (by omega) (by omega) (fun j hj => by omega)
  by_cases hs : sumFrom 0 l < 268435456
  · refine ⟨l.length + (l.length + 3) + 10, top _ (l.length + 3) (fun q => ?_) (fun q k hk => ?_)⟩
    · have e : chkV l = 7 := by unfold chkV; rw [if_pos (Or.inr (Or.inr q))]
      rw [e]; rfl
    · have e : chkV l = 8 := by
        unfold chkV; rw [if_neg (by rintro (g | g | g); exact h0 g; exact h1 g; exact q g), if_pos hs]
      rw [ref06_Sum_eq hk hl hx, e]
      simp only [Option.bind_some]
      rw [if_pos hs]; rfl
  · by_cases hz : ∃ x ∈ l, szV x > 1099511627776
    · refine ⟨l.length + 0 + 10, top _ 0 (fun q => ?_) (fun q => absurd hz q)⟩
      have e : chkV l = 7 := by unfold chkV; rw [if_pos (Or.inr (Or.inr q))]
      rw [e]; rfl
    · have e : chkV l = 0 := by
        unfold chkV; rw [if_neg (by rintro (g | g | g); exact h0 g; exact h1 g; exact hz g), if_neg hs]
      have hG := good_of_chk (fun i => rd_i64 hx _) e
      have hlb := hG.lb
      obtain ⟨t, ht⟩ : ∃ t : Nat, 16384 - psum (qV l (sumFrom 0 l)) l.length = (t : Int) := ⟨(16384 - psum (qV l (sumFrom 0 l)) l.length).toNat, by omega⟩
      have e2 : appL l = picks t ((List.range l.length).map fun j => qV l (sumFrom 0 l) j) ((List.range l.length).map fun j => mV l (sumFrom 0 l) j) := by
        unfold appL; rw [ht]; rfl
      have hK : ∀ k, t * (l.length + 2) + 1 ≤ k → smaltoref06_Apportion.l2 k ((List.range l.length).map fun j => qV l (sumFrom 0 l) j) ((List.range l.length).map fun j => mV l (sumFrom 0 l) j) (16384 - psum (qV l (sumFrom 0 l)) l.length) = some (appL l, 0) := by
        intro k hk
        rw [ht, e2, show k = (k - (t * (l.length + 2) + 1)) + t * (l.length + 2) + 1 from by omega]
        refine ref06_l2 l.length hG.n0 hG.n1 t _ _ _ (by simp) (by simp) (by have := hG.n1; omega) (fun j => ?_)
        by_cases c : j < l.length
        · have := hG.qb j c
          have := hG.n1
          rw [rd_range _ c]; omega
        · unfold rd
          rw [List.getD_eq_getElem?_getD, List.getElem?_eq_none (by simp; omega)]
          have := hG.n1
          simp; omega
      refine ⟨l.length + (l.length + (t * (l.length + 2) + 1) + 300) + 10, top _ (l.length + (t * (l.length + 2) + 1) + 300) (fun q => absurd q hz) (fun q k hk => ?_)⟩
      rw [ref06_Sum_eq (by omega) hl hx, e]
      simp only [Option.bind_some]
      rw [if_neg hs]
      exact ref06_l1 hG _ _ hK l.length k 0 (by omega) (by omega)

theorem best_max (r : List Int) : ∀ (i j : Nat), j < i → rd r (j : Int) ≤ rd r (best r i : Int)
  | 0, j, h => by omega
  | i + 1, j, h => by
    rw [best]
    by_cases c : j = i
    · subst c; split <;> omega
    · have := best_max r i j (by omega)
      split <;> omega
theorem psum_set (o : List Int) (b : Nat) (v : Int) (hb : b < o.length) : ∀ n, psum (fun j => rd (o.set b v) (j : Int)) n = psum (fun j => rd o (j : Int)) n + if b < n then v - rd o (b : Int) else 0
  | 0 => by simp [psum]
  | n + 1 => by
    rw [psum, psum, psum_set o b v hb n, rd_set _ _ _ hb]
    by_cases c : n = b
    · subst c; rw [if_pos rfl, if_neg (by omega), if_pos (by omega)]; omega
    · rw [if_neg c]
      by_cases c2 : b < n
      · rw [if_pos c2, if_pos (by omega)]; omega
      · rw [if_neg c2, if_neg (by omega)]; omega
def pos0 (x : Int) : Int := if x > 0 then x else 0
theorem ptot_set (o : List Int) (b : Nat) (v : Int) (hb : b < o.length) : ∀ n, psum (fun j => pos0 (rd (o.set b v) (j : Int))) n = psum (fun j => pos0 (rd o (j : Int))) n + if b < n then pos0 v - pos0 (rd o (b : Int)) else 0
  | 0 => by simp [psum]
  | n + 1 => by
    rw [psum, psum, ptot_set o b v hb n, rd_set _ _ _ hb]
    by_cases c : n = b
    · subst c; rw [if_pos rfl, if_neg (by omega), if_pos (by omega)]; omega
    · rw [if_neg c]
      by_cases c2 : b < n
      · rw [if_pos c2, if_pos (by omega)]; omega
      · rw [if_neg c2, if_neg (by omega)]; omega
theorem ptot_zero (r : List Int) : ∀ (n : Nat), (∀ j : Nat, j < n → rd r (j : Int) ≤ 0) → psum (fun j => pos0 (rd r (j : Int))) n = 0
  | 0, _ => rfl
  | n + 1, h => by
    rw [psum, ptot_zero r n (fun j hj => h j (by omega))]
    have := h n (by omega)
    unfold pos0; rw [if_neg (by omega)]; rfl
theorem picks_prop (n : Nat) (s : Int) (hs : 1 ≤ s) (h1 : 1 ≤ n) : ∀ (t : Nat) (o r : List Int), o.length = n → r.length = n → (∀ j, j < n → rd r (j : Int) ≤ s - 1) → (1 ≤ t → psum (fun j => pos0 (rd r (j : Int))) n > ((t : Int) - 1) * (s - 1)) →
    ∃ S : Nat → Prop, (∀ j, j < n → (S j → rd (picks t o r) (j : Int) = rd o (j : Int) + 1 ∧ rd r (j : Int) > 0) ∧ (¬ S j → rd (picks t o r) (j : Int) = rd o (j : Int))) ∧ (∀ i k, i < n → k < n → ¬ S i → S k → rd r (i : Int) ≤ rd r (k : Int)) ∧
      psum (fun j => rd (picks t o r) (j : Int)) n = psum (fun j => rd o (j : Int)) n + t := by
  intro t
  induction t with
  | zero => intro o r ho hr hb ht; exact ⟨fun _ => False, fun j hj => ⟨fun h => h.elim, fun _ => rfl⟩, fun i k _ _ _ h => h.elim, by rw [picks]; omega⟩
  | succ t ih =>
    intro o r ho hr hb ht
    have hbb := best_lt r n h1
    have hmax := best_max r n
    have htot := ht (by omega)
    rw [show ((t + 1 : Nat) : Int) - 1 = (t : Int) from by omega] at htot
    have ht0 : 0 ≤ (t : Int) * (s - 1) := Int.mul_nonneg (by omega) (by omega)
    have hpos : rd r (best r n : Int) > 0 := by
      apply Classical.byContradiction; intro q
      have := ptot_zero r n (fun j hj => by have := hmax j hj; omega)
      omega
    obtain ⟨b, hbe⟩ : ∃ b, b = best r n := ⟨_, rfl⟩
    rw [← hbe] at hbb hmax hpos
    have hbv := hb b hbb
    obtain ⟨S, S1, S2, S3⟩ := ih (o.set b (rd o (b : Int) + 1)) (r.set b (-1)) (by rw [List.length_set]; exact ho) (by rw [List.length_set]; exact hr)
      (fun j hj => by rw [rd_set _ _ _ (by omega)]; have := hb j hj; split <;> omega)
      (fun ht1 => by
        rw [ptot_set _ _ _ (by omega), if_pos hbb]
        have e1 : pos0 (-1) = 0 := by unfold pos0; rw [if_neg (by omega)]
        have e2 : pos0 (rd r (b : Int)) = rd r (b : Int) := by unfold pos0; rw [if_pos hpos]
        have e3 : ((t : Int) - 1) * (s - 1) = (t : Int) * (s - 1) - (s - 1) := by rw [Int.sub_mul, Int.one_mul]
        rw [e1, e2]; omega)
    have hnb : ¬ S b := fun h => by
      have := ((S1 b hbb).1 h).2
      rw [rd_set _ _ _ (by omega), if_pos rfl] at this; omega
    rw [picks, hr, ← hbe]
    refine ⟨fun j => j = b ∨ S j, fun j hj => ⟨fun h => ?_, fun h => ?_⟩, fun i k hi hk h1 h2 => ?_, ?_⟩
    · rcases h with h | h
      · subst h
        refine ⟨?_, hpos⟩
        rw [(S1 j hbb).2 hnb, rd_set _ _ _ (by omega), if_pos rfl]
      · have hne : j ≠ b := fun e => hnb (e ▸ h)
        have := (S1 j hj).1 h
        rw [rd_set _ _ _ (by omega), if_neg hne, rd_set _ _ _ (by omega), if_neg hne] at this
        exact this
    · have := (S1 j hj).2 (fun q => h (Or.inr q))
      rw [this, rd_set _ _ _ (by omega), if_neg (fun e => h (Or.inl e))]
    · rcases h2 with h2 | h2
      · subst h2; exact hmax i hi
      · have hne : k ≠ b := fun e => hnb (e ▸ h2)
        have := S2 i k hi hk (fun q => h1 (Or.inr q)) h2
        rw [rd_set _ _ _ (by omega), if_neg (fun e => h1 (Or.inl e)), rd_set _ _ _ (by omega), if_neg hne] at this
        exact this
    · rw [S3, psum_set _ _ _ (by omega), if_pos hbb]; omega
theorem psum_congr {f g : Nat → Int} : ∀ n, (∀ j, j < n → f j = g j) → psum f n = psum g n
  | 0, _ => rfl
  | n + 1, h => by rw [psum, psum, psum_congr n (fun j hj => h j (by omega)), h n (by omega)]
/-- What the taps are, of weights that may be apportioned. -/
theorem appL_prop {l : List Int} {s : Int} (hs0 : s = sumFrom 0 l) (hG : Good l s) : ∃ S : Nat → Prop, (∀ j, j < l.length → (S j → rd (appL l) (j : Int) = qV l s j + 1 ∧ mV l s j > 0) ∧ (¬ S j → rd (appL l) (j : Int) = qV l s j)) ∧ (∀ i k, i < l.length → k < l.length → ¬ S i → S k → mV l s i ≤ mV l s k) ∧
    psum (fun j => rd (appL l) (j : Int)) l.length = 16384 := by
  have hlb := hG.lb
  have hsb := hG.sb
  have hpd := psum_div l s (by omega) l.length
  obtain ⟨t, ht⟩ : ∃ t : Nat, 16384 - psum (qV l s) l.length = (t : Int) := ⟨(16384 - psum (qV l s) l.length).toNat, by omega⟩
  have hr : ∀ j, j < l.length → rd ((List.range l.length).map fun j => mV l s j) (j : Int) = mV l s j := fun j hj => rd_range _ hj
  have ho : ∀ j, j < l.length → rd ((List.range l.length).map fun j => qV l s j) (j : Int) = qV l s j := fun j hj => rd_range _ hj
  have hm : ∀ j, 0 ≤ mV l s j ∧ mV l s j ≤ s - 1 := fun j => by
    have r0 := Int.emod_nonneg (rd l (j : Int) * 16384) (show s ≠ 0 by omega)
    have r1 := Int.emod_lt_of_pos (rd l (j : Int) * 16384) (show 0 < s by omega)
    unfold mV; omega
  have htot : psum (fun j => pos0 (rd ((List.range l.length).map fun j => mV l s j) (j : Int))) l.length = psum (mV l s) l.length :=
    psum_congr _ (fun j hj => by rw [hr j hj]; have := hm j; unfold pos0; split <;> omega)
  obtain ⟨S, S1, S2, S3⟩ := picks_prop l.length s (by omega) hG.n0 t ((List.range l.length).map fun j => qV l s j) ((List.range l.length).map fun j => mV l s j) (by simp) (by simp) (fun j hj => by rw [hr j hj]; exact (hm j).2)
    (fun h1 => by
      rw [htot]
      obtain ⟨p1, p2, p3⟩ := hpd
      rw [← hG.sx] at p1
      have e1 : (16384 - psum (qV l s) l.length) * s = 16384 * s - psum (qV l s) l.length * s := Int.sub_mul _ _ _
      rw [ht] at e1
      have e2 : ((t : Int) - 1) * (s - 1) = (t : Int) * s - (t : Int) - s + 1 := by rw [Int.sub_mul, Int.mul_sub, Int.mul_one, Int.one_mul]; omega
      omega)
  have e : appL l = picks t ((List.range l.length).map fun j => qV l s j) ((List.range l.length).map fun j => mV l s j) := by
    unfold appL; rw [← hs0, ht]; rfl
  refine ⟨S, fun j hj => ?_, fun i k hi hk h1 h2 => ?_, ?_⟩
  · have := S1 j hj
    rw [ho j hj, hr j hj, ← e] at this; exact this
  · have := S2 i k hi hk h1 h2
    rw [hr i hi, hr k hk] at this; exact this
  · rw [← e] at S3
    rw [S3, psum_congr (g := qV l s) _ (fun j hj => ho j hj)]; omega
theorem appL_len2 (l : List Int) : (appL l).length = l.length := by
  have : ∀ (t : Nat) (o r : List Int), (picks t o r).length = o.length := by
    intro t
    induction t with
    | zero => intro o r; rfl
    | succ t ih => intro o r; rw [picks, ih, List.length_set]
  unfold appL; rw [this]; simp
theorem TapsSum_l0 {l : List Int} {s : Int} (hG : Good l s) (hg : ∀ j : Nat, -134217728 ≤ rd (appL l) (j : Int) ∧ rd (appL l) (j : Int) ≤ 134217729) (R : Option Bool) (K : Nat) (hR : ∀ k, K ≤ k → smaltolaw06_TapsSum.l0 k l (appL l) (psum (fun j => rd l (j : Int)) l.length) (psum (fun j => rd (appL l) (j : Int)) l.length) (l.length : Int) (l.length : Int) = R) :
    ∀ (d k i : Nat), i + d = l.length → d + K ≤ k → smaltolaw06_TapsSum.l0 k l (appL l) (psum (fun j => rd l (j : Int)) i) (psum (fun j => rd (appL l) (j : Int)) i) (l.length : Int) (i : Int) = R ∧ (-1099511627776 * (i : Int) ≤ psum (fun j => rd l (j : Int)) i ∧ psum (fun j => rd l (j : Int)) i ≤ 1099511627776 * (i : Int)) ∧ (-134217729 * (i : Int) ≤ psum (fun j => rd (appL l) (j : Int)) i ∧ psum (fun j => rd (appL l) (j : Int)) i ≤ 134217729 * (i : Int)) := by
  have bnd : ∀ i, i ≤ l.length → (-1099511627776 * (i : Int) ≤ psum (fun j => rd l (j : Int)) i ∧ psum (fun j => rd l (j : Int)) i ≤ 1099511627776 * (i : Int)) ∧ (-134217729 * (i : Int) ≤ psum (fun j => rd (appL l) (j : Int)) i ∧ psum (fun j => rd (appL l) (j : Int)) i ≤ 134217729 * (i : Int)) := by
    intro i
    induction i with
    | zero => intro _; simp [psum]
    | succ i ih =>
      intro h
      have h1 := ih (by omega)
      have h2 := hG.xb i (by omega)
      have h3 := hg i
      rw [psum, psum]; omega
  have hn1 := hG.n1
  have hla := appL_len2 l
  intro d
  induction d with
  | zero =>
    intro k i h1 h2
    have e : i = l.length := by omega
    subst e
    exact ⟨hR k (by omega), bnd _ (Nat.le_refl _)⟩
  | succ d ih =>
    intro k i h1 h2
    obtain ⟨k, rfl⟩ : ∃ m, k = m + 1 := ⟨k - 1, by omega⟩
    refine ⟨?_, bnd i (by omega)⟩
    have hb := bnd (i + 1) (by omega)
    rw [psum, psum] at hb
    rw [smaltolaw06_TapsSum.l0, if_pos (by omega), if_pos (by omega), if_pos (by omega), if_pos (by omega), w64_id (by omega) (by omega), w64_id (by omega) (by omega), w64_id (by omega) (by omega)]
    exact (ih k (i + 1) (by omega) (by omega)).1
theorem TapsSum_l2 {l : List Int} {s : Int} (hs0 : s = sumFrom 0 l) (hG : Good l s) (i : Nat) (hi : i < l.length) : ∀ (d k j : Nat), j + d = l.length →
    smaltolaw06_TapsSum.l2 (k + d + 1) l (appL l) s (i : Int) (rd l (i : Int)) l (l.length : Int) (i : Int) l (l.length : Int) (j : Int) = smaltolaw06_TapsSum.l1 k l (appL l) s l (l.length : Int) ((i : Int) + 1) := by
  obtain ⟨S, S1, S2, S3⟩ := appL_prop hs0 hG
  have hn1 := hG.n1
  have hla := appL_len2 l
  have hsb := hG.sb
  intro d
  induction d with
  | zero =>
    intro k j h1
    rw [smaltolaw06_TapsSum.l2, if_neg (by omega), w64_id (by omega) (by omega)]
  | succ d ih =>
    intro k j h1
    rw [show k + (d + 1) + 1 = (k + d + 1) + 1 from by omega, smaltolaw06_TapsSum.l2, if_pos (by omega), if_pos (by omega), if_pos (by omega), w64_id (show -9223372036854775808 ≤ (j : Int) + 1 from by omega) (by omega)]
    have next := ih k (j + 1) (by omega)
    rw [show ((j + 1 : Nat) : Int) = (j : Int) + 1 from by omega] at next
    by_cases c : rd l (i : Int) > rd l (j : Int)
    · rw [if_pos c, if_pos (by omega), if_pos (by omega), if_pos (by omega)]
      have ord : ¬ rd (appL l) (i : Int) < rd (appL l) (j : Int) := by
        have e1 := Int.mul_ediv_add_emod (rd l (i : Int) * 16384) s
        have e2 := Int.mul_ediv_add_emod (rd l (j : Int) * 16384) s
        have qi : qV l s i = rd l (i : Int) * 16384 / s := rfl
        have qj : qV l s j = rd l (j : Int) * 16384 / s := rfl
        have mi : mV l s i = rd l (i : Int) * 16384 % s := rfl
        have mj : mV l s j = rd l (j : Int) * 16384 % s := rfl
        have hq : qV l s j ≤ qV l s i := by rw [qi, qj]; exact Int.ediv_le_ediv (by omega) (by omega)
        have hi1 := S1 i hi
        have hj1 := S1 j (by omega)
        by_cases ci : S i <;> by_cases cj : S j
        · rw [(hi1.1 ci).1, (hj1.1 cj).1]; omega
        · rw [(hi1.1 ci).1, hj1.2 cj]; omega
        · rw [hi1.2 ci, (hj1.1 cj).1]
          by_cases ceq : qV l s i = qV l s j
          · have := S2 i j hi (by omega) ci cj
            rw [← qi, ← mi] at e1
            rw [← qj, ← mj, ← ceq] at e2
            omega
          · omega
        · rw [hi1.2 ci, hj1.2 cj]; omega
      rw [if_neg ord]; exact next
    · rw [if_neg c]; exact next
theorem TapsSum_l1 {l : List Int} {s : Int} (hs0 : s = sumFrom 0 l) (hG : Good l s) : ∀ (d k i : Nat), i + d = l.length →
    smaltolaw06_TapsSum.l1 (k + d * (l.length + 3) + 1) l (appL l) s l (l.length : Int) (i : Int) = some true := by
  obtain ⟨S, S1, S2, S3⟩ := appL_prop hs0 hG
  have hn1 := hG.n1
  have hla := appL_len2 l
  have hsb := hG.sb
  intro d
  induction d with
  | zero =>
    intro k i h1
    rw [smaltolaw06_TapsSum.l1, if_neg (by omega)]
  | succ d ih =>
    intro k i h1
    have hx := hG.xb i (by omega)
    have hq := hG.qb i (by omega)
    have e := Int.mul_ediv_add_emod (rd l (i : Int) * 16384) s
    have r0 := Int.emod_nonneg (rd l (i : Int) * 16384) (show s ≠ 0 by omega)
    have r1 := Int.emod_lt_of_pos (rd l (i : Int) * 16384) (show 0 < s by omega)
    have qi : qV l s i = rd l (i : Int) * 16384 / s := rfl
    have mi : mV l s i = rd l (i : Int) * 16384 % s := rfl
    have hgs : -s < rd (appL l) (i : Int) * s - rd l (i : Int) * 16384 ∧ rd (appL l) (i : Int) * s - rd l (i : Int) * 16384 < s := by
      have h := S1 i (by omega)
      have ec : qV l s i * s = s * (rd l (i : Int) * 16384 / s) := by rw [qi, Int.mul_comm]
      by_cases c : S i
      · have h2 := (h.1 c).2
        rw [(h.1 c).1, Int.add_mul, Int.one_mul]; omega
      · rw [h.2 c]; omega
    rw [show k + (d + 1) * (l.length + 3) + 1 = ((k + d * (l.length + 3) + 1) + l.length + 1) + 1 + 1 from by rw [Nat.add_mul, Nat.one_mul]; omega, smaltolaw06_TapsSum.l1, if_pos (by omega), if_pos (by omega), if_pos (by omega), if_pos (by omega)]
    have w1 : wrap64 (rd (appL l) (i : Int) * s) = rd (appL l) (i : Int) * s := w64_id (by omega) (by omega)
    have w2 : wrap64 (rd l (i : Int) * 16384) = rd l (i : Int) * 16384 := w64_id (by omega) (by omega)
    have w3 : wrap64 (rd (appL l) (i : Int) * s - rd l (i : Int) * 16384) = rd (appL l) (i : Int) * s - rd l (i : Int) * 16384 := w64_id (by omega) (by omega)
    have w4 : wrap64 (-s) = -s := w64_id (by omega) (by omega)
    rw [w1, w2, w3, w4, if_neg (by omega), decide_eq_false (by omega), smaltolaw06_TapsSum.j4, if_neg (by decide)]
    rw [show (0 : Int) = ((0 : Nat) : Int) from rfl, TapsSum_l2 hs0 hG i (by omega) l.length (k + d * (l.length + 3) + 1) 0 (by omega)]
    exact ih k (i + 1) (by omega)
theorem TapsSum_pure : smaltolaw06_TapsSum.Pure := by
  intro l h1 h2 h3
  have hx : ∀ x ∈ l, I64 x := fun x hx => wf64 (h3 x hx)
  have hlen : l.length < 17592186044417 := by omega
  have ha : taps_Apportion.f l = some (if chkV l = 0 then (appL l, 0) else ([], chkV l)) := by
    unfold taps_Apportion.f appF; rw [if_pos hx]
  refine ⟨(l.length * (l.length + 3) + 10) + l.length + 1001, ?_⟩
  unfold smaltolaw06_TapsSum.f
  rw [lives06 (by omega)]
  simp only [Option.bind_some, if_true]
  rw [smaltolaw06_TapsSum.j0]
  by_cases c : (l.length : Int) > 200
  · rw [if_pos (by simpa using c), lives06 (by omega)]; rfl
  rw [if_neg (by simpa using c), ha]
  simp only [Option.bind_some]
  by_cases hk : chkV l = 0
  · rw [if_pos hk]
    have hG := good_of_chk (fun i => rd_i64 hx _) hk
    obtain ⟨S, S1, S2, S3⟩ := appL_prop rfl hG
    rw [if_pos rfl, if_pos (by rw [appL_len2])]
    have hg : ∀ j : Nat, -134217728 ≤ rd (appL l) (j : Int) ∧ rd (appL l) (j : Int) ≤ 134217729 := by
      intro j
      by_cases cj : j < l.length
      · have hq := hG.qb j cj
        by_cases cs : S j
        · rw [((S1 j cj).1 cs).1]; omega
        · rw [(S1 j cj).2 cs]; omega
      · unfold rd
        rw [List.getD_eq_getElem?_getD, List.getElem?_eq_none (by rw [appL_len2]; omega)]
        simp
    have hsb := hG.sb
    refine (TapsSum_l0 hG hg (some true) (l.length * (l.length + 3) + 10) (fun k hk => ?_) l.length _ 0 (by omega) (by omega)).1
    obtain ⟨k, rfl⟩ : ∃ m, k = m + l.length * (l.length + 3) + 1 + 1 + 1 := ⟨k - (l.length * (l.length + 3) + 3), by omega⟩
    rw [smaltolaw06_TapsSum.l0, if_neg (by omega), if_pos S3, ← hG.sx, decide_eq_false (by omega), smaltolaw06_TapsSum.j2, if_neg (by decide)]
    exact TapsSum_l1 rfl hG l.length k 0 (by omega)
  · rw [if_neg hk, if_neg hk]; rfl

/-- Two rows whose elements stand in the same order, what is taken out among them. -/
def Like (r r' : List Int) : Prop := r.length = r'.length ∧ (∀ i j, i < r.length → j < r.length → (rd r (i : Int) > rd r (j : Int) ↔ rd r' (i : Int) > rd r' (j : Int))) ∧ (∀ i, i < r.length → (rd r (i : Int) > -1 ↔ rd r' (i : Int) > -1)) ∧ (∀ i, i < r.length → -1 ≤ rd r (i : Int) ∧ -1 ≤ rd r' (i : Int))
theorem Like.best_eq {r r' : List Int} (h : Like r r') : ∀ i, i ≤ r.length → best r i = best r' i
  | 0, _ => rfl
  | i + 1, hi => by
    have e := Like.best_eq h i (by omega)
    have hb : best r i < r.length := by
      by_cases c : 1 ≤ i
      · have := best_lt r i c; omega
      · have : i = 0 := by omega
        subst this; rw [best]; omega
    rw [best, best, ← e]
    have := h.2.1 i (best r i) (by omega) hb
    by_cases c : rd r (i : Int) > rd r (best r i : Int)
    · rw [if_pos c, if_pos (this.1 c)]
    · rw [if_neg c, if_neg (fun q => c (this.2 q))]
theorem Like.set {r r' : List Int} (h : Like r r') {b : Nat} (hb : b < r.length) : Like (r.set b (-1)) (r'.set b (-1)) := by
  obtain ⟨h1, h2, h3, h4⟩ := h
  refine ⟨by simp [h1], fun i j hi hj => ?_, fun i hi => ?_, fun i hi => ?_⟩
  · rw [List.length_set] at hi hj
    rw [rd_set _ _ _ hb, rd_set _ _ _ hb, rd_set _ _ _ (by omega), rd_set _ _ _ (by omega)]
    have a := h2 i j hi hj
    have b1 := h3 i hi
    have b2 := h4 i hi
    have b3 := h4 j hj
    by_cases c1 : i = b <;> by_cases c2 : j = b
    · simp [c1, c2]
    · rw [if_pos c1, if_neg c2, if_pos c1, if_neg c2]; omega
    · rw [if_neg c1, if_pos c2, if_neg c1, if_pos c2]; exact b1
    · rw [if_neg c1, if_neg c2, if_neg c1, if_neg c2]; exact a
  · rw [List.length_set] at hi
    rw [rd_set _ _ _ hb, rd_set _ _ _ (by omega)]
    by_cases c1 : i = b
    · rw [if_pos c1, if_pos c1]
    · rw [if_neg c1, if_neg c1]; exact h3 i hi
  · rw [List.length_set] at hi
    rw [rd_set _ _ _ hb, rd_set _ _ _ (by omega)]
    by_cases c1 : i = b
    · rw [if_pos c1, if_pos c1]; omega
    · rw [if_neg c1, if_neg c1]; exact h4 i hi
theorem Like.picks_eq : ∀ (t : Nat) (o r r' : List Int), Like r r' → 1 ≤ r.length → picks t o r = picks t o r'
  | 0, _, _, _, _, _ => rfl
  | t + 1, o, r, r', h, h1 => by
    have e := h.best_eq r.length (Nat.le_refl _)
    rw [picks, picks, ← h.1, ← e]
    exact Like.picks_eq t _ _ _ (h.set (best_lt r _ h1)) (by rw [List.length_set]; exact h1)
theorem rd_map_mul (l : List Int) (c : Int) (j : Nat) : rd (l.map fun x => x * c) (j : Int) = rd l (j : Int) * c := by
  unfold rd
  rw [List.getD_eq_getElem?_getD, List.getD_eq_getElem?_getD, List.getElem?_map]
  cases l[((j : Int)).toNat]? <;> simp
theorem psum_mul (f : Nat → Int) (c : Int) : ∀ n, psum (fun j => f j * c) n = psum f n * c
  | 0 => by simp [psum]
  | n + 1 => by rw [psum, psum, psum_mul f c n, Int.add_mul]
theorem scaled {l : List Int} {c : Int} (hc : 1 ≤ c ∧ c ≤ 50) (hl : 1 ≤ l.length ∧ l.length ≤ 100) (hb : ∀ j, j < l.length → -4294967296 ≤ rd l (j : Int) ∧ rd l (j : Int) ≤ 4294967296) (h0 : chkV l = 0) : chkV (l.map fun x => x * c) = 0 ∧ appL (l.map fun x => x * c) = appL l := by
  have hi : ∀ i : Nat, I64 (rd l (i : Int)) := by
    intro i
    by_cases q : i < l.length
    · have := hb i q; constructor <;> omega
    · unfold rd; rw [List.getD_eq_getElem?_getD, List.getElem?_eq_none (by simp; omega)]; decide
  have hG := good_of_chk hi h0
  have hmb : ∀ j, j < l.length → -214748364800 ≤ rd l (j : Int) * c ∧ rd l (j : Int) * c ≤ 214748364800 := by
    intro j hj
    have h1 := hb j hj
    have a : rd l (j : Int) * c ≤ 4294967296 * c := Int.mul_le_mul_of_nonneg_right (by omega) (by omega)
    have b : -4294967296 * c ≤ rd l (j : Int) * c := Int.mul_le_mul_of_nonneg_right (by omega) (by omega)
    omega
  have st := sum_take (l.map fun x => x * c) (by simp; omega) (fun j hj => by rw [rd_map_mul]; have := hmb j (by simpa using hj); omega) l.length (by simp)
  rw [List.take_of_length_le (by simp), psum_congr (g := fun j => rd l (j : Int) * c) _ (fun j hj => rd_map_mul l c j), psum_mul, ← hG.sx] at st
  have hs := hG.sb
  have hsc : sumFrom 0 l * 1 ≤ sumFrom 0 l * c := Int.mul_le_mul_of_nonneg_left (by omega) (by omega)
  have hk : chkV (l.map fun x => x * c) = 0 := by
    unfold chkV
    rw [if_neg, if_neg (by rw [st.1]; omega)]
    rintro (g | g | ⟨x, g1, g2⟩)
    · rw [List.length_map] at g; omega
    · rw [List.length_map] at g; omega
    · obtain ⟨j, hj, rfl⟩ := List.getElem_of_mem g1
      have hj' : j < l.length := by simpa using hj
      have e : (l.map fun x => x * c)[j] = rd l (j : Int) * c := by
        rw [← rd_map_mul]; unfold rd
        rw [List.getD_eq_getElem?_getD, show ((j : Int)).toNat = j from by omega, List.getElem?_eq_getElem hj]; rfl
      rw [e, szV_is (by have := hmb j hj'; constructor <;> omega)] at g2
      have := hmb j hj'
      split at g2
      · omega
      · split at g2 <;> omega
  refine ⟨hk, ?_⟩
  have q1 : ∀ j, qV (l.map fun x => x * c) (sumFrom 0 l * c) j = qV l (sumFrom 0 l) j := by
    intro j
    unfold qV
    rw [rd_map_mul, show rd l (j : Int) * c * 16384 = rd l (j : Int) * 16384 * c from by rw [Int.mul_assoc, Int.mul_comm c 16384, Int.mul_assoc]]
    exact Int.mul_ediv_mul_of_pos_left _ _ (by omega)
  have m1 : ∀ j, mV (l.map fun x => x * c) (sumFrom 0 l * c) j = mV l (sumFrom 0 l) j * c := by
    intro j
    unfold mV
    rw [rd_map_mul, show rd l (j : Int) * c * 16384 = rd l (j : Int) * 16384 * c from by rw [Int.mul_assoc, Int.mul_comm c 16384, Int.mul_assoc]]
    rw [Int.mul_comm _ c, Int.mul_comm (sumFrom 0 l) c, Int.mul_emod_mul_of_pos _ _ (by omega), Int.mul_comm]
  unfold appL
  rw [st.1, List.length_map, psum_congr (g := qV l (sumFrom 0 l)) _ (fun j _ => q1 j)]
  rw [show (fun j => qV (l.map fun x => x * c) (sumFrom 0 l * c) j) = fun j => qV l (sumFrom 0 l) j from funext q1, show (fun j => mV (l.map fun x => x * c) (sumFrom 0 l * c) j) = fun j => mV l (sumFrom 0 l) j * c from funext m1]
  refine (Like.picks_eq _ _ _ _ ⟨by simp, fun i j hi hj => ?_, fun i hi => ?_, fun i hi => ?_⟩ (by simp; omega)).symm
  · have hi' : i < l.length := by simpa using hi
    have hj' : j < l.length := by simpa using hj
    rw [rd_range _ hi', rd_range _ hj', rd_range _ hi', rd_range _ hj']
    constructor
    · intro h; exact Int.mul_lt_mul_of_pos_right h (by omega)
    · intro h; exact Int.lt_of_mul_lt_mul_right h (by omega)
  all_goals (
    have hi' : i < l.length := by simpa using hi
    rw [rd_range _ hi', rd_range _ hi']
    have hm : 0 ≤ mV l (sumFrom 0 l) i := Int.emod_nonneg _ (by omega)
    have hm2 : 0 ≤ mV l (sumFrom 0 l) i * c := Int.mul_nonneg hm (by omega)
    omega)
theorem TapsScaled_l0 {l : List Int} {c : Int} (hx : ∀ x ∈ l, I64 x) (hc : 1 ≤ c ∧ c ≤ 50) (hl : l.length ≤ 100) : ∀ (d k i : Nat), i + d = l.length → d + 300 < k → (∀ j, j < i → -4294967296 ≤ rd l (j : Int) ∧ rd l (j : Int) ≤ 4294967296) →
    smaltolaw06_TapsScaled.l0 k l c ((l.take i).map fun x => x * c) l (l.length : Int) (i : Int) = some true := by
  intro d
  induction d with
  | zero =>
    intro k i h1 h2 hb
    obtain ⟨k, rfl⟩ : ∃ m, k = m + 1 := ⟨k - 1, by omega⟩
    have e : i = l.length := by omega
    subst e
    rw [List.take_of_length_le (Nat.le_refl _), smaltolaw06_TapsScaled.l0, if_neg (by omega)]
    have hw : ∀ x ∈ l.map (fun x => x * c), I64 x := by
      intro x hxm
      obtain ⟨j, hj, rfl⟩ := List.getElem_of_mem hxm
      have hj' : j < l.length := by simpa using hj
      have e : (l.map fun x => x * c)[j] = rd l (j : Int) * c := by
        rw [← rd_map_mul]; unfold rd
        rw [List.getD_eq_getElem?_getD, show ((j : Int)).toNat = j from by omega, List.getElem?_eq_getElem hj]; rfl
      rw [e]
      have h1 := hb j hj'
      have a : rd l (j : Int) * c ≤ 4294967296 * c := Int.mul_le_mul_of_nonneg_right (by omega) (by omega)
      have b : -4294967296 * c ≤ rd l (j : Int) * c := Int.mul_le_mul_of_nonneg_right (by omega) (by omega)
      constructor <;> omega
    have ha : taps_Apportion.f l = some (if chkV l = 0 then (appL l, 0) else ([], chkV l)) := by
      unfold taps_Apportion.f appF; rw [if_pos hx]
    have haw : taps_Apportion.f (l.map fun x => x * c) = some (if chkV (l.map fun x => x * c) = 0 then (appL (l.map fun x => x * c), 0) else ([], chkV (l.map fun x => x * c))) := by
      unfold taps_Apportion.f appF; rw [if_pos hw]
    rw [ha, haw]
    simp only [Option.bind_some]
    by_cases hk : chkV l = 0
    · have hn : 1 ≤ l.length := (good_of_chk (fun i => rd_i64 hx _) hk).n0
      obtain ⟨s1, s2⟩ := scaled hc ⟨hn, hl⟩ hb hk
      rw [if_pos hk, if_pos s1, s2, if_pos rfl, if_pos rfl, same_refl _ (by rw [appL_len2]; omega) (by rw [appL_len2]; omega)]; rfl
    · rw [if_neg hk, if_neg hk]
      rw [if_pos (by simp)]
      by_cases h0 : l.length = 0
      · have el : l = [] := List.length_eq_zero_iff.1 h0
        subst el
        rfl
      · have hv : chkV l = 8 := by
          unfold chkV at hk ⊢
          have hn : ¬ (l.length = 0 ∨ l.length > 1048576 ∨ ∃ x ∈ l, szV x > 1099511627776) := by
            rintro (g | g | ⟨x, g1, g2⟩)
            · exact h0 g
            · omega
            · obtain ⟨j, hj, rfl⟩ := List.getElem_of_mem g1
              have e : l[j] = rd l (j : Int) := by
                unfold rd
                rw [List.getD_eq_getElem?_getD, show ((j : Int)).toNat = j from by omega, List.getElem?_eq_getElem hj]; rfl
              have h1 := hb j hj
              rw [e, szV_is (by constructor <;> omega)] at g2
              split at g2
              · omega
              · split at g2 <;> omega
          rw [if_neg hn] at hk ⊢
          by_cases g : sumFrom 0 l < 268435456
          · rw [if_pos g]
          · rw [if_neg g] at hk; exact absurd rfl hk
        rw [hv]
        split <;> (first | rfl | (split <;> rfl))
  | succ d ih =>
    intro k i h1 h2 hb
    obtain ⟨k, rfl⟩ : ∃ m, k = m + 1 := ⟨k - 1, by omega⟩
    rw [smaltolaw06_TapsScaled.l0, if_pos (by omega), if_pos (by omega), if_pos (by omega)]
    by_cases c1 : rd l (i : Int) > 4294967296
    · rw [if_pos c1]
    rw [if_neg c1]
    by_cases c2 : rd l (i : Int) < -4294967296
    · rw [if_pos c2]
    rw [if_neg c2, if_pos (by simp; omega)]
    have a : rd l (i : Int) * c ≤ 4294967296 * c := Int.mul_le_mul_of_nonneg_right (by omega) (by omega)
    have b : -4294967296 * c ≤ rd l (i : Int) * c := Int.mul_le_mul_of_nonneg_right (by omega) (by omega)
    rw [w64_id (show -9223372036854775808 ≤ rd l (i : Int) * c from by omega) (by omega), w64_id (show -9223372036854775808 ≤ (i : Int) + 1 from by omega) (by omega)]
    have e : l.take (i + 1) = l.take i ++ [rd l (i : Int)] := by
      rw [List.take_add_one, List.getElem?_eq_getElem (by omega)]
      unfold rd
      rw [List.getD_eq_getElem?_getD, show ((i : Int)).toNat = i from by omega, List.getElem?_eq_getElem (by omega)]; rfl
    have := ih k (i + 1) (by omega) (by omega) (fun j hj => by
      by_cases q : j = i
      · subst q; omega
      · exact hb j (by omega))
    rw [e, List.map_append] at this
    exact this
theorem TapsScaled_pure : smaltolaw06_TapsScaled.Pure := by
  intro l a h1 h2 h3 ha
  have hx : ∀ x ∈ l, I64 x := fun x hx => wf64 (h3 x hx)
  have hlen : l.length < 17592186044417 := by omega
  have ha := wfu8 ha
  refine ⟨l.length + 1001, ?_⟩
  unfold smaltolaw06_TapsScaled.f
  rw [lives06 (by omega)]
  simp only [Option.bind_some, if_true]
  rw [smaltolaw06_TapsScaled.j0]
  by_cases c : (l.length : Int) > 100
  · rw [if_pos (by simpa using c), lives06 (by omega)]; rfl
  rw [if_neg (by simpa using c), Int.tmod_eq_emod_of_nonneg (by omega), w64_id (show -9223372036854775808 ≤ a % 50 from by omega) (by omega), w64_id (show -9223372036854775808 ≤ 1 + a % 50 from by omega) (by omega)]
  exact TapsScaled_l0 (c := 1 + a % 50) hx (by omega) (by omega) l.length _ 0 (by omega) (by omega) (fun j hj => by omega)

end Go.Proofs.Ytabojpnelbmifaa.QA
