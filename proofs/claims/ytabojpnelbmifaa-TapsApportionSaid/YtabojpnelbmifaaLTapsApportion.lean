/- Of any raw weights taps.Apportion's taps, or what is wrong, are the reference's, and the weights stay as they were: of at most 200 weights, by the law's own guard. -/
import Derived.Test.YtabojpnelbmifaaQAx1
import Derived.Test.YtabojpnelbmifaaQAx2
import Derived.Test.YtabojpnelbmifaaQAx3
import Derived.Test.YtabojpnelbmifaaQAx4
import Derived.Test.YtabojpnelbmifaaQAx8
import Derived.Test.YtabojpnelbmifaaQAx11
import Derived.Test.YtabojpnelbmifaaQAx12
import Derived.Test.YtabojpnelbmifaaQAx13
import Derived.Test.YtabojpnelbmifaaQAx14
import Derived.Test.YtabojpnelbmifaaQAx15
import Derived.Test.YtabojpnelbmifaaQAx16
import Derived.Test.YtabojpnelbmifaaTCore
import Derived.Test.YtabojpnelbmifaaTExt
import Derived.Test.YtabojpnelbmifaaH06
import Derived.Test.YtabojpnelbmifaaH06p
import Derived.Test.YtabojpnelbmifaaH06e
namespace Go.Proofs.Ytabojpnelbmifaa.QA
open Go.RowKit Go.Proofs.YtabojpnelbmifaaW.PrintWords Go.Proofs.YtabojpnelbmifaaW.PrintLast Go.Proofs.YtabojpnelbmifaaW.PrintMore Go.Proofs.Ytabojpnelbmifaa.T
set_option linter.unusedVariables false

theorem ref01_Size_eq {a : Int} (ha : I64 a) : smaltoref01_Size.f a = some (siz a) := by
  unfold smaltoref01_Size.f siz wrap64
  simp only [u64w]
  split
  · congr 1; omega
  · congr 1; omega

theorem ref01_Hold_eq {k : Nat} (hk : 1 ≤ k) {h l : Int} (hh : U64 h) (hl : U64 l) (b : Bool) : smaltoref01_Hold.f k h l b = some (hold (sgn b (h * 18446744073709551616 + l))) := by
  obtain ⟨k, rfl⟩ : ∃ n, k = n + 1 := ⟨k - 1, by omega⟩
  unfold smaltoref01_Hold.f sgn hold
  cases b
  · simp only [Bool.false_eq_true, if_false]
    rw [if_neg (show ¬ h * 18446744073709551616 + l < -9223372036854775808 from by omega)]
    by_cases c : h > 0
    · rw [if_pos c, if_pos (by omega)]
    · rw [if_neg c]
      by_cases d : l > 9223372036854775807
      · rw [if_pos d, if_pos (by omega)]
      · rw [if_neg d, if_neg (by omega)]; congr 1; unfold wrap64; omega
  · simp only [if_true]
    simp only [smaltoref01_Hold.j0]
    by_cases c : h > 0
    · rw [if_pos c, if_pos trivial, if_pos (by omega)]
    · rw [if_neg c]
      by_cases d : l > 9223372036854775807
      · rw [if_pos (decide_eq_true d)]
        by_cases e : l = 9223372036854775808
        · rw [if_neg (by omega), if_neg (by omega)]; congr 1; omega
        · rw [if_pos (by omega)]
      · rw [if_neg (by simpa using d), if_neg (by omega), if_neg (by omega)]; congr 1; unfold wrap64; omega

theorem ref01_Plus_eq {a b c d : Int} (_ha : U64 a) (hb : U64 b) (_hc : U64 c) (hd : U64 d) :
    smaltoref01_Plus.f a b c d = some ((a + c + (b + d) / 18446744073709551616) % 18446744073709551616, (b + d) % 18446744073709551616) := by
  unfold smaltoref01_Plus.f
  simp only [u64w]
  split
  · congr 2; omega
  · congr 2; omega

theorem ref01_Minus_eq {a b c d : Int} (_ha : U64 a) (hb : U64 b) (_hc : U64 c) (hd : U64 d) :
    smaltoref01_Minus.f a b c d = some ((a - c + (b - d) / 18446744073709551616) % 18446744073709551616, (b - d) % 18446744073709551616) := by
  unfold smaltoref01_Minus.f
  simp only [u64w]
  split
  · congr 2; omega
  · congr 2; omega

theorem ref01_Twice_eq {a b c : Int} (_ha : U64 a) (_hb : U64 b) (_hc : 0 ≤ c ∧ c ≤ 1) :
    smaltoref01_Twice.f a b c = some ((2 * a + b / 9223372036854775808) % 18446744073709551616, (2 * b + c) % 18446744073709551616) := by
  unfold smaltoref01_Twice.f
  simp only [u64w]
  congr 2 <;> omega

theorem ref01_Less_eq {a b c d : Int} (_ha : U64 a) (hb : U64 b) (_hc : U64 c) (hd : U64 d) :
    smaltoref01_Less.f a b c d = some (decide (a * 18446744073709551616 + b < c * 18446744073709551616 + d)) := by
  unfold smaltoref01_Less.f
  split
  · congr 1; exact decide_eq_decide.2 (by omega)
  · congr 1; exact decide_eq_decide.2 (by omega)

theorem ref01_Bit_eq {a b : Int} (ha : U64 a) (hb : U64 b) (i : Nat) (hi : i < 128) :
    smaltoref01_Bit.f a b i = some ((a * 18446744073709551616 + b) / 2 ^ i % 2) := by
  have e64 : (18446744073709551616 : Int) = 2 ^ 64 := by decide
  unfold smaltoref01_Bit.f
  by_cases h : (i : Int) ≥ 64
  · rw [if_pos h, w64_id (show -9223372036854775808 ≤ (i : Int) - 64 from by omega) (by omega), if_pos (by omega), u64and1]
    unfold shr
    simp only [IntKind.bits]
    rw [show ((i : Int) - 64).toNat = i - 64 from by omega, Nat.min_eq_left (by omega)]
    congr 2
    have : (2 : Int) ^ i = 2 ^ 64 * 2 ^ (i - 64) := by rw [← Int.pow_add]; congr 1; omega
    rw [this, ← Int.ediv_ediv_of_nonneg (by decide), ← e64]
    congr 1; omega
  · rw [if_neg h, if_pos (by omega), u64and1]
    unfold shr
    simp only [IntKind.bits]
    rw [show ((i : Int)).toNat = i from by omega, Nat.min_eq_left (by omega)]
    congr 1
    have : (18446744073709551616 : Int) = 2 ^ i * (2 * 2 ^ (63 - i)) := by
      rw [e64, ← pow_succ2, ← Int.pow_add]; congr 1; omega
    rw [this, Int.mul_left_comm, Int.add_comm, Int.add_mul_ediv_left _ _ (by have := pow_pos i; omega), Int.mul_left_comm, Int.add_comm, Int.mul_add_emod_self_left]

theorem ref01_Over_l0 {d ah al : Int} (hd : 0 < d ∧ d < 18446744073709551616) (hah : U64 ah) (hal : U64 al) : ∀ (n : Nat) (k : Nat) (qh ql rh rl : Int), n ≤ 128 → n < k → U64 qh → U64 ql → U64 rh → U64 rl →
    rh * 18446744073709551616 + rl < d → (qh * 18446744073709551616 + ql) * d + (rh * 18446744073709551616 + rl) = (ah * 18446744073709551616 + al) / 2 ^ n →
    smaltoref01_Over.l0 k d ((n : Int) - 1) ah al qh ql rh rl =
      some ((ah * 18446744073709551616 + al) / d / 18446744073709551616, (ah * 18446744073709551616 + al) / d % 18446744073709551616, (ah * 18446744073709551616 + al) % d) := by
  intro n
  generalize hA : ah * 18446744073709551616 + al = A
  induction n with
  | zero =>
    intro k qh ql rh rl _ hk hqh hql hrh hrl hr he
    obtain ⟨k, rfl⟩ : ∃ n, k = n + 1 := ⟨k - 1, by omega⟩
    unfold smaltoref01_Over.l0
    rw [if_neg (by omega)]
    rw [Int.pow_zero, Int.ediv_one] at he
    obtain ⟨u1, u2⟩ := div_unique he (by omega) hr
    rw [u1, u2]
    congr 2
    · omega
    · congr 1 <;> omega
  | succ n ih =>
    intro k qh ql rh rl hn hk hqh hql hrh hrl hr he
    obtain ⟨k, rfl⟩ : ∃ n, k = n + 1 := ⟨k - 1, by omega⟩
    unfold smaltoref01_Over.l0
    rw [show ((n + 1 : Nat) : Int) - 1 = n from by omega, if_pos (by omega), ref01_Bit_eq hah hal n (by omega), hA]
    simp only [Option.bind_some]
    have hh2 := half_pow A n
    have hpn := pow_pos n
    have A0 : 0 ≤ A := by omega
    have al1 : A / 2 ^ n ≤ A := Int.ediv_le_self _ A0
    generalize hbit : A / 2 ^ n % 2 = bit at *
    have hb : 0 ≤ bit ∧ bit ≤ 1 := by omega
    rw [ref01_Twice_eq hrh hrl hb, ref01_Twice_eq hqh hql (by omega)]
    simp only [Option.bind_some]
    rw [ref01_Less_eq (by omega) (by omega) (by omega) (by omega)]
    simp only [Option.bind_some]
    rw [w64_id (by omega) (by omega)]
    have q0 : 0 ≤ qh * 18446744073709551616 + ql := by omega
    have qd : qh * 18446744073709551616 + ql ≤ (qh * 18446744073709551616 + ql) * d := by
      calc qh * 18446744073709551616 + ql = (qh * 18446744073709551616 + ql) * 1 := by rw [Int.mul_one]
        _ ≤ _ := Int.mul_le_mul_of_nonneg_left (by omega) q0
    generalize hQ : qh * 18446744073709551616 + ql = Q at *
    have e2 : (2 * Q) * d = 2 * (Q * d) := Int.mul_assoc _ _ _
    have e3 : (2 * Q + 1) * d = 2 * (Q * d) + d := by rw [Int.add_mul, e2, Int.one_mul]
    generalize hP : Q * d = P at *
    by_cases hl : 2 * (rh * 18446744073709551616 + rl) + bit < d
    · rw [if_pos (decide_eq_true (by omega))]
      refine ih k _ _ _ _ (by omega) (by omega) (by omega) (by omega) (by omega) (by omega) (by omega) ?_
      rw [show (2 * qh + ql / 9223372036854775808) % 18446744073709551616 * 18446744073709551616 + (2 * ql + 0) % 18446744073709551616 = 2 * Q from by omega, e2]
      omega
    · rw [if_neg (by simp; omega), ref01_Minus_eq (by omega) (by omega) (by omega) (by omega)]
      simp only [Option.bind_some, u64w]
      refine ih k _ _ _ _ (by omega) (by omega) (by omega) (by omega) (by omega) (by omega) (by omega) ?_
      rw [show (2 * qh + ql / 9223372036854775808) % 18446744073709551616 * 18446744073709551616 + ((2 * ql + 0) % 18446744073709551616 + 1) % 18446744073709551616 = 2 * Q + 1 from by omega, e3]
      omega
theorem ref01_Over_eq {k : Nat} (hk : 129 ≤ k) {d ah al : Int} (hd : 0 < d ∧ d < 18446744073709551616) (hah : U64 ah) (hal : U64 al) :
    smaltoref01_Over.f k ah al d = some ((ah * 18446744073709551616 + al) / d / 18446744073709551616, (ah * 18446744073709551616 + al) / d % 18446744073709551616, (ah * 18446744073709551616 + al) % d) := by
  unfold smaltoref01_Over.f
  rw [if_neg (by omega)]
  refine ref01_Over_l0 hd hah hal 128 k 0 0 0 0 (by omega) (by omega) (by omega) (by omega) (by omega) (by omega) (by omega) ?_
  rw [Int.ediv_eq_zero_of_lt (by omega) (by have : (2 : Int) ^ 128 = 340282366920938463463374607431768211456 := by decide
                                            omega)]
  omega

theorem ref01_Floor_eq {k : Nat} (hk : 129 ≤ k) {a b : Int} (ha : I64 a) (hb : I64 b) : smaltoref01_Floor.f k a b = some (hold (flo a b)) := by
  unfold smaltoref01_Floor.f
  by_cases hb0 : b = 0
  · rw [if_pos hb0, hb0]; simp [flo, hold]
  have ua := siz_u ha
  have ub := siz_u hb
  have ub0 : siz b ≠ 0 := fun h => hb0 (siz_zero.1 h)
  rw [if_neg hb0, ref01_Size_eq ha, ref01_Size_eq hb]
  simp only [Option.bind_some]
  rw [ref01_Over_eq hk (by omega) (by omega) (by omega)]
  simp only [Option.bind_some]
  have e := flo_xor (decide (a < 0)) b (siz a) hb0
  rw [sgn_siz a, flo_sgn _ (by omega)] at e
  rw [← e]
  generalize (decide (a < 0) != decide (b < 0)) = s
  rw [show 0 * 18446744073709551616 + siz a = siz a from by omega]
  have q0 : 0 ≤ siz a / siz b := Int.ediv_nonneg ua.1 ub.1
  have q1 : siz a / siz b ≤ siz a := Int.ediv_le_self _ ua.1
  have r0 := Int.emod_nonneg (siz a) ub0
  generalize siz a / siz b = q at *
  generalize siz a % siz b = r at *
  obtain ⟨k, rfl⟩ : ∃ n, k = n + 1 := ⟨k - 1, by omega⟩
  simp only [smaltoref01_Floor.j0]
  cases s
  · simp only [Bool.false_eq_true, if_false, false_and]
    rw [ref01_Hold_eq (by omega) (by omega) (by omega)]
    simp only [Option.bind_some]
    congr 3; omega
  · simp only [if_true, true_and]
    by_cases c : r = 0
    · rw [if_neg (by simp; omega), if_neg (by simpa using c), ref01_Hold_eq (by omega) (by omega) (by omega)]
      simp only [Option.bind_some]
      congr 3; omega
    · rw [if_pos (by simp; omega), if_pos c, ref01_Plus_eq (by omega) (by omega) (by omega) (by omega)]
      simp only [Option.bind_some]
      rw [ref01_Hold_eq (by omega) (by omega) (by omega)]
      simp only [Option.bind_some]
      congr 3; omega

theorem same_l0 (l : List Int) (hl : l.length < 4611686018427387904) : ∀ (d k i : Nat), i + d = l.length → d + 1 < k → smaltoref06_Same.l0 k l l (l.length : Int) (i : Int) = some true := by
  intro d
  induction d with
  | zero =>
    intro k i h1 h2
    obtain ⟨k, rfl⟩ : ∃ m, k = m + 1 := ⟨k - 1, by omega⟩
    rw [smaltoref06_Same.l0, if_neg (by omega)]
  | succ d ih =>
    intro k i h1 h2
    obtain ⟨k, rfl⟩ : ∃ m, k = m + 1 := ⟨k - 1, by omega⟩
    rw [smaltoref06_Same.l0, if_pos (by omega), if_pos (by omega), if_pos (by omega), if_pos (by omega), if_pos rfl, w64_id (by omega) (by omega)]
    exact ih k (i + 1) (by omega) (by omega)
theorem same_refl {k : Nat} (l : List Int) (hl : l.length < 4611686018427387904) (hk : l.length + 2 ≤ k) : smaltoref06_Same.f k l l = some true := by
  unfold smaltoref06_Same.f
  rw [if_pos rfl]
  exact same_l0 l hl l.length k 0 (by omega) (by omega)

theorem ref06_plus_eq {k : Nat} (hk : 1 ≤ k) {a b : Int} (ha : I64 a) (hb : I64 b) : smaltoref06_plus.f k a b = some (hold (a + b)) := by
  obtain ⟨k, rfl⟩ : ∃ m, k = m + 1 := ⟨k - 1, by omega⟩
  unfold smaltoref06_plus.f
  by_cases h1 : b > 0
  · rw [if_pos h1, w64_id (by omega) (by omega), smaltoref06_plus.j0]
    by_cases h2 : a > 9223372036854775807 - b
    · rw [if_pos (by simpa using h2)]
      unfold hold; rw [if_neg (by omega), if_pos (by omega)]
    · rw [if_neg (by simpa using h2), if_neg (by omega), w64_id (by omega) (by omega), hold_id (by omega) (by omega)]
  · rw [if_neg h1, smaltoref06_plus.j0, if_neg (by decide)]
    by_cases h2 : b < 0
    · rw [if_pos h2, w64_id (show -9223372036854775808 ≤ -9223372036854775808 - b from by omega) (by omega)]
      by_cases h3 : a < -9223372036854775808 - b
      · rw [if_pos h3]; unfold hold; rw [if_pos (by omega)]
      · rw [if_neg h3, w64_id (by omega) (by omega), hold_id (by omega) (by omega)]
    · rw [if_neg h2, w64_id (by omega) (by omega), hold_id (by omega) (by omega)]

theorem szV_is {x : Int} (hx : I64 x) : szV x = if x ≥ 0 then x else if x < -9223372036854775807 then 9223372036854775807 else -x := by
  have e : x * -1 = -x := by omega
  unfold szV
  rw [e]
  unfold mx hold
  repeat' split
  all_goals omega
theorem ref06_Size_eq {x : Int} (hx : I64 x) : smaltoref06_Size.f x = some (szV x) := by
  rw [szV_is hx]
  unfold smaltoref06_Size.f
  by_cases h1 : x ≥ 0
  · rw [if_pos h1, if_pos h1]
  · rw [if_neg h1, if_neg h1]
    by_cases h2 : x < -9223372036854775807
    · rw [if_pos h2, if_pos h2]
    · rw [if_neg h2, if_neg h2, w64_id (by omega) (by omega)]
theorem szV_i {x : Int} (hx : I64 x) : 0 ≤ szV x ∧ szV x ≤ 9223372036854775807 := by
  rw [szV_is hx]; repeat' split
  all_goals omega

/-- The sum without signs, held at each step. -/
def szFrom (s : Int) (l : List Int) : Int := l.foldl (fun s x => hold (s + szV x)) s
theorem rd_i64 {l : List Int} (hx : ∀ x ∈ l, I64 x) (i : Int) : I64 (rd l i) := by
  unfold rd
  rw [List.getD_eq_getElem?_getD]
  rcases Nat.lt_or_ge i.toNat l.length with q | q
  · rw [List.getElem?_eq_getElem q]; exact hx _ (List.getElem_mem _)
  · rw [List.getElem?_eq_none q]; decide
theorem drop_rd {l : List Int} {i : Nat} (h : i < l.length) : l.drop i = rd l (i : Int) :: l.drop (i + 1) := by
  rw [List.drop_eq_getElem_cons h]
  congr 1
  unfold rd
  rw [List.getD_eq_getElem?_getD, show ((i : Int)).toNat = i from by omega, List.getElem?_eq_getElem h]; rfl
theorem szFrom_i {s : Int} (hs : 0 ≤ s ∧ s ≤ 9223372036854775807) : ∀ {l : List Int}, (∀ x ∈ l, I64 x) → 0 ≤ szFrom s l ∧ szFrom s l ≤ 9223372036854775807 := by
  intro l
  induction l generalizing s with
  | nil => intro _; exact hs
  | cons x l ih =>
    intro hx
    have h1 := szV_i (hx x List.mem_cons_self)
    refine ih (s := hold (s + szV x)) ⟨?_, hold_le _⟩ (fun y hy => hx y (List.mem_cons_of_mem _ hy))
    unfold hold; split
    · omega
    · split <;> omega
theorem taps_Size_l0 (l : List Int) (hl : l.length < 4611686018427387904) (hx : ∀ x ∈ l, I64 x) : ∀ (d k i : Nat) (s : Int), i + d = l.length → d + 2 < k → I64 s → taps_Size.l0 k s l (l.length : Int) (i : Int) = some (szFrom s (l.drop i)) := by
  intro d
  induction d with
  | zero =>
    intro k i s h1 h2 hs
    obtain ⟨k, rfl⟩ : ∃ m, k = m + 1 := ⟨k - 1, by omega⟩
    rw [taps_Size.l0, if_neg (by omega), List.drop_of_length_le (by omega)]; rfl
  | succ d ih =>
    intro k i s h1 h2 hs
    obtain ⟨k, rfl⟩ : ∃ m, k = m + 1 := ⟨k - 1, by omega⟩
    have hz := szV_i (rd_i64 hx (i : Int))
    rw [taps_Size.l0, if_pos (by omega), if_pos (by omega), if_pos (by omega), taps_size_eq (by omega) (rd_i64 hx _)]
    simp only [Option.bind_some]
    rw [fixed_Add_eq (by omega) hs (by constructor <;> omega)]
    simp only [Option.bind_some]
    rw [w64_id (show -9223372036854775808 ≤ (i : Int) + 1 from by omega) (by omega), drop_rd (by omega)]
    exact ih k (i + 1) _ (by omega) (by omega) (hold_i _)
theorem taps_Size_eq {k : Nat} {l : List Int} (hk : l.length + 3 ≤ k) (hl : l.length < 4611686018427387904) (hx : ∀ x ∈ l, I64 x) : taps_Size.f k l = some (szFrom 0 l) :=
  taps_Size_l0 l hl hx l.length k 0 0 (by omega) (by omega) (by decide)

theorem ref06_Sizes_l0 (l : List Int) (hl : l.length < 4611686018427387904) (hx : ∀ x ∈ l, I64 x) : ∀ (d k i : Nat) (s : Int), i + d = l.length → d + 2 < k → I64 s → smaltoref06_Sizes.l0 k s l (l.length : Int) (i : Int) = some (szFrom s (l.drop i)) := by
  intro d
  induction d with
  | zero =>
    intro k i s h1 h2 hs
    obtain ⟨k, rfl⟩ : ∃ m, k = m + 1 := ⟨k - 1, by omega⟩
    rw [smaltoref06_Sizes.l0, if_neg (by omega), List.drop_of_length_le (by omega)]; rfl
  | succ d ih =>
    intro k i s h1 h2 hs
    obtain ⟨k, rfl⟩ : ∃ m, k = m + 1 := ⟨k - 1, by omega⟩
    have hz := szV_i (rd_i64 hx (i : Int))
    rw [smaltoref06_Sizes.l0, if_pos (by omega), if_pos (by omega), if_pos (by omega), ref06_Size_eq (rd_i64 hx _)]
    simp only [Option.bind_some]
    rw [ref06_plus_eq (by omega) hs (by constructor <;> omega)]
    simp only [Option.bind_some]
    rw [w64_id (show -9223372036854775808 ≤ (i : Int) + 1 from by omega) (by omega), drop_rd (by omega)]
    exact ih k (i + 1) _ (by omega) (by omega) (hold_i _)
theorem ref06_Sizes_eq {k : Nat} {l : List Int} (hk : l.length + 3 ≤ k) (hl : l.length < 4611686018427387904) (hx : ∀ x ∈ l, I64 x) : smaltoref06_Sizes.f k l = some (szFrom 0 l) :=
  ref06_Sizes_l0 l hl hx l.length k 0 0 (by omega) (by omega) (by decide)

theorem ref06_Sum_l0 (l : List Int) (hl : l.length < 4611686018427387904) (hx : ∀ x ∈ l, I64 x) : ∀ (d k i : Nat) (s : Int), i + d = l.length → d + 2 < k → I64 s → smaltoref06_Sum.l0 k s l (l.length : Int) (i : Int) = some (sumFrom s (l.drop i)) := by
  intro d
  induction d with
  | zero =>
    intro k i s h1 h2 hs
    obtain ⟨k, rfl⟩ : ∃ m, k = m + 1 := ⟨k - 1, by omega⟩
    rw [smaltoref06_Sum.l0, if_neg (by omega), List.drop_of_length_le (by omega)]; rfl
  | succ d ih =>
    intro k i s h1 h2 hs
    obtain ⟨k, rfl⟩ : ∃ m, k = m + 1 := ⟨k - 1, by omega⟩
    rw [smaltoref06_Sum.l0, if_pos (by omega), if_pos (by omega), if_pos (by omega), ref06_plus_eq (by omega) hs (rd_i64 hx _)]
    simp only [Option.bind_some]
    rw [w64_id (show -9223372036854775808 ≤ (i : Int) + 1 from by omega) (by omega), drop_rd (by omega)]
    exact ih k (i + 1) _ (by omega) (by omega) (hold_i _)
theorem ref06_Sum_eq {k : Nat} {l : List Int} (hk : l.length + 3 ≤ k) (hl : l.length < 4611686018427387904) (hx : ∀ x ∈ l, I64 x) : smaltoref06_Sum.f k l = some (sumFrom 0 l) :=
  ref06_Sum_l0 l hl hx l.length k 0 0 (by omega) (by omega) (by decide)

theorem lives06 {k : Nat} (hk : 400 ≤ k) : smaltolaw06_Lives.f k = some true :=
  at_rounds (fun k => smaltolaw06_Lives.mono k) hk (show smaltolaw06_Lives.f 400 = some true by decide +kernel)

theorem ref06_l3 (o r : List Int) (left : Int) (n : Nat) (hr : r.length = n) (ho : o.length = n) (h1 : 1 ≤ n) (hn : n ≤ 1048576) : ∀ (d k i : Nat), i + d = n →
    smaltoref06_Apportion.l3 (k + d + 1) o r left (best r i : Int) (n : Int) (i : Int) = smaltoref06_Apportion.l2 k (o.set (best r n) (wrap64 (rd o (best r n : Int) + 1))) (r.set (best r n) (-1)) (wrap64 (left - 1)) := by
  intro d
  induction d with
  | zero =>
    intro k i hi
    have e : i = n := by omega
    have hb := best_lt r n h1
    rw [smaltoref06_Apportion.l3, if_neg (by omega), e, if_pos (by omega), if_pos (by omega), if_pos (by omega)]
    rw [show ((best r n : Nat) : Int).toNat = best r n from by omega]
  | succ d ih =>
    intro k i hi
    have hb : best r i < n := by
      by_cases c : 1 ≤ i
      · have := best_lt r i c; omega
      · have : i = 0 := by omega
        subst this; rw [best]; omega
    rw [show k + (d + 1) + 1 = (k + d + 1) + 1 from by omega, smaltoref06_Apportion.l3, if_pos (by omega), if_pos (by omega), if_pos (by omega), if_pos (by omega), if_pos (by omega)]
    have := ih k (i + 1) (by omega)
    rw [best] at this
    rw [w64_id (show -9223372036854775808 ≤ (i : Int) + 1 from by omega) (by omega)]
    by_cases c : rd r (i : Int) > rd r (best r i : Int)
    · rw [if_pos c] at this ⊢; exact this
    · rw [if_neg c] at this ⊢; exact this
theorem rd_set (o : List Int) (b : Nat) (v : Int) (hb : b < o.length) (j : Nat) : rd (o.set b v) (j : Int) = if j = b then v else rd o (j : Int) := by
  unfold rd
  rw [List.getD_eq_getElem?_getD, List.getD_eq_getElem?_getD, show ((j : Int)).toNat = j from by omega, List.getElem?_set]
  by_cases c : b = j
  · subst c; rw [if_pos rfl, if_pos rfl, if_pos hb]; rfl
  · rw [if_neg c, if_neg (fun e => c e.symm)]
theorem ref06_l2 (n : Nat) (h1 : 1 ≤ n) (hn : n ≤ 1048576) : ∀ (t k : Nat) (o r : List Int), o.length = n → r.length = n → (t : Int) ≤ 1048576 → (∀ j : Nat, -1099511627776 ≤ rd o (j : Int) ∧ rd o (j : Int) + t ≤ 1099511627776) →
    smaltoref06_Apportion.l2 (k + t * (n + 2) + 1) o r (t : Int) = some (picks t o r, 0) := by
  intro t
  induction t with
  | zero =>
    intro k o r ho hr ht hb
    rw [smaltoref06_Apportion.l2, if_neg (by omega)]; rfl
  | succ t ih =>
    intro k o r ho hr ht hb
    have e : k + (t + 1) * (n + 2) + 1 = ((k + t * (n + 2) + 1) + n + 1) + 1 := by rw [Nat.add_mul, Nat.one_mul]; omega
    have h3 := ref06_l3 o r ((t + 1 : Nat) : Int) n hr ho h1 hn n (k + t * (n + 2) + 1) 0 (by omega)
    have hbb := best_lt r n h1
    have hbd := hb (best r n)
    rw [e, smaltoref06_Apportion.l2, if_pos (by omega), hr]
    rw [show ((best r 0 : Nat) : Int) = 0 from rfl] at h3
    rw [show (0 : Int) = ((0 : Nat) : Int) from rfl]
    refine h3.trans ?_
    rw [w64_id (show -9223372036854775808 ≤ rd o (best r n : Int) + 1 from by omega) (by omega), w64_id (show -9223372036854775808 ≤ ((t + 1 : Nat) : Int) - 1 from by omega) (by omega), show ((t + 1 : Nat) : Int) - 1 = (t : Int) from by omega, picks, hr]
    refine ih k _ _ (by rw [List.length_set]; exact ho) (by rw [List.length_set]; exact hr) (by omega) (fun j => ?_)
    rw [rd_set _ _ _ (by omega)]
    have := hb j
    split
    · rename_i c; subst c; omega
    · omega
theorem ref06_l1 {l : List Int} {s : Int} (hG : Good l s) (R : Option (List Int × Int)) (K : Nat) (hR : ∀ k, K ≤ k → smaltoref06_Apportion.l2 k ((List.range l.length).map fun j => qV l s j) ((List.range l.length).map fun j => mV l s j) (16384 - psum (qV l s) l.length) = R) : ∀ (d k i : Nat), i + d = l.length → d + K + 200 < k →
    smaltoref06_Apportion.l1 k s ((List.range i).map fun j => qV l s j) ((List.range i).map fun j => mV l s j) (16384 - psum (qV l s) i) l (l.length : Int) (i : Int) = R := by
  intro d
  induction d with
  | zero =>
    intro k i h1 h2
    obtain ⟨k, rfl⟩ : ∃ m, k = m + 1 := ⟨k - 1, by omega⟩
    rw [smaltoref06_Apportion.l1, if_neg (by omega), show i = l.length from by omega]
    exact hR k (by omega)
  | succ d ih =>
    intro k i h1 h2
    obtain ⟨k, rfl⟩ : ∃ m, k = m + 1 := ⟨k - 1, by omega⟩
    have hx := hG.xb i (by omega)
    have hq := hG.qb i (by omega)
    have hs := hG.sb
    have hn1 := hG.n1
    have hp := psum_bnd (qV l s) l.length hG.qb i (by omega)
    have e := Int.mul_ediv_add_emod (rd l (i : Int) * 16384) s
    have r0 := Int.emod_nonneg (rd l (i : Int) * 16384) (show s ≠ 0 by omega)
    have r1 := Int.emod_lt_of_pos (rd l (i : Int) * 16384) (show 0 < s by omega)
    have eq : qV l s i = rd l (i : Int) * 16384 / s := rfl
    have em : mV l s i = rd l (i : Int) * 16384 % s := rfl
    have ec : qV l s i * s = s * (rd l (i : Int) * 16384 / s) := by rw [eq, Int.mul_comm]
    rw [smaltoref06_Apportion.l1, if_pos (by omega), if_pos (by omega), if_pos (by omega), w64_id (show -9223372036854775808 ≤ rd l (i : Int) * 16384 from by omega) (by omega), ref01_Floor_eq (by omega) (by constructor <;> omega) (by constructor <;> omega)]
    simp only [Option.bind_some]
    rw [if_pos (by simp; omega), if_pos (by simp; omega)]
    have ef : hold (flo (rd l (i : Int) * 16384) s) = qV l s i := by
      unfold flo; rw [if_pos (by omega), ← eq, hold_id (by omega) (by omega)]
    rw [ef, w64_id (show -9223372036854775808 ≤ qV l s i * s from by omega) (by omega), w64_id (show -9223372036854775808 ≤ rd l (i : Int) * 16384 - qV l s i * s from by omega) (by omega), show rd l (i : Int) * 16384 - qV l s i * s = mV l s i from by omega,
      w64_id (show -9223372036854775808 ≤ 16384 - psum (qV l s) i - qV l s i from by omega) (by omega), w64_id (show -9223372036854775808 ≤ (i : Int) + 1 from by omega) (by omega)]
    have := ih k (i + 1) (by omega) (by omega)
    rw [List.range_succ, List.map_append, List.map_append, psum] at this
    rw [show 16384 - psum (qV l s) i - qV l s i = 16384 - (psum (qV l s) i + qV l s i) from by omega]
    exact this
theorem ref06_Apportion_eq {l : List Int} (hx : ∀ x ∈ l, I64 x) (hl : l.length < 4611686018427387904) : ∃ K, ∀ k, K ≤ k → smaltoref06_Apportion.f k l = some (if chkV l = 0 then (appL l, 0) else ([], chkV l)) := by
  by_cases h0 : l.length = 0
  · refine ⟨2, fun k hk => ?_⟩
    obtain ⟨k, rfl⟩ : ∃ m, k = m + 1 := ⟨k - 1, by omega⟩
    have e : chkV l = 7 := by unfold chkV; rw [if_pos (Or.inl h0)]
    unfold smaltoref06_Apportion.f
    rw [if_pos (by omega), smaltoref06_Apportion.j0, if_pos rfl, e]; rfl
  by_cases h1 : l.length > 1048576
  · refine ⟨2, fun k hk => ?_⟩
    obtain ⟨k, rfl⟩ : ∃ m, k = m + 1 := ⟨k - 1, by omega⟩
    have e : chkV l = 7 := by unfold chkV; rw [if_pos (Or.inr (Or.inl h1))]
    unfold smaltoref06_Apportion.f
    rw [if_neg (by omega), smaltoref06_Apportion.j0, if_pos (by simp; omega), e]; rfl
  -- the sizes, one behind the other
  have loop : ∀ (R : Option (List Int × Int)) (K : Nat), ((∃ x ∈ l, szV x > 1099511627776) → R = some ([], 7)) → ((¬ ∃ x ∈ l, szV x > 1099511627776) → ∀ k, K ≤ k → (smaltoref06_Sum.f k l).bind (fun t => if t < 268435456 then some (([] : List Int), (8 : Int)) else smaltoref06_Apportion.l1 k t [] [] 16384 l (l.length : Int) 0) = R) →
      ∀ (d k i : Nat), i + d = l.length → d + K + 2 < k → (∀ j, j < i → ¬ szV (rd l (j : Int)) > 1099511627776) → smaltoref06_Apportion.l0 k l l (l.length : Int) (i : Int) = R := by
    intro R K g1 g2 d
    induction d with
    | zero =>
      intro k i q1 q2 q3
      obtain ⟨k, rfl⟩ : ∃ m, k = m + 1 := ⟨k - 1, by omega⟩
      rw [smaltoref06_Apportion.l0, if_neg (by omega)]
      refine g2 ?_ k (by omega)
      rintro ⟨x, hx1, hx2⟩
      obtain ⟨j, hj, rfl⟩ := List.getElem_of_mem hx1
      have := q3 j (by omega)
      unfold rd at this
      rw [List.getD_eq_getElem?_getD, show ((j : Int)).toNat = j from by omega, List.getElem?_eq_getElem hj] at this
      exact this hx2
    | succ d ih =>
      intro k i q1 q2 q3
      obtain ⟨k, rfl⟩ : ∃ m, k = m + 1 := ⟨k - 1, by omega⟩
      rw [smaltoref06_Apportion.l0, if_pos (by omega), if_pos (by omega), if_pos (by omega), ref06_Size_eq (rd_i64 hx _)]
      simp only [Option.bind_some]
      by_cases c : szV (rd l (i : Int)) > 1099511627776
      · rw [if_pos c]; exact (g1 ⟨_, rd_mem (by omega), c⟩).symm
      · rw [if_neg c, w64_id (show -9223372036854775808 ≤ (i : Int) + 1 from by omega) (by omega)]
        refine ih k (i + 1) (by omega) (by omega) (fun j hj => ?_)
        by_cases c2 : j = i
        · subst c2; exact c
        · exact q3 j (by omega)
  have top : ∀ (R : Option (List Int × Int)) (K : Nat), ((∃ x ∈ l, szV x > 1099511627776) → R = some ([], 7)) → ((¬ ∃ x ∈ l, szV x > 1099511627776) → ∀ k, K ≤ k → (smaltoref06_Sum.f k l).bind (fun t => if t < 268435456 then some (([] : List Int), (8 : Int)) else smaltoref06_Apportion.l1 k t [] [] 16384 l (l.length : Int) 0) = R) →
      ∀ k, l.length + K + 10 ≤ k → smaltoref06_Apportion.f k l = R := by
    intro R K g1 g2 k hk
    obtain ⟨k, rfl⟩ : ∃ m, k = m + 1 := ⟨k - 1, by omega⟩
    unfold smaltoref06_Apportion.f
    rw [if_neg (by omega), smaltoref06_Apportion.j0, if_neg (by simp; omega)]
    exact loop R K g1 g2 l.length k 0 (by omega) (by omega) (fun j hj => by omega)
  by_cases hs : sumFrom 0 l < 268435456
  · refine ⟨l.length + (l.length + 3) + 10, top _ (l.length + 3) (fun q => ?_) (fun q k hk => ?_)⟩
    · have e : chkV l = 7 := by unfold chkV; rw [if_pos (Or.inr (Or.inr q))]
      rw [e]; rfl
    · have e : chkV l = 8 := by
        unfold chkV; rw [if_neg (by rintro (g | g | g); exact h0 g; exact h1 g; exact q g), if_pos hs]
      rw [ref06_Sum_eq hk hl hx, e]
      simp only [Option.bind_some]
      rw [if_pos hs]; rfl
  · by_cases hz : ∃ x ∈ l, szV x > 1099511627776
    · refine ⟨l.length + 0 + 10, top _ 0 (fun q => ?_) (fun q => absurd hz q)⟩
      have e : chkV l = 7 := by unfold chkV; rw [if_pos (Or.inr (Or.inr q))]
      rw [e]; rfl
    · have e : chkV l = 0 := by
        unfold chkV; rw [if_neg (by rintro (g | g | g); exact h0 g; exact h1 g; exact hz g), if_neg hs]
      have hG := good_of_chk (fun i => rd_i64 hx _) e
      have hlb := hG.lb
      obtain ⟨t, ht⟩ : ∃ t : Nat, 16384 - psum (qV l (sumFrom 0 l)) l.length = (t : Int) := ⟨(16384 - psum (qV l (sumFrom 0 l)) l.length).toNat, by omega⟩
      have e2 : appL l = picks t ((List.range l.length).map fun j => qV l (sumFrom 0 l) j) ((List.range l.length).map fun j => mV l (sumFrom 0 l) j) := by
        unfold appL; rw [ht]; rfl
      have hK : ∀ k, t * (l.length + 2) + 1 ≤ k → smaltoref06_Apportion.l2 k ((List.range l.length).map fun j => qV l (sumFrom 0 l) j) ((List.range l.length).map fun j => mV l (sumFrom 0 l) j) (16384 - psum (qV l (sumFrom 0 l)) l.length) = some (appL l, 0) := by
        intro k hk
        rw [ht, e2, show k = (k - (t * (l.length + 2) + 1)) + t * (l.length + 2) + 1 from by omega]
        refine ref06_l2 l.length hG.n0 hG.n1 t _ _ _ (by simp) (by simp) (by have := hG.n1; omega) (fun j => ?_)
        by_cases c : j < l.length
        · have := hG.qb j c
          have := hG.n1
          rw [rd_range _ c]; omega
        · unfold rd
          rw [List.getD_eq_getElem?_getD, List.getElem?_eq_none (by simp; omega)]
          have := hG.n1
          simp; omega
      refine ⟨l.length + (l.length + (t * (l.length + 2) + 1) + 300) + 10, top _ (l.length + (t * (l.length + 2) + 1) + 300) (fun q => absurd q hz) (fun q k hk => ?_)⟩
      rw [ref06_Sum_eq (by omega) hl hx, e]
      simp only [Option.bind_some]
      rw [if_neg hs]
      exact ref06_l1 hG _ _ hK l.length k 0 (by omega) (by omega)

theorem picks_len : ∀ (t : Nat) (o r : List Int), (picks t o r).length = o.length
  | 0, _, _ => rfl
  | t + 1, o, r => by rw [picks, picks_len t, List.length_set]
theorem appL_len (l : List Int) : (appL l).length = l.length := by unfold appL; rw [picks_len]; simp
theorem TapsApportion_pure : smaltolaw06_TapsApportion.Pure := by
  intro l h1 h2 h3
  have hx : ∀ x ∈ l, I64 x := fun x hx => wf64 (h3 x hx)
  have hlen : l.length < 17592186044417 := by omega
  obtain ⟨K, hK⟩ := ref06_Apportion_eq hx (by omega)
  refine ⟨l.length + K + 1001, ?_⟩
  unfold smaltolaw06_TapsApportion.f
  rw [lives06 (by omega)]
  simp only [Option.bind_some, if_true]
  rw [smaltolaw06_TapsApportion.j0]
  by_cases c : (l.length : Int) > 200
  · rw [if_pos (by simpa using c), lives06 (by omega)]; rfl
  rw [if_neg (by simpa using c)]
  simp only [Option.bind_some, List.nil_append, List.length_nil]
  rw [if_pos (by omega)]
  have ha : taps_Apportion.f l = some (if chkV l = 0 then (appL l, 0) else ([], chkV l)) := by
    unfold taps_Apportion.f appF; rw [if_pos hx]
  rw [ha, hK _ (by omega)]
  simp only [Option.bind_some]
  have hlen2 : (if chkV l = 0 then (appL l, (0 : Int)) else ([], chkV l)).1.length ≤ l.length := by
    split
    · rw [appL_len]; exact Nat.le_refl _
    · simp
  rw [same_refl _ (by omega) (by omega)]
  simp only [Option.bind_some, if_true]
  rw [same_refl _ (by omega) (by omega)]
  simp only [Option.bind_some, if_true]
  rw [taps_Sum_eq (by omega) (by omega) (fun i => rd_i64 hx _), ref06_Sum_eq (by omega) (by omega) hx]
  simp only [Option.bind_some, if_true]
  rw [taps_Size_eq (by omega) (by omega) hx, ref06_Sizes_eq (by omega) (by omega) hx]
  simp

end Go.Proofs.Ytabojpnelbmifaa.QA
