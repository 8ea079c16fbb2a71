/- Of border.At and border.Span: what they answer is the reference's, and the laws of chapter 7 hold, for every input. -/
import Derived.Test.YtofmgoihoaookaaQAx1
import Derived.Test.YtofmgoihoaookaaQAx2
import Derived.Test.YtofmgoihoaookaaQAx3
import Derived.Test.YtofmgoihoaookaaQAx6
import Derived.Test.YtofmgoihoaookaaQAx7
import Derived.Test.YtofmgoihoaookaaTCore
namespace Go.Proofs.Ytofmgoihoaookaa.QA
open Go.RowKit Go.Proofs.YtofmgoihoaookaaW.PrintWords Go.Proofs.YtofmgoihoaookaaW.PrintLast Go.Proofs.YtofmgoihoaookaaW.PrintMore Go.Proofs.Ytofmgoihoaookaa.T
set_option linter.unusedVariables false

theorem fixed_Mod_eq {k : Nat} (hk : 1 ≤ k) {a b : Int} (_ha : I64 a) (hb : I64 b) : fixed_Mod.f k a b = some (md a b) := by
  obtain ⟨k, rfl⟩ : ∃ n, k = n + 1 := ⟨k - 1, by omega⟩
  unfold fixed_Mod.f md
  simp only [fixed_Mod.j0]
  by_cases hb0 : b = 0
  · rw [if_pos hb0, if_pos trivial, if_pos hb0]
  rw [if_neg hb0, if_neg hb0]
  by_cases hb1 : b = -1
  · subst hb1; rw [if_pos (by decide), if_neg (by decide), Int.neg_neg, Int.emod_one]; rfl
  rw [if_neg (show ¬ ((b == -1) = true) from by simpa using hb1)]
  by_cases hp : 0 < b
  · rw [if_pos hp, tmod_pos a hp]
    have r0 := Int.emod_nonneg a hb0
    have r1 := Int.emod_lt_of_pos a hp
    generalize a % b = r at *
    by_cases hc : 0 ≤ a ∨ r = 0
    · rw [if_pos hc]
      have : ((decide (r < 0)) != (decide (b < 0))) = false := by
        rw [decide_eq_false (by omega), decide_eq_false (by omega)]; rfl
      rw [this]; simp [hb0]
    · rw [if_neg hc]
      have : ((decide (r - b < 0)) != (decide (b < 0))) = true := by
        rw [decide_eq_true (by omega), decide_eq_false (by omega)]; rfl
      rw [this, if_neg (by omega), if_pos rfl]
      congr 1; unfold wrap64; omega
  · rw [if_neg hp]
    have hnb : 0 < -b := by omega
    have e : a.tmod b = -((-a).tmod (-b)) := by rw [Int.neg_tmod, Int.tmod_neg, Int.neg_neg]
    rw [e, tmod_pos (-a) hnb]
    have r0 := Int.emod_nonneg (-a) (show -b ≠ 0 from by omega)
    have r1 := Int.emod_lt_of_pos (-a) hnb
    generalize (-a) % (-b) = r at *
    by_cases hc : 0 ≤ -a ∨ r = 0
    · rw [if_pos hc]
      by_cases hz : r = 0
      · rw [hz]; simp
      have : ((decide (-r < 0)) != (decide (b < 0))) = false := by
        rw [decide_eq_true (by omega), decide_eq_true (by omega)]; rfl
      rw [this]; simp [hb0]
    · rw [if_neg hc]
      have : ((decide (-(r - -b) < 0)) != (decide (b < 0))) = true := by
        rw [decide_eq_false (by omega), decide_eq_true (by omega)]; rfl
      rw [this, if_neg (by omega), if_pos rfl]
      congr 1; unfold wrap64; omega

theorem fixed_Clamp_eq (x a b : Int) : fixed_Clamp.f x a b = some (mx a (mn x b)) := rfl

theorem fixed_Add_eq {k : Nat} (hk : 1 ≤ k) {a b : Int} (ha : I64 a) (hb : I64 b) : fixed_Add.f k a b = some (hold (a + b)) := by
  obtain ⟨k, rfl⟩ : ∃ n, k = n + 1 := ⟨k - 1, by omega⟩
  unfold fixed_Add.f hold
  simp only [fixed_Add.j0]
  by_cases h : b > 0
  · rw [if_pos h]
    by_cases g : wrap64 (a + b) < a
    · rw [if_pos (decide_eq_true g)]; unfold wrap64 at g
      rw [if_neg (by omega), if_pos (by omega)]
    · rw [if_neg (by simpa using g)]; unfold wrap64 at g ⊢
      rw [if_neg (by omega), if_neg (by omega), if_neg (by omega)]; congr 1; omega
  · rw [if_neg h, if_neg (show ¬ (false = true) from by decide)]
    unfold wrap64
    by_cases c : b < 0
    · rw [if_pos c]
      by_cases g : (a + b + 9223372036854775808) % 18446744073709551616 - 9223372036854775808 > a
      · rw [if_pos g, if_pos (by omega)]
      · rw [if_neg g, if_neg (by omega), if_neg (by omega)]; congr 1; omega
    · rw [if_neg c, if_neg (by omega), if_neg (by omega)]; congr 1; omega

/-- Which sample stands for one beyond. -/
def bat (p j n : Int) : Int := if n < 1 ∨ n > 65536 then 0 else if p = 0 then mx 0 (mn j (n - 1)) else if p = 1 then mn (j % (2 * n)) (2 * n - 1 - j % (2 * n)) else if p = 2 then j % n else 0
theorem border_At_eq {k : Nat} (hk : 2 ≤ k) {p j n : Int} (hj : I64 j) (hn : I64 n) : border_At.f k p j n = some (bat p j n) := by
  obtain ⟨k, rfl⟩ : ∃ m, k = m + 1 := ⟨k - 1, by omega⟩
  unfold border_At.f bat
  simp only [border_At.j0]
  by_cases h0 : n < 1
  · rw [if_pos h0, if_pos trivial, if_pos (Or.inl h0)]
  rw [if_neg h0]
  by_cases h1 : n > 65536
  · rw [if_pos (decide_eq_true h1), if_pos (Or.inr h1)]
  rw [if_neg (show ¬ (decide (n > 65536) = true) from by simpa using h1), if_neg (show ¬ (n < 1 ∨ n > 65536) from by omega)]
  rw [w64_id (show -9223372036854775808 ≤ n - 1 from by omega) (by omega), w64_id (show -9223372036854775808 ≤ 2 * n from by omega) (by omega)]
  by_cases p0 : p = 0
  · rw [if_pos p0, if_pos p0, fixed_Clamp_eq]; rfl
  rw [if_neg p0, if_neg p0]
  by_cases p1 : p = 1
  · rw [if_pos p1, if_pos p1, fixed_Mod_eq (by omega) hj (by omega)]
    simp only [Option.bind_some]
    have e : md j (2 * n) = j % (2 * n) := by unfold md; rw [if_neg (by omega), if_pos (by omega)]
    have r0 := Int.emod_nonneg j (show 2 * n ≠ 0 from by omega)
    have r1 := Int.emod_lt_of_pos j (show 0 < 2 * n from by omega)
    rw [e]
    generalize j % (2 * n) = r at *
    rw [w64_id (show -9223372036854775808 ≤ 2 * n - 1 from by omega) (by omega), w64_id (by omega) (by omega)]
  rw [if_neg p1, if_neg p1]
  by_cases p2 : p = 2
  · rw [if_pos p2, if_pos p2, fixed_Mod_eq (by omega) hj hn]
    simp only [Option.bind_some]
    unfold md; rw [if_neg (by omega), if_pos (by omega)]
  rw [if_neg p2, if_neg p2]

theorem bat_in {p j n : Int} (h0 : 1 ≤ n) (h1 : n ≤ 65536) : 0 ≤ bat p j n ∧ bat p j n < n := by
  unfold bat mx mn
  rw [if_neg (by omega)]
  have r0 := Int.emod_nonneg j (show 2 * n ≠ 0 from by omega)
  have r1 := Int.emod_lt_of_pos j (show 0 < 2 * n from by omega)
  have s0 := Int.emod_nonneg j (show n ≠ 0 from by omega)
  have s1 := Int.emod_lt_of_pos j (show 0 < n from by omega)
  generalize j % (2 * n) = r at *
  generalize j % n = s at *
  split
  · split <;> split <;> omega
  · split
    · split <;> omega
    · split <;> omega
theorem bat_i {p j n : Int} (h1 : n ≤ 65536) : I64 (bat p j n) := by
  by_cases h0 : n < 1
  · unfold bat; rw [if_pos (Or.inl h0)]; constructor <;> omega
  · have := @bat_in p j n (by omega) h1; constructor <;> omega
theorem bat_i' {p j n : Int} : I64 (bat p j n) := by
  by_cases h0 : n > 65536
  · unfold bat; rw [if_pos (Or.inr h0)]; constructor <;> omega
  · exact bat_i (by omega)
theorem bat0 {j n : Int} (h0 : 1 ≤ n) (h1 : n ≤ 65536) : bat 0 j n = mx 0 (mn j (n - 1)) := by unfold bat; rw [if_neg (show ¬ (n < 1 ∨ n > 65536) from by omega), if_pos rfl]
theorem bat1 {j n : Int} (h0 : 1 ≤ n) (h1 : n ≤ 65536) : bat 1 j n = mn (j % (2 * n)) (2 * n - 1 - j % (2 * n)) := by unfold bat; rw [if_neg (show ¬ (n < 1 ∨ n > 65536) from by omega), if_neg (by decide), if_pos rfl]
theorem bat2 {j n : Int} (h0 : 1 ≤ n) (h1 : n ≤ 65536) : bat 2 j n = j % n := by unfold bat; rw [if_neg (show ¬ (n < 1 ∨ n > 65536) from by omega), if_neg (by decide), if_neg (by decide), if_pos rfl]
theorem emod_step {j n : Int} (hn : 0 < n) : (j + 1) % n = if j % n = n - 1 then 0 else j % n + 1 := by
  have e := Int.mul_ediv_add_emod j n
  have s0 := Int.emod_nonneg j (show n ≠ 0 from by omega)
  have s1 := Int.emod_lt_of_pos j hn
  split
  · exact (div_unique (q := j / n + 1) (r := 0) (by rw [Int.add_mul, Int.mul_comm]; omega) (by omega) hn).2
  · exact (div_unique (q := j / n) (r := j % n + 1) (by rw [Int.mul_comm]; omega) (by omega) (by omega)).2
theorem emod_neg1 {j n : Int} (hn : 0 < n) : (-1 - j) % n = n - 1 - j % n := by
  have e := Int.mul_ediv_add_emod j n
  have s0 := Int.emod_nonneg j (show n ≠ 0 from by omega)
  have s1 := Int.emod_lt_of_pos j hn
  exact (div_unique (q := -(j / n) - 1) (r := n - 1 - j % n) (by rw [Int.sub_mul, Int.neg_mul, Int.mul_comm]; omega) (by omega) (by omega)).2
theorem emod_add_self (j n : Int) : (j + n) % n = j % n := by
  have := Int.add_mul_emod_self_right j 1 n
  rwa [Int.one_mul] at this
theorem emod_self {j n : Int} (h0 : 0 ≤ j) (h1 : j < n) : j % n = j := Int.emod_eq_of_lt h0 h1

theorem ref07_At_eq {k : Nat} (hk : 6 ≤ k) {p j n : Int} (hj : I64 j) (hn : I64 n) : smaltoref07_At.f k p j n = some (bat p j n) := by
  obtain ⟨k, rfl⟩ : ∃ m, k = m + 4 := ⟨k - 4, by omega⟩
  unfold smaltoref07_At.f bat
  simp only [smaltoref07_At.j0]
  by_cases h0 : n < 1
  · rw [if_pos h0, if_pos trivial, if_pos (Or.inl h0)]
  rw [if_neg h0]
  by_cases h1 : n > 65536
  · rw [if_pos h1, if_pos trivial, if_pos (Or.inr h1)]
  rw [if_neg h1, if_neg (show ¬ (n < 1 ∨ n > 65536) from by omega)]
  by_cases h2 : p < 0
  · rw [if_pos h2, if_pos trivial, if_neg (by omega), if_neg (by omega), if_neg (by omega)]
  rw [if_neg h2]
  by_cases h3 : p > 2
  · rw [if_pos (decide_eq_true h3), if_neg (by omega), if_neg (by omega), if_neg (by omega)]
  rw [if_neg (show ¬ (decide (p > 2) = true) from by simpa using h3)]
  by_cases hin : 0 ≤ j ∧ j < n
  · rw [if_pos hin.1]
    simp only [smaltoref07_At.j1]
    rw [if_pos (decide_eq_true hin.2)]
    congr 1
    rw [emod_self hin.1 (show j < 2 * n from by omega), emod_self hin.1 hin.2]
    unfold mx mn
    split
    · split <;> split <;> omega
    · split
      · split <;> omega
      · split <;> omega
  have ej : (if j ≥ 0 then smaltoref07_At.j1 (k + 3) p j n (decide (j < n)) else smaltoref07_At.j1 (k + 3) p j n false) = smaltoref07_At.j1 (k + 3) p j n false := by
    split
    · rw [decide_eq_false (by omega)]
    · rfl
  rw [ej]
  simp only [smaltoref07_At.j1]
  rw [if_neg (show ¬ (false = true) from by decide)]
  rw [w64_id (show -9223372036854775808 ≤ n - 1 from by omega) (by omega), w64_id (show -9223372036854775808 ≤ 2 * n from by omega) (by omega)]
  by_cases p0 : p = 0
  · rw [if_pos p0, if_pos p0]
    unfold mx mn
    split
    · congr 1; split <;> split <;> omega
    · congr 1; split <;> split <;> omega
  rw [if_neg p0, if_neg p0, if_neg (by omega), tmod_pos j (by omega)]
  have r0 := Int.emod_nonneg j (show 2 * n ≠ 0 from by omega)
  have r1 := Int.emod_lt_of_pos j (show 0 < 2 * n from by omega)
  have es : j % n = j % (2 * n) % n := (Int.emod_emod_of_dvd j ⟨2, by omega⟩).symm
  rw [es]
  generalize j % (2 * n) = r at *
  have fin : ∀ m, smaltoref07_At.l0 (m + 1) p n r = some (if p = 1 then mn r (2 * n - 1 - r) else if p = 2 then r % n else 0) := by
    intro m
    simp only [smaltoref07_At.l0]
    rw [if_neg (by omega), w64_id (show -9223372036854775808 ≤ 2 * n from by omega) (by omega), w64_id (show -9223372036854775808 ≤ 2 * n - 1 from by omega) (by omega), w64_id (show -9223372036854775808 ≤ 2 * n - 1 - r from by omega) (by omega), w64_id (show -9223372036854775808 ≤ r - n from by omega) (by omega)]
    by_cases c : r < n
    · rw [if_pos c, emod_self r0 c]
      congr 1
      unfold mn
      split
      · split <;> omega
      · rw [if_pos (by omega)]
    · rw [if_neg c]
      by_cases p2 : p = 2
      · rw [if_pos p2, if_neg (by omega), if_pos p2]
        congr 1
        exact (div_unique (q := 1) (r := r - n) (by omega) (by omega) (by omega)).2.symm
      · rw [if_neg p2, if_pos (by omega)]
        congr 1; unfold mn; split <;> omega
  split
  · exact fin _
  · rw [smaltoref07_At.l0, if_pos (by omega), w64_id (show -9223372036854775808 ≤ 2 * n from by omega) (by omega), show r - 2 * n + 2 * n = r from by omega, w64_id (by omega) (by omega)]
    exact fin _

theorem ref06_Same_l0 (a b : List Int) (hl : a.length = b.length) (hb : (a.length : Int) < 9223372036854775807) : ∀ (d k i : Nat), i + d = a.length → d < k → (∀ j, j < i → a[j]? = b[j]?) →
    smaltoref06_Same.l0 k a b (a.length : Int) (i : Int) = some (decide (a = b)) := by
  intro d
  induction d with
  | zero =>
    intro k i hi hk hp
    obtain ⟨k, rfl⟩ : ∃ m, k = m + 1 := ⟨k - 1, by omega⟩
    simp only [smaltoref06_Same.l0]
    rw [if_neg (by omega)]
    congr 1
    refine (decide_eq_true ?_).symm
    apply List.ext_getElem?
    intro j
    by_cases h : j < i
    · exact hp j h
    · rw [List.getElem?_eq_none (by omega), List.getElem?_eq_none (by omega)]
  | succ d ih =>
    intro k i hi hk hp
    obtain ⟨k, rfl⟩ : ∃ m, k = m + 1 := ⟨k - 1, by omega⟩
    simp only [smaltoref06_Same.l0]
    rw [if_pos (by omega), if_pos (by omega), if_pos (by omega), if_pos (by omega)]
    have ra : rd a (i : Int) = a[i]'(by omega) := by unfold rd; simp [List.getD, List.getElem?_eq_getElem (show i < a.length from by omega)]
    have rb : rd b (i : Int) = b[i]'(by omega) := by unfold rd; simp [List.getD, List.getElem?_eq_getElem (show i < b.length from by omega)]
    rw [ra, rb]
    split
    · rename_i he
      rw [w64_id (by omega) (by omega), show ((i : Int) + 1) = ((i + 1 : Nat) : Int) from by omega]
      refine ih k (i + 1) (by omega) (by omega) ?_
      intro j hj
      by_cases c : j = i
      · subst c; rw [List.getElem?_eq_getElem (by omega), List.getElem?_eq_getElem (by omega), he]
      · exact hp j (by omega)
    · rename_i he
      congr 1
      refine (decide_eq_false ?_).symm
      intro h; subst h; exact he rfl
theorem ref06_Same_eq {k : Nat} {a b : List Int} (hk : a.length < k) (hb : (a.length : Int) < 9223372036854775807) : smaltoref06_Same.f k a b = some (decide (a = b)) := by
  unfold smaltoref06_Same.f
  by_cases h : a.length = b.length
  · rw [if_pos (by omega)]
    exact ref06_Same_l0 a b h hb a.length k 0 (by omega) hk (by intro j hj; omega)
  · rw [if_neg (by omega)]
    congr 1
    refine (decide_eq_false ?_).symm
    intro e; exact h (by rw [e])

theorem border_Span_l0 (p first n : Int) (hf : I64 first) (hn : I64 n) (c : Nat) (hc : c ≤ 1000000) : ∀ (d k i : Nat) (acc : List Int), i + d = c → d + 2 < k → acc.length = i →
    border_Span.l0 k p first n acc (c : Int) (i : Int) = some (acc ++ (List.range' i d).map fun (t : Nat) => bat p (hold (first + (t : Int))) n) := by
  intro d
  induction d with
  | zero =>
    intro k i acc hi hk hl
    obtain ⟨k, rfl⟩ : ∃ m, k = m + 1 := ⟨k - 1, by omega⟩
    simp only [border_Span.l0]
    rw [if_neg (by omega)]; simp
  | succ d ih =>
    intro k i acc hi hk hl
    obtain ⟨k, rfl⟩ : ∃ m, k = m + 1 := ⟨k - 1, by omega⟩
    simp only [border_Span.l0]
    rw [if_pos (by omega), fixed_Add_eq (by omega) hf (by constructor <;> omega)]
    simp only [Option.bind_some]
    rw [border_At_eq (by omega) (hold_i _) hn]
    simp only [Option.bind_some]
    rw [if_pos (by omega), w64_id (by omega) (by omega), show ((i : Int) + 1) = ((i + 1 : Nat) : Int) from by omega]
    rw [ih k (i + 1) _ (by omega) (by omega) (by simp; omega)]
    simp [List.range'_succ]
theorem border_Span_eq {k : Nat} {p first count n : Int} (hf : I64 first) (hn : I64 n) (hc : count ≤ 1000000) (hk : count.toNat + 2 < k) :
    border_Span.f k p first count n = some ((List.range' 0 count.toNat).map fun (t : Nat) => bat p (hold (first + (t : Int))) n) := by
  unfold border_Span.f
  have e : mx 0 count = (count.toNat : Int) := by unfold mx; split <;> omega
  rw [e]
  exact border_Span_l0 p first n hf hn count.toNat (by omega) count.toNat k 0 [] (by omega) hk rfl

theorem lives07 {k : Nat} (hk : 300 ≤ k) : smaltolaw07_lives.f k = some true :=
  at_rounds (fun k => smaltolaw07_lives.mono k) hk (show smaltolaw07_lives.f 300 = some true by decide +kernel)

theorem BorderSpans_l0 (p first n count : Int) (hf : I64 first) (hn : I64 n) (c : Nat) (hcc : count.toNat = c) (hc : c ≤ 100) : ∀ (d k i : Nat) (acc : List Int), i + d = c → d + 500 < k → acc = ((List.range' 0 i).map fun (t : Nat) => bat p (hold (first + (t : Int))) n) →
    smaltolaw07_BorderSpans.l0 k p first count n acc (c : Int) (i : Int) = some true := by
  intro d
  induction d with
  | zero =>
    intro k i acc hi hk hl
    obtain ⟨k, rfl⟩ : ∃ m, k = m + 1 := ⟨k - 1, by omega⟩
    simp only [smaltolaw07_BorderSpans.l0]
    rw [if_neg (by omega), border_Span_eq hf hn (by omega) (by omega)]
    simp only [Option.bind_some]
    rw [ref06_Same_eq (by simp; omega) (by simp; omega)]
    simp only [Option.bind_some]
    rw [hl, hcc, show i = c from by omega]; simp
  | succ d ih =>
    intro k i acc hi hk hl
    obtain ⟨k, rfl⟩ : ∃ m, k = m + 1 := ⟨k - 1, by omega⟩
    simp only [smaltolaw07_BorderSpans.l0]
    have ll : acc.length = i := by rw [hl]; simp
    have go : ∀ v, v = bat p (hold (first + (i : Int))) n → smaltolaw07_BorderSpans.l0 k p first count n (acc ++ [v]) (c : Int) (wrap64 ((i : Int) + 1)) = some true := by
      intro v hv
      rw [w64_id (by omega) (by omega), show ((i : Int) + 1) = ((i + 1 : Nat) : Int) from by omega]
      refine ih k (i + 1) _ (by omega) (by omega) ?_
      rw [hv, hl, List.range'_concat]; simp
    rw [if_pos (by omega)]
    by_cases h1 : first > 0
    · rw [if_pos h1, w64_id (show -9223372036854775808 ≤ 9223372036854775807 - first from by omega) (by omega)]
      by_cases h2 : (i : Int) > 9223372036854775807 - first
      · rw [if_pos h2, ref07_At_eq (by omega) (by constructor <;> omega) hn]
        simp only [Option.bind_some]
        rw [if_pos (by omega)]
        exact go _ (by unfold hold; rw [if_neg (by omega), if_pos (by omega)])
      · rw [if_neg h2, w64_id (by omega) (by omega), ref07_At_eq (by omega) (by constructor <;> omega) hn]
        simp only [Option.bind_some]
        rw [if_pos (by omega)]
        exact go _ (by rw [hold_id (by omega) (by omega)])
    · rw [if_neg h1, w64_id (by omega) (by omega), ref07_At_eq (by omega) (by constructor <;> omega) hn]
      simp only [Option.bind_some]
      rw [if_pos (by omega)]
      exact go _ (by rw [hold_id (by omega) (by omega)])
theorem BorderSpans_pure : smaltolaw07_BorderSpans.Pure := by
  intro p first count n hp hf hc hn
  refine ⟨1001, ?_⟩
  have hf := wf64 hf
  have hn := wf64 hn
  unfold smaltolaw07_BorderSpans.f
  rw [lives07 (by omega)]
  simp only [Option.bind_some, if_true, smaltolaw07_BorderSpans.j0]
  by_cases h : count > 100
  · rw [if_pos (decide_eq_true h), lives07 (by omega)]; rfl
  rw [if_neg (show ¬ (decide (count > 100) = true) from by simpa using h)]
  have e : mx 0 count = (count.toNat : Int) := by unfold mx; split <;> omega
  rw [e]
  exact BorderSpans_l0 p first n count hf hn count.toNat rfl (by omega) count.toNat 1000 0 [] (by omega) (by omega) rfl

end Go.Proofs.Ytofmgoihoaookaa.QA
