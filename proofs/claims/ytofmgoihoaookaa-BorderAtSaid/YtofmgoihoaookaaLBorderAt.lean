/- Of border.At and border.Span: what they answer is the reference's, and the laws of chapter 7 hold, for every input. -/
import Derived.Test.YtofmgoihoaookaaQAx1
import Derived.Test.YtofmgoihoaookaaQAx2
import Derived.Test.YtofmgoihoaookaaQAx3
import Derived.Test.YtofmgoihoaookaaQAx4
import Derived.Test.YtofmgoihoaookaaTCore
namespace Go.Proofs.Ytofmgoihoaookaa.QA
open Go.RowKit Go.Proofs.YtofmgoihoaookaaW.PrintWords Go.Proofs.YtofmgoihoaookaaW.PrintLast Go.Proofs.YtofmgoihoaookaaW.PrintMore Go.Proofs.Ytofmgoihoaookaa.T
set_option linter.unusedVariables false

theorem fixed_Mod_eq {k : Nat} (hk : 1 ≤ k) {a b : Int} (_ha : I64 a) (hb : I64 b) : fixed_Mod.f k a b = some (md a b) := by
  obtain ⟨k, rfl⟩ : ∃ n, k = n + 1 := ⟨k - 1, by omega⟩
  unfold fixed_Mod.f md
  simp only [fixed_Mod.j0]
  by_cases hb0 : b = 0
  · rw [if_pos hb0, if_pos trivial, if_pos hb0]
  rw [if_neg hb0, if_neg hb0]
  by_cases hb1 : b = -1
  · subst hb1; rw [if_pos (by decide), if_neg (by decide), Int.neg_neg, Int.emod_one]; rfl
  rw [if_neg (show ¬ ((b == -1) = true) from by simpa using hb1)]
  by_cases hp : 0 < b
  · rw [if_pos hp, tmod_pos a hp]
    have r0 := Int.emod_nonneg a hb0
    have r1 := Int.emod_lt_of_pos a hp
    generalize a % b = r at *
    by_cases hc : 0 ≤ a ∨ r = 0
    · rw [if_pos hc]
      have : ((decide (r < 0)) != (decide (b < 0))) = false := by
        rw [decide_eq_false (by omega), decide_eq_false (by omega)]; rfl
      rw [this]; simp [hb0]
    · rw [if_neg hc]
      have : ((decide (r - b < 0)) != (decide (b < 0))) = true := by
        rw [decide_eq_true (by omega), decide_eq_false (by omega)]; rfl
      rw [this, if_neg (by omega), if_pos rfl]
      congr 1; unfold wrap64; omega
  · rw [if_neg hp]
    have hnb : 0 < -b := by omega
    have e : a.tmod b = -((-a).tmod (-b)) := by rw [Int.neg_tmod, Int.tmod_neg, Int.neg_neg]
    rw [e, tmod_pos (-a) hnb]
    have r0 := Int.emod_nonneg (-a) (show -b ≠ 0 from by omega)
    have r1 := Int.emod_lt_of_pos (-a) hnb
    generalize (-a) % (-b) = r at *
    by_cases hc : 0 ≤ -a ∨ r = 0
    · rw [if_pos hc]
      by_cases hz : r = 0
      · rw [hz]; simp
      have : ((decide (-r < 0)) != (decide (b < 0))) = false := by
        rw [decide_eq_true (by omega), decide_eq_true (by omega)]; rfl
      rw [this]; simp [hb0]
    · rw [if_neg hc]
      have : ((decide (-(r - -b) < 0)) != (decide (b < 0))) = true := by
        rw [decide_eq_false (by omega), decide_eq_true (by omega)]; rfl
      rw [this, if_neg (by omega), if_pos rfl]
      congr 1; unfold wrap64; omega

theorem fixed_Clamp_eq (x a b : Int) : fixed_Clamp.f x a b = some (mx a (mn x b)) := rfl

/-- Which sample stands for one beyond. -/
def bat (p j n : Int) : Int := if n < 1 ∨ n > 65536 then 0 else if p = 0 then mx 0 (mn j (n - 1)) else if p = 1 then mn (j % (2 * n)) (2 * n - 1 - j % (2 * n)) else if p = 2 then j % n else 0
theorem border_At_eq {k : Nat} (hk : 2 ≤ k) {p j n : Int} (hj : I64 j) (hn : I64 n) : border_At.f k p j n = some (bat p j n) := by
  obtain ⟨k, rfl⟩ : ∃ m, k = m + 1 := ⟨k - 1, by omega⟩
  unfold border_At.f bat
  simp only [border_At.j0]
  by_cases h0 : n < 1
  · rw [if_pos h0, if_pos trivial, if_pos (Or.inl h0)]
  rw [if_neg h0]
  by_cases h1 : n > 65536
  · rw [if_pos (decide_eq_true h1), if_pos (Or.inr h1)]
  rw [if_neg (show ¬ (decide (n > 65536) = true) from by simpa using h1), if_neg (show ¬ (n < 1 ∨ n > 65536) from by omega)]
  rw [w64_id (show -9223372036854775808 ≤ n - 1 from by omega) (by omega), w64_id (show -9223372036854775808 ≤ 2 * n from by omega) (by omega)]
  by_cases p0 : p = 0
  · rw [if_pos p0, if_pos p0, fixed_Clamp_eq]; rfl
  rw [if_neg p0, if_neg p0]
  by_cases p1 : p = 1
  · rw [if_pos p1, if_pos p1, fixed_Mod_eq (by omega) hj (by omega)]
    simp only [Option.bind_some]
    have e : md j (2 * n) = j % (2 * n) := by unfold md; rw [if_neg (by omega), if_pos (by omega)]
    have r0 := Int.emod_nonneg j (show 2 * n ≠ 0 from by omega)
    have r1 := Int.emod_lt_of_pos j (show 0 < 2 * n from by omega)
    rw [e]
    generalize j % (2 * n) = r at *
    rw [w64_id (show -9223372036854775808 ≤ 2 * n - 1 from by omega) (by omega), w64_id (by omega) (by omega)]
  rw [if_neg p1, if_neg p1]
  by_cases p2 : p = 2
  · rw [if_pos p2, if_pos p2, fixed_Mod_eq (by omega) hj hn]
    simp only [Option.bind_some]
    unfold md; rw [if_neg (by omega), if_pos (by omega)]
  rw [if_neg p2, if_neg p2]

theorem bat_in {p j n : Int} (h0 : 1 ≤ n) (h1 : n ≤ 65536) : 0 ≤ bat p j n ∧ bat p j n < n := by
  unfold bat mx mn
  rw [if_neg (by omega)]
  have r0 := Int.emod_nonneg j (show 2 * n ≠ 0 from by omega)
  have r1 := Int.emod_lt_of_pos j (show 0 < 2 * n from by omega)
  have s0 := Int.emod_nonneg j (show n ≠ 0 from by omega)
  have s1 := Int.emod_lt_of_pos j (show 0 < n from by omega)
  generalize j % (2 * n) = r at *
  generalize j % n = s at *
  split
  · split <;> split <;> omega
  · split
    · split <;> omega
    · split <;> omega
theorem bat_i {p j n : Int} (h1 : n ≤ 65536) : I64 (bat p j n) := by
  by_cases h0 : n < 1
  · unfold bat; rw [if_pos (Or.inl h0)]; constructor <;> omega
  · have := @bat_in p j n (by omega) h1; constructor <;> omega
theorem bat_i' {p j n : Int} : I64 (bat p j n) := by
  by_cases h0 : n > 65536
  · unfold bat; rw [if_pos (Or.inr h0)]; constructor <;> omega
  · exact bat_i (by omega)
theorem bat0 {j n : Int} (h0 : 1 ≤ n) (h1 : n ≤ 65536) : bat 0 j n = mx 0 (mn j (n - 1)) := by unfold bat; rw [if_neg (show ¬ (n < 1 ∨ n > 65536) from by omega), if_pos rfl]
theorem bat1 {j n : Int} (h0 : 1 ≤ n) (h1 : n ≤ 65536) : bat 1 j n = mn (j % (2 * n)) (2 * n - 1 - j % (2 * n)) := by unfold bat; rw [if_neg (show ¬ (n < 1 ∨ n > 65536) from by omega), if_neg (by decide), if_pos rfl]
theorem bat2 {j n : Int} (h0 : 1 ≤ n) (h1 : n ≤ 65536) : bat 2 j n = j % n := by unfold bat; rw [if_neg (show ¬ (n < 1 ∨ n > 65536) from by omega), if_neg (by decide), if_neg (by decide), if_pos rfl]
theorem emod_step {j n : Int} (hn : 0 < n) : (j + 1) % n = if j % n = n - 1 then 0 else j % n + 1 := by
  have e := Int.mul_ediv_add_emod j n
  have s0 := Int.emod_nonneg j (show n ≠ 0 from by omega)
  have s1 := Int.emod_lt_of_pos j hn
  split
  · exact (div_unique (q := j / n + 1) (r := 0) (by rw [Int.add_mul, Int.mul_comm]; omega) (by omega) hn).2
  · exact (div_unique (q := j / n) (r := j % n + 1) (by rw [Int.mul_comm]; omega) (by omega) (by omega)).2
theorem emod_neg1 {j n : Int} (hn : 0 < n) : (-1 - j) % n = n - 1 - j % n := by
  have e := Int.mul_ediv_add_emod j n
  have s0 := Int.emod_nonneg j (show n ≠ 0 from by omega)
  have s1 := Int.emod_lt_of_pos j hn
  exact (div_unique (q := -(j / n) - 1) (r := n - 1 - j % n) (by rw [Int.sub_mul, Int.neg_mul, Int.mul_comm]; omega) (by omega) (by omega)).2
theorem emod_add_self (j n : Int) : (j + n) % n = j % n := by
  have := Int.add_mul_emod_self_right j 1 n
  rwa [Int.one_mul] at this
theorem emod_self {j n : Int} (h0 : 0 ≤ j) (h1 : j < n) : j % n = j := Int.emod_eq_of_lt h0 h1

theorem ref07_At_eq {k : Nat} (hk : 6 ≤ k) {p j n : Int} (hj : I64 j) (hn : I64 n) : smaltoref07_At.f k p j n = some (bat p j n) := by
  obtain ⟨k, rfl⟩ : ∃ m, k = m + 4 := ⟨k - 4, by omega⟩
  unfold smaltoref07_At.f bat
  simp only [smaltoref07_At.j0]
  by_cases h0 : n < 1
  · rw [if_pos h0, if_pos trivial, if_pos (Or.inl h0)]
  rw [if_neg h0]
  by_cases h1 : n > 65536
  · rw [if_pos h1, if_pos trivial, if_pos (Or.inr h1)]
  rw [if_neg h1, if_neg (show ¬ (n < 1 ∨ n > 65536) from by omega)]
  by_cases h2 : p < 0
  · rw [if_pos h2, if_pos trivial, if_neg (by omega), if_neg (by omega), if_neg (by omega)]
  rw [if_neg h2]
  by_cases h3 : p > 2
  · rw [if_pos (decide_eq_true h3), if_neg (by omega), if_neg (by omega), if_neg (by omega)]
  rw [if_neg (show ¬ (decide (p > 2) = true) from by simpa using h3)]
  by_cases hin : 0 ≤ j ∧ j < n
  · rw [if_pos hin.1]
    simp only [smaltoref07_At.j1]
    rw [if_pos (decide_eq_true hin.2)]
    congr 1
    rw [emod_self hin.1 (show j < 2 * n from by omega), emod_self hin.1 hin.2]
    unfold mx mn
    split
    · split <;> split <;> omega
    · split
      · split <;> omega
      · split <;> omega
  have ej : (if j ≥ 0 then smaltoref07_At.j1 (k + 3) p j n (decide (j < n)) else smaltoref07_At.j1 (k + 3) p j n false) = smaltoref07_At.j1 (k + 3) p j n false := by
    split
    · rw [decide_eq_false (by omega)]
    · rfl
  rw [ej]
  simp only [smaltoref07_At.j1]
  rw [if_neg (show ¬ (false = true) from by decide)]
  rw [w64_id (show -9223372036854775808 ≤ n - 1 from by omega) (by omega), w64_id (show -9223372036854775808 ≤ 2 * n from by omega) (by omega)]
  by_cases p0 : p = 0
  · rw [if_pos p0, if_pos p0]
    unfold mx mn
    split
    · congr 1; split <;> split <;> omega
    · congr 1; split <;> split <;> omega
  rw [if_neg p0, if_neg p0, if_neg (by omega), tmod_pos j (by omega)]
  have r0 := Int.emod_nonneg j (show 2 * n ≠ 0 from by omega)
  have r1 := Int.emod_lt_of_pos j (show 0 < 2 * n from by omega)
  have es : j % n = j % (2 * n) % n := (Int.emod_emod_of_dvd j ⟨2, by omega⟩).symm
  rw [es]
  generalize j % (2 * n) = r at *
  have fin : ∀ m, smaltoref07_At.l0 (m + 1) p n r = some (if p = 1 then mn r (2 * n - 1 - r) else if p = 2 then r % n else 0) := by
    intro m
    simp only [smaltoref07_At.l0]
    rw [if_neg (by omega), w64_id (show -9223372036854775808 ≤ 2 * n from by omega) (by omega), w64_id (show -9223372036854775808 ≤ 2 * n - 1 from by omega) (by omega), w64_id (show -9223372036854775808 ≤ 2 * n - 1 - r from by omega) (by omega), w64_id (show -9223372036854775808 ≤ r - n from by omega) (by omega)]
    by_cases c : r < n
    · rw [if_pos c, emod_self r0 c]
      congr 1
      unfold mn
      split
      · split <;> omega
      · rw [if_pos (by omega)]
    · rw [if_neg c]
      by_cases p2 : p = 2
      · rw [if_pos p2, if_neg (by omega), if_pos p2]
        congr 1
        exact (div_unique (q := 1) (r := r - n) (by omega) (by omega) (by omega)).2.symm
      · rw [if_neg p2, if_pos (by omega)]
        congr 1; unfold mn; split <;> omega
  split
  · exact fin _
  · rw [smaltoref07_At.l0, if_pos (by omega), w64_id (show -9223372036854775808 ≤ 2 * n from by omega) (by omega), show r - 2 * n + 2 * n = r from by omega, w64_id (by omega) (by omega)]
    exact fin _

theorem lives07 {k : Nat} (hk : 300 ≤ k) : smaltolaw07_lives.f k = some true :=
  at_rounds (fun k => smaltolaw07_lives.mono k) hk (show smaltolaw07_lives.f 300 = some true by decide +kernel)

theorem BorderAt_pure : smaltolaw07_BorderAt.Pure := by
  intro p j n hp hj hn
  refine ⟨300, ?_⟩
  have hj := wf64 hj
  have hn := wf64 hn
  unfold smaltolaw07_BorderAt.f
  rw [lives07 (by omega), border_At_eq (by omega) hj hn, ref07_At_eq (by omega) hj hn]
  simp

end Go.Proofs.Ytofmgoihoaookaa.QA
