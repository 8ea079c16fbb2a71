/- fixed.Mod of any two int64 numbers is within b, and with fixed.Floor's quotient comes to a again: no condition. -/
import Derived.Test.YtofmgoihoaookaaQAx1
import Derived.Test.YtofmgoihoaookaaQAx7
import Derived.Test.YtofmgoihoaookaaQAx8
import Derived.Test.YtofmgoihoaookaaQAx9
import Derived.Test.YtofmgoihoaookaaQAx14
import Derived.Test.YtofmgoihoaookaaTCore
namespace Go.Proofs.Ytofmgoihoaookaa.QA
open Go.RowKit Go.Proofs.YtofmgoihoaookaaW.PrintWords Go.Proofs.YtofmgoihoaookaaW.PrintLast Go.Proofs.YtofmgoihoaookaaW.PrintMore Go.Proofs.Ytofmgoihoaookaa.T
set_option linter.unusedVariables false

theorem fixed_size_eq {a : Int} (ha : I64 a) : fixed_size.f a = some (siz a) := by
  unfold fixed_size.f siz
  simp only [u64w]
  split
  · congr 1; omega
  · congr 1; omega

theorem fixed_hold_eq {k : Nat} (hk : 1 ≤ k) {m : Int} (h0 : 0 ≤ m) (h1 : m < 18446744073709551616) (b : Bool) : fixed_hold.f k m b = some (hold (sgn b m)) := by
  obtain ⟨k, rfl⟩ : ∃ n, k = n + 1 := ⟨k - 1, by omega⟩
  unfold fixed_hold.f fixed_hold.j0 sgn hold
  cases b
  · simp only [Bool.false_eq_true, if_false]
    rw [if_neg (show ¬ m < -9223372036854775808 from by omega)]
    split
    · rfl
    · congr 1; unfold wrap64; omega
  · simp only [if_true]
    by_cases h : m ≥ 9223372036854775808
    · rw [if_pos (decide_eq_true h)]
      split
      · rfl
      · rw [if_neg (by omega)]; congr 1; omega
    · rw [if_neg (by simpa using h), if_neg (by omega), if_neg (by omega)]
      congr 1; unfold wrap64; omega

theorem fixed_Floor_eq {k : Nat} (hk : 1 ≤ k) {a b : Int} (ha : I64 a) (hb : I64 b) : fixed_Floor.f k a b = some (hold (flo a b)) := by
  unfold fixed_Floor.f
  by_cases hb0 : b = 0
  · rw [if_pos hb0, hb0]; simp [flo, hold]
  rw [if_neg hb0, fixed_size_eq ha, fixed_size_eq hb]
  simp only [Option.bind_some]
  have ua := siz_u ha
  have ub := siz_u hb
  have ub0 : siz b ≠ 0 := fun h => hb0 (siz_zero.1 h)
  simp only [if_neg ub0]
  have e := flo_xor (decide (a < 0)) b (siz a) hb0
  rw [sgn_siz a, flo_sgn _ (by omega)] at e
  rw [← e]
  generalize (decide (a < 0) != decide (b < 0)) = s
  rw [Int.tdiv_eq_ediv_of_nonneg ua.1, Int.tmod_eq_emod_of_nonneg ua.1]
  have q0 : 0 ≤ siz a / siz b := Int.ediv_nonneg ua.1 ub.1
  have q1 : siz a / siz b ≤ siz a := Int.ediv_le_self _ ua.1
  generalize siz a / siz b = q at *
  generalize siz a % siz b = r at *
  simp only [u64w]
  rw [show q % 18446744073709551616 = q from by omega, show (q + 1) % 18446744073709551616 = q + 1 from by omega]
  have hq : ∀ b, fixed_hold.f k q b = some (hold (sgn b q)) := fixed_hold_eq hk (by omega) (by omega)
  have hq1 : ∀ b, fixed_hold.f k (q + 1) b = some (hold (sgn b (q + 1))) := fixed_hold_eq hk (by omega) (by omega)
  simp only [hq, hq1]
  cases s
  · simp only [Bool.false_eq_true, if_false, false_and, Option.bind_some]
  · by_cases hr : r = 0 <;> simp [hr]

theorem fixed_Mod_eq {k : Nat} (hk : 1 ≤ k) {a b : Int} (_ha : I64 a) (hb : I64 b) : fixed_Mod.f k a b = some (md a b) := by
  obtain ⟨k, rfl⟩ : ∃ n, k = n + 1 := ⟨k - 1, by omega⟩
  unfold fixed_Mod.f md
  simp only [fixed_Mod.j0]
  by_cases hb0 : b = 0
  · rw [if_pos hb0, if_pos trivial, if_pos hb0]
  rw [if_neg hb0, if_neg hb0]
  by_cases hb1 : b = -1
  · subst hb1; rw [if_pos (by decide), if_neg (by decide), Int.neg_neg, Int.emod_one]; rfl
  rw [if_neg (show ¬ ((b == -1) = true) from by simpa using hb1)]
  by_cases hp : 0 < b
  · rw [if_pos hp, tmod_pos a hp]
    have r0 := Int.emod_nonneg a hb0
    have r1 := Int.emod_lt_of_pos a hp
    generalize a % b = r at *
    by_cases hc : 0 ≤ a ∨ r = 0
    · rw [if_pos hc]
      have : ((decide (r < 0)) != (decide (b < 0))) = false := by
        rw [decide_eq_false (by omega), decide_eq_false (by omega)]; rfl
      rw [this]; simp [hb0]
    · rw [if_neg hc]
      have : ((decide (r - b < 0)) != (decide (b < 0))) = true := by
        rw [decide_eq_true (by omega), decide_eq_false (by omega)]; rfl
      rw [this, if_neg (by omega), if_pos rfl]
      congr 1; unfold wrap64; omega
  · rw [if_neg hp]
    have hnb : 0 < -b := by omega
    have e : a.tmod b = -((-a).tmod (-b)) := by rw [Int.neg_tmod, Int.tmod_neg, Int.neg_neg]
    rw [e, tmod_pos (-a) hnb]
    have r0 := Int.emod_nonneg (-a) (show -b ≠ 0 from by omega)
    have r1 := Int.emod_lt_of_pos (-a) hnb
    generalize (-a) % (-b) = r at *
    by_cases hc : 0 ≤ -a ∨ r = 0
    · rw [if_pos hc]
      by_cases hz : r = 0
      · rw [hz]; simp
      have : ((decide (-r < 0)) != (decide (b < 0))) = false := by
        rw [decide_eq_true (by omega), decide_eq_true (by omega)]; rfl
      rw [this]; simp [hb0]
    · rw [if_neg hc]
      have : ((decide (-(r - -b) < 0)) != (decide (b < 0))) = true := by
        rw [decide_eq_false (by omega), decide_eq_true (by omega)]; rfl
      rw [this, if_neg (by omega), if_pos rfl]
      congr 1; unfold wrap64; omega

theorem lives01 {k : Nat} (hk : 300 ≤ k) : smaltolaw01_Lives.f k = some true :=
  at_rounds (fun k => smaltolaw01_Lives.mono k) hk (show smaltolaw01_Lives.f 300 = some true by decide +kernel)

theorem FixedMods_pure : smaltolaw01_FixedMods.Pure := by
  intro a b ha hb
  refine ⟨300, ?_⟩
  have ha := wf64 ha
  have hb := wf64 hb
  unfold smaltolaw01_FixedMods.f
  rw [lives01 (by omega), fixed_Mod_eq (by omega) ha hb]
  simp only [Option.bind_some, if_true, fixed_Floor_eq (show 1 ≤ 300 from by decide) ha hb]
  by_cases hb0 : b = 0
  · rw [if_pos hb0]; unfold md; rw [if_pos hb0]; rfl
  rw [if_neg hb0]
  have m1 : md a (-1) = 0 := by unfold md; rw [if_neg (by decide), if_neg (by decide), Int.neg_neg, Int.emod_one]; rfl
  have key : b ≠ -1 → wrap64 (wrap64 (hold (flo a b) * b) + md a b) = a := by
    intro hb1
    have ef : md a b = a - b * flo a b := by
      unfold md flo
      rw [if_neg hb0]
      split
      · have := Int.mul_ediv_add_emod a b; omega
      · have := Int.mul_ediv_add_emod (-a) (-b); rw [Int.neg_mul] at this; omega
    have fr : I64 (flo a b) := by
      have ua := siz_u ha
      unfold flo
      split
      · rename_i hp
        constructor
        · rw [Int.le_ediv_iff_mul_le hp]
          have : -9223372036854775808 * b ≤ -9223372036854775808 * 1 := Int.mul_le_mul_of_nonpos_left (by decide) (by omega)
          omega
        · refine Int.le_of_lt_add_one ?_
          rw [Int.ediv_lt_iff_lt_mul hp]
          have : (9223372036854775807 + 1) * 1 ≤ (9223372036854775807 + 1) * b := Int.mul_le_mul_of_nonneg_left (by omega) (by decide)
          omega
      · have hp : 0 < -b := by omega
        have h2 : 2 ≤ -b := by omega
        constructor
        · rw [Int.le_ediv_iff_mul_le hp]
          have : -9223372036854775808 * (-b) ≤ -9223372036854775808 * 1 := Int.mul_le_mul_of_nonpos_left (by decide) (by omega)
          omega
        · refine Int.le_of_lt_add_one ?_
          rw [Int.ediv_lt_iff_lt_mul hp]
          have : (9223372036854775807 + 1) * 2 ≤ (9223372036854775807 + 1) * (-b) := Int.mul_le_mul_of_nonneg_left (by omega) (by decide)
          omega
    rw [hold_id fr.1 fr.2, ef, Int.mul_comm (flo a b) b]
    generalize b * flo a b = p
    unfold wrap64
    omega
  have fin : (if b = -1 then (if md a b = 0 then some true else some (wrap64 (wrap64 (hold (flo a b) * b) + md a b) == a)) else some (wrap64 (wrap64 (hold (flo a b) * b) + md a b) == a)) = some true := by
    by_cases hb1 : b = -1
    · rw [if_pos hb1, hb1, m1]; rfl
    · rw [if_neg hb1, key hb1]; simp
  by_cases hp : b > 0
  · have e : md a b = a % b := by unfold md; rw [if_neg hb0, if_pos hp]
    have r0 := Int.emod_nonneg a hb0
    have r1 := Int.emod_lt_of_pos a hp
    rw [if_pos hp, if_neg (show ¬ md a b < 0 from by omega), if_neg (show ¬ md a b ≥ b from by omega), if_neg (show ¬ b < 0 from by omega)]
    exact fin
  · have e : md a b = -((-a) % (-b)) := by unfold md; rw [if_neg hb0, if_neg hp]
    have r0 := Int.emod_nonneg (-a) (show -b ≠ 0 from by omega)
    have r1 := Int.emod_lt_of_pos (-a) (show 0 < -b from by omega)
    rw [if_neg hp, if_pos (show b < 0 from by omega), if_neg (show ¬ md a b > 0 from by omega), if_neg (show ¬ md a b ≤ b from by omega)]
    exact fin

end Go.Proofs.Ytofmgoihoaookaa.QA
