/- fixed.Gcd of any two numbers is the reference's, and divides both: no condition. -/
import Derived.Test.YtofmgoihoaookaaQAx7
import Derived.Test.YtofmgoihoaookaaQAx8
import Derived.Test.YtofmgoihoaookaaQAx9
import Derived.Test.YtofmgoihoaookaaQAx16
import Derived.Test.YtofmgoihoaookaaQAx17
import Derived.Test.YtofmgoihoaookaaTCore
namespace Go.Proofs.Ytofmgoihoaookaa.QA
open Go.RowKit Go.Proofs.YtofmgoihoaookaaW.PrintWords Go.Proofs.YtofmgoihoaookaaW.PrintLast Go.Proofs.YtofmgoihoaookaaW.PrintMore Go.Proofs.Ytofmgoihoaookaa.T
set_option linter.unusedVariables false

theorem fixed_size_eq {a : Int} (ha : I64 a) : fixed_size.f a = some (siz a) := by
  unfold fixed_size.f siz
  simp only [u64w]
  split
  · congr 1; omega
  · congr 1; omega

theorem fixed_hold_eq {k : Nat} (hk : 1 ≤ k) {m : Int} (h0 : 0 ≤ m) (h1 : m < 18446744073709551616) (b : Bool) : fixed_hold.f k m b = some (hold (sgn b m)) := by
  obtain ⟨k, rfl⟩ : ∃ n, k = n + 1 := ⟨k - 1, by omega⟩
  unfold fixed_hold.f fixed_hold.j0 sgn hold
  cases b
  · simp only [Bool.false_eq_true, if_false]
    rw [if_neg (show ¬ m < -9223372036854775808 from by omega)]
    split
    · rfl
    · congr 1; unfold wrap64; omega
  · simp only [if_true]
    by_cases h : m ≥ 9223372036854775808
    · rw [if_pos (decide_eq_true h)]
      split
      · rfl
      · rw [if_neg (by omega)]; congr 1; omega
    · rw [if_neg (by simpa using h), if_neg (by omega), if_neg (by omega)]
      congr 1; unfold wrap64; omega

theorem fixed_Gcd_l0 : ∀ (n x : Nat), (x : Int) < 18446744073709551616 → (n : Int) < 18446744073709551616 → ∃ K, ∀ k, K ≤ k → fixed_Gcd.l0 k x n = some (hold (Nat.gcd x n : Nat)) := by
  intro n
  induction n using Nat.strongRecOn with
  | ind n ih =>
    intro x h1 h2
    by_cases hn : n = 0
    · subst hn
      refine ⟨2, fun k hk => ?_⟩
      obtain ⟨k, rfl⟩ : ∃ n, k = n + 1 := ⟨k - 1, by omega⟩
      simp only [fixed_Gcd.l0]
      rw [if_pos (by rfl), fixed_hold_eq (by omega) (by omega) (by omega)]
      simp [sgn]
    · have hm : x % n < n := Nat.mod_lt _ (by omega)
      obtain ⟨K, hK⟩ := ih (x % n) hm n (by omega) (by omega)
      refine ⟨K + 1, fun k hk => ?_⟩
      obtain ⟨k, rfl⟩ : ∃ n, k = n + 1 := ⟨k - 1, by omega⟩
      simp only [fixed_Gcd.l0]
      rw [if_neg (by omega), show Int.tmod (x : Int) (n : Int) = ((x % n : Nat) : Int) from rfl, hK k (by omega)]
      rw [Nat.gcd_comm n, ← Nat.gcd_rec, Nat.gcd_comm]
theorem fixed_Gcd_eq {a b : Int} (ha : I64 a) (hb : I64 b) : ∃ K, ∀ k, K ≤ k → fixed_Gcd.f k a b = some (hold (Nat.gcd a.natAbs b.natAbs : Nat)) := by
  obtain ⟨K, hK⟩ := fixed_Gcd_l0 b.natAbs a.natAbs (by omega) (by omega)
  refine ⟨K, fun k hk => ?_⟩
  unfold fixed_Gcd.f
  rw [fixed_size_eq ha, fixed_size_eq hb]
  simp only [Option.bind_some]
  rw [show siz a = (a.natAbs : Int) from by unfold siz; split <;> omega, show siz b = (b.natAbs : Int) from by unfold siz; split <;> omega, hK k hk]

theorem ref01_Size_eq {a : Int} (ha : I64 a) : smaltoref01_Size.f a = some (siz a) := by
  unfold smaltoref01_Size.f siz wrap64
  simp only [u64w]
  split
  · congr 1; omega
  · congr 1; omega

theorem ref01_Hold_eq {k : Nat} (hk : 1 ≤ k) {h l : Int} (hh : U64 h) (hl : U64 l) (b : Bool) : smaltoref01_Hold.f k h l b = some (hold (sgn b (h * 18446744073709551616 + l))) := by
  obtain ⟨k, rfl⟩ : ∃ n, k = n + 1 := ⟨k - 1, by omega⟩
  unfold smaltoref01_Hold.f sgn hold
  cases b
  · simp only [Bool.false_eq_true, if_false]
    rw [if_neg (show ¬ h * 18446744073709551616 + l < -9223372036854775808 from by omega)]
    by_cases c : h > 0
    · rw [if_pos c, if_pos (by omega)]
    · rw [if_neg c]
      by_cases d : l > 9223372036854775807
      · rw [if_pos d, if_pos (by omega)]
      · rw [if_neg d, if_neg (by omega)]; congr 1; unfold wrap64; omega
  · simp only [if_true]
    simp only [smaltoref01_Hold.j0]
    by_cases c : h > 0
    · rw [if_pos c, if_pos trivial, if_pos (by omega)]
    · rw [if_neg c]
      by_cases d : l > 9223372036854775807
      · rw [if_pos (decide_eq_true d)]
        by_cases e : l = 9223372036854775808
        · rw [if_neg (by omega), if_neg (by omega)]; congr 1; omega
        · rw [if_pos (by omega)]
      · rw [if_neg (by simpa using d), if_neg (by omega), if_neg (by omega)]; congr 1; unfold wrap64; omega

theorem lives01 {k : Nat} (hk : 300 ≤ k) : smaltolaw01_Lives.f k = some true :=
  at_rounds (fun k => smaltolaw01_Lives.mono k) hk (show smaltolaw01_Lives.f 300 = some true by decide +kernel)

theorem ref01_Gcd_l0 : ∀ (s a b : Nat), a + b = s → (s : Int) < 36893488147419103232 → (a : Int) < 18446744073709551616 → (b : Int) < 18446744073709551616 → ∃ K, ∀ k, K ≤ k → smaltoref01_Gcd.l0 k a b = some (Nat.gcd a b : Int) := by
  intro s
  induction s using Nat.strongRecOn with
  | ind s ih =>
    intro a b hs hs2 ha hb
    by_cases c : 0 < a ∧ 0 < b
    · by_cases g : b ≤ a
      · have hm : a % b < b := Nat.mod_lt _ c.2
        obtain ⟨K, hK⟩ := ih (a % b + b) (by omega) (a % b) b rfl (by omega) (by omega) hb
        refine ⟨K + 2, fun k hk => ?_⟩
        obtain ⟨k, rfl⟩ : ∃ m, k = m + 2 := ⟨k - 2, by omega⟩
        rw [smaltoref01_Gcd.l0, if_pos (by omega), smaltoref01_Gcd.j1, if_pos (decide_eq_true (by omega)), if_pos (by omega), if_neg (by omega),
          show Int.tmod (a : Int) (b : Int) = ((a % b : Nat) : Int) from rfl, hK k (by omega)]
        rw [Nat.gcd_comm a b, Nat.gcd_rec b a]
      · have hm : b % a < a := Nat.mod_lt _ c.1
        obtain ⟨K, hK⟩ := ih (a + b % a) (by omega) a (b % a) rfl (by omega) ha (by omega)
        refine ⟨K + 2, fun k hk => ?_⟩
        obtain ⟨k, rfl⟩ : ∃ m, k = m + 2 := ⟨k - 2, by omega⟩
        rw [smaltoref01_Gcd.l0, if_pos (by omega), smaltoref01_Gcd.j1, if_pos (decide_eq_true (by omega)), if_neg (by omega), if_neg (by omega),
          show Int.tmod (b : Int) (a : Int) = ((b % a : Nat) : Int) from rfl, hK k (by omega)]
        rw [Nat.gcd_rec a b, Nat.gcd_comm]
    · refine ⟨2, fun k hk => ?_⟩
      obtain ⟨k, rfl⟩ : ∃ m, k = m + 2 := ⟨k - 2, by omega⟩
      have fin : smaltoref01_Gcd.j1 (k + 1) a b false = some (Nat.gcd a b : Int) := by
        rw [smaltoref01_Gcd.j1, if_neg (by decide), u64w]
        congr 1
        by_cases h : a = 0
        · subst h; rw [Nat.gcd_zero_left]; omega
        · have : b = 0 := by omega
          subst this; rw [Nat.gcd_zero_right]; omega
      rw [smaltoref01_Gcd.l0]
      split
      · rw [decide_eq_false (by omega)]; exact fin
      · exact fin
theorem ref01_Gcd_eq {a b : Int} (ha : U64 a) (hb : U64 b) : ∃ K, ∀ k, K ≤ k → smaltoref01_Gcd.f k a b = some (Nat.gcd a.natAbs b.natAbs : Int) := by
  obtain ⟨K, hK⟩ := ref01_Gcd_l0 _ a.natAbs b.natAbs rfl (by omega) (by omega) (by omega)
  refine ⟨K, fun k hk => ?_⟩
  unfold smaltoref01_Gcd.f
  rw [← hK k hk, Int.natAbs_of_nonneg ha.1, Int.natAbs_of_nonneg hb.1]

theorem FixedGcds_pure : smaltolaw01_FixedGcds.Pure := by
  intro a b ha hb
  have ha := wf64 ha
  have hb := wf64 hb
  have ua := siz_u ha
  have ub := siz_u hb
  obtain ⟨K1, h1⟩ := fixed_Gcd_eq ha hb
  obtain ⟨K2, h2⟩ := fixed_Gcd_eq hb ha
  obtain ⟨K3, h3⟩ := ref01_Gcd_eq (a := siz a) (b := siz b) ⟨ua.1, by omega⟩ ⟨ub.1, by omega⟩
  refine ⟨K1 + K2 + K3 + 300, ?_⟩
  unfold smaltolaw01_FixedGcds.f
  rw [lives01 (by omega), h1 _ (by omega), ref01_Size_eq ha, ref01_Size_eq hb]
  simp only [Option.bind_some, if_true]
  rw [h3 _ (by omega)]
  simp only [Option.bind_some]
  have ea : (siz a).natAbs = a.natAbs := by unfold siz; split <;> omega
  have eb : (siz b).natAbs = b.natAbs := by unfold siz; split <;> omega
  rw [ea, eb]
  have da : Nat.gcd a.natAbs b.natAbs ∣ a.natAbs := Nat.gcd_dvd_left _ _
  have db : Nat.gcd a.natAbs b.natAbs ∣ b.natAbs := Nat.gcd_dvd_right _ _
  have hgl : (Nat.gcd a.natAbs b.natAbs : Int) ≤ 9223372036854775808 := by
    by_cases h : a = 0
    · rw [h, Int.natAbs_zero, Nat.gcd_zero_left]; omega
    · have := Nat.le_of_dvd (by omega) da; omega
  have hz : Nat.gcd a.natAbs b.natAbs = 0 → a = 0 ∧ b = 0 := by
    intro h
    rw [Nat.gcd_eq_zero_iff] at h
    omega
  have hz2 : a = 0 → b = 0 → Nat.gcd a.natAbs b.natAbs = 0 := by
    intro h h'; rw [h, h']; rfl
  rw [h2 _ (by omega), Nat.gcd_comm b.natAbs a.natAbs]
  generalize Nat.gcd a.natAbs b.natAbs = g at *
  rw [ref01_Hold_eq (by omega) (by omega) (by omega)]
  simp only [Option.bind_some, sgn, Bool.false_eq_true, if_false]
  rw [show 0 * 18446744073709551616 + (g : Int) = g from by omega, if_pos rfl]
  try rw [if_pos rfl]
  have dvz : ∀ x : Int, (g ∣ x.natAbs) → Int.tmod x g = 0 := by
    intro x hx
    exact Int.tmod_eq_zero_of_dvd (Int.ofNat_dvd_left.2 hx)
  have main : ¬ (a = 0 ∧ b = 0) → (if (g : Int) > 4611686018427387904 then (some true : Option Bool) else if hold g > 0 then (if hold g = 0 then none else if Int.tmod a (hold g) = 0 then some (Int.tmod b (hold g) == 0) else some false) else some false) = some true := by
    intro hn
    by_cases c : (g : Int) > 4611686018427387904
    · rw [if_pos c]
    · rw [if_neg c, hold_id (by omega) (by omega)]
      have : g ≠ 0 := fun h => hn (hz h)
      rw [if_pos (by omega), if_neg (by omega), dvz a da, dvz b db]; rfl
  by_cases a0 : a = 0
  · rw [if_pos a0]
    by_cases b0 : b = 0
    · rw [if_pos b0, hz2 a0 b0]; rfl
    · rw [if_neg b0]; exact main (by omega)
  · rw [if_neg a0]; exact main (by omega)

end Go.Proofs.Ytofmgoihoaookaa.QA
