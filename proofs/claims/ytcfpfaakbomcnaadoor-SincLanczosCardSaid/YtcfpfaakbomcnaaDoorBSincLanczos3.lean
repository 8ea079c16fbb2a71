/- Joined by wip/tools/bundle.py out of: FlTj FlTk FlSn FlTl FlTm FlTn FlTo FlTp FlTq FlTr FlTu FlTz FlUa FlUb FlUc FlUd FlUe TI TJ TK. -/
import Derived.Test.YtcfpfaakbomcnaaDoorBSincLanczos2
import Derived.Test.YtcfpfaakbomcnaaDoorBSincLanczos1
import Derived.Handy
import Derived.Lib.SliceRun
import Derived.Test.YtcfpfaakbomcnaaDoorBSincLanczos0
import Derived.Laws.BitsAllLaws
import Derived.Laws.FloatArith
import Derived.Laws.Cover2
import Derived.Laws.Externs
namespace Go.Proofs.YtcfpfaakbomcnaaDoor.Fl
def eS : Nat → Rat
  | 0 => 0
  | n + 1 => eS n + eB (n + 1)
def gS : Nat → Rat
  | 0 => 1
  | n + 1 => gS n + gB (n + 1)
theorem eS_le : ∀ n : Nat, n < 31 → 0 ≤ eS n ∧ eS n ≤ 300 ∧ 0 ≤ gS n ∧ gS n ≤ 15000 := by decide +kernel
theorem series_near {u : Int} (h0 : 0 ≤ u) (h1 : (u : Rat) ≤ 158 * 1099511627776) : ∀ n : Nat, n ≤ 30 →
    (serS u n : Rat) - 1099511627776 * sm (trm (u * (1099511627776 : Rat)⁻¹)) (n + 1) ≤ eS n ∧ 1099511627776 * sm (trm (u * (1099511627776 : Rat)⁻¹)) (n + 1) - (serS u n : Rat) ≤ eS n ∧ sm (trm (u * (1099511627776 : Rat)⁻¹)) (n + 1) ≤ gS n ∧ -gS n ≤ sm (trm (u * (1099511627776 : Rat)⁻¹)) (n + 1) := by
  have tn := term_near h0 h1
  generalize (u : Rat) * (1099511627776 : Rat)⁻¹ = U at *
  intro n
  induction n with
  | zero =>
    intro _
    have t0 : serS u 0 = 1099511627776 := rfl
    have s0 : sm (trm U) (0 + 1) = 1 := by simp [sm, trm, fact]; grind
    rw [t0, s0, show ((1099511627776 : Int) : Rat) = 1099511627776 from rfl]
    simp only [eS, gS]
    refine ⟨?_, ?_, ?_, ?_⟩ <;> grind
  | succ n ih =>
    intro hn
    obtain ⟨a1, a2, a3, a4⟩ := ih (by omega)
    obtain ⟨t0, t1, t2, w0, w1⟩ := tn (n + 1) hn
    obtain ⟨_, es, _, gs⟩ := eS_le n (by omega)
    obtain ⟨_, eb, _, gb⟩ := eB_le (n + 1) (by omega)
    have es' : sm (trm U) (n + 1 + 1) = sm (trm U) (n + 1) + trm U (n + 1) := rfl
    have et : trm U (n + 1) = (if (n + 1) % 2 = 0 then 1 else -1) * W U (n + 1) := rfl
    have sb0 : -4611686018427387904 ≤ serS u n := by
      refine le_cast ?_
      rw [show ((-4611686018427387904 : Int) : Rat) = -4611686018427387904 from rfl]
      grind
    have sb1 : serS u n ≤ 4611686018427387904 := by
      refine le_cast ?_
      rw [show ((4611686018427387904 : Int) : Rat) = 4611686018427387904 from rfl]
      grind
    have tb : serT u (n + 1) ≤ 2305843009213693952 := by
      refine le_cast ?_
      rw [show ((2305843009213693952 : Int) : Rat) = 2305843009213693952 from rfl]
      grind
    rw [es', et]
    by_cases c : n % 2 = 0
    · have eS' : serS u (n + 1) = serS u n - serT u (n + 1) := by
        rw [serS, if_pos c, w64_in (by omega) (by omega)]
      rw [eS', if_neg (by omega), Rat.intCast_sub]
      simp only [eS, gS]
      refine ⟨?_, ?_, ?_, ?_⟩ <;> grind
    · have eS' : serS u (n + 1) = serS u n + serT u (n + 1) := by
        rw [serS, if_neg c, w64_in (by omega) (by omega)]
      rw [eS', if_pos (by omega), Rat.intCast_add]
      simp only [eS, gS]
      refine ⟨?_, ?_, ?_, ?_⟩ <;> grind
/-- The series is near Taylor's, at its own argument. -/
theorem ser_near {u : Int} (h0 : 0 ≤ u) (h1 : (u : Rat) ≤ 158 * 1099511627776) : (serS u 30 : Rat) - 1099511627776 * TT (u * (1099511627776 : Rat)⁻¹) ≤ 300 ∧ 1099511627776 * TT (u * (1099511627776 : Rat)⁻¹) - (serS u 30 : Rat) ≤ 300 := by
  obtain ⟨a1, a2, _, _⟩ := series_near h0 h1 30 (Nat.le_refl _)
  have := (eS_le 30 (by decide)).2.1
  unfold TT
  constructor <;> grind
/-- Two numbers' powers. -/
theorem pow_diff {a b M d : Rat} (a0 : 0 ≤ a) (a1 : a ≤ M) (b0 : 0 ≤ b) (b1 : b ≤ M) (hd : a - b ≤ d ∧ b - a ≤ d) (d0 : 0 ≤ d) : ∀ n : Nat, 0 ≤ a ^ (n + 1) ∧ a ^ (n + 1) ≤ M ^ (n + 1) ∧ 0 ≤ M ^ n ∧ a ^ (n + 1) - b ^ (n + 1) ≤ ((n + 1 : Nat) : Rat) * (M ^ n * d) ∧ b ^ (n + 1) - a ^ (n + 1) ≤ ((n + 1 : Nat) : Rat) * (M ^ n * d)
  | 0 => by
    simp only [Rat.pow_succ, Rat.pow_zero]
    rw [show ((0 + 1 : Nat) : Rat) = 1 from rfl]
    refine ⟨?_, ?_, ?_, ?_, ?_⟩ <;> grind
  | n + 1 => by
    obtain ⟨p0, p1, m0, d1, d2⟩ := pow_diff a0 a1 b0 b1 hd d0 n
    have M0 : 0 ≤ M := by grind
    have e1 : a ^ (n + 1 + 1) = a ^ (n + 1) * a := Rat.pow_succ _ _
    have e2 : b ^ (n + 1 + 1) = b ^ (n + 1) * b := Rat.pow_succ _ _
    have e3 : M ^ (n + 1 + 1) = M ^ (n + 1) * M := Rat.pow_succ _ _
    have e4 : M ^ (n + 1) = M ^ n * M := Rat.pow_succ _ _
    rw [e1, e2, e3]
    generalize a ^ (n + 1) = x at *
    generalize b ^ (n + 1) = y at *
    have hc : ((n + 1 + 1 : Nat) : Rat) = ((n + 1 : Nat) : Rat) + 1 := by rw [Rat.natCast_add]; rfl
    rw [hc]
    have c0 : 0 ≤ ((n + 1 : Nat) : Rat) := Rat.natCast_nonneg
    generalize ((n + 1 : Nat) : Rat) = c at *
    rw [e4] at p1 ⊢
    generalize M ^ n = m at *
    have q1 : 0 ≤ x * a := Rat.mul_nonneg p0 a0
    have q2 : x * a ≤ m * M * M := by
      have h1 := Rat.mul_le_mul_of_nonneg_right p1 a0
      have h2 := Rat.mul_le_mul_of_nonneg_left a1 (Rat.mul_nonneg m0 M0)
      grind
    have r1 := Rat.mul_le_mul_of_nonneg_left hd.1 p0
    have r2 := Rat.mul_le_mul_of_nonneg_left hd.2 p0
    have r3 := Rat.mul_le_mul_of_nonneg_right p1 d0
    have r4 := Rat.mul_le_mul_of_nonneg_right d1 b0
    have r5 := Rat.mul_le_mul_of_nonneg_right d2 b0
    have r6 := Rat.mul_le_mul_of_nonneg_left b1 (Rat.mul_nonneg c0 (Rat.mul_nonneg m0 d0))
    refine ⟨q1, q2, Rat.mul_nonneg m0 M0, ?_, ?_⟩ <;> grind
end Go.Proofs.YtcfpfaakbomcnaaDoor.Fl

namespace Go.Proofs.YtcfpfaakbomcnaaDoor.Fl
def lS : Nat → Rat
  | 0 => 0
  | n + 1 => lS n + ((n + 1 : Nat) : Rat) * ((160 ^ n : Nat) : Rat) * ((fact (2 * (n + 1) + 1) : Nat) : Rat)⁻¹
theorem lS_le : lS 30 ≤ 450 := by decide +kernel
theorem trm_abs (x y c s : Rat) (hs : s = 1 ∨ s = -1) (c0 : 0 ≤ c) {e : Rat} (h1 : x - y ≤ e) (h2 : y - x ≤ e) : s * (x * c) - s * (y * c) ≤ e * c ∧ s * (y * c) - s * (x * c) ≤ e * c := by
  have p1 := Rat.mul_le_mul_of_nonneg_right h1 c0
  have p2 := Rat.mul_le_mul_of_nonneg_right h2 c0
  rcases hs with rfl | rfl <;> constructor <;> grind
theorem TT_lip_n {a b d : Rat} (a0 : 0 ≤ a) (a1 : a ≤ 160) (b0 : 0 ≤ b) (b1 : b ≤ 160) (hd : a - b ≤ d ∧ b - a ≤ d) (d0 : 0 ≤ d) : ∀ n : Nat, sm (trm a) (n + 1) - sm (trm b) (n + 1) ≤ lS n * d ∧ sm (trm b) (n + 1) - sm (trm a) (n + 1) ≤ lS n * d
  | 0 => by simp [sm, trm, lS]; grind
  | n + 1 => by
    obtain ⟨i1, i2⟩ := TT_lip_n a0 a1 b0 b1 hd d0 n
    obtain ⟨_, _, _, p1, p2⟩ := pow_diff a0 a1 b0 b1 hd d0 n
    have ea : sm (trm a) (n + 1 + 1) = sm (trm a) (n + 1) + trm a (n + 1) := rfl
    have eb : sm (trm b) (n + 1 + 1) = sm (trm b) (n + 1) + trm b (n + 1) := rfl
    rw [ea, eb, lS]
    have hf : 0 ≤ ((fact (2 * (n + 1) + 1) : Nat) : Rat)⁻¹ := Rat.le_of_lt (Rat.inv_pos.2 (Rat.natCast_pos.2 (fact_pos _)))
    have hs : (if (n + 1) % 2 = 0 then (1 : Rat) else -1) = 1 ∨ (if (n + 1) % 2 = 0 then (1 : Rat) else -1) = -1 := by split <;> simp
    have hm : (160 : Rat) ^ n = ((160 ^ n : Nat) : Rat) := by rw [Rat.natCast_pow]; rfl
    rw [hm] at p1 p2
    have t := trm_abs (a ^ (n + 1)) (b ^ (n + 1)) _ _ hs hf p1 p2
    rw [show trm a (n + 1) = (if (n + 1) % 2 = 0 then (1 : Rat) else -1) * (a ^ (n + 1) * ((fact (2 * (n + 1) + 1) : Nat) : Rat)⁻¹) from rfl, show trm b (n + 1) = (if (n + 1) % 2 = 0 then (1 : Rat) else -1) * (b ^ (n + 1) * ((fact (2 * (n + 1) + 1) : Nat) : Rat)⁻¹) from rfl]
    clear ea eb hm
    generalize sm (trm a) (n + 1) = A at *
    generalize sm (trm b) (n + 1) = B at *
    generalize ((fact (2 * (n + 1) + 1) : Nat) : Rat)⁻¹ = f at *
    generalize a ^ (n + 1) = x at *
    generalize b ^ (n + 1) = y at *
    generalize ((n + 1 : Nat) : Rat) = c at *
    generalize ((160 ^ n : Nat) : Rat) = m at *
    generalize (if (n + 1) % 2 = 0 then (1 : Rat) else -1) = s at *
    constructor <;> grind
theorem TT_lip {a b d : Rat} (a0 : 0 ≤ a) (a1 : a ≤ 160) (b0 : 0 ≤ b) (b1 : b ≤ 160) (hd : a - b ≤ d ∧ b - a ≤ d) : TT a - TT b ≤ 450 * d ∧ TT b - TT a ≤ 450 * d := by
  have d0 : 0 ≤ d := by grind
  obtain ⟨h1, h2⟩ := TT_lip_n a0 a1 b0 b1 hd d0 30
  have h3 := Rat.mul_le_mul_of_nonneg_right lS_le d0
  unfold TT
  constructor <;> grind
/-- The program's sinc of a fraction p/q: near Taylor's of pi2/2^40 times its square. -/
theorem sinc_near {p q : Int} (hq : 1 ≤ q) (hq2 : q ≤ 4194304) (hp : 0 ≤ p) (hp2 : p ≤ 4 * q) {x : Rat} (hx : (p : Rat) = x * q) :
    (serS (serU p q) 30 : Rat) - 1099511627776 * TT (10851744800547 * (1099511627776 : Rat)⁻¹ * (x * x)) ≤ 2000 ∧ 1099511627776 * TT (10851744800547 * (1099511627776 : Rat)⁻¹ * (x * x)) - (serS (serU p q) 30 : Rat) ≤ 2000 := by
  have qp : 0 < (q : Rat) := Rat.intCast_pos.2 (by omega)
  have qi : (q : Rat) * (q : Rat)⁻¹ = 1 := Rat.mul_inv_cancel _ (by grind)
  have p0 : 0 ≤ (p : Rat) := Rat.intCast_nonneg.2 hp
  have p4 : (p : Rat) ≤ 4 * q := by have := cast_le hp2; rwa [Rat.intCast_mul] at this
  have x0 : 0 ≤ x := Rat.le_of_mul_le_mul_right (show 0 * (q : Rat) ≤ x * q by grind) qp
  have x4 : x ≤ 4 := Rat.le_of_mul_le_mul_right (show x * (q : Rat) ≤ 4 * q by grind) qp
  have xi : (p : Rat) * (q : Rat)⁻¹ = x := by rw [hx, Rat.mul_assoc, qi, Rat.mul_one]
  obtain ⟨u1, hu1⟩ : ∃ u, u = rdiv (10851744800547 * p) q := ⟨_, rfl⟩
  have r1 := rdiv_rat (a := 10851744800547 * p) (b := q) (by omega)
  rw [← hu1, Rat.intCast_mul, show ((10851744800547 : Int) : Rat) = 10851744800547 from rfl, Rat.mul_assoc, xi] at r1
  have b1 : 0 ≤ u1 ∧ u1 ≤ 43406979202188 + 1 := by
    constructor
    · rw [hu1]; unfold rdiv; rw [if_pos (by omega)]; exact Int.ediv_nonneg (by omega) (by omega)
    · refine le_cast ?_
      rw [show ((43406979202188 + 1 : Int) : Rat) = 43406979202189 from rfl]
      grind
  obtain ⟨u, hu⟩ : ∃ u, u = rdiv (u1 * p) q := ⟨_, rfl⟩
  have r2 := rdiv_rat (a := u1 * p) (b := q) (by omega)
  rw [← hu, Rat.intCast_mul, Rat.mul_assoc, xi] at r2
  have e1 := Rat.mul_le_mul_of_nonneg_right r1.1 x0
  have e2 := Rat.mul_le_mul_of_nonneg_right r1.2 x0
  have xx := mulb (a := x) (b := x) (α := 4) (β := 4) ⟨by grind, x4⟩ ⟨by grind, x4⟩
  have x2 : 0 ≤ x * x := Rat.mul_nonneg x0 x0
  have un : (u : Rat) - 10851744800547 * (x * x) ≤ 5 / 2 ∧ 10851744800547 * (x * x) - (u : Rat) ≤ 5 / 2 := by constructor <;> grind
  have u0 : 0 ≤ u := by
    rw [hu]; unfold rdiv; rw [if_pos (by omega)]
    exact Int.ediv_nonneg (by have := Int.mul_nonneg b1.1 hp; omega) (by omega)
  have uh : (u : Rat) ≤ 158 * 1099511627776 := by grind
  have uh2 : u ≤ 9223372036854775807 := by
    refine le_cast ?_
    rw [show ((9223372036854775807 : Int) : Rat) = 9223372036854775807 from rfl]
    grind
  have es : serU p q = u := by
    unfold serU
    rw [← hu1, hold_in (m := u1) (by omega) (by omega), ← hu, hold_in (m := u) (by omega) uh2]
  rw [es]
  obtain ⟨s1, s2⟩ := ser_near u0 uh
  have hU : (u : Rat) * (1099511627776 : Rat)⁻¹ = (u : Rat) / 1099511627776 := rfl
  have l := TT_lip (a := u * (1099511627776 : Rat)⁻¹) (b := 10851744800547 * (1099511627776 : Rat)⁻¹ * (x * x)) (d := 5 / 2 * (1099511627776 : Rat)⁻¹) (by have := Rat.intCast_nonneg.2 u0; grind) (by grind) (by grind) (by grind) (by constructor <;> grind)
  constructor <;> grind
end Go.Proofs.YtcfpfaakbomcnaaDoor.Fl

namespace Go.Proofs.YtcfpfaakbomcnaaDoor.Fl
open Ieee
theorem cut_zero (s : Bool) (n d : Nat) : Toward.zero.cut s n d = n / 2 ^ d := by
  unfold Toward.cut
  simp only []
  rw [Nat.shiftLeft_eq, Nat.one_mul]
  by_cases h : d ≤ n.log2 + 2
  · rw [Nat.min_eq_left h]; simp
  · rw [Nat.min_eq_right (by omega)]
    have h1 : n < 2 ^ (n.log2 + 1) := Nat.lt_log2_self
    have h2 : 2 ^ (n.log2 + 2) = 2 * 2 ^ (n.log2 + 1) := by rw [Nat.pow_succ]; omega
    have h3 : 2 ^ (n.log2 + 2) ≤ 2 ^ d := Nat.pow_le_pow_right (by decide) (by omega)
    rw [Nat.div_eq_of_lt (by omega), Nat.div_eq_of_lt (by omega)]; simp
/-- A number that isn't below nought, cut to a whole one. -/
theorem toInt_cut {x : Nat} (hx : Fin x) (h0 : 0 ≤ V x) : ∃ n : Nat, (double.read x).toInt .zero = some (n : Int) ∧ (n : Rat) ≤ V x ∧ V x < n + 1 := by
  obtain ⟨s, m, p, e, _⟩ := hx
  have ev : V x = sg s * (m * p2 p) := by unfold V; rw [e]; rfl
  obtain ⟨n, hn⟩ : ∃ n, n = (m <<< p.toNat) / 2 ^ (-p).toNat := ⟨_, rfl⟩
  have ei : (double.read x).toInt .zero = some (signed s n 0) := by
    unfold Datum.toInt Datum.integral
    rw [e]; dsimp only
    rw [cut_zero, ← hn]
  have q : (n : Rat) ≤ m * p2 p ∧ (m : Rat) * p2 p < n + 1 := by
    rcases Int.le_total 0 p with hp | hp
    · obtain ⟨u, rfl⟩ := Int.eq_ofNat_of_zero_le hp
      have : n = m * 2 ^ u := by rw [hn, show (-(u : Int)).toNat = 0 by omega, Nat.pow_zero, Nat.div_one, Nat.shiftLeft_eq]; rfl
      have e2 : (n : Rat) = m * p2 (u : Int) := by rw [this, Rat.natCast_mul, nat_p2]
      rw [e2]; grind
    · obtain ⟨u, hu⟩ : ∃ u : Nat, p = -(u : Int) := ⟨(-p).toNat, by omega⟩
      subst hu
      have hn2 : n = m / 2 ^ u := by rw [hn, show (-(u : Int)).toNat = 0 by omega, show (- -(u : Int)).toNat = u by omega, Nat.shiftLeft_eq, Nat.pow_zero, Nat.mul_one]
      have a1 : n * 2 ^ u ≤ m := by rw [hn2]; exact Nat.div_mul_le_self m _
      have a2 : m < (n + 1) * 2 ^ u := by
        have h1 := Nat.div_add_mod m (2 ^ u)
        have h2 := Nat.mod_lt m (Nat.two_pow_pos u)
        rw [← hn2, Nat.mul_comm] at h1
        rw [Nat.succ_mul]; omega
      have b1 := Rat.natCast_le_natCast.2 a1
      have b2 := Rat.natCast_lt_natCast.2 a2
      simp only [Rat.natCast_mul, Rat.natCast_add, nat_p2] at b1 b2
      rw [show ((1 : Nat) : Rat) = 1 from rfl] at b2
      have pu := p2_pos (u : Int)
      have e1 : p2 (-(u : Int)) * p2 u = 1 := by rw [← p2_add, Int.add_left_neg]; rfl
      have pn := p2_pos (-(u : Int))
      have c1 := Rat.mul_le_mul_of_nonneg_right b1 (Rat.le_of_lt pn)
      have c2 := (Rat.mul_lt_mul_right pn).2 b2
      have f1 : (n : Rat) * p2 u * p2 (-(u : Int)) = n := by rw [Rat.mul_assoc, Rat.mul_comm (p2 u), e1, Rat.mul_one]
      have f2 : ((n : Rat) + 1) * p2 u * p2 (-(u : Int)) = n + 1 := by rw [Rat.mul_assoc, Rat.mul_comm (p2 u), e1, Rat.mul_one]
      rw [f1] at c1
      rw [f2] at c2
      exact ⟨c1, c2⟩
  have mp : 0 ≤ (m : Rat) * p2 p := Rat.mul_nonneg Rat.natCast_nonneg (Rat.le_of_lt (p2_pos p))
  refine ⟨n, ?_, ?_⟩
  · rw [ei]
    unfold signed
    rw [Nat.shiftLeft_eq, Nat.pow_zero, Nat.mul_one]
    by_cases z : s = true
    · rw [if_pos z]
      have : V x = -(m * p2 p) := by rw [ev, z]; unfold sg; simp; grind
      have hm : (m : Rat) * p2 p = 0 := by grind
      have hn0 : n = 0 := by
        have h := q.1
        rw [hm] at h
        have : ((n : Nat) : Rat) ≤ ((0 : Nat) : Rat) := h
        have := Rat.natCast_le_natCast.1 this
        omega
      subst hn0; simp
    · rw [if_neg z]
  · by_cases z : s = true
    · have hv : V x = -(m * p2 p) := by rw [ev, z]; unfold sg; simp; grind
      have hm : (m : Rat) * p2 p = 0 := by grind
      rw [hv, hm]
      rw [hm] at q
      constructor <;> grind
    · have hv : V x = m * p2 p := by rw [ev]; unfold sg; simp [z]
      rw [hv]; exact q
end Go.Proofs.YtcfpfaakbomcnaaDoor.Fl

open Ieee
namespace Go.Proofs.YtcfpfaakbomcnaaDoor.Fl
def ee : Rat := 1 / 140737488355328
theorem ee_b : 0 ≤ ee ∧ ee ≤ 1 / 1000000000000 := by unfold ee; constructor <;> grind
theorem mulE {x y : Nat} (hx : Fin x) (hy : Fin y) (hs : -60 ≤ V x * V y ∧ V x * V y ≤ 60) : ∃ r, double.mul x y = some r ∧ Fin r ∧ V r - V x * V y ≤ ee ∧ V x * V y - V r ≤ ee := by
  obtain ⟨r, h1, h2, e, h3, h4, h5⟩ := mul6 hx hy hs
  exact ⟨r, h1, h2, by unfold ee; grind, by unfold ee; grind⟩
theorem addE {x y : Nat} (hx : Fin x) (hy : Fin y) (hs : -60 ≤ V x + V y ∧ V x + V y ≤ 60) : ∃ r, double.add x y = some r ∧ Fin r ∧ V r - (V x + V y) ≤ ee ∧ V x + V y - V r ≤ ee := by
  obtain ⟨r, h1, h2, e, h3, h4, h5⟩ := add6 hx hy hs
  exact ⟨r, h1, h2, by unfold ee; grind, by unfold ee; grind⟩
theorem subE {x y : Nat} (hx : Fin x) (hy : Fin y) (hs : -60 ≤ V x - V y ∧ V x - V y ≤ 60) : ∃ r, double.sub x y = some r ∧ Fin r ∧ V r - (V x - V y) ≤ ee ∧ V x - V y - V r ≤ ee := by
  obtain ⟨r, h1, h2, e, h3, h4, h5⟩ := sub6 hx hy hs
  exact ⟨r, h1, h2, by unfold ee; grind, by unfold ee; grind⟩
/-- Products that are near. -/
theorem pnear {a b A B e f α β : Rat} (ha : a - A ≤ e ∧ A - a ≤ e) (hb : b - B ≤ f ∧ B - b ≤ f) (hbb : -β ≤ b ∧ b ≤ β) (hA : -α ≤ A ∧ A ≤ α) : a * b - A * B ≤ e * β + α * f ∧ A * B - a * b ≤ e * β + α * f := by
  have h1 := mulb (a := a - A) (b := b) (α := e) (β := β) ⟨by grind, by grind⟩ hbb
  have h2 := mulb (a := A) (b := b - B) (α := α) (β := f) hA ⟨by grind, by grind⟩
  constructor <;> grind
theorem horner {p u c : Nat} {P v e : Rat} (hp : Fin p) (hu : Fin u) (hc : Fin c) (hv : 0 ≤ v ∧ v ≤ 3 / 4) (hu1 : V u - v ≤ ee ∧ v - V u ≤ ee) (hP : -1 ≤ P ∧ P ≤ 1) (he : 0 ≤ e ∧ e ≤ 1 / 1000) (h : V p - P ≤ e ∧ P - V p ≤ e) (hC : -2 ≤ V c ∧ V c ≤ 2) :
    ∃ q, double.mul p u = some q ∧ ∃ r, double.add q c = some r ∧ Fin r ∧ V r - (P * v + V c) ≤ e + 3 * ee ∧ (P * v + V c) - V r ≤ e + 3 * ee := by
  obtain ⟨e0, e1⟩ := ee_b
  have m := pnear h hu1 (β := 1) (α := 1) ⟨by grind, by grind⟩ hP
  have b := mulb (a := P) (b := v) (α := 1) (β := 1) hP ⟨by grind, by grind⟩
  obtain ⟨q, q1, q2, q3, q4⟩ := mulE hp hu (by constructor <;> grind)
  obtain ⟨r, r1, r2, r3, r4⟩ := addE q2 hc (by constructor <;> grind)
  exact ⟨q, q1, r, r1, r2, by grind, by grind⟩
theorem cf_val {x m E k : Nat} {M : Int} (s : Bool) (h : double.read x = .number s m (-((E + k : Nat) : Int))) (hm : m < 9007199254740992) (hM : (if s then -(m : Int) else m) = M * ((2 ^ k : Nat) : Int)) : Fin x ∧ V x = cf M E := by
  refine const_val (n := E + k) s h hm ?_
  have h2 : ((2 ^ E : Nat) : Rat)⁻¹ * ((2 ^ E : Nat) : Rat) = 1 := Rat.inv_mul_cancel _ (by have : (0 : Rat) < ((2 ^ E : Nat) : Rat) := Rat.natCast_pos.2 (Nat.two_pow_pos _); grind)
  have h3 : ((2 ^ (E + k) : Nat) : Rat) = ((2 ^ E : Nat) : Rat) * ((2 ^ k : Nat) : Rat) := by rw [Nat.pow_add, Rat.natCast_mul]
  have q : (((if s then -(m : Int) else (m : Int)) : Int) : Rat) = sg s * (m : Rat) := by
    cases s
    · simp only [sg, Bool.false_eq_true, if_false, Rat.intCast_natCast]; exact (Rat.one_mul _).symm
    · simp only [sg, if_true, Rat.intCast_neg, Rat.intCast_natCast]; grind
  have h4 : sg s * (m : Rat) = (M : Rat) * ((2 ^ k : Nat) : Rat) := by
    rw [← q, hM, Rat.intCast_mul, Rat.intCast_natCast]
  rw [h3, h4]
  unfold cf
  grind
theorem ws0 : Fin 4460209587652500685 ∧ V 4460209587652500685 = s0 := cf_val (m := 6149556183080141) (k := 0) false (by decide +kernel) (by decide) (by decide)
theorem ws1 : Fin 13716528389658582877 ∧ V 13716528389658582877 = s1 := cf_val (m := 7571123942793053) (k := 0) true (by decide +kernel) (by decide) (by decide)
theorem ws2 : Fin 4523617212962785441 ∧ V 4523617212962785441 = s2 := cf_val (m := 6506786710177953) (k := 0) false (by decide +kernel) (by decide) (by decide)
theorem ws3 : Fin 13774824197404483331 ∧ V 13774824197404483331 = s3 := cf_val (m := 7320136532877059) (k := 0) true (by decide +kernel) (by decide) (by decide)
theorem ws4 : Fin 4575957461383575504 ∧ V 4575957461383575504 = s4 := cf_val (m := 4803839602522064) (k := 4) false (by decide +kernel) (by decide) (by decide)
theorem ws5 : Fin 13818544856648471880 ∧ V 13818544856648471880 = s5 := cf_val (m := 6004799503160648) (k := 3) true (by decide +kernel) (by decide) (by decide)
theorem wk0 : Fin 13666448263388469915 ∧ V 13666448263388469915 = k0 := cf_val (m := 7030593573755547) (k := 0) true (by decide +kernel) (by decide) (by decide)
theorem wk1 : Fin 4477121864728985349 ∧ V 4477121864728985349 = k1 := cf_val (m := 5047434750082821) (k := 0) false (by decide +kernel) (by decide) (by decide)
theorem wk2 : Fin 13732177093698800582 ∧ V 13732177093698800582 = k2 := cf_val (m := 5205429473528774) (k := 1) true (by decide +kernel) (by decide) (by decide)
theorem wk3 : Fin 4537941361668146421 ∧ V 4537941361668146421 = k3 := cf_val (m := 7320136533427445) (k := 0) false (by decide +kernel) (by decide) (by decide)
theorem wk4 : Fin 13787419979223748497 ∧ V 13787419979223748497 = k4 := cf_val (m := 6405119470030737) (k := 0) true (by decide +kernel) (by decide) (by decide)
theorem wk5 : Fin 4586165620538955083 ∧ V 4586165620538955083 = k5 := cf_val (m := 6004799503160651) (k := 0) false (by decide +kernel) (by decide) (by decide)
theorem sB : (-1/100 ≤ s0 ∧ s0 ≤ 1/100) ∧ (-1/100 ≤ s1 ∧ s1 ≤ 1/100) ∧ (-1/100 ≤ s2 ∧ s2 ≤ 1/100) ∧ (-1/100 ≤ s3 ∧ s3 ≤ 1/100) ∧ (-1/100 ≤ s4 ∧ s4 ≤ 1/100) ∧ (-1/5 ≤ s5 ∧ s5 ≤ 1/5) := by decide +kernel
theorem kB : (-1/100 ≤ k0 ∧ k0 ≤ 1/100) ∧ (-1/100 ≤ k1 ∧ k1 ≤ 1/100) ∧ (-1/100 ≤ k2 ∧ k2 ≤ 1/100) ∧ (-1/100 ≤ k3 ∧ k3 ≤ 1/100) ∧ (-1/100 ≤ k4 ∧ k4 ≤ 1/100) ∧ (-1/5 ≤ k5 ∧ k5 ≤ 1/5) := by decide +kernel
end Go.Proofs.YtcfpfaakbomcnaaDoor.Fl

open Ieee
namespace Go.Proofs.YtcfpfaakbomcnaaDoor.Fl
/-- The polynomial of the odd branch: from t and u, near t times t. -/
def SinT (t u r : Nat) : Prop := ∃ q0 r0 q1 r1 q2 r2 q3 r3 q4 r4 w w2, double.mul 4460209587652500685 u = some q0 ∧ double.add q0 13716528389658582877 = some r0 ∧ double.mul r0 u = some q1 ∧ double.add q1 4523617212962785441 = some r1 ∧ double.mul r1 u = some q2 ∧ double.add q2 13774824197404483331 = some r2 ∧ double.mul r2 u = some q3 ∧ double.add q3 4575957461383575504 = some r3 ∧ double.mul r3 u = some q4 ∧ double.add q4 13818544856648471880 = some r4 ∧ double.mul t u = some w ∧ double.mul w r4 = some w2 ∧ double.add t w2 = some r
def CosT (u r : Nat) : Prop := ∃ q0 r0 q1 r1 q2 r2 q3 r3 q4 r4 h g w w2, double.mul 13666448263388469915 u = some q0 ∧ double.add q0 4477121864728985349 = some r0 ∧ double.mul r0 u = some q1 ∧ double.add q1 13732177093698800582 = some r1 ∧ double.mul r1 u = some q2 ∧ double.add q2 4537941361668146421 = some r2 ∧ double.mul r2 u = some q3 ∧ double.add q3 13787419979223748497 = some r3 ∧ double.mul r3 u = some q4 ∧ double.add q4 4586165620538955083 = some r4 ∧ double.mul 4602678819172646912 u = some h ∧ double.sub 4607182418800017408 h = some g ∧ double.mul u u = some w ∧ double.mul w r4 = some w2 ∧ double.add g w2 = some r
theorem c05 : Fin 4602678819172646912 ∧ V 4602678819172646912 = 1 / 2 := const_val (m := 4503599627370496) (n := 53) false (by decide) (by decide) (by simp [sg] <;> grind)
/-- Five steps of Horner's. -/
theorem horner5 {c0 c1 c2 c3 c4 c5 u : Nat} {v b0 b1 b2 b3 b4 b5 : Rat} (h0 : Fin c0 ∧ V c0 = b0) (h1 : Fin c1 ∧ V c1 = b1) (h2 : Fin c2 ∧ V c2 = b2) (h3 : Fin c3 ∧ V c3 = b3) (h4 : Fin c4 ∧ V c4 = b4) (h5 : Fin c5 ∧ V c5 = b5)
    (B : (-1/100 ≤ b0 ∧ b0 ≤ 1/100) ∧ (-1/100 ≤ b1 ∧ b1 ≤ 1/100) ∧ (-1/100 ≤ b2 ∧ b2 ≤ 1/100) ∧ (-1/100 ≤ b3 ∧ b3 ≤ 1/100) ∧ (-1/100 ≤ b4 ∧ b4 ≤ 1/100) ∧ (-1/5 ≤ b5 ∧ b5 ≤ 1/5))
    (hu : Fin u) (hv : 0 ≤ v ∧ v ≤ 3 / 4) (hu1 : V u - v ≤ ee ∧ v - V u ≤ ee) :
    ∃ q0 r0 q1 r1 q2 r2 q3 r3 q4 r4, double.mul c0 u = some q0 ∧ double.add q0 c1 = some r0 ∧ double.mul r0 u = some q1 ∧ double.add q1 c2 = some r1 ∧ double.mul r1 u = some q2 ∧ double.add q2 c3 = some r2 ∧ double.mul r2 u = some q3 ∧ double.add q3 c4 = some r3 ∧ double.mul r3 u = some q4 ∧ double.add q4 c5 = some r4 ∧ Fin r4 ∧ V r4 - (((((b0 * v + b1) * v + b2) * v + b3) * v + b4) * v + b5) ≤ 15 * ee ∧ (((((b0 * v + b1) * v + b2) * v + b3) * v + b4) * v + b5) - V r4 ≤ 15 * ee ∧ -1/4 ≤ (((((b0 * v + b1) * v + b2) * v + b3) * v + b4) * v + b5) ∧ (((((b0 * v + b1) * v + b2) * v + b3) * v + b4) * v + b5) ≤ 1/4 := by
  obtain ⟨B0, B1, B2, B3, B4, B5⟩ := B
  obtain ⟨e0, e1⟩ := ee_b
  have vb : -(3/4) ≤ v ∧ v ≤ 3/4 := ⟨by grind, hv.2⟩
  have m0 := mulb (a := b0) (b := v) (α := 1/100) (β := 3/4) ⟨by grind, by grind⟩ vb
  obtain ⟨P1, hP1⟩ : ∃ P, P = b0 * v + b1 := ⟨_, rfl⟩
  have p1 : -1/20 ≤ P1 ∧ P1 ≤ 1/20 := by constructor <;> grind
  have m1 := mulb (a := P1) (b := v) (α := 1/20) (β := 3/4) ⟨by grind, by grind⟩ vb
  obtain ⟨P2, hP2⟩ : ∃ P, P = P1 * v + b2 := ⟨_, rfl⟩
  have p2 : -1/20 ≤ P2 ∧ P2 ≤ 1/20 := by constructor <;> grind
  have m2 := mulb (a := P2) (b := v) (α := 1/20) (β := 3/4) ⟨by grind, by grind⟩ vb
  obtain ⟨P3, hP3⟩ : ∃ P, P = P2 * v + b3 := ⟨_, rfl⟩
  have p3 : -1/20 ≤ P3 ∧ P3 ≤ 1/20 := by constructor <;> grind
  have m3 := mulb (a := P3) (b := v) (α := 1/20) (β := 3/4) ⟨by grind, by grind⟩ vb
  obtain ⟨P4, hP4⟩ : ∃ P, P = P3 * v + b4 := ⟨_, rfl⟩
  have p4 : -1/20 ≤ P4 ∧ P4 ≤ 1/20 := by constructor <;> grind
  have m4 := mulb (a := P4) (b := v) (α := 1/20) (β := 3/4) ⟨by grind, by grind⟩ vb
  obtain ⟨P5, hP5⟩ : ∃ P, P = P4 * v + b5 := ⟨_, rfl⟩
  have p5 : -1/4 ≤ P5 ∧ P5 ≤ 1/4 := by constructor <;> grind
  rw [← hP1, ← hP2, ← hP3, ← hP4, ← hP5]
  obtain ⟨q0, a0, r0, d0, f0, g0, k0⟩ := horner (P := b0) (e := 0) h0.1 hu h1.1 hv hu1 ⟨by grind, by grind⟩ ⟨by grind, by grind⟩ ⟨by grind, by grind⟩ ⟨by grind, by grind⟩
  rw [h1.2, ← hP1] at g0 k0
  obtain ⟨q1, a1, r1, d1, f1, g1, k1⟩ := horner (P := P1) (e := 0 + 3 * ee) f0 hu h2.1 hv hu1 ⟨by grind, by grind⟩ ⟨by grind, by grind⟩ ⟨g0, k0⟩ ⟨by grind, by grind⟩
  rw [h2.2, ← hP2] at g1 k1
  obtain ⟨q2, a2, r2, d2, f2, g2, k2⟩ := horner (P := P2) (e := 0 + 3 * ee + 3 * ee) f1 hu h3.1 hv hu1 ⟨by grind, by grind⟩ ⟨by grind, by grind⟩ ⟨g1, k1⟩ ⟨by grind, by grind⟩
  rw [h3.2, ← hP3] at g2 k2
  obtain ⟨q3, a3, r3, d3, f3, g3, k3⟩ := horner (P := P3) (e := 0 + 3 * ee + 3 * ee + 3 * ee) f2 hu h4.1 hv hu1 ⟨by grind, by grind⟩ ⟨by grind, by grind⟩ ⟨g2, k2⟩ ⟨by grind, by grind⟩
  rw [h4.2, ← hP4] at g3 k3
  obtain ⟨q4, a4, r4, d4, f4, g4, k4⟩ := horner (P := P4) (e := 0 + 3 * ee + 3 * ee + 3 * ee + 3 * ee) f3 hu h5.1 hv hu1 ⟨by grind, by grind⟩ ⟨by grind, by grind⟩ ⟨g3, k3⟩ ⟨by grind, by grind⟩
  rw [h5.2, ← hP5] at g4 k4
  exact ⟨q0, r0, q1, r1, q2, r2, q3, r3, q4, r4, a0, d0, a1, d1, a2, d2, a3, d3, a4, d4, f4, by grind, by grind, p5.1, p5.2⟩
theorem sinT {t u : Nat} (ht : Fin t) (hu : Fin u) (t1 : -(4/5) ≤ V t ∧ V t ≤ 4/5) (hv : V t * V t ≤ 3/4) (hu1 : V u - V t * V t ≤ ee ∧ V t * V t - V u ≤ ee) :
    ∃ r, SinT t u r ∧ Fin r ∧ V r - sinR (V t) ≤ 32 * ee ∧ sinR (V t) - V r ≤ 32 * ee := by
  obtain ⟨e0, e1⟩ := ee_b
  have v0 : 0 ≤ V t * V t := by
    rcases (Rat.le_total : (0 : Rat) ≤ V t ∨ V t ≤ 0) with h | h
    · exact Rat.mul_nonneg h h
    · have := Rat.mul_nonneg (show 0 ≤ -V t by grind) (show 0 ≤ -V t by grind); grind
  obtain ⟨q0, r0, q1, r1, q2, r2, q3, r3, q4, r4, a0, d0, a1, d1, a2, d2, a3, d3, a4, d4, f4, g, k, p0, p1⟩ := horner5 ws0 ws1 ws2 ws3 ws4 ws5 sB hu ⟨v0, hv⟩ hu1
  unfold sinR
  generalize (((((s0 * (V t * V t) + s1) * (V t * V t) + s2) * (V t * V t) + s3) * (V t * V t) + s4) * (V t * V t) + s5) = P at g k p0 p1 ⊢
  generalize V t * V t = v at hv hu1 v0 ⊢
  have n1 := pnear (a := V t) (A := V t) (b := V u) (B := v) (e := 0) (f := ee) (α := 1) (β := 1) ⟨by grind, by grind⟩ hu1 ⟨by grind, by grind⟩ ⟨by grind, by grind⟩
  have b1 := mulb (a := V t) (b := v) (α := 1) (β := 1) ⟨by grind, by grind⟩ ⟨by grind, by grind⟩
  obtain ⟨w, w1, w2, w3, w4⟩ := mulE ht hu (by constructor <;> grind)
  have n2 := pnear (a := V w) (A := V t * v) (b := V r4) (B := P) (e := 2 * ee) (f := 15 * ee) (α := 1) (β := 1) ⟨by grind, by grind⟩ ⟨g, k⟩ ⟨by grind, by grind⟩ ⟨by grind, by grind⟩
  have b2 := mulb (a := V t * v) (b := P) (α := 1) (β := 1) ⟨by grind, by grind⟩ ⟨by grind, by grind⟩
  obtain ⟨z, z1, z2, z3, z4⟩ := mulE w2 f4 (by constructor <;> grind)
  obtain ⟨r, y1, y2, y3, y4⟩ := addE ht z2 (by constructor <;> grind)
  exact ⟨r, ⟨q0, r0, q1, r1, q2, r2, q3, r3, q4, r4, w, z, a0, d0, a1, d1, a2, d2, a3, d3, a4, d4, w1, z1, y1⟩, y2, by grind, by grind⟩
theorem cosT {t : Rat} {u : Nat} (hu : Fin u) (hv : t * t ≤ 3/4) (hu1 : V u - t * t ≤ ee ∧ t * t - V u ≤ ee) :
    ∃ r, CosT u r ∧ Fin r ∧ V r - cosR t ≤ 32 * ee ∧ cosR t - V r ≤ 32 * ee := by
  obtain ⟨e0, e1⟩ := ee_b
  have v0 : 0 ≤ t * t := by
    rcases (Rat.le_total : (0 : Rat) ≤ t ∨ t ≤ 0) with h | h
    · exact Rat.mul_nonneg h h
    · have := Rat.mul_nonneg (show 0 ≤ -t by grind) (show 0 ≤ -t by grind); grind
  obtain ⟨q0, r0, q1, r1, q2, r2, q3, r3, q4, r4, a0, d0, a1, d1, a2, d2, a3, d3, a4, d4, f4, g, k, p0, p1⟩ := horner5 wk0 wk1 wk2 wk3 wk4 wk5 kB hu ⟨v0, hv⟩ hu1
  unfold cosR
  generalize (((((k0 * (t * t) + k1) * (t * t) + k2) * (t * t) + k3) * (t * t) + k4) * (t * t) + k5) = P at g k p0 p1 ⊢
  generalize t * t = v at hv hu1 v0 ⊢
  obtain ⟨h, h1, h2, h3, h4⟩ := mulE c05.1 hu (by rw [c05.2]; constructor <;> grind)
  rw [c05.2] at h3 h4
  obtain ⟨gg, g1, g2, g3, g4⟩ := subE c1.1 h2 (by rw [c1.2]; constructor <;> grind)
  rw [c1.2] at g3 g4
  have n1 := pnear (a := V u) (A := v) (b := V u) (B := v) (e := ee) (f := ee) (α := 1) (β := 1) hu1 hu1 ⟨by grind, by grind⟩ ⟨by grind, by grind⟩
  have b1 := mulb (a := v) (b := v) (α := 1) (β := 1) ⟨by grind, by grind⟩ ⟨by grind, by grind⟩
  obtain ⟨w, w1, w2, w3, w4⟩ := mulE hu hu (by constructor <;> grind)
  have n2 := pnear (a := V w) (A := v * v) (b := V r4) (B := P) (e := 3 * ee) (f := 15 * ee) (α := 1) (β := 1) ⟨by grind, by grind⟩ ⟨g, k⟩ ⟨by grind, by grind⟩ ⟨by grind, by grind⟩
  have b2 := mulb (a := v * v) (b := P) (α := 1) (β := 1) ⟨by grind, by grind⟩ ⟨by grind, by grind⟩
  obtain ⟨z, z1, z2, z3, z4⟩ := mulE w2 f4 (by constructor <;> grind)
  obtain ⟨r, y1, y2, y3, y4⟩ := addE g2 z2 (by constructor <;> grind)
  exact ⟨r, ⟨q0, r0, q1, r1, q2, r2, q3, r3, q4, r4, h, gg, w, z, a0, d0, a1, d1, a2, d2, a3, d3, a4, d4, h1, g1, w1, z1, y1⟩, y2, by grind, by grind⟩
end Go.Proofs.YtcfpfaakbomcnaaDoor.Fl

open Ieee
namespace Go.Proofs.YtcfpfaakbomcnaaDoor.Fl
theorem cc_b : 7853981633 / 10000000000 ≤ cc ∧ cc ≤ 7853981634 / 10000000000 := by decide +kernel
theorem wM : Fin 4608412980311869571 ∧ V 4608412980311869571 = 5734161139222659 / 4503599627370496 := const_val (m := 5734161139222659) (n := 52) false (by decide) (by decide) (by simp [sg] <;> grind)
theorem wA : Fin 4605249456957292544 ∧ V 4605249456957292544 = 6588397 / 8388608 := const_val (m := 7074237412016128) (n := 53) false (by decide +kernel) (by decide) (by simp [sg] <;> grind)
theorem wB : Fin 4495793288086814720 ∧ V 4495793288086814720 = 1328173 / 35184372088832 := const_val (m := 5704459598430208) (n := 77) false (by decide +kernel) (by decide) (by simp [sg] <;> grind)
theorem wC : Fin 4388835458085048688 ∧ V 4388835458085048688 = 427063790847255 / 158456325028528675187087900672 := const_val (m := 6833020653556080) (n := 101) false (by decide +kernel) (by decide) (by simp [sg] <;> grind)
theorem abc : (6588397 / 8388608 + 1328173 / 35184372088832 + 427063790847255 / 158456325028528675187087900672 : Rat) = cc := by decide +kernel
theorem mcc : 1 - 1 / 1000000000000 ≤ (5734161139222659 / 4503599627370496 : Rat) * cc ∧ (5734161139222659 / 4503599627370496 : Rat) * cc ≤ 1 + 1 / 1000000000000 := by decide +kernel
theorem tau_cc : Q * (7859 / 10000) ≤ ((tau : Nat) : Rat) := by decide +kernel
/-- The even octant. -/
def YW (j y Y : Nat) : Prop := Y % 2 = 0 ∧ ((j % 2 = 0 ∧ y = flo j ∧ Y = j) ∨ (j % 2 = 1 ∧ double.add (flo j) 4607182418800017408 = some y ∧ Y = j + 1))
/-- Cody and Waite's reduction. -/
def RedW (x j Y t u : Nat) : Prop := ∃ m y a z1 b z2 c, double.mul x 4608412980311869571 = some m ∧ (double.read m).toInt .zero = some (j : Int) ∧ YW j y Y ∧ double.mul y 4605249456957292544 = some a ∧ double.sub x a = some z1 ∧ double.mul y 4495793288086814720 = some b ∧ double.sub z1 b = some z2 ∧ double.mul y 4388835458085048688 = some c ∧ double.sub z2 c = some t ∧ double.mul t t = some u
theorem floV (j : Nat) (h : j ≤ 1000) : Fin (flo j) ∧ V (flo j) = (j : Rat) := by
  obtain ⟨h1, h2⟩ := ofInt (j : Int) (by omega)
  exact ⟨h1, by unfold flo; rw [h2, Rat.intCast_natCast]⟩
theorem natq {a b : Nat} (h : a < b) : (a : Rat) + 1 ≤ b := by
  have := Rat.natCast_le_natCast.2 (show a + 1 ≤ b from h)
  rw [Rat.natCast_add] at this
  exact this
theorem reduce {x : Nat} (hx : Fin x) (h0 : 1 / 4194304 ≤ V x) (h1 : V x ≤ 63 / 5) :
    ∃ j Y t u, RedW x j Y t u ∧ j ≤ 16 ∧ Y ≤ 16 ∧ Y % 2 = 0 ∧ Fin t ∧ Fin u ∧ V t - (V x - Y * cc) ≤ 8 * ee ∧ (V x - Y * cc) - V t ≤ 8 * ee ∧ (-(7857 / 10000) ≤ V t ∧ V t ≤ 7857 / 10000) ∧ (V u - V t * V t ≤ ee ∧ V t * V t - V u ≤ ee) := by
  obtain ⟨e0, e1⟩ := ee_b
  obtain ⟨k1, k2⟩ := cc_b
  obtain ⟨n1, n2⟩ := mcc
  obtain ⟨m, m1, m2, m3, m4⟩ := mulE hx wM.1 (by rw [wM.2]; constructor <;> grind)
  rw [wM.2] at m3 m4
  have zc := mulb (a := V x) (b := (5734161139222659 / 4503599627370496 : Rat) * cc - 1) (α := 63/5) (β := 1 / 1000000000000) ⟨by grind, h1⟩ ⟨by grind, by grind⟩
  have zm : V x * (5734161139222659 / 4503599627370496) ≤ 161 / 10 := by grind
  obtain ⟨j, j1, j2, j3⟩ := toInt_cut m2 (by grind)
  have j16 : j ≤ 16 := by
    rcases Nat.lt_or_ge 16 j with h | h
    · have := natq h
      have e : ((16 : Nat) : Rat) = 16 := rfl
      grind
    · exact h
  obtain ⟨f1, f2⟩ := floV j (by omega)
  have hy : ∃ y Y : Nat, YW j y Y ∧ Y ≤ 16 ∧ Fin y ∧ V y - Y ≤ ee ∧ Y - V y ≤ ee ∧ V x * (5734161139222659 / 4503599627370496) - Y ≤ 1 + ee ∧ Y - V x * (5734161139222659 / 4503599627370496) ≤ 1 + ee := by
    rcases Nat.mod_two_eq_zero_or_one j with h | h
    · exact ⟨flo j, j, ⟨h, .inl ⟨h, rfl, rfl⟩⟩, j16, f1, by grind, by grind, by grind, by grind⟩
    · have jb : (j : Rat) ≤ 16 := by have := Rat.natCast_le_natCast.2 j16; exact this
      have j0 : 0 ≤ (j : Rat) := Rat.natCast_nonneg
      obtain ⟨y, y1, y2, y3, y4⟩ := addE f1 c1.1 (by rw [f2, c1.2]; constructor <;> grind)
      rw [f2, c1.2] at y3 y4
      have e : ((j + 1 : Nat) : Rat) = (j : Rat) + 1 := by rw [Rat.natCast_add]; rfl
      exact ⟨y, j + 1, ⟨by omega, .inr ⟨h, y1, rfl⟩⟩, by omega, y2, by grind, by grind, by grind, by grind⟩
  obtain ⟨y, Y, hY, Y16, y1, y2, y3, y4, y5⟩ := hy
  have Yb : (Y : Rat) ≤ 16 := by have := Rat.natCast_le_natCast.2 Y16; exact this
  have Y0 : 0 ≤ (Y : Rat) := Rat.natCast_nonneg
  have d1 := mulb (a := V x * (5734161139222659 / 4503599627370496) - Y) (b := cc) (α := 1 + ee) (β := 7853981634 / 10000000000) ⟨by grind, by grind⟩ ⟨by grind, by grind⟩
  have d2 := mulb (a := V y - Y) (b := cc) (α := ee) (β := 1) ⟨by grind, by grind⟩ ⟨by grind, by grind⟩
  have yc : V y * cc = V y * (6588397 / 8388608) + V y * (1328173 / 35184372088832) + V y * (427063790847255 / 158456325028528675187087900672) := by rw [← abc]; grind
  have zr : -(7854 / 10000) ≤ V x - Y * cc ∧ V x - Y * cc ≤ 7854 / 10000 := by constructor <;> grind
  have Yc := mulb (a := (Y : Rat)) (b := cc) (α := 16) (β := 1) ⟨by grind, Yb⟩ ⟨by grind, by grind⟩
  obtain ⟨a, a1, a2, a3, a4⟩ := mulE y1 wA.1 (by rw [wA.2]; constructor <;> grind)
  rw [wA.2] at a3 a4
  obtain ⟨z1, b1, b2, b3, b4⟩ := subE hx a2 (by constructor <;> grind)
  obtain ⟨b, g1, g2, g3, g4⟩ := mulE y1 wB.1 (by rw [wB.2]; constructor <;> grind)
  rw [wB.2] at g3 g4
  obtain ⟨z2, p1, p2, p3, p4⟩ := subE b2 g2 (by constructor <;> grind)
  obtain ⟨c, q1, q2, q3, q4⟩ := mulE y1 wC.1 (by rw [wC.2]; constructor <;> grind)
  rw [wC.2] at q3 q4
  obtain ⟨t, t1, t2, t3, t4⟩ := subE p2 q2 (by constructor <;> grind)
  have tn : V t - (V x - Y * cc) ≤ 8 * ee ∧ (V x - Y * cc) - V t ≤ 8 * ee := by constructor <;> grind
  have tb : -(7857 / 10000) ≤ V t ∧ V t ≤ 7857 / 10000 := by constructor <;> grind
  have tt := mulb (a := V t) (b := V t) (α := 1) (β := 1) ⟨by grind, by grind⟩ ⟨by grind, by grind⟩
  obtain ⟨u, u1, u2, u3, u4⟩ := mulE t2 t2 (by constructor <;> grind)
  exact ⟨j, Y, t, u, ⟨m, y, a, z1, b, z2, c, m1, j1, hY, a1, b1, g1, p1, q1, t1, u1⟩, j16, Y16, hY.1, t2, u2, tn.1, tn.2, tb, u3, u4⟩
end Go.Proofs.YtcfpfaakbomcnaaDoor.Fl

open Ieee
namespace Go.Proofs.YtcfpfaakbomcnaaDoor.Fl
theorem ee14 : ee ≤ 1 / 100000000000000 := by unfold ee; grind
theorem TT0 : TT 0 = 1 := by decide +kernel
theorem TT_abs {a : Rat} (a0 : 0 ≤ a) (a1 : a ≤ 160) : -(1 + 450 * a) ≤ TT a ∧ TT a ≤ 1 + 450 * a := by
  obtain ⟨h1, h2⟩ := TT_lip (a := a) (b := 0) (d := a) a0 a1 (by grind) (by grind) ⟨by grind, by grind⟩
  rw [TT0] at h1 h2
  constructor <;> grind
theorem sq_nonneg (x : Rat) : 0 ≤ x * x := by
  rcases (Rat.le_total : (0 : Rat) ≤ x ∨ x ≤ 0) with h | h
  · exact Rat.mul_nonneg h h
  · have := Rat.mul_nonneg (show 0 ≤ -x by grind) (show 0 ≤ -x by grind); grind
/-- The sine's value at a word, and the octant's polynomial of it. -/
theorem poly_word {t u Y : Nat} (ht : Fin t) (hu : Fin u) (hY : Y % 2 = 0) (tb : -(7857 / 10000) ≤ V t ∧ V t ≤ 7857 / 10000) (hu1 : V u - V t * V t ≤ ee ∧ V t * V t - V u ≤ ee) :
    ∃ r, (Y % 4 = 0 → SinT t u r) ∧ (Y % 4 = 2 → CosT u r) ∧ Fin r ∧ V r - poly Y (V t) ≤ 32 * ee ∧ poly Y (V t) - V r ≤ 32 * ee := by
  have m := mulb (a := V t) (b := V t) (α := 7857 / 10000) (β := 7857 / 10000) tb tb
  unfold poly
  rcases (show Y % 4 = 0 ∨ Y % 4 = 2 by omega) with h | h
  · rw [if_pos h]
    obtain ⟨r, r1, r2, r3, r4⟩ := sinT ht hu ⟨by grind, by grind⟩ (by grind) hu1
    exact ⟨r, fun _ => r1, fun h2 => by omega, r2, r3, r4⟩
  · rw [if_neg (by omega)]
    obtain ⟨r, r1, r2, r3, r4⟩ := cosT hu (by grind) hu1
    exact ⟨r, fun h2 => by omega, fun _ => r1, r2, r3, r4⟩
theorem oct_all {Y : Nat} (hY : Y % 2 = 0) (h16 : Y ≤ 16) {Z : Rat} (h0 : -(7857 / 10000) ≤ Z - Y * cc ∧ Z - Y * cc ≤ 7857 / 10000) (hz : 0 ≤ Z) :
    -(1 / 1000000000000) ≤ Z * TT (Z * Z) - sgy Y * poly Y (Z - Y * cc) ∧ Z * TT (Z * Z) - sgy Y * poly Y (Z - Y * cc) ≤ 1 / 1000000000000 := by
  have tc := tau_cc
  have qp := Q_pos
  have q1 := Rat.mul_le_mul_of_nonneg_left h0.1 (Rat.le_of_lt qp)
  have q2 := Rat.mul_le_mul_of_nonneg_left h0.2 (Rat.le_of_lt qp)
  by_cases c : Y = 0
  · subst c
    have e0 : Z - ((0 : Nat) : Rat) * cc = Z := by simp; grind
    rw [e0] at h0 q1 q2 ⊢
    have h := oct_zero hz (by grind)
    have es : sgy 0 = 1 := rfl
    have ep : poly 0 Z = sinR Z := rfl
    rw [es, ep]
    constructor <;> grind
  · have h := oct_even hY (by omega) h16 (z := Z) (by grind) (by grind)
    constructor <;> grind
theorem sgy_c (Y : Nat) : sgy Y = 1 ∨ sgy Y = -1 := by unfold sgy; split <;> simp
theorem sin_acc {x : Nat} (hx : Fin x) (h0 : 1 / 1024 ≤ V x) (h1 : V x ≤ 63 / 5) :
    ∃ j Y t u r, RedW x j Y t u ∧ j ≤ 16 ∧ Y ≤ 16 ∧ Y % 2 = 0 ∧ (Y % 4 = 0 → SinT t u r) ∧ (Y % 4 = 2 → CosT u r) ∧ Fin r ∧ sgy Y * V r - V x * TT (V x * V x) ≤ V x * (1 / 100000000) ∧ V x * TT (V x * V x) - sgy Y * V r ≤ V x * (1 / 100000000) := by
  obtain ⟨e0, e1⟩ := ee_b
  obtain ⟨j, Y, t, u, hR, j16, Y16, hY, ht, hu, n1, n2, tb, hu1⟩ := reduce hx (by grind) h1
  obtain ⟨r, r1, r2, r3, r4, r5⟩ := poly_word ht hu hY tb hu1
  obtain ⟨Z, hZ⟩ : ∃ Z, Z = V t + Y * cc := ⟨_, rfl⟩
  have et : V t = Z - Y * cc := by grind
  have dz : Z - V x ≤ 8 * ee ∧ V x - Z ≤ 8 * ee := by constructor <;> grind
  have o := oct_all hY Y16 (Z := Z) (by rw [← et]; exact tb) (by grind)
  rw [← et] at o
  generalize V x = z at *
  have ZZ := mulb (a := Z) (b := Z) (α := 63/5 + 8 * ee) (β := 63/5 + 8 * ee) ⟨by grind, by grind⟩ ⟨by grind, by grind⟩
  have zz := mulb (a := z) (b := z) (α := 63/5) (β := 63/5) ⟨by grind, by grind⟩ ⟨by grind, by grind⟩
  have Z0 := sq_nonneg Z
  have z0 := sq_nonneg z
  have ee2 : ee * ee ≤ ee := by have := Rat.mul_le_mul_of_nonneg_right (show ee ≤ 1 by grind) e0; grind
  have s1 := mulb (a := Z - z) (b := Z + z) (α := 8 * ee) (β := 26) ⟨by grind, by grind⟩ ⟨by grind, by grind⟩
  have l := TT_lip (a := Z * Z) (b := z * z) (d := 208 * ee) Z0 (by grind) z0 (by grind) ⟨by grind, by grind⟩
  have ta := TT_abs Z0 (by grind)
  generalize TT (Z * Z) = T1 at *
  generalize TT (z * z) = T2 at *
  have zp : 0 ≤ z := by grind
  have p1 := mulb (a := Z - z) (b := T1) (α := 8 * ee) (β := 1 + 450 * (Z * Z)) ⟨by grind, by grind⟩ ta
  have p2 := mulb (a := z) (b := T1 - T2) (α := z) (β := 450 * (208 * ee)) ⟨by grind, by grind⟩ ⟨by grind, by grind⟩
  have ZZ2 : Z * Z ≤ 27 * z := by
    have h2 := Rat.mul_le_mul_of_nonneg_right (show Z ≤ 13 by grind) (show 0 ≤ Z by grind)
    grind
  have e14 := ee14
  have q1 := Rat.mul_le_mul_of_nonneg_right ZZ2 e0
  have q2 := Rat.mul_le_mul_of_nonneg_left e14 zp
  have q3 : 1 ≤ 1024 * z := by grind
  have fin : ∀ S : Rat, S - Z * T1 ≤ 1 / 1000000000000 + 32 * ee ∧ Z * T1 - S ≤ 1 / 1000000000000 + 32 * ee → S - z * T2 ≤ z * (1 / 100000000) ∧ z * T2 - S ≤ z * (1 / 100000000) := by
    intro S hS
    have a1 : Z * T1 - z * T2 = (Z - z) * T1 + z * (T1 - T2) := by grind
    have a2 : 8 * ee * (1 + 450 * (Z * Z)) ≤ 8 * ee + 97200 * (z * ee) := by grind
    have a3 : z * (450 * (208 * ee)) = 93600 * (z * ee) := by grind
    generalize (Z - z) * T1 = A at p1 a1
    generalize z * (T1 - T2) = B at p2 a1
    generalize 8 * ee * (1 + 450 * (Z * Z)) = D at p1 a2
    rw [a3] at p2
    generalize z * ee = E at *
    constructor <;> grind
  refine ⟨j, Y, t, u, r, hR, j16, Y16, hY, r1, r2, r3, fin _ ?_⟩
  rcases sgy_c Y with h | h <;> rw [h] at o ⊢ <;> constructor <;> grind
end Go.Proofs.YtcfpfaakbomcnaaDoor.Fl

open Ieee
namespace Go.Proofs.YtcfpfaakbomcnaaDoor.Fl
def gg : Rat := 1 / 4611686018427387904
theorem gg_b : 0 ≤ gg ∧ 32768 * gg ≤ ee := by unfold gg ee; constructor <;> grind
theorem p9 : p2 (-9) * 512 = 1 := p2_inv 9 512 (by decide)
theorem p62 : p2 (-62) = gg := by
  have h := p2_inv 62 4611686018427387904 (by decide)
  unfold gg
  have e : ((4611686018427387904 : Nat) : Rat) = 4611686018427387904 := rfl
  rw [e] at h
  grind
theorem mulS {x y : Nat} (hx : Fin x) (hy : Fin y) (hs : -(1 / 1000) ≤ V x * V y ∧ V x * V y ≤ 1 / 1000) : ∃ r, double.mul x y = some r ∧ Fin r ∧ V r - V x * V y ≤ gg ∧ V x * V y - V r ≤ gg := by
  have q := p9
  obtain ⟨r, h1, h2, h3⟩ := mul_near hx hy (-9) (by decide) (by decide) (by grind)
  rw [show (-9 : Int) - 53 = -62 by decide, p62] at h3
  unfold Near at h3
  exact ⟨r, h1, h2, by grind, by grind⟩
theorem addS {x y : Nat} (hx : Fin x) (hy : Fin y) (hs : -(1 / 1000) ≤ V x + V y ∧ V x + V y ≤ 1 / 1000) : ∃ r, double.add x y = some r ∧ Fin r ∧ V r - (V x + V y) ≤ gg ∧ V x + V y - V r ≤ gg := by
  have q := p9
  obtain ⟨r, h1, h2, h3⟩ := add_near hx hy (-9) (by decide) (by decide) (by grind)
  rw [show (-9 : Int) - 53 = -62 by decide, p62] at h3
  unfold Near at h3
  exact ⟨r, h1, h2, by grind, by grind⟩
theorem subS {x y : Nat} (hx : Fin x) (hy : Fin y) (hs : -(1 / 1000) ≤ V x - V y ∧ V x - V y ≤ 1 / 1000) : ∃ r, double.sub x y = some r ∧ Fin r ∧ V r - (V x - V y) ≤ gg ∧ V x - V y - V r ≤ gg := by
  have q := p9
  obtain ⟨r, h1, h2, h3⟩ := sub_near hx hy (-9) (by decide) (by decide) (by grind)
  rw [show (-9 : Int) - 53 = -62 by decide, p62] at h3
  unfold Near at h3
  exact ⟨r, h1, h2, by grind, by grind⟩
theorem sinT_fine {t u : Nat} (ht : Fin t) (hu : Fin u) (t1 : -(1 / 1010) ≤ V t ∧ V t ≤ 1 / 1010) (hu1 : V u - V t * V t ≤ gg ∧ V t * V t - V u ≤ gg) :
    ∃ r, SinT t u r ∧ Fin r ∧ V r - sinR (V t) ≤ 8 * gg ∧ sinR (V t) - V r ≤ 8 * gg := by
  obtain ⟨e0, e1⟩ := ee_b
  obtain ⟨e2, e3⟩ := gg_b
  have e4 := ee14
  have v0 := sq_nonneg (V t)
  have tt := mulb t1 t1
  obtain ⟨q0, r0, q1, r1, q2, r2, q3, r3, q4, r4, a0, d0, a1, d1, a2, d2, a3, d3, a4, d4, f4, g, k, p0, p1⟩ := horner5 ws0 ws1 ws2 ws3 ws4 ws5 sB hu (v := V t * V t) ⟨v0, by grind⟩ ⟨by grind, by grind⟩
  unfold sinR
  generalize (((((s0 * (V t * V t) + s1) * (V t * V t) + s2) * (V t * V t) + s3) * (V t * V t) + s4) * (V t * V t) + s5) = P at g k p0 p1 ⊢
  generalize V t * V t = v at hu1 v0 tt ⊢
  have n1 := pnear (a := V t) (A := V t) (b := V u) (B := v) (e := 0) (f := gg) (α := 1) (β := 1) ⟨by grind, by grind⟩ hu1 ⟨by grind, by grind⟩ ⟨by grind, by grind⟩
  have b1 := mulb (a := V t) (b := v) (α := 1 / 1010) (β := 1 / 1010 * (1 / 1010)) t1 ⟨by grind, by grind⟩
  obtain ⟨w, w1, w2, w3, w4⟩ := mulS ht hu (by constructor <;> grind)
  have n2 := pnear (a := V w) (A := V t * v) (b := V r4) (B := P) (e := 2 * gg) (f := 15 * ee) (α := 1 / 1010 * (1 / 1010 * (1 / 1010))) (β := 1) ⟨by grind, by grind⟩ ⟨g, k⟩ ⟨by grind, by grind⟩ b1
  have b2 := mulb (a := V t * v) (b := P) (α := 1 / 1010 * (1 / 1010 * (1 / 1010))) (β := 1) b1 ⟨by grind, by grind⟩
  have sm : 1 / 1010 * (1 / 1010 * (1 / 1010)) * (15 * ee) ≤ 2 * gg := by unfold ee gg; grind
  obtain ⟨z, z1, z2, z3, z4⟩ := mulS w2 f4 (by constructor <;> grind)
  obtain ⟨r, y1, y2, y3, y4⟩ := addS ht z2 (by constructor <;> grind)
  exact ⟨r, ⟨q0, r0, q1, r1, q2, r2, q3, r3, q4, r4, w, z, a0, d0, a1, d1, a2, d2, a3, d3, a4, d4, w1, z1, y1⟩, y2, by grind, by grind⟩
theorem sin_fine {x : Nat} (hx : Fin x) (h0 : 1 / 4194304 ≤ V x) (h1 : V x ≤ 1 / 1024) :
    ∃ t u r, RedW x 0 0 t u ∧ SinT t u r ∧ Fin r ∧ V r - V x * TT (V x * V x) ≤ V x * (1 / 100000000) ∧ V x * TT (V x * V x) - V r ≤ V x * (1 / 100000000) := by
  obtain ⟨e0, e1⟩ := ee_b
  obtain ⟨e2, e3⟩ := gg_b
  have e4 := ee14
  obtain ⟨m, m1, m2, m3, m4⟩ := mulE hx wM.1 (by rw [wM.2]; constructor <;> grind)
  rw [wM.2] at m3 m4
  obtain ⟨j, j1, j2, j3⟩ := toInt_cut m2 (by grind)
  have hj : j = 0 := by
    rcases Nat.lt_or_ge 0 j with h | h
    · have := natq h
      have e : ((0 : Nat) : Rat) = 0 := rfl
      grind
    · omega
  subst hj
  obtain ⟨f1, f2⟩ := floV 0 (by decide)
  have e : ((0 : Nat) : Rat) = 0 := rfl
  rw [e] at f2
  obtain ⟨a, a1, a2, a3, a4⟩ := mulS f1 wA.1 (by rw [f2]; constructor <;> grind)
  rw [f2] at a3 a4
  obtain ⟨z1, b1, b2, b3, b4⟩ := subS hx a2 (by constructor <;> grind)
  obtain ⟨b, g1, g2, g3, g4⟩ := mulS f1 wB.1 (by rw [f2]; constructor <;> grind)
  rw [f2] at g3 g4
  obtain ⟨z2, p1, p2, p3, p4⟩ := subS b2 g2 (by constructor <;> grind)
  obtain ⟨c, q1, q2, q3, q4⟩ := mulS f1 wC.1 (by rw [f2]; constructor <;> grind)
  rw [f2] at q3 q4
  obtain ⟨t, t1, t2, t3, t4⟩ := subS p2 q2 (by constructor <;> grind)
  have tn : V t - V x ≤ 8 * gg ∧ V x - V t ≤ 8 * gg := by constructor <;> grind
  have tb : -(1 / 1010) ≤ V t ∧ V t ≤ 1 / 1010 := by constructor <;> grind
  have tt := mulb tb tb
  obtain ⟨u, u1, u2, u3, u4⟩ := mulS t2 t2 (by constructor <;> grind)
  obtain ⟨r, r1, r2, r3, r4⟩ := sinT_fine t2 u2 tb ⟨u3, u4⟩
  have tc := tau_cc
  have qp := Q_pos
  have t0 : 0 ≤ V t := by grind
  have o := oct_zero t0 (by
    have := Rat.mul_le_mul_of_nonneg_left (show V t ≤ 7859 / 10000 by grind) (Rat.le_of_lt qp)
    grind)
  refine ⟨t, u, r, ⟨m, flo 0, a, z1, b, z2, c, m1, j1, ⟨rfl, .inl ⟨rfl, rfl, rfl⟩⟩, a1, b1, g1, p1, q1, t1, u1⟩, r1, r2, ?_⟩
  generalize V x = z at *
  generalize V t = Z at *
  have Z0 := sq_nonneg Z
  have z0 := sq_nonneg z
  have zz := mulb (a := z) (b := z) (α := 1) (β := 1) ⟨by grind, by grind⟩ ⟨by grind, by grind⟩
  have s1 := mulb (a := Z - z) (b := Z + z) (α := 8 * gg) (β := 1) ⟨by grind, by grind⟩ ⟨by grind, by grind⟩
  have l := TT_lip (a := Z * Z) (b := z * z) (d := 8 * gg) Z0 (by grind) z0 (by grind) ⟨by grind, by grind⟩
  have ta := TT_abs Z0 (by grind)
  generalize TT (Z * Z) = T1 at *
  generalize TT (z * z) = T2 at *
  have zp : 0 ≤ z := by grind
  have y1 := mulb (a := Z - z) (b := T1) (α := 8 * gg) (β := 451) ⟨by grind, by grind⟩ ⟨by grind, by grind⟩
  have y2 := mulb (a := z) (b := T1 - T2) (α := 1) (β := 450 * (8 * gg)) ⟨by grind, by grind⟩ ⟨by grind, by grind⟩
  have a1 : Z * T1 - z * T2 = (Z - z) * T1 + z * (T1 - T2) := by grind
  have sml : 8000 * gg ≤ z * (1 / 130000000) := by unfold gg; grind
  generalize (Z - z) * T1 = A at *
  generalize z * (T1 - T2) = B at *
  constructor <;> grind
end Go.Proofs.YtcfpfaakbomcnaaDoor.Fl

open Ieee
namespace Go.Proofs.YtcfpfaakbomcnaaDoor.Fl
/-- The words of math.Sin of a number above nought. -/
def SinW (x j Y r : Nat) : Prop := ∃ t u, RedW x j Y t u ∧ (Y % 4 = 0 → SinT t u r) ∧ (Y % 4 = 2 → CosT u r)
theorem sin_all {x : Nat} (hx : Fin x) (h0 : 1 / 4194304 ≤ V x) (h1 : V x ≤ 63 / 5) :
    ∃ j Y r, SinW x j Y r ∧ j ≤ 16 ∧ Y ≤ 16 ∧ Y % 2 = 0 ∧ Fin r ∧ sgy Y * V r - V x * TT (V x * V x) ≤ V x * (1 / 100000000) ∧ V x * TT (V x * V x) - sgy Y * V r ≤ V x * (1 / 100000000) := by
  by_cases c : V x ≤ 1 / 1024
  · obtain ⟨t, u, r, h1, h2, h3, h4, h5⟩ := sin_fine hx h0 c
    have e : sgy 0 = 1 := rfl
    refine ⟨0, 0, r, ⟨t, u, h1, fun _ => h2, fun h => by simp at h⟩, by decide, by decide, rfl, h3, ?_, ?_⟩ <;> rw [e] <;> grind
  · obtain ⟨j, Y, t, u, r, a1, a2, a3, a4, a5, a6, a7, a8, a9⟩ := sin_acc hx (by grind) h1
    exact ⟨j, Y, r, ⟨t, u, a1, a5, a6⟩, a2, a3, a4, a7, a8, a9⟩
theorem wPi : Fin 4614256656552045848 ∧ V 4614256656552045848 = 884279719003555 / 281474976710656 := const_val (m := 7074237752028440) (n := 51) false (by decide +kernel) (by decide) (by simp [sg] <;> grind)
theorem pipi : (884279719003555 / 281474976710656 : Rat) * (884279719003555 / 281474976710656) - 10851744800547 * (1099511627776 : Rat)⁻¹ ≤ 1 / 1000000000000 ∧ 10851744800547 * (1099511627776 : Rat)⁻¹ - (884279719003555 / 281474976710656 : Rat) * (884279719003555 / 281474976710656) ≤ 1 / 1000000000000 := by decide +kernel
/-- The argument of the sine. -/
theorem pi_arg {x : Nat} {X : Rat} (hx : Fin x) (h0 : 1 / 3200000 ≤ X) (h1 : X ≤ 4 + 1 / 1000000) (hX : V x = X ∨ V x = -X) :
    ∃ p, double.mul 4614256656552045848 x = some p ∧ Fin p ∧ ∃ z, 1 / 4194304 ≤ z ∧ z ≤ 63 / 5 ∧ ((V x = X ∧ V p = z) ∨ (V x = -X ∧ V p = -z)) ∧ TT (z * z) - TT (10851744800547 * (1099511627776 : Rat)⁻¹ * (X * X)) ≤ 1 / 100000000 ∧ TT (10851744800547 * (1099511627776 : Rat)⁻¹ * (X * X)) - TT (z * z) ≤ 1 / 100000000 := by
  obtain ⟨e0, e1⟩ := ee_b
  have e4 := ee14
  obtain ⟨k1, k2⟩ := pipi
  have ew : 1 / 1000000000 ≤ 1 / 3200000 * (1 : Rat) := by grind
  obtain ⟨p, p1, p2, p3, p4⟩ := mulE wPi.1 hx (by rw [wPi.2]; rcases hX with h | h <;> rw [h] <;> constructor <;> grind)
  rw [wPi.2] at p3 p4
  have xx := mulb (a := X) (b := X) (α := 4 + 1 / 1000000) (β := 4 + 1 / 1000000) ⟨by grind, h1⟩ ⟨by grind, h1⟩
  have x0 := sq_nonneg X
  have main : ∀ z : Rat, z - 884279719003555 / 281474976710656 * X ≤ ee → 884279719003555 / 281474976710656 * X - z ≤ ee → 1 / 4194304 ≤ z ∧ z ≤ 63 / 5 ∧ TT (z * z) - TT (10851744800547 * (1099511627776 : Rat)⁻¹ * (X * X)) ≤ 1 / 100000000 ∧ TT (10851744800547 * (1099511627776 : Rat)⁻¹ * (X * X)) - TT (z * z) ≤ 1 / 100000000 := by
    intro z h2 h3
    have z1 : 1 / 4194304 ≤ z := by grind
    have z2 : z ≤ 63 / 5 := by grind
    have s1 := mulb (a := z - 884279719003555 / 281474976710656 * X) (b := z + 884279719003555 / 281474976710656 * X) (α := ee) (β := 26) ⟨by grind, h2⟩ ⟨by grind, by grind⟩
    have s2 := mulb (a := (884279719003555 / 281474976710656 : Rat) * (884279719003555 / 281474976710656) - 10851744800547 * (1099511627776 : Rat)⁻¹) (b := X * X) (α := 1 / 1000000000000) (β := 17) ⟨by grind, k1⟩ ⟨by grind, by grind⟩
    have zz := mulb (a := z) (b := z) (α := 63 / 5) (β := 63 / 5) ⟨by grind, z2⟩ ⟨by grind, z2⟩
    have z0 := sq_nonneg z
    have cx : 0 ≤ 10851744800547 * (1099511627776 : Rat)⁻¹ * (X * X) ∧ 10851744800547 * (1099511627776 : Rat)⁻¹ * (X * X) ≤ 160 := by constructor <;> grind
    have l := TT_lip (a := z * z) (b := 10851744800547 * (1099511627776 : Rat)⁻¹ * (X * X)) (d := 26 * ee + 17 / 1000000000000) z0 (by grind) cx.1 cx.2 ⟨by grind, by grind⟩
    exact ⟨z1, z2, by grind, by grind⟩
  rcases hX with h | h
  · rw [h] at p3 p4
    obtain ⟨m1, m2, m3, m4⟩ := main (V p) p3 p4
    exact ⟨p, p1, p2, V p, m1, m2, .inl ⟨h, rfl⟩, m3, m4⟩
  · rw [h] at p3 p4
    obtain ⟨m1, m2, m3, m4⟩ := main (-V p) (by grind) (by grind)
    exact ⟨p, p1, p2, -V p, m1, m2, .inr ⟨h, by grind⟩, m3, m4⟩
end Go.Proofs.YtcfpfaakbomcnaaDoor.Fl

open Ieee
namespace Go.Proofs.YtcfpfaakbomcnaaDoor.Fl
/-- The other sign: a word's top bit is turned. -/
def negW (y : Nat) : Nat := y ^^^ 2 ^ 63
theorem neg_parts (y : Nat) : negW y % 9223372036854775808 = y % 9223372036854775808 ∧ negW y / 9223372036854775808 % 2 = 1 - y / 9223372036854775808 % 2 := by
  unfold negW
  have e : (9223372036854775808 : Nat) = 2 ^ 63 := by decide
  rw [e]
  constructor
  · rw [Nat.xor_mod_two_pow, Nat.mod_self, Nat.xor_zero]
  · rw [← Nat.shiftRight_eq_div_pow, ← Nat.shiftRight_eq_div_pow, Nat.shiftRight_xor_distrib]
    generalize y >>> 63 = a
    have : (2 ^ 63 >>> 63 : Nat) = 1 := by decide
    rw [this]
    have q : (a ^^^ 1) % 2 ^ 1 = (a % 2 ^ 1) ^^^ (1 % 2 ^ 1) := Nat.xor_mod_two_pow
    rw [show (2 : Nat) ^ 1 = 2 by decide] at q
    rw [q]
    rcases Nat.mod_two_eq_zero_or_one a with h | h <;> rw [h] <;> rfl
theorem neg_word {y : Nat} (hy : Fin y) : Fin (negW y) ∧ V (negW y) = -V y := by
  obtain ⟨s, m, p, e, hm⟩ := hy
  have hw : double.signWeight = 9223372036854775808 := by decide
  obtain ⟨n1, n2⟩ := neg_parts y
  have r : double.read (negW y) = .number (!s) m p := by
    unfold Format.read at e ⊢
    rw [hw] at e ⊢
    dsimp only at e ⊢
    rw [n1, n2]
    have hs : (1 - y / 9223372036854775808 % 2 == 1) = !(y / 9223372036854775808 % 2 == 1) := by
      rcases Nat.mod_two_eq_zero_or_one (y / 9223372036854775808) with h | h <;> rw [h] <;> rfl
    rw [hs]
    split at e
    · cases e; rw [if_pos (by assumption)]
    · rw [if_neg (by assumption)]
      split at e
      · cases e; rw [if_pos (by assumption)]
      · split at e <;> cases e
  refine ⟨⟨_, _, _, r, hm⟩, ?_⟩
  unfold V
  rw [r, e]
  cases s <;> simp [val, sg] <;> grind
end Go.Proofs.YtcfpfaakbomcnaaDoor.Fl

open Ieee
namespace Go.Proofs.YtcfpfaakbomcnaaDoor.Fl
/-- The words of math.Sin of a number that isn't nought. -/
def SinS (p r : Nat) : Prop := ∃ (pa j Y r0 : Nat) (s : Bool), ((s = false ∧ pa = p ∧ 0 < V p) ∨ (s = true ∧ pa = negW p ∧ V p < 0)) ∧ SinW pa j Y r0 ∧ j ≤ 16 ∧ Y ≤ 16 ∧ Y % 2 = 0 ∧ Fin pa ∧ 0 < V pa ∧ V pa ≤ 63 / 5 ∧ r = if (s != decide (4 ≤ Y % 8)) then negW r0 else r0
theorem sinS {p : Nat} {z : Rat} (hp : Fin p) (h0 : 1 / 4194304 ≤ z) (h1 : z ≤ 63 / 5) (hz : V p = z ∨ V p = -z) :
    ∃ r, SinS p r ∧ Fin r ∧ ∃ Q, V r = Q * V p ∧ Q - TT (z * z) ≤ 1 / 100000000 ∧ TT (z * z) - Q ≤ 1 / 100000000 := by
  have zp : 0 < z := by grind
  have zi : z * z⁻¹ = 1 := Rat.mul_inv_cancel _ (by grind)
  have main : ∀ (pa : Nat) (s : Bool), Fin pa → V pa = z → ((s = false ∧ pa = p ∧ 0 < V p) ∨ (s = true ∧ pa = negW p ∧ V p < 0)) → V p = sg s * z → ∃ r, SinS p r ∧ Fin r ∧ ∃ Q, V r = Q * V p ∧ Q - TT (z * z) ≤ 1 / 100000000 ∧ TT (z * z) - Q ≤ 1 / 100000000 := by
    intro pa s hf hv hs hsg
    obtain ⟨j, Y, r0, a1, a2, a3, a4, a5, a6, a7⟩ := sin_all hf (by rw [hv]; exact h0) (by rw [hv]; exact h1)
    rw [hv] at a6 a7
    obtain ⟨n1, n2⟩ := neg_word a5
    obtain ⟨r, hr⟩ : ∃ r, r = if (s != decide (4 ≤ Y % 8)) then negW r0 else r0 := ⟨_, rfl⟩
    have hrf : Fin r := by rw [hr]; split <;> assumption
    have hrv : V r = sg s * (sgy Y * V r0) := by
      rw [hr]
      unfold sgy
      by_cases c : Y % 8 < 4
      · rw [if_pos c, decide_eq_false (by omega)]
        cases s <;> simp [sg, n2] <;> grind
      · rw [if_neg c, decide_eq_true (by omega)]
        cases s <;> simp [sg, n2] <;> grind
    have hS : ∀ S T : Rat, (S * z⁻¹ - T) * z = S - z * T := by
      intro S T
      have : S * z⁻¹ * z = S := by rw [Rat.mul_assoc, Rat.inv_mul_cancel z (by grind), Rat.mul_one]
      have e : S * z⁻¹ * z = S := this
      grind
    have hS2 : ∀ S T : Rat, (T - S * z⁻¹) * z = z * T - S := by
      intro S T
      have : S * z⁻¹ * z = S := by rw [Rat.mul_assoc, Rat.inv_mul_cancel z (by grind), Rat.mul_one]
      have e : S * z⁻¹ * z = S := this
      grind
    refine ⟨r, ⟨pa, j, Y, r0, s, hs, a1, a2, a3, a4, hf, by rw [hv]; exact zp, by rw [hv]; exact h1, hr⟩, hrf, sgy Y * V r0 * z⁻¹, ?_, ?_, ?_⟩
    · rw [hrv, hsg]
      generalize sgy Y * V r0 = S
      have : S * z⁻¹ * z = S := by rw [Rat.mul_assoc, Rat.inv_mul_cancel z (by grind), Rat.mul_one]
      have e : S * z⁻¹ * (sg s * z) = sg s * (S * z⁻¹ * z) := by grind
      rw [e, this]
    · refine Rat.le_of_mul_le_mul_right (c := z) ?_ zp
      rw [hS]; grind
    · refine Rat.le_of_mul_le_mul_right (c := z) ?_ zp
      rw [hS2]; grind
  rcases hz with h | h
  · exact main p false hp h (.inl ⟨rfl, rfl, by grind⟩) (by simp [sg]; grind)
  · obtain ⟨n1, n2⟩ := neg_word hp
    exact main (negW p) true n1 (by grind) (.inr ⟨rfl, rfl, by grind⟩) (by simp [sg]; grind)
theorem real_near {x : Nat} {X : Rat} (hx : Fin x) (h0 : 1 / 3200000 ≤ X) (h1 : X ≤ 4 + 1 / 1000000) (hX : V x = X ∨ V x = -X) :
    ∃ p r s, double.mul 4614256656552045848 x = some p ∧ SinS p r ∧ double.div r p = some s ∧ Fin p ∧ Fin s ∧ V s - TT (10851744800547 * (1099511627776 : Rat)⁻¹ * (X * X)) ≤ 3 / 100000000 ∧ TT (10851744800547 * (1099511627776 : Rat)⁻¹ * (X * X)) - V s ≤ 3 / 100000000 := by
  obtain ⟨p, p1, pf, z, z1, z2, hz, m1, m2⟩ := pi_arg hx h0 h1 hX
  obtain ⟨r, r1, r2, Q, q1, q2, q3⟩ := sinS pf z1 z2 (by rcases hz with h | h <;> simp [h.2])
  have z0 := sq_nonneg z
  have zz := mulb (a := z) (b := z) (α := 63 / 5) (β := 63 / 5) ⟨by grind, z2⟩ ⟨by grind, z2⟩
  have ta := TT_abs z0 (by grind)
  have q17 : p2 17 = 131072 := p2_num 17 131072 (by decide)
  have q34 : p2 (-34) * 17179869184 = 1 := p2_inv 34 17179869184 (by decide)
  obtain ⟨s, s1, s2, s3⟩ := div_near r2 pf 17 (by decide) (by decide) Q q1 (by rcases hz with h | h <;> rw [h.2] <;> grind) (by constructor <;> grind)
  rw [show (17 : Int) - 51 = -34 by decide] at s3
  unfold Near at s3
  refine ⟨p, r, s, p1, r1, s1, pf, s2, ?_, ?_⟩ <;> grind
end Go.Proofs.YtcfpfaakbomcnaaDoor.Fl

open Ieee
namespace Go.Proofs.YtcfpfaakbomcnaaDoor.Fl
theorem poly_abs {Y : Nat} {t : Rat} (tb : -(7857 / 10000) ≤ t ∧ t ≤ 7857 / 10000) : -(3 / 2) ≤ poly Y t ∧ poly Y t ≤ 3 / 2 := by
  have v0 := sq_nonneg t
  have tt := mulb tb tb
  obtain ⟨v, hv⟩ : ∃ v, v = t * t := ⟨_, rfl⟩
  have vb : -(3/4) ≤ v ∧ v ≤ 3/4 := by rw [hv]; constructor <;> grind
  have hp : ∀ b0 b1 b2 b3 b4 b5 : Rat, ((-1/100 ≤ b0 ∧ b0 ≤ 1/100) ∧ (-1/100 ≤ b1 ∧ b1 ≤ 1/100) ∧ (-1/100 ≤ b2 ∧ b2 ≤ 1/100) ∧ (-1/100 ≤ b3 ∧ b3 ≤ 1/100) ∧ (-1/100 ≤ b4 ∧ b4 ≤ 1/100) ∧ (-1/5 ≤ b5 ∧ b5 ≤ 1/5)) → -(1/4) ≤ (((((b0 * v + b1) * v + b2) * v + b3) * v + b4) * v + b5) ∧ (((((b0 * v + b1) * v + b2) * v + b3) * v + b4) * v + b5) ≤ 1/4 := by
    intro b0 b1 b2 b3 b4 b5 ⟨B0, B1, B2, B3, B4, B5⟩
    have m0 := mulb (a := b0) (b := v) (α := 1/100) (β := 3/4) ⟨by grind, by grind⟩ vb
    obtain ⟨P1, hP1⟩ : ∃ P, P = b0 * v + b1 := ⟨_, rfl⟩
    have m1 := mulb (a := P1) (b := v) (α := 1/20) (β := 3/4) ⟨by grind, by grind⟩ vb
    obtain ⟨P2, hP2⟩ : ∃ P, P = P1 * v + b2 := ⟨_, rfl⟩
    have m2 := mulb (a := P2) (b := v) (α := 1/20) (β := 3/4) ⟨by grind, by grind⟩ vb
    obtain ⟨P3, hP3⟩ : ∃ P, P = P2 * v + b3 := ⟨_, rfl⟩
    have m3 := mulb (a := P3) (b := v) (α := 1/20) (β := 3/4) ⟨by grind, by grind⟩ vb
    obtain ⟨P4, hP4⟩ : ∃ P, P = P3 * v + b4 := ⟨_, rfl⟩
    have m4 := mulb (a := P4) (b := v) (α := 1/20) (β := 3/4) ⟨by grind, by grind⟩ vb
    rw [← hP1, ← hP2, ← hP3, ← hP4]
    constructor <;> grind
  unfold poly sinR cosR
  rw [← hv]
  have k := hp _ _ _ _ _ _ sB
  have kc := hp _ _ _ _ _ _ kB
  generalize (((((s0 * v + s1) * v + s2) * v + s3) * v + s4) * v + s5) = P at k ⊢
  generalize (((((k0 * v + k1) * v + k2) * v + k3) * v + k4) * v + k5) = P' at kc ⊢
  have tv := mulb (a := t) (b := v) (α := 1) (β := 3/4) ⟨by grind, by grind⟩ vb
  have n1 := mulb (a := t * v) (b := P) (α := 3/4) (β := 1/4) ⟨by grind, by grind⟩ k
  have vv := mulb vb vb
  have n2 := mulb (a := v * v) (b := P') (α := 9/16) (β := 1/4) ⟨by grind, by grind⟩ kc
  split <;> constructor <;> grind
theorem octant {z : Rat} (h0 : 0 ≤ z) (h1 : z ≤ 63 / 5) : ∃ Y : Nat, Y % 2 = 0 ∧ Y ≤ 16 ∧ -(7857 / 10000) ≤ z - Y * cc ∧ z - Y * cc ≤ 7857 / 10000 := by
  obtain ⟨k1, k2⟩ := cc_b
  have go : ∀ (Y : Nat), Y % 2 = 0 → Y ≤ 16 → ∀ y : Rat, (Y : Rat) = y → -(7857 / 10000) ≤ z - y * cc → z - y * cc ≤ 7857 / 10000 → ∃ Y : Nat, Y % 2 = 0 ∧ Y ≤ 16 ∧ -(7857 / 10000) ≤ z - Y * cc ∧ z - Y * cc ≤ 7857 / 10000 := by
    intro Y a b y e c d
    exact ⟨Y, a, b, by rw [e]; exact c, by rw [e]; exact d⟩
  by_cases c0 : z ≤ cc
  · exact go 0 rfl (by decide) 0 rfl (by grind) (by grind)
  by_cases c1 : z ≤ 3 * cc
  · exact go 2 rfl (by decide) 2 rfl (by grind) (by grind)
  by_cases c2 : z ≤ 5 * cc
  · exact go 4 rfl (by decide) 4 rfl (by grind) (by grind)
  by_cases c3 : z ≤ 7 * cc
  · exact go 6 rfl (by decide) 6 rfl (by grind) (by grind)
  by_cases c4 : z ≤ 9 * cc
  · exact go 8 rfl (by decide) 8 rfl (by grind) (by grind)
  by_cases c5 : z ≤ 11 * cc
  · exact go 10 rfl (by decide) 10 rfl (by grind) (by grind)
  by_cases c6 : z ≤ 13 * cc
  · exact go 12 rfl (by decide) 12 rfl (by grind) (by grind)
  by_cases c7 : z ≤ 15 * cc
  · exact go 14 rfl (by decide) 14 rfl (by grind) (by grind)
  · exact go 16 rfl (by decide) 16 rfl (by grind) (by grind)
theorem TT_13 {z : Rat} (h0 : 0 ≤ z) (h1 : z ≤ 63 / 5) : -13 ≤ TT (z * z) ∧ TT (z * z) ≤ 13 := by
  have z0 := sq_nonneg z
  have zz := mulb (a := z) (b := z) (α := 63 / 5) (β := 63 / 5) ⟨by grind, h1⟩ ⟨by grind, h1⟩
  by_cases c : z ≤ 1 / 8
  · have z2 := mulb (a := z) (b := z) (α := 1 / 8) (β := 1 / 8) ⟨by grind, c⟩ ⟨by grind, c⟩
    have := TT_abs z0 (by grind)
    constructor <;> grind
  · obtain ⟨Y, hY, h16, b0, b1⟩ := octant h0 h1
    have o := oct_all hY h16 ⟨b0, b1⟩ h0
    have pa := poly_abs (Y := Y) ⟨b0, b1⟩
    have zp : 0 < z := by grind
    have s : -(3/2) ≤ sgy Y * poly Y (z - Y * cc) ∧ sgy Y * poly Y (z - Y * cc) ≤ 3/2 := by
      rcases sgy_c Y with h | h <;> rw [h] <;> constructor <;> grind
    constructor
    · exact Rat.le_of_mul_le_mul_left (show z * -13 ≤ z * TT (z * z) by grind) zp
    · exact Rat.le_of_mul_le_mul_left (show z * TT (z * z) ≤ z * 13 by grind) zp
/-- Taylor's at the program's square of pi. -/
theorem TT_14 {X : Rat} (h0 : 0 ≤ X) (h1 : X ≤ 4 + 1 / 1000000) : -14 ≤ TT (10851744800547 * (1099511627776 : Rat)⁻¹ * (X * X)) ∧ TT (10851744800547 * (1099511627776 : Rat)⁻¹ * (X * X)) ≤ 14 := by
  obtain ⟨k1, k2⟩ := pipi
  obtain ⟨z, hz⟩ : ∃ z, z = 884279719003555 / 281474976710656 * X := ⟨_, rfl⟩
  have x0 := sq_nonneg X
  have z0 := sq_nonneg z
  have xx := mulb (a := X) (b := X) (α := 4 + 1 / 1000000) (β := 4 + 1 / 1000000) ⟨by grind, h1⟩ ⟨by grind, h1⟩
  have s2 := mulb (a := (884279719003555 / 281474976710656 : Rat) * (884279719003555 / 281474976710656) - 10851744800547 * (1099511627776 : Rat)⁻¹) (b := X * X) (α := 1 / 1000000000000) (β := 17) ⟨by grind, k1⟩ ⟨by grind, by grind⟩
  have t := TT_13 (z := z) (by grind) (by grind)
  have ez : z * z = (884279719003555 / 281474976710656 : Rat) * (884279719003555 / 281474976710656) * (X * X) := by rw [hz]; grind
  have cx : 0 ≤ 10851744800547 * (1099511627776 : Rat)⁻¹ * (X * X) ∧ 10851744800547 * (1099511627776 : Rat)⁻¹ * (X * X) ≤ 160 := by constructor <;> grind
  have l := TT_lip (a := z * z) (b := 10851744800547 * (1099511627776 : Rat)⁻¹ * (X * X)) (d := 17 / 1000000000000) z0 (by grind) cx.1 cx.2 ⟨by grind, by grind⟩
  constructor <;> grind
end Go.Proofs.YtcfpfaakbomcnaaDoor.Fl

open Ieee
namespace Go.Proofs.YtcfpfaakbomcnaaDoor.Fl
theorem write_zero (e : Int) : double.write (.number false 0 e) = 0 := by show double.nearest false 0 e = 0; unfold Format.nearest; rw [if_pos rfl]; decide
theorem flo0 : flo 0 = 0 := by decide +kernel
theorem read0 : double.read 0 = .number false 0 (-1074) := by decide
theorem V0 : Fin 0 ∧ V 0 = 0 := ⟨⟨_, _, _, read0, by decide⟩, by unfold V; rw [read0]; simp [val]⟩
theorem zero_div {y : Nat} (hy : Fin y) (h : 0 < V y) : double.div 0 y = some 0 := by
  obtain ⟨s, m, p, e, hm⟩ := hy
  have ev : V y = sg s * (m * p2 p) := by unfold V; rw [e]; rfl
  rw [ev] at h
  have hm0 : m ≠ 0 := by
    intro c; subst c
    have z : ((0 : Nat) : Rat) = 0 := rfl
    rw [z] at h
    grind
  have hs : s = false := by
    cases s
    · rfl
    · have := Rat.mul_nonneg (show 0 ≤ (m : Rat) from Rat.natCast_nonneg) (Rat.le_of_lt (p2_pos p))
      simp only [sg] at h
      grind
  subst hs
  unfold Format.div
  rw [e, read0]
  unfold Datum.quotient
  dsimp only
  rw [if_neg hm0]
  have z1 : (0 : Nat) <<< (double.fractionBits + 2 + m.log2 - Nat.log2 0) = 0 := Nat.zero_shiftLeft _
  rw [z1, Nat.zero_div, Nat.zero_mod]
  exact congrArg some (write_zero _)
theorem p47 : p2 (-47) = ee := by
  have h := p2_inv 47 140737488355328 (by decide)
  have e : ((140737488355328 : Nat) : Rat) = 140737488355328 := rfl
  rw [e] at h
  unfold ee; grind
theorem floI (n : Int) (h : n.natAbs < 9007199254740992) : Fin (flo n) ∧ V (flo n) = n := ofInt n h
theorem c40 : Fin 4787326403894837248 ∧ V 4787326403894837248 = 1099511627776 := const_val (m := 4503599627370496) (n := 12) false (by decide +kernel) (by decide) (by simp [sg] <;> grind)
theorem c24 : Fin 4499096027743125504 ∧ V 4499096027743125504 = 1 / 16777216 := const_val (m := 4503599627370496) (n := 76) false (by decide +kernel) (by decide) (by simp [sg] <;> grind)
/-- The words of the law's real. -/
def RealW (x rl : Nat) : Prop := Fin x ∧ ((V x = 0 ∧ rl = 4607182418800017408) ∨ (V x ≠ 0 ∧ ∃ p r, double.mul 4614256656552045848 x = some p ∧ SinS p r ∧ double.div r p = some rl ∧ Fin p))
/-- A fraction's word. -/
theorem frac_word {p q : Int} (hq : 1 ≤ q) (hq2 : q ≤ 1048576) (h1 : -(4 * q) ≤ p) (h2 : p ≤ 4 * q) {P : Int} (hP : 0 ≤ P ∧ (P = p ∨ P = -p)) {X0 : Rat} (hX : (P : Rat) = X0 * q) :
    ∃ x, double.div (flo p) (flo q) = some x ∧ Fin x ∧ ((p = 0 ∧ x = 0 ∧ X0 = 0) ∨ (p ≠ 0 ∧ ∃ X, (V x = X ∨ V x = -X) ∧ 1 / 1050000 ≤ X ∧ X ≤ 4 + ee ∧ X - X0 ≤ ee ∧ X0 - X ≤ ee)) := by
  obtain ⟨e0, e1⟩ := ee_b
  have e14 := ee14
  have qp : 0 < (q : Rat) := Rat.intCast_pos.2 (by omega)
  obtain ⟨f1, f2⟩ := floI p (by omega)
  obtain ⟨f3, f4⟩ := floI q (by omega)
  by_cases c : p = 0
  · subst c
    have hP0 : P = 0 := by omega
    subst hP0
    refine ⟨0, by rw [flo0]; exact zero_div f3 (by rw [f4]; exact qp), V0.1, .inl ⟨rfl, rfl, ?_⟩⟩
    have z : ((0 : Int) : Rat) = 0 := rfl
    rw [z] at hX
    have : X0 * q * (q : Rat)⁻¹ = X0 := by rw [Rat.mul_assoc, Rat.mul_inv_cancel _ (by grind), Rat.mul_one]
    rw [← this, ← hX]; grind
  · have Pp : 1 ≤ P := by omega
    have x1 : 1 / 1048576 ≤ X0 := by
      refine Rat.le_of_mul_le_mul_right (c := (q : Rat)) ?_ qp
      have a1 : ((1 : Int) : Rat) ≤ (P : Rat) := Rat.intCast_le_intCast.2 Pp
      have a2 : (q : Rat) ≤ ((1048576 : Int) : Rat) := Rat.intCast_le_intCast.2 hq2
      have b1 : ((1 : Int) : Rat) = 1 := rfl
      have b2 : ((1048576 : Int) : Rat) = 1048576 := rfl
      rw [b1] at a1; rw [b2] at a2
      grind
    have x4 : X0 ≤ 4 := by
      refine Rat.le_of_mul_le_mul_right (c := (q : Rat)) ?_ qp
      have a1 : (P : Rat) ≤ ((4 * q : Int) : Rat) := Rat.intCast_le_intCast.2 (by omega)
      rw [Rat.intCast_mul] at a1
      have b1 : ((4 : Int) : Rat) = 4 := rfl
      rw [b1] at a1
      grind
    have hsg : ∃ sgn : Rat, (sgn = 1 ∨ sgn = -1) ∧ (p : Rat) = sgn * X0 * q := by
      rcases hP.2 with h | h
      · exact ⟨1, .inl rfl, by rw [← h, hX]; grind⟩
      · refine ⟨-1, .inr rfl, ?_⟩
        have : (p : Rat) = -(P : Rat) := by rw [h, Rat.intCast_neg]; grind
        rw [this, hX]; grind
    obtain ⟨sgn, hs, hp⟩ := hsg
    have q3 : p2 4 = 16 := p2_num 4 16 (by decide)
    obtain ⟨x, d1, d2, d3⟩ := div_near f1 f3 4 (by decide) (by decide) (sgn * X0) (by rw [f2, f4]; exact hp) (by rw [f4]; grind) (by rcases hs with h | h <;> rw [h] <;> constructor <;> grind)
    rw [show (4 : Int) - 51 = -47 by decide, p47] at d3
    unfold Near at d3
    refine ⟨x, d1, d2, .inr ⟨c, ?_⟩⟩
    rcases hs with h | h
    · rw [h] at d3
      exact ⟨V x, .inl rfl, by grind, by grind, by grind, by grind⟩
    · rw [h] at d3
      exact ⟨-V x, .inr (by grind), by grind, by grind, by grind, by grind⟩
theorem near_chain {p q : Int} (hq : 1 ≤ q) (hq2 : q ≤ 1048576) (h1 : -(4 * q) ≤ p) (h2 : p ≤ 4 * q) {P : Int} (hP : 0 ≤ P ∧ (P = p ∨ P = -p)) :
    ∃ s x rl d o, double.div (flo (serS (serU P q) 30)) 4787326403894837248 = some s ∧ double.div (flo p) (flo q) = some x ∧ RealW x rl ∧ double.sub s rl = some d ∧ double.order (d % 9223372036854775808) 4499096027743125504 = some o ∧ o ≠ .gt := by
  obtain ⟨e0, e1⟩ := ee_b
  have e14 := ee14
  have qp : 0 < (q : Rat) := Rat.intCast_pos.2 (by omega)
  obtain ⟨X0, hX0⟩ : ∃ X0, X0 = (P : Rat) * (q : Rat)⁻¹ := ⟨_, rfl⟩
  have hX : (P : Rat) = X0 * q := by rw [hX0, Rat.mul_assoc, Rat.inv_mul_cancel _ (by grind), Rat.mul_one]
  have sn := sinc_near (p := P) hq (by omega) hP.1 (by omega) hX
  have x0 : 0 ≤ X0 := by
    refine Rat.le_of_mul_le_mul_right (c := (q : Rat)) ?_ qp
    rw [← hX]
    have := Rat.intCast_nonneg.2 hP.1
    grind
  have x4 : X0 ≤ 4 := by
    refine Rat.le_of_mul_le_mul_right (c := (q : Rat)) ?_ qp
    have a1 : (P : Rat) ≤ ((4 * q : Int) : Rat) := Rat.intCast_le_intCast.2 (by omega)
    rw [Rat.intCast_mul] at a1
    have b1 : ((4 : Int) : Rat) = 4 := rfl
    rw [b1] at a1
    grind
  have t14 := TT_14 x0 (show X0 ≤ 4 + 1 / 1000000 by grind)
  obtain ⟨x, d1, d2, d3⟩ := frac_word hq hq2 h1 h2 hP hX
  generalize serS (serU P q) 30 = S at sn ⊢
  obtain ⟨T, hT⟩ : ∃ T, T = TT (10851744800547 * (1099511627776 : Rat)⁻¹ * (X0 * X0)) := ⟨_, rfl⟩
  rw [← hT] at sn t14
  have sb : S.natAbs < 9007199254740992 := by
    have a1 : (S : Rat) ≤ ((9007199254740991 : Int) : Rat) := by rw [show ((9007199254740991 : Int) : Rat) = 9007199254740991 from rfl]; grind
    have a2 : ((-9007199254740991 : Int) : Rat) ≤ (S : Rat) := by rw [show ((-9007199254740991 : Int) : Rat) = -9007199254740991 from rfl]; grind
    have := Rat.intCast_le_intCast.1 a1
    have := Rat.intCast_le_intCast.1 a2
    omega
  obtain ⟨s1, s2⟩ := floI S sb
  have q4 : p2 4 = 16 := p2_num 4 16 (by decide)
  have cI : (1099511627776 : Rat)⁻¹ * 1099511627776 = 1 := by grind
  obtain ⟨s, g1, g2, g3⟩ := div_near s1 c40.1 4 (by decide) (by decide) ((S : Rat) * (1099511627776 : Rat)⁻¹) (by rw [s2, c40.2]; grind) (by rw [c40.2]; grind) (by constructor <;> grind)
  rw [show (4 : Int) - 51 = -47 by decide, p47] at g3
  unfold Near at g3
  have sT : V s - T ≤ 1 / 500000000 ∧ T - V s ≤ 1 / 500000000 := by constructor <;> grind
  have rl : ∃ rl, RealW x rl ∧ Fin rl ∧ V rl - T ≤ 1 / 25000000 ∧ T - V rl ≤ 1 / 25000000 := by
    rcases d3 with ⟨hp, hx, hX00⟩ | ⟨hp, X, hx, b1, b2, b3, b4⟩
    · refine ⟨4607182418800017408, ⟨d2, .inl ⟨by rw [hx]; exact V0.2, rfl⟩⟩, c1.1, ?_, ?_⟩
      · rw [c1.2, hT, hX00]
        have : 10851744800547 * (1099511627776 : Rat)⁻¹ * (0 * 0) = 0 := by grind
        rw [this, TT0]; grind
      · rw [c1.2, hT, hX00]
        have : 10851744800547 * (1099511627776 : Rat)⁻¹ * (0 * 0) = 0 := by grind
        rw [this, TT0]; grind
    · obtain ⟨pp, r, rl, m1, m2, m3, m4, m5, m6, m7⟩ := real_near d2 (X := X) (by grind) (by grind) hx
      have xx := mulb (a := X - X0) (b := X + X0) (α := ee) (β := 9) ⟨by grind, b3⟩ ⟨by grind, by grind⟩
      have w1 := sq_nonneg X
      have w2 := sq_nonneg X0
      have y1 := mulb (a := X) (b := X) (α := 4 + ee) (β := 4 + ee) ⟨by grind, b2⟩ ⟨by grind, b2⟩
      have y2 := mulb (a := X0) (b := X0) (α := 4) (β := 4) ⟨by grind, x4⟩ ⟨by grind, x4⟩
      have ee2 : ee * ee ≤ ee := by have := Rat.mul_le_mul_of_nonneg_right (show ee ≤ 1 by grind) e0; grind
      have l := TT_lip (a := 10851744800547 * (1099511627776 : Rat)⁻¹ * (X * X)) (b := 10851744800547 * (1099511627776 : Rat)⁻¹ * (X0 * X0)) (d := 90 * ee) (by grind) (by grind) (by grind) (by grind) ⟨by grind, by grind⟩
      rw [← hT] at l
      refine ⟨rl, ⟨d2, .inr ⟨by rcases hx with h | h <;> rw [h] <;> grind, pp, r, m1, m2, m3, m4⟩⟩, m5, ?_, ?_⟩ <;> grind
  obtain ⟨rl, r1, r2, r3, r4⟩ := rl
  obtain ⟨d, k1, k2, k3, k4⟩ := subE g2 r2 (by constructor <;> grind)
  obtain ⟨a1, a2, a3⟩ := abs_word k2
  obtain ⟨o, o1, o2, o3, o4⟩ := order_num a1 c24.1
  refine ⟨s, x, rl, d, o, g1, d1, r1, k1, o1, fun h => ?_⟩
  have := o4.1 h
  rw [c24.2] at this
  rcases a3 with h | h <;> rw [h] at this <;> grind
end Go.Proofs.YtcfpfaakbomcnaaDoor.Fl

open Ieee
namespace Go.Proofs.YtcfpfaakbomcnaaDoor.Fl
theorem pP_b {v : Rat} (vb : -(3/4) ≤ v ∧ v ≤ 3/4) : ∀ b0 b1 b2 b3 b4 b5 : Rat, ((-1/100 ≤ b0 ∧ b0 ≤ 1/100) ∧ (-1/100 ≤ b1 ∧ b1 ≤ 1/100) ∧ (-1/100 ≤ b2 ∧ b2 ≤ 1/100) ∧ (-1/100 ≤ b3 ∧ b3 ≤ 1/100) ∧ (-1/100 ≤ b4 ∧ b4 ≤ 1/100) ∧ (-1/5 ≤ b5 ∧ b5 ≤ 1/5)) → -(1/4) ≤ (((((b0 * v + b1) * v + b2) * v + b3) * v + b4) * v + b5) ∧ (((((b0 * v + b1) * v + b2) * v + b3) * v + b4) * v + b5) ≤ 1/4 := by
  intro b0 b1 b2 b3 b4 b5 ⟨B0, B1, B2, B3, B4, B5⟩
  have m0 := mulb (a := b0) (b := v) (α := 1/100) (β := 3/4) ⟨by grind, by grind⟩ vb
  obtain ⟨P1, hP1⟩ : ∃ P, P = b0 * v + b1 := ⟨_, rfl⟩
  have m1 := mulb (a := P1) (b := v) (α := 1/20) (β := 3/4) ⟨by grind, by grind⟩ vb
  obtain ⟨P2, hP2⟩ : ∃ P, P = P1 * v + b2 := ⟨_, rfl⟩
  have m2 := mulb (a := P2) (b := v) (α := 1/20) (β := 3/4) ⟨by grind, by grind⟩ vb
  obtain ⟨P3, hP3⟩ : ∃ P, P = P2 * v + b3 := ⟨_, rfl⟩
  have m3 := mulb (a := P3) (b := v) (α := 1/20) (β := 3/4) ⟨by grind, by grind⟩ vb
  obtain ⟨P4, hP4⟩ : ∃ P, P = P3 * v + b4 := ⟨_, rfl⟩
  have m4 := mulb (a := P4) (b := v) (α := 1/20) (β := 3/4) ⟨by grind, by grind⟩ vb
  rw [← hP1, ← hP2, ← hP3, ← hP4]
  constructor <;> grind
theorem TT_2 {z : Rat} (h0 : 0 ≤ z) (h1 : z ≤ 63 / 5) : -2 ≤ TT (z * z) ∧ TT (z * z) ≤ 2 := by
  by_cases c : z = 0
  · have e : z * z = 0 := by rw [c]; grind
    rw [e, TT0]; constructor <;> grind
  have zp : 0 < z := by grind
  obtain ⟨Y, hY, h16, b0, b1⟩ := octant h0 h1
  by_cases cY : Y = 0
  · subst cY
    have e0 : z - ((0 : Nat) : Rat) * cc = z := by simp; grind
    rw [e0] at b0 b1
    have tc := tau_cc
    have qp := Q_pos
    have q2 := Rat.mul_le_mul_of_nonneg_left b1 (Rat.le_of_lt qp)
    have o := oct_zero h0 (by grind)
    have v0 := sq_nonneg z
    have zz := mulb (a := z) (b := z) (α := 7857 / 10000) (β := 7857 / 10000) ⟨by grind, b1⟩ ⟨by grind, b1⟩
    have k := pP_b (v := z * z) ⟨by grind, by grind⟩ _ _ _ _ _ _ sB
    unfold sinR at o
    generalize (((((s0 * (z * z) + s1) * (z * z) + s2) * (z * z) + s3) * (z * z) + s4) * (z * z) + s5) = P at k o
    have vP := mulb (a := z * z) (b := P) (α := 3/4) (β := 1/4) ⟨by grind, by grind⟩ k
    have zv := mulb (a := z) (b := z * z * P) (α := z) (β := 3/4 * (1/4)) ⟨by grind, by grind⟩ vP
    constructor
    · exact Rat.le_of_mul_le_mul_left (show z * -2 ≤ z * TT (z * z) by grind) zp
    · exact Rat.le_of_mul_le_mul_left (show z * TT (z * z) ≤ z * 2 by grind) zp
  · have o := oct_all hY h16 ⟨b0, b1⟩ h0
    have pa := poly_abs (Y := Y) ⟨b0, b1⟩
    obtain ⟨k1, k2⟩ := cc_b
    have Y2 : ((2 : Nat) : Rat) ≤ (Y : Rat) := Rat.natCast_le_natCast.2 (by omega)
    have e2 : ((2 : Nat) : Rat) = 2 := rfl
    rw [e2] at Y2
    have yc := Rat.mul_le_mul_of_nonneg_right Y2 (show 0 ≤ cc by grind)
    have zb : 785 / 1000 ≤ z := by grind
    have s : -(3/2) ≤ sgy Y * poly Y (z - Y * cc) ∧ sgy Y * poly Y (z - Y * cc) ≤ 3/2 := by
      rcases sgy_c Y with h | h <;> rw [h] <;> constructor <;> grind
    constructor
    · exact Rat.le_of_mul_le_mul_left (show z * -2 ≤ z * TT (z * z) by grind) zp
    · exact Rat.le_of_mul_le_mul_left (show z * TT (z * z) ≤ z * 2 by grind) zp
theorem TT_21 {X : Rat} (h0 : 0 ≤ X) (h1 : X ≤ 4 + 1 / 1000000) : -(21/10) ≤ TT (10851744800547 * (1099511627776 : Rat)⁻¹ * (X * X)) ∧ TT (10851744800547 * (1099511627776 : Rat)⁻¹ * (X * X)) ≤ 21/10 := by
  obtain ⟨k1, k2⟩ := pipi
  obtain ⟨z, hz⟩ : ∃ z, z = 884279719003555 / 281474976710656 * X := ⟨_, rfl⟩
  have x0 := sq_nonneg X
  have z0 := sq_nonneg z
  have xx := mulb (a := X) (b := X) (α := 4 + 1 / 1000000) (β := 4 + 1 / 1000000) ⟨by grind, h1⟩ ⟨by grind, h1⟩
  have s2 := mulb (a := (884279719003555 / 281474976710656 : Rat) * (884279719003555 / 281474976710656) - 10851744800547 * (1099511627776 : Rat)⁻¹) (b := X * X) (α := 1 / 1000000000000) (β := 17) ⟨by grind, k1⟩ ⟨by grind, by grind⟩
  have t := TT_2 (z := z) (by grind) (by grind)
  have ez : z * z = (884279719003555 / 281474976710656 : Rat) * (884279719003555 / 281474976710656) * (X * X) := by rw [hz]; grind
  have cx : 0 ≤ 10851744800547 * (1099511627776 : Rat)⁻¹ * (X * X) ∧ 10851744800547 * (1099511627776 : Rat)⁻¹ * (X * X) ≤ 160 := by constructor <;> grind
  have l := TT_lip (a := z * z) (b := 10851744800547 * (1099511627776 : Rat)⁻¹ * (X * X)) (d := 17 / 1000000000000) z0 (by grind) cx.1 cx.2 ⟨by grind, by grind⟩
  constructor <;> grind
theorem real_frac {x : Nat} {X0 : Rat} (d2 : Fin x) (x0 : 0 ≤ X0) (x4 : X0 ≤ 4) (d3 : (V x = 0 ∧ X0 = 0) ∨ ∃ X, (V x = X ∨ V x = -X) ∧ 1 / 3200000 ≤ X ∧ X - X0 ≤ 2 * ee ∧ X0 - X ≤ 2 * ee) :
    ∃ rl, RealW x rl ∧ Fin rl ∧ V rl - TT (10851744800547 * (1099511627776 : Rat)⁻¹ * (X0 * X0)) ≤ 1 / 25000000 ∧ TT (10851744800547 * (1099511627776 : Rat)⁻¹ * (X0 * X0)) - V rl ≤ 1 / 25000000 := by
  obtain ⟨e0, e1⟩ := ee_b
  have e14 := ee14
  rcases d3 with ⟨hx, hX00⟩ | ⟨X, hx, b1, b3, b4⟩
  · have : 10851744800547 * (1099511627776 : Rat)⁻¹ * (0 * 0) = 0 := by grind
    refine ⟨4607182418800017408, ⟨d2, .inl ⟨hx, rfl⟩⟩, c1.1, ?_, ?_⟩ <;> rw [c1.2, hX00, this, TT0] <;> grind
  · obtain ⟨pp, r, rl, m1, m2, m3, m4, m5, m6, m7⟩ := real_near d2 (X := X) (by grind) (by grind) hx
    have xx := mulb (a := X - X0) (b := X + X0) (α := 2 * ee) (β := 9) ⟨by grind, b3⟩ ⟨by grind, by grind⟩
    have w1 := sq_nonneg X
    have w2 := sq_nonneg X0
    have y1 := mulb (a := X) (b := X) (α := 4 + 2 * ee) (β := 4 + 2 * ee) ⟨by grind, by grind⟩ ⟨by grind, by grind⟩
    have y2 := mulb (a := X0) (b := X0) (α := 4) (β := 4) ⟨by grind, x4⟩ ⟨by grind, x4⟩
    have ee2 : ee * ee ≤ ee := by have := Rat.mul_le_mul_of_nonneg_right (show ee ≤ 1 by grind) e0; grind
    have l := TT_lip (a := 10851744800547 * (1099511627776 : Rat)⁻¹ * (X * X)) (b := 10851744800547 * (1099511627776 : Rat)⁻¹ * (X0 * X0)) (d := 180 * ee) (by grind) (by grind) (by grind) (by grind) ⟨by grind, by grind⟩
    refine ⟨rl, ⟨d2, .inr ⟨by rcases hx with h | h <;> rw [h] <;> grind, pp, r, m1, m2, m3, m4⟩⟩, m5, ?_, ?_⟩ <;> grind
end Go.Proofs.YtcfpfaakbomcnaaDoor.Fl

open Ieee
namespace Go.Proofs.YtcfpfaakbomcnaaDoor.Fl
theorem c3 : Fin 4613937818241073152 ∧ V 4613937818241073152 = 3 := const_val (m := 6755399441055744) (n := 51) false (by decide +kernel) (by decide) (by simp [sg] <;> grind)
theorem c20 : Fin 4517110426252607488 ∧ V 4517110426252607488 = 1 / 1048576 := const_val (m := 4503599627370496) (n := 72) false (by decide +kernel) (by decide) (by simp [sg] <;> grind)
/-- A whole number's word over a power of two. -/
theorem lan_chain {p q M L : Int} (hq : 1 ≤ q) (hq2 : q ≤ 1048576) (h1 : -(3 * q) < p) (h2 : p < 3 * q) {P : Int} (hP : 0 ≤ P ∧ (P = p ∨ P = -p))
    (hM : M * 1099511627776 - serS (serU P q) 30 * serS (serU P (3 * q)) 30 ≤ 1099511627776 ∧ serS (serU P q) 30 * serS (serU P (3 * q)) 30 - M * 1099511627776 ≤ 1099511627776) (hL : L * 1024 - M ≤ 1024 ∧ M - L * 1024 ≤ 1024) :
    ∃ w x y r1 r2 m d o, double.div (flo L) 4742290407621132288 = some w ∧ double.div (flo p) (flo q) = some x ∧ RealW x r1 ∧ double.div x 4613937818241073152 = some y ∧ RealW y r2 ∧ double.mul r1 r2 = some m ∧ double.sub w m = some d ∧ double.order (d % 9223372036854775808) 4517110426252607488 = some o ∧ o ≠ .gt := by
  obtain ⟨e0, e1⟩ := ee_b
  have e14 := ee14
  have qp : 0 < (q : Rat) := Rat.intCast_pos.2 (by omega)
  obtain ⟨X0, hX0⟩ : ∃ X0, X0 = (P : Rat) * (q : Rat)⁻¹ := ⟨_, rfl⟩
  have hX : (P : Rat) = X0 * q := by rw [hX0, Rat.mul_assoc, Rat.inv_mul_cancel _ (by grind), Rat.mul_one]
  have h3 : ((3 : Int) : Rat) = 3 := rfl
  have hX3 : (P : Rat) = (X0 * (1 / 3)) * ((3 * q : Int) : Rat) := by rw [Rat.intCast_mul, h3, hX]; grind
  have sn1 := sinc_near (p := P) hq (by omega) hP.1 (by omega) hX
  have sn2 := sinc_near (p := P) (q := 3 * q) (by omega) (by omega) hP.1 (by omega) hX3
  have x0 : 0 ≤ X0 := by
    refine Rat.le_of_mul_le_mul_right (c := (q : Rat)) ?_ qp
    rw [← hX]
    have := Rat.intCast_nonneg.2 hP.1
    grind
  have x4 : X0 ≤ 3 := by
    refine Rat.le_of_mul_le_mul_right (c := (q : Rat)) ?_ qp
    have a1 : (P : Rat) ≤ ((3 * q : Int) : Rat) := Rat.intCast_le_intCast.2 (by omega)
    rw [Rat.intCast_mul] at a1
    rw [h3] at a1
    grind
  have t1 := TT_21 x0 (show X0 ≤ 4 + 1 / 1000000 by grind)
  have t2 := TT_21 (X := X0 * (1 / 3)) (by grind) (show X0 * (1 / 3) ≤ 4 + 1 / 1000000 by grind)
  obtain ⟨x, d1, d2, d3⟩ := frac_word hq hq2 (by omega) (by omega) hP hX
  generalize serS (serU P q) 30 = S1 at sn1 hM
  generalize serS (serU P (3 * q)) 30 = S2 at sn2 hM
  obtain ⟨r1, g1, g2, g3⟩ := real_frac (X0 := X0) d2 x0 (by grind) (by
    rcases d3 with ⟨_, b, c⟩ | ⟨_, X, b1, b2, b3, b4, b5⟩
    · exact .inl ⟨by rw [b]; exact V0.2, c⟩
    · exact .inr ⟨X, b1, by grind, by grind, by grind⟩)
  have hy : ∃ y, double.div x 4613937818241073152 = some y ∧ Fin y ∧ ((V y = 0 ∧ X0 * (1 / 3) = 0) ∨ ∃ X, (V y = X ∨ V y = -X) ∧ 1 / 3200000 ≤ X ∧ X - X0 * (1 / 3) ≤ 2 * ee ∧ X0 * (1 / 3) - X ≤ 2 * ee) := by
    rcases d3 with ⟨_, b, c⟩ | ⟨_, X, b1, b2, b3, b4, b5⟩
    · rw [b]
      exact ⟨0, zero_div c3.1 (by rw [c3.2]; grind), V0.1, .inl ⟨V0.2, by rw [c]; grind⟩⟩
    · have q3 : p2 4 = 16 := p2_num 4 16 (by decide)
      obtain ⟨y, a1, a2, a3⟩ := div_near d2 c3.1 4 (by decide) (by decide) (V x * (1 / 3)) (by rw [c3.2]; grind) (by rw [c3.2]; grind) (by rcases b1 with h | h <;> rw [h] <;> constructor <;> grind)
      rw [show (4 : Int) - 51 = -47 by decide, p47] at a3
      unfold Near at a3
      refine ⟨y, a1, a2, .inr ?_⟩
      rcases b1 with h | h
      · rw [h] at a3
        exact ⟨V y, .inl rfl, by grind, by grind, by grind⟩
      · rw [h] at a3
        exact ⟨-V y, .inr (by grind), by grind, by grind, by grind⟩
  obtain ⟨y, y1, y2, y3⟩ := hy
  obtain ⟨r2, k1, k2, k3⟩ := real_frac (X0 := X0 * (1 / 3)) y2 (by grind) (by grind) y3
  obtain ⟨T1, hT1⟩ : ∃ T, T = TT (10851744800547 * (1099511627776 : Rat)⁻¹ * (X0 * X0)) := ⟨_, rfl⟩
  obtain ⟨T2, hT2⟩ : ∃ T, T = TT (10851744800547 * (1099511627776 : Rat)⁻¹ * (X0 * (1 / 3) * (X0 * (1 / 3)))) := ⟨_, rfl⟩
  rw [← hT1] at sn1 t1 g3
  rw [← hT2] at sn2 t2 k3
  clear hT1 hT2 d3 y3
  have cI : (1099511627776 : Rat)⁻¹ * 1099511627776 = 1 := by grind
  obtain ⟨a, ha⟩ : ∃ a, a = (S1 : Rat) * (1099511627776 : Rat)⁻¹ := ⟨_, rfl⟩
  obtain ⟨b, hb⟩ : ∃ b, b = (S2 : Rat) * (1099511627776 : Rat)⁻¹ := ⟨_, rfl⟩
  have ea : (S1 : Rat) = a * 1099511627776 := by rw [ha]; grind
  have eb : (S2 : Rat) = b * 1099511627776 := by rw [hb]; grind
  rw [ea] at sn1
  rw [eb] at sn2
  have na : a - T1 ≤ 2 / 1000000000 ∧ T1 - a ≤ 2 / 1000000000 := by constructor <;> grind
  have nb : b - T2 ≤ 2 / 1000000000 ∧ T2 - b ≤ 2 / 1000000000 := by constructor <;> grind
  have m1 : (M : Rat) * 1099511627776 - a * 1099511627776 * (b * 1099511627776) ≤ 1099511627776 ∧ a * 1099511627776 * (b * 1099511627776) - (M : Rat) * 1099511627776 ≤ 1099511627776 := by
    have i1 := Rat.intCast_le_intCast.2 hM.1
    have i2 := Rat.intCast_le_intCast.2 hM.2
    rw [Rat.intCast_sub, Rat.intCast_mul, Rat.intCast_mul, ea, eb, show ((1099511627776 : Int) : Rat) = 1099511627776 from rfl] at i1 i2
    exact ⟨i1, i2⟩
  have l1 : (L : Rat) * 1024 - M ≤ 1024 ∧ (M : Rat) - L * 1024 ≤ 1024 := by
    have i1 := Rat.intCast_le_intCast.2 hL.1
    have i2 := Rat.intCast_le_intCast.2 hL.2
    rw [Rat.intCast_sub, Rat.intCast_mul, show ((1024 : Int) : Rat) = 1024 from rfl] at i1 i2
    exact ⟨i1, i2⟩
  have ab := pnear (a := a) (A := T1) (b := b) (B := T2) (e := 2 / 1000000000) (f := 2 / 1000000000) (α := 21/10) (β := 22/10) na nb ⟨by grind, by grind⟩ t1
  have rr := pnear (a := V r1) (A := T1) (b := V r2) (B := T2) (e := 1 / 25000000) (f := 1 / 25000000) (α := 21/10) (β := 22/10) g3 k3 ⟨by grind, by grind⟩ t1
  have tt := mulb t1 t2
  have lw : (L : Rat) * (1 / 1073741824) - a * b ≤ 1 / 100000000 ∧ a * b - (L : Rat) * (1 / 1073741824) ≤ 1 / 100000000 := by constructor <;> grind
  have lb : L.natAbs < 9007199254740992 := by
    have a1 : (L : Rat) ≤ ((9007199254740991 : Int) : Rat) := by rw [show ((9007199254740991 : Int) : Rat) = 9007199254740991 from rfl]; grind
    have a2 : ((-9007199254740991 : Int) : Rat) ≤ (L : Rat) := by rw [show ((-9007199254740991 : Int) : Rat) = -9007199254740991 from rfl]; grind
    have := Rat.intCast_le_intCast.1 a1
    have := Rat.intCast_le_intCast.1 a2
    omega
  obtain ⟨s1, s2⟩ := floI L lb
  have q4 : p2 4 = 16 := p2_num 4 16 (by decide)
  obtain ⟨w, w1, w2, w3⟩ := div_near s1 c30.1 4 (by decide) (by decide) ((L : Rat) * (1 / 1073741824)) (by rw [s2, c30.2]; grind) (by rw [c30.2]; grind) (by constructor <;> grind)
  rw [show (4 : Int) - 51 = -47 by decide, p47] at w3
  unfold Near at w3
  obtain ⟨m, n1, n2, n3, n4⟩ := mulE g2 k2 (by constructor <;> grind)
  obtain ⟨d, o1, o2, o3, o4⟩ := subE w2 n2 (by constructor <;> grind)
  obtain ⟨a1, a2, a3⟩ := abs_word o2
  obtain ⟨o, u1, u2, u3, u4⟩ := order_num a1 c20.1
  refine ⟨w, x, y, r1, r2, m, d, o, w1, d1, g1, y1, k1, n1, o1, u1, fun h => ?_⟩
  have := u4.1 h
  rw [c20.2] at this
  rcases a3 with h | h <;> rw [h] at this <;> grind
end Go.Proofs.YtcfpfaakbomcnaaDoor.Fl

open Ieee
namespace Go.Proofs.YtcfpfaakbomcnaaDoor.Fl
theorem c29 : Fin 4737786807993761792 ∧ V 4737786807993761792 = 536870912 := const_val (m := 4503599627370496) (n := 23) false (by decide +kernel) (by decide) (by simp [sg] <;> grind)
theorem cMax : Fin 9218868437227405311 ∧ 64 ≤ V 9218868437227405311 := by
  have e : double.read 9218868437227405311 = .number false 9007199254740991 971 := by decide +kernel
  refine ⟨⟨_, _, _, e, by decide⟩, ?_⟩
  unfold V
  rw [e]
  have h := p2_one_le (n := 971) (by decide)
  simp only [val, sg]
  have e2 : ((9007199254740991 : Nat) : Rat) = 9007199254740991 := rfl
  rw [e2]
  grind
end Go.Proofs.YtcfpfaakbomcnaaDoor.Fl

open Ieee
namespace Go.Proofs.YtcfpfaakbomcnaaDoor.Fl
/-- A series' sum is small. -/
theorem ser_bound {p q : Int} (hq : 1 ≤ q) (hq2 : q ≤ 4194304) (hp : 0 ≤ p) (hp2 : p ≤ 4 * q) : -3298534883328 ≤ serS (serU p q) 30 ∧ serS (serU p q) 30 ≤ 3298534883328 := by
  have qp : 0 < (q : Rat) := Rat.intCast_pos.2 (by omega)
  obtain ⟨X0, hX0⟩ : ∃ X0, X0 = (p : Rat) * (q : Rat)⁻¹ := ⟨_, rfl⟩
  have hX : (p : Rat) = X0 * q := by rw [hX0, Rat.mul_assoc, Rat.inv_mul_cancel _ (by grind), Rat.mul_one]
  have sn := sinc_near hq hq2 hp hp2 hX
  have x0 : 0 ≤ X0 := by
    refine Rat.le_of_mul_le_mul_right (c := (q : Rat)) ?_ qp
    rw [← hX]
    have := Rat.intCast_nonneg.2 hp
    grind
  have x4 : X0 ≤ 4 := by
    refine Rat.le_of_mul_le_mul_right (c := (q : Rat)) ?_ qp
    have a1 : (p : Rat) ≤ ((4 * q : Int) : Rat) := Rat.intCast_le_intCast.2 (by omega)
    rw [Rat.intCast_mul] at a1
    rw [show ((4 : Int) : Rat) = 4 from rfl] at a1
    grind
  have t := TT_21 x0 (by grind)
  generalize serS (serU p q) 30 = S at sn
  generalize TT (10851744800547 * (1099511627776 : Rat)⁻¹ * (X0 * X0)) = T at sn t
  have a1 : (S : Rat) ≤ ((3298534883328 : Int) : Rat) := by rw [show ((3298534883328 : Int) : Rat) = 3298534883328 from rfl]; grind
  have a2 : ((-3298534883328 : Int) : Rat) ≤ (S : Rat) := by rw [show ((-3298534883328 : Int) : Rat) = -3298534883328 from rfl]; grind
  exact ⟨Rat.intCast_le_intCast.1 a2, Rat.intCast_le_intCast.1 a1⟩
end Go.Proofs.YtcfpfaakbomcnaaDoor.Fl

namespace Go.Proofs.YtcfpfaakbomcnaaDoor.QA
open Go.RowKit Go.Proofs.YtcfpfaakbomcnaaDoorW.PrintWords Go.Proofs.YtcfpfaakbomcnaaDoorW.PrintLast Go.Proofs.YtcfpfaakbomcnaaDoorW.PrintMore Go.Proofs.YtcfpfaakbomcnaaDoor.T
set_option linter.unusedVariables false
set_option linter.unusedSimpArgs false
/-- What the sine's tables hold. -/
def SinTab (w : World) : Prop := (w.cell? ⟨2, 0, none⟩ = some (.float .f64 4460209587652500685) ∧ w.cell? ⟨2, 1, none⟩ = some (.float .f64 13716528389658582877) ∧ w.cell? ⟨2, 2, none⟩ = some (.float .f64 4523617212962785441) ∧ w.cell? ⟨2, 3, none⟩ = some (.float .f64 13774824197404483331) ∧ w.cell? ⟨2, 4, none⟩ = some (.float .f64 4575957461383575504) ∧ w.cell? ⟨2, 5, none⟩ = some (.float .f64 13818544856648471880)) ∧
  (w.cell? ⟨1, 0, none⟩ = some (.float .f64 13666448263388469915) ∧ w.cell? ⟨1, 1, none⟩ = some (.float .f64 4477121864728985349) ∧ w.cell? ⟨1, 2, none⟩ = some (.float .f64 13732177093698800582) ∧ w.cell? ⟨1, 3, none⟩ = some (.float .f64 4537941361668146421) ∧ w.cell? ⟨1, 4, none⟩ = some (.float .f64 13787419979223748497) ∧ w.cell? ⟨1, 5, none⟩ = some (.float .f64 4586165620538955083))
theorem f64bits_call (b : Nat) (w : World) : (callFunc 14 #[.float .f64 b]).run Tryd.prog w = .ok (.value (.int .u64 b)) w := by
  rw [run_callFunc_extern Tryd.func14 (by kernel_rfl) (by kernel_rfl) (by kernel_rfl) (e := Extern.MathFloatBits.float64bits) (by kernel_rfl)]; rfl
theorem f64from_call (n : Int) (w : World) : (callFunc 13 #[.int .u64 n]).run Tryd.prog w = .ok (.value (.float .f64 n.toNat)) w := by
  rw [run_callFunc_extern Tryd.func13 (by kernel_rfl) (by kernel_rfl) (by kernel_rfl) (e := Extern.MathFloatBits.float64frombits) (by kernel_rfl)]; rfl
theorem clear_sign (b : Nat) (hb : b < 18446744073709551616) : (Go.bits .andNot .u64 (b : Int) 9223372036854775808).toNat = b % 9223372036854775808 := by
  rw [u64_andNot _ _ (by omega) (by omega) (by decide) (by decide)]
  rw [Int.toNat_natCast, Int.toNat_natCast]
  exact Nat.and_two_pow_sub_one_eq_mod b 63
set_option maxHeartbeats 1000000 in
set_option maxRecDepth 100000 in
theorem abs_calls (b : Nat) (hb : b < 18446744073709551616) (w : World) : Calls Tryd.prog 8 #[.float .f64 b] w fun e w' => e = .returned (.float .f64 (b % 9223372036854775808)) ∧ w = w' := by
  have H := Aside0.mk (clear_sign b hb)
  clear hb
  go_enter Tryd.func8, Tryd.ntmps8
  go_wp2_with (simp only [f64bits_call, f64from_call])
  go_ret
  exact ⟨by rw [H.out]; rfl, rfl⟩
/-- What a chain of operations asks of the model. -/
def BinF (op : BinOp) (x y r : Nat) : Prop := ∀ t w, (binOp op t (.float .f64 x) (.float .f64 y)).run Tryd.prog w = .ok (.float .f64 r) w
theorem binF {op : BinOp} {x y r : Nat} (h : floatBits op .f64 x y = some r) : BinF op x y r := fun t w => run_float_arith w op t .f64 x y r h
theorem f_lt {op : BinOp} {x y r : Nat} (h : floatBits op .f64 x y = some r) : r < 18446744073709551616 := by
  have := floatBits_wf h
  simpa [Lit.wf] using this
set_option maxHeartbeats 1000000 in
set_option maxRecDepth 100000 in
theorem isNaN_calls (b : Nat) (h : Ieee.double.order b b = some .eq) (w : World) : Calls Tryd.prog 29 #[.float .f64 b] w fun e w' => e = .returned (.bool false) ∧ w' = w := by
  have h1 : FloatKind.f64.format.order b b = some .eq := h
  have h2 : (FloatKind.f64.format.order b b != some .eq) = false := by rw [h1]; rfl
  have h3 : (FloatKind.f64.format.order b b == some .eq) = true := by rw [h1]; rfl
  clear h
  go_enter Tryd.func29, Tryd.ntmps29
  go_wp2
  go_ret
  exact ⟨rfl, rfl⟩
set_option maxHeartbeats 1000000 in
set_option maxRecDepth 100000 in
theorem isInf_calls (b : Nat) (hb : b < 18446744073709551616) (h : Ieee.double.order (b % 9223372036854775808) 9218868437227405311 = some .lt) (w : World) : Calls Tryd.prog 30 #[.float .f64 b, .int .i64 0] w fun e w' => e = .returned (.bool false) ∧ w' = w := by
  have AB := Aside0.mk (abs_calls b hb)
  have h2 : (FloatKind.f64.format.order (b % 9223372036854775808) 9218868437227405311 == some .gt) = false := by
    rw [show FloatKind.f64.format.order (b % 9223372036854775808) 9218868437227405311 = some .lt from h]; rfl
  obtain ⟨a, ha⟩ : ∃ a, a = b % 9223372036854775808 := ⟨_, rfl⟩
  rw [← ha] at AB h2
  clear h ha hb
  go_enter Tryd.func30, Tryd.ntmps30
  go_wp2_with (go_at_call 8; (with_reducible refine (AB.out _).mono ?_); rintro e w' ⟨rfl, rfl⟩)
  go_ret
  exact ⟨rfl, rfl⟩
end Go.Proofs.YtcfpfaakbomcnaaDoor.QA

namespace Go.Proofs.YtcfpfaakbomcnaaDoor.QA
open Go.RowKit Go.Proofs.YtcfpfaakbomcnaaDoorW.PrintWords Go.Proofs.YtcfpfaakbomcnaaDoorW.PrintLast Go.Proofs.YtcfpfaakbomcnaaDoorW.PrintMore Go.Proofs.YtcfpfaakbomcnaaDoor.T
set_option linter.unusedVariables false
set_option linter.unusedSimpArgs false
theorem u64_and1 (j : Nat) (h : j ≤ 16) : Go.bits .and .u64 (j : Int) 1 = ((j % 2 : Nat) : Int) := by
  have : j = 0 ∨ j = 1 ∨ j = 2 ∨ j = 3 ∨ j = 4 ∨ j = 5 ∨ j = 6 ∨ j = 7 ∨ j = 8 ∨ j = 9 ∨ j = 10 ∨ j = 11 ∨ j = 12 ∨ j = 13 ∨ j = 14 ∨ j = 15 ∨ j = 16 := by omega
  rcases this with rfl | rfl | rfl | rfl | rfl | rfl | rfl | rfl | rfl | rfl | rfl | rfl | rfl | rfl | rfl | rfl | rfl <;> first | rfl | decide
theorem u64_and7 (j : Nat) (h : j ≤ 16) : Go.bits .and .u64 (j : Int) 7 = ((j % 8 : Nat) : Int) := by
  have : j = 0 ∨ j = 1 ∨ j = 2 ∨ j = 3 ∨ j = 4 ∨ j = 5 ∨ j = 6 ∨ j = 7 ∨ j = 8 ∨ j = 9 ∨ j = 10 ∨ j = 11 ∨ j = 12 ∨ j = 13 ∨ j = 14 ∨ j = 15 ∨ j = 16 := by omega
  rcases this with rfl | rfl | rfl | rfl | rfl | rfl | rfl | rfl | rfl | rfl | rfl | rfl | rfl | rfl | rfl | rfl | rfl <;> first | rfl | decide
set_option maxHeartbeats 8000000 in
set_option maxRecDepth 100000 in
theorem sinCode_calls (p r : Nat) (hp : Fl.Fin p) (hlt : p < 18446744073709551616) (h : Fl.SinS p r) (w : World) (hT : SinTab w) : Calls Tryd.prog 21 #[.float .f64 p] w fun e w' => e = .returned (.float .f64 r) ∧ w' = w := by
  obtain ⟨pa, j, Y, r0, s, hs, ⟨t, u, ⟨m, y, a, z1, b, z2, c, g1, g2, hY, g3, g4, g5, g6, g7, g8, g9⟩, hsin, hcos⟩, j16, Y16, Y2, hpa, vp0, vp1, hr⟩ := h
  obtain ⟨⟨t0, t1, t2, t3, t4, t5⟩, ⟨k0, k1, k2, k3, k4, k5⟩⟩ := hT
  obtain ⟨o0, q0, _, q0e, _⟩ := Fl.order_num hp Fl.V0.1
  have n0 : o0 ≠ .eq := fun h => by
    have h1 := q0e.1 h
    rw [Fl.V0.2] at h1
    rcases hs with ⟨_, _, h2⟩ | ⟨_, _, h2⟩ <;> rw [h1] at h2 <;> exact absurd h2 (by decide)
  obtain ⟨o1, q1, _, q1e, _⟩ := Fl.order_num hp hp
  have e1 : o1 = .eq := q1e.2 rfl
  subst e1
  have NN := Aside0.mk (isNaN_calls p q1)
  have b0 : (FloatKind.f64.format.order p 0 == some .eq) = false := by
    rw [show FloatKind.f64.format.order p 0 = some o0 from q0]; cases o0 <;> first | rfl | exact absurd rfl n0
  have hp9 := Fl.abs_word hp
  obtain ⟨o2, q2, q2l, _, _⟩ := Fl.order_num hp9.1 Fl.cMax.1
  have va : Fl.V pa ≤ 63 / 5 := vp1
  have e2 : o2 = .lt := q2l.2 (by
    have cm := Fl.cMax.2
    have n1 : Fl.V (Fl.negW p) = -Fl.V p := (Fl.neg_word hp).2
    rcases hs with ⟨_, h1, h2⟩ | ⟨_, h1, h2⟩ <;> rw [h1] at vp0 vp1 <;> rcases hp9.2.2 with h3 | h3 <;> rw [h3] <;> grind)
  subst e2
  have II := Aside0.mk (isInf_calls p hlt q2)
  obtain ⟨o3, q3, q3l, _, _⟩ := Fl.order_num hpa Fl.c29.1
  have e3 : o3 = .lt := q3l.2 (by rw [Fl.c29.2]; grind)
  subst e3
  have b3 : (FloatKind.f64.format.order pa 4737786807993761792 == some .gt || FloatKind.f64.format.order pa 4737786807993761792 == some .eq) = false := by
    rw [show FloatKind.f64.format.order pa 4737786807993761792 = some .lt from q3]; rfl
  have cv : ∀ w, (convert 25 30 (.float .f64 m)).run Tryd.prog w = .ok (.int .u64 (j : Int)) w := fun w => run_convert_float_int w _ _ .f64 .u64 m j (by kernel_rfl) Tryd.underlying30 (by
    unfold floatToIntVal
    rw [show (FloatKind.f64.decode m).toInt .zero = some (j : Int) from g2]
    have : IntKind.u64.min ≤ (j : Int) ∧ (j : Int) ≤ IntKind.u64.max := by
      rw [show IntKind.u64.min = 0 from rfl, show IntKind.u64.max = 18446744073709551615 from rfl]; omega
    dsimp only
    rw [if_pos this])
  have f1 := binF (op := .mul) g1
  have f3 := binF (op := .mul) g3
  have f4 := binF (op := .sub) g4
  have f5 := binF (op := .mul) g5
  have f6 := binF (op := .sub) g6
  have f7 := binF (op := .mul) g7
  have f8 := binF (op := .sub) g8
  have f9 := binF (op := .mul) g9
  have un : ∀ b w, (Go.Op.unary .neg (.float .f64 b)).run Tryd.prog w = .ok (.float .f64 (Fl.negW b)) w := fun b w => rfl
  obtain ⟨K, hK⟩ : ∃ K, K = Y % 8 := ⟨_, rfl⟩
  have hKc : K = 0 ∨ K = 2 ∨ K = 4 ∨ K = 6 := by omega
  have sgn : ∃ bs : Bool, (FloatKind.f64.format.order p 0 == some .lt) = bs ∧ s = bs := by
    obtain ⟨o4, q4, q4l, _, _⟩ := Fl.order_num hp Fl.V0.1
    refine ⟨s, ?_, rfl⟩
    rw [show FloatKind.f64.format.order p 0 = some o4 from q4]
    rw [Fl.V0.2] at q4l
    rcases hs with ⟨rfl, _, h2⟩ | ⟨rfl, _, h2⟩
    · have : o4 ≠ .lt := fun h => by have := q4l.1 h; grind
      cases o4 <;> first | rfl | exact absurd rfl this
    · have : o4 = .lt := q4l.2 h2
      rw [this]; rfl
  obtain ⟨bs, bS, rfl⟩ := sgn
  have PAR : ∃ par : Int, Go.bits .and .u64 (j : Int) 1 = par ∧ ((par = 0 ∧ y = floatOfInt .f64 (j : Int) ∧ Go.bits .and .u64 (j : Int) 7 = (K : Int)) ∨ (par = 1 ∧ BinF .add (floatOfInt .f64 (j : Int)) 4607182418800017408 y ∧ ∃ J : Int, IntKind.u64.wrap ((j : Int) + 1) = J ∧ Go.bits .and .u64 J 7 = (K : Int))) := by
    refine ⟨((j % 2 : Nat) : Int), u64_and1 j j16, ?_⟩
    rcases hY.2 with ⟨h1, h2, h3⟩ | ⟨h1, h2, h3⟩
    · exact .inl ⟨by rw [h1]; rfl, h2, by rw [u64_and7 j j16, hK, h3]⟩
    · refine .inr ⟨by rw [h1]; rfl, binF (op := .add) h2, ((j + 1 : Nat) : Int), ?_, ?_⟩
      · unfold IntKind.wrap IntKind.bits IntKind.signed; simp; omega
      · rw [u64_and7 (j + 1) (by omega), hK, h3]
  have PA : pa = if s then Fl.negW p else p := by rcases hs with ⟨rfl, h, _⟩ | ⟨rfl, h, _⟩ <;> rw [h] <;> rfl
  have H4 : (Y % 4 = 0 ∧ (K = 0 ∨ K = 4)) ∨ (Y % 4 = 2 ∧ (K = 2 ∨ K = 6)) := by omega
  rw [← hK] at hr
  clear hs hK hKc hY hp hp9 q0 q0e n0 q1 q1e q2 q2l q3 q3l va vp0 vp1 hpa g1 g3 g4 g5 g6 g7 g8 g9 g2 hlt Y16 j16
  obtain ⟨par, p1, hpar⟩ := PAR
  cases s
  · obtain rfl : pa = p := PA
    rcases H4 with ⟨h4, hk⟩ | ⟨h4, hk⟩
    ·
      obtain ⟨a0, d0, a1, d1, a2, d2, a3, d3, a4, d4, wv, wz, x0, x1, x2, x3, x4, x5, x6, x7, x8, x9, x10, x11, x12⟩ := hsin h4
      have c0 := binF (op := .mul) x0
      have c1 := binF (op := .add) x1
      have c2 := binF (op := .mul) x2
      have c3 := binF (op := .add) x3
      have c4 := binF (op := .mul) x4
      have c5 := binF (op := .add) x5
      have c6 := binF (op := .mul) x6
      have c7 := binF (op := .add) x7
      have c8 := binF (op := .mul) x8
      have c9 := binF (op := .add) x9
      have c10 := binF (op := .mul) x10
      have c11 := binF (op := .mul) x11
      have c12 := binF (op := .add) x12
      clear hsin hcos h4 x0 x1 x2 x3 x4 x5 x6 x7 x8 x9 x10 x11 x12 k0 k1 k2 k3 k4 k5
      rcases hk with rfl | rfl
      · subst hr
        rcases hpar with ⟨rfl, rfl, p7⟩ | ⟨rfl, fy, J, pw, p7⟩
        · unfold BinF at *
          go_enter Tryd.func21, Tryd.ntmps21
          go_wp2_with (first
            | (go_at_call 29; (with_reducible refine (NN.out _).mono ?_); rintro e w' ⟨rfl, rfl⟩)
            | (go_at_call 30; (with_reducible refine (II.out _).mono ?_); rintro e w' ⟨rfl, rfl⟩)
            | (simp only [cv, un, f1, f3, f4, f5, f6, f7, f8, f9, c0, c1, c2, c3, c4, c5, c6, c7, c8, c9, c10, c11, c12]))
          go_ret
          exact ⟨rfl, rfl⟩
        · unfold BinF at *
          go_enter Tryd.func21, Tryd.ntmps21
          go_wp2_with (first
            | (go_at_call 29; (with_reducible refine (NN.out _).mono ?_); rintro e w' ⟨rfl, rfl⟩)
            | (go_at_call 30; (with_reducible refine (II.out _).mono ?_); rintro e w' ⟨rfl, rfl⟩)
            | (simp only [cv, un, f1, f3, f4, f5, f6, f7, f8, f9, fy, c0, c1, c2, c3, c4, c5, c6, c7, c8, c9, c10, c11, c12]))
          go_ret
          exact ⟨rfl, rfl⟩
      · subst hr
        rcases hpar with ⟨rfl, rfl, p7⟩ | ⟨rfl, fy, J, pw, p7⟩
        · unfold BinF at *
          go_enter Tryd.func21, Tryd.ntmps21
          go_wp2_with (first
            | (go_at_call 29; (with_reducible refine (NN.out _).mono ?_); rintro e w' ⟨rfl, rfl⟩)
            | (go_at_call 30; (with_reducible refine (II.out _).mono ?_); rintro e w' ⟨rfl, rfl⟩)
            | (simp only [cv, un, f1, f3, f4, f5, f6, f7, f8, f9, c0, c1, c2, c3, c4, c5, c6, c7, c8, c9, c10, c11, c12]))
          go_ret
          exact ⟨rfl, rfl⟩
        · unfold BinF at *
          go_enter Tryd.func21, Tryd.ntmps21
          go_wp2_with (first
            | (go_at_call 29; (with_reducible refine (NN.out _).mono ?_); rintro e w' ⟨rfl, rfl⟩)
            | (go_at_call 30; (with_reducible refine (II.out _).mono ?_); rintro e w' ⟨rfl, rfl⟩)
            | (simp only [cv, un, f1, f3, f4, f5, f6, f7, f8, f9, fy, c0, c1, c2, c3, c4, c5, c6, c7, c8, c9, c10, c11, c12]))
          go_ret
          exact ⟨rfl, rfl⟩
    ·
      obtain ⟨a0, d0, a1, d1, a2, d2, a3, d3, a4, d4, wh, wg, wv, wz, x0, x1, x2, x3, x4, x5, x6, x7, x8, x9, x10, x11, x12, x13, x14⟩ := hcos h4
      have c0 := binF (op := .mul) x0
      have c1 := binF (op := .add) x1
      have c2 := binF (op := .mul) x2
      have c3 := binF (op := .add) x3
      have c4 := binF (op := .mul) x4
      have c5 := binF (op := .add) x5
      have c6 := binF (op := .mul) x6
      have c7 := binF (op := .add) x7
      have c8 := binF (op := .mul) x8
      have c9 := binF (op := .add) x9
      have c10 := binF (op := .mul) x10
      have c11 := binF (op := .sub) x11
      have c12 := binF (op := .mul) x12
      have c13 := binF (op := .mul) x13
      have c14 := binF (op := .add) x14
      clear hsin hcos h4 x0 x1 x2 x3 x4 x5 x6 x7 x8 x9 x10 x11 x12 x13 x14 t0 t1 t2 t3 t4 t5
      rcases hk with rfl | rfl
      · subst hr
        rcases hpar with ⟨rfl, rfl, p7⟩ | ⟨rfl, fy, J, pw, p7⟩
        · unfold BinF at *
          go_enter Tryd.func21, Tryd.ntmps21
          go_wp2_with (first
            | (go_at_call 29; (with_reducible refine (NN.out _).mono ?_); rintro e w' ⟨rfl, rfl⟩)
            | (go_at_call 30; (with_reducible refine (II.out _).mono ?_); rintro e w' ⟨rfl, rfl⟩)
            | (simp only [cv, un, f1, f3, f4, f5, f6, f7, f8, f9, c0, c1, c2, c3, c4, c5, c6, c7, c8, c9, c10, c11, c12, c13, c14]))
          go_ret
          exact ⟨rfl, rfl⟩
        · unfold BinF at *
          go_enter Tryd.func21, Tryd.ntmps21
          go_wp2_with (first
            | (go_at_call 29; (with_reducible refine (NN.out _).mono ?_); rintro e w' ⟨rfl, rfl⟩)
            | (go_at_call 30; (with_reducible refine (II.out _).mono ?_); rintro e w' ⟨rfl, rfl⟩)
            | (simp only [cv, un, f1, f3, f4, f5, f6, f7, f8, f9, fy, c0, c1, c2, c3, c4, c5, c6, c7, c8, c9, c10, c11, c12, c13, c14]))
          go_ret
          exact ⟨rfl, rfl⟩
      · subst hr
        rcases hpar with ⟨rfl, rfl, p7⟩ | ⟨rfl, fy, J, pw, p7⟩
        · unfold BinF at *
          go_enter Tryd.func21, Tryd.ntmps21
          go_wp2_with (first
            | (go_at_call 29; (with_reducible refine (NN.out _).mono ?_); rintro e w' ⟨rfl, rfl⟩)
            | (go_at_call 30; (with_reducible refine (II.out _).mono ?_); rintro e w' ⟨rfl, rfl⟩)
            | (simp only [cv, un, f1, f3, f4, f5, f6, f7, f8, f9, c0, c1, c2, c3, c4, c5, c6, c7, c8, c9, c10, c11, c12, c13, c14]))
          go_ret
          exact ⟨rfl, rfl⟩
        · unfold BinF at *
          go_enter Tryd.func21, Tryd.ntmps21
          go_wp2_with (first
            | (go_at_call 29; (with_reducible refine (NN.out _).mono ?_); rintro e w' ⟨rfl, rfl⟩)
            | (go_at_call 30; (with_reducible refine (II.out _).mono ?_); rintro e w' ⟨rfl, rfl⟩)
            | (simp only [cv, un, f1, f3, f4, f5, f6, f7, f8, f9, fy, c0, c1, c2, c3, c4, c5, c6, c7, c8, c9, c10, c11, c12, c13, c14]))
          go_ret
          exact ⟨rfl, rfl⟩
  · have NG : Fl.negW p = pa := PA.symm
    clear PA
    rcases H4 with ⟨h4, hk⟩ | ⟨h4, hk⟩
    ·
      obtain ⟨a0, d0, a1, d1, a2, d2, a3, d3, a4, d4, wv, wz, x0, x1, x2, x3, x4, x5, x6, x7, x8, x9, x10, x11, x12⟩ := hsin h4
      have c0 := binF (op := .mul) x0
      have c1 := binF (op := .add) x1
      have c2 := binF (op := .mul) x2
      have c3 := binF (op := .add) x3
      have c4 := binF (op := .mul) x4
      have c5 := binF (op := .add) x5
      have c6 := binF (op := .mul) x6
      have c7 := binF (op := .add) x7
      have c8 := binF (op := .mul) x8
      have c9 := binF (op := .add) x9
      have c10 := binF (op := .mul) x10
      have c11 := binF (op := .mul) x11
      have c12 := binF (op := .add) x12
      clear hsin hcos h4 x0 x1 x2 x3 x4 x5 x6 x7 x8 x9 x10 x11 x12 k0 k1 k2 k3 k4 k5
      rcases hk with rfl | rfl
      · subst hr
        rcases hpar with ⟨rfl, rfl, p7⟩ | ⟨rfl, fy, J, pw, p7⟩
        · unfold BinF at *
          go_enter Tryd.func21, Tryd.ntmps21
          go_wp2_with (first
            | (go_at_call 29; (with_reducible refine (NN.out _).mono ?_); rintro e w' ⟨rfl, rfl⟩)
            | (go_at_call 30; (with_reducible refine (II.out _).mono ?_); rintro e w' ⟨rfl, rfl⟩)
            | (simp only [cv, un, f1, f3, f4, f5, f6, f7, f8, f9, c0, c1, c2, c3, c4, c5, c6, c7, c8, c9, c10, c11, c12]))
          go_ret
          exact ⟨rfl, rfl⟩
        · unfold BinF at *
          go_enter Tryd.func21, Tryd.ntmps21
          go_wp2_with (first
            | (go_at_call 29; (with_reducible refine (NN.out _).mono ?_); rintro e w' ⟨rfl, rfl⟩)
            | (go_at_call 30; (with_reducible refine (II.out _).mono ?_); rintro e w' ⟨rfl, rfl⟩)
            | (simp only [cv, un, f1, f3, f4, f5, f6, f7, f8, f9, fy, c0, c1, c2, c3, c4, c5, c6, c7, c8, c9, c10, c11, c12]))
          go_ret
          exact ⟨rfl, rfl⟩
      · subst hr
        rcases hpar with ⟨rfl, rfl, p7⟩ | ⟨rfl, fy, J, pw, p7⟩
        · unfold BinF at *
          go_enter Tryd.func21, Tryd.ntmps21
          go_wp2_with (first
            | (go_at_call 29; (with_reducible refine (NN.out _).mono ?_); rintro e w' ⟨rfl, rfl⟩)
            | (go_at_call 30; (with_reducible refine (II.out _).mono ?_); rintro e w' ⟨rfl, rfl⟩)
            | (simp only [cv, un, f1, f3, f4, f5, f6, f7, f8, f9, c0, c1, c2, c3, c4, c5, c6, c7, c8, c9, c10, c11, c12]))
          go_ret
          exact ⟨rfl, rfl⟩
        · unfold BinF at *
          go_enter Tryd.func21, Tryd.ntmps21
          go_wp2_with (first
            | (go_at_call 29; (with_reducible refine (NN.out _).mono ?_); rintro e w' ⟨rfl, rfl⟩)
            | (go_at_call 30; (with_reducible refine (II.out _).mono ?_); rintro e w' ⟨rfl, rfl⟩)
            | (simp only [cv, un, f1, f3, f4, f5, f6, f7, f8, f9, fy, c0, c1, c2, c3, c4, c5, c6, c7, c8, c9, c10, c11, c12]))
          go_ret
          exact ⟨rfl, rfl⟩
    ·
      obtain ⟨a0, d0, a1, d1, a2, d2, a3, d3, a4, d4, wh, wg, wv, wz, x0, x1, x2, x3, x4, x5, x6, x7, x8, x9, x10, x11, x12, x13, x14⟩ := hcos h4
      have c0 := binF (op := .mul) x0
      have c1 := binF (op := .add) x1
      have c2 := binF (op := .mul) x2
      have c3 := binF (op := .add) x3
      have c4 := binF (op := .mul) x4
      have c5 := binF (op := .add) x5
      have c6 := binF (op := .mul) x6
      have c7 := binF (op := .add) x7
      have c8 := binF (op := .mul) x8
      have c9 := binF (op := .add) x9
      have c10 := binF (op := .mul) x10
      have c11 := binF (op := .sub) x11
      have c12 := binF (op := .mul) x12
      have c13 := binF (op := .mul) x13
      have c14 := binF (op := .add) x14
      clear hsin hcos h4 x0 x1 x2 x3 x4 x5 x6 x7 x8 x9 x10 x11 x12 x13 x14 t0 t1 t2 t3 t4 t5
      rcases hk with rfl | rfl
      · subst hr
        rcases hpar with ⟨rfl, rfl, p7⟩ | ⟨rfl, fy, J, pw, p7⟩
        · unfold BinF at *
          go_enter Tryd.func21, Tryd.ntmps21
          go_wp2_with (first
            | (go_at_call 29; (with_reducible refine (NN.out _).mono ?_); rintro e w' ⟨rfl, rfl⟩)
            | (go_at_call 30; (with_reducible refine (II.out _).mono ?_); rintro e w' ⟨rfl, rfl⟩)
            | (simp only [cv, un, f1, f3, f4, f5, f6, f7, f8, f9, c0, c1, c2, c3, c4, c5, c6, c7, c8, c9, c10, c11, c12, c13, c14]))
          go_ret
          exact ⟨rfl, rfl⟩
        · unfold BinF at *
          go_enter Tryd.func21, Tryd.ntmps21
          go_wp2_with (first
            | (go_at_call 29; (with_reducible refine (NN.out _).mono ?_); rintro e w' ⟨rfl, rfl⟩)
            | (go_at_call 30; (with_reducible refine (II.out _).mono ?_); rintro e w' ⟨rfl, rfl⟩)
            | (simp only [cv, un, f1, f3, f4, f5, f6, f7, f8, f9, fy, c0, c1, c2, c3, c4, c5, c6, c7, c8, c9, c10, c11, c12, c13, c14]))
          go_ret
          exact ⟨rfl, rfl⟩
      · subst hr
        rcases hpar with ⟨rfl, rfl, p7⟩ | ⟨rfl, fy, J, pw, p7⟩
        · unfold BinF at *
          go_enter Tryd.func21, Tryd.ntmps21
          go_wp2_with (first
            | (go_at_call 29; (with_reducible refine (NN.out _).mono ?_); rintro e w' ⟨rfl, rfl⟩)
            | (go_at_call 30; (with_reducible refine (II.out _).mono ?_); rintro e w' ⟨rfl, rfl⟩)
            | (simp only [cv, un, f1, f3, f4, f5, f6, f7, f8, f9, c0, c1, c2, c3, c4, c5, c6, c7, c8, c9, c10, c11, c12, c13, c14]))
          go_ret
          exact ⟨rfl, rfl⟩
        · unfold BinF at *
          go_enter Tryd.func21, Tryd.ntmps21
          go_wp2_with (first
            | (go_at_call 29; (with_reducible refine (NN.out _).mono ?_); rintro e w' ⟨rfl, rfl⟩)
            | (go_at_call 30; (with_reducible refine (II.out _).mono ?_); rintro e w' ⟨rfl, rfl⟩)
            | (simp only [cv, un, f1, f3, f4, f5, f6, f7, f8, f9, fy, c0, c1, c2, c3, c4, c5, c6, c7, c8, c9, c10, c11, c12, c13, c14]))
          go_ret
          exact ⟨rfl, rfl⟩
end Go.Proofs.YtcfpfaakbomcnaaDoor.QA

namespace Go.Proofs.YtcfpfaakbomcnaaDoor.QA
open Go.RowKit Go.Proofs.YtcfpfaakbomcnaaDoorW.PrintWords Go.Proofs.YtcfpfaakbomcnaaDoorW.PrintLast Go.Proofs.YtcfpfaakbomcnaaDoorW.PrintMore Go.Proofs.YtcfpfaakbomcnaaDoor.T
set_option linter.unusedVariables false
set_option linter.unusedSimpArgs false
set_option maxHeartbeats 4000000 in
set_option maxRecDepth 100000 in
theorem mathSin_calls (p r : Nat) (hp : Fl.Fin p) (hlt : p < 18446744073709551616) (h : Fl.SinS p r) (w : World) (hT : SinTab w) : Calls Tryd.prog 15 #[.float .f64 p] w fun e w' => e = .returned (.float .f64 r) ∧ w' = w := by
  have SC := Aside0.mk (sinCode_calls p r hp hlt h w hT)
  clear hp hlt h hT
  go_enter Tryd.func15, Tryd.ntmps15
  go_wp2_with (go_at_call 21; (with_reducible refine SC.out.mono ?_); rintro e w' ⟨rfl, rfl⟩)
  go_ret
  exact ⟨rfl, rfl⟩
set_option maxHeartbeats 4000000 in
set_option maxRecDepth 100000 in
theorem realCode_calls (x rl : Nat) (h : Fl.RealW x rl) (w : World) (hT : SinTab w) : Calls Tryd.prog 9 #[.float .f64 x] w fun e w' => e = .returned (.float .f64 rl) ∧ w' = w := by
  obtain ⟨hx, h⟩ := h
  obtain ⟨o, q, _, qe, _⟩ := Fl.order_num hx Fl.V0.1
  rw [Fl.V0.2] at qe
  rcases h with ⟨h0, rfl⟩ | ⟨h0, p, r, g1, g2, g3, g4⟩
  · have b0 : (FloatKind.f64.format.order x 0 == some .eq) = true := by
      rw [show FloatKind.f64.format.order x 0 = some o from q, qe.2 h0]; rfl
    clear hx q qe h0
    go_enter Tryd.func9, Tryd.ntmps9
    go_wp2
    go_ret
    exact ⟨rfl, rfl⟩
  · have b0 : (FloatKind.f64.format.order x 0 == some .eq) = false := by
      rw [show FloatKind.f64.format.order x 0 = some o from q]
      have : o ≠ .eq := fun h => h0 (qe.1 h)
      cases o <;> first | rfl | exact absurd rfl this
    have f1 := binF (op := .mul) g1
    have f3 := binF (op := .quo) g3
    have SC := Aside0.mk (mathSin_calls p r g4 (f_lt (op := .mul) g1) g2 w hT)
    clear hx q qe h0 g1 g2 g3 g4 hT
    unfold BinF at *
    go_enter Tryd.func9, Tryd.ntmps9
    go_wp2_with (first
      | (go_at_call 15; (with_reducible refine SC.out.mono ?_); rintro e w' ⟨rfl, rfl⟩)
      | (simp only [f1, f3]))
    go_ret
    exact ⟨rfl, rfl⟩
end Go.Proofs.YtcfpfaakbomcnaaDoor.QA
