/- float64 rounded: how far a word lies from what it stands for; the weight of raw.Keys by the polynomial. -/
import Ieee.Arith
namespace Go.Proofs.YtbbheemfjfkagaaDoor.Fl
open Ieee
/-- Two numbers are at most e apart. -/
def Near (a b e : Rat) : Prop := a ≤ b + e ∧ b ≤ a + e
def p2 (e : Int) : Rat := (2 : Rat) ^ e
theorem p2_pos (e : Int) : 0 < p2 e := Rat.zpow_pos (by decide)
theorem p2_add (a b : Int) : p2 (a + b) = p2 a * p2 b := Rat.zpow_add (by decide) a b
theorem p2_succ (a : Int) : p2 (a + 1) = 2 * p2 a := by rw [p2_add, Rat.mul_comm]; rfl
theorem p2_nat (n : Nat) : p2 (n : Int) = ((2 ^ n : Nat) : Rat) := by
  unfold p2; rw [Rat.zpow_natCast]; induction n with
  | zero => rfl
  | succ n ih => rw [Rat.pow_succ, ih, Nat.pow_succ, Rat.natCast_mul]; rfl
theorem p2_one_le {n : Int} (h : 0 ≤ n) : 1 ≤ p2 n := by
  obtain ⟨k, rfl⟩ := Int.eq_ofNat_of_zero_le h
  rw [p2_nat]
  have h2 : 1 ≤ 2 ^ k := Nat.one_le_two_pow
  exact Rat.natCast_le_natCast.2 h2
theorem p2_mono {a b : Int} (h : a ≤ b) : p2 a ≤ p2 b := by
  have e : p2 b = p2 a * p2 (b - a) := by rw [← p2_add]; congr 1; omega
  have h1 := p2_one_le (n := b - a) (by omega)
  have h0 := p2_pos a
  rw [e]
  have := Rat.mul_le_mul_of_nonneg_left h1 (Rat.le_of_lt h0)
  rwa [Rat.mul_one] at this
theorem p2_lt {a b : Int} (h : p2 a < p2 b) : a < b := by
  rcases Int.lt_or_le a b with h1 | h1
  · exact h1
  · exact absurd (p2_mono h1) (by grind)
/-- A word is a number. -/
def Fin (x : Nat) : Prop := ∃ s m p, double.read x = .number s m p ∧ m < 9007199254740992
def sg (s : Bool) : Rat := if s then -1 else 1
def val : Datum → Rat
  | .number s m p => sg s * (m * p2 p)
  | _ => 0
/-- What a word stands for. -/
def V (x : Nat) : Rat := val (double.read x)
theorem cut_near (s : Bool) (n d : Nat) : 2 * (Toward.even.cut s n d * 2 ^ d) ≤ 2 * n + 2 ^ d ∧ 2 * n ≤ 2 * (Toward.even.cut s n d * 2 ^ d) + 2 ^ d ∧ Toward.even.cut s n d ≤ n / 2 ^ d + 1 ∧ n / 2 ^ d ≤ Toward.even.cut s n d := by
  unfold Toward.cut
  simp only []
  rw [Nat.shiftLeft_eq, Nat.one_mul]
  by_cases h : d ≤ n.log2 + 2
  · rw [Nat.min_eq_left h]
    have hp : 0 < 2 ^ d := Nat.two_pow_pos d
    generalize 2 ^ d = g at *
    have e := Nat.div_add_mod n g
    have lt := Nat.mod_lt n hp
    generalize n / g = q at *
    generalize n % g = r at *
    subst e
    by_cases c : g < 2 * r
    · simp [c, Nat.add_mul]; rw [Nat.mul_comm q g]; omega
    · by_cases c2 : g = 2 * r ∧ q % 2 = 1
      · simp [c2.1, c2.2, Nat.add_mul]; rw [Nat.mul_comm q (2 * r)]; omega
      · have : (decide (g < 2 * r) || (g == 2 * r && q % 2 == 1)) = false := by
          simp [c]; intro h1; have : q % 2 ≠ 1 := fun h2 => c2 ⟨h1, h2⟩; omega
        rw [this]; simp; rw [Nat.mul_comm q g]; omega
  · rw [Nat.min_eq_right (by omega)]
    have h1 : n < 2 ^ (n.log2 + 1) := Nat.lt_log2_self
    have h2 : 2 ^ (n.log2 + 2) = 2 * 2 ^ (n.log2 + 1) := by rw [Nat.pow_succ]; omega
    have h3 : 2 ^ (n.log2 + 2) ≤ 2 ^ d := Nat.pow_le_pow_right (by decide) (by omega)
    rw [Nat.div_eq_of_lt (by omega), Nat.mod_eq_of_lt (by omega), Nat.div_eq_of_lt (by omega)]
    have : (decide (2 ^ (n.log2 + 2) < 2 * n) || (2 ^ (n.log2 + 2) == 2 * n && 0 % 2 == 1)) = false := by simp; omega
    rw [this]; simp; omega
theorem read_rung (s : Bool) (L k : Nat) (h1 : k ≤ 9007199254740992) (h2 : L = 0 ∨ 4503599627370496 ≤ k) (h3 : L ≤ 2040) :
    ∃ m p, double.read (double.word s (min (L * double.binade + k) double.infRung)) = .number s m p ∧ m < 9007199254740992 ∧ (m : Rat) * p2 p = k * p2 (L - 1074) := by
  have hb : double.binade = 4503599627370496 := by decide
  have hi : double.infRung = 9218868437227405312 := by decide
  have hw : double.signWeight = 9223372036854775808 := by decide
  have hl : double.leastPlace = -1074 := by decide
  rw [Nat.min_eq_left (by rw [hb, hi]; omega)]
  unfold Format.read Format.word
  rw [hb, hi, hw, hl]
  have e1 : ∀ r, r < 9223372036854775808 → (((if s then 9223372036854775808 + r else r) / 9223372036854775808 % 2 == 1) = s ∧ (if s then 9223372036854775808 + r else r) % 9223372036854775808 = r) := by
    intro r hr; cases s <;> simp <;> omega
  obtain ⟨e2, e3⟩ := e1 (L * 4503599627370496 + k) (by omega)
  simp only [e2, e3]
  by_cases c : L * 4503599627370496 + k < 4503599627370496
  · rw [if_pos c]
    have : L = 0 := by omega
    subst this
    exact ⟨_, _, rfl, by omega, by simp⟩
  · rw [if_neg c, if_pos (by omega)]
    by_cases c2 : k = 9007199254740992
    · subst c2
      refine ⟨_, _, rfl, by omega, ?_⟩
      rw [show (L * 4503599627370496 + 9007199254740992) % 4503599627370496 = 0 by omega, show (L * 4503599627370496 + 9007199254740992) / 4503599627370496 - 1 = L + 1 by omega]
      rw [show (-1074 + ((L + 1 : Nat) : Int)) = ((L : Int) - 1074) + 1 by omega, p2_succ]
      simp; grind
    · have q : (L * 4503599627370496 + k) / 4503599627370496 - 1 = L ∧ 4503599627370496 + (L * 4503599627370496 + k) % 4503599627370496 = k := by
        rcases h2 with h2 | h2 <;> omega
      rw [q.1, q.2, show (-1074 + (L : Int)) = (L : Int) - 1074 by omega]
      exact ⟨_, _, rfl, by omega, rfl⟩
theorem nat_p2 (n : Nat) : (((2 ^ n : Nat)) : Rat) = p2 (n : Int) := (p2_nat n).symm
theorem nearest_near (s : Bool) (mag : Nat) (place : Int) (B : Int) (h0 : -1000 ≤ B) (h1 : B ≤ 960) (hv : (mag : Rat) * p2 place < p2 B) :
    Fin (double.nearest s mag place) ∧ Near (V (double.nearest s mag place)) (sg s * (mag * p2 place)) (p2 (B - 53)) ∧ (mag < 9007199254740992 → -1074 ≤ place → V (double.nearest s mag place) = sg s * (mag * p2 place)) := by
  have pb := p2_pos (B - 53)
  unfold Format.nearest
  by_cases z : mag = 0
  · subst z
    rw [if_pos rfl]
    obtain ⟨m, p, e1, e2, e3⟩ := read_rung s 0 0 (by decide) (.inl rfl) (by decide)
    rw [Nat.min_eq_left (by decide)] at e1
    refine ⟨⟨s, m, p, e1, e2⟩, ?_⟩
    have : V (double.word s 0) = 0 := by
      unfold V; rw [show double.word s 0 = double.word s (0 * double.binade + 0) from rfl, e1, val, e3]; simp
    rw [this]; unfold Near; simp; grind
  rw [if_neg z]
  have l0 : 2 ^ mag.log2 ≤ mag := Nat.log2_self_le z
  have l1 : mag < 2 ^ (mag.log2 + 1) := Nat.lt_log2_self
  generalize mag.log2 = l at *
  have hf : double.fractionBits = 52 := rfl
  have hl : double.leastPlace = -1074 := by decide
  have hb : double.binade = 4503599627370496 := by decide
  rw [hf, hl]
  have lB : place + l < B := by
    refine p2_lt ?_
    have : ((2 ^ l : Nat) : Rat) ≤ mag := Rat.natCast_le_natCast.2 l0
    rw [nat_p2] at this
    have := Rat.mul_le_mul_of_nonneg_right this (Rat.le_of_lt (p2_pos place))
    rw [← p2_add] at this
    rw [Int.add_comm]; grind
  obtain ⟨last, hlast⟩ : ∃ x : Int, x = max (place + (l : Int) - ((52 : Nat) : Int)) (-1074) := ⟨_, rfl⟩
  rw [← hlast]
  dsimp only
  have hla : -1074 ≤ last ∧ last ≤ max (B - 53) (-1074) ∧ place + l - 52 ≤ last ∧ (last = -1074 ∨ last = place + l - 52) := by omega
  clear hlast
  obtain ⟨c1, c2, c3, c4⟩ := cut_near s (mag <<< (place - last).toNat) (last - place).toNat
  generalize Toward.even.cut s (mag <<< (place - last).toNat) (last - place).toNat = kept at *
  rw [Nat.shiftLeft_eq] at c1 c2 c3 c4
  have key : kept ≤ 9007199254740992 ∧ (last = -1074 ∨ 4503599627370496 ≤ kept) ∧ Near (kept * p2 last) (mag * p2 place) (p2 (last - 1)) ∧ (last ≤ place → kept * p2 last = mag * p2 place) := by
    have hs : p2 last = 2 * p2 (last - 1) := by rw [← p2_succ]; congr 1; omega
    have pp := p2_pos (last - 1)
    rcases Int.le_total last place with hh | hh
    · obtain ⟨u, rfl⟩ : ∃ u : Nat, place = last + u := ⟨(place - last).toNat, by omega⟩
      rw [show (last + (u : Int) - last).toNat = u by omega, show (last - (last + (u : Int))).toNat = 0 by omega] at c1 c2 c3 c4
      have e : kept = mag * 2 ^ u := by simp only [Nat.pow_zero, Nat.mul_one] at c1 c2; omega
      have b1 : mag * 2 ^ u < 2 ^ 53 := by
        calc mag * 2 ^ u < 2 ^ (l + 1) * 2 ^ u := Nat.mul_lt_mul_of_pos_right l1 (Nat.two_pow_pos u)
          _ = 2 ^ (l + 1 + u) := (Nat.pow_add ..).symm
          _ ≤ 2 ^ 53 := Nat.pow_le_pow_right (by decide) (by omega)
      refine ⟨by omega, ?_, ?_, ?_⟩
      · rcases hla.2.2.2 with h | h
        · exact .inl h
        · refine .inr ?_
          rw [e]
          calc 4503599627370496 = 2 ^ 52 := by decide
            _ = 2 ^ (l + u) := by congr 1; omega
            _ = 2 ^ l * 2 ^ u := Nat.pow_add ..
            _ ≤ _ := Nat.mul_le_mul_right _ l0
      · have : (kept : Rat) * p2 last = mag * p2 (last + u) := by
          rw [e, p2_add, p2_nat, Rat.natCast_mul]; grind
        rw [this]; unfold Near; grind
      · intro _; rw [e, p2_add, p2_nat, Rat.natCast_mul]; grind
    · obtain ⟨u, rfl⟩ : ∃ u : Nat, last = place + u := ⟨(last - place).toNat, by omega⟩
      rw [show (place + (u : Int) - place).toNat = u by omega, show (place - (place + (u : Int))).toNat = 0 by omega] at c1 c2 c3 c4
      rw [Nat.pow_zero, Nat.mul_one] at c1 c2 c3 c4
      have b1 : mag / 2 ^ u < 2 ^ 53 := by
        rw [Nat.div_lt_iff_lt_mul (Nat.two_pow_pos u), ← Nat.pow_add]
        exact Nat.lt_of_lt_of_le l1 (Nat.pow_le_pow_right (by decide) (by omega))
      refine ⟨by omega, ?_, ?_, ?_⟩
      · rcases hla.2.2.2 with h | h
        · exact .inl h
        · refine .inr (Nat.le_trans ?_ c4)
          rw [Nat.le_div_iff_mul_le (Nat.two_pow_pos u)]
          calc 4503599627370496 * 2 ^ u = 2 ^ 52 * 2 ^ u := by congr 1
            _ = 2 ^ (52 + u) := (Nat.pow_add ..).symm
            _ ≤ 2 ^ l := Nat.pow_le_pow_right (by decide) (by omega)
            _ ≤ _ := l0
      · have e1 := Rat.natCast_le_natCast.2 c1
        have e2 := Rat.natCast_le_natCast.2 c2
        simp only [Rat.natCast_add, Rat.natCast_mul, nat_p2] at e1 e2
        have q := Rat.le_of_lt (p2_pos place)
        have f1 := Rat.mul_le_mul_of_nonneg_right e1 q
        have f2 := Rat.mul_le_mul_of_nonneg_right e2 q
        rw [p2_add] at hs ⊢
        have t2 : ((2 : Nat) : Rat) = 2 := rfl
        rw [t2] at f1 f2
        unfold Near
        generalize p2 (place + u - 1) = z1 at *
        generalize p2 place = z2 at *
        generalize p2 u = z3 at *
        clear e1 e2 c1 c2 c3 c4
        constructor <;> grind
      · intro h
        obtain rfl : u = 0 := by omega
        have e : kept = mag := by simp only [Nat.pow_zero, Nat.mul_one] at c1 c2; omega
        rw [e]; simp
  obtain ⟨k1, k2, k3, k4⟩ := key
  obtain ⟨m, p, e1, e2, e3⟩ := read_rung s (last - -1074).toNat kept k1 (by omega) (by omega)
  refine ⟨⟨s, m, p, e1, e2⟩, ?_⟩
  unfold V
  rw [e1, val, e3, show ((last - -1074).toNat : Int) - 1074 = last by omega]
  have : p2 (last - 1) ≤ p2 (B - 53) := p2_mono (by omega)
  refine ⟨?_, fun hm hp => ?_⟩
  rotate_left
  · have : l < 53 := by
      have : 2 ^ l < 2 ^ 53 := Nat.lt_of_le_of_lt l0 hm
      exact (Nat.pow_lt_pow_iff_right (by decide)).1 this
    rw [k4 (by omega)]
  clear e1 e2 e3 k4
  generalize p2 (last - 1) = z1 at *
  generalize (kept : Rat) * p2 last = z2 at *
  generalize (mag : Rat) * p2 place = z3 at *
  generalize p2 (B - 53) = z4 at *
  unfold Near sg at *
  cases s <;> simp <;> grind

theorem signed_val (s : Bool) (m u : Nat) (b : Int) : ((signed s m u : Int) : Rat) * p2 b = sg s * (m * p2 (b + u)) := by
  rw [p2_add, p2_nat]
  unfold signed sg
  rw [Nat.shiftLeft_eq]
  cases s <;> simp [Rat.intCast_natCast] <;> grind
/-- Rounded once: a datum that is a number below 2^B. -/
theorem write_near (d : Datum) (s : Bool) (m : Nat) (p : Int) (hd : d = .number s m p) (B : Int) (h0 : -1000 ≤ B) (h1 : B ≤ 960) (hv : Near (val d) 0 (p2 B)) (hs : val d < p2 B ∧ -p2 B < val d) :
    Fin (double.write d) ∧ Near (V (double.write d)) (val d) (p2 (B - 53)) := by
  subst hd
  refine (fun h => ⟨h.1, h.2.1⟩) (nearest_near s m p B h0 h1 ?_)
  have : 0 ≤ (m : Rat) * p2 p := Rat.mul_nonneg Rat.natCast_nonneg (Rat.le_of_lt (p2_pos p))
  unfold val sg at hs
  cases s <;> simp at hs <;> grind
theorem sg_mul (s t : Bool) : sg (s ^^ t) = sg s * sg t := by cases s <;> cases t <;> simp [sg] <;> grind
theorem mul_near {x y : Nat} (hx : Fin x) (hy : Fin y) (B : Int) (h0 : -1000 ≤ B) (h1 : B ≤ 960) (hs : V x * V y < p2 B ∧ -p2 B < V x * V y) :
    ∃ r, double.mul x y = some r ∧ Fin r ∧ Near (V r) (V x * V y) (p2 (B - 53)) := by
  obtain ⟨s, m, i, e, _⟩ := hx
  obtain ⟨t, n, j, f, _⟩ := hy
  have ev : V x * V y = val (.number (s ^^ t) (m * n) (i + j)) := by
    unfold V; rw [e, f]; simp only [val]; rw [sg_mul, p2_add]; simp; grind
  rw [ev] at hs ⊢
  unfold Format.mul
  rw [e, f]
  obtain ⟨a, b⟩ := write_near (.number (s ^^ t) (m * n) (i + j)) _ _ _ rfl B h0 h1 (by unfold Near; grind) hs
  exact ⟨_, rfl, a, b⟩
theorem sum_num {x y : Datum} {s t : Bool} {m n : Nat} {i j : Int} (e : x = .number s m i) (f : y = .number t n j) (B : Int) (h0 : -1000 ≤ B) (h1 : B ≤ 960) (hs : val x + val y < p2 B ∧ -p2 B < val x + val y) :
    ∃ r, (x.sum y).map double.write = some r ∧ Fin r ∧ Near (V r) (val x + val y) (p2 (B - 53)) := by
  subst e; subst f
  obtain ⟨b, hb⟩ : ∃ b, b = min i j := ⟨_, rfl⟩
  obtain ⟨T, hT⟩ : ∃ T, T = signed s m (i - b).toNat + signed t n (j - b).toNat := ⟨_, rfl⟩
  have ev : val (.number s m i) + val (.number t n j) = T * p2 b := by
    rw [hT, Rat.intCast_add, Rat.add_mul, signed_val, signed_val]
    rw [show b + ((i - b).toNat : Int) = i by omega, show b + ((j - b).toNat : Int) = j by omega]; rfl
  obtain ⟨g, hg⟩ : ∃ g, g = (if T = 0 then s && t else decide (T < 0)) := ⟨_, rfl⟩
  have ed : Datum.sum (.number s m i) (.number t n j) = some (.number g T.natAbs b) := by
    unfold Datum.sum; dsimp only; rw [← hb, ← hT, hg]
  have eg : (T : Rat) * p2 b = val (.number g T.natAbs b) := by
    simp only [val]
    have : (T : Rat) = sg g * ((T.natAbs : Nat) : Rat) := by
      rw [hg]
      by_cases z : T = 0
      · subst z; simp
      · rw [if_neg z]
        by_cases c : T < 0
        · rw [decide_eq_true c]; unfold sg; rw [if_pos rfl, show (T : Rat) = ((-((T.natAbs : Nat) : Int) : Int) : Rat) from congrArg (fun z : Int => (z : Rat)) (by omega)]
          rw [Rat.intCast_neg, Rat.intCast_natCast]; grind
        · rw [decide_eq_false c]; unfold sg; simp
          have : T = ((T.natAbs : Nat) : Int) := by omega
          exact congrArg (fun z : Int => (z : Rat)) this
    rw [this]; grind
  rw [ev, eg] at hs ⊢
  rw [ed]
  obtain ⟨a, c⟩ := write_near (.number g T.natAbs b) _ _ _ rfl B h0 h1 (by unfold Near; grind) hs
  exact ⟨_, rfl, a, c⟩
theorem add_near {x y : Nat} (hx : Fin x) (hy : Fin y) (B : Int) (h0 : -1000 ≤ B) (h1 : B ≤ 960) (hs : V x + V y < p2 B ∧ -p2 B < V x + V y) :
    ∃ r, double.add x y = some r ∧ Fin r ∧ Near (V r) (V x + V y) (p2 (B - 53)) := by
  obtain ⟨s, m, i, e, _⟩ := hx
  obtain ⟨t, n, j, f, _⟩ := hy
  exact sum_num e f B h0 h1 hs
theorem opp_val (d : Datum) : val d.opposite = -val d := by
  cases d with
  | number s m e => unfold Datum.opposite; simp only [val, sg]; cases s <;> simp <;> grind
  | _ => unfold Datum.opposite; simp [val]
theorem sub_near {x y : Nat} (hx : Fin x) (hy : Fin y) (B : Int) (h0 : -1000 ≤ B) (h1 : B ≤ 960) (hs : V x - V y < p2 B ∧ -p2 B < V x - V y) :
    ∃ r, double.sub x y = some r ∧ Fin r ∧ Near (V r) (V x - V y) (p2 (B - 53)) := by
  obtain ⟨s, m, i, e, _⟩ := hx
  obtain ⟨t, n, j, f, _⟩ := hy
  have := sum_num (y := (double.read y).opposite) e (by rw [f]; rfl) B h0 h1 (by rw [opp_val]; unfold V at hs; grind)
  rw [opp_val] at this
  rw [show V x - V y = val (double.read x) + -val (double.read y) by unfold V; grind]
  exact this
theorem order_num {x y : Nat} (hx : Fin x) (hy : Fin y) : ∃ o, double.order x y = some o ∧ (o = .lt ↔ V x < V y) ∧ (o = .eq ↔ V x = V y) ∧ (o = .gt ↔ V y < V x) := by
  obtain ⟨s, m, i, e, _⟩ := hx
  obtain ⟨t, n, j, f, _⟩ := hy
  obtain ⟨b, hb⟩ : ∃ b, b = min i j := ⟨_, rfl⟩
  have e1 : V x = (signed s m (i - b).toNat : Int) * p2 b := by
    unfold V; rw [e, signed_val, show b + ((i - b).toNat : Int) = i by omega]; rfl
  have e2 : V y = (signed t n (j - b).toNat : Int) * p2 b := by
    unfold V; rw [f, signed_val, show b + ((j - b).toNat : Int) = j by omega]; rfl
  refine ⟨compare (signed s m (i - b).toNat) (signed t n (j - b).toNat), ?_, ?_⟩
  · unfold Format.order Datum.order; rw [e, f]; dsimp only; rw [← hb]
  rw [e1, e2]
  generalize signed s m (i - b).toNat = S
  generalize signed t n (j - b).toNat = T
  have pb := p2_pos b
  have q1 : ∀ A C : Int, (A : Rat) * p2 b < C * p2 b ↔ A < C := by
    intro A C
    rw [Rat.mul_lt_mul_right pb, Rat.intCast_lt_intCast]
  have q2 : (S : Rat) * p2 b = T * p2 b ↔ S = T := by
    have a1 := q1 S T
    have a2 := q1 T S
    constructor
    · intro h; rw [h] at a1 a2
      have b1 : ¬ S < T := fun k => absurd (a1.2 k) (by grind)
      have b2 : ¬ T < S := fun k => absurd (a2.2 k) (by grind)
      omega
    · rintro rfl; rfl
  rw [q1, q1, q2, compare, instOrdInt]
  simp only [compareOfLessAndEq]
  split
  · simp; omega
  · split
    · simp; omega
    · simp; omega
theorem ofInt (n : Int) (h : n.natAbs < 9007199254740992) :
    Fin (double.write (.number (n < 0) n.natAbs 0)) ∧ V (double.write (.number (n < 0) n.natAbs 0)) = n := by
  have e : (n : Rat) = sg (decide (n < 0)) * (n.natAbs * p2 0) := by
    rw [show p2 0 = 1 from rfl]
    by_cases c : n < 0
    · rw [decide_eq_true c]; unfold sg; rw [if_pos rfl]
      have : n = -((n.natAbs : Nat) : Int) := by omega
      have h2 := congrArg (fun z : Int => (z : Rat)) this
      rw [Rat.intCast_neg, Rat.intCast_natCast] at h2
      rw [h2]; simp; grind
    · rw [decide_eq_false c]; unfold sg; simp
      have : n = ((n.natAbs : Nat) : Int) := by omega
      exact congrArg (fun z : Int => (z : Rat)) this
  rw [e]
  have := nearest_near (decide (n < 0)) n.natAbs 0 53 (by decide) (by decide) (by
    rw [show p2 0 = 1 from rfl, Rat.mul_one, show (53 : Int) = ((53 : Nat) : Int) from rfl, p2_nat]
    exact Rat.natCast_lt_natCast.2 h)
  exact ⟨this.1, this.2.2 h (by decide)⟩
theorem quo_nat (D n : Nat) (hn : 0 < n) : (2 * (D / n) + (D % n != 0).toNat) * n ≤ 2 * D + n ∧ 2 * D ≤ (2 * (D / n) + (D % n != 0).toNat) * n + n := by
  have e := Nat.div_add_mod D n
  have lt := Nat.mod_lt D hn
  have h : (2 * (D / n) + (D % n != 0).toNat) * n = 2 * (n * (D / n)) + (D % n != 0).toNat * n := by rw [Nat.add_mul]; congr 1; rw [Nat.mul_assoc, Nat.mul_comm (D / n) n]
  rw [h]
  generalize n * (D / n) = z at *
  generalize D % n = r at *
  by_cases c : r = 0
  · subst c; simp; omega
  · have : (r != 0) = true := by simp [c]
    rw [this]; simp; omega
theorem sg_sq (s : Bool) : sg s * sg s = 1 := by cases s <;> simp [sg] <;> grind
theorem near_sg (s : Bool) {a b e : Rat} (h : Near a b e) : Near (sg s * a) (sg s * b) e := by
  unfold Near sg at *; cases s <;> simp <;> grind
theorem abs_sg (s : Bool) {a b : Rat} (h : a < b ∧ -b < a) : sg s * a < b ∧ -b < sg s * a := by
  unfold sg at *; cases s <;> simp <;> grind
theorem div_near {x y : Nat} (hx : Fin x) (hy : Fin y) (B : Int) (h0 : -900 ≤ B) (h1 : B ≤ 900) (Q : Rat) (hQ : V x = Q * V y) (hz : V y ≠ 0) (hs : Q < p2 B ∧ -p2 B < Q) :
    ∃ r, double.div x y = some r ∧ Fin r ∧ Near (V r) Q (p2 (B - 51)) := by
  obtain ⟨s, m, i, e, hm⟩ := hx
  obtain ⟨t, n, j, f, hn⟩ := hy
  have ex : V x = sg s * (m * p2 i) := by unfold V; rw [e]; rfl
  have ey : V y = sg t * (n * p2 j) := by unfold V; rw [f]; rfl
  have n0 : n ≠ 0 := by rintro rfl; rw [ey] at hz; simp at hz
  obtain ⟨M, hM⟩ : ∃ M, M = 54 + n.log2 - m.log2 := ⟨_, rfl⟩
  obtain ⟨q', hq'⟩ : ∃ q', q' = 2 * ((m <<< M) / n) + ((m <<< M) % n != 0).toNat := ⟨_, rfl⟩
  have ed : (double.read x).quotient (double.fractionBits + 2) (double.read y) = some (.number (s ^^ t) q' (i - j - M - 1)) := by
    rw [e, f]; unfold Datum.quotient; dsimp only; rw [if_neg n0]
    rw [show double.fractionBits + 2 + n.log2 - m.log2 = M from hM.symm, ← hq']
  unfold Format.div
  rw [ed]
  obtain ⟨q, hq⟩ : ∃ q, q = sg (s ^^ t) * Q := ⟨_, rfl⟩
  have eQ : Q = sg (s ^^ t) * q := by rw [hq]; have := sg_sq (s ^^ t); grind
  have hqs := abs_sg (s ^^ t) hs
  rw [← hq] at hqs
  have k1 : q * (n * p2 j) = m * p2 i := by
    rw [hq, sg_mul]; rw [ex, ey] at hQ
    have a1 := sg_sq s
    have a2 := sg_sq t
    grind
  have np : 0 < (n : Rat) := Rat.natCast_pos.2 (by omega)
  have pj := p2_pos j
  obtain ⟨P, hP⟩ : ∃ P, P = i - j - M - 1 := ⟨_, rfl⟩
  rw [← hP]
  have k2 : q * n = 2 * (m * p2 M * p2 P) := by
    have : p2 i = 2 * (p2 M * p2 P) * p2 j := by
      rw [← p2_add, ← p2_succ, ← p2_add]; congr 1; omega
    rw [this] at k1
    have : (q * n - 2 * (m * p2 M * p2 P)) * p2 j = 0 := by grind
    rcases Rat.mul_eq_zero.1 this with h | h <;> grind
  have pP := p2_pos P
  have pb := p2_pos (B - 55)
  have s1 : p2 (B - 54) = 2 * p2 (B - 55) := by rw [← p2_succ]; congr 1; omega
  have s2 : p2 (B - 53) = 2 * p2 (B - 54) := by rw [← p2_succ]; congr 1; omega
  have s3 : p2 (B - 52) = 2 * p2 (B - 53) := by rw [← p2_succ]; congr 1; omega
  have s4 : p2 (B - 51) = 2 * p2 (B - 52) := by rw [← p2_succ]; congr 1; omega
  have s5 : p2 (B + 1) = 2 * p2 B := by rw [← p2_succ]
  have s6 : p2 (B - 52) ≤ p2 B := p2_mono (by omega)
  have main : Near (q' * p2 P) q (p2 (B - 55)) := by
    by_cases m0 : m = 0
    · subst m0
      have : q' = 0 := by rw [hq']; simp
      subst this
      have : q * n = 0 := by rw [k2]; simp
      rcases Rat.mul_eq_zero.1 this with h | h
      · subst h; simp; unfold Near; grind
      · grind
    obtain ⟨c1, c2⟩ := quo_nat (m <<< M) n (by omega)
    rw [← hq', Nat.shiftLeft_eq] at c1 c2
    have e1 := Rat.natCast_le_natCast.2 c1
    have e2 := Rat.natCast_le_natCast.2 c2
    simp only [Rat.natCast_add, Rat.natCast_mul, nat_p2] at e1 e2
    rw [show ((2 : Nat) : Rat) = 2 from rfl] at e1 e2
    have f1 := Rat.mul_le_mul_of_nonneg_right e1 (Rat.le_of_lt pP)
    have f2 := Rat.mul_le_mul_of_nonneg_right e2 (Rat.le_of_lt pP)
    have g1 : (q' * p2 P - q - p2 P) * n ≤ 0 * n := by grind
    have g2 : (q - q' * p2 P - p2 P) * n ≤ 0 * n := by grind
    have h1 := Rat.le_of_mul_le_mul_right g1 np
    have h2 := Rat.le_of_mul_le_mul_right g2 np
    have hP2 : p2 (54 + P) < p2 B := by
      have l0 : 2 ^ m.log2 ≤ m := Nat.log2_self_le m0
      have l1 : n < 2 ^ (n.log2 + 1) := Nat.lt_log2_self
      have c : n * 2 ^ 54 ≤ 2 * (m * 2 ^ M) := by
        calc n * 2 ^ 54 ≤ 2 ^ (n.log2 + 1) * 2 ^ 54 := Nat.mul_le_mul_right _ (Nat.le_of_lt l1)
          _ = 2 ^ (n.log2 + 55) := by rw [← Nat.pow_add]
          _ ≤ 2 ^ (m.log2 + M + 1) := Nat.pow_le_pow_right (by decide) (by omega)
          _ = 2 * (2 ^ m.log2 * 2 ^ M) := by rw [← Nat.pow_add, Nat.pow_succ, Nat.mul_comm]
          _ ≤ _ := Nat.mul_le_mul_left _ (Nat.mul_le_mul_right _ l0)
      have d := Rat.natCast_le_natCast.2 c
      simp only [Rat.natCast_mul, nat_p2] at d
      rw [show ((2 : Nat) : Rat) = 2 from rfl] at d
      have d2 := Rat.mul_le_mul_of_nonneg_right d (Rat.le_of_lt pP)
      rw [p2_add]
      have : (p2 54 * p2 P) * n ≤ q * n := by rw [k2]; rw [show ((54 : Nat) : Int) = 54 from rfl] at d2; grind
      have := Rat.le_of_mul_le_mul_right this np
      grind
    have := p2_lt hP2
    have := p2_mono (a := P) (b := B - 55) (by omega)
    unfold Near; grind
  have ev : val (.number (s ^^ t) q' P) = sg (s ^^ t) * (q' * p2 P) := rfl
  have nr := near_sg (s ^^ t) main
  rw [← eQ] at nr
  obtain ⟨a, b⟩ := write_near (.number (s ^^ t) q' P) _ _ _ rfl (B + 1) (by omega) (by omega) (by rw [ev]; unfold Near at *; grind) (by rw [ev]; unfold Near at *; grind)
  refine ⟨_, rfl, a, ?_⟩
  rw [ev, show B + 1 - 53 = B - 52 by omega] at b
  unfold Near at *; grind
theorem abs_word {y : Nat} (hy : Fin y) : Fin (y % 9223372036854775808) ∧ 0 ≤ V (y % 9223372036854775808) ∧ (V (y % 9223372036854775808) = V y ∨ V (y % 9223372036854775808) = -V y) := by
  obtain ⟨s, m, p, e, hm⟩ := hy
  have hw : double.signWeight = 9223372036854775808 := by decide
  have r : double.read (y % 9223372036854775808) = .number false m p := by
    unfold Format.read at e ⊢
    rw [hw] at e ⊢
    dsimp only at e ⊢
    have e1 : y % 9223372036854775808 / 9223372036854775808 = 0 := Nat.div_eq_of_lt (Nat.mod_lt _ (by decide))
    rw [Nat.mod_mod, e1]
    split at e
    · cases e; rw [if_pos (by assumption)]; rfl
    · rw [if_neg (by assumption)]
      split at e
      · cases e; rw [if_pos (by assumption)]; rfl
      · split at e <;> cases e
  refine ⟨⟨_, _, _, r, hm⟩, ?_⟩
  have h1 : V (y % 9223372036854775808) = m * p2 p := by unfold V; rw [r]; simp [val, sg]
  have h2 : V y = sg s * (m * p2 p) := by unfold V; rw [e]; rfl
  have h3 : 0 ≤ (m : Rat) * p2 p := Rat.mul_nonneg Rat.natCast_nonneg (Rat.le_of_lt (p2_pos p))
  rw [h1, h2]
  refine ⟨h3, ?_⟩
  unfold sg; cases s <;> simp <;> grind
theorem const_val {x m n : Nat} {r : Rat} (s : Bool) (h : double.read x = .number s m (-(n : Int))) (hm : m < 9007199254740992) (hv : sg s * (m : Rat) = r * ((2 ^ n : Nat) : Rat)) : Fin x ∧ V x = r := by
  refine ⟨⟨_, _, _, h, hm⟩, ?_⟩
  unfold V; rw [h]; simp only [val]
  have e1 : p2 (-(n : Int)) * p2 n = 1 := by rw [← p2_add, Int.add_left_neg]; rfl
  rw [nat_p2] at hv
  have : sg s * (m * p2 (-(n : Int))) = r * (p2 (-(n : Int)) * p2 n) := by grind
  rw [this, e1, Rat.mul_one]
theorem c15 : Fin 4609434218613702656 ∧ V 4609434218613702656 = 3 / 2 := const_val (m := 6755399441055744) (n := 52) false (by decide) (by decide) (by simp [sg] <;> grind)
theorem c25 : Fin 4612811918334230528 ∧ V 4612811918334230528 = 5 / 2 := const_val (m := 5629499534213120) (n := 51) false (by decide) (by decide) (by simp [sg] <;> grind)
theorem c1 : Fin 4607182418800017408 ∧ V 4607182418800017408 = 1 := const_val (m := 4503599627370496) (n := 52) false (by decide) (by decide) (by simp [sg] <;> grind)
theorem cm05 : Fin 13826050856027422720 ∧ V 13826050856027422720 = -1 / 2 := const_val (m := 4503599627370496) (n := 53) true (by decide) (by decide) (by simp [sg] <;> grind)
theorem c4 : Fin 4616189618054758400 ∧ V 4616189618054758400 = 4 := const_val (m := 4503599627370496) (n := 50) false (by decide) (by decide) (by simp [sg] <;> grind)
theorem c2 : Fin 4611686018427387904 ∧ V 4611686018427387904 = 2 := const_val (m := 4503599627370496) (n := 51) false (by decide) (by decide) (by simp [sg] <;> grind)
theorem c30 : Fin 4742290407621132288 ∧ V 4742290407621132288 = 1073741824 := const_val (m := 4503599627370496) (n := 22) false (by decide) (by decide) (by simp [sg] <;> grind)
theorem p2_num (n m : Nat) (h : 2 ^ n = m) : p2 (n : Int) = (m : Rat) := by rw [p2_nat, h]
theorem p2_inv (n m : Nat) (h : 2 ^ n = m) : p2 (-(n : Int)) * (m : Rat) = 1 := by rw [← h, nat_p2, ← p2_add, Int.add_left_neg]; rfl
/-- A product of two that are bounded. -/
theorem mulb {a b α β : Rat} (ha : -α ≤ a ∧ a ≤ α) (hb : -β ≤ b ∧ b ≤ β) : -(α * β) ≤ a * b ∧ a * b ≤ α * β := by
  have h1 := Rat.mul_nonneg (show 0 ≤ α - a by grind) (show 0 ≤ β + b by grind)
  have h2 := Rat.mul_nonneg (show 0 ≤ α + a by grind) (show 0 ≤ β - b by grind)
  have h3 := Rat.mul_nonneg (show 0 ≤ α - a by grind) (show 0 ≤ β - b by grind)
  have h4 := Rat.mul_nonneg (show 0 ≤ α + a by grind) (show 0 ≤ β + b by grind)
  constructor <;> grind
/-- One operation among small numbers. -/
theorem mul6 {x y : Nat} (hx : Fin x) (hy : Fin y) (hs : -60 ≤ V x * V y ∧ V x * V y ≤ 60) : ∃ r, double.mul x y = some r ∧ Fin r ∧ ∃ e, V r = V x * V y + e ∧ -(1 / 140737488355328) ≤ e ∧ e ≤ 1 / 140737488355328 := by
  have q : p2 6 = 64 := p2_num 6 64 (by decide)
  have q2 : p2 (-47) * 140737488355328 = 1 := p2_inv 47 140737488355328 (by decide)
  obtain ⟨r, h1, h2, h3⟩ := mul_near hx hy 6 (by decide) (by decide) (by grind)
  rw [show (6 : Int) - 53 = -47 by decide] at h3
  unfold Near at h3
  exact ⟨r, h1, h2, V r - V x * V y, by grind, by grind, by grind⟩
theorem add6 {x y : Nat} (hx : Fin x) (hy : Fin y) (hs : -60 ≤ V x + V y ∧ V x + V y ≤ 60) : ∃ r, double.add x y = some r ∧ Fin r ∧ ∃ e, V r = V x + V y + e ∧ -(1 / 140737488355328) ≤ e ∧ e ≤ 1 / 140737488355328 := by
  have q : p2 6 = 64 := p2_num 6 64 (by decide)
  have q2 : p2 (-47) * 140737488355328 = 1 := p2_inv 47 140737488355328 (by decide)
  obtain ⟨r, h1, h2, h3⟩ := add_near hx hy 6 (by decide) (by decide) (by grind)
  rw [show (6 : Int) - 53 = -47 by decide] at h3
  unfold Near at h3
  exact ⟨r, h1, h2, V r - (V x + V y), by grind, by grind, by grind⟩
theorem sub6 {x y : Nat} (hx : Fin x) (hy : Fin y) (hs : -60 ≤ V x - V y ∧ V x - V y ≤ 60) : ∃ r, double.sub x y = some r ∧ Fin r ∧ ∃ e, V r = V x - V y + e ∧ -(1 / 140737488355328) ≤ e ∧ e ≤ 1 / 140737488355328 := by
  have q : p2 6 = 64 := p2_num 6 64 (by decide)
  have q2 : p2 (-47) * 140737488355328 = 1 := p2_inv 47 140737488355328 (by decide)
  obtain ⟨r, h1, h2, h3⟩ := sub_near hx hy 6 (by decide) (by decide) (by grind)
  rw [show (6 : Int) - 53 = -47 by decide] at h3
  unfold Near at h3
  exact ⟨r, h1, h2, V r - (V x - V y), by grind, by grind, by grind⟩
/-- float64 of a whole number. -/
def flo (n : Int) : Nat := double.write (.number (n < 0) n.natAbs 0)
/-- The nearest whole number k lies by the polynomial's value v. -/
def Tail (v : Nat) (k : Int) : Prop := ∃ z y o, double.mul v 4742290407621132288 = some z ∧ double.sub (flo k) z = some y ∧ double.order (y % 9223372036854775808) 4611686018427387904 = some o ∧ o ≠ .gt
theorem tail (v : Nat) (k : Int) (P : Rat) (hv : Fin v) (h1 : V v - P ≤ 1 / 274877906944 ∧ P - V v ≤ 1 / 274877906944) (h2 : (k : Rat) - P * 1073741824 ≤ 1 / 2 ∧ P * 1073741824 - k ≤ 1 / 2) (h3 : -50 ≤ P ∧ P ≤ 50) : Tail v k := by
  have hk : k.natAbs < 9007199254740992 := by
    have a1 : (k : Rat) ≤ ((1099511627776 : Int) : Rat) := by rw [show ((1099511627776 : Int) : Rat) = 1099511627776 from rfl]; grind
    have a2 : ((-1099511627776 : Int) : Rat) ≤ (k : Rat) := by rw [show ((-1099511627776 : Int) : Rat) = -1099511627776 from rfl]; grind
    have := Rat.intCast_le_intCast.1 a1
    have := Rat.intCast_le_intCast.1 a2
    omega
  obtain ⟨f1, f2⟩ := ofInt k hk
  obtain ⟨g1, g2⟩ := c30
  have q : p2 36 = 68719476736 := p2_num 36 68719476736 (by decide)
  have q2 : p2 (-17) * 131072 = 1 := p2_inv 17 131072 (by decide)
  obtain ⟨z, e1, e2, e3⟩ := mul_near hv g1 36 (by decide) (by decide) (by rw [g2, q]; grind)
  rw [show (36 : Int) - 53 = -17 by decide, g2] at e3
  have q3 : p2 2 = 4 := p2_num 2 4 (by decide)
  have q4 : p2 (-51) * 2251799813685248 = 1 := p2_inv 51 2251799813685248 (by decide)
  unfold Near at e3
  obtain ⟨y, e4, e5, e6⟩ := sub_near f1 e2 2 (by decide) (by decide) (by rw [f2, q3]; grind)
  rw [show (2 : Int) - 53 = -51 by decide, f2] at e6
  unfold Near at e6
  obtain ⟨w1, w2, w3⟩ := abs_word e5
  obtain ⟨i1, i2⟩ := c2
  obtain ⟨o, o1, o2, o3, o4⟩ := order_num w1 i1
  refine ⟨z, y, o, e1, e4, o1, fun h => ?_⟩
  have := o4.1 h
  rw [i2] at this
  rcases w3 with w3 | w3 <;> rw [w3] at this <;> grind
/-- The walk's chain of operations. -/
def Chain (a d k : Int) : Prop := ∃ q, double.div (flo a) (flo d) = some q ∧ ∃ x, x = q % 9223372036854775808 ∧ ∃ t1 t2 t3 u1 u2 v1 v, double.mul 4609434218613702656 x = some t1 ∧ double.mul t1 x = some t2 ∧ double.mul t2 x = some t3 ∧ double.mul 4612811918334230528 x = some u1 ∧ double.mul u1 x = some u2 ∧ double.sub t3 u2 = some v1 ∧ double.add v1 4607182418800017408 = some v ∧ ∃ o, double.order x 4607182418800017408 = some o ∧ (o = .lt → Tail v k) ∧ (o ≠ .lt → ∃ s1 s2 s3 v2 w v3 v4, double.mul 13826050856027422720 x = some s1 ∧ double.mul s1 x = some s2 ∧ double.mul s2 x = some s3 ∧ double.add s3 u2 = some v2 ∧ double.mul 4616189618054758400 x = some w ∧ double.sub v2 w = some v3 ∧ double.add v3 4611686018427387904 = some v4 ∧ Tail v4 k)
theorem half_near {v P : Rat} (h : v - P ≤ 1 / 549755813888 ∧ P - v ≤ 1 / 549755813888) : v - P ≤ 1 / 274877906944 ∧ P - v ≤ 1 / 274877906944 := by grind
theorem near_one {v X : Rat} (h : v - (-1 / 2 * X * X * X + 5 / 2 * X * X - 4 * X + 2) ≤ 1 / 549755813888 ∧ (-1 / 2 * X * X * X + 5 / 2 * X * X - 4 * X + 2) - v ≤ 1 / 549755813888)
    (bD : -(1 / 1125899906842624) ≤ X - 1 ∧ X - 1 ≤ 1 / 1125899906842624) : v - (3 / 2 * X * X * X - 5 / 2 * X * X + 1) ≤ 1 / 274877906944 ∧ (3 / 2 * X * X * X - 5 / 2 * X * X + 1) - v ≤ 1 / 274877906944 := by
  have bD2 := mulb bD bD
  have bD3 := mulb bD2 bD
  constructor <;> grind
theorem chain (a d k A : Int) (hd : 1 ≤ d ∧ d ≤ 262144) (ha : -(2 * d) < a ∧ a < 2 * d) (hA : 0 ≤ A ∧ (A = a ∨ A = -a)) (abv : Int)
    (hab : abv = if A ≥ d then -(A * A * A) + 5 * (A * A * d) - 8 * (A * d * d) + 4 * (d * d * d) else 3 * (A * A * A) - 5 * (A * A * d) + 2 * (d * d * d))
    (hk1 : k * (2 * (d * d * d)) ≤ abv * 1073741824 + d * d * d) (hk2 : abv * 1073741824 ≤ k * (2 * (d * d * d)) + d * d * d) : Chain a d k := by
  obtain ⟨fa, va⟩ := ofInt a (by omega)
  obtain ⟨fd, vd⟩ := ofInt d (by omega)
  have dp : 0 < (d : Rat) := Rat.intCast_pos.2 (by omega)
  have dz : (d : Rat) ≠ 0 := by grind
  obtain ⟨Q, hQ⟩ : ∃ Q : Rat, Q = a * (d : Rat)⁻¹ := ⟨_, rfl⟩
  have hQd : (a : Rat) = Q * d := by rw [hQ, Rat.mul_assoc, Rat.inv_mul_cancel _ dz, Rat.mul_one]
  have hl : (a : Rat) < 2 * d := by
    have := Rat.intCast_lt_intCast.2 ha.2
    rwa [Rat.intCast_mul] at this
  have hg : -(2 * d) < (a : Rat) := by
    have := Rat.intCast_lt_intCast.2 ha.1
    rwa [Rat.intCast_neg, Rat.intCast_mul] at this
  have Q2 : Q < 2 := Rat.lt_of_mul_lt_mul_right (show Q * d < 2 * d by grind) (Rat.le_of_lt dp)
  have Q1 : -2 < Q := Rat.lt_of_mul_lt_mul_right (show -2 * d < Q * d by grind) (Rat.le_of_lt dp)
  have r1 : p2 1 = 2 := p2_num 1 2 (by decide)
  have r2 : p2 (-50) * 1125899906842624 = 1 := p2_inv 50 1125899906842624 (by decide)
  obtain ⟨q, e1, e2, e3⟩ := div_near fa fd 1 (by decide) (by decide) Q (by rw [va, vd]; exact hQd) (by rw [vd]; exact dz) (by rw [r1]; grind)
  rw [show (1 : Int) - 51 = -50 by decide] at e3
  refine ⟨q, e1, _, rfl, ?_⟩
  obtain ⟨x1, x2, x3⟩ := abs_word e2
  obtain ⟨x, hx⟩ : ∃ x, x = q % 9223372036854775808 := ⟨_, rfl⟩
  rw [← hx] at x1 x2 x3 ⊢
  obtain ⟨X, hX⟩ : ∃ X : Rat, X = A * (d : Rat)⁻¹ := ⟨_, rfl⟩
  have hXd : (A : Rat) = X * d := by rw [hX, Rat.mul_assoc, Rat.inv_mul_cancel _ dz, Rat.mul_one]
  have X0 : 0 ≤ X := by
    have := Rat.intCast_nonneg.2 hA.1
    refine Rat.le_of_mul_le_mul_right (show 0 * (d : Rat) ≤ X * d by grind) dp
  have XQ : X = Q ∨ X = -Q := by
    rcases hA.2 with h | h
    · left; rw [hX, hQ, h]
    · right; rw [hX, hQ, h, Rat.intCast_neg]; grind
  have X2 : X < 2 := by rcases XQ with h | h <;> grind
  obtain ⟨δ, hδ⟩ : ∃ δ, δ = V x - X := ⟨_, rfl⟩
  have dl : -(1 / 1125899906842624) ≤ δ ∧ δ ≤ 1 / 1125899906842624 := by
    unfold Near at e3
    rcases XQ with h | h <;> rcases x3 with g | g <;> rw [hδ] <;> grind
  have hVx : V x = X + δ := by grind
  -- the exact value
  obtain ⟨P, hP⟩ : ∃ P : Rat, P = if A ≥ d then -1 / 2 * X * X * X + 5 / 2 * X * X - 4 * X + 2 else 3 / 2 * X * X * X - 5 / 2 * X * X + 1 := ⟨_, rfl⟩
  have d3 : 0 < (d : Rat) * d * d := Rat.mul_pos (Rat.mul_pos dp dp) dp
  have hPa : (abv : Rat) = P * (2 * (d * d * d)) := by
    rw [hab, hP]
    split
    · simp only [Rat.intCast_add, Rat.intCast_sub, Rat.intCast_mul, Rat.intCast_neg, hXd]
      rw [show ((5 : Int) : Rat) = 5 from rfl, show ((8 : Int) : Rat) = 8 from rfl, show ((4 : Int) : Rat) = 4 from rfl]; grind
    · simp only [Rat.intCast_add, Rat.intCast_sub, Rat.intCast_mul, hXd]
      rw [show ((5 : Int) : Rat) = 5 from rfl, show ((3 : Int) : Rat) = 3 from rfl, show ((2 : Int) : Rat) = 2 from rfl]; grind
  have k1 := Rat.intCast_le_intCast.2 hk1
  have k2 := Rat.intCast_le_intCast.2 hk2
  simp only [Rat.intCast_add, Rat.intCast_mul, hPa] at k1 k2
  rw [show ((1073741824 : Int) : Rat) = 1073741824 from rfl, show ((2 : Int) : Rat) = 2 from rfl] at k1 k2
  have K1 : (k : Rat) - P * 1073741824 ≤ 1 / 2 := Rat.le_of_mul_le_mul_right (show ((k : Rat) - P * 1073741824) * (d * d * d) ≤ 1 / 2 * (d * d * d) by grind) d3
  have K2 : P * 1073741824 - (k : Rat) ≤ 1 / 2 := Rat.le_of_mul_le_mul_right (show (P * 1073741824 - (k : Rat)) * (d * d * d) ≤ 1 / 2 * (d * d * d) by grind) d3
  have cA : A ≥ d → 1 ≤ X := fun h => by
    have := Rat.intCast_le_intCast.2 h
    exact Rat.le_of_mul_le_mul_right (show 1 * (d : Rat) ≤ X * d by grind) dp
  have cB : ¬ A ≥ d → X < 1 := fun h => by
    have := Rat.intCast_lt_intCast.2 (show A < d by omega)
    exact Rat.lt_of_mul_lt_mul_right (show X * (d : Rat) < 1 * d by grind) (Rat.le_of_lt dp)
  clear hab hk1 hk2 k1 k2 hPa d3 e3 x3 hXd hX hQ hQd hl hg Q2 Q1 r1 r2 dz dp va vd fa fd XQ hδ e1 e2 hx
  have bX : -2 ≤ X ∧ X ≤ 2 := by grind
  have bx : -(5 / 2) ≤ V x ∧ V x ≤ 5 / 2 := by grind
  have bXX := mulb bX bX
  have bXXX := mulb bXX bX
  have bδX := mulb dl bX
  have bδXX := mulb bδX bX
  have bδδ := mulb dl dl
  have bδδX := mulb bδδ bX
  have bδδδ := mulb bδδ dl
  have bxx := mulb bx bx
  obtain ⟨a1, a2⟩ := c15
  obtain ⟨t1, g1, f1, w1, h1, q1⟩ := mul6 a1 x1 (by rw [a2]; grind)
  rw [a2] at h1
  have b1 := mulb q1 bx
  have b1' := mulb b1 bx
  obtain ⟨t2, g2, f2, w2, h2, q2⟩ := mul6 f1 x1 (by rw [h1]; constructor <;> grind)
  have b2 := mulb q2 bx
  have bxxx := mulb bxx bx
  obtain ⟨t3, g3, f3, w3, h3, q3⟩ := mul6 f2 x1 (by rw [h2, h1]; constructor <;> grind)
  obtain ⟨a3, a4⟩ := c25
  obtain ⟨u1, g4, f4, w4, h4, q4⟩ := mul6 a3 x1 (by rw [a4]; grind)
  rw [a4] at h4
  have b4 := mulb q4 bx
  obtain ⟨u2, g5, f5, w5, h5, q5⟩ := mul6 f4 x1 (by rw [h4]; constructor <;> grind)
  rw [h1] at h2
  rw [h2] at h3
  rw [h4] at h5
  obtain ⟨v1, g6, f6, w6, h6, q6⟩ := sub6 f3 f5 (by rw [h3, h5]; constructor <;> grind)
  obtain ⟨a5, a6⟩ := c1
  rw [h3, h5] at h6
  obtain ⟨v, g7, f7, w7, h7, q7⟩ := add6 f6 a5 (by rw [h6, a6]; constructor <;> grind)
  rw [h6, a6] at h7
  refine ⟨t1, t2, t3, u1, u2, v1, v, g1, g2, g3, g4, g5, g6, g7, ?_⟩
  obtain ⟨o, o1, o2, o3, o4⟩ := order_num x1 a5
  rw [a6] at o2 o3 o4
  refine ⟨o, o1, fun ho => ?_, fun ho => ?_⟩
  · have lt := o2.1 ho
    refine tail v k P f7 ?_ ⟨K1, K2⟩ (by rw [hP]; split <;> constructor <;> grind)
    have m1 : V v - (3 / 2 * X * X * X - 5 / 2 * X * X + 1) ≤ 1 / 549755813888 ∧ (3 / 2 * X * X * X - 5 / 2 * X * X + 1) - V v ≤ 1 / 549755813888 := by
      rw [h7]
      clear h1 h2 h3 h4 h5 h6 h7 o2 o3 o4 K1 K2 hP
      rw [hVx] at b1 b1' b2 b4 ⊢
      constructor <;> grind
    rw [hP]
    split
    · rename_i c
      have := cA c
      have bD : -(1 / 1125899906842624) ≤ X - 1 ∧ X - 1 ≤ 1 / 1125899906842624 := by grind
      have bD2 := mulb bD bD
      have bD3 := mulb bD2 bD
      clear h1 h2 h3 h4 h5 h6 h7 o2 o3 o4 K1 K2 hP b1 b1' b2 b4 bδX bδXX bδδ bδδX bδδδ bxx bxxx
      constructor <;> grind
    · grind
  · have ge : 1 ≤ V x := by
      rcases Rat.le_total (a := 1) (b := V x) with h | h
      · exact h
      · by_cases e : V x = 1
        · grind
        · exact absurd (o2.2 (by grind)) ho
    obtain ⟨a7, a8⟩ := cm05
    obtain ⟨s1, g8, f8, w8, h8, q8⟩ := mul6 a7 x1 (by rw [a8]; grind)
    rw [a8] at h8
    have b8 := mulb q8 bx
    have b8' := mulb b8 bx
    obtain ⟨s2, g9, f9, w9, h9, q9⟩ := mul6 f8 x1 (by rw [h8]; constructor <;> grind)
    have b9 := mulb q9 bx
    rw [h8] at h9
    obtain ⟨s3, g10, f10, w10, h10, q10⟩ := mul6 f9 x1 (by rw [h9]; constructor <;> grind)
    rw [h9] at h10
    clear h6 h7 h3 h2 h1
    obtain ⟨v2, g11, f11, w11, h11, q11⟩ := add6 f10 f5 (by rw [h10, h5]; constructor <;> grind)
    rw [h10, h5] at h11
    obtain ⟨a9, a10⟩ := c4
    obtain ⟨w, g12, f12, w12, h12, q12⟩ := mul6 a9 x1 (by rw [a10]; constructor <;> grind)
    rw [a10] at h12
    obtain ⟨v3, g13, f13, w13, h13, q13⟩ := sub6 f11 f12 (by rw [h11, h12]; constructor <;> grind)
    rw [h11, h12] at h13
    obtain ⟨a11, a12⟩ := c2
    obtain ⟨v4, g14, f14, w14, h14, q14⟩ := add6 f13 a11 (by rw [h13, a12]; constructor <;> grind)
    rw [h13, a12] at h14
    refine ⟨s1, s2, s3, v2, w, v3, v4, g8, g9, g10, g11, g12, g13, g14, ?_⟩
    refine tail v4 k P f14 ?_ ⟨K1, K2⟩ (by rw [hP]; split <;> constructor <;> grind)
    have m1 : V v4 - (-1 / 2 * X * X * X + 5 / 2 * X * X - 4 * X + 2) ≤ 1 / 549755813888 ∧ (-1 / 2 * X * X * X + 5 / 2 * X * X - 4 * X + 2) - V v4 ≤ 1 / 549755813888 := by
      rw [h14]
      clear h4 h5 h8 h9 h10 h11 h12 h13 h14 o2 o3 o4 K1 K2 hP b1 b1' b2
      rw [hVx] at b8 b8' b9 b4 ⊢
      constructor <;> grind
    rw [hP]
    split
    · exact half_near m1
    · rename_i c
      have c := cB c
      have bD : -(1 / 1125899906842624) ≤ X - 1 ∧ X - 1 ≤ 1 / 1125899906842624 := by
        rw [hVx] at ge
        clear m1 h4 h5 h8 h9 h10 h11 h12 h13 h14 o2 o3 o4 K1 K2 hP b1 b1' b2 b4 b8 b8' b9 bδX bδXX bδδ bδδX bδδδ bxx bxxx bXX bXXX bX bx
        constructor <;> grind
      exact near_one m1 bD
end Go.Proofs.YtbbheemfjfkagaaDoor.Fl
