/- What functions of the program come to, in plain numbers. -/
import Derived.Test.YtabojpnelbmifaaQAx1
import Derived.Test.YtabojpnelbmifaaQAx2
import Derived.Test.YtabojpnelbmifaaTCore
import Derived.Test.YtabojpnelbmifaaTExt
namespace Go.Proofs.Ytabojpnelbmifaa.QA
open Go.RowKit Go.Proofs.YtabojpnelbmifaaW.PrintWords Go.Proofs.YtabojpnelbmifaaW.PrintLast Go.Proofs.YtabojpnelbmifaaW.PrintMore Go.Proofs.Ytabojpnelbmifaa.T
set_option linter.unusedVariables false

theorem fixed_size_eq {a : Int} (ha : I64 a) : fixed_size.f a = some (siz a) := by
  unfold fixed_size.f siz
  simp only [u64w]
  split
  · congr 1; omega
  · congr 1; omega

theorem fixed_hold_eq {k : Nat} (hk : 1 ≤ k) {m : Int} (h0 : 0 ≤ m) (h1 : m < 18446744073709551616) (b : Bool) : fixed_hold.f k m b = some (hold (sgn b m)) := by
  obtain ⟨k, rfl⟩ : ∃ n, k = n + 1 := ⟨k - 1, by omega⟩
  unfold fixed_hold.f fixed_hold.j0 sgn hold
  cases b
  · simp only [Bool.false_eq_true, if_false]
    rw [if_neg (show ¬ m < -9223372036854775808 from by omega)]
    split
    · rfl
    · congr 1; unfold wrap64; omega
  · simp only [if_true]
    by_cases h : m ≥ 9223372036854775808
    · rw [if_pos (decide_eq_true h)]
      split
      · rfl
      · rw [if_neg (by omega)]; congr 1; omega
    · rw [if_neg (by simpa using h), if_neg (by omega), if_neg (by omega)]
      congr 1; unfold wrap64; omega

theorem fixed_Floor_eq {k : Nat} (hk : 1 ≤ k) {a b : Int} (ha : I64 a) (hb : I64 b) : fixed_Floor.f k a b = some (hold (flo a b)) := by
  unfold fixed_Floor.f
  by_cases hb0 : b = 0
  · rw [if_pos hb0, hb0]; simp [flo, hold]
  rw [if_neg hb0, fixed_size_eq ha, fixed_size_eq hb]
  simp only [Option.bind_some]
  have ua := siz_u ha
  have ub := siz_u hb
  have ub0 : siz b ≠ 0 := fun h => hb0 (siz_zero.1 h)
  simp only [if_neg ub0]
  have e := flo_xor (decide (a < 0)) b (siz a) hb0
  rw [sgn_siz a, flo_sgn _ (by omega)] at e
  rw [← e]
  generalize (decide (a < 0) != decide (b < 0)) = s
  rw [Int.tdiv_eq_ediv_of_nonneg ua.1, Int.tmod_eq_emod_of_nonneg ua.1]
  have q0 : 0 ≤ siz a / siz b := Int.ediv_nonneg ua.1 ub.1
  have q1 : siz a / siz b ≤ siz a := Int.ediv_le_self _ ua.1
  generalize siz a / siz b = q at *
  generalize siz a % siz b = r at *
  simp only [u64w]
  rw [show q % 18446744073709551616 = q from by omega, show (q + 1) % 18446744073709551616 = q + 1 from by omega]
  have hq : ∀ b, fixed_hold.f k q b = some (hold (sgn b q)) := fixed_hold_eq hk (by omega) (by omega)
  have hq1 : ∀ b, fixed_hold.f k (q + 1) b = some (hold (sgn b (q + 1))) := fixed_hold_eq hk (by omega) (by omega)
  simp only [hq, hq1]
  cases s
  · simp only [Bool.false_eq_true, if_false, false_and, Option.bind_some]
  · by_cases hr : r = 0 <;> simp [hr]

theorem fixed_Mod_eq {k : Nat} (hk : 1 ≤ k) {a b : Int} (_ha : I64 a) (hb : I64 b) : fixed_Mod.f k a b = some (md a b) := by
  obtain ⟨k, rfl⟩ : ∃ n, k = n + 1 := ⟨k - 1, by omega⟩
  unfold fixed_Mod.f md
  simp only [fixed_Mod.j0]
  by_cases hb0 : b = 0
  · rw [if_pos hb0, if_pos trivial, if_pos hb0]
  rw [if_neg hb0, if_neg hb0]
  by_cases hb1 : b = -1
  · subst hb1; rw [if_pos (by decide), if_neg (by decide), Int.neg_neg, Int.emod_one]; rfl
  rw [if_neg (show ¬ ((b == -1) = true) from by simpa using hb1)]
  by_cases hp : 0 < b
  · rw [if_pos hp, tmod_pos a hp]
    have r0 := Int.emod_nonneg a hb0
    have r1 := Int.emod_lt_of_pos a hp
    generalize a % b = r at *
    by_cases hc : 0 ≤ a ∨ r = 0
    · rw [if_pos hc]
      have : ((decide (r < 0)) != (decide (b < 0))) = false := by
        rw [decide_eq_false (by omega), decide_eq_false (by omega)]; rfl
      rw [this]; simp [hb0]
    · rw [if_neg hc]
      have : ((decide (r - b < 0)) != (decide (b < 0))) = true := by
        rw [decide_eq_true (by omega), decide_eq_false (by omega)]; rfl
      rw [this, if_neg (by omega), if_pos rfl]
      congr 1; unfold wrap64; omega
  · rw [if_neg hp]
    have hnb : 0 < -b := by omega
    have e : a.tmod b = -((-a).tmod (-b)) := by rw [Int.neg_tmod, Int.tmod_neg, Int.neg_neg]
    rw [e, tmod_pos (-a) hnb]
    have r0 := Int.emod_nonneg (-a) (show -b ≠ 0 from by omega)
    have r1 := Int.emod_lt_of_pos (-a) hnb
    generalize (-a) % (-b) = r at *
    by_cases hc : 0 ≤ -a ∨ r = 0
    · rw [if_pos hc]
      by_cases hz : r = 0
      · rw [hz]; simp
      have : ((decide (-r < 0)) != (decide (b < 0))) = false := by
        rw [decide_eq_true (by omega), decide_eq_true (by omega)]; rfl
      rw [this]; simp [hb0]
    · rw [if_neg hc]
      have : ((decide (-(r - -b) < 0)) != (decide (b < 0))) = true := by
        rw [decide_eq_false (by omega), decide_eq_true (by omega)]; rfl
      rw [this, if_neg (by omega), if_pos rfl]
      congr 1; unfold wrap64; omega

theorem fixed_Add_eq {k : Nat} (hk : 1 ≤ k) {a b : Int} (ha : I64 a) (hb : I64 b) : fixed_Add.f k a b = some (hold (a + b)) := by
  obtain ⟨k, rfl⟩ : ∃ n, k = n + 1 := ⟨k - 1, by omega⟩
  unfold fixed_Add.f hold
  simp only [fixed_Add.j0]
  by_cases h : b > 0
  · rw [if_pos h]
    by_cases g : wrap64 (a + b) < a
    · rw [if_pos (decide_eq_true g)]; unfold wrap64 at g
      rw [if_neg (by omega), if_pos (by omega)]
    · rw [if_neg (by simpa using g)]; unfold wrap64 at g ⊢
      rw [if_neg (by omega), if_neg (by omega), if_neg (by omega)]; congr 1; omega
  · rw [if_neg h, if_neg (show ¬ (false = true) from by decide)]
    unfold wrap64
    by_cases c : b < 0
    · rw [if_pos c]
      by_cases g : (a + b + 9223372036854775808) % 18446744073709551616 - 9223372036854775808 > a
      · rw [if_pos g, if_pos (by omega)]
      · rw [if_neg g, if_neg (by omega), if_neg (by omega)]; congr 1; omega
    · rw [if_neg c, if_neg (by omega), if_neg (by omega)]; congr 1; omega

theorem bits_Mul64_eq {a b : Int} (ha : U64 a) (hb : U64 b) : bits_Mul64.f a b = some (a * b / 18446744073709551616, a * b % 18446744073709551616) := by
  unfold bits_Mul64.f
  rw [if_pos ⟨ha.1, ha.2, hb.1, hb.2⟩]

theorem fixed_Mul_eq {k : Nat} (hk : 1 ≤ k) {a b : Int} (ha : I64 a) (hb : I64 b) : fixed_Mul.f k a b = some (hold (a * b)) := by
  unfold fixed_Mul.f
  have ua := siz_u ha
  have ub := siz_u hb
  rw [fixed_size_eq ha, fixed_size_eq hb]
  simp only [Option.bind_some]
  rw [bits_Mul64_eq ⟨ua.1, by omega⟩ ⟨ub.1, by omega⟩]
  simp only [Option.bind_some]
  rw [← sgn_siz2 a b]
  generalize (decide (a < 0) != decide (b < 0)) = s
  have p0 := Int.mul_nonneg ua.1 ub.1
  generalize siz a * siz b = p at *
  split
  · rw [fixed_hold_eq hk (by omega) (by omega), show p % 18446744073709551616 = p from by omega]; rfl
  · rw [fixed_hold_eq hk (by omega) (by omega)]
    show some (hold (sgn s 18446744073709551615)) = _
    congr 1
    unfold sgn hold
    cases s
    · simp only [Bool.false_eq_true, if_false]; rw [if_neg (by omega), if_pos (by omega), if_neg (by omega), if_pos (by omega)]
    · simp only [if_true]; rw [if_pos (by omega), if_pos (by omega)]

/-- Without sign, held. -/
def szV (x : Int) : Int := mx x (hold (x * -1))
theorem taps_size_eq {k : Nat} (hk : 1 ≤ k) {x : Int} (hx : I64 x) : taps_size.f k x = some (szV x) := by
  unfold taps_size.f szV
  rw [fixed_Mul_eq hk hx (by constructor <;> omega)]; rfl

set_option maxHeartbeats 8000000 in
set_option maxRecDepth 100000 in
theorem big_calls (x : Int) (w : World) (hx : I64 x) : Calls Try.prog 40 #[.int .i64 x] w fun e w' => e = .returned (.bool (decide (szV x > 1099511627776))) ∧ Below w.heap.size w w' := by
  have hc := fun w => taps_size.calls 1 x (szV x) w (taps_size_eq (k := 1) (by omega) hx)
  have eSZ : ∀ args w, (callFunc 33 args).run Try.prog w = .ok (.enter 33 args) w := enters_of Try.func33 (by kernel_rfl) rfl
  generalize szV x = v at hc ⊢
  clear hx
  go_enter Try.func40, Try.ntmps40
  go_wp2_with (go_at_fn 33; refine (hc _).mono ?_; rintro e w' ⟨rfl, hb⟩)
  go_ret
  exact ⟨rfl, hb⟩

theorem rd_mem {l : List Int} {i : Nat} (h : i < l.length) : rd l (i : Int) ∈ l := by
  unfold rd
  rw [List.getD_eq_getElem?_getD, show ((i : Int)).toNat = i from by omega, List.getElem?_eq_getElem h]
  exact List.getElem_mem _

set_option maxHeartbeats 8000000 in
set_option maxRecDepth 100000 in
theorem index_calls (A0 : Option Addr) (c0 : Nat) (l0 : List Int) (w : World) (hr0 : Kd.C (Kd.int .i64) w A0 l0.length l0) (hc0 : l0.length ≤ c0) (hlen : l0.length < 4611686018427387904) (hi : ∀ i, I64 (rd l0 i)) :
    Calls Try.prog 64 #[.slice A0 l0.length c0, .func (.func 40) #[] #[]] w fun e w' => (∃ i : Int, e = .returned (.int .i64 i) ∧ (i < 0 ↔ ∀ x ∈ l0, ¬ szV x > 1099511627776)) ∧ Below w.heap.size w w' := by
  have HR0 := Aside0.mk hr0
  have eCQ : ∀ args w, (callFunc 40 args).run Try.prog w = .ok (.enter 40 args) w := enters_of Try.func40 (by kernel_rfl) rfl
  clear hr0
  go_enter Try.func64, Try.ntmps64
  go_wp2
  go_loopg [8] l0.length (fun kx s8 w' => ∃ (i : Nat), s8 = .int .i64 i ∧ i ≤ l0.length ∧ l0.length - i ≤ kx ∧ Aside0 (∀ j : Nat, j < i → ¬ szV (rd l0 j) > 1099511627776) ∧ Aside0 (Below w.heap.size w w'))
  case atStart => exact ⟨0, rfl, by omega, by omega, ⟨fun j h => by omega⟩, ⟨Below.refl _ _⟩⟩
  case round =>
    obtain ⟨i, rfl, h1, h2, HA, HB⟩ := hrel
    by_cases hlt : (i : Int) < (l0.length : Int)
    · have p101 : 0 ≤ (i : Int) := by omega
      obtain ⟨ad101, e101, hx101_0⟩ := Kd.at_int (Kd.C_below HR0.out HB.out) (i : Int) p101 hlt
      cases e101
      rw [show ((i : Int)).toNat = i from by omega] at hx101_0
      have hc := fun w => big_calls (rd l0 (i : Int)) w (hi _)
      by_cases hv : szV (rd l0 (i : Int)) > 1099511627776
      · have hd : decide (szV (rd l0 (i : Int)) > 1099511627776) = true := decide_eq_true hv
        rw [hd] at hc
        go_wp2_with (go_at_fn 40; refine (hc _).mono ?_; rintro e w' ⟨rfl, hb⟩)
        have HB2 : Aside0 (Below w.heap.size w w') := ⟨HB.out.trans (hb.mono HB.out.size)⟩
        go_ret
        have hmem := rd_mem (l := l0) (i := i) (by omega)
        exact ⟨⟨i, rfl, ⟨fun q => by omega, fun q => absurd hv (by have := q (rd l0 (i : Int)) hmem; omega)⟩⟩, HB2.out⟩
      · have hd : decide (szV (rd l0 (i : Int)) > 1099511627776) = false := decide_eq_false hv
        rw [hd] at hc
        go_wp2_with (go_at_fn 40; refine (hc _).mono ?_; rintro e w' ⟨rfl, hb⟩)
        have HB2 : Aside0 (Below w.heap.size w w') := ⟨HB.out.trans (hb.mono HB.out.size)⟩
        go_roundg (l0.length - (i + 1))
        case measure => omega
        case rel =>
          refine ⟨i + 1, by simp, by omega, Nat.le_refl _, ⟨fun j h => ?_⟩, HB2⟩
          by_cases c : j = i
          · subst c; omega
          · exact HA.out j (by omega)
    · go_wp2
      go_ret
      refine ⟨⟨-1, rfl, ⟨fun _ x hx => ?_, fun _ => by omega⟩⟩, HB.out⟩
      obtain ⟨j, hj, rfl⟩ := List.getElem_of_mem hx
      have := HA.out j (by omega)
      unfold rd at this
      rw [List.getD_eq_getElem?_getD, show ((j : Int)).toNat = j from by omega, List.getElem?_eq_getElem hj] at this
      exact this

set_option maxHeartbeats 8000000 in
set_option maxRecDepth 100000 in
theorem contains_calls (A0 : Option Addr) (c0 : Nat) (l0 : List Int) (w : World) (hr0 : Kd.C (Kd.int .i64) w A0 l0.length l0) (hc0 : l0.length ≤ c0) (hlen : l0.length < 4611686018427387904) (hi : ∀ i, I64 (rd l0 i)) :
    Calls Try.prog 39 #[.slice A0 l0.length c0, .func (.func 40) #[] #[]] w fun e w' => e = .returned (.bool (decide (∃ x ∈ l0, szV x > 1099511627776))) ∧ Below w.heap.size w w' := by
  have hc := index_calls A0 c0 l0 w hr0 hc0 hlen hi
  have eIX : ∀ args w, (callFunc 64 args).run Try.prog w = .ok (.enter 64 args) w := enters_of Try.func64 (by kernel_rfl) rfl
  clear hr0
  go_enter Try.func39, Try.ntmps39
  go_wp2_with (go_at_fn 64; refine hc.mono ?_; rintro e w' ⟨⟨i, rfl, hi⟩, hb⟩)
  go_ret
  refine ⟨?_, hb⟩
  have hd : decide (0 ≤ i) = decide (∃ x ∈ l0, szV x > 1099511627776) := by
    refine decide_eq_decide.2 ?_
    have h1 : i < 0 ↔ ∀ x ∈ l0, szV x ≤ 1099511627776 := by simpa using hi
    constructor
    · intro h0
      apply Classical.byContradiction; intro hn
      have := h1.2 (fun x hx => by apply Classical.byContradiction; intro g; exact hn ⟨x, hx, by omega⟩)
      omega
    · rintro ⟨x, hx, g⟩
      apply Classical.byContradiction; intro hn
      have := h1.1 (by omega) x hx
      omega
  show Ending.returned (.bool (decide (0 ≤ i))) = _
  rw [hd]

/-- The sum, held at each step. -/
def sumFrom (s : Int) (l : List Int) : Int := l.foldl (fun s x => hold (s + x)) s
theorem sumFrom_i {s : Int} (hs : I64 s) : ∀ l : List Int, I64 (sumFrom s l) := by
  intro l
  induction l generalizing s with
  | nil => exact hs
  | cons x l ih => exact ih (hold_i _)
theorem taps_Sum_l0 (l : List Int) (hl : l.length < 4611686018427387904) (hi : ∀ i, I64 (rd l i)) : ∀ (d k i : Nat) (s : Int), i + d = l.length → d + 2 < k → I64 s → taps_Sum.l0 k s l (l.length : Int) (i : Int) = some (sumFrom s (l.drop i)) := by
  intro d
  induction d with
  | zero =>
    intro k i s h1 h2 hs
    obtain ⟨k, rfl⟩ : ∃ m, k = m + 1 := ⟨k - 1, by omega⟩
    rw [taps_Sum.l0, if_neg (by omega), List.drop_of_length_le (by omega)]; rfl
  | succ d ih =>
    intro k i s h1 h2 hs
    obtain ⟨k, rfl⟩ : ∃ m, k = m + 1 := ⟨k - 1, by omega⟩
    rw [taps_Sum.l0, if_pos (by omega), if_pos (by omega), if_pos (by omega), fixed_Add_eq (by omega) hs (hi _)]
    simp only [Option.bind_some]
    rw [w64_id (show -9223372036854775808 ≤ (i : Int) + 1 from by omega) (by omega)]
    have e : l.drop i = rd l (i : Int) :: l.drop (i + 1) := by
      rw [List.drop_eq_getElem_cons (by omega)]
      congr 1
      unfold rd
      rw [List.getD_eq_getElem?_getD, show ((i : Int)).toNat = i from by omega, List.getElem?_eq_getElem (by omega)]; rfl
    rw [e]
    exact ih k (i + 1) (hold (s + rd l (i : Int))) (by omega) (by omega) (hold_i _)
theorem taps_Sum_eq {k : Nat} {l : List Int} (hk : l.length + 3 ≤ k) (hl : l.length < 4611686018427387904) (hi : ∀ i, I64 (rd l i)) : taps_Sum.f k l = some (sumFrom 0 l) :=
  taps_Sum_l0 l hl hi l.length k 0 0 (by omega) (by omega) (by decide)

/-- May raw weights be apportioned? -/
def chkV (l : List Int) : Int := if l.length = 0 ∨ l.length > 1048576 ∨ (∃ x ∈ l, szV x > 1099511627776) then 7 else if sumFrom 0 l < 268435456 then 8 else 0
set_option maxHeartbeats 8000000 in
set_option maxRecDepth 100000 in
theorem check_calls (A0 : Option Addr) (c0 : Nat) (l0 : List Int) (w : World) (hr0 : Kd.C (Kd.int .i64) w A0 l0.length l0) (hc0 : l0.length ≤ c0) (hi : ∀ i, I64 (rd l0 i)) :
    Calls Try.prog 23 #[.slice A0 l0.length c0] w fun e w' => e = .returned (.int .i64 (chkV l0)) ∧ Below w.heap.size w w' := by
  have hi' := hi
  obtain ⟨n, hn⟩ : ∃ n, n = l0.length := ⟨_, rfl⟩
  have hc := fun (h : n ≤ 1048576) => contains_calls A0 c0 l0 w hr0 hc0 (by omega) hi
  have hs := fun w' (hb : Below w.heap.size w w') (h : n ≤ 1048576) => taps_Sum.calls (l0.length + 3) A0 c0 l0 (sumFrom 0 l0) w' (Kd.C_below hr0 hb) hc0 (taps_Sum_eq (Nat.le_refl _) (by omega) hi)
  have eCF : ∀ args w, (callFunc 39 args).run Try.prog w = .ok (.enter 39 args) w := enters_of Try.func39 (by kernel_rfl) rfl
  have eTS : ∀ args w, (callFunc 13 args).run Try.prog w = .ok (.enter 13 args) w := enters_of Try.func13 (by kernel_rfl) rfl
  have HB0 := Aside0.mk (Below.refl w.heap.size w)
  clear hr0 hi'
  obtain ⟨v, hv⟩ : ∃ v, v = chkV l0 := ⟨_, rfl⟩
  rw [← hv]
  unfold chkV at hv
  rw [← hn] at hv hc hs ⊢
  have HV := Aside0.mk hv
  clear hv hn
  by_cases h0 : n = 0
  · subst h0
    have e : v = 7 := by rw [HV.out, if_pos (Or.inl rfl)]
    subst e
    clear HV hs hc hi hc0
    go_enter Try.func23, Try.ntmps23
    go_wp2
    go_ret
    exact ⟨rfl, HB0.out⟩
  have z0 : ¬ (n : Int) = 0 := by omega
  have b0 : ((n : Int) == 0) = false := by simpa using h0
  by_cases h1 : n > 1048576
  · have z1 : (n : Int) > 1048576 := by omega
    have e : v = 7 := by rw [HV.out, if_pos (Or.inr (Or.inl h1))]
    subst e
    clear HV hs hc hi h0 hc0 h1
    go_enter Try.func23, Try.ntmps23
    go_wp2
    go_ret
    exact ⟨rfl, HB0.out⟩
  have z1 : ¬ (n : Int) > 1048576 := by omega
  have hc := hc (by omega)
  have hs := fun w' hb => hs w' hb (by omega)
  by_cases h2 : ∃ x ∈ l0, szV x > 1099511627776
  · rw [decide_eq_true h2] at hc
    have e : v = 7 := by rw [HV.out, if_pos (Or.inr (Or.inr h2))]
    subst e
    clear HV hs hi h0 hc0 h1 h2
    go_enter Try.func23, Try.ntmps23
    go_wp2_with (go_at_fn 39; refine hc.mono ?_; rintro e w' ⟨rfl, hb⟩)
    go_ret
    exact ⟨rfl, hb⟩
  rw [decide_eq_false h2] at hc
  rw [if_neg (by intro q; rcases q with q | q | q; exact h0 q; exact h1 q; exact h2 q)] at HV
  clear h0 h1 h2 hi hc0
  generalize sumFrom 0 l0 = s at HV hs
  by_cases h3 : s < 268435456
  · have e : v = 8 := by rw [HV.out, if_pos h3]
    subst e
    clear HV
    go_enter Try.func23, Try.ntmps23
    go_wp2_with (first | (go_at_fn 39; refine hc.mono ?_; rintro e w' ⟨rfl, hb⟩; have HB1 := Aside0.mk hb; clear hb) | (go_at_fn 13; refine (hs _ HB1.out).mono ?_; rintro e w' ⟨rfl, ⟨nd2, rfl⟩⟩))
    go_ret
    exact ⟨rfl, pw_below_drewN HB1.out _⟩
  · have e : v = 0 := by rw [HV.out, if_neg h3]
    subst e
    clear HV
    go_enter Try.func23, Try.ntmps23
    go_wp2_with (first | (go_at_fn 39; refine hc.mono ?_; rintro e w' ⟨rfl, hb⟩; have HB1 := Aside0.mk hb; clear hb) | (go_at_fn 13; refine (hs _ HB1.out).mono ?_; rintro e w' ⟨rfl, ⟨nd2, rfl⟩⟩))
    go_ret
    exact ⟨rfl, pw_below_drewN HB1.out _⟩

end Go.Proofs.Ytabojpnelbmifaa.QA
