/- Joined by wip/tools/bundle.py out of: H06e H06r QAx5 QAx6. -/
import Derived.Test.YtebipmdopdogkaaGreatDoorBOpMakes1
import Derived.Test.YtebipmdopdogkaaGreatDoorBOpMakes0
import Derived.Test.YtebipmdopdogkaaGreatDoorBOpMakes2
namespace Go.Proofs.YtebipmdopdogkaaGreatDoor.QA
open Go.RowKit Go.Proofs.YtebipmdopdogkaaGreatDoorW.PrintWords Go.Proofs.YtebipmdopdogkaaGreatDoorW.PrintLast Go.Proofs.YtebipmdopdogkaaGreatDoorW.PrintMore Go.Proofs.YtebipmdopdogkaaGreatDoor.T
open Go.Shelf Go.Lib Go.Sort
set_option linter.unusedVariables false
set_option linter.unusedSimpArgs false
theorem fixed_size_eq {a : Int} (ha : I64 a) : fixed_size.f a = some (siz a) := by
  unfold fixed_size.f siz
  simp only [u64w]
  split
  · congr 1; omega
  · congr 1; omega
theorem fixed_hold_eq {k : Nat} (hk : 1 ≤ k) {m : Int} (h0 : 0 ≤ m) (h1 : m < 18446744073709551616) (b : Bool) : fixed_hold.f k m b = some (hold (sgn b m)) := by
  obtain ⟨k, rfl⟩ : ∃ n, k = n + 1 := ⟨k - 1, by omega⟩
  unfold fixed_hold.f fixed_hold.j0 sgn hold
  cases b
  · simp only [Bool.false_eq_true, if_false]
    rw [if_neg (show ¬ m < -9223372036854775808 from by omega)]
    split
    · rfl
    · congr 1; unfold wrap64; omega
  · simp only [if_true]
    by_cases h : m ≥ 9223372036854775808
    · rw [if_pos (decide_eq_true h)]
      split
      · rfl
      · rw [if_neg (by omega)]; congr 1; omega
    · rw [if_neg (by simpa using h), if_neg (by omega), if_neg (by omega)]
      congr 1; unfold wrap64; omega
theorem fixed_Floor_eq {k : Nat} (hk : 1 ≤ k) {a b : Int} (ha : I64 a) (hb : I64 b) : fixed_Floor.f k a b = some (hold (flo a b)) := by
  unfold fixed_Floor.f
  by_cases hb0 : b = 0
  · rw [if_pos hb0, hb0]; simp [flo, hold]
  rw [if_neg hb0, fixed_size_eq ha, fixed_size_eq hb]
  simp only [Option.bind_some]
  have ua := siz_u ha
  have ub := siz_u hb
  have ub0 : siz b ≠ 0 := fun h => hb0 (siz_zero.1 h)
  simp only [if_neg ub0]
  have e := flo_xor (decide (a < 0)) b (siz a) hb0
  rw [sgn_siz a, flo_sgn _ (by omega)] at e
  rw [← e]
  generalize (decide (a < 0) != decide (b < 0)) = s
  rw [Int.tdiv_eq_ediv_of_nonneg ua.1, Int.tmod_eq_emod_of_nonneg ua.1]
  have q0 : 0 ≤ siz a / siz b := Int.ediv_nonneg ua.1 ub.1
  have q1 : siz a / siz b ≤ siz a := Int.ediv_le_self _ ua.1
  generalize siz a / siz b = q at *
  generalize siz a % siz b = r at *
  simp only [u64w]
  rw [show q % 18446744073709551616 = q from by omega, show (q + 1) % 18446744073709551616 = q + 1 from by omega]
  have hq : ∀ b, fixed_hold.f k q b = some (hold (sgn b q)) := fixed_hold_eq hk (by omega) (by omega)
  have hq1 : ∀ b, fixed_hold.f k (q + 1) b = some (hold (sgn b (q + 1))) := fixed_hold_eq hk (by omega) (by omega)
  simp only [hq, hq1]
  cases s
  · simp only [Bool.false_eq_true, if_false, false_and, Option.bind_some]
  · by_cases hr : r = 0 <;> simp [hr]
theorem fixed_Mod_eq {k : Nat} (hk : 1 ≤ k) {a b : Int} (_ha : I64 a) (hb : I64 b) : fixed_Mod.f k a b = some (md a b) := by
  obtain ⟨k, rfl⟩ : ∃ n, k = n + 1 := ⟨k - 1, by omega⟩
  unfold fixed_Mod.f md
  simp only [fixed_Mod.j0]
  by_cases hb0 : b = 0
  · rw [if_pos hb0, if_pos trivial, if_pos hb0]
  rw [if_neg hb0, if_neg hb0]
  by_cases hb1 : b = -1
  · subst hb1; rw [if_pos (by decide), if_neg (by decide), Int.neg_neg, Int.emod_one]; rfl
  rw [if_neg (show ¬ ((b == -1) = true) from by simpa using hb1)]
  by_cases hp : 0 < b
  · rw [if_pos hp, tmod_pos a hp]
    have r0 := Int.emod_nonneg a hb0
    have r1 := Int.emod_lt_of_pos a hp
    generalize a % b = r at *
    by_cases hc : 0 ≤ a ∨ r = 0
    · rw [if_pos hc]
      have : ((decide (r < 0)) != (decide (b < 0))) = false := by
        rw [decide_eq_false (by omega), decide_eq_false (by omega)]; rfl
      rw [this]; simp [hb0]
    · rw [if_neg hc]
      have : ((decide (r - b < 0)) != (decide (b < 0))) = true := by
        rw [decide_eq_true (by omega), decide_eq_false (by omega)]; rfl
      rw [this, if_neg (by omega), if_pos rfl]
      congr 1; unfold wrap64; omega
  · rw [if_neg hp]
    have hnb : 0 < -b := by omega
    have e : a.tmod b = -((-a).tmod (-b)) := by rw [Int.neg_tmod, Int.tmod_neg, Int.neg_neg]
    rw [e, tmod_pos (-a) hnb]
    have r0 := Int.emod_nonneg (-a) (show -b ≠ 0 from by omega)
    have r1 := Int.emod_lt_of_pos (-a) hnb
    generalize (-a) % (-b) = r at *
    by_cases hc : 0 ≤ -a ∨ r = 0
    · rw [if_pos hc]
      by_cases hz : r = 0
      · rw [hz]; simp
      have : ((decide (-r < 0)) != (decide (b < 0))) = false := by
        rw [decide_eq_true (by omega), decide_eq_true (by omega)]; rfl
      rw [this]; simp [hb0]
    · rw [if_neg hc]
      have : ((decide (-(r - -b) < 0)) != (decide (b < 0))) = true := by
        rw [decide_eq_false (by omega), decide_eq_true (by omega)]; rfl
      rw [this, if_neg (by omega), if_pos rfl]
      congr 1; unfold wrap64; omega
theorem fixed_Add_eq {k : Nat} (hk : 1 ≤ k) {a b : Int} (ha : I64 a) (hb : I64 b) : fixed_Add.f k a b = some (hold (a + b)) := by
  obtain ⟨k, rfl⟩ : ∃ n, k = n + 1 := ⟨k - 1, by omega⟩
  unfold fixed_Add.f hold
  simp only [fixed_Add.j0]
  by_cases h : b > 0
  · rw [if_pos h]
    by_cases g : wrap64 (a + b) < a
    · rw [if_pos (decide_eq_true g)]; unfold wrap64 at g
      rw [if_neg (by omega), if_pos (by omega)]
    · rw [if_neg (by simpa using g)]; unfold wrap64 at g ⊢
      rw [if_neg (by omega), if_neg (by omega), if_neg (by omega)]; congr 1; omega
  · rw [if_neg h, if_neg (show ¬ (false = true) from by decide)]
    unfold wrap64
    by_cases c : b < 0
    · rw [if_pos c]
      by_cases g : (a + b + 9223372036854775808) % 18446744073709551616 - 9223372036854775808 > a
      · rw [if_pos g, if_pos (by omega)]
      · rw [if_neg g, if_neg (by omega), if_neg (by omega)]; congr 1; omega
    · rw [if_neg c, if_neg (by omega), if_neg (by omega)]; congr 1; omega
theorem bits_Mul64_eq {a b : Int} (ha : U64 a) (hb : U64 b) : bits_Mul64.f a b = some (a * b / 18446744073709551616, a * b % 18446744073709551616) := by
  unfold bits_Mul64.f
  rw [if_pos ⟨ha.1, ha.2, hb.1, hb.2⟩]
theorem fixed_Mul_eq {k : Nat} (hk : 1 ≤ k) {a b : Int} (ha : I64 a) (hb : I64 b) : fixed_Mul.f k a b = some (hold (a * b)) := by
  unfold fixed_Mul.f
  have ua := siz_u ha
  have ub := siz_u hb
  rw [fixed_size_eq ha, fixed_size_eq hb]
  simp only [Option.bind_some]
  rw [bits_Mul64_eq ⟨ua.1, by omega⟩ ⟨ub.1, by omega⟩]
  simp only [Option.bind_some]
  rw [← sgn_siz2 a b]
  generalize (decide (a < 0) != decide (b < 0)) = s
  have p0 := Int.mul_nonneg ua.1 ub.1
  generalize siz a * siz b = p at *
  split
  · rw [fixed_hold_eq hk (by omega) (by omega), show p % 18446744073709551616 = p from by omega]; rfl
  · rw [fixed_hold_eq hk (by omega) (by omega)]
    show some (hold (sgn s 18446744073709551615)) = _
    congr 1
    unfold sgn hold
    cases s
    · simp only [Bool.false_eq_true, if_false]; rw [if_neg (by omega), if_pos (by omega), if_neg (by omega), if_pos (by omega)]
    · simp only [if_true]; rw [if_pos (by omega), if_pos (by omega)]
/-- Without sign, held. -/
def szV (x : Int) : Int := mx x (hold (x * -1))
theorem taps_size_eq {k : Nat} (hk : 1 ≤ k) {x : Int} (hx : I64 x) : taps_size.f k x = some (szV x) := by
  unfold taps_size.f szV
  rw [fixed_Mul_eq hk hx (by constructor <;> omega)]; rfl
set_option maxHeartbeats 8000000 in
set_option maxRecDepth 100000 in
theorem big_calls (x : Int) (w : World) (hx : I64 x) : Calls Tryz.prog 101 #[.int .i64 x] w fun e w' => e = .returned (.bool (decide (szV x > 1099511627776))) ∧ Below w.heap.size w w' := by
  have hc := fun w => taps_size.calls 1 x (szV x) w (taps_size_eq (k := 1) (by omega) hx)
  have eSZ : ∀ args w, (callFunc 102 args).run Tryz.prog w = .ok (.enter 102 args) w := enters_of Tryz.func102 (by kernel_rfl) rfl
  generalize szV x = v at hc ⊢
  clear hx
  go_enter Tryz.func101, Tryz.ntmps101
  go_wp2_with (go_at_fn 102; refine (hc _).mono ?_; rintro e w' ⟨rfl, hb⟩)
  go_ret
  exact ⟨rfl, hb⟩
theorem rd_mem {l : List Int} {i : Nat} (h : i < l.length) : rd l (i : Int) ∈ l := by
  unfold rd
  rw [List.getD_eq_getElem?_getD, show ((i : Int)).toNat = i from by omega, List.getElem?_eq_getElem h]
  exact List.getElem_mem _
set_option maxHeartbeats 8000000 in
set_option maxRecDepth 100000 in
theorem index_calls (A0 : Option Addr) (c0 : Nat) (l0 : List Int) (w : World) (hr0 : Kd.C (Kd.int .i64) w A0 l0.length l0) (hc0 : l0.length ≤ c0) (hlen : l0.length < 4611686018427387904) (hi : ∀ i, I64 (rd l0 i)) :
    Calls Tryz.prog 121 #[.slice A0 l0.length c0, .func (.func 101) #[] #[]] w fun e w' => (∃ i : Int, e = .returned (.int .i64 i) ∧ (i < 0 ↔ ∀ x ∈ l0, ¬ szV x > 1099511627776)) ∧ Below w.heap.size w w' := by
  have HR0 := Aside0.mk hr0
  have eCQ : ∀ args w, (callFunc 101 args).run Tryz.prog w = .ok (.enter 101 args) w := enters_of Tryz.func101 (by kernel_rfl) rfl
  clear hr0
  go_enter Tryz.func121, Tryz.ntmps121
  go_wp2
  go_loopg [8] l0.length (fun kx s8 w' => ∃ (i : Nat), s8 = .int .i64 i ∧ i ≤ l0.length ∧ l0.length - i ≤ kx ∧ Aside0 (∀ j : Nat, j < i → ¬ szV (rd l0 j) > 1099511627776) ∧ Aside0 (Below w.heap.size w w'))
  case atStart => exact ⟨0, rfl, by omega, by omega, ⟨fun j h => by omega⟩, ⟨Below.refl _ _⟩⟩
  case round =>
    obtain ⟨i, rfl, h1, h2, HA, HB⟩ := hrel
    by_cases hlt : (i : Int) < (l0.length : Int)
    · have p101 : 0 ≤ (i : Int) := by omega
      obtain ⟨ad101, e101, hx101_0⟩ := Kd.at_int (Kd.C_below HR0.out HB.out) (i : Int) p101 hlt
      cases e101
      rw [show ((i : Int)).toNat = i from by omega] at hx101_0
      have hc := fun w => big_calls (rd l0 (i : Int)) w (hi _)
      by_cases hv : szV (rd l0 (i : Int)) > 1099511627776
      · have hd : decide (szV (rd l0 (i : Int)) > 1099511627776) = true := decide_eq_true hv
        rw [hd] at hc
        go_wp2_with (go_at_fn 101; refine (hc _).mono ?_; rintro e w' ⟨rfl, hb⟩)
        have HB2 : Aside0 (Below w.heap.size w w') := ⟨HB.out.trans (hb.mono HB.out.size)⟩
        go_ret
        have hmem := rd_mem (l := l0) (i := i) (by omega)
        exact ⟨⟨i, rfl, ⟨fun q => by omega, fun q => absurd hv (by have := q (rd l0 (i : Int)) hmem; omega)⟩⟩, HB2.out⟩
      · have hd : decide (szV (rd l0 (i : Int)) > 1099511627776) = false := decide_eq_false hv
        rw [hd] at hc
        go_wp2_with (go_at_fn 101; refine (hc _).mono ?_; rintro e w' ⟨rfl, hb⟩)
        have HB2 : Aside0 (Below w.heap.size w w') := ⟨HB.out.trans (hb.mono HB.out.size)⟩
        go_roundg (l0.length - (i + 1))
        case measure => omega
        case rel =>
          refine ⟨i + 1, by simp, by omega, Nat.le_refl _, ⟨fun j h => ?_⟩, HB2⟩
          by_cases c : j = i
          · subst c; omega
          · exact HA.out j (by omega)
    · go_wp2
      go_ret
      refine ⟨⟨-1, rfl, ⟨fun _ x hx => ?_, fun _ => by omega⟩⟩, HB.out⟩
      obtain ⟨j, hj, rfl⟩ := List.getElem_of_mem hx
      have := HA.out j (by omega)
      unfold rd at this
      rw [List.getD_eq_getElem?_getD, show ((j : Int)).toNat = j from by omega, List.getElem?_eq_getElem hj] at this
      exact this
set_option maxHeartbeats 8000000 in
set_option maxRecDepth 100000 in
theorem contains_calls (A0 : Option Addr) (c0 : Nat) (l0 : List Int) (w : World) (hr0 : Kd.C (Kd.int .i64) w A0 l0.length l0) (hc0 : l0.length ≤ c0) (hlen : l0.length < 4611686018427387904) (hi : ∀ i, I64 (rd l0 i)) :
    Calls Tryz.prog 100 #[.slice A0 l0.length c0, .func (.func 101) #[] #[]] w fun e w' => e = .returned (.bool (decide (∃ x ∈ l0, szV x > 1099511627776))) ∧ Below w.heap.size w w' := by
  have hc := index_calls A0 c0 l0 w hr0 hc0 hlen hi
  have eIX : ∀ args w, (callFunc 121 args).run Tryz.prog w = .ok (.enter 121 args) w := enters_of Tryz.func121 (by kernel_rfl) rfl
  clear hr0
  go_enter Tryz.func100, Tryz.ntmps100
  go_wp2_with (go_at_fn 121; refine hc.mono ?_; rintro e w' ⟨⟨i, rfl, hi⟩, hb⟩)
  go_ret
  refine ⟨?_, hb⟩
  have hd : decide (0 ≤ i) = decide (∃ x ∈ l0, szV x > 1099511627776) := by
    refine decide_eq_decide.2 ?_
    have h1 : i < 0 ↔ ∀ x ∈ l0, szV x ≤ 1099511627776 := by simpa using hi
    constructor
    · intro h0
      apply Classical.byContradiction; intro hn
      have := h1.2 (fun x hx => by apply Classical.byContradiction; intro g; exact hn ⟨x, hx, by omega⟩)
      omega
    · rintro ⟨x, hx, g⟩
      apply Classical.byContradiction; intro hn
      have := h1.1 (by omega) x hx
      omega
  show Ending.returned (.bool (decide (0 ≤ i))) = _
  rw [hd]
/-- The sum, held at each step. -/
def sumFrom (s : Int) (l : List Int) : Int := l.foldl (fun s x => hold (s + x)) s
theorem taps_Sum_l0 (l : List Int) (hl : l.length < 4611686018427387904) (hi : ∀ i, I64 (rd l i)) : ∀ (d k i : Nat) (s : Int), i + d = l.length → d + 2 < k → I64 s → taps_Sum.l0 k s l (l.length : Int) (i : Int) = some (sumFrom s (l.drop i)) := by
  intro d
  induction d with
  | zero =>
    intro k i s h1 h2 hs
    obtain ⟨k, rfl⟩ : ∃ m, k = m + 1 := ⟨k - 1, by omega⟩
    rw [taps_Sum.l0, if_neg (by omega), List.drop_of_length_le (by omega)]; rfl
  | succ d ih =>
    intro k i s h1 h2 hs
    obtain ⟨k, rfl⟩ : ∃ m, k = m + 1 := ⟨k - 1, by omega⟩
    rw [taps_Sum.l0, if_pos (by omega), if_pos (by omega), if_pos (by omega), fixed_Add_eq (by omega) hs (hi _)]
    simp only [Option.bind_some]
    rw [w64_id (show -9223372036854775808 ≤ (i : Int) + 1 from by omega) (by omega)]
    have e : l.drop i = rd l (i : Int) :: l.drop (i + 1) := by
      rw [List.drop_eq_getElem_cons (by omega)]
      congr 1
      unfold rd
      rw [List.getD_eq_getElem?_getD, show ((i : Int)).toNat = i from by omega, List.getElem?_eq_getElem (by omega)]; rfl
    rw [e]
    exact ih k (i + 1) (hold (s + rd l (i : Int))) (by omega) (by omega) (hold_i _)
theorem taps_Sum_eq {k : Nat} {l : List Int} (hk : l.length + 3 ≤ k) (hl : l.length < 4611686018427387904) (hi : ∀ i, I64 (rd l i)) : taps_Sum.f k l = some (sumFrom 0 l) :=
  taps_Sum_l0 l hl hi l.length k 0 0 (by omega) (by omega) (by decide)
/-- May raw weights be apportioned? -/
def chkV (l : List Int) : Int := if l.length = 0 ∨ l.length > 1048576 ∨ (∃ x ∈ l, szV x > 1099511627776) then 7 else if sumFrom 0 l < 268435456 then 8 else 0
set_option maxHeartbeats 8000000 in
set_option maxRecDepth 100000 in
theorem check_calls (A0 : Option Addr) (c0 : Nat) (l0 : List Int) (w : World) (hr0 : Kd.C (Kd.int .i64) w A0 l0.length l0) (hc0 : l0.length ≤ c0) (hi : ∀ i, I64 (rd l0 i)) :
    Calls Tryz.prog 72 #[.slice A0 l0.length c0] w fun e w' => e = .returned (.int .i64 (chkV l0)) ∧ Below w.heap.size w w' := by
  have hi' := hi
  obtain ⟨n, hn⟩ : ∃ n, n = l0.length := ⟨_, rfl⟩
  have hc := fun (h : n ≤ 1048576) => contains_calls A0 c0 l0 w hr0 hc0 (by omega) hi
  have hs := fun w' (hb : Below w.heap.size w w') (h : n ≤ 1048576) => taps_Sum.calls (l0.length + 3) A0 c0 l0 (sumFrom 0 l0) w' (Kd.C_below hr0 hb) hc0 (taps_Sum_eq (Nat.le_refl _) (by omega) hi)
  have eCF : ∀ args w, (callFunc 100 args).run Tryz.prog w = .ok (.enter 100 args) w := enters_of Tryz.func100 (by kernel_rfl) rfl
  have eTS : ∀ args w, (callFunc 73 args).run Tryz.prog w = .ok (.enter 73 args) w := enters_of Tryz.func73 (by kernel_rfl) rfl
  have HB0 := Aside0.mk (Below.refl w.heap.size w)
  clear hr0 hi'
  obtain ⟨v, hv⟩ : ∃ v, v = chkV l0 := ⟨_, rfl⟩
  rw [← hv]
  unfold chkV at hv
  rw [← hn] at hv hc hs ⊢
  have HV := Aside0.mk hv
  clear hv hn
  by_cases h0 : n = 0
  · subst h0
    have e : v = 7 := by rw [HV.out, if_pos (Or.inl rfl)]
    subst e
    clear HV hs hc hi hc0
    go_enter Tryz.func72, Tryz.ntmps72
    go_wp2
    go_ret
    exact ⟨rfl, HB0.out⟩
  have z0 : ¬ (n : Int) = 0 := by omega
  have b0 : ((n : Int) == 0) = false := by simpa using h0
  by_cases h1 : n > 1048576
  · have z1 : (n : Int) > 1048576 := by omega
    have e : v = 7 := by rw [HV.out, if_pos (Or.inr (Or.inl h1))]
    subst e
    clear HV hs hc hi h0 hc0 h1
    go_enter Tryz.func72, Tryz.ntmps72
    go_wp2
    go_ret
    exact ⟨rfl, HB0.out⟩
  have z1 : ¬ (n : Int) > 1048576 := by omega
  have hc := hc (by omega)
  have hs := fun w' hb => hs w' hb (by omega)
  by_cases h2 : ∃ x ∈ l0, szV x > 1099511627776
  · rw [decide_eq_true h2] at hc
    have e : v = 7 := by rw [HV.out, if_pos (Or.inr (Or.inr h2))]
    subst e
    clear HV hs hi h0 hc0 h1 h2
    go_enter Tryz.func72, Tryz.ntmps72
    go_wp2_with (go_at_fn 100; refine hc.mono ?_; rintro e w' ⟨rfl, hb⟩)
    go_ret
    exact ⟨rfl, hb⟩
  rw [decide_eq_false h2] at hc
  rw [if_neg (by intro q; rcases q with q | q | q; exact h0 q; exact h1 q; exact h2 q)] at HV
  clear h0 h1 h2 hi hc0
  generalize sumFrom 0 l0 = s at HV hs
  by_cases h3 : s < 268435456
  · have e : v = 8 := by rw [HV.out, if_pos h3]
    subst e
    clear HV
    go_enter Tryz.func72, Tryz.ntmps72
    go_wp2_with (first | (go_at_fn 100; refine hc.mono ?_; rintro e w' ⟨rfl, hb⟩; have HB1 := Aside0.mk hb; clear hb) | (go_at_fn 73; refine (hs _ HB1.out).mono ?_; rintro e w' ⟨rfl, ⟨nd2, rfl⟩⟩))
    go_ret
    exact ⟨rfl, pw_below_drewN HB1.out _⟩
  · have e : v = 0 := by rw [HV.out, if_neg h3]
    subst e
    clear HV
    go_enter Tryz.func72, Tryz.ntmps72
    go_wp2_with (first | (go_at_fn 100; refine hc.mono ?_; rintro e w' ⟨rfl, hb⟩; have HB1 := Aside0.mk hb; clear hb) | (go_at_fn 73; refine (hs _ HB1.out).mono ?_; rintro e w' ⟨rfl, ⟨nd2, rfl⟩⟩))
    go_ret
    exact ⟨rfl, pw_below_drewN HB1.out _⟩
/-- cmp.Compare. -/
def cmpV (x y : Int) : Int := if x < y then -1 else if x > y then 1 else 0
set_option maxHeartbeats 8000000 in
set_option maxRecDepth 100000 in
theorem nan_calls (x : Int) (w : World) : Calls Tryz.prog 107 #[.int .i64 x] w fun e w' => e = .returned (.bool false) ∧ w' = w := by
  go_enter Tryz.func107, Tryz.ntmps107
  go_wp2
  go_ret
  exact ⟨by simp, rfl⟩
set_option maxHeartbeats 8000000 in
set_option maxRecDepth 100000 in
theorem compare_calls (x y : Int) (w : World) : Calls Tryz.prog 78 #[.int .i64 x, .int .i64 y] w fun e w' => e = .returned (.int .i64 (cmpV x y)) ∧ w' = w := by
  have hc := fun x w => nan_calls x w
  have eIZ : ∀ args w, (callFunc 107 args).run Tryz.prog w = .ok (.enter 107 args) w := enters_of Tryz.func107 (by kernel_rfl) rfl
  by_cases h1 : x < y
  · have e : cmpV x y = -1 := by unfold cmpV; rw [if_pos h1]
    rw [e]
    go_enter Tryz.func78, Tryz.ntmps78
    go_wp2_with (go_at_fn 107; refine (hc _ _).mono ?_; rintro e w' ⟨rfl, rfl⟩)
    go_ret
    exact ⟨rfl, rfl⟩
  · by_cases h2 : x > y
    · have e : cmpV x y = 1 := by unfold cmpV; rw [if_neg h1, if_pos h2]
      rw [e]
      go_enter Tryz.func78, Tryz.ntmps78
      go_wp2_with (go_at_fn 107; refine (hc _ _).mono ?_; rintro e w' ⟨rfl, rfl⟩)
      go_ret
      exact ⟨rfl, rfl⟩
    · have e : cmpV x y = 0 := by unfold cmpV; rw [if_neg h1, if_neg h2]
      rw [e]
      have h3 : ¬ y < x := by omega
      go_enter Tryz.func78, Tryz.ntmps78
      go_wp2_with (go_at_fn 107; refine (hc _ _).mono ?_; rintro e w' ⟨rfl, rfl⟩)
      go_ret
      exact ⟨rfl, rfl⟩
set_option maxHeartbeats 8000000 in
set_option maxRecDepth 100000 in
theorem closure_calls (b3 b4 n x y : Nat) (u v : Int) (W : World) (hn : n < 4611686018427387904) (hx : x < n) (hy : y < n) (h4 : W.cell? ⟨b4, 0, none⟩ = some (.slice (some ⟨b3, 0, none⟩) n n))
    (hu : W.cell? ⟨b3, x, none⟩ = some (.int .i64 u)) (hv : W.cell? ⟨b3, y, none⟩ = some (.int .i64 v)) :
    Calls Tryz.prog 77 #[.int .i64 x, .int .i64 y, .pointer (some ⟨b4, 0, none⟩)] W fun e w' => e = .returned (.int .i64 (cmpV v u)) ∧ ∃ q os, w' = grow (W.drewN q) os := by
  have mixed : Tryz.prog.follows .mixedOrders = true := by kernel_rfl
  have hc : ∀ w, Calls Tryz.prog 78 #[.int .i64 v, .int .i64 u] w fun e w' => e = .returned (.int .i64 (cmpV v u)) ∧ ∃ q os, w' = grow (w.drewN q) os := fun w => (compare_calls v u w).mono fun e w' ⟨h1, h2⟩ => ⟨h1, 0, #[], by rw [h2, grow_empty]; rfl⟩
  have eCO : ∀ args w, (callFunc 78 args).run Tryz.prog w = .ok (.enter 78 args) w := enters_of Tryz.func78 (by kernel_rfl) rfl
  have pa : (0 : Int) ≤ (x : Int) := by omega
  have ba : (x : Int) < (n : Int) := by omega
  have pc : (0 : Int) ≤ (y : Int) := by omega
  have bc : (y : Int) < (n : Int) := by omega
  have ea : (x : Int).toNat = x := by omega
  have ec : (y : Int).toNat = y := by omega
  have h4' : ∀ q os, (grow (W.drewN q) os).cell? ⟨b4, 0, none⟩ = some (.slice (some ⟨b3, 0, none⟩) n n) := fun q os => (cell?_grow _ _ _ (World.block_lt_of_cell? _ _ (by exact h4))).trans h4
  have hu' : ∀ q os, (grow (W.drewN q) os).cell? ⟨b3, x, none⟩ = some (.int .i64 u) := fun q os => (cell?_grow _ _ _ (World.block_lt_of_cell? _ _ (by exact hu))).trans hu
  have hv' : ∀ q os, (grow (W.drewN q) os).cell? ⟨b3, y, none⟩ = some (.int .i64 v) := fun q os => (cell?_grow _ _ _ (World.block_lt_of_cell? _ _ (by exact hv))).trans hv
  generalize cmpV v u = r at hc ⊢
  go_enter Tryz.func77, Tryz.ntmps77
  go_wp2_with fail
  go_quiet_grown (first | (go_at_fn 78; refine Calls.grown_of (hc _)))
  go_wp2
  go_ret
  exact ⟨rfl, nq, osq, rfl⟩
set_option maxHeartbeats 8000000 in
set_option maxRecDepth 100000 in
theorem sortStable_calls {α : Type} [Inhabited α] (enc : α → Value) (cf : α → α → Int) (g : Nat) (cb : Array Value) (key : α → Int) (idx : α → Nat) (blk off cap : Nat) (d : Array α) (w : World)
    (eg : ∀ args w, (callFunc g args).run Tryz.prog w = .ok (.enter g args) w) (hcmp : CmpLays1 Tryz.prog g cb enc cf blk off d.size w) (hcf : ∀ x y, cf x y < 0 ↔ key y < key x)
    (R : Row1 enc w blk off d) (hsz : d.size < 1152921504606846976) (hA : S.Asc idx d 0 d.size) :
    Calls Tryz.prog 76 #[.slice (some ⟨blk, off, none⟩) d.size cap, .func (.func g) #[] cb] w fun e w' => e = .returned (.tuple #[]) ∧ ∃ d', SW enc w blk off d' w' ∧ S.Sam d d' 0 d.size ∧ S.Srt key idx d' 0 d.size := by
  have hc := S.stable_s enc cf g cb key idx blk off cap d d w w eg hcmp hcf R rfl (SW.start R.hH) hsz hA
  have eST : ∀ args w, (callFunc 106 args).run Tryz.prog w = .ok (.enter 106 args) w := enters_of Tryz.func106 (by kernel_rfl) rfl
  clear hcmp eg hcf R hA
  obtain ⟨n, hn⟩ : ∃ n, n = d.size := ⟨_, rfl⟩
  rw [← hn] at hc hsz ⊢
  clear hn
  go_enter Tryz.func76, Tryz.ntmps76
  go_wp2_with (go_at_fn 106; refine hc.mono ?_; rintro e w' ⟨rfl, h⟩)
  go_end0
  exact ⟨rfl, h⟩
/-- A row's cells. -/
def vals (f : Nat → Int) (n : Nat) : Array Value := (Array.range n).map fun i => .int .i64 (f i)
def upd (f : Nat → Int) (i : Nat) (v : Int) : Nat → Int := fun j => if j = i then v else f j
theorem vals_size (f : Nat → Int) (n : Nat) : (vals f n).size = n := by simp [vals]
theorem vals_get (f : Nat → Int) {n i : Nat} (h : i < n) : (vals f n)[i]? = some (.int .i64 (f i)) := by simp [vals, h]
theorem vals_made (n : Nat) : madeCells #[.int .i64 0] n = vals (fun _ => 0) n := by
  apply Array.ext
  · simp [madeCells, vals]
  · intro i h1 h2; simp [madeCells, vals, Nat.mod_one]
theorem vals_set (f : Nat → Int) (n i : Nat) (v : Int) : (vals f n).setIfInBounds i (.int .i64 v) = vals (upd f i v) n := by
  apply Array.ext
  · simp [vals]
  · intro j h1 h2
    have hj : j < (vals f n).size := by simpa using h1
    have e1 : ∀ (g : Nat → Int) (hh : j < (vals g n).size), (vals g n)[j] = .int .i64 (g j) := fun g hh => by simp [vals]
    rw [Array.getElem_setIfInBounds hj, e1, e1]
    unfold upd
    by_cases c : i = j
    · subst c; simp
    · rw [if_neg c, if_neg (fun h => c h.symm)]
theorem vals_congr {f g : Nat → Int} {n : Nat} (h : ∀ i, i < n → f i = g i) : vals f n = vals g n := by
  apply Array.ext
  · simp [vals]
  · intro j h1 h2
    simp only [vals, Array.getElem_map, Array.getElem_range]
    rw [h j (by simpa [vals] using h1)]
theorem ha_size (w : World) (o : Obj) : (w.alloc o).heap.size = w.heap.size + 1 := by simp
theorem ha_drew (w : World) : w.drew.heap = w.heap := rfl
theorem ha_at (w : World) (o : Obj) (k : Nat) (h : k = w.heap.size) : (w.alloc o).heap[k]? = some o := by subst h; show (w.heap.push o)[w.heap.size]? = some o; simp
theorem ha_old (w : World) (o : Obj) (k : Nat) (h : k < w.heap.size) : (w.alloc o).heap[k]? = w.heap[k]? := Below.heap_alloc w o k h
/-- What lies in memory while weights are apportioned: three rows and a variable. -/
structure St (w w' : World) (n b1 b2 b3 b4 : Nat) (o q r : Nat → Int) : Prop where
  hb : Below w.heap.size w w'
  k1 : w.heap.size ≤ b1
  k2 : w.heap.size ≤ b2
  k3 : w.heap.size ≤ b3
  k4 : w.heap.size ≤ b4
  ne : b1 ≠ b2 ∧ b1 ≠ b3 ∧ b1 ≠ b4 ∧ b2 ≠ b3 ∧ b2 ≠ b4 ∧ b3 ≠ b4
  h1 : w'.heap[b1]? = some (.cells (vals o n) 2 (0, 0))
  h2 : w'.heap[b2]? = some (.cells (vals q n) 3 (0, 0))
  h3 : w'.heap[b3]? = some (.cells (vals r n) 2 (0, 0))
  h4 : w'.heap[b4]? = some (.cells #[.slice (some ⟨b3, 0, none⟩) n n] 24 (0, 0))
theorem cell_of_heap {w : World} {b i : Nat} {cs : Array Value} {T : TypeId} {v : Value} (h : w.heap[b]? = some (.cells cs T (0, 0))) (hv : cs[i]? = some v) : w.cell? ⟨b, i, none⟩ = some v := by
  simp [World.cell?, h, hv]
theorem frozen_of_heap {w : World} {b i : Nat} {cs : Array Value} {T : TypeId} (h : w.heap[b]? = some (.cells cs T (0, 0))) : w.frozen? ⟨b, i, none⟩ = false := by
  simp [World.frozen?, h]
theorem St.drewN {w w' : World} {n b1 b2 b3 b4 : Nat} {o q r : Nat → Int} (h : St w w' n b1 b2 b3 b4 o q r) (m : Nat) : St w (w'.drewN m) n b1 b2 b3 b4 o q r :=
  ⟨pw_below_drewN h.hb m, h.k1, h.k2, h.k3, h.k4, h.ne, h.h1, h.h2, h.h3, h.h4⟩
theorem St.set1 {w w' : World} {n b1 b2 b3 b4 : Nat} {o q r : Nat → Int} (h : St w w' n b1 b2 b3 b4 o q r) (i : Nat) (v : Int) : St w (w'.setCell ⟨b1, i, none⟩ (.int .i64 v)) n b1 b2 b3 b4 (upd o i v) q r := by
  obtain ⟨n1, n2, n3, n4, n5, n6⟩ := h.ne
  refine ⟨h.hb.setCell h.k1 _, h.k1, h.k2, h.k3, h.k4, h.ne, ?_, ?_, ?_, ?_⟩
  · rw [heap_setCell_same _ _ _ _ _ _ h.h1, vals_set]
  · rw [heap_setCell_other _ _ _ _ (by exact n1.symm)]; exact h.h2
  · rw [heap_setCell_other _ _ _ _ (by exact n2.symm)]; exact h.h3
  · rw [heap_setCell_other _ _ _ _ (by exact n3.symm)]; exact h.h4
theorem St.set2 {w w' : World} {n b1 b2 b3 b4 : Nat} {o q r : Nat → Int} (h : St w w' n b1 b2 b3 b4 o q r) (i : Nat) (v : Int) : St w (w'.setCell ⟨b2, i, none⟩ (.int .i64 v)) n b1 b2 b3 b4 o (upd q i v) r := by
  obtain ⟨n1, n2, n3, n4, n5, n6⟩ := h.ne
  refine ⟨h.hb.setCell h.k2 _, h.k1, h.k2, h.k3, h.k4, h.ne, ?_, ?_, ?_, ?_⟩
  · rw [heap_setCell_other _ _ _ _ (by exact n1)]; exact h.h1
  · rw [heap_setCell_same _ _ _ _ _ _ h.h2, vals_set]
  · rw [heap_setCell_other _ _ _ _ (by exact n4.symm)]; exact h.h3
  · rw [heap_setCell_other _ _ _ _ (by exact n5.symm)]; exact h.h4
theorem St.set3 {w w' : World} {n b1 b2 b3 b4 : Nat} {o q r : Nat → Int} (h : St w w' n b1 b2 b3 b4 o q r) (i : Nat) (v : Int) : St w (w'.setCell ⟨b3, i, none⟩ (.int .i64 v)) n b1 b2 b3 b4 o q (upd r i v) := by
  obtain ⟨n1, n2, n3, n4, n5, n6⟩ := h.ne
  refine ⟨h.hb.setCell h.k3 _, h.k1, h.k2, h.k3, h.k4, h.ne, ?_, ?_, ?_, ?_⟩
  · rw [heap_setCell_other _ _ _ _ (by exact n2)]; exact h.h1
  · rw [heap_setCell_other _ _ _ _ (by exact n4)]; exact h.h2
  · rw [heap_setCell_same _ _ _ _ _ _ h.h3, vals_set]
  · rw [heap_setCell_other _ _ _ _ (by exact n6.symm)]; exact h.h4
theorem St.congr {w w' : World} {n b1 b2 b3 b4 : Nat} {o q r o' q' r' : Nat → Int} (h : St w w' n b1 b2 b3 b4 o q r) (ho : ∀ i, i < n → o i = o' i) (hq : ∀ i, i < n → q i = q' i) (hr : ∀ i, i < n → r i = r' i) : St w w' n b1 b2 b3 b4 o' q' r' :=
  ⟨h.hb, h.k1, h.k2, h.k3, h.k4, h.ne, by rw [← vals_congr ho]; exact h.h1, by rw [← vals_congr hq]; exact h.h2, by rw [← vals_congr hr]; exact h.h3, h.h4⟩
/-- An element's number, as a value. -/
def encF {N : Nat} (x : Fin (N + 1)) : Value := .int .i64 ((x.val : Nat) : Int)
theorem encF_one {N : Nat} : OneCell (encF (N := N)) := fun x => rfl
/-- All numbers, in order. -/
def allF (N : Nat) : Array (Fin (N + 1)) := Array.ofFn fun i => i
theorem allF_size (N : Nat) : (allF N).size = N + 1 := by simp [allF]
theorem allF_get (N i : Nat) (h : i < N + 1) : ((allF N)[i]!).val = i := by
  unfold allF
  rw [getElem!_pos _ i (by simpa using h)]
  simp
theorem heap_putRow_other {α : Type} [Inhabited α] (enc : α → Value) (w : World) (b off k : Nat) (d : Array α) (h : k ≠ b) : (putRow enc w b off d).heap[k]? = w.heap[k]? := by
  unfold putRow mapBlock
  show (w.heap.modify b _)[k]? = _
  rw [Array.getElem?_modify, if_neg (fun q => h q.symm)]
theorem heap_putRow_same {N n : Nat} (w : World) (b T : Nat) (f : Nat → Int) (d : Array (Fin (N + 1))) (hd : d.size = n) (h : w.heap[b]? = some (.cells (vals f n) T (0, 0))) :
    (putRow encF w b 0 d).heap[b]? = some (.cells (vals (fun j => ((d[j]!).val : Int)) n) T (0, 0)) := by
  unfold putRow mapBlock
  show (w.heap.modify b _)[b]? = _
  rw [Array.getElem?_modify, if_pos rfl, h]
  simp only [Option.map_some, onCells]
  congr 2
  apply Array.ext
  · simp [putCells, vals]
  · intro j h1 h2
    have hj : j < n := by simpa [vals] using h2
    simp [putCells, vals, encF, hd, hj]
theorem St.sorted {w w' w'' : World} {N b1 b2 b3 b4 : Nat} {o q r : Nat → Int} {d : Array (Fin (N + 1))} (h : St w w' (N + 1) b1 b2 b3 b4 o q r) (hd : d.size = N + 1) (hs : SW encF w' b2 0 d w'') :
    St w w'' (N + 1) b1 b2 b3 b4 o (fun j => ((d[j]!).val : Int)) r := by
  obtain ⟨m, os, rfl⟩ := hs
  obtain ⟨n1, n2, n3, n4, n5, n6⟩ := h.ne
  have lt : ∀ {b : Nat} {x : Obj}, w'.heap[b]? = some x → b < w'.heap.size := fun {b x} h => (Array.getElem?_eq_some_iff.1 h).1
  have sz : (putRow encF (Sort.ahead w' m) b2 0 d).heap.size = w'.heap.size := by rw [size_putRow]; rfl
  have old : ∀ k, k < w'.heap.size → k ≠ b2 → (sortWorld encF w' b2 0 m d os).heap[k]? = w'.heap[k]? := by
    intro k hk hne
    unfold sortWorld
    rw [heap_grow_old _ _ (by rw [sz]; exact hk), heap_putRow_other _ _ _ _ _ _ hne]; rfl
  refine ⟨?_, h.k1, h.k2, h.k3, h.k4, h.ne, ?_, ?_, ?_, ?_⟩
  · refine ⟨h.hb.os, h.hb.tape, h.hb.output, ?_, fun k hk => ?_⟩
    · have := h.hb.size
      unfold sortWorld
      rw [size_grow, sz]; omega
    · rw [old k (Nat.lt_of_lt_of_le hk h.hb.size) (by have := h.k2; omega)]
      exact h.hb.block k hk
  · rw [old _ (lt h.h1) n1]; exact h.h1
  · unfold sortWorld
    rw [heap_grow_old _ _ (by rw [sz]; exact lt h.h2)]
    exact heap_putRow_same _ _ _ q d hd h.h2
  · rw [old _ (lt h.h3) (fun e => n4 e.symm)]; exact h.h3
  · rw [old _ (lt h.h4) (fun e => n5 e.symm)]; exact h.h4
theorem St.row {w w' : World} {N b1 b2 b3 b4 : Nat} {o r : Nat → Int} (h : St w w' (N + 1) b1 b2 b3 b4 o (fun j => (j : Int)) r) : Row1 encF w' b2 0 (allF N) := by
  refine ⟨encF_one, fun j hj => ⟨?_, ?_⟩, (Array.getElem?_eq_some_iff.1 h.h2).1⟩
  · rw [allF_size] at hj
    have := cell_of_heap (i := j) h.h2 (vals_get _ hj)
    rw [Nat.zero_add, this]
    unfold encF
    rw [allF_get N j hj]
  · rw [Nat.zero_add]; exact frozen_of_heap h.h2
theorem cmpV_neg (x y : Int) : cmpV x y < 0 ↔ x < y := by
  unfold cmpV
  by_cases h : x < y
  · rw [if_pos h]; omega
  · rw [if_neg h]; split <;> omega
theorem St.cmp {w w' : World} {N b1 b2 b3 b4 : Nat} {o q r : Nat → Int} (h : St w w' (N + 1) b1 b2 b3 b4 o q r) (hn : N + 1 < 4611686018427387904) :
    CmpLays1 Tryz.prog 77 #[.pointer (some ⟨b4, 0, none⟩)] (encF (N := N)) (fun x y => cmpV (r y.val) (r x.val)) b2 0 (N + 1) w' := by
  intro m os dk hdk x y
  obtain ⟨n1, n2, n3, n4, n5, n6⟩ := h.ne
  have h' := h.sorted hdk ⟨m, os, rfl⟩
  exact closure_calls b3 b4 (N + 1) x.val y.val (r x.val) (r y.val) _ hn x.isLt y.isLt (cell_of_heap h'.h4 rfl) (cell_of_heap h'.h3 (vals_get _ x.isLt)) (cell_of_heap h'.h3 (vals_get _ y.isLt))
/-- An order of all numbers below n: the greater key first, of two alike the one that was ahead. -/
def Ordr (n : Nat) (r : Nat → Int) (π : Nat → Nat) : Prop := (∀ p, p < n → π p < n) ∧ (∀ j, j < n → ∃ p, p < n ∧ π p = j) ∧ (∀ p q, p < q → q < n → r (π q) < r (π p) ∨ (r (π p) = r (π q) ∧ π p < π q))
theorem sort_step {w w' : World} {n b1 b2 b3 b4 : Nat} {o r : Nat → Int} (h : St w w' n b1 b2 b3 b4 o (fun j => (j : Int)) r) (h1 : 1 ≤ n) (h2 : n ≤ 1048576) :
    Calls Tryz.prog 76 #[.slice (some ⟨b2, 0, none⟩) n n, .func (.func 77) #[] #[.pointer (some ⟨b4, 0, none⟩)]] w' fun e w'' => e = .returned (.tuple #[]) ∧ ∃ π : Nat → Nat, St w w'' n b1 b2 b3 b4 o (fun j => (π j : Int)) r ∧ Ordr n r π := by
  obtain ⟨N, rfl⟩ : ∃ N, n = N + 1 := ⟨n - 1, by omega⟩
  have eg : ∀ args w, (callFunc 77 args).run Tryz.prog w = .ok (.enter 77 args) w := enters_of Tryz.func77 (by kernel_rfl) rfl
  have hsz := allF_size N
  have hc := sortStable_calls (encF (N := N)) (fun x y => cmpV (r y.val) (r x.val)) 77 #[.pointer (some ⟨b4, 0, none⟩)] (fun x => r x.val) (fun x => x.val) b2 0 (N + 1) (allF N) w' eg
    (by rw [hsz]; exact h.cmp (by omega)) (fun x y => cmpV_neg _ _) h.row (by rw [hsz]; omega)
    (fun i j h1 h2 h3 => by rw [hsz] at h3; show ((allF N)[i]!).val < ((allF N)[j]!).val; rw [allF_get N i (by omega), allF_get N j h3]; exact h2)
  rw [hsz] at hc
  refine hc.mono ?_
  rintro e w'' ⟨rfl, d', h3, h4, h5⟩
  refine ⟨rfl, fun j => (d'[j]!).val, h.sorted (by rw [h4.1, hsz]) h3, fun p hp => (d'[p]!).isLt, fun j hj => ?_, fun p q hpq hq => ?_⟩
  · obtain ⟨l, l1, l2, l3⟩ := h4.2.2.2 j (by omega) hj
    exact ⟨l, l2, by show (d'[l]!).val = j; rw [← l3]; exact allF_get N j hj⟩
  · exact h5 p q (by omega) hpq hq
/-- A weight's share, downwards, and what is left of it. -/
def qV (l : List Int) (s : Int) (j : Nat) : Int := rd l (j : Int) * 16384 / s
def mV (l : List Int) (s : Int) (j : Nat) : Int := rd l (j : Int) * 16384 % s
/-- The sum of the first so many. -/
def psum (f : Nat → Int) : Nat → Int
  | 0 => 0
  | i + 1 => psum f i + f i
theorem psum_bnd (f : Nat → Int) (n : Nat) (h : ∀ j, j < n → -134217728 ≤ f j ∧ f j ≤ 134217728) : ∀ i, i ≤ n → -134217728 * (i : Int) ≤ psum f i ∧ psum f i ≤ 134217728 * (i : Int)
  | 0, _ => by simp [psum]
  | i + 1, hi => by
    have := psum_bnd f n h i (by omega)
    have := h i (by omega)
    rw [psum]; omega
set_option maxHeartbeats 8000000 in
set_option maxRecDepth 100000 in
theorem app_calls (A0 : Option Addr) (c0 : Nat) (l0 : List Int) (w : World) (hr0 : Kd.C (Kd.int .i64) w A0 l0.length l0) (hc0 : l0.length ≤ c0) (hi : ∀ i, I64 (rd l0 i)) (hn0 : 1 ≤ l0.length) (hn1 : l0.length ≤ 1048576) (hk : chkV l0 = 0) (hlb : 0 ≤ 16384 - psum (qV l0 (sumFrom 0 l0)) l0.length ∧ 16384 - psum (qV l0 (sumFrom 0 l0)) l0.length ≤ l0.length) (hqb : ∀ j, j < l0.length → -134217728 ≤ qV l0 (sumFrom 0 l0) j ∧ qV l0 (sumFrom 0 l0) j ≤ 134217728) (hq : ∀ j, j < l0.length → fixed_Floor.f 1 (wrap64 (rd l0 (j : Int) * 16384)) (sumFrom 0 l0) = some (qV l0 (sumFrom 0 l0) j) ∧ fixed_Mod.f 1 (wrap64 (rd l0 (j : Int) * 16384)) (sumFrom 0 l0) = some (mV l0 (sumFrom 0 l0) j)) :
    Calls Tryz.prog 49 #[.slice A0 l0.length c0] w fun e w' => ∃ (π : Nat → Nat) (o : Nat → Int) (b1 : Nat), e = .returned (.tuple #[.slice (some ⟨b1, 0, none⟩) l0.length l0.length, .int .i64 0]) ∧ Ordr l0.length (mV l0 (sumFrom 0 l0)) π ∧
      (∀ p : Nat, (p : Int) < 16384 - psum (qV l0 (sumFrom 0 l0)) l0.length → o (π p) = qV l0 (sumFrom 0 l0) (π p) + 1) ∧ (∀ j, j < l0.length → (∀ p : Nat, (p : Int) < 16384 - psum (qV l0 (sumFrom 0 l0)) l0.length → π p ≠ j) → o j = qV l0 (sumFrom 0 l0) j) ∧
      w'.heap[b1]? = some (.cells (vals o l0.length) 2 (0, 0)) ∧ w.heap.size ≤ b1 ∧ Below w.heap.size w w' := by
  have hc := check_calls A0 c0 l0 w hr0 hc0 hi
  rw [hk] at hc
  have hs := fun w' (hb : Below w.heap.size w w') => taps_Sum.calls (l0.length + 3) A0 c0 l0 (sumFrom 0 l0) w' (Kd.C_below hr0 hb) hc0 (taps_Sum_eq (Nat.le_refl _) (by omega) hi)
  have eCH : ∀ args w, (callFunc 72 args).run Tryz.prog w = .ok (.enter 72 args) w := enters_of Tryz.func72 (by kernel_rfl) rfl
  have eTS : ∀ args w, (callFunc 73 args).run Tryz.prog w = .ok (.enter 73 args) w := enters_of Tryz.func73 (by kernel_rfl) rfl
  have mixed : Tryz.prog.follows .mixedOrders = true := by kernel_rfl
  have HR0 := Aside0.mk hr0
  have HI := Aside0.mk hi
  have HQ0 := Aside0.mk hq
  have HQB0 := Aside0.mk hqb
  have HLB0 := Aside0.mk hlb
  clear hr0 hk hi hq hqb hlb
  obtain ⟨n, hn⟩ : ∃ n, n = l0.length := ⟨_, rfl⟩
  rw [← hn] at hc hs hc0 hn0 hn1 ⊢
  have HN := Aside0.mk hn
  clear hn
  obtain ⟨s, hs0⟩ : ∃ s, s = sumFrom 0 l0 := ⟨_, rfl⟩
  rw [← hs0] at hs ⊢
  have HQ := Aside0.mk (hs0 ▸ HN.out ▸ HQ0.out : ∀ j, j < n → fixed_Floor.f 1 (wrap64 (rd l0 (j : Int) * 16384)) s = some (qV l0 s j) ∧ fixed_Mod.f 1 (wrap64 (rd l0 (j : Int) * 16384)) s = some (mV l0 s j))
  have HQB := Aside0.mk (hs0 ▸ HN.out ▸ HQB0.out : ∀ j, j < n → -134217728 ≤ qV l0 s j ∧ qV l0 s j ≤ 134217728)
  have HLB := Aside0.mk (hs0 ▸ HN.out ▸ HLB0.out : 0 ≤ 16384 - psum (qV l0 s) n ∧ 16384 - psum (qV l0 s) n ≤ n)
  have HPS := Aside0.mk (fun i (h : i ≤ n) => psum_bnd (qV l0 s) n HQB.out i h)
  have HS := Aside0.mk hs0
  clear hs0 HQ0 HQB0 HLB0
  go_enter Tryz.func49, Tryz.ntmps49
  go_upto_region 5 with (first | (go_at_fn 72; refine hc.mono ?_; rintro e w' ⟨rfl, hb⟩; have HB1 := Aside0.mk hb; clear hb hc) | (go_at_fn 73; refine (hs _ HB1.out).mono ?_; rintro e w' ⟨rfl, ⟨nd2, rfl⟩⟩))
  have HB2 := Aside0.mk (pw_below_drewN HB1.out nd2)
  clear hs HB1
  generalize w'.drewN nd2 = w2 at HB2 ⊢
  have z0 : (0 : Int) ≤ (n : Int) := by omega
  go_cut [7, 8, 9, 29] (fun v7 v8 v9 v29 wc => ∃ (b1 b2 b3 b4 : Nat), v7 = .slice (some ⟨b1, 0, none⟩) n n ∧ v8 = .slice (some ⟨b2, 0, none⟩) n n ∧ v9 = .pointer (some ⟨b4, 0, none⟩) ∧ v29 = .slice (some ⟨b3, 0, none⟩) n n ∧ Aside0 (St w wc n b1 b2 b3 b4 (fun _ => 0) (fun _ => 0) (fun _ => 0)))
  case first => as_aux_lemma =>
    have mk1 := print_make (P := Tryz.prog) 24 2 .i64 8 (by kernel_rfl) (by kernel_rfl) (by decide) n (by omega)
    have mk2 := print_make (P := Tryz.prog) 120 3 .i64 8 (by kernel_rfl) (by kernel_rfl) (by decide) n (by omega)
    go_region_held3 (fun _ => True) (trivial) (fail)
    all_goals go_wp2
    all_goals go_meet
    all_goals (
      have hw := HB2.out.size
      refine ⟨_, _, _, _, rfl, rfl, rfl, rfl, ⟨⟨?_, ?_, ?_, ?_, ?_, ?_, ?_, ?_, ?_, ?_⟩⟩⟩
      · repeat (first | exact HB2.out | apply Below.drew | (refine Below.setCell ?_ (by show w.heap.size ≤ _; simp; omega) _) | (refine Below.alloc ?_ (by first | omega | (simp only [ha_size]; omega)) _))
      · omega
      · omega
      · omega
      · omega
      · omega
      all_goals (
        rw [ha_drew]
        try rw [← vals_made]
        repeat (first
          | (rw [ha_at _ _ _ (by first | rfl | (simp only [ha_size]; done) | (simp only [ha_size]; omega))]; done)
          | rw [ha_old _ _ _ (by first | omega | (simp only [ha_size]; omega))])))
  case rest =>
    obtain ⟨b1, b2, b3, b4, rfl, rfl, rfl, rfl, HST⟩ := hcut
    clear HB2
    go_wp2
    go_loopg [6, 10, 11, 32] n (fun kx s6 s10 s11 s32 wr => ∃ (i : Nat) (lf : Int), s6 = .int .i64 lf ∧ s32 = .int .i64 i ∧ i ≤ n ∧ n - i ≤ kx ∧ Aside0 (lf = 16384 - psum (qV l0 s) i) ∧
      Aside0 (St w wr n b1 b2 b3 b4 (fun j => if j < i then qV l0 s j else 0) (fun j => if j < i then (j : Int) else 0) (fun j => if j < i then mV l0 s j else 0)))
    case atStart => exact ⟨0, 16384, rfl, rfl, by omega, by omega, ⟨by simp [psum]⟩, ⟨HST.out.congr (fun i h => by simp) (fun i h => by simp) (fun i h => by simp)⟩⟩
    case round =>
      clear HST
      obtain ⟨i, lf, rfl, rfl, h1, h2, HL, HST⟩ := hrel
      by_cases hlt : (i : Int) < (n : Int)
      · have p101 : 0 ≤ (i : Int) := by omega
        obtain ⟨ad101, e101, hx101_0⟩ := Kd.at_int (Kd.C_below HR0.out HST.out.hb) (i : Int) p101 (by rw [← HN.out]; exact hlt)
        cases e101
        rw [show ((i : Int)).toNat = i from by omega] at hx101_0
        obtain ⟨n12, n13, n14, n23, n24, n34⟩ := HST.out.ne
        have c4 := cell_of_heap (i := 0) HST.out.h4 rfl
        have c1 := fun m => cell_of_heap (i := i) (HST.out.drewN m).h1 (vals_get _ (by omega))
        have c3 := fun m v => cell_of_heap (i := i) ((HST.out.drewN m).set1 i v).h3 (vals_get _ (by omega))
        have c2 := fun m v u => cell_of_heap (i := i) (((HST.out.drewN m).set1 i v).set3 i u).h2 (vals_get _ (by omega))
        have f1 := frozen_of_heap (i := i) HST.out.h1
        have f2 := frozen_of_heap (i := i) HST.out.h2
        have f3 := frozen_of_heap (i := i) HST.out.h3
        have hfl := fun w' => fixed_Floor.calls 1 (wrap64 (rd l0 (i : Int) * 16384)) s (qV l0 s i) w' (HQ.out i (by omega)).1
        have hmo := fun w' => fixed_Mod.calls 1 (wrap64 (rd l0 (i : Int) * 16384)) s (mV l0 s i) w' (HQ.out i (by omega)).2
        obtain ⟨qv, hqv⟩ : ∃ v, v = qV l0 s i := ⟨_, rfl⟩
        obtain ⟨mv, hmv⟩ : ∃ v, v = mV l0 s i := ⟨_, rfl⟩
        rw [← hqv] at hfl
        rw [← hmv] at hmo
        have HQV := Aside0.mk (show qv = qV l0 s i ∧ -134217728 ≤ qv ∧ qv ≤ 134217728 from ⟨hqv, by rw [hqv]; exact HQB.out i (by omega)⟩)
        have HMV := Aside0.mk hmv
        clear hqv hmv
        simp only [← i64w] at hfl hmo
        have HFL := Aside0.mk hfl
        have HMO := Aside0.mk hmo
        clear hfl hmo
        go_upto_region 9 with fail
        go_region_held3 (fun w' => w'.cell? ⟨b4, 0, none⟩ = some (.slice (some ⟨b3, 0, none⟩) n n)) (first | go_keep | (refine (World.cell?_setCell_other _ _ _ _ (by intro e; simp only [Addr.mk.injEq] at e; omega)).trans ?_; first | assumption | (simp; done) | (simp; assumption))) (first | (go_at_call 74; (with_reducible refine (HFL.out _).mono ?_); rintro e w' ⟨rfl, ⟨ndf, rfl⟩⟩) | (go_at_call 75; (with_reducible refine (HMO.out _).mono ?_); rintro e w' ⟨rfl, ⟨ndm, rfl⟩⟩))
        all_goals (
          first | generalize 1 + ndf + ndm = m9 | generalize 1 + ndm + ndf = m9
          have HST2 := Aside0.mk ((((HST.out.drewN m9).set1 i qv).set3 i mv).set2 i (i : Int))
          generalize (((wr.drewN m9).setCell ⟨b1, i, none⟩ (.int .i64 qv)).setCell ⟨b3, i, none⟩ (.int .i64 mv)).setCell ⟨b2, i, none⟩ (.int .i64 (i : Int)) = w9 at HST2 ⊢
          clear c4 c1 c3 c2 f1 f2 f3 hx101_0 HST
          have c5 : w9.cell? ⟨b1, i, none⟩ = some (.int .i64 qv) := by
            have := cell_of_heap (i := i) HST2.out.h1 (vals_get _ (by omega))
            simpa [upd] using this
          have hlb := HPS.out i (by omega)
          have wl : IntKind.i64.wrap (lf - qv) = lf - qv := by rw [i64w]; have := HL.out; have := HQV.out; exact w64_id (by omega) (by omega)
          have wi : IntKind.i64.wrap ((i : Int) + 1) = (i : Int) + 1 := by rw [i64w]; exact w64_id (by omega) (by omega)
          clear hlb
          go_wp2
          go_roundg (n - (i + 1))
          case measure => omega
          case rel =>
            refine ⟨i + 1, lf - qv, rfl, by simp, by omega, Nat.le_refl _, ⟨by rw [psum, HL.out, HQV.out.1]; omega⟩, ⟨HST2.out.congr (fun j h => ?_) (fun j h => ?_) (fun j h => ?_)⟩⟩
            · unfold upd
              by_cases c : j = i
              · rw [if_pos c, if_pos (by omega), c, HQV.out.1]
              · rw [if_neg c]; dsimp only; by_cases c2 : j < i
                · rw [if_pos c2, if_pos (by omega)]
                · rw [if_neg c2, if_neg (by omega)]
            · unfold upd
              by_cases c : j = i
              · rw [if_pos c, if_pos (by omega), c]
              · rw [if_neg c]; dsimp only; by_cases c2 : j < i
                · rw [if_pos c2, if_pos (by omega)]
                · rw [if_neg c2, if_neg (by omega)]
            · unfold upd
              by_cases c : j = i
              · rw [if_pos c, if_pos (by omega), c, HMV.out]
              · rw [if_neg c]; dsimp only; by_cases c2 : j < i
                · rw [if_pos c2, if_pos (by omega)]
                · rw [if_neg c2, if_neg (by omega)])
      · have hin : i = n := by omega
        have HST2 := Aside0.mk (HST.out.congr (o' := qV l0 s) (q' := fun j => (j : Int)) (r' := mV l0 s) (fun j h => by rw [if_pos (by omega)]) (fun j h => by rw [if_pos (by omega)]) (fun j h => by rw [if_pos (by omega)]))
        have HLF := Aside0.mk (show lf = 16384 - psum (qV l0 s) n by rw [HL.out, hin])
        have hcall := sort_step HST2.out hn0 hn1
        have eSF : ∀ args w, (callFunc 76 args).run Tryz.prog w = .ok (.enter 76 args) w := enters_of Tryz.func76 (by kernel_rfl) rfl
        clear HST HST2 HL hin
        obtain ⟨L, hL⟩ : ∃ L : Nat, lf = (L : Int) := ⟨lf.toNat, by have := HLB.out; have := HLF.out; omega⟩
        subst hL
        have hLn : L ≤ n := by have := HLB.out; have := HLF.out; omega
        have zL0 : (0 : Int) ≤ (L : Int) := by omega
        have zL1 : (L : Int) ≤ (n : Int) := by omega
        go_upto_region 13 with (go_at_fn 76; refine hcall.mono ?_; rintro e w' ⟨rfl, π, hst, hord⟩; have HST3 := Aside0.mk hst; have HO := Aside0.mk hord; clear hst hord)
        clear hcall
        go_wp2
        go_loopg [13, 69] L (fun kx s13 s69 wr => ∃ (t : Nat), s69 = .int .i64 t ∧ t ≤ L ∧ L - t ≤ kx ∧ Aside0 (∃ o : Nat → Int, St w wr n b1 b2 b3 b4 o (fun j => (π j : Int)) (mV l0 s) ∧ (∀ p, p < t → o (π p) = qV l0 s (π p) + 1) ∧ (∀ j, j < n → (∀ p, p < t → π p ≠ j) → o j = qV l0 s j)))
        case atStart => exact ⟨0, rfl, by omega, by omega, ⟨qV l0 s, HST3.out, fun p h => by omega, fun j h h' => rfl⟩⟩
        case round =>
          clear HST3
          obtain ⟨t, rfl, t1, t2, HX⟩ := hrel
          by_cases hlt : (t : Int) < (L : Int)
          · obtain ⟨o, hst, ho1, ho2⟩ := HX.out
            have HST := Aside0.mk hst
            obtain ⟨x, hx⟩ : ∃ x, x = π t := ⟨_, rfl⟩
            have hxn : x < n := by rw [hx]; exact HO.out.1 t (by omega)
            have hnew : ∀ p, p < t → π p ≠ x := by
              intro p hp e
              have := HO.out.2.2 p t hp (by omega)
              rw [e, ← hx] at this
              omega
            have hox : o x = qV l0 s x := ho2 x hxn hnew
            have HOX := Aside0.mk hox
            have hqb := HQB.out x hxn
            have c1 : wr.cell? ⟨b2, t, none⟩ = some (.int .i64 (x : Int)) := by rw [hx]; exact cell_of_heap hst.h2 (vals_get _ (by omega))
            obtain ⟨v, hv⟩ : ∃ v, v = o x := ⟨_, rfl⟩
            have c2 : wr.cell? ⟨b1, x, none⟩ = some (.int .i64 v) := by rw [hv]; exact cell_of_heap hst.h1 (vals_get _ hxn)
            have f2 : wr.frozen? ⟨b1, x, none⟩ = false := frozen_of_heap hst.h1
            have wv : IntKind.i64.wrap (v + 1) = v + 1 := by rw [i64w, hv, hox]; exact w64_id (by omega) (by omega)
            have wt : IntKind.i64.wrap ((t : Int) + 1) = (t : Int) + 1 := by rw [i64w]; exact w64_id (by omega) (by omega)
            have px : (0 : Int) ≤ (x : Int) := by omega
            have qx : (x : Int) < (n : Int) := by omega
            have pt : (0 : Int) ≤ (t : Int) := by omega
            have HX2 := Aside0.mk hx
            have HV := Aside0.mk hv
            have HO1 := Aside0.mk ho1
            have HO2 := Aside0.mk ho2
            have HNEW := Aside0.mk hnew
            clear HX hst ho1 ho2 hnew hox hqb hx hv
            go_wp2
            have HST4 := Aside0.mk (HST.out.set1 x (v + 1))
            go_roundg (L - (t + 1))
            case measure => omega
            case rel =>
              refine ⟨t + 1, by simp, by omega, Nat.le_refl _, ⟨upd o x (v + 1), HST4.out, fun p hp => ?_, fun j hj hne => ?_⟩⟩
              · unfold upd
                by_cases c : π p = x
                · rw [if_pos c, HV.out, HOX.out, c]
                · rw [if_neg c]
                  by_cases c2 : p = t
                  · exact absurd (by rw [c2, HX2.out]) c
                  · exact HO1.out p (by omega)
              · unfold upd
                have c : j ≠ x := by rw [HX2.out]; exact fun e => hne t (by omega) e.symm
                rw [if_neg c]
                exact HO2.out j hj (fun p hp => hne p (by omega))
          · have htl : t = L := by omega
            subst htl
            go_wp2
            go_ret2
            obtain ⟨o, hst, ho1, ho2⟩ := HX.out
            refine ⟨π, o, b1, rfl, HO.out, fun p hp => ho1 p (by have := HLF.out; omega), fun j hj hne => ho2 j hj (fun p hp => hne p (by have := HLF.out; omega)), hst.h1, hst.k1, hst.hb⟩
theorem szV_le {x : Int} (hx : I64 x) (h : ¬ szV x > 1099511627776) : -1099511627776 ≤ x ∧ x ≤ 1099511627776 := by
  unfold szV at h
  have e : x * -1 = -x := by omega
  rw [e] at h
  unfold mx hold at h
  split at h <;> (try split at h) <;> (try split at h) <;> omega
theorem sum_take (l : List Int) (h1 : l.length ≤ 1048576) (hb : ∀ j, j < l.length → -1099511627776 ≤ rd l (j : Int) ∧ rd l (j : Int) ≤ 1099511627776) : ∀ i, i ≤ l.length →
    sumFrom 0 (l.take i) = psum (fun j => rd l (j : Int)) i ∧ -1099511627776 * (i : Int) ≤ psum (fun j => rd l (j : Int)) i ∧ psum (fun j => rd l (j : Int)) i ≤ 1099511627776 * (i : Int)
  | 0, _ => by simp [sumFrom, psum]
  | i + 1, hi => by
    obtain ⟨h2, h3, h4⟩ := sum_take l h1 hb i (by omega)
    have h5 := hb i (by omega)
    have e : l.take (i + 1) = l.take i ++ [rd l (i : Int)] := by
      rw [List.take_add_one, List.getElem?_eq_getElem (by omega)]
      unfold rd
      rw [List.getD_eq_getElem?_getD, show ((i : Int)).toNat = i from by omega, List.getElem?_eq_getElem (by omega)]; rfl
    refine ⟨?_, ?_, ?_⟩
    · rw [e]
      unfold sumFrom at h2 ⊢
      rw [List.foldl_append, h2]
      show hold (psum _ i + rd l (i : Int)) = psum _ i + rd l (i : Int)
      rw [hold_id (by omega) (by omega)]
    · rw [psum]; omega
    · rw [psum]; omega
theorem psum_div (l : List Int) (s : Int) (hs : 0 < s) : ∀ i : Nat, psum (qV l s) i * s + psum (mV l s) i = 16384 * psum (fun j => rd l (j : Int)) i ∧ 0 ≤ psum (mV l s) i ∧ psum (mV l s) i ≤ i * s - i
  | 0 => by simp [psum]
  | i + 1 => by
    obtain ⟨h1, h2, h3⟩ := psum_div l s hs i
    have e := Int.mul_ediv_add_emod (rd l (i : Int) * 16384) s
    have r0 := Int.emod_nonneg (rd l (i : Int) * 16384) (show s ≠ 0 by omega)
    have r1 := Int.emod_lt_of_pos (rd l (i : Int) * 16384) hs
    have e1 : (psum (qV l s) i + qV l s i) * s = psum (qV l s) i * s + s * (rd l (i : Int) * 16384 / s) := by
      rw [Int.add_mul]; unfold qV; rw [Int.mul_comm (rd l (i : Int) * 16384 / s)]
    have e2 : ((i : Int) + 1) * s = (i : Int) * s + s := by rw [Int.add_mul, Int.one_mul]
    have e3 : mV l s i = rd l (i : Int) * 16384 % s := rfl
    refine ⟨?_, ?_, ?_⟩
    · show (psum (qV l s) i + qV l s i) * s + (psum (mV l s) i + mV l s i) = 16384 * (psum (fun j => rd l (j : Int)) i + rd l (i : Int))
      rw [e1, e3]; omega
    · show 0 ≤ psum (mV l s) i + mV l s i
      rw [e3]; omega
    · show psum (mV l s) i + mV l s i ≤ ((i + 1 : Nat) : Int) * s - ((i + 1 : Nat) : Int)
      rw [show ((i + 1 : Nat) : Int) = (i : Int) + 1 from by omega, e2, e3]; omega
/-- What holds of weights that may be apportioned. -/
structure Good (l : List Int) (s : Int) : Prop where
  n0 : 1 ≤ l.length
  n1 : l.length ≤ 1048576
  xb : ∀ j, j < l.length → -1099511627776 ≤ rd l (j : Int) ∧ rd l (j : Int) ≤ 1099511627776
  sb : 268435456 ≤ s ∧ s ≤ 1152921504606846976
  sx : s = psum (fun j => rd l (j : Int)) l.length
  qb : ∀ j, j < l.length → -134217728 ≤ qV l s j ∧ qV l s j ≤ 134217728
  lb : 0 ≤ 16384 - psum (qV l s) l.length ∧ 16384 - psum (qV l s) l.length ≤ l.length
theorem good_of_chk {l : List Int} (hi : ∀ i : Nat, I64 (rd l (i : Int))) (h : chkV l = 0) : Good l (sumFrom 0 l) := by
  unfold chkV at h
  have h1 : ¬ (l.length = 0 ∨ l.length > 1048576 ∨ ∃ x ∈ l, szV x > 1099511627776) := by
    intro q; rw [if_pos q] at h; omega
  rw [if_neg h1] at h
  have h2 : ¬ sumFrom 0 l < 268435456 := by
    intro q; rw [if_pos q] at h; omega
  have n0 : 1 ≤ l.length := by
    apply Classical.byContradiction; intro q; exact h1 (Or.inl (by omega))
  have n1 : l.length ≤ 1048576 := by
    apply Classical.byContradiction; intro q; exact h1 (Or.inr (Or.inl (by omega)))
  have xb : ∀ j, j < l.length → -1099511627776 ≤ rd l (j : Int) ∧ rd l (j : Int) ≤ 1099511627776 := fun j hj =>
    szV_le (hi j) (fun q => h1 (Or.inr (Or.inr ⟨_, rd_mem hj, q⟩)))
  have st := sum_take l n1 xb l.length (Nat.le_refl _)
  rw [List.take_of_length_le (Nat.le_refl _)] at st
  have sb : 268435456 ≤ sumFrom 0 l ∧ sumFrom 0 l ≤ 1152921504606846976 := by omega
  have qb : ∀ j, j < l.length → -134217728 ≤ qV l (sumFrom 0 l) j ∧ qV l (sumFrom 0 l) j ≤ 134217728 := by
    intro j hj
    have hx := xb j hj
    unfold qV
    constructor
    · rw [Int.le_ediv_iff_mul_le (by omega)]; omega
    · have : rd l (j : Int) * 16384 / sumFrom 0 l < 134217729 := by
        rw [Int.ediv_lt_iff_lt_mul (by omega)]; omega
      omega
  have pd := psum_div l (sumFrom 0 l) (by omega) l.length
  refine ⟨n0, n1, xb, sb, st.1, qb, ?_⟩
  obtain ⟨p1, p2, p3⟩ := pd
  rw [← st.1] at p1
  generalize sumFrom 0 l = s at *
  generalize psum (qV l s) l.length = Q at *
  have e : (16384 - Q) * s = 16384 * s - Q * s := Int.sub_mul _ _ _
  have e2 : (16384 - Q) * s = psum (mV l s) l.length := by omega
  constructor
  · apply Classical.byContradiction; intro q
    have : (16384 - Q) * s ≤ (-1) * s := Int.mul_le_mul_of_nonneg_right (by omega) (by omega)
    omega
  · apply Classical.byContradiction; intro q
    have : ((l.length : Int) + 1) * s ≤ (16384 - Q) * s := Int.mul_le_mul_of_nonneg_right (by omega) (by omega)
    rw [Int.add_mul, Int.one_mul] at this
    omega
theorem good_fl {l : List Int} {s : Int} (h : Good l s) : ∀ j, j < l.length → fixed_Floor.f 1 (wrap64 (rd l (j : Int) * 16384)) s = some (qV l s j) ∧ fixed_Mod.f 1 (wrap64 (rd l (j : Int) * 16384)) s = some (mV l s j) := by
  intro j hj
  have hx := h.xb j hj
  have hq := h.qb j hj
  have hsb := h.sb
  rw [w64_id (show -9223372036854775808 ≤ rd l (j : Int) * 16384 from by omega) (by omega)]
  rw [fixed_Floor_eq (by omega) (by constructor <;> omega) (by constructor <;> omega), fixed_Mod_eq (by omega) (by constructor <;> omega) (by constructor <;> omega)]
  unfold flo md
  rw [if_pos (by omega), if_neg (by omega), if_pos (by omega)]
  unfold qV at hq ⊢
  rw [hold_id (by omega) (by omega)]
  exact ⟨rfl, rfl⟩
/-- The first of the greatest among the first so many. -/
def best (r : List Int) : Nat → Nat
  | 0 => 0
  | i + 1 => if rd r (i : Int) > rd r (best r i : Int) then i else best r i
/-- So many times the first of the greatest gets one more, and is taken out. -/
def picks : Nat → List Int → List Int → List Int
  | 0, o, _ => o
  | t + 1, o, r => picks t (o.set (best r r.length) (rd o (best r r.length : Int) + 1)) (r.set (best r r.length) (-1))
/-- The taps. -/
def appL (l : List Int) : List Int :=
  picks (16384 - psum (qV l (sumFrom 0 l)) l.length).toNat ((List.range l.length).map fun j => qV l (sumFrom 0 l) j) ((List.range l.length).map fun j => mV l (sumFrom 0 l) j)
theorem rd_range (f : Nat → Int) {n j : Nat} (h : j < n) : rd ((List.range n).map f) (j : Int) = f j := by
  unfold rd
  rw [List.getD_eq_getElem?_getD, show ((j : Int)).toNat = j from by omega, List.getElem?_map, List.getElem?_range h]; rfl
theorem set_range (f : Nat → Int) (n j : Nat) (v : Int) : ((List.range n).map f).set j v = (List.range n).map fun i => if i = j then v else f i := by
  apply List.ext_getElem
  · simp
  · intro i h1 h2
    rw [List.getElem_set]
    simp only [List.getElem_map, List.getElem_range]
    by_cases c : j = i
    · subst c; simp
    · rw [if_neg c, if_neg (fun e => c e.symm)]
theorem best_lt (r : List Int) : ∀ i, 1 ≤ i → best r i < i
  | 0, h => by omega
  | i + 1, _ => by
    rw [best]; split
    · omega
    · by_cases c : 1 ≤ i
      · have := best_lt r i c; omega
      · have : i = 0 := by omega
        subst this; rw [best]; omega
theorem best_is (r : List Int) (b : Nat) : ∀ i, b < i → (∀ j, j < i → rd r (j : Int) ≤ rd r (b : Int)) → (∀ j, j < b → rd r (j : Int) < rd r (b : Int)) → best r i = b
  | 0, h, _, _ => by omega
  | i + 1, h, h1, h2 => by
    rw [best]
    by_cases c : b = i
    · subst c
      by_cases c0 : b = 0
      · subst c0; rw [best]; split <;> rfl
      · have := h2 (best r b) (best_lt r b (by omega))
        rw [if_pos (by omega)]
    · rw [best_is r b i (by omega) (fun j hj => h1 j (by omega)) h2]
      have := h1 i (by omega)
      rw [if_neg (by omega)]
/-- Whatever order of all numbers there is, the picks take the first so many of it. -/
theorem picks_ordr {n : Nat} {m q : Nat → Int} {π : Nat → Nat} (hπ : Ordr n m π) (hm : ∀ j, j < n → 0 ≤ m j) : ∀ (d t : Nat) (o : Nat → Int), t + d ≤ n → (∀ p, p < t → o (π p) = q (π p) + 1) → (∀ j, j < n → (∀ p, p < t → π p ≠ j) → o j = q j) →
    ∃ o' : Nat → Int, picks d ((List.range n).map o) ((List.range n).map fun j => if ∃ p, p < t ∧ π p = j then -1 else m j) = (List.range n).map o' ∧ (∀ p, p < t + d → o' (π p) = q (π p) + 1) ∧ (∀ j, j < n → (∀ p, p < t + d → π p ≠ j) → o' j = q j) := by
  intro d
  induction d with
  | zero => intro t o h1 h2 h3; exact ⟨o, rfl, h2, h3⟩
  | succ d ih =>
    intro t o h1 h2 h3
    have hx : π t < n := hπ.1 t (by omega)
    have hdist : ∀ p p', p < p' → p' < n → π p ≠ π p' := by
      intro p p' h4 h5 e
      have := hπ.2.2 p p' h4 h5
      rw [e] at this; omega
    have hr : ∀ j, j < n → rd ((List.range n).map fun j => if ∃ p, p < t ∧ π p = j then -1 else m j) (j : Int) = if ∃ p, p < t ∧ π p = j then -1 else m j := fun j hj => rd_range _ hj
    have hnt : ¬ ∃ p, p < t ∧ π p = π t := by
      rintro ⟨p, h4, h5⟩; exact hdist p t h4 (by omega) h5
    have hb : best ((List.range n).map fun j => if ∃ p, p < t ∧ π p = j then -1 else m j) n = π t := by
      refine best_is _ _ n hx (fun j hj => ?_) (fun j hj => ?_)
      · rw [hr j hj, hr _ hx, if_neg hnt]
        have h6 := hm _ hx
        split
        · omega
        · rename_i hne
          obtain ⟨p, p1, p2⟩ := hπ.2.1 j hj
          by_cases c : p < t
          · exact absurd ⟨p, c, p2⟩ hne
          · by_cases c2 : p = t
            · rw [← p2, c2]; exact Int.le_refl _
            · have := hπ.2.2 t p (by omega) p1
              rw [p2] at this; omega
      · have hj : j < n := by omega
        rw [hr j hj, hr _ hx, if_neg hnt]
        have h6 := hm _ hx
        split
        · omega
        · rename_i hne
          obtain ⟨p, p1, p2⟩ := hπ.2.1 j hj
          by_cases c : p < t
          · exact absurd ⟨p, c, p2⟩ hne
          · by_cases c2 : p = t
            · rw [c2] at p2; omega
            · have := hπ.2.2 t p (by omega) p1
              rw [p2] at this; omega
    rw [picks]
    rw [show ((List.range n).map fun j => if ∃ p, p < t ∧ π p = j then (-1 : Int) else m j).length = n from by simp, hb, rd_range _ hx, set_range, set_range]
    have e : (fun i => if i = π t then (-1 : Int) else if ∃ p, p < t ∧ π p = i then -1 else m i) = fun j => if ∃ p, p < t + 1 ∧ π p = j then -1 else m j := by
      funext i
      by_cases c : i = π t
      · rw [if_pos c, if_pos ⟨t, by omega, c.symm⟩]
      · rw [if_neg c]
        by_cases c2 : ∃ p, p < t ∧ π p = i
        · obtain ⟨p, p1, p2⟩ := c2
          rw [if_pos ⟨p, p1, p2⟩, if_pos ⟨p, by omega, p2⟩]
        · rw [if_neg c2, if_neg (by rintro ⟨p, p1, p2⟩; by_cases c3 : p = t; exact c (by rw [← p2, c3]); exact c2 ⟨p, by omega, p2⟩)]
    rw [e]
    have := ih (t + 1) (fun i => if i = π t then o (π t) + 1 else o i) (by omega) ?_ ?_
    · rw [show t + 1 + d = t + (d + 1) from by omega] at this; exact this
    · intro p hp
      by_cases c : p = t
      · subst c; rw [if_pos rfl, h3 _ hx (fun p' hp' e => hnt ⟨p', hp', e⟩)]
      · rw [if_neg (hdist p t (by omega) (by omega))]; exact h2 p (by omega)
    · intro j hj hne
      rw [if_neg (fun e => hne t (by omega) e.symm)]
      exact h3 j hj (fun p hp => hne p (by omega))
theorem appL_of {l : List Int} (hG : Good l (sumFrom 0 l)) {π : Nat → Nat} {o : Nat → Int} (hπ : Ordr l.length (mV l (sumFrom 0 l)) π)
    (h1 : ∀ p : Nat, (p : Int) < 16384 - psum (qV l (sumFrom 0 l)) l.length → o (π p) = qV l (sumFrom 0 l) (π p) + 1)
    (h2 : ∀ j, j < l.length → (∀ p : Nat, (p : Int) < 16384 - psum (qV l (sumFrom 0 l)) l.length → π p ≠ j) → o j = qV l (sumFrom 0 l) j) : (List.range l.length).map o = appL l := by
  have hlb := hG.lb
  have hs := hG.sb
  obtain ⟨o', e, g1, g2⟩ := picks_ordr (q := qV l (sumFrom 0 l)) hπ (fun j _ => Int.emod_nonneg _ (by omega)) (16384 - psum (qV l (sumFrom 0 l)) l.length).toNat 0 (qV l (sumFrom 0 l)) (by omega) (fun p hp => by omega) (fun j _ _ => rfl)
  have e0 : (fun j => if ∃ p, p < 0 ∧ π p = j then (-1 : Int) else mV l (sumFrom 0 l) j) = mV l (sumFrom 0 l) := by
    funext j; rw [if_neg (by rintro ⟨p, p1, _⟩; omega)]
  rw [e0] at e
  unfold appL
  have e' : picks (16384 - psum (qV l (sumFrom 0 l)) l.length).toNat ((List.range l.length).map fun j => qV l (sumFrom 0 l) j) ((List.range l.length).map fun j => mV l (sumFrom 0 l) j) = (List.range l.length).map o' := e
  rw [e']
  apply List.map_congr_left
  intro j hj
  have hj : j < l.length := List.mem_range.1 hj
  by_cases c : ∃ p : Nat, (p : Int) < 16384 - psum (qV l (sumFrom 0 l)) l.length ∧ π p = j
  · obtain ⟨p, p1, rfl⟩ := c
    rw [h1 p p1, g1 p (by omega)]
  · rw [h2 j hj (fun p p1 p2 => c ⟨p, p1, p2⟩), g2 j hj (fun p p1 p2 => c ⟨p, by omega, p2⟩)]
theorem own_heap {w : World} {base b n : Nat} {o : Nat → Int} (h : w.heap[b]? = some (.cells (vals o n) 2 (0, 0))) (hb : base ≤ b) (hn : n ≤ 1048576) : Kd.R (Kd.int .i64) 2 w base (fun _ => True) (.slice (some ⟨b, 0, none⟩) n n) ((List.range n).map o) := by
  refine Kd.R_of_own ?_ (fun _ _ => trivial)
  refine ⟨by simp [encs], Or.inr ⟨b, n, vals o n, by simp, hb, h, by simp, by unfold maxLen; omega, by simp [vals_size], ?_⟩⟩
  apply List.ext_getElem
  · simp [encs, vals]
  · intro i h1 h2
    simp [encs, vals]
/-- What taps.Apportion answers. -/
def appF (l : List Int) : Option (List Int × Int) := if (∀ x ∈ l, I64 x) then some (if chkV l = 0 then (appL l, 0) else ([], chkV l)) else none
set_option maxHeartbeats 8000000 in
set_option maxRecDepth 100000 in
theorem appF_calls (A0 : Option Addr) (c0 : Nat) (l0 : List Int) (r1 : List Int) (r2 : Int) (w : World) (hr0 : Kd.C (Kd.int .i64) w A0 l0.length l0) (hc0 : l0.length ≤ c0) (h : appF l0 = some (r1, r2)) :
    Calls Tryz.prog 49 #[.slice A0 l0.length c0] w fun e w' => ∃ v0_ : Value, e = .returned (.tuple #[v0_, .int .i64 r2]) ∧ Kd.R (Kd.int .i64) 2 w' w.heap.size (fun _ => True) v0_ r1 ∧ Below w.heap.size w w' := by
  unfold appF at h
  by_cases hx : ∀ x ∈ l0, I64 x
  · rw [if_pos hx] at h
    have hi : ∀ i : Int, I64 (rd l0 i) := by
      intro i
      unfold rd
      rw [List.getD_eq_getElem?_getD]
      rcases Nat.lt_or_ge i.toNat l0.length with q | q
      · rw [List.getElem?_eq_getElem q]; exact hx _ (List.getElem_mem _)
      · rw [List.getElem?_eq_none q]; decide
    by_cases hk : chkV l0 = 0
    · rw [if_pos hk] at h
      obtain ⟨rfl, rfl⟩ := Prod.mk.inj (Option.some.inj h)
      have G := good_of_chk (fun i => hi i) hk
      refine (app_calls A0 c0 l0 w hr0 hc0 hi G.n0 G.n1 hk G.lb G.qb (good_fl G)).mono ?_
      rintro e w' ⟨π, o, b1, rfl, h1, h2, h3, h4, h5, h6⟩
      refine ⟨_, rfl, ?_, h6⟩
      rw [← appL_of G h1 h2 h3]
      exact own_heap h4 h5 G.n1
    · rw [if_neg hk] at h
      obtain ⟨rfl, rfl⟩ := Prod.mk.inj (Option.some.inj h)
      have hc := check_calls A0 c0 l0 w hr0 hc0 hi
      have eCH : ∀ args w, (callFunc 72 args).run Tryz.prog w = .ok (.enter 72 args) w := enters_of Tryz.func72 (by kernel_rfl) rfl
      obtain ⟨n, hn⟩ : ∃ n, n = l0.length := ⟨_, rfl⟩
      obtain ⟨v, hv⟩ : ∃ v, v = chkV l0 := ⟨_, rfl⟩
      rw [← hn, ← hv] at hc
      rw [← hv] at hk ⊢
      rw [← hn]
      clear hr0 hc0 h hx hi hn hv
      have bk : (v == 0) = false := by simpa using hk
      have bk2 : (v != 0) = true := by simpa using hk
      go_enter Tryz.func49, Tryz.ntmps49
      go_wp2_with (go_at_fn 72; refine hc.mono ?_; rintro e w' ⟨rfl, hb⟩)
      go_ret2
      exact ⟨_, rfl, Kd.R_nil _ _ _ _ _, hb⟩
  · rw [if_neg hx] at h; exact absurd h (by simp)
end Go.Proofs.YtebipmdopdogkaaGreatDoor.QA

namespace Go.Proofs.YtebipmdopdogkaaGreatDoor.QA
open Go.RowKit Go.Proofs.YtebipmdopdogkaaGreatDoorW.PrintWords Go.Proofs.YtebipmdopdogkaaGreatDoorW.PrintLast Go.Proofs.YtebipmdopdogkaaGreatDoorW.PrintMore Go.Proofs.YtebipmdopdogkaaGreatDoor.T
set_option linter.unusedVariables false
set_option linter.unusedSimpArgs false
theorem heap_setCells_const (v : Int) (b T n : Nat) : ∀ (k o : Nat) (w : World) (f : Nat → Int), w.heap[b]? = some (.cells (vals f n) T (0, 0)) →
    (w.setCells b o (List.replicate k (.int .i64 v))).heap[b]? = some (.cells (vals (fun j => if o ≤ j ∧ j < o + k then v else f j) n) T (0, 0))
  | 0, o, w, f, h => by
    rw [List.replicate_zero, World.setCells, h]
    congr 2
    exact vals_congr (fun i _ => by rw [if_neg (by omega)])
  | k + 1, o, w, f, h => by
    rw [List.replicate_succ, World.setCells]
    have h1 : (w.setCell ⟨b, o, none⟩ (.int .i64 v)).heap[b]? = some (.cells (vals (upd f o v) n) T (0, 0)) := by rw [heap_setCell_same _ _ _ _ _ _ h, vals_set]
    rw [heap_setCells_const v b T n k (o + 1) _ _ h1]
    congr 2
    refine vals_congr (fun i _ => ?_)
    unfold upd
    by_cases c : i = o
    · subst c; rw [if_pos (by omega : i ≤ i ∧ i < i + (k + 1))]; split <;> simp
    · by_cases c2 : o + 1 ≤ i ∧ i < o + 1 + k
      · rw [if_pos c2, if_pos (by omega)]
      · rw [if_neg c2, if_neg c, if_neg (by omega)]
theorem below_setCells {w w' : World} {b : Nat} (hb : w.heap.size ≤ b) : ∀ (vs : List Value) (o : Nat) (w' : World), Below w.heap.size w w' → Below w.heap.size w (w'.setCells b o vs)
  | [], _, _, h => h
  | v :: r, o, w', h => by rw [World.setCells]; exact below_setCells (w := w) (w' := w') hb r (o + 1) _ (h.setCell hb _)
set_option maxHeartbeats 8000000 in
set_option maxRecDepth 100000 in
theorem repeat_calls (A0 : Option Addr) (c0 : Nat) (v : Int) (n : Nat) (w : World) (hr0 : Kd.C (Kd.int .i64) w A0 1 [v]) (hc0 : 1 ≤ c0) (hn : 1 ≤ n ∧ n ≤ 4096) :
    Calls Tryz.prog 81 #[.slice A0 1 c0, .int .i64 n] w fun e w' => ∃ b : Nat, e = .returned (.slice (some ⟨b, 0, none⟩) n n) ∧ w.heap.size ≤ b ∧ w'.heap[b]? = some (.cells (vals (fun _ => v) n) 2 (0, 0)) ∧ Below w.heap.size w w' := by
  have mixed : Tryz.prog.follows .mixedOrders = true := by kernel_rfl
  have hmul := Tryz.bits_Mul 1 n (by omega) (by omega) w
  rw [show 1 * n / 18446744073709551616 = 0 from by omega, show 1 * n % 18446744073709551616 = n from by omega] at hmul
  have eMU : ∀ args w, (callFunc 111 args).run Tryz.prog w = .ok (.enter 111 args) w := enters_of Tryz.func111 (by kernel_rfl) rfl
  obtain ⟨ad, ea, hx0⟩ := Kd.at_int hr0 0 (by decide) (by decide)
  cases ea
  have hx : w.cell? ad = some (.int .i64 v) := by
    have e : ad.add (0 : Int).toNat = ad := by cases ad; rfl
    rw [e] at hx0; exact hx0
  have mk1 := print_make (P := Tryz.prog) 24 2 .i64 8 (by kernel_rfl) (by kernel_rfl) (by decide) n (by omega)
  have zn : ¬ ((n : Int) < 0) := by omega
  have zn2 : (0 : Int) ≤ (n : Int) := by omega
  have w1 : IntKind.u64.wrap (n : Int) = (n : Int) := by rw [u64w]; omega
  have w2 : IntKind.i64.wrap (n : Int) = (n : Int) := by rw [i64w]; exact w64_id (by omega) (by omega)
  clear hr0 hx0
  go_enter Tryz.func81, Tryz.ntmps81
  go_upto_region 7 with (go_at_fn 111; refine hmul.mono ?_; rintro e w' ⟨rfl, rfl⟩)
  obtain ⟨b, hb⟩ : ∃ b, b = w'.heap.size := ⟨_, rfl⟩
  have h0 : (w'.alloc (.cells (madeCells #[.int .i64 0] n) 2)).heap[b]? = some (.cells (vals (fun _ => 0) n) 2 (0, 0)) := by rw [hb, ha_at _ _ _ rfl, vals_made]
  have hx2 : (w'.alloc (.cells (madeCells #[.int .i64 0] n) 2)).cell? ad = some (.int .i64 v) := (Below.cell ((Below.refl w'.heap.size w').alloc (Nat.le_refl _) _) (World.block_lt_of_cell? _ _ hx)).trans hx
  have hcp := run_copy_cells (P := Tryz.prog) (w'.alloc (.cells (madeCells #[.int .i64 0] n) 2)) 24 24 3 2 b 0 n n ad 1 c0 (List.replicate 1 (.int .i64 v)) (by kernel_rfl) (by kernel_rfl) (by rw [List.length_replicate]; exact (Nat.min_eq_left hn.1).symm)
    (fun j u hj => by cases j with
      | zero => simp at hj; subst hj; exact (by cases ad; exact hx2)
      | succ j => simp at hj)
    (fun j hj => by rw [cell_of_heap (i := 0 + j) h0 (vals_get _ (by simp at hj; omega))]; rfl) (fun j hj => frozen_of_heap h0) (by simp [Value.oneCell'])
  have hbl := below_setCells (w := w') (w' := w') (b := b) (by omega) (List.replicate 1 (.int .i64 v)) 0 _ ((Below.refl w'.heap.size w').alloc (Nat.le_refl _) (.cells (madeCells #[.int .i64 0] n) 2))
  have h1 := heap_setCells_const v b 2 n 1 0 _ _ h0
  rw [List.length_replicate] at hcp
  rw [← hb]
  have HB := Aside0.mk (show w'.heap.size ≤ b by omega)
  generalize w'.alloc (.cells (madeCells #[.int .i64 0] n) 2) = W1 at hcp h0 h1 hbl ⊢
  generalize W1.setCells b 0 (List.replicate 1 (.int .i64 v)) = W2 at hcp h1 hbl
  have HBL := Aside0.mk hbl
  have H1 := Aside0.mk (show W2.heap[b]? = some (.cells (vals (fun j => if j < 1 then v else 0) n) 2 (0, 0)) by rw [h1]; congr 2; exact vals_congr (fun i _ => by by_cases c : i < 1; rw [if_pos (by omega), if_pos c]; rw [if_neg (by omega), if_neg c]))
  clear h0 h1 hbl mk1 hmul hx hx2 hb
  have hgi : goInt ((1 : Nat) : Int) = .int .i64 1 := rfl
  rw [hgi] at hcp
  go_wp2
  clear hcp hgi
  go_loopg [8] n (fun kx s8 wr => ∃ i : Nat, s8 = .int .i64 i ∧ 1 ≤ i ∧ i ≤ n ∧ n - i ≤ kx ∧ Aside0 (Below w'.heap.size w' wr) ∧ Aside0 (wr.heap[b]? = some (.cells (vals (fun j => if j < i then v else 0) n) 2 (0, 0))))
  case atStart => exact ⟨1, rfl, by omega, by omega, by omega, HBL, H1⟩
  case round =>
    clear HBL H1
    obtain ⟨i, rfl, i1, i2, hk, HBL, H1⟩ := hrel
    by_cases hlt : (i : Int) < (n : Int)
    · obtain ⟨k, hk2⟩ : ∃ k, k = min i (n - i) := ⟨_, rfl⟩
      have hk3 : 1 ≤ k ∧ k ≤ i ∧ k ≤ n - i := by omega
      have pi : (0 : Int) ≤ (i : Int) := by omega
      have qi : (i : Int) ≤ (n : Int) := by omega
      have hcp := fun m => run_copy_cells (P := Tryz.prog) (wr.drewN m) 24 24 3 2 b i (n - i) (n - i) ⟨b, 0, none⟩ i n (List.replicate k (.int .i64 v)) (by kernel_rfl) (by kernel_rfl) (by rw [List.length_replicate]; exact hk2)
        (fun j u hj => by
          have hj2 : j < k := by
            apply Classical.byContradiction; intro q
            rw [List.getElem?_eq_none (by simp; omega)] at hj; exact absurd hj (by simp)
          rw [List.getElem?_replicate, if_pos hj2] at hj
          have := cell_of_heap (i := 0 + j) (w := wr.drewN m) H1.out (vals_get _ (by omega))
          rw [if_pos (by omega)] at this
          rw [← hj, show (⟨b, 0, none⟩ : Addr).add j = ⟨b, 0 + j, none⟩ from by unfold Addr.add; split <;> simp_all]; exact this)
        (fun j hj => by rw [cell_of_heap (i := i + j) (w := wr.drewN m) H1.out (vals_get _ (by simp at hj; omega))]; rfl) (fun j hj => frozen_of_heap (w := wr.drewN m) H1.out) (by intro x hx; rw [List.eq_of_mem_replicate hx]; rfl)
      have hb2 := fun m => below_setCells (w := w') (w' := w') (b := b) HB.out (List.replicate k (.int .i64 v)) i (wr.drewN m) (pw_below_drewN HBL.out m)
      have h2 := fun m => heap_setCells_const v b 2 n k i (wr.drewN m) _ H1.out
      simp only [List.length_replicate] at hcp
      have wik : IntKind.i64.wrap ((i : Int) + (k : Int)) = (i : Int) + (k : Int) := by rw [i64w]; exact w64_id (by omega) (by omega)
      have hgi : goInt (k : Int) = .int .i64 (k : Int) := rfl
      have hcp1 : (Builtin.copy_ #[24, 24] 3 #[.slice (some ⟨b, i, none⟩) (n - i) (n - i), .slice (some ⟨b, 0, none⟩) i n]).run Tryz.prog wr.drew = .ok (.int .i64 (k : Int)) (wr.drew.setCells b i (List.replicate k (.int .i64 v))) := hcp 1
      have HB2 := Aside0.mk (hb2 1)
      have H2 := Aside0.mk (h2 1)
      clear hcp hb2 h2 hgi hk2
      go_upto_region 9 with fail
      go_region_held3 (fun _ => True) (trivial) (fail)
      have HB3 : Aside0 (Below w'.heap.size w' (wr.drew.setCells b i (List.replicate k (.int .i64 v)))) := HB2
      have H3 : Aside0 ((wr.drew.setCells b i (List.replicate k (.int .i64 v))).heap[b]? = some (.cells (vals (fun j => if i ≤ j ∧ j < i + k then v else if j < i then v else 0) n) 2 (0, 0))) := H2
      clear HB2 H2 hcp1 H1 HBL
      generalize wr.drew.setCells b i (List.replicate k (.int .i64 v)) = W3 at HB3 H3 ⊢
      go_wp2
      go_roundg (n - (i + k))
      case measure => omega
      case rel =>
        refine ⟨i + k, by simp, by omega, by omega, Nat.le_refl _, HB3, ⟨?_⟩⟩
        rw [H3.out]
        congr 2
        refine vals_congr (fun j hj => ?_)
        by_cases c1 : i ≤ j ∧ j < i + k
        · rw [if_pos c1, if_pos (by omega)]
        · rw [if_neg c1]
          by_cases c2 : j < i
          · rw [if_pos c2, if_pos (by omega)]
          · rw [if_neg c2, if_neg (by omega)]
    · have hin : i = n := by omega
      subst hin
      go_wp2
      go_ret
      refine ⟨b, rfl, HB.out, ?_, HBL.out⟩
      rw [H1.out]
      congr 2
      exact vals_congr (fun j hj => by rw [if_pos hj])
/-- What slices.Repeat answers of one number. -/
def repF (l : List Int) (c : Int) : Option (List Int) := if l.length = 1 ∧ 1 ≤ c ∧ c ≤ 4096 then some (List.replicate c.toNat (rd l 0)) else none
theorem repF_calls (A0 : Option Addr) (c0 : Nat) (l0 : List Int) (a1 : Int) (r : List Int) (w : World) (hr0 : Kd.C (Kd.int .i64) w A0 l0.length l0) (hc0 : l0.length ≤ c0) (h : repF l0 a1 = some r) :
    Calls Tryz.prog 81 #[.slice A0 l0.length c0, .int .i64 a1] w fun e w' => ∃ v0_ : Value, e = .returned v0_ ∧ Kd.R (Kd.int .i64) 2 w' w.heap.size (fun _ => True) v0_ r ∧ Below w.heap.size w w' := by
  unfold repF at h
  by_cases c : l0.length = 1 ∧ 1 ≤ a1 ∧ a1 ≤ 4096
  · rw [if_pos c] at h
    obtain rfl := Option.some.inj h
    obtain ⟨v, rfl⟩ : ∃ v, l0 = [v] := List.length_eq_one_iff.1 c.1
    obtain ⟨n, rfl⟩ := Int.eq_ofNat_of_zero_le (show 0 ≤ a1 by omega)
    refine (repeat_calls A0 c0 v n w hr0 hc0 (by omega)).mono ?_
    rintro e w' ⟨b, rfl, h1, h2, h3⟩
    refine ⟨_, rfl, ?_, h3⟩
    have e : List.replicate ((n : Int)).toNat (rd [v] 0) = (List.range n).map (fun _ => v) := by
      apply List.ext_getElem
      · simp
      · intro i h1 h2; simp [rd]
    rw [e]
    refine Kd.R_of_own ?_ (fun _ _ => trivial)
    refine ⟨by simp [encs], Or.inr ⟨b, n, vals (fun _ => v) n, by simp, h1, h2, by simp, by unfold maxLen; omega, by simp [vals_size], ?_⟩⟩
    apply List.ext_getElem
    · simp [encs, vals]
    · intro i h1 h2
      simp [encs, vals]
  · rw [if_neg c] at h; exact absurd h (by simp)
end Go.Proofs.YtebipmdopdogkaaGreatDoor.QA

namespace Go.Proofs.YtebipmdopdogkaaGreatDoor.QA
open Go.Proofs.YtebipmdopdogkaaGreatDoor.T
open Go.RowKit Go.Proofs.YtebipmdopdogkaaGreatDoorW.PrintWords Go.Proofs.YtebipmdopdogkaaGreatDoorW.PrintLast Go.Proofs.YtebipmdopdogkaaGreatDoorW.PrintMore
attribute [local go_sem] ext_call max2_int min2_int max_two min_two
set_option linter.unusedVariables false
set_option linter.unusedSimpArgs false
def wide_signed.j0 : Nat → Int → Int → Bool → Bool → Option (Int)
 | 0, _, _, _, _ => none
 | k + 1, x0, x1, x2, x7 => if x7 = true then (some (-9223372036854775808)) else (if x2 = true then (some (wrap64 (IntKind.u64.wrap (-x1)))) else (if x0 > 0 then (some 9223372036854775807) else (if x1 > 9223372036854775807 then (some 9223372036854775807) else (some (wrap64 (x1))))))
def wide_signed.f (k : Nat) (a0 a1 : Int) (a2 : Bool) : Option (Int) := if a2 = true then (if a0 > 0 then (wide_signed.j0 k a0 a1 a2 true) else (wide_signed.j0 k a0 a1 a2 (decide (a1 > 9223372036854775808)))) else (wide_signed.j0 k a0 a1 a2 false)
theorem wide_signed.mono_l : ∀ k, (∀ y0 y1 y2 y3, LeO (wide_signed.j0 k y0 y1 y2 y3) (wide_signed.j0 (k + 1) y0 y1 y2 y3))
 | 0 => fun _ _ _ _ r h => by simp [wide_signed.j0] at h
 | k + 1 => by
  have ih0 := wide_signed.mono_l k
  ·intro y0 y1 y2 y3
   unfold wide_signed.j0
   repeat' (with_reducible first | exact ih0 _ _ _ _ | exact zM | refine LeO.ite ?_ ?_ | refine LeO.bind ?_ (fun _ => ?_))
theorem wide_signed.mono : ∀ a0 a1 a2 k, LeO (wide_signed.f k a0 a1 a2) (wide_signed.f (k + 1) a0 a1 a2) := by
 intro a0 a1 a2 k
 have ih0 := wide_signed.mono_l k
 unfold wide_signed.f
 repeat' (with_reducible first | exact ih0 _ _ _ _ | exact zM | refine LeO.ite ?_ ?_ | refine LeO.bind ?_ (fun _ => ?_))
set_option maxHeartbeats 8000000 in
set_option maxRecDepth 100000 in
theorem wide_signed.calls (k : Nat) (a0 a1 : Int) (a2 : Bool) (r : Int) (w : World) (h : wide_signed.f k a0 a1 a2 = some r) :
  Calls Tryz.prog 97 #[.int .u64 a0, .int .u64 a1, .bool a2] w fun e w' => e = .returned (.int .i64 r) ∧ Drawn0 w w' := by
 have H := h
 clear h
 unfold wide_signed.f at H
 have HC4 := Aside0.mk H
 clear H
 go_enter Tryz.func97, Tryz.ntmps97
 go_upto_region 1 with (fail)
 go_cut [7] (fun v7 wc => ∃ (kq : Nat) (x7_3 : Bool), v7 = .bool x7_3 ∧ Aside0 (wide_signed.j0 kq a0 a1 a2 x7_3 = some r) ∧ Aside0 (kq ≤ k) ∧ Drawn0 w wc)
 case first =>
  have H := HC4.out
  clear HC4
  by_cases c5 : a2 = true
  ·subst c5
   rw [if_pos rfl] at H; try dsimp only at H
   by_cases c6 : a0 > 0
   ·rw [if_pos c6] at H
    have c6b0 := decide_eq_true c6
    clear c6
    (first | rw [c6b0] | (simp only [i64_w, i32_w]; rw [c6b0]) | skip)
    have H' := Aside0.mk H
    clear H
    go_wp2
    go_meet
    case rel => exact ⟨_, (true), zT, H', ⟨by first | omega | exact Nat.le_refl _⟩, zW⟩
   ·rw [if_neg c6] at H
    have c6b0 := decide_eq_false c6
    clear c6
    (first | rw [c6b0] | (simp only [i64_w, i32_w]; rw [c6b0]) | skip)
    have H' := Aside0.mk H
    clear H
    go_wp2
    go_meet
    case rel => exact ⟨_, (decide (a1 > 9223372036854775808)), zT, H', ⟨by first | omega | exact Nat.le_refl _⟩, zW⟩
  ·replace c5 := Bool.eq_false_iff.mpr c5
   subst c5
   rw [if_neg (show ¬ (false = true) by decide)] at H; try dsimp only at H
   have H' := Aside0.mk H
   clear H
   go_wp2
   go_meet
   case rel => exact ⟨_, (false), zT, H', ⟨by first | omega | exact Nat.le_refl _⟩, zW⟩
 case rest =>
  clear HC4
  obtain ⟨kq, x7_3, rfl, HA, HJ3, ⟨mc3, rfl⟩⟩ := hcut
  cases kq with
  | zero => exact absurd HA.out (by simp [wide_signed.j0])
  | succ kj3 =>
   have H := HA.out
   clear HA
   simp only [wide_signed.j0] at H
   by_cases c7 : x7_3 = true
   ·subst c7
    rw [if_pos rfl] at H; try dsimp only at H
    obtain rfl := Option.some.inj H
    go_wp2
    go_ret
    exact ⟨zT, zW⟩
   ·replace c7 := Bool.eq_false_iff.mpr c7
    subst c7
    rw [if_neg (show ¬ (false = true) by decide)] at H; try dsimp only at H
    by_cases c8 : a2 = true
    ·subst c8
     rw [if_pos rfl] at H; try dsimp only at H
     obtain rfl := Option.some.inj H
     go_wp2
     go_ret
     exact ⟨zT, zW⟩
    ·replace c8 := Bool.eq_false_iff.mpr c8
     subst c8
     rw [if_neg (show ¬ (false = true) by decide)] at H; try dsimp only at H
     by_cases c9 : a0 > 0
     ·rw [if_pos c9] at H
      have c9b0 := decide_eq_true c9
      clear c9
      obtain rfl := Option.some.inj H
      go_wp2
      go_ret
      exact ⟨zT, zW⟩
     ·rw [if_neg c9] at H
      have c9b0 := decide_eq_false c9
      clear c9
      by_cases c10 : a1 > 9223372036854775807
      ·rw [if_pos c10] at H
       have c10b0 := decide_eq_true c10
       clear c10
       obtain rfl := Option.some.inj H
       go_wp2
       go_ret
       exact ⟨zT, zW⟩
      ·rw [if_neg c10] at H
       have c10b0 := decide_eq_false c10
       clear c10
       obtain rfl := Option.some.inj H
       go_wp2
       go_ret
       exact ⟨zT, zW⟩
def bits_LeadingZeros64.f (a0 : Int) : Option (Int) := if 0 ≤ a0 then (if a0 ≤ 18446744073709551615 then (some (64 - (Lib.bitLen a0.toNat : Int))) else (none)) else (none)
theorem bits_LeadingZeros64.calls (a0 r : Int) (w : World) (h : bits_LeadingZeros64.f a0 = some r) :
  Calls Tryz.prog 120 #[.int .u64 a0] w fun e w' => e = .returned (.int .i64 r) ∧ Drawn0 w w' := by
 unfold bits_LeadingZeros64.f at h
 by_cases h0 : 0 ≤ a0
 ·rw [if_pos h0] at h
  by_cases h1 : a0 ≤ 18446744073709551615
  ·rw [if_pos h1] at h
   obtain rfl := Option.some.inj h
   exact (Tryz.bits_LeadingZeros64 a0 w h0 h1).mono fun e w' ⟨he, hw⟩ => ⟨he, by rw [hw]; exact Drawn0.refl _⟩
  ·rw [if_neg h1] at h; exact absurd h (by simp)
 ·rw [if_neg h0] at h; exact absurd h (by simp)
end Go.Proofs.YtebipmdopdogkaaGreatDoor.QA

namespace Go.Proofs.YtebipmdopdogkaaGreatDoor.QA
open Go.Proofs.YtebipmdopdogkaaGreatDoor.T
open Go.RowKit Go.Proofs.YtebipmdopdogkaaGreatDoorW.PrintWords Go.Proofs.YtebipmdopdogkaaGreatDoorW.PrintLast Go.Proofs.YtebipmdopdogkaaGreatDoorW.PrintMore
attribute [local go_sem] ext_call max2_int min2_int max_two min_two
set_option linter.unusedVariables false
set_option linter.unusedSimpArgs false
mutual
def bits_Div64.j2 : Nat → Int → Int → Int → Int → Int → Int → Int → Int → Option (Int × Int)
 | 0, _, _, _, _, _, _, _, _ => none
 | k + 1, x2, x8, x9, x10, x11, x13, x14, x15 => if x9 = 0 then (none) else (bits_Div64.l1 k x2 x8 x9 x10 x14 x15 (IntKind.u64.wrap ((IntKind.u64.wrap ((IntKind.u64.wrap ((IntKind.u64.wrap (x11 * 4294967296)) + x13)) - (IntKind.u64.wrap (x15 * x2)))) - (IntKind.u64.wrap ((IntKind.u64.wrap (Int.tdiv (IntKind.u64.wrap ((IntKind.u64.wrap ((IntKind.u64.wrap (x11 * 4294967296)) + x13)) - (IntKind.u64.wrap (x15 * x2)))) x9)) * x9)))) (IntKind.u64.wrap ((IntKind.u64.wrap ((IntKind.u64.wrap (x11 * 4294967296)) + x13)) - (IntKind.u64.wrap (x15 * x2)))) (IntKind.u64.wrap (Int.tdiv (IntKind.u64.wrap ((IntKind.u64.wrap ((IntKind.u64.wrap (x11 * 4294967296)) + x13)) - (IntKind.u64.wrap (x15 * x2)))) x9)))
def bits_Div64.l1 : Nat → Int → Int → Int → Int → Int → Int → Int → Int → Int → Option (Int × Int)
 | 0, _, _, _, _, _, _, _, _, _ => none
 | k + 1, x2, x8, x9, x10, x14, x15, x16, x17, x18 => if x18 ≥ 4294967296 then (bits_Div64.j4 k x2 x8 x9 x10 x14 x15 x16 x17 x18 true) else (bits_Div64.j4 k x2 x8 x9 x10 x14 x15 x16 x17 x18 (decide ((IntKind.u64.wrap (x18 * x10)) > (IntKind.u64.wrap ((IntKind.u64.wrap (4294967296 * x16)) + x14)))))
def bits_Div64.j4 : Nat → Int → Int → Int → Int → Int → Int → Int → Int → Int → Bool → Option (Int × Int)
 | 0, _, _, _, _, _, _, _, _, _, _ => none
 | k + 1, x2, x8, x9, x10, x14, x15, x16, x17, x18, x113 => if x113 = true then (if (IntKind.u64.wrap (x16 + x9)) ≥ 4294967296 then (if 0 ≤ x8 then (some (IntKind.u64.wrap ((IntKind.u64.wrap (x15 * 4294967296)) + (IntKind.u64.wrap (x18 - 1))), shr .u64 (IntKind.u64.wrap ((IntKind.u64.wrap ((IntKind.u64.wrap (x17 * 4294967296)) + x14)) - (IntKind.u64.wrap ((IntKind.u64.wrap (x18 - 1)) * x2)))) x8)) else (none)) else (bits_Div64.l1 k x2 x8 x9 x10 x14 x15 (IntKind.u64.wrap (x16 + x9)) x17 (IntKind.u64.wrap (x18 - 1)))) else (if 0 ≤ x8 then (some (IntKind.u64.wrap ((IntKind.u64.wrap (x15 * 4294967296)) + x18), shr .u64 (IntKind.u64.wrap ((IntKind.u64.wrap ((IntKind.u64.wrap (x17 * 4294967296)) + x14)) - (IntKind.u64.wrap (x18 * x2)))) x8)) else (none))
def bits_Div64.l0 : Nat → Int → Int → Int → Int → Int → Int → Int → Int → Int → Option (Int × Int)
 | 0, _, _, _, _, _, _, _, _, _ => none
 | k + 1, x2, x8, x9, x10, x11, x13, x14, x15, x16 => if x15 ≥ 4294967296 then (bits_Div64.j1 k x2 x8 x9 x10 x11 x13 x14 x15 x16 true) else (bits_Div64.j1 k x2 x8 x9 x10 x11 x13 x14 x15 x16 (decide ((IntKind.u64.wrap (x15 * x10)) > (IntKind.u64.wrap ((IntKind.u64.wrap (4294967296 * x16)) + x13)))))
def bits_Div64.j1 : Nat → Int → Int → Int → Int → Int → Int → Int → Int → Int → Bool → Option (Int × Int)
 | 0, _, _, _, _, _, _, _, _, _, _ => none
 | k + 1, x2, x8, x9, x10, x11, x13, x14, x15, x16, x78 => if x78 = true then (if (IntKind.u64.wrap (x16 + x9)) ≥ 4294967296 then (bits_Div64.j2 k x2 x8 x9 x10 x11 x13 x14 (IntKind.u64.wrap (x15 - 1))) else (bits_Div64.l0 k x2 x8 x9 x10 x11 x13 x14 (IntKind.u64.wrap (x15 - 1)) (IntKind.u64.wrap (x16 + x9)))) else (bits_Div64.j2 k x2 x8 x9 x10 x11 x13 x14 x15)
end
def bits_Div64.f (k : Nat) (a0 a1 a2 : Int) : Option (Int × Int) := if a2 = 0 then (none) else (if a2 ≤ a0 then (none) else (if a0 = 0 then (some (IntKind.u64.wrap (Int.tdiv a1 a2), Int.tmod a1 a2)) else ((bits_LeadingZeros64.f a2).bind fun t129 => (if 0 ≤ (IntKind.u64.wrap (t129)) then (if 0 ≤ (IntKind.u64.wrap (64 - (IntKind.u64.wrap (t129)))) then (if ((shl .u64 a2 (IntKind.u64.wrap (t129))) / 4294967296) = 0 then (none) else (bits_Div64.l0 k (shl .u64 a2 (IntKind.u64.wrap (t129))) (IntKind.u64.wrap (t129)) ((shl .u64 a2 (IntKind.u64.wrap (t129))) / 4294967296) (Go.bits .and .u64 (shl .u64 a2 (IntKind.u64.wrap (t129))) 4294967295) (Go.bits .or .u64 (shl .u64 a0 (IntKind.u64.wrap (t129))) (shr .u64 a1 (IntKind.u64.wrap (64 - (IntKind.u64.wrap (t129)))))) ((shl .u64 a1 (IntKind.u64.wrap (t129))) / 4294967296) (Go.bits .and .u64 (shl .u64 a1 (IntKind.u64.wrap (t129))) 4294967295) (IntKind.u64.wrap (Int.tdiv (Go.bits .or .u64 (shl .u64 a0 (IntKind.u64.wrap (t129))) (shr .u64 a1 (IntKind.u64.wrap (64 - (IntKind.u64.wrap (t129)))))) ((shl .u64 a2 (IntKind.u64.wrap (t129))) / 4294967296))) (IntKind.u64.wrap ((Go.bits .or .u64 (shl .u64 a0 (IntKind.u64.wrap (t129))) (shr .u64 a1 (IntKind.u64.wrap (64 - (IntKind.u64.wrap (t129)))))) - (IntKind.u64.wrap ((IntKind.u64.wrap (Int.tdiv (Go.bits .or .u64 (shl .u64 a0 (IntKind.u64.wrap (t129))) (shr .u64 a1 (IntKind.u64.wrap (64 - (IntKind.u64.wrap (t129)))))) ((shl .u64 a2 (IntKind.u64.wrap (t129))) / 4294967296))) * ((shl .u64 a2 (IntKind.u64.wrap (t129))) / 4294967296))))))) else (none)) else (none)))))
theorem bits_Div64.mono_l : ∀ k, (∀ y0 y1 y2 y3 y4 y5 y6 y7, LeO (bits_Div64.j2 k y0 y1 y2 y3 y4 y5 y6 y7) (bits_Div64.j2 (k + 1) y0 y1 y2 y3 y4 y5 y6 y7)) ∧ (∀ y0 y1 y2 y3 y4 y5 y6 y7 y8, LeO (bits_Div64.l1 k y0 y1 y2 y3 y4 y5 y6 y7 y8) (bits_Div64.l1 (k + 1) y0 y1 y2 y3 y4 y5 y6 y7 y8)) ∧ (∀ y0 y1 y2 y3 y4 y5 y6 y7 y8 y9, LeO (bits_Div64.j4 k y0 y1 y2 y3 y4 y5 y6 y7 y8 y9) (bits_Div64.j4 (k + 1) y0 y1 y2 y3 y4 y5 y6 y7 y8 y9)) ∧ (∀ y0 y1 y2 y3 y4 y5 y6 y7 y8, LeO (bits_Div64.l0 k y0 y1 y2 y3 y4 y5 y6 y7 y8) (bits_Div64.l0 (k + 1) y0 y1 y2 y3 y4 y5 y6 y7 y8)) ∧ (∀ y0 y1 y2 y3 y4 y5 y6 y7 y8 y9, LeO (bits_Div64.j1 k y0 y1 y2 y3 y4 y5 y6 y7 y8 y9) (bits_Div64.j1 (k + 1) y0 y1 y2 y3 y4 y5 y6 y7 y8 y9))
 | 0 => ⟨fun _ _ _ _ _ _ _ _ r h => by simp [bits_Div64.j2] at h, fun _ _ _ _ _ _ _ _ _ r h => by simp [bits_Div64.l1] at h, fun _ _ _ _ _ _ _ _ _ _ r h => by simp [bits_Div64.j4] at h, fun _ _ _ _ _ _ _ _ _ r h => by simp [bits_Div64.l0] at h, fun _ _ _ _ _ _ _ _ _ _ r h => by simp [bits_Div64.j1] at h⟩
 | k + 1 => by
  obtain ⟨ih0, ih1, ih2, ih3, ih4⟩ := bits_Div64.mono_l k
  refine ⟨?_, ?_, ?_, ?_, ?_⟩
  ·intro y0 y1 y2 y3 y4 y5 y6 y7
   unfold bits_Div64.j2
   repeat' (with_reducible first | exact ih0 _ _ _ _ _ _ _ _ | exact ih1 _ _ _ _ _ _ _ _ _ | exact ih2 _ _ _ _ _ _ _ _ _ _ | exact ih3 _ _ _ _ _ _ _ _ _ | exact ih4 _ _ _ _ _ _ _ _ _ _ | exact zM | refine LeO.ite ?_ ?_ | refine LeO.bind ?_ (fun _ => ?_))
  ·intro y0 y1 y2 y3 y4 y5 y6 y7 y8
   unfold bits_Div64.l1
   repeat' (with_reducible first | exact ih0 _ _ _ _ _ _ _ _ | exact ih1 _ _ _ _ _ _ _ _ _ | exact ih2 _ _ _ _ _ _ _ _ _ _ | exact ih3 _ _ _ _ _ _ _ _ _ | exact ih4 _ _ _ _ _ _ _ _ _ _ | exact zM | refine LeO.ite ?_ ?_ | refine LeO.bind ?_ (fun _ => ?_))
  ·intro y0 y1 y2 y3 y4 y5 y6 y7 y8 y9
   unfold bits_Div64.j4
   repeat' (with_reducible first | exact ih0 _ _ _ _ _ _ _ _ | exact ih1 _ _ _ _ _ _ _ _ _ | exact ih2 _ _ _ _ _ _ _ _ _ _ | exact ih3 _ _ _ _ _ _ _ _ _ | exact ih4 _ _ _ _ _ _ _ _ _ _ | exact zM | refine LeO.ite ?_ ?_ | refine LeO.bind ?_ (fun _ => ?_))
  ·intro y0 y1 y2 y3 y4 y5 y6 y7 y8
   unfold bits_Div64.l0
   repeat' (with_reducible first | exact ih0 _ _ _ _ _ _ _ _ | exact ih1 _ _ _ _ _ _ _ _ _ | exact ih2 _ _ _ _ _ _ _ _ _ _ | exact ih3 _ _ _ _ _ _ _ _ _ | exact ih4 _ _ _ _ _ _ _ _ _ _ | exact zM | refine LeO.ite ?_ ?_ | refine LeO.bind ?_ (fun _ => ?_))
  ·intro y0 y1 y2 y3 y4 y5 y6 y7 y8 y9
   unfold bits_Div64.j1
   repeat' (with_reducible first | exact ih0 _ _ _ _ _ _ _ _ | exact ih1 _ _ _ _ _ _ _ _ _ | exact ih2 _ _ _ _ _ _ _ _ _ _ | exact ih3 _ _ _ _ _ _ _ _ _ | exact ih4 _ _ _ _ _ _ _ _ _ _ | exact zM | refine LeO.ite ?_ ?_ | refine LeO.bind ?_ (fun _ => ?_))
theorem bits_Div64.mono : ∀ a0 a1 a2 k, LeO (bits_Div64.f k a0 a1 a2) (bits_Div64.f (k + 1) a0 a1 a2) := by
 intro a0 a1 a2 k
 obtain ⟨ih0, ih1, ih2, ih3, ih4⟩ := bits_Div64.mono_l k
 unfold bits_Div64.f
 repeat' (with_reducible first | exact ih0 _ _ _ _ _ _ _ _ | exact ih1 _ _ _ _ _ _ _ _ _ | exact ih2 _ _ _ _ _ _ _ _ _ _ | exact ih3 _ _ _ _ _ _ _ _ _ | exact ih4 _ _ _ _ _ _ _ _ _ _ | exact zM | refine LeO.ite ?_ ?_ | refine LeO.bind ?_ (fun _ => ?_))
set_option maxHeartbeats 8000000 in
set_option maxRecDepth 100000 in
theorem bits_Div64.calls (k : Nat) (a0 a1 a2 r1 r2 : Int) (w : World) (h : bits_Div64.f k a0 a1 a2 = some (r1, r2)) :
  Calls Tryz.prog 98 #[.int .u64 a0, .int .u64 a1, .int .u64 a2] w fun e w' => e = .returned (.tuple #[.int .u64 r1, .int .u64 r2]) ∧ Drawn0 w w' := by
 have H := h
 clear h
 unfold bits_Div64.f at H
 by_cases c4 : a2 = 0
 ·rw [if_pos c4] at H
  exact absurd H (by simp)
 ·rw [if_neg c4] at H
  have c4b0 : (a2 == 0) = false := beq_eq_false_iff_ne.mpr c4
  have c4b1 : (a2 != 0) = true := bne_iff_ne.mpr c4
  by_cases c5 : a2 ≤ a0
  ·rw [if_pos c5] at H
   exact absurd H (by simp)
  ·rw [if_neg c5] at H
   have c5b0 := decide_eq_false c5
   clear c5
   by_cases c6 : a0 = 0
   ·rw [if_pos c6] at H
    have c6b0 : (a0 == 0) = true := beq_iff_eq.mpr c6
    have c6b1 : (a0 != 0) = false := bne_eq_false_iff_eq.mpr c6
    clear c6
    simp only [Option.some.injEq, Prod.mk.injEq] at H
    obtain ⟨rfl, rfl⟩ := H
    go_enter Tryz.func98, Tryz.ntmps98
    go_wp2
    repeat (go_quiet (fail); try go_wp2)
    go_ret2
    exact ⟨zT, zW⟩
   ·rw [if_neg c6] at H
    have c6b0 : (a0 == 0) = false := beq_eq_false_iff_ne.mpr c6
    have c6b1 : (a0 != 0) = true := bne_iff_ne.mpr c6
    replace H := zO H
    obtain ⟨t129, A7, H⟩ := H
    try dsimp only at H
    obtain ⟨ji8, hji8⟩ : ∃ j_ : Int, (IntKind.u64.wrap (t129)) = j_ := ⟨_, rfl⟩
    replace H : (if 0 ≤ (ji8) then (if 0 ≤ (IntKind.u64.wrap (64 - (ji8))) then (if ((shl .u64 a2 (ji8)) / 4294967296) = 0 then (none) else (bits_Div64.l0 k (shl .u64 a2 (ji8)) ji8 ((shl .u64 a2 (ji8)) / 4294967296) (Go.bits .and .u64 (shl .u64 a2 (ji8)) 4294967295) (Go.bits .or .u64 (shl .u64 a0 (ji8)) (shr .u64 a1 (IntKind.u64.wrap (64 - (ji8))))) ((shl .u64 a1 (ji8)) / 4294967296) (Go.bits .and .u64 (shl .u64 a1 (ji8)) 4294967295) (IntKind.u64.wrap (Int.tdiv (Go.bits .or .u64 (shl .u64 a0 (ji8)) (shr .u64 a1 (IntKind.u64.wrap (64 - (ji8))))) ((shl .u64 a2 (ji8)) / 4294967296))) (IntKind.u64.wrap ((Go.bits .or .u64 (shl .u64 a0 (ji8)) (shr .u64 a1 (IntKind.u64.wrap (64 - (ji8))))) - (IntKind.u64.wrap ((IntKind.u64.wrap (Int.tdiv (Go.bits .or .u64 (shl .u64 a0 (ji8)) (shr .u64 a1 (IntKind.u64.wrap (64 - (ji8))))) ((shl .u64 a2 (ji8)) / 4294967296))) * ((shl .u64 a2 (ji8)) / 4294967296))))))) else (none)) else (none)) = some (r1, r2) := by first | (rw [hji8] at H; exact H) | (simp only [hji8] at H ⊢; exact H)
    (try rw [hji8] at A7)
    by_cases c9 : 0 ≤ (ji8)
    ·rw [if_pos c9] at H
     have c9b0 := eq_true c9
     have c9b1 := decide_eq_true c9
     clear c9
     obtain ⟨ji10, hji10⟩ : ∃ j_ : Int, (shl .u64 a2 (ji8)) = j_ := ⟨_, rfl⟩
     replace H : (if 0 ≤ (IntKind.u64.wrap (64 - (ji8))) then (if ((ji10) / 4294967296) = 0 then (none) else (bits_Div64.l0 k ji10 ji8 ((ji10) / 4294967296) (Go.bits .and .u64 (ji10) 4294967295) (Go.bits .or .u64 (shl .u64 a0 (ji8)) (shr .u64 a1 (IntKind.u64.wrap (64 - (ji8))))) ((shl .u64 a1 (ji8)) / 4294967296) (Go.bits .and .u64 (shl .u64 a1 (ji8)) 4294967295) (IntKind.u64.wrap (Int.tdiv (Go.bits .or .u64 (shl .u64 a0 (ji8)) (shr .u64 a1 (IntKind.u64.wrap (64 - (ji8))))) ((ji10) / 4294967296))) (IntKind.u64.wrap ((Go.bits .or .u64 (shl .u64 a0 (ji8)) (shr .u64 a1 (IntKind.u64.wrap (64 - (ji8))))) - (IntKind.u64.wrap ((IntKind.u64.wrap (Int.tdiv (Go.bits .or .u64 (shl .u64 a0 (ji8)) (shr .u64 a1 (IntKind.u64.wrap (64 - (ji8))))) ((ji10) / 4294967296))) * ((ji10) / 4294967296))))))) else (none)) = some (r1, r2) := by first | (rw [hji10] at H; exact H) | (simp only [hji10] at H ⊢; exact H)
     (try rw [hji10] at A7)
     have hji10_ : (IntKind.u64.wrap (a2 * 2 ^ min (ji8).toNat 64)) = ji10 := hji10
     have hji10z : (ji8) ≤ 64 → (IntKind.u64.wrap (a2 * 2 ^ (ji8).toNat)) = ji10 := shl_small hji10
     have c11b0 := eq_true (of_decide_eq_true (by first | (with_reducible assumption) | assumption) : 0 ≤ (ji8))
     obtain ⟨ji12, hji12⟩ : ∃ j_ : Int, (shl .u64 a0 (ji8)) = j_ := ⟨_, rfl⟩
     replace H : (if 0 ≤ (IntKind.u64.wrap (64 - (ji8))) then (if ((ji10) / 4294967296) = 0 then (none) else (bits_Div64.l0 k ji10 ji8 ((ji10) / 4294967296) (Go.bits .and .u64 (ji10) 4294967295) (Go.bits .or .u64 (ji12) (shr .u64 a1 (IntKind.u64.wrap (64 - (ji8))))) ((shl .u64 a1 (ji8)) / 4294967296) (Go.bits .and .u64 (shl .u64 a1 (ji8)) 4294967295) (IntKind.u64.wrap (Int.tdiv (Go.bits .or .u64 (ji12) (shr .u64 a1 (IntKind.u64.wrap (64 - (ji8))))) ((ji10) / 4294967296))) (IntKind.u64.wrap ((Go.bits .or .u64 (ji12) (shr .u64 a1 (IntKind.u64.wrap (64 - (ji8))))) - (IntKind.u64.wrap ((IntKind.u64.wrap (Int.tdiv (Go.bits .or .u64 (ji12) (shr .u64 a1 (IntKind.u64.wrap (64 - (ji8))))) ((ji10) / 4294967296))) * ((ji10) / 4294967296))))))) else (none)) = some (r1, r2) := by first | (rw [hji12] at H; exact H) | (simp only [hji12] at H ⊢; exact H)
     (try rw [hji12] at A7)
     have hji12_ : (IntKind.u64.wrap (a0 * 2 ^ min (ji8).toNat 64)) = ji12 := hji12
     have hji12z : (ji8) ≤ 64 → (IntKind.u64.wrap (a0 * 2 ^ (ji8).toNat)) = ji12 := shl_small hji12
     obtain ⟨ji13, hji13⟩ : ∃ j_ : Int, (IntKind.u64.wrap (64 - (ji8))) = j_ := ⟨_, rfl⟩
     replace H : (if 0 ≤ (ji13) then (if ((ji10) / 4294967296) = 0 then (none) else (bits_Div64.l0 k ji10 ji8 ((ji10) / 4294967296) (Go.bits .and .u64 (ji10) 4294967295) (Go.bits .or .u64 (ji12) (shr .u64 a1 (ji13))) ((shl .u64 a1 (ji8)) / 4294967296) (Go.bits .and .u64 (shl .u64 a1 (ji8)) 4294967295) (IntKind.u64.wrap (Int.tdiv (Go.bits .or .u64 (ji12) (shr .u64 a1 (ji13))) ((ji10) / 4294967296))) (IntKind.u64.wrap ((Go.bits .or .u64 (ji12) (shr .u64 a1 (ji13))) - (IntKind.u64.wrap ((IntKind.u64.wrap (Int.tdiv (Go.bits .or .u64 (ji12) (shr .u64 a1 (ji13))) ((ji10) / 4294967296))) * ((ji10) / 4294967296))))))) else (none)) = some (r1, r2) := by first | (rw [hji13] at H; exact H) | (simp only [hji13] at H ⊢; exact H)
     (try rw [hji13] at A7)
     by_cases c14 : 0 ≤ (ji13)
     ·rw [if_pos c14] at H
      have c14b0 := eq_true c14
      have c14b1 := decide_eq_true c14
      clear c14
      obtain ⟨ji15, hji15⟩ : ∃ j_ : Int, (shr .u64 a1 (ji13)) = j_ := ⟨_, rfl⟩
      replace H : (if ((ji10) / 4294967296) = 0 then (none) else (bits_Div64.l0 k ji10 ji8 ((ji10) / 4294967296) (Go.bits .and .u64 (ji10) 4294967295) (Go.bits .or .u64 (ji12) (ji15)) ((shl .u64 a1 (ji8)) / 4294967296) (Go.bits .and .u64 (shl .u64 a1 (ji8)) 4294967295) (IntKind.u64.wrap (Int.tdiv (Go.bits .or .u64 (ji12) (ji15)) ((ji10) / 4294967296))) (IntKind.u64.wrap ((Go.bits .or .u64 (ji12) (ji15)) - (IntKind.u64.wrap ((IntKind.u64.wrap (Int.tdiv (Go.bits .or .u64 (ji12) (ji15)) ((ji10) / 4294967296))) * ((ji10) / 4294967296))))))) = some (r1, r2) := by first | (rw [hji15] at H; exact H) | (simp only [hji15] at H ⊢; exact H)
      (try rw [hji15] at A7)
      have hji15_ : (a1 / 2 ^ min (ji13).toNat 64) = ji15 := hji15
      have hji15z : (ji13) ≤ 64 → (a1 / 2 ^ (ji13).toNat) = ji15 := shr_small hji15
      have c16b0 := eq_true (of_decide_eq_true (by first | (with_reducible assumption) | assumption) : 0 ≤ (ji8))
      obtain ⟨ji17, hji17⟩ : ∃ j_ : Int, (shl .u64 a1 (ji8)) = j_ := ⟨_, rfl⟩
      replace H : (if ((ji10) / 4294967296) = 0 then (none) else (bits_Div64.l0 k ji10 ji8 ((ji10) / 4294967296) (Go.bits .and .u64 (ji10) 4294967295) (Go.bits .or .u64 (ji12) (ji15)) ((ji17) / 4294967296) (Go.bits .and .u64 (ji17) 4294967295) (IntKind.u64.wrap (Int.tdiv (Go.bits .or .u64 (ji12) (ji15)) ((ji10) / 4294967296))) (IntKind.u64.wrap ((Go.bits .or .u64 (ji12) (ji15)) - (IntKind.u64.wrap ((IntKind.u64.wrap (Int.tdiv (Go.bits .or .u64 (ji12) (ji15)) ((ji10) / 4294967296))) * ((ji10) / 4294967296))))))) = some (r1, r2) := by first | (rw [hji17] at H; exact H) | (simp only [hji17] at H ⊢; exact H)
      (try rw [hji17] at A7)
      have hji17_ : (IntKind.u64.wrap (a1 * 2 ^ min (ji8).toNat 64)) = ji17 := hji17
      have hji17z : (ji8) ≤ 64 → (IntKind.u64.wrap (a1 * 2 ^ (ji8).toNat)) = ji17 := shl_small hji17
      by_cases c18 : ((ji10) / 4294967296) = 0
      ·rw [if_pos c18] at H
       exact absurd H (by simp)
      ·rw [if_neg c18] at H
       have c18b0 : (((ji10) / 4294967296) == 0) = false := beq_eq_false_iff_ne.mpr c18
       have c18b1 : (((ji10) / 4294967296) != 0) = true := bne_iff_ne.mpr c18
       have HC19 := Aside0.mk H
       clear H
       go_enter Tryz.func98, Tryz.ntmps98
       go_upto_block 0 with (first | (go_at_call 120; (with_reducible refine (bits_LeadingZeros64.calls a2 t129 _ A7.out).mono ?_); rintro e w' ⟨rfl, ⟨nd, rfl⟩⟩; (try exact ⟨rfl, _, zN⟩)))
       repeat (go_quiet (first | (go_at_call 120; (with_reducible refine (bits_LeadingZeros64.calls a2 t129 _ A7.out).mono ?_); rintro e w' ⟨rfl, ⟨nd, rfl⟩⟩; (try exact ⟨rfl, _, zN⟩))); go_upto_block 0 with (first | (go_at_call 120; (with_reducible refine (bits_LeadingZeros64.calls a2 t129 _ A7.out).mono ?_); rintro e w' ⟨rfl, ⟨nd, rfl⟩⟩; (try exact ⟨rfl, _, zN⟩))))
       (try simp only [Act.put, List.setIfInBounds_toArray, List.set_cons_zero, List.set_cons_succ])
       go_cut [15] (fun v15 wc => ∃ (kq : Nat) (x15_18 : Int), v15 = .int .u64 x15_18 ∧ Aside0 (bits_Div64.j2 kq ji10 ji8 ((ji10) / 4294967296) (Go.bits .and .u64 (ji10) 4294967295) (Go.bits .or .u64 (ji12) (ji15)) ((ji17) / 4294967296) (Go.bits .and .u64 (ji17) 4294967295) x15_18 = some (r1, r2)) ∧ Aside0 (kq ≤ k) ∧ Drawn0 w wc)
       case first =>
        have H := HC19.out
        clear HC19
        have H' := Aside0.mk H
        clear H
        go_wp2
        repeat (go_quiet (fail); try go_wp2)
        go_loopg [15, 16] k (fun kq v15 v16 w' => ∃ (x15_1 : Int) (x16_1 : Int), v15 = .int .u64 x15_1 ∧ v16 = .int .u64 x16_1 ∧ Aside0 (bits_Div64.l0 kq ji10 ji8 ((ji10) / 4294967296) (Go.bits .and .u64 (ji10) 4294967295) (Go.bits .or .u64 (ji12) (ji15)) ((ji17) / 4294967296) (Go.bits .and .u64 (ji17) 4294967295) x15_1 x16_1 = some (r1, r2)) ∧ Aside0 (kq ≤ k) ∧ Drawn0 w w')
        case atStart => exact ⟨(IntKind.u64.wrap (Int.tdiv (Go.bits .or .u64 (ji12) (ji15)) ((ji10) / 4294967296))), (IntKind.u64.wrap ((Go.bits .or .u64 (ji12) (ji15)) - (IntKind.u64.wrap ((IntKind.u64.wrap (Int.tdiv (Go.bits .or .u64 (ji12) (ji15)) ((ji10) / 4294967296))) * ((ji10) / 4294967296))))), (by first | rfl | (simp; done) | (simp only [← hji10, ← hji12, ← hji15] <;> (first | rfl | simp)) | (simp [*]; done)), (by first | rfl | (simp; done) | (simp only [← hji10, ← hji12, ← hji15] <;> (first | rfl | simp)) | (simp [*]; done)), H', ⟨Nat.le_refl _⟩, zW⟩
        case round =>
         clear H'
         obtain ⟨x15_1, x16_1, rfl, rfl, HA, HK1, ⟨m1, rfl⟩⟩ := hrel
         cases gk with
         | zero => exact absurd HA.out (by simp [bits_Div64.l0])
         | succ k1 =>
          have H := HA.out
          clear HA
          simp only [bits_Div64.l0] at H
          have HC20 := Aside0.mk H
          clear H
          go_upto_region 17 with (fail)
          repeat (go_quiet (fail); go_upto_region 17 with (fail))
          go_cut [78] (fun v78 wc => ∃ (kq : Nat) (x78_19 : Bool), v78 = .bool x78_19 ∧ Aside0 (bits_Div64.j1 kq ji10 ji8 ((ji10) / 4294967296) (Go.bits .and .u64 (ji10) 4294967295) (Go.bits .or .u64 (ji12) (ji15)) ((ji17) / 4294967296) (Go.bits .and .u64 (ji17) 4294967295) x15_1 x16_1 x78_19 = some (r1, r2)) ∧ Aside0 (kq ≤ k1) ∧ Drawn0 w wc)
          case first =>
           have H := HC20.out
           clear HC20
           by_cases c21 : x15_1 ≥ 4294967296
           ·rw [if_pos c21] at H
            have c21b0 := decide_eq_true c21
            clear c21
            (first | rw [c21b0] | (simp only [i64_w, i32_w]; rw [c21b0]) | skip)
            have H' := Aside0.mk H
            clear H
            go_wp2
            repeat (go_quiet (fail); try go_wp2)
            go_meet
            case rel => exact ⟨_, (true), zT, H', ⟨by have := HK1.out; first | omega | exact Nat.le_refl _⟩, zW⟩
           ·rw [if_neg c21] at H
            have c21b0 := decide_eq_false c21
            clear c21
            (first | rw [c21b0] | (simp only [i64_w, i32_w]; rw [c21b0]) | skip)
            have H' := Aside0.mk H
            clear H
            go_wp2
            repeat (go_quiet (fail); try go_wp2)
            go_meet
            case rel => exact ⟨_, (decide ((IntKind.u64.wrap (x15_1 * (Go.bits .and .u64 (ji10) 4294967295))) > (IntKind.u64.wrap ((IntKind.u64.wrap (4294967296 * x16_1)) + ((ji17) / 4294967296))))), (by first | rfl | (simp; done) | (simp only [← hji10, ← hji17] <;> (first | rfl | simp)) | (simp [*]; done)), H', ⟨by have := HK1.out; first | omega | exact Nat.le_refl _⟩, zW⟩
          case rest =>
           clear HC20
           obtain ⟨kq, x78_19, rfl, HA, HJ19, ⟨mc19, rfl⟩⟩ := hcut
           cases kq with
           | zero => exact absurd HA.out (by simp [bits_Div64.j1])
           | succ kj19 =>
            have H := HA.out
            clear HA
            simp only [bits_Div64.j1] at H
            by_cases c22 : x78_19 = true
            ·subst c22
             rw [if_pos rfl] at H; try dsimp only at H
             by_cases c23 : (IntKind.u64.wrap (x16_1 + ((ji10) / 4294967296))) ≥ 4294967296
             ·rw [if_pos c23] at H
              have c23b0 := decide_eq_true c23
              clear c23
              have H' := Aside0.mk H
              clear H
              go_wp2
              repeat (go_quiet (fail); try go_wp2)
              go_meet
              case rel => exact ⟨_, (IntKind.u64.wrap (x15_1 - 1)), zT, H', ⟨by have := HK1.out; have := HJ19.out; first | omega | exact Nat.le_refl _⟩, zW⟩
             ·rw [if_neg c23] at H
              have c23b0 := decide_eq_false c23
              clear c23
              have H' := Aside0.mk H
              clear H
              go_wp2
              repeat (go_quiet (fail); try go_wp2)
              go_roundg kj19
              case measure => have := HK1.out; have := HJ19.out; omega
              case rel => exact ⟨(IntKind.u64.wrap (x15_1 - 1)), (IntKind.u64.wrap (x16_1 + ((ji10) / 4294967296))), zT, (by first | rfl | (simp; done) | (simp only [← hji10] <;> (first | rfl | simp)) | (simp [*]; done)), H', ⟨by have := HK1.out; have := HJ19.out; omega⟩, zW⟩
            ·replace c22 := Bool.eq_false_iff.mpr c22
             subst c22
             rw [if_neg (show ¬ (false = true) by decide)] at H; try dsimp only at H
             have H' := Aside0.mk H
             clear H
             go_wp2
             repeat (go_quiet (fail); try go_wp2)
             go_meet
             case rel => exact ⟨_, (x15_1), zT, H', ⟨by have := HK1.out; have := HJ19.out; first | omega | exact Nat.le_refl _⟩, zW⟩
       case rest =>
        clear HC19
        obtain ⟨kq, x15_18, rfl, HA, HJ18, ⟨mc18, rfl⟩⟩ := hcut
        cases kq with
        | zero => exact absurd HA.out (by simp [bits_Div64.j2])
        | succ kj18 =>
         have H := HA.out
         clear HA
         simp only [bits_Div64.j2] at H
         by_cases c24 : ((ji10) / 4294967296) = 0
         ·rw [if_pos c24] at H
          exact absurd H (by simp)
         ·rw [if_neg c24] at H
          have c24b0 : (((ji10) / 4294967296) == 0) = false := beq_eq_false_iff_ne.mpr c24
          have c24b1 : (((ji10) / 4294967296) != 0) = true := bne_iff_ne.mpr c24
          have H' := Aside0.mk H
          clear H
          go_wp2
          repeat (go_quiet (fail); try go_wp2)
          go_loopg [16, 18] kj18 (fun kq v16 v18 w' => ∃ (x16_2 : Int) (x18_2 : Int), v16 = .int .u64 x16_2 ∧ v18 = .int .u64 x18_2 ∧ Aside0 (bits_Div64.l1 kq ji10 ji8 ((ji10) / 4294967296) (Go.bits .and .u64 (ji10) 4294967295) (Go.bits .and .u64 (ji17) 4294967295) x15_18 x16_2 (IntKind.u64.wrap ((IntKind.u64.wrap ((IntKind.u64.wrap ((Go.bits .or .u64 (ji12) (ji15)) * 4294967296)) + ((ji17) / 4294967296))) - (IntKind.u64.wrap (x15_18 * ji10)))) x18_2 = some (r1, r2)) ∧ Aside0 (kq ≤ kj18) ∧ Drawn0 w w')
          case atStart => exact ⟨(IntKind.u64.wrap ((IntKind.u64.wrap ((IntKind.u64.wrap ((IntKind.u64.wrap ((Go.bits .or .u64 (ji12) (ji15)) * 4294967296)) + ((ji17) / 4294967296))) - (IntKind.u64.wrap (x15_18 * ji10)))) - (IntKind.u64.wrap ((IntKind.u64.wrap (Int.tdiv (IntKind.u64.wrap ((IntKind.u64.wrap ((IntKind.u64.wrap ((Go.bits .or .u64 (ji12) (ji15)) * 4294967296)) + ((ji17) / 4294967296))) - (IntKind.u64.wrap (x15_18 * ji10)))) ((ji10) / 4294967296))) * ((ji10) / 4294967296))))), (IntKind.u64.wrap (Int.tdiv (IntKind.u64.wrap ((IntKind.u64.wrap ((IntKind.u64.wrap ((Go.bits .or .u64 (ji12) (ji15)) * 4294967296)) + ((ji17) / 4294967296))) - (IntKind.u64.wrap (x15_18 * ji10)))) ((ji10) / 4294967296))), (by first | rfl | (simp; done) | (simp only [← hji10, ← hji12, ← hji15, ← hji17] <;> (first | rfl | simp)) | (simp [*]; done)), (by first | rfl | (simp; done) | (simp only [← hji10, ← hji12, ← hji15, ← hji17] <;> (first | rfl | simp)) | (simp [*]; done)), H', ⟨Nat.le_refl _⟩, zW⟩
          case round =>
           clear H'
           obtain ⟨x16_2, x18_2, rfl, rfl, HA, HK2, ⟨m2, rfl⟩⟩ := hrel
           cases gk with
           | zero => exact absurd HA.out (by simp [bits_Div64.l1])
           | succ k2 =>
            have H := HA.out
            clear HA
            simp only [bits_Div64.l1] at H
            have HC25 := Aside0.mk H
            clear H
            go_upto_region 24 with (fail)
            repeat (go_quiet (fail); go_upto_region 24 with (fail))
            go_cut [113] (fun v113 wc => ∃ (kq : Nat) (x113_24 : Bool), v113 = .bool x113_24 ∧ Aside0 (bits_Div64.j4 kq ji10 ji8 ((ji10) / 4294967296) (Go.bits .and .u64 (ji10) 4294967295) (Go.bits .and .u64 (ji17) 4294967295) x15_18 x16_2 (IntKind.u64.wrap ((IntKind.u64.wrap ((IntKind.u64.wrap ((Go.bits .or .u64 (ji12) (ji15)) * 4294967296)) + ((ji17) / 4294967296))) - (IntKind.u64.wrap (x15_18 * ji10)))) x18_2 x113_24 = some (r1, r2)) ∧ Aside0 (kq ≤ k2) ∧ Drawn0 w wc)
            case first =>
             have H := HC25.out
             clear HC25
             by_cases c26 : x18_2 ≥ 4294967296
             ·rw [if_pos c26] at H
              have c26b0 := decide_eq_true c26
              clear c26
              (first | rw [c26b0] | (simp only [i64_w, i32_w]; rw [c26b0]) | skip)
              have H' := Aside0.mk H
              clear H
              go_wp2
              repeat (go_quiet (fail); try go_wp2)
              go_meet
              case rel => exact ⟨_, (true), zT, H', ⟨by have := HJ18.out; have := HK2.out; first | omega | exact Nat.le_refl _⟩, zW⟩
             ·rw [if_neg c26] at H
              have c26b0 := decide_eq_false c26
              clear c26
              (first | rw [c26b0] | (simp only [i64_w, i32_w]; rw [c26b0]) | skip)
              have H' := Aside0.mk H
              clear H
              go_wp2
              repeat (go_quiet (fail); try go_wp2)
              go_meet
              case rel => exact ⟨_, (decide ((IntKind.u64.wrap (x18_2 * (Go.bits .and .u64 (ji10) 4294967295))) > (IntKind.u64.wrap ((IntKind.u64.wrap (4294967296 * x16_2)) + (Go.bits .and .u64 (ji17) 4294967295))))), (by first | rfl | (simp; done) | (simp only [← hji10, ← hji17] <;> (first | rfl | simp)) | (simp [*]; done)), H', ⟨by have := HJ18.out; have := HK2.out; first | omega | exact Nat.le_refl _⟩, zW⟩
            case rest =>
             clear HC25
             obtain ⟨kq, x113_24, rfl, HA, HJ24, ⟨mc24, rfl⟩⟩ := hcut
             cases kq with
             | zero => exact absurd HA.out (by simp [bits_Div64.j4])
             | succ kj24 =>
              have H := HA.out
              clear HA
              simp only [bits_Div64.j4] at H
              by_cases c27 : x113_24 = true
              ·subst c27
               rw [if_pos rfl] at H; try dsimp only at H
               by_cases c28 : (IntKind.u64.wrap (x16_2 + ((ji10) / 4294967296))) ≥ 4294967296
               ·rw [if_pos c28] at H
                have c28b0 := decide_eq_true c28
                clear c28
                by_cases c29 : 0 ≤ ji8
                ·rw [if_pos c29] at H
                 have c29b0 := eq_true c29
                 have c29b1 := decide_eq_true c29
                 clear c29
                 obtain ⟨ji30, hji30⟩ : ∃ j_ : Int, (shr .u64 (IntKind.u64.wrap ((IntKind.u64.wrap ((IntKind.u64.wrap ((IntKind.u64.wrap ((IntKind.u64.wrap ((IntKind.u64.wrap ((Go.bits .or .u64 (ji12) (ji15)) * 4294967296)) + ((ji17) / 4294967296))) - (IntKind.u64.wrap (x15_18 * ji10)))) * 4294967296)) + (Go.bits .and .u64 (ji17) 4294967295))) - (IntKind.u64.wrap ((IntKind.u64.wrap (x18_2 - 1)) * ji10)))) ji8) = j_ := ⟨_, rfl⟩
                 replace H : (some (IntKind.u64.wrap ((IntKind.u64.wrap (x15_18 * 4294967296)) + (IntKind.u64.wrap (x18_2 - 1))), ji30)) = some (r1, r2) := by first | (rw [hji30] at H; exact H) | (simp only [hji30] at H ⊢; exact H)
                 have hji30_ : ((IntKind.u64.wrap ((IntKind.u64.wrap ((IntKind.u64.wrap ((IntKind.u64.wrap ((IntKind.u64.wrap ((IntKind.u64.wrap ((Go.bits .or .u64 (ji12) (ji15)) * 4294967296)) + ((ji17) / 4294967296))) - (IntKind.u64.wrap (x15_18 * ji10)))) * 4294967296)) + (Go.bits .and .u64 (ji17) 4294967295))) - (IntKind.u64.wrap ((IntKind.u64.wrap (x18_2 - 1)) * ji10)))) / 2 ^ min ji8.toNat 64) = ji30 := hji30
                 have hji30z : ji8 ≤ 64 → ((IntKind.u64.wrap ((IntKind.u64.wrap ((IntKind.u64.wrap ((IntKind.u64.wrap ((IntKind.u64.wrap ((IntKind.u64.wrap ((Go.bits .or .u64 (ji12) (ji15)) * 4294967296)) + ((ji17) / 4294967296))) - (IntKind.u64.wrap (x15_18 * ji10)))) * 4294967296)) + (Go.bits .and .u64 (ji17) 4294967295))) - (IntKind.u64.wrap ((IntKind.u64.wrap (x18_2 - 1)) * ji10)))) / 2 ^ ji8.toNat) = ji30 := shr_small hji30
                 simp only [Option.some.injEq, Prod.mk.injEq] at H
                 obtain ⟨rfl, rfl⟩ := H
                 go_wp2
                 repeat (go_quiet (fail); try go_wp2)
                 go_ret2
                 exact ⟨by first | rfl | (simp; done) | (simp only [← hji8, ← hji10, ← hji12, ← hji13, ← hji15, ← hji17, ← hji30] <;> (first | rfl | simp)) | (simp [*]; done), zW⟩
                ·rw [if_neg c29] at H
                 exact absurd H (by simp)
               ·rw [if_neg c28] at H
                have c28b0 := decide_eq_false c28
                clear c28
                have H' := Aside0.mk H
                clear H
                go_wp2
                repeat (go_quiet (fail); try go_wp2)
                go_roundg kj24
                case measure => have := HJ18.out; have := HK2.out; have := HJ24.out; omega
                case rel => exact ⟨(IntKind.u64.wrap (x16_2 + ((ji10) / 4294967296))), (IntKind.u64.wrap (x18_2 - 1)), (by first | rfl | (simp; done) | (simp only [← hji10] <;> (first | rfl | simp)) | (simp [*]; done)), zT, H', ⟨by have := HJ18.out; have := HK2.out; have := HJ24.out; omega⟩, zW⟩
              ·replace c27 := Bool.eq_false_iff.mpr c27
               subst c27
               rw [if_neg (show ¬ (false = true) by decide)] at H; try dsimp only at H
               by_cases c31 : 0 ≤ ji8
               ·rw [if_pos c31] at H
                have c31b0 := eq_true c31
                have c31b1 := decide_eq_true c31
                clear c31
                obtain ⟨ji32, hji32⟩ : ∃ j_ : Int, (shr .u64 (IntKind.u64.wrap ((IntKind.u64.wrap ((IntKind.u64.wrap ((IntKind.u64.wrap ((IntKind.u64.wrap ((IntKind.u64.wrap ((Go.bits .or .u64 (ji12) (ji15)) * 4294967296)) + ((ji17) / 4294967296))) - (IntKind.u64.wrap (x15_18 * ji10)))) * 4294967296)) + (Go.bits .and .u64 (ji17) 4294967295))) - (IntKind.u64.wrap (x18_2 * ji10)))) ji8) = j_ := ⟨_, rfl⟩
                replace H : (some (IntKind.u64.wrap ((IntKind.u64.wrap (x15_18 * 4294967296)) + x18_2), ji32)) = some (r1, r2) := by first | (rw [hji32] at H; exact H) | (simp only [hji32] at H ⊢; exact H)
                have hji32_ : ((IntKind.u64.wrap ((IntKind.u64.wrap ((IntKind.u64.wrap ((IntKind.u64.wrap ((IntKind.u64.wrap ((IntKind.u64.wrap ((Go.bits .or .u64 (ji12) (ji15)) * 4294967296)) + ((ji17) / 4294967296))) - (IntKind.u64.wrap (x15_18 * ji10)))) * 4294967296)) + (Go.bits .and .u64 (ji17) 4294967295))) - (IntKind.u64.wrap (x18_2 * ji10)))) / 2 ^ min ji8.toNat 64) = ji32 := hji32
                have hji32z : ji8 ≤ 64 → ((IntKind.u64.wrap ((IntKind.u64.wrap ((IntKind.u64.wrap ((IntKind.u64.wrap ((IntKind.u64.wrap ((IntKind.u64.wrap ((Go.bits .or .u64 (ji12) (ji15)) * 4294967296)) + ((ji17) / 4294967296))) - (IntKind.u64.wrap (x15_18 * ji10)))) * 4294967296)) + (Go.bits .and .u64 (ji17) 4294967295))) - (IntKind.u64.wrap (x18_2 * ji10)))) / 2 ^ ji8.toNat) = ji32 := shr_small hji32
                simp only [Option.some.injEq, Prod.mk.injEq] at H
                obtain ⟨rfl, rfl⟩ := H
                go_wp2
                repeat (go_quiet (fail); try go_wp2)
                go_ret2
                exact ⟨by first | rfl | (simp; done) | (simp only [← hji8, ← hji10, ← hji12, ← hji13, ← hji15, ← hji17, ← hji32] <;> (first | rfl | simp)) | (simp [*]; done), zW⟩
               ·rw [if_neg c31] at H
                exact absurd H (by simp)
     ·rw [if_neg c14] at H
      exact absurd H (by simp)
    ·rw [if_neg c9] at H
     exact absurd H (by simp)
end Go.Proofs.YtebipmdopdogkaaGreatDoor.QA
