/- Joined by wip/tools/bundle.py out of: QAx26 QAx27 QAx28 QAx29 QAx30 QAx31 QAx32. -/
import Derived.Test.YtebipmdopdogkaaGreatDoorBOpMakes0
import Derived.Test.YtebipmdopdogkaaGreatDoorBOpMakes1
import Derived.Test.YtebipmdopdogkaaGreatDoorBOpMakes7
namespace Go.Proofs.YtebipmdopdogkaaGreatDoor.QA
open Go.Proofs.YtebipmdopdogkaaGreatDoor.T
open Go.RowKit Go.Proofs.YtebipmdopdogkaaGreatDoorW.PrintWords Go.Proofs.YtebipmdopdogkaaGreatDoorW.PrintLast Go.Proofs.YtebipmdopdogkaaGreatDoorW.PrintMore
attribute [local go_sem] ext_call max2_int min2_int max_two min_two
set_option linter.unusedVariables false
set_option linter.unusedSimpArgs false
mutual
def smaltoref05_Keys.j0 : Nat → Int → Int → Bool → Option (Int)
 | 0, _, _, _ => none
 | k + 1, x0, x1, x14 => if x14 = true then (some 0) else (if x0 ≥ (wrap64 (2 * x1)) then (smaltoref05_Keys.j1 k x0 x1 true) else (smaltoref05_Keys.j1 k x0 x1 (decide (x0 ≤ (wrap64 ((-2) * x1))))))
def smaltoref05_Keys.j1 : Nat → Int → Int → Bool → Option (Int)
 | 0, _, _, _ => none
 | k + 1, x0, x1, x24 => if x24 = true then (some 0) else (if x0 < 0 then (smaltoref05_Keys.j2 k (wrap64 (-x0)) x1) else (smaltoref05_Keys.j2 k x0 x1))
def smaltoref05_Keys.j2 : Nat → Int → Int → Option (Int)
 | 0, _, _ => none
 | k + 1, x0, x1 => if x0 < x1 then ((smaltoref02_MulDiv.f k (wrap64 ((wrap64 ((wrap64 (3 * (wrap64 ((wrap64 (x0 * x0)) * x0)))) - (wrap64 ((wrap64 (5 * (wrap64 (x0 * x0)))) * x1)))) + (wrap64 (2 * (wrap64 ((wrap64 (x1 * x1)) * x1)))))) 1073741824 (wrap64 (2 * (wrap64 ((wrap64 (x1 * x1)) * x1))))).bind fun t314 => (some t314)) else ((smaltoref02_MulDiv.f k (wrap64 ((wrap64 ((wrap64 ((wrap64 ((wrap64 (5 * (wrap64 (x0 * x0)))) * x1)) - (wrap64 ((wrap64 (x0 * x0)) * x0)))) - (wrap64 ((wrap64 (8 * x0)) * (wrap64 (x1 * x1)))))) + (wrap64 (4 * (wrap64 ((wrap64 (x1 * x1)) * x1)))))) 1073741824 (wrap64 (2 * (wrap64 ((wrap64 (x1 * x1)) * x1))))).bind fun t315 => (some t315))
end
def smaltoref05_Keys.f (k : Nat) (a0 a1 : Int) : Option (Int) := if a1 < 1 then (smaltoref05_Keys.j0 k a0 a1 true) else (smaltoref05_Keys.j0 k a0 a1 (decide (a1 > 262144)))
set_option maxHeartbeats 8000000 in
set_option maxRecDepth 100000 in
theorem smaltoref05_Keys.calls (k : Nat) (a0 a1 r : Int) (w : World) (h : smaltoref05_Keys.f k a0 a1 = some r) :
  Calls Tryz.prog 83 #[.int .i64 a0, .int .i64 a1] w fun e w' => e = .returned (.int .i64 r) ∧ Below w.heap.size w w' := by
 have HB := Aside0.mk (Below.refl w.heap.size w)
 have H := h
 clear h
 unfold smaltoref05_Keys.f at H
 have HC3 := Aside0.mk H
 clear H
 go_enter Tryz.func83, Tryz.ntmps83
 go_upto_region 1 with (fail)
 go_cut [14] (fun v14 wc => ∃ (kq : Nat) (x14_2 : Bool), v14 = .bool x14_2 ∧ Aside0 (smaltoref05_Keys.j0 kq a0 a1 x14_2 = some r) ∧ Aside0 (kq ≤ k) ∧ Aside0 (Below w.heap.size w wc))
 case first =>
  have H := HC3.out
  clear HC3
  by_cases c4 : a1 < 1
  ·rw [if_pos c4] at H
   have c4b0 := decide_eq_true c4
   clear c4
   (first | rw [c4b0] | (simp only [i64_w, i32_w]; rw [c4b0]) | skip)
   have H' := Aside0.mk H
   clear H
   go_wp2
   go_meet
   case rel => exact ⟨_, (true), zT, H', ⟨by first | omega | exact Nat.le_refl _⟩, ⟨zB⟩⟩
  ·rw [if_neg c4] at H
   have c4b0 := decide_eq_false c4
   clear c4
   (first | rw [c4b0] | (simp only [i64_w, i32_w]; rw [c4b0]) | skip)
   have H' := Aside0.mk H
   clear H
   go_wp2
   go_meet
   case rel => exact ⟨_, (decide (a1 > 262144)), zT, H', ⟨by first | omega | exact Nat.le_refl _⟩, ⟨zB⟩⟩
 case rest =>
  clear HC3
  obtain ⟨kq, x14_2, rfl, HA, HJ2, HB⟩ := hcut
  cases kq with
  | zero => exact absurd HA.out (by simp [smaltoref05_Keys.j0])
  | succ kj2 =>
   have H := HA.out
   clear HA
   simp only [smaltoref05_Keys.j0] at H
   by_cases c5 : x14_2 = true
   ·subst c5
    rw [if_pos rfl] at H; try dsimp only at H
    obtain rfl := Option.some.inj H
    go_wp2
    go_ret
    exact ⟨zS, zB⟩
   ·replace c5 := Bool.eq_false_iff.mpr c5
    subst c5
    rw [if_neg (show ¬ (false = true) by decide)] at H; try dsimp only at H
    have HC6 := Aside0.mk H
    clear H
    go_upto_region 3 with (fail)
    go_cut [24] (fun v24 wc => ∃ (kq : Nat) (x24_5 : Bool), v24 = .bool x24_5 ∧ Aside0 (smaltoref05_Keys.j1 kq a0 a1 x24_5 = some r) ∧ Aside0 (kq ≤ kj2) ∧ Aside0 (Below w.heap.size w wc))
    case first =>
     have H := HC6.out
     clear HC6
     by_cases c7 : a0 ≥ (wrap64 (2 * a1))
     ·rw [if_pos c7] at H
      have c7b0 := decide_eq_true c7
      clear c7
      (first | rw [c7b0] | (simp only [i64_w, i32_w]; rw [c7b0]) | skip)
      have H' := Aside0.mk H
      clear H
      go_wp2
      go_meet
      case rel => exact ⟨_, (true), zT, H', ⟨by have := HJ2.out; first | omega | exact Nat.le_refl _⟩, ⟨zB⟩⟩
     ·rw [if_neg c7] at H
      have c7b0 := decide_eq_false c7
      clear c7
      (first | rw [c7b0] | (simp only [i64_w, i32_w]; rw [c7b0]) | skip)
      have H' := Aside0.mk H
      clear H
      go_wp2
      go_meet
      case rel => exact ⟨_, (decide (a0 ≤ (wrap64 ((-2) * a1)))), zT, H', ⟨by have := HJ2.out; first | omega | exact Nat.le_refl _⟩, ⟨zB⟩⟩
    case rest =>
     clear HC6
     obtain ⟨kq, x24_5, rfl, HA, HJ5, HB⟩ := hcut
     cases kq with
     | zero => exact absurd HA.out (by simp [smaltoref05_Keys.j1])
     | succ kj5 =>
      have H := HA.out
      clear HA
      simp only [smaltoref05_Keys.j1] at H
      by_cases c8 : x24_5 = true
      ·subst c8
       rw [if_pos rfl] at H; try dsimp only at H
       obtain rfl := Option.some.inj H
       go_wp2
       go_ret
       exact ⟨zS, zB⟩
      ·replace c8 := Bool.eq_false_iff.mpr c8
       subst c8
       rw [if_neg (show ¬ (false = true) by decide)] at H; try dsimp only at H
       have HC9 := Aside0.mk H
       clear H
       go_upto_if 26 with (fail)
       go_cut [0] (fun v0 wc => ∃ (kq : Nat) (x0_8 : Int), v0 = .int .i64 x0_8 ∧ Aside0 (smaltoref05_Keys.j2 kq x0_8 a1 = some r) ∧ Aside0 (kq ≤ kj5) ∧ Aside0 (Below w.heap.size w wc))
       case first =>
        have H := HC9.out
        clear HC9
        by_cases c10 : a0 < 0
        ·rw [if_pos c10] at H
         have c10b0 := decide_eq_true c10
         clear c10
         (first | rw [c10b0] | (simp only [i64_w, i32_w]; rw [c10b0]) | skip)
         have H' := Aside0.mk H
         clear H
         go_wp2
         go_meet
         case rel => exact ⟨_, (wrap64 (-a0)), zT, H', ⟨by have := HJ2.out; have := HJ5.out; first | omega | exact Nat.le_refl _⟩, ⟨zB⟩⟩
        ·rw [if_neg c10] at H
         have c10b0 := decide_eq_false c10
         clear c10
         (first | rw [c10b0] | (simp only [i64_w, i32_w]; rw [c10b0]) | skip)
         have H' := Aside0.mk H
         clear H
         go_wp2
         go_meet
         case rel => exact ⟨_, (a0), zT, H', ⟨by have := HJ2.out; have := HJ5.out; first | omega | exact Nat.le_refl _⟩, ⟨zB⟩⟩
       case rest =>
        clear HC9
        obtain ⟨kq, x0_8, rfl, HA, HJ8, HB⟩ := hcut
        cases kq with
        | zero => exact absurd HA.out (by simp [smaltoref05_Keys.j2])
        | succ kj8 =>
         have H := HA.out
         clear HA
         simp only [smaltoref05_Keys.j2] at H
         by_cases c11 : x0_8 < a1
         ·rw [if_pos c11] at H
          have c11b0 := decide_eq_true c11
          clear c11
          replace H := zO H
          obtain ⟨t314, A12, H⟩ := H
          try dsimp only at H
          obtain rfl := Option.some.inj H
          go_wp2_with (first | ((with_reducible refine gate_callee (f := 46) rfl ?_); refine goesL_ (some 56) rfl rfl Tryz.func46 (by kernel_rfl) rfl #[.int .i64 (wrap64 ((wrap64 ((wrap64 (3 * (wrap64 ((wrap64 (x0_8 * x0_8)) * x0_8)))) - (wrap64 ((wrap64 (5 * (wrap64 (x0_8 * x0_8)))) * a1)))) + (wrap64 (2 * (wrap64 ((wrap64 (a1 * a1)) * a1)))))), .int .i64 1073741824, .int .i64 (wrap64 (2 * (wrap64 ((wrap64 (a1 * a1)) * a1))))] rfl zL ?_; (with_reducible refine (smaltoref02_MulDiv.calls kj8 (wrap64 ((wrap64 ((wrap64 (3 * (wrap64 ((wrap64 (x0_8 * x0_8)) * x0_8)))) - (wrap64 ((wrap64 (5 * (wrap64 (x0_8 * x0_8)))) * a1)))) + (wrap64 (2 * (wrap64 ((wrap64 (a1 * a1)) * a1)))))) 1073741824 (wrap64 (2 * (wrap64 ((wrap64 (a1 * a1)) * a1)))) t314 _ A12.out).mono ?_); rintro e w13 ⟨rfl, hb⟩; refine ⟨_, rfl, ?_⟩; replace HB := Aside0.mk (below_step zB hb); (try clear hb)))
          go_ret
          exact ⟨zS, zB⟩
         ·rw [if_neg c11] at H
          have c11b0 := decide_eq_false c11
          clear c11
          replace H := zO H
          obtain ⟨t315, A14, H⟩ := H
          try dsimp only at H
          obtain rfl := Option.some.inj H
          go_wp2_with (first | ((with_reducible refine gate_callee (f := 46) rfl ?_); refine goesL_ (some 73) rfl rfl Tryz.func46 (by kernel_rfl) rfl #[.int .i64 (wrap64 ((wrap64 ((wrap64 ((wrap64 ((wrap64 (5 * (wrap64 (x0_8 * x0_8)))) * a1)) - (wrap64 ((wrap64 (x0_8 * x0_8)) * x0_8)))) - (wrap64 ((wrap64 (8 * x0_8)) * (wrap64 (a1 * a1)))))) + (wrap64 (4 * (wrap64 ((wrap64 (a1 * a1)) * a1)))))), .int .i64 1073741824, .int .i64 (wrap64 (2 * (wrap64 ((wrap64 (a1 * a1)) * a1))))] rfl zL ?_; (with_reducible refine (smaltoref02_MulDiv.calls kj8 (wrap64 ((wrap64 ((wrap64 ((wrap64 ((wrap64 (5 * (wrap64 (x0_8 * x0_8)))) * a1)) - (wrap64 ((wrap64 (x0_8 * x0_8)) * x0_8)))) - (wrap64 ((wrap64 (8 * x0_8)) * (wrap64 (a1 * a1)))))) + (wrap64 (4 * (wrap64 ((wrap64 (a1 * a1)) * a1)))))) 1073741824 (wrap64 (2 * (wrap64 ((wrap64 (a1 * a1)) * a1)))) t315 _ A14.out).mono ?_); rintro e w15 ⟨rfl, hb⟩; refine ⟨_, rfl, ?_⟩; replace HB := Aside0.mk (below_step zB hb); (try clear hb)))
          go_ret
          exact ⟨zS, zB⟩
end Go.Proofs.YtebipmdopdogkaaGreatDoor.QA

namespace Go.Proofs.YtebipmdopdogkaaGreatDoor.QA
open Go.Proofs.YtebipmdopdogkaaGreatDoor.T
open Go.RowKit Go.Proofs.YtebipmdopdogkaaGreatDoorW.PrintWords Go.Proofs.YtebipmdopdogkaaGreatDoorW.PrintLast Go.Proofs.YtebipmdopdogkaaGreatDoorW.PrintMore
attribute [local go_sem] ext_call max2_int min2_int max_two min_two
set_option linter.unusedVariables false
set_option linter.unusedSimpArgs false
mutual
def smaltoref01_Shift.l0 : Nat → Int → Int → Int → Int → Int → Int → Option (Int)
 | 0, _, _, _, _, _, _ => none
 | k + 1, x0, x1, x20, x21, x317000, x317001 => if x21 < x20 then ((smaltoref01_Twice.f x317000 x317001 0).bind fun bt317 => (smaltoref01_Shift.l0 k x0 x1 x20 (wrap64 (x21 + 1)) bt317.1 bt317.2)) else ((smaltoref01_Size.f x0).bind fun t319 => (smaltoref01_Shift.l1 k x0 x1 127 x317000 x317001 0 t319 0 0))
def smaltoref01_Shift.l1 : Nat → Int → Int → Int → Int → Int → Int → Int → Int → Int → Option (Int)
 | 0, _, _, _, _, _, _, _, _, _ => none
 | k + 1, x0, x1, x8, x317000, x317001, x321000, x321001, x322000, x322001 => if x8 ≥ x1 then ((smaltoref01_Bit.f x321000 x321001 x8).bind fun t322 => ((smaltoref01_Twice.f x322000 x322001 t322).bind fun bt323 => (smaltoref01_Shift.l1 k x0 x1 (wrap64 (x8 - 1)) x317000 x317001 x321000 x321001 bt323.1 bt323.2))) else (smaltoref01_Shift.l2 k x0 x1 x317000 x317001 x321000 x321001 x322000 x322001 x321000 x321001)
def smaltoref01_Shift.l2 : Nat → Int → Int → Int → Int → Int → Int → Int → Int → Int → Int → Option (Int)
 | 0, _, _, _, _, _, _, _, _, _, _ => none
 | k + 1, x0, x10, x317000, x317001, x321000, x321001, x322000, x322001, x326000, x326001 => if x10 < 128 then ((smaltoref01_Bit.f x321000 x321001 x10).bind fun t326 => (if t326 = 1 then (smaltoref01_Shift.l3 k x0 x10 x10 0 x317000 x317001 x321000 x321001 x322000 x322001 x326000 x326001 0 1) else (smaltoref01_Shift.l2 k x0 (wrap64 (x10 + 1)) x317000 x317001 x321000 x321001 x322000 x322001 x326000 x326001))) else ((smaltoref01_Less.f x326000 x326001 x317000 x317001).bind fun t332 => (if x0 < 0 then ((smaltoref01_Less.f x317000 x317001 x326000 x326001).bind fun t333 => (smaltoref01_Shift.j4 k x0 t333 x322000 x322001)) else (smaltoref01_Shift.j4 k x0 (!t332) x322000 x322001)))
def smaltoref01_Shift.l3 : Nat → Int → Int → Int → Int → Int → Int → Int → Int → Int → Int → Int → Int → Int → Int → Option (Int)
 | 0, _, _, _, _, _, _, _, _, _, _, _, _, _, _ => none
 | k + 1, x0, x10, x51, x52, x317000, x317001, x321000, x321001, x322000, x322001, x326000, x326001, x328000, x328001 => if x52 < x51 then ((smaltoref01_Twice.f x328000 x328001 0).bind fun bt328 => (smaltoref01_Shift.l3 k x0 x10 x51 (wrap64 (x52 + 1)) x317000 x317001 x321000 x321001 x322000 x322001 x326000 x326001 bt328.1 bt328.2)) else ((smaltoref01_Minus.f x326000 x326001 x328000 x328001).bind fun bt330 => (smaltoref01_Shift.l2 k x0 (wrap64 (x10 + 1)) x317000 x317001 x321000 x321001 x322000 x322001 bt330.1 bt330.2))
def smaltoref01_Shift.j4 : Nat → Int → Bool → Int → Int → Option (Int)
 | 0, _, _, _, _ => none
 | k + 1, x0, x12, x322000, x322001 => if x12 = true then ((smaltoref01_Plus.f x322000 x322001 0 1).bind fun bt334 => ((smaltoref01_Hold.f k bt334.1 bt334.2 (decide (x0 < 0))).bind fun t336 => (some t336))) else ((smaltoref01_Hold.f k x322000 x322001 (decide (x0 < 0))).bind fun t337 => (some t337))
end
def smaltoref01_Shift.f (k : Nat) (a0 a1 : Int) : Option (Int) := if a1 < 1 then (some a0) else (if a1 > 64 then (some 0) else (smaltoref01_Shift.l0 k a0 a1 (wrap64 (a1 - 1)) 0 0 1))
set_option maxHeartbeats 8000000 in
set_option maxRecDepth 100000 in
theorem smaltoref01_Shift.calls (k : Nat) (a0 a1 r : Int) (w : World) (h : smaltoref01_Shift.f k a0 a1 = some r) :
  Calls Tryz.prog 62 #[.int .i64 a0, .int .i64 a1] w fun e w' => e = .returned (.int .i64 r) ∧ Below w.heap.size w w' := by
 have hu113 := Tryz.underlying113
 have HB := Aside0.mk (Below.refl w.heap.size w)
 have H := h
 clear h
 unfold smaltoref01_Shift.f at H
 by_cases c3 : a1 < 1
 ·rw [if_pos c3] at H
  have c3b0 := decide_eq_true c3
  clear c3
  obtain rfl := Option.some.inj H
  go_enter Tryz.func62, Tryz.ntmps62
  go_wp2
  go_ret
  exact ⟨zS, zB⟩
 ·rw [if_neg c3] at H
  have c3b0 := decide_eq_false c3
  clear c3
  by_cases c4 : a1 > 64
  ·rw [if_pos c4] at H
   have c4b0 := decide_eq_true c4
   clear c4
   obtain rfl := Option.some.inj H
   go_enter Tryz.func62, Tryz.ntmps62
   go_wp2
   go_ret
   exact ⟨zS, zB⟩
  ·rw [if_neg c4] at H
   have c4b0 := decide_eq_false c4
   clear c4
   have H' := Aside0.mk H
   clear H
   go_enter Tryz.func62, Tryz.ntmps62
   go_wp2_with (first | ((with_reducible refine gate_dst (N := 5) rfl ?_); refine box_event zR (N := 5) zR (cs := #[.int .u64 0, .int .u64 0]) (t := 113) zG ?_; intro gb316 hg w5 hbox hb; obtain ⟨HB, BK316, GW316, GE316⟩ := zA4 (below_step zB hb) hbox (zg hg zB) (zg hg zB); clear hb hbox hg; obtain ⟨_, _⟩ := zC2 BK316.out; obtain ⟨_, _⟩ := zF2 BK316.out))
   go_loopg [21] k (fun kq v21 w' => ∃ (x21_1 : Int) (x317000_1 : Int) (x317001_1 : Int), v21 = .int .i64 x21_1 ∧ Aside0 (smaltoref01_Shift.l0 kq a0 a1 (wrap64 (a1 - 1)) x21_1 x317000_1 x317001_1 = some r) ∧ Aside0 (kq ≤ k) ∧ Aside0 (w'.heap[gb316]? = some (.cells #[.int .u64 x317000_1, .int .u64 x317001_1] 113 (0, 0))) ∧ Aside0 (Below w.heap.size w w'))
   case atStart => exact ⟨(0), (0), (1), zT, H', ⟨Nat.le_refl _⟩, ⟨by refine zD ?_; refine blk_put (cs := #[.int .u64 0, .int .u64 0]) ?_ 1 _ rfl; refine zD ?_; refine blk_put (cs := #[.int .u64 0, .int .u64 0]) ?_ 0 _ rfl; refine zD ?_; exact BK316.out⟩, ⟨zB⟩⟩
   case round =>
    clear H'
    obtain ⟨x21_1, x317000_1, x317001_1, rfl, HA, HK1, BK316, HB⟩ := hrel
    cases gk with
    | zero => exact absurd HA.out (by simp [smaltoref01_Shift.l0])
    | succ k1 =>
     have H := HA.out
     clear HA
     simp only [smaltoref01_Shift.l0] at H
     by_cases c7 : x21_1 < (wrap64 (a1 - 1))
     ·rw [if_pos c7] at H
      have c7b0 := decide_eq_true c7
      clear c7
      replace H := zO H
      obtain ⟨⟨t317, t318⟩, A8, H⟩ := H
      try dsimp only at H
      have H' := Aside0.mk H
      clear H
      obtain ⟨_, _⟩ := zC2 BK316.out
      obtain ⟨_, _⟩ := zF2 BK316.out
      go_wp2_with (first | ((with_reducible refine gate_callee (f := 88) rfl ?_); refine goesL_ (some 24) rfl rfl Tryz.func88 (by kernel_rfl) rfl #[.agg #[.int .u64 x317000_1, .int .u64 x317001_1], .int .u64 0] rfl zL ?_; (with_reducible refine (smaltoref01_Twice.calls x317000_1 x317001_1 0 t317 t318 _ A8.out).mono ?_); rintro e w10 ⟨rfl, hb⟩; refine ⟨_, rfl, ?_⟩; obtain ⟨BK316, HB⟩ := zA2 (blk_below (zK BK316) hb) (below_step zB hb); (try clear hb); obtain ⟨_, _⟩ := zC2 BK316.out; obtain ⟨_, _⟩ := zF2 BK316.out))
      go_roundg k1
      case measure => have := HK1.out; omega
      case rel => exact ⟨(wrap64 (x21_1 + 1)), (t317), (t318), zT, H', ⟨by have := HK1.out; omega⟩, ⟨by refine zD ?_; refine blk_put (cs := #[.int .u64 t317, .int .u64 x317001_1]) ?_ 1 _ rfl; refine zD ?_; refine blk_put (cs := #[.int .u64 x317000_1, .int .u64 x317001_1]) ?_ 0 _ rfl; refine zD ?_; exact BK316.out⟩, ⟨zB⟩⟩
     ·rw [if_neg c7] at H
      have c7b0 := decide_eq_false c7
      clear c7
      replace H := zO H
      obtain ⟨t319, A12, H⟩ := H
      try dsimp only at H
      have H' := Aside0.mk H
      clear H
      go_wp2_with (first | ((with_reducible refine gate_callee (f := 67) rfl ?_); refine goesL_ (some 27) rfl rfl Tryz.func67 (by kernel_rfl) rfl #[.int .i64 a0] rfl zL ?_; (with_reducible refine (smaltoref01_Size.calls a0 t319 _ A12.out).mono ?_); rintro e w' ⟨rfl, ⟨nd, rfl⟩⟩; refine ⟨_, rfl, ?_⟩; (try (rw [drewN_self wr]; generalize hq_ : World.drewN wr _ = wr; have n0_ : Aside0 (wr.heap[gb316]? = some (.cells #[.int .u64 x317000_1, .int .u64 x317001_1] 113 (0, 0))) := ⟨by rw [← hq_]; exact (zK BK316)⟩; have n1_ : Aside0 (Below w.heap.size w wr) := ⟨by rw [← hq_]; exact zB⟩; clear BK316 HB hq_; have BK316 := n0_; have HB := n1_; clear n0_ n1_))) | ((with_reducible refine gate_dst (N := 6) rfl ?_); refine box_event zR (N := 6) zR (cs := #[.int .u64 0, .int .u64 0]) (t := 113) zG ?_; intro gb320 hg w13 hbox hb; obtain ⟨BK316, HB, BK320, GW320, GE320, NB316_320, NB320_316⟩ := zA7 (blk_below (zK BK316) hb) (below_step zB hb) hbox (zg hg zB) (zg hg zB) (zl hg (zK BK316)) (zr hg (zK BK316)); clear hb hbox hg; have hnb14 := NB320_316.out; have hnc14 := NB316_320.out; obtain ⟨_, _⟩ := zC2 BK320.out; obtain ⟨_, _⟩ := zF2 BK320.out) | ((with_reducible refine gate_dst (N := 7) rfl ?_); refine box_event zR (N := 7) zR (cs := #[.int .u64 0, .int .u64 0]) (t := 113) zG ?_; intro gb321 hg w16 hbox hb; obtain ⟨BK316, BK320, HB, BK321, GW321, GE321, NB316_321, NB321_316, NB320_321, NB321_320⟩ := zA10 (blk_below (zK BK316) hb) (blk_below (g := gb320) (o := .cells #[.int .u64 0, .int .u64 t319] 113 (0, 0)) (by refine zD ?_; refine blk_put (cs := #[.int .u64 0, .int .u64 0]) ?_ 1 _ rfl; refine zD ?_; refine blk_put (cs := #[.int .u64 0, .int .u64 0]) ?_ 0 _ rfl; refine zD ?_; exact BK320.out) hb) (below_step zB hb) hbox (zg hg zB) (zg hg zB) (zl hg (zK BK316)) (zr hg (zK BK316)) ((by rw [hg]; exact Nat.ne_of_lt (blk_lt (g := gb320) (o := .cells #[.int .u64 0, .int .u64 t319] 113 (0, 0)) (by refine zD ?_; refine blk_put (cs := #[.int .u64 0, .int .u64 0]) ?_ 1 _ rfl; refine zD ?_; refine blk_put (cs := #[.int .u64 0, .int .u64 0]) ?_ 0 _ rfl; refine zD ?_; exact BK320.out)) : gb320 ≠ gb321)) ((by rw [hg]; exact Nat.ne_of_gt (blk_lt (g := gb320) (o := .cells #[.int .u64 0, .int .u64 t319] 113 (0, 0)) (by refine zD ?_; refine blk_put (cs := #[.int .u64 0, .int .u64 0]) ?_ 1 _ rfl; refine zD ?_; refine blk_put (cs := #[.int .u64 0, .int .u64 0]) ?_ 0 _ rfl; refine zD ?_; exact BK320.out)) : gb321 ≠ gb320)); clear hb hbox hg; have hnb17 := NB321_316.out; have hnc17 := NB316_321.out; have hnb18 := NB321_320.out; have hnc18 := NB320_321.out; obtain ⟨_, _⟩ := zC2 BK321.out; obtain ⟨_, _⟩ := zF2 BK321.out))
      try simp only [Act.put, List.setIfInBounds_toArray, List.set_cons_succ, List.set_cons_zero]
      go_loopg [8] k1 (fun kq v8 w' => ∃ (x8_2 : Int) (x322000_2 : Int) (x322001_2 : Int), v8 = .int .i64 x8_2 ∧ Aside0 (smaltoref01_Shift.l1 kq a0 a1 x8_2 x317000_1 x317001_1 0 t319 x322000_2 x322001_2 = some r) ∧ Aside0 (kq ≤ k1) ∧ Aside0 (w'.heap[gb316]? = some (.cells #[.int .u64 x317000_1, .int .u64 x317001_1] 113 (0, 0))) ∧ Aside0 (w'.heap[gb320]? = some (.cells #[.int .u64 0, .int .u64 t319] 113 (0, 0))) ∧ Aside0 (w'.heap[gb321]? = some (.cells #[.int .u64 x322000_2, .int .u64 x322001_2] 113 (0, 0))) ∧ Aside0 (Below w.heap.size w w'))
      case atStart => exact ⟨(127), (0), (0), zT, H', ⟨Nat.le_refl _⟩, ⟨zK BK316⟩, ⟨zK BK320⟩, ⟨by refine zD ?_; refine blk_put (cs := #[.int .u64 0, .int .u64 0]) ?_ 1 _ rfl; refine zD ?_; refine blk_put (cs := #[.int .u64 0, .int .u64 0]) ?_ 0 _ rfl; refine zD ?_; exact BK321.out⟩, ⟨zB⟩⟩
      case round =>
       clear H'
       obtain ⟨x8_2, x322000_2, x322001_2, rfl, HA, HK2, BK316, BK320, BK321, HB⟩ := hrel
       cases gk with
       | zero => exact absurd HA.out (by simp [smaltoref01_Shift.l1])
       | succ k2 =>
        have H := HA.out
        clear HA
        simp only [smaltoref01_Shift.l1] at H
        by_cases c20 : x8_2 ≥ a1
        ·rw [if_pos c20] at H
         have c20b0 := decide_eq_true c20
         clear c20
         replace H := zO H
         obtain ⟨t322, A21, H⟩ := H
         try dsimp only at H
         replace H := zO H
         obtain ⟨⟨t323, t324⟩, A22, H⟩ := H
         try dsimp only at H
         have H' := Aside0.mk H
         clear H
         try go_wp2
         obtain ⟨BK316, BK320, BK321, HB⟩ := zA4 (blk_drew BK316.out) (blk_drew BK320.out) (blk_drew BK321.out) (below_drew1 HB.out)
         refine start_ (n := 6) (S := fun w' => w'.cell? ⟨gb321, 0, none⟩ = some (.int .u64 x322000_2) ∧ w'.cell? ⟨gb321, 1, none⟩ = some (.int .u64 x322001_2) ∧ w'.cell? ⟨gb320, 0, none⟩ = some (.int .u64 0) ∧ w'.cell? ⟨gb320, 1, none⟩ = some (.int .u64 t319)) (ds := [5]) #[false, false, false, false, false, false] (by kernel_rfl) rfl rfl ⟨(blk_cell BK321.out 0).trans rfl, (blk_cell BK321.out 1).trans rfl, (blk_cell BK320.out 0).trans rfl, (blk_cell BK320.out 1).trans rfl⟩ (fun hHeld => ?_)
         generalize wr.drew = w23 at BK316 BK320 BK321 HB hHeld ⊢
         refine pure_ (i := 2) (N := some 37) (v := ?_) (a' := ?_) #[false, false, true, false, false, false] rfl rfl (by kernel_rfl) (fun _ _ _ h => h) (Or.inl ⟨by rfl, ?_⟩) ?_ ?_
         rotate_left
         ·intro w'
          go_simp
          with_reducible rfl
         rotate_left
         ·simp only [Act.put, List.setIfInBounds_toArray, List.set_cons_zero, List.set_cons_succ, i64_w, i32_w]
          rfl
         refine take_ (i := 0) (N := some 35) (v := ?_) (a' := ?_) #[true, false, true, false, false, false] rfl rfl (by kernel_rfl) (fun _ _ _ h => h) (Or.inl ⟨by rfl, ?_⟩) hHeld ?_ ?_
         rotate_left
         ·rintro w' ⟨s0, s1, s2, s3⟩
          go_simp
          with_reducible rfl
         rotate_left
         ·simp only [Act.put, List.setIfInBounds_toArray, List.set_cons_zero, List.set_cons_succ, i64_w, i32_w]
          rfl
         refine take_ (i := 1) (N := some 36) (v := ?_) (a' := ?_) #[true, true, true, false, false, false] rfl rfl (by kernel_rfl) (fun _ _ _ h => h) (Or.inl ⟨by rfl, ?_⟩) hHeld ?_ ?_
         rotate_left
         ·rintro w' ⟨s0, s1, s2, s3⟩
          go_simp
          with_reducible rfl
         rotate_left
         ·simp only [Act.put, List.setIfInBounds_toArray, List.set_cons_zero, List.set_cons_succ, i64_w, i32_w]
          rfl
         refine one_ (i := 3) (N := some 38) #[true, true, true, true, false, false] rfl rfl (by kernel_rfl) (by decide) (fun K hK => ?_)
         refine goes_ Tryz.func89 (by kernel_rfl) rfl #[.agg #[.int .u64 0, .int .u64 t319], .int .i64 x8_2] (by rfl) rfl rfl zL ?_
         with_reducible refine (smaltoref01_Bit.calls 0 t319 x8_2 t322 _ A21.out).mono ?_
         rintro e w24 ⟨rfl, hb⟩
         refine ⟨_, rfl, ?_⟩
         obtain ⟨BK316, BK320, BK321, HB⟩ := zA4 (blk_below (zK BK316) hb) (blk_below (zK BK320) hb) (blk_below (zK BK321) hb) (below_step zB hb)
         (try clear hb)
         (try clear hb2)
         (try clear hk)
         (try clear hi)
         refine hK.out _ _ ⟨(blk_cell BK321.out 0).trans rfl, (blk_cell BK321.out 1).trans rfl, (blk_cell BK320.out 0).trans rfl, (blk_cell BK320.out 1).trans rfl⟩ (fun hHeld => ?_)
         clear hK K
         refine norm_ (a' := ?_) ?_ ?_
         rotate_left
         ·show Act.put _ (some 38) _ = _
          simp only [Act.put, List.setIfInBounds_toArray, List.set_cons_zero, List.set_cons_succ, i64_w, i32_w]
          rfl
         refine one_ (i := 4) (N := some 39) #[true, true, true, true, true, false] rfl rfl (by kernel_rfl) (by decide) (fun K hK => ?_)
         refine goes_ Tryz.func88 (by kernel_rfl) rfl #[.agg #[.int .u64 x322000_2, .int .u64 x322001_2], .int .u64 t322] (by rfl) rfl rfl zL ?_
         with_reducible refine (smaltoref01_Twice.calls x322000_2 x322001_2 t322 t323 t324 _ A22.out).mono ?_
         rintro e w25 ⟨rfl, hb⟩
         refine ⟨_, rfl, ?_⟩
         obtain ⟨BK316, BK320, BK321, HB⟩ := zA4 (blk_below (zK BK316) hb) (blk_below (zK BK320) hb) (blk_below (zK BK321) hb) (below_step zB hb)
         (try clear hb)
         (try clear hb2)
         (try clear hk)
         (try clear hi)
         refine hK.out _ _ ⟨(blk_cell BK321.out 0).trans rfl, (blk_cell BK321.out 1).trans rfl, (blk_cell BK320.out 0).trans rfl, (blk_cell BK320.out 1).trans rfl⟩ (fun hHeld => ?_)
         clear hK K
         refine norm_ (a' := ?_) ?_ ?_
         rotate_left
         ·show Act.put _ (some 39) _ = _
          simp only [Act.put, List.setIfInBounds_toArray, List.set_cons_zero, List.set_cons_succ, i64_w, i32_w]
          rfl
         refine last_ (i := 5) (N := none) #[true, true, true, true, true, true] rfl rfl (by kernel_rfl) (by decide) (fun K hK => ?_)
         have hs26 : w25.cell? ⟨gb321, 0, none⟩ = some (.int .u64 x322000_2) := (blk_cell BK321.out 0).trans rfl
         have hfs26 := blk_frozen BK321.out 0
         have hns26_0 := NB316_321.out
         have hns26_1 := NB320_321.out
         have hms26_0 := NB321_316.out
         have hms26_1 := NB321_320.out
         have hs27 : w25.cell? ⟨gb321, 1, none⟩ = some (.int .u64 x322001_2) := (blk_cell BK321.out 1).trans rfl
         have hfs27 := blk_frozen BK321.out 1
         have hns27_0 := NB316_321.out
         have hns27_1 := NB320_321.out
         have hms27_0 := NB321_316.out
         have hms27_1 := NB321_320.out
         refine skip_ (w1 := ?_) (by rfl) rfl ?_ ?_
         rotate_left
         ·go_simp
          rfl
         refine hK.out _ _ ?_
         clear hK K
         refine done_ (by kernel_rfl) ?_
         try go_wp2
         go_roundg k2
         case measure => have := HK1.out; have := HK2.out; omega
         case rel => exact ⟨(wrap64 (x8_2 - 1)), (t323), (t324), zT, H', ⟨by have := HK1.out; have := HK2.out; omega⟩, ⟨zK BK316⟩, ⟨zK BK320⟩, ⟨by refine zD ?_; refine blk_put (cs := #[.int .u64 t323, .int .u64 x322001_2]) ?_ 1 _ rfl; refine zD ?_; refine blk_put (cs := #[.int .u64 x322000_2, .int .u64 x322001_2]) ?_ 0 _ rfl; refine zD ?_; exact BK321.out⟩, ⟨zB⟩⟩
        ·rw [if_neg c20] at H
         have c20b0 := decide_eq_false c20
         clear c20
         have H' := Aside0.mk H
         clear H
         have hnb28 := NB320_316.out
         have hnc28 := NB316_320.out
         have hnb29 := NB320_321.out
         have hnc29 := NB321_320.out
         obtain ⟨_, _⟩ := zC2 BK320.out
         obtain ⟨_, _⟩ := zF2 BK320.out
         go_wp2_with (first | ((with_reducible refine gate_dst (N := 9) rfl ?_); refine box_event zR (N := 9) zR (cs := #[.int .u64 0, .int .u64 0]) (t := 113) zG ?_; intro gb325 hg w31 hbox hb; obtain ⟨BK316, BK320, BK321, HB, BK325, GW325, GE325, NB316_325, NB325_316, NB320_325, NB325_320, NB321_325, NB325_321⟩ := zA13 (blk_below (zK BK316) hb) (blk_below (zK BK320) hb) (blk_below (zK BK321) hb) (below_step zB hb) hbox (zg hg zB) (zg hg zB) (zl hg (zK BK316)) (zr hg (zK BK316)) (zl hg (zK BK320)) (zr hg (zK BK320)) (zl hg (zK BK321)) (zr hg (zK BK321)); clear hb hbox hg; have hnb32 := NB325_316.out; have hnc32 := NB316_325.out; have hnb33 := NB325_320.out; have hnc33 := NB320_325.out; have hnb34 := NB325_321.out; have hnc34 := NB321_325.out; obtain ⟨_, _⟩ := zC2 BK325.out; obtain ⟨_, _⟩ := zF2 BK325.out))
         try simp only [Act.put, List.setIfInBounds_toArray, List.set_cons_succ, List.set_cons_zero]
         go_loopg [10] k2 (fun kq v10 w' => ∃ (x10_3 : Int) (x326000_3 : Int) (x326001_3 : Int), v10 = .int .i64 x10_3 ∧ Aside0 (smaltoref01_Shift.l2 kq a0 x10_3 x317000_1 x317001_1 0 t319 x322000_2 x322001_2 x326000_3 x326001_3 = some r) ∧ Aside0 (kq ≤ k2) ∧ Aside0 (w'.heap[gb316]? = some (.cells #[.int .u64 x317000_1, .int .u64 x317001_1] 113 (0, 0))) ∧ Aside0 (w'.heap[gb320]? = some (.cells #[.int .u64 0, .int .u64 t319] 113 (0, 0))) ∧ Aside0 (w'.heap[gb321]? = some (.cells #[.int .u64 x322000_2, .int .u64 x322001_2] 113 (0, 0))) ∧ Aside0 (w'.heap[gb325]? = some (.cells #[.int .u64 x326000_3, .int .u64 x326001_3] 113 (0, 0))) ∧ Aside0 (Below w.heap.size w w'))
         case atStart => exact ⟨(a1), (0), (t319), zT, H', ⟨Nat.le_refl _⟩, ⟨zK BK316⟩, ⟨zK BK320⟩, ⟨zK BK321⟩, ⟨by refine zD ?_; refine blk_put (cs := #[.int .u64 0, .int .u64 0]) ?_ 1 _ rfl; refine zD ?_; refine blk_put (cs := #[.int .u64 0, .int .u64 0]) ?_ 0 _ rfl; refine zD ?_; exact BK325.out⟩, ⟨zB⟩⟩
         case round =>
          clear H'
          obtain ⟨x10_3, x326000_3, x326001_3, rfl, HA, HK3, BK316, BK320, BK321, BK325, HB⟩ := hrel
          cases gk with
          | zero => exact absurd HA.out (by simp [smaltoref01_Shift.l2])
          | succ k3 =>
           have H := HA.out
           clear HA
           simp only [smaltoref01_Shift.l2] at H
           by_cases c36 : x10_3 < 128
           ·rw [if_pos c36] at H
            have c36b0 := decide_eq_true c36
            clear c36
            replace H := zO H
            obtain ⟨t326, A37, H⟩ := H
            try dsimp only at H
            by_cases c38 : t326 = 1
            ·rw [if_pos c38] at H
             have c38b0 : (t326 == 1) = true := beq_iff_eq.mpr c38
             have c38b1 : (t326 != 1) = false := bne_eq_false_iff_eq.mpr c38
             clear c38
             have H' := Aside0.mk H
             clear H
             have hnb39 := NB320_316.out
             have hnc39 := NB316_320.out
             have hnb40 := NB320_321.out
             have hnc40 := NB321_320.out
             have hnb41 := NB320_325.out
             have hnc41 := NB325_320.out
             obtain ⟨_, _⟩ := zC2 BK320.out
             obtain ⟨_, _⟩ := zF2 BK320.out
             go_wp2_with (first | ((with_reducible refine gate_callee (f := 89) rfl ?_); refine goesL_ (some 48) rfl rfl Tryz.func89 (by kernel_rfl) rfl #[.agg #[.int .u64 0, .int .u64 t319], .int .i64 x10_3] rfl zL ?_; (with_reducible refine (smaltoref01_Bit.calls 0 t319 x10_3 t326 _ A37.out).mono ?_); rintro e w43 ⟨rfl, hb⟩; refine ⟨_, rfl, ?_⟩; obtain ⟨BK316, BK320, BK321, BK325, HB⟩ := zA5 (blk_below (zK BK316) hb) (blk_below (zK BK320) hb) (blk_below (zK BK321) hb) (blk_below (zK BK325) hb) (below_step zB hb); (try clear hb)) | ((with_reducible refine gate_dst (N := 11) rfl ?_); refine box_event zR (N := 11) zR (cs := #[.int .u64 0, .int .u64 0]) (t := 113) zG ?_; intro gb327 hg w44 hbox hb; have n0_ := Aside0.mk (blk_below (zK BK316) hb); have n1_ := Aside0.mk (blk_below (zK BK320) hb); have n2_ := Aside0.mk (blk_below (zK BK321) hb); have n3_ := Aside0.mk (blk_below (zK BK325) hb); have n4_ := Aside0.mk (below_step zB hb); have n5_ := Aside0.mk (hbox); have n6_ := Aside0.mk (zg hg zB); have n7_ := Aside0.mk (zg hg zB); have n8_ := Aside0.mk (zl hg (zK BK316)); have n9_ := Aside0.mk (zr hg (zK BK316)); have n10_ := Aside0.mk (zl hg (zK BK320)); have n11_ := Aside0.mk (zr hg (zK BK320)); have n12_ := Aside0.mk (zl hg (zK BK321)); have n13_ := Aside0.mk (zr hg (zK BK321)); have n14_ := Aside0.mk (zl hg (zK BK325)); have n15_ := Aside0.mk (zr hg (zK BK325)); clear BK316; clear BK320; clear BK321; clear BK325; clear HB; have BK316 := n0_; have BK320 := n1_; have BK321 := n2_; have BK325 := n3_; have HB := n4_; have BK327 := n5_; have GW327 := n6_; have GE327 := n7_; have NB316_327 := n8_; have NB327_316 := n9_; have NB320_327 := n10_; have NB327_320 := n11_; have NB321_327 := n12_; have NB327_321 := n13_; have NB325_327 := n14_; have NB327_325 := n15_; clear n0_ n1_ n2_ n3_ n4_ n5_ n6_ n7_ n8_ n9_ n10_ n11_ n12_ n13_ n14_ n15_; clear hb hbox hg; have hnb45 := NB327_316.out; have hnc45 := NB316_327.out; have hnb46 := NB327_320.out; have hnc46 := NB320_327.out; have hnb47 := NB327_321.out; have hnc47 := NB321_327.out; have hnb48 := NB327_325.out; have hnc48 := NB325_327.out; obtain ⟨_, _⟩ := zC2 BK327.out; obtain ⟨_, _⟩ := zF2 BK327.out))
             try simp only [Act.put, List.setIfInBounds_toArray, List.set_cons_succ, List.set_cons_zero]
             go_loopg [52] k3 (fun kq v52 w' => ∃ (x52_4 : Int) (x328000_4 : Int) (x328001_4 : Int), v52 = .int .i64 x52_4 ∧ Aside0 (smaltoref01_Shift.l3 kq a0 x10_3 x10_3 x52_4 x317000_1 x317001_1 0 t319 x322000_2 x322001_2 x326000_3 x326001_3 x328000_4 x328001_4 = some r) ∧ Aside0 (kq ≤ k3) ∧ Aside0 (w'.heap[gb316]? = some (.cells #[.int .u64 x317000_1, .int .u64 x317001_1] 113 (0, 0))) ∧ Aside0 (w'.heap[gb320]? = some (.cells #[.int .u64 0, .int .u64 t319] 113 (0, 0))) ∧ Aside0 (w'.heap[gb321]? = some (.cells #[.int .u64 x322000_2, .int .u64 x322001_2] 113 (0, 0))) ∧ Aside0 (w'.heap[gb325]? = some (.cells #[.int .u64 x326000_3, .int .u64 x326001_3] 113 (0, 0))) ∧ Aside0 (w'.heap[gb327]? = some (.cells #[.int .u64 x328000_4, .int .u64 x328001_4] 113 (0, 0))) ∧ Aside0 (Below w.heap.size w w'))
             case atStart => exact ⟨(0), (0), (1), zT, H', ⟨Nat.le_refl _⟩, ⟨zK BK316⟩, ⟨zK BK320⟩, ⟨zK BK321⟩, ⟨zK BK325⟩, ⟨by refine zD ?_; refine blk_put (cs := #[.int .u64 0, .int .u64 0]) ?_ 1 _ rfl; refine zD ?_; refine blk_put (cs := #[.int .u64 0, .int .u64 0]) ?_ 0 _ rfl; refine zD ?_; exact BK327.out⟩, ⟨zB⟩⟩
             case round =>
              clear H'
              obtain ⟨x52_4, x328000_4, x328001_4, rfl, HA, HK4, BK316, BK320, BK321, BK325, BK327, HB⟩ := hrel
              cases gk with
              | zero => exact absurd HA.out (by simp [smaltoref01_Shift.l3])
              | succ k4 =>
               have H := HA.out
               clear HA
               simp only [smaltoref01_Shift.l3] at H
               by_cases c50 : x52_4 < x10_3
               ·rw [if_pos c50] at H
                have c50b0 := decide_eq_true c50
                clear c50
                replace H := zO H
                obtain ⟨⟨t328, t329⟩, A51, H⟩ := H
                try dsimp only at H
                have H' := Aside0.mk H
                clear H
                have hnb52 := NB327_316.out
                have hnc52 := NB316_327.out
                have hnb53 := NB327_320.out
                have hnc53 := NB320_327.out
                have hnb54 := NB327_321.out
                have hnc54 := NB321_327.out
                have hnb55 := NB327_325.out
                have hnc55 := NB325_327.out
                obtain ⟨_, _⟩ := zC2 BK327.out
                obtain ⟨_, _⟩ := zF2 BK327.out
                go_wp2_with (first | ((with_reducible refine gate_callee (f := 88) rfl ?_); refine goesL_ (some 55) rfl rfl Tryz.func88 (by kernel_rfl) rfl #[.agg #[.int .u64 x328000_4, .int .u64 x328001_4], .int .u64 0] rfl zL ?_; (with_reducible refine (smaltoref01_Twice.calls x328000_4 x328001_4 0 t328 t329 _ A51.out).mono ?_); rintro e w57 ⟨rfl, hb⟩; refine ⟨_, rfl, ?_⟩; obtain ⟨BK316, BK320, BK321, BK325, BK327, HB⟩ := zA6 (blk_below (zK BK316) hb) (blk_below (zK BK320) hb) (blk_below (zK BK321) hb) (blk_below (zK BK325) hb) (blk_below (zK BK327) hb) (below_step zB hb); (try clear hb); obtain ⟨_, _⟩ := zC2 BK327.out; obtain ⟨_, _⟩ := zF2 BK327.out))
                go_roundg k4
                case measure => have := HK1.out; have := HK2.out; have := HK3.out; have := HK4.out; omega
                case rel => exact ⟨(wrap64 (x52_4 + 1)), (t328), (t329), zT, H', ⟨by have := HK1.out; have := HK2.out; have := HK3.out; have := HK4.out; omega⟩, ⟨zK BK316⟩, ⟨zK BK320⟩, ⟨zK BK321⟩, ⟨zK BK325⟩, ⟨by refine zD ?_; refine blk_put (cs := #[.int .u64 t328, .int .u64 x328001_4]) ?_ 1 _ rfl; refine zD ?_; refine blk_put (cs := #[.int .u64 x328000_4, .int .u64 x328001_4]) ?_ 0 _ rfl; refine zD ?_; exact BK327.out⟩, ⟨zB⟩⟩
               ·rw [if_neg c50] at H
                have c50b0 := decide_eq_false c50
                clear c50
                replace H := zO H
                obtain ⟨⟨t330, t331⟩, A59, H⟩ := H
                try dsimp only at H
                have H' := Aside0.mk H
                clear H
                have hnb60 := NB325_316.out
                have hnc60 := NB316_325.out
                have hnb61 := NB325_320.out
                have hnc61 := NB320_325.out
                have hnb62 := NB325_321.out
                have hnc62 := NB321_325.out
                have hnb63 := NB325_327.out
                have hnc63 := NB327_325.out
                obtain ⟨_, _⟩ := zC2 BK325.out
                obtain ⟨_, _⟩ := zF2 BK325.out
                have hnb65 := NB327_316.out
                have hnc65 := NB316_327.out
                have hnb66 := NB327_320.out
                have hnc66 := NB320_327.out
                have hnb67 := NB327_321.out
                have hnc67 := NB321_327.out
                obtain ⟨_, _⟩ := zC2 BK327.out
                obtain ⟨_, _⟩ := zF2 BK327.out
                go_wp2_with (first | ((with_reducible refine gate_callee (f := 90) rfl ?_); refine goesL_ (some 59) rfl rfl Tryz.func90 (by kernel_rfl) rfl #[.agg #[.int .u64 x326000_3, .int .u64 x326001_3], .agg #[.int .u64 x328000_4, .int .u64 x328001_4]] rfl zL ?_; (with_reducible refine (smaltoref01_Minus.calls x326000_3 x326001_3 x328000_4 x328001_4 t330 t331 _ A59.out).mono ?_); rintro e w69 ⟨rfl, hb⟩; refine ⟨_, rfl, ?_⟩; obtain ⟨BK316, BK320, BK321, BK325, BK327, HB⟩ := zA6 (blk_below (zK BK316) hb) (blk_below (zK BK320) hb) (blk_below (zK BK321) hb) (blk_below (zK BK325) hb) (blk_below (zK BK327) hb) (below_step zB hb); (try clear hb); obtain ⟨_, _⟩ := zC2 BK325.out; obtain ⟨_, _⟩ := zF2 BK325.out))
                go_roundg k4
                case measure => have := HK1.out; have := HK2.out; have := HK3.out; have := HK4.out; omega
                case rel => exact ⟨(wrap64 (x10_3 + 1)), (t330), (t331), zT, H', ⟨by have := HK1.out; have := HK2.out; have := HK3.out; have := HK4.out; omega⟩, ⟨zK BK316⟩, ⟨zK BK320⟩, ⟨zK BK321⟩, ⟨by refine zD ?_; refine blk_put (cs := #[.int .u64 t330, .int .u64 x326001_3]) ?_ 1 _ rfl; refine zD ?_; refine blk_put (cs := #[.int .u64 x326000_3, .int .u64 x326001_3]) ?_ 0 _ rfl; refine zD ?_; exact BK325.out⟩, ⟨zB⟩⟩
            ·rw [if_neg c38] at H
             have c38b0 : (t326 == 1) = false := beq_eq_false_iff_ne.mpr c38
             have c38b1 : (t326 != 1) = true := bne_iff_ne.mpr c38
             have H' := Aside0.mk H
             clear H
             have hnb71 := NB320_316.out
             have hnc71 := NB316_320.out
             have hnb72 := NB320_321.out
             have hnc72 := NB321_320.out
             have hnb73 := NB320_325.out
             have hnc73 := NB325_320.out
             obtain ⟨_, _⟩ := zC2 BK320.out
             obtain ⟨_, _⟩ := zF2 BK320.out
             go_wp2_with (first | ((with_reducible refine gate_callee (f := 89) rfl ?_); refine goesL_ (some 48) rfl rfl Tryz.func89 (by kernel_rfl) rfl #[.agg #[.int .u64 0, .int .u64 t319], .int .i64 x10_3] rfl zL ?_; (with_reducible refine (smaltoref01_Bit.calls 0 t319 x10_3 t326 _ A37.out).mono ?_); rintro e w75 ⟨rfl, hb⟩; refine ⟨_, rfl, ?_⟩; obtain ⟨BK316, BK320, BK321, BK325, HB⟩ := zA5 (blk_below (zK BK316) hb) (blk_below (zK BK320) hb) (blk_below (zK BK321) hb) (blk_below (zK BK325) hb) (below_step zB hb); (try clear hb)))
             go_roundg k3
             case measure => have := HK1.out; have := HK2.out; have := HK3.out; omega
             case rel => exact ⟨(wrap64 (x10_3 + 1)), (x326000_3), (x326001_3), zT, H', ⟨by have := HK1.out; have := HK2.out; have := HK3.out; omega⟩, ⟨zK BK316⟩, ⟨zK BK320⟩, ⟨zK BK321⟩, ⟨zK BK325⟩, ⟨zB⟩⟩
           ·rw [if_neg c36] at H
            have c36b0 := decide_eq_false c36
            clear c36
            replace H := zO H
            obtain ⟨t332, A76, H⟩ := H
            try dsimp only at H
            have HC77 := Aside0.mk H
            clear H
            have hnb78 := NB325_316.out
            have hnc78 := NB316_325.out
            have hnb79 := NB325_320.out
            have hnc79 := NB320_325.out
            have hnb80 := NB325_321.out
            have hnc80 := NB321_325.out
            obtain ⟨_, _⟩ := zC2 BK325.out
            obtain ⟨_, _⟩ := zF2 BK325.out
            have hnb82 := NB316_320.out
            have hnc82 := NB320_316.out
            have hnb83 := NB316_321.out
            have hnc83 := NB321_316.out
            obtain ⟨_, _⟩ := zC2 BK316.out
            obtain ⟨_, _⟩ := zF2 BK316.out
            go_upto_if 65 with (first | ((with_reducible refine gate_callee (f := 91) rfl ?_); refine goesL_ (some 62) rfl rfl Tryz.func91 (by kernel_rfl) rfl #[.agg #[.int .u64 x326000_3, .int .u64 x326001_3], .agg #[.int .u64 x317000_1, .int .u64 x317001_1]] rfl zL ?_; (with_reducible refine (smaltoref01_Less.calls x326000_3 x326001_3 x317000_1 x317001_1 t332 _ A76.out).mono ?_); rintro e w85 ⟨rfl, hb⟩; refine ⟨_, rfl, ?_⟩; obtain ⟨BK316, BK320, BK321, BK325, HB⟩ := zA5 (blk_below (zK BK316) hb) (blk_below (zK BK320) hb) (blk_below (zK BK321) hb) (blk_below (zK BK325) hb) (below_step zB hb); (try clear hb)))
            (try simp only [Act.put, List.setIfInBounds_toArray, List.set_cons_zero, List.set_cons_succ])
            go_cut [12] (fun v12 wc => ∃ (kq : Nat) (x12_76 : Bool), v12 = .bool x12_76 ∧ Aside0 (smaltoref01_Shift.j4 kq a0 x12_76 x322000_2 x322001_2 = some r) ∧ Aside0 (kq ≤ k3) ∧ Aside0 (wc.heap[gb316]? = some (.cells #[.int .u64 x317000_1, .int .u64 x317001_1] 113 (0, 0))) ∧ Aside0 (wc.heap[gb320]? = some (.cells #[.int .u64 0, .int .u64 t319] 113 (0, 0))) ∧ Aside0 (wc.heap[gb321]? = some (.cells #[.int .u64 x322000_2, .int .u64 x322001_2] 113 (0, 0))) ∧ Aside0 (wc.heap[gb325]? = some (.cells #[.int .u64 x326000_3, .int .u64 x326001_3] 113 (0, 0))) ∧ Aside0 (Below w.heap.size w wc))
            case first =>
             have H := HC77.out
             clear HC77
             by_cases c86 : a0 < 0
             ·rw [if_pos c86] at H
              have c86b0 := decide_eq_true c86
              clear c86
              (first | rw [c86b0] | (simp only [i64_w, i32_w]; rw [c86b0]) | skip)
              replace H := zO H
              obtain ⟨t333, A87, H⟩ := H
              try dsimp only at H
              have H' := Aside0.mk H
              clear H
              have hnb88 := NB316_320.out
              have hnc88 := NB320_316.out
              have hnb89 := NB316_321.out
              have hnc89 := NB321_316.out
              have hnb90 := NB316_325.out
              have hnc90 := NB325_316.out
              obtain ⟨_, _⟩ := zC2 BK316.out
              obtain ⟨_, _⟩ := zF2 BK316.out
              have hnb92 := NB325_320.out
              have hnc92 := NB320_325.out
              have hnb93 := NB325_321.out
              have hnc93 := NB321_325.out
              obtain ⟨_, _⟩ := zC2 BK325.out
              obtain ⟨_, _⟩ := zF2 BK325.out
              go_wp2_with (first | ((with_reducible refine gate_callee (f := 91) rfl ?_); refine goesL_ (some 68) rfl rfl Tryz.func91 (by kernel_rfl) rfl #[.agg #[.int .u64 x317000_1, .int .u64 x317001_1], .agg #[.int .u64 x326000_3, .int .u64 x326001_3]] rfl zL ?_; (with_reducible refine (smaltoref01_Less.calls x317000_1 x317001_1 x326000_3 x326001_3 t333 _ A87.out).mono ?_); rintro e w95 ⟨rfl, hb⟩; refine ⟨_, rfl, ?_⟩; obtain ⟨BK316, BK320, BK321, BK325, HB⟩ := zA5 (blk_below (zK BK316) hb) (blk_below (zK BK320) hb) (blk_below (zK BK321) hb) (blk_below (zK BK325) hb) (below_step zB hb); (try clear hb)))
              go_meet
              case rel => exact ⟨_, (t333), zT, H', ⟨by have := HK1.out; have := HK2.out; have := HK3.out; first | omega | exact Nat.le_refl _⟩, ⟨zK BK316⟩, ⟨zK BK320⟩, ⟨zK BK321⟩, ⟨zK BK325⟩, ⟨zB⟩⟩
             ·rw [if_neg c86] at H
              have c86b0 := decide_eq_false c86
              clear c86
              (first | rw [c86b0] | (simp only [i64_w, i32_w]; rw [c86b0]) | skip)
              have H' := Aside0.mk H
              clear H
              go_wp2
              go_meet
              case rel => exact ⟨_, (!t332), zT, H', ⟨by have := HK1.out; have := HK2.out; have := HK3.out; first | omega | exact Nat.le_refl _⟩, ⟨zK BK316⟩, ⟨zK BK320⟩, ⟨zK BK321⟩, ⟨zK BK325⟩, ⟨zB⟩⟩
            case rest =>
             clear HC77
             obtain ⟨kq, x12_76, rfl, HA, HJ76, BK316, BK320, BK321, BK325, HB⟩ := hcut
             cases kq with
             | zero => exact absurd HA.out (by simp [smaltoref01_Shift.j4])
             | succ kj76 =>
              have H := HA.out
              clear HA
              simp only [smaltoref01_Shift.j4] at H
              by_cases c96 : x12_76 = true
              ·subst c96
               rw [if_pos rfl] at H; try dsimp only at H
               replace H := zO H
               obtain ⟨⟨t334, t335⟩, A97, H⟩ := H
               try dsimp only at H
               replace H := zO H
               obtain ⟨t336, A98, H⟩ := H
               try dsimp only at H
               obtain rfl := Option.some.inj H
               have hnb99 := NB321_316.out
               have hnc99 := NB316_321.out
               have hnb100 := NB321_320.out
               have hnc100 := NB320_321.out
               have hnb101 := NB321_325.out
               have hnc101 := NB325_321.out
               obtain ⟨_, _⟩ := zC2 BK321.out
               obtain ⟨_, _⟩ := zF2 BK321.out
               go_wp2_with (first | ((with_reducible refine gate_callee (f := 86) rfl ?_); refine goesL_ (some 72) rfl rfl Tryz.func86 (by kernel_rfl) rfl #[.agg #[.int .u64 x322000_2, .int .u64 x322001_2], .agg #[.int .u64 0, .int .u64 1]] rfl zL ?_; (with_reducible refine (smaltoref01_Plus.calls x322000_2 x322001_2 0 1 t334 t335 _ A97.out).mono ?_); rintro e w103 ⟨rfl, hb⟩; refine ⟨_, rfl, ?_⟩; obtain ⟨BK316, BK320, BK321, BK325, HB⟩ := zA5 (blk_below (zK BK316) hb) (blk_below (zK BK320) hb) (blk_below (zK BK321) hb) (blk_below (zK BK325) hb) (below_step zB hb); (try clear hb); obtain ⟨_, _⟩ := zC2 BK321.out; obtain ⟨_, _⟩ := zF2 BK321.out) | ((with_reducible refine gate_callee (f := 87) rfl ?_); refine goesL_ (some 76) rfl rfl Tryz.func87 (by kernel_rfl) rfl #[.agg #[.int .u64 t334, .int .u64 t335], .bool (decide (a0 < 0))] rfl zL ?_; (with_reducible refine (smaltoref01_Hold.calls kj76 t334 t335 (decide (a0 < 0)) t336 _ A98.out).mono ?_); rintro e w105 ⟨rfl, hb⟩; refine ⟨_, rfl, ?_⟩; obtain ⟨BK316, BK320, BK321, BK325, HB⟩ := zA5 (blk_below (zK BK316) hb) (blk_below (zK BK320) hb) (blk_below (g := gb321) (o := .cells #[.int .u64 t334, .int .u64 t335] 113 (0, 0)) (by refine zD ?_; refine blk_put (cs := #[.int .u64 t334, .int .u64 x322001_2]) ?_ 1 _ rfl; refine zD ?_; refine blk_put (cs := #[.int .u64 x322000_2, .int .u64 x322001_2]) ?_ 0 _ rfl; refine zD ?_; exact BK321.out) hb) (blk_below (zK BK325) hb) (below_step zB hb); (try clear hb)))
               go_ret
               exact ⟨zS, zB⟩
              ·replace c96 := Bool.eq_false_iff.mpr c96
               subst c96
               rw [if_neg (show ¬ (false = true) by decide)] at H; try dsimp only at H
               replace H := zO H
               obtain ⟨t337, A106, H⟩ := H
               try dsimp only at H
               obtain rfl := Option.some.inj H
               have hnb107 := NB321_316.out
               have hnc107 := NB316_321.out
               have hnb108 := NB321_320.out
               have hnc108 := NB320_321.out
               have hnb109 := NB321_325.out
               have hnc109 := NB325_321.out
               obtain ⟨_, _⟩ := zC2 BK321.out
               obtain ⟨_, _⟩ := zF2 BK321.out
               go_wp2_with (first | ((with_reducible refine gate_callee (f := 87) rfl ?_); refine goesL_ (some 76) rfl rfl Tryz.func87 (by kernel_rfl) rfl #[.agg #[.int .u64 x322000_2, .int .u64 x322001_2], .bool (decide (a0 < 0))] rfl zL ?_; (with_reducible refine (smaltoref01_Hold.calls kj76 x322000_2 x322001_2 (decide (a0 < 0)) t337 _ A106.out).mono ?_); rintro e w111 ⟨rfl, hb⟩; refine ⟨_, rfl, ?_⟩; obtain ⟨BK316, BK320, BK321, BK325, HB⟩ := zA5 (blk_below (zK BK316) hb) (blk_below (zK BK320) hb) (blk_below (zK BK321) hb) (blk_below (zK BK325) hb) (below_step zB hb); (try clear hb)))
               go_ret
               exact ⟨zS, zB⟩
end Go.Proofs.YtebipmdopdogkaaGreatDoor.QA

namespace Go.Proofs.YtebipmdopdogkaaGreatDoor.QA
open Go.Proofs.YtebipmdopdogkaaGreatDoor.T
open Go.RowKit Go.Proofs.YtebipmdopdogkaaGreatDoorW.PrintWords Go.Proofs.YtebipmdopdogkaaGreatDoorW.PrintLast Go.Proofs.YtebipmdopdogkaaGreatDoorW.PrintMore
attribute [local go_sem] ext_call max2_int min2_int max_two min_two
set_option linter.unusedVariables false
set_option linter.unusedSimpArgs false
def smaltoref04_May.f (a0 a1 : Int) : Option (Bool) := if a1 < 1 then (some false) else (if a1 > 1048576 then (some false) else (if a0 ≤ (wrap64 (4 * a1)) then (some (decide (a0 ≥ (wrap64 ((-4) * a1))))) else (some false)))
set_option maxHeartbeats 8000000 in
set_option maxRecDepth 100000 in
theorem smaltoref04_May.calls (a0 a1 : Int) (r : Bool) (w : World) (h : smaltoref04_May.f a0 a1 = some r) :
  Calls Tryz.prog 112 #[.int .i64 a0, .int .i64 a1] w fun e w' => e = .returned (.bool r) ∧ Drawn0 w w' := by
 have H := h
 clear h
 unfold smaltoref04_May.f at H
 by_cases c3 : a1 < 1
 ·rw [if_pos c3] at H
  have c3b0 := decide_eq_true c3
  clear c3
  obtain rfl := Option.some.inj H
  go_enter Tryz.func112, Tryz.ntmps112
  go_wp2
  go_ret
  exact ⟨zT, zW⟩
 ·rw [if_neg c3] at H
  have c3b0 := decide_eq_false c3
  clear c3
  by_cases c4 : a1 > 1048576
  ·rw [if_pos c4] at H
   have c4b0 := decide_eq_true c4
   clear c4
   obtain rfl := Option.some.inj H
   go_enter Tryz.func112, Tryz.ntmps112
   go_wp2
   go_ret
   exact ⟨zT, zW⟩
  ·rw [if_neg c4] at H
   have c4b0 := decide_eq_false c4
   clear c4
   by_cases c5 : a0 ≤ (wrap64 (4 * a1))
   ·rw [if_pos c5] at H
    have c5b0 := decide_eq_true c5
    clear c5
    obtain rfl := Option.some.inj H
    go_enter Tryz.func112, Tryz.ntmps112
    go_wp2
    go_ret
    exact ⟨zT, zW⟩
   ·rw [if_neg c5] at H
    have c5b0 := decide_eq_false c5
    clear c5
    obtain rfl := Option.some.inj H
    go_enter Tryz.func112, Tryz.ntmps112
    go_wp2
    go_ret
    exact ⟨zT, zW⟩
end Go.Proofs.YtebipmdopdogkaaGreatDoor.QA

namespace Go.Proofs.YtebipmdopdogkaaGreatDoor.QA
open Go.Proofs.YtebipmdopdogkaaGreatDoor.T
open Go.RowKit Go.Proofs.YtebipmdopdogkaaGreatDoorW.PrintWords Go.Proofs.YtebipmdopdogkaaGreatDoorW.PrintLast Go.Proofs.YtebipmdopdogkaaGreatDoorW.PrintMore
attribute [local go_sem] ext_call max2_int min2_int max_two min_two
set_option linter.unusedVariables false
set_option linter.unusedSimpArgs false
mutual
def smaltoref02_MulShift.j0 : Nat → Int → Int → Int → Option (Int)
 | 0, _, _, _ => none
 | k + 1, x0, x1, x2 => if x2 > 127 then (some 0) else ((smaltoref01_Size.f x0).bind fun t338 => ((smaltoref01_Size.f x1).bind fun t339 => ((smaltoref01_Times.f k t338 t339).bind fun bt340 => (if x2 = 0 then ((smaltoref01_Hold.f k bt340.1 bt340.2 ((decide (x0 < 0)) != (decide (x1 < 0)))).bind fun t343 => (some t343)) else (smaltoref02_MulShift.l0 k x2 ((decide (x0 < 0)) != (decide (x1 < 0))) 127 bt340.1 bt340.2 0 0)))))
def smaltoref02_MulShift.l0 : Nat → Int → Bool → Int → Int → Int → Int → Int → Option (Int)
 | 0, _, _, _, _, _, _, _ => none
 | k + 1, x2, x7, x10, x343000, x343001, x345000, x345001 => if x10 ≥ x2 then ((smaltoref01_Bit.f x343000 x343001 x10).bind fun t345 => ((smaltoref01_Twice.f x345000 x345001 t345).bind fun bt346 => (smaltoref02_MulShift.l0 k x2 x7 (wrap64 (x10 - 1)) x343000 x343001 bt346.1 bt346.2))) else (smaltoref02_MulShift.l1 k x2 x7 false (wrap64 (x2 - 1)) 0 x343000 x343001 x345000 x345001)
def smaltoref02_MulShift.l1 : Nat → Int → Bool → Bool → Int → Int → Int → Int → Int → Int → Option (Int)
 | 0, _, _, _, _, _, _, _, _, _ => none
 | k + 1, x2, x7, x11, x44, x45, x343000, x343001, x345000, x345001 => if x45 < x44 then (if x11 = true then (smaltoref02_MulShift.l1 k x2 x7 true x44 (wrap64 (x45 + 1)) x343000 x343001 x345000 x345001) else ((smaltoref01_Bit.f x343000 x343001 x45).bind fun t348 => (smaltoref02_MulShift.l1 k x2 x7 (t348 == 1) x44 (wrap64 (x45 + 1)) x343000 x343001 x345000 x345001))) else ((smaltoref01_Bit.f x343000 x343001 (wrap64 (x2 - 1))).bind fun t349 => (if t349 = 1 then (if x11 = true then (smaltoref02_MulShift.j3 k x7 true x345000 x345001) else (smaltoref02_MulShift.j3 k x7 (!x7) x345000 x345001)) else (smaltoref02_MulShift.j3 k x7 false x345000 x345001)))
def smaltoref02_MulShift.j3 : Nat → Bool → Bool → Int → Int → Option (Int)
 | 0, _, _, _, _ => none
 | k + 1, x7, x67, x345000, x345001 => if x67 = true then ((smaltoref01_Plus.f x345000 x345001 0 1).bind fun bt350 => ((smaltoref01_Hold.f k bt350.1 bt350.2 x7).bind fun t352 => (some t352))) else ((smaltoref01_Hold.f k x345000 x345001 x7).bind fun t353 => (some t353))
end
def smaltoref02_MulShift.f (k : Nat) (a0 a1 a2 : Int) : Option (Int) := if a2 < 0 then (smaltoref02_MulShift.j0 k a0 a1 0) else (smaltoref02_MulShift.j0 k a0 a1 a2)
set_option maxHeartbeats 8000000 in
set_option maxRecDepth 100000 in
theorem smaltoref02_MulShift.calls (k : Nat) (a0 a1 a2 r : Int) (w : World) (h : smaltoref02_MulShift.f k a0 a1 a2 = some r) :
  Calls Tryz.prog 113 #[.int .i64 a0, .int .i64 a1, .int .i64 a2] w fun e w' => e = .returned (.int .i64 r) ∧ Below w.heap.size w w' := by
 have hu113 := Tryz.underlying113
 have HB := Aside0.mk (Below.refl w.heap.size w)
 have H := h
 clear h
 unfold smaltoref02_MulShift.f at H
 have HC4 := Aside0.mk H
 clear H
 go_enter Tryz.func113, Tryz.ntmps113
 go_upto_if 14 with (fail)
 go_cut [2] (fun v2 wc => ∃ (kq : Nat) (x2_3 : Int), v2 = .int .i64 x2_3 ∧ Aside0 (smaltoref02_MulShift.j0 kq a0 a1 x2_3 = some r) ∧ Aside0 (kq ≤ k) ∧ Aside0 (Below w.heap.size w wc))
 case first =>
  have H := HC4.out
  clear HC4
  by_cases c5 : a2 < 0
  ·rw [if_pos c5] at H
   have c5b0 := decide_eq_true c5
   clear c5
   (first | rw [c5b0] | (simp only [i64_w, i32_w]; rw [c5b0]) | skip)
   have H' := Aside0.mk H
   clear H
   go_wp2
   go_meet
   case rel => exact ⟨_, (0), zT, H', ⟨by first | omega | exact Nat.le_refl _⟩, ⟨zB⟩⟩
  ·rw [if_neg c5] at H
   have c5b0 := decide_eq_false c5
   clear c5
   (first | rw [c5b0] | (simp only [i64_w, i32_w]; rw [c5b0]) | skip)
   have H' := Aside0.mk H
   clear H
   go_wp2
   go_meet
   case rel => exact ⟨_, (a2), zT, H', ⟨by first | omega | exact Nat.le_refl _⟩, ⟨zB⟩⟩
 case rest =>
  clear HC4
  obtain ⟨kq, x2_3, rfl, HA, HJ3, HB⟩ := hcut
  cases kq with
  | zero => exact absurd HA.out (by simp [smaltoref02_MulShift.j0])
  | succ kj3 =>
   have H := HA.out
   clear HA
   simp only [smaltoref02_MulShift.j0] at H
   by_cases c6 : x2_3 > 127
   ·rw [if_pos c6] at H
    have c6b0 := decide_eq_true c6
    clear c6
    obtain rfl := Option.some.inj H
    go_wp2
    go_ret
    exact ⟨zS, zB⟩
   ·rw [if_neg c6] at H
    have c6b0 := decide_eq_false c6
    clear c6
    replace H := zO H
    obtain ⟨t338, A7, H⟩ := H
    try dsimp only at H
    replace H := zO H
    obtain ⟨t339, A8, H⟩ := H
    try dsimp only at H
    replace H := zO H
    obtain ⟨⟨t340, t341⟩, A9, H⟩ := H
    try dsimp only at H
    by_cases c10 : x2_3 = 0
    ·rw [if_pos c10] at H
     have c10b0 : (x2_3 == 0) = true := beq_iff_eq.mpr c10
     have c10b1 : (x2_3 != 0) = false := bne_eq_false_iff_eq.mpr c10
     clear c10
     replace H := zO H
     obtain ⟨t343, A11, H⟩ := H
     try dsimp only at H
     obtain rfl := Option.some.inj H
     go_wp2_with (first | ((with_reducible refine gate_callee (f := 67) rfl ?_); refine goesL_ (some 23) rfl rfl Tryz.func67 (by kernel_rfl) rfl #[.int .i64 a0] rfl zL ?_; (with_reducible refine (smaltoref01_Size.calls a0 t338 _ A7.out).mono ?_); rintro e w' ⟨rfl, ⟨nd, rfl⟩⟩; refine ⟨_, rfl, ?_⟩; (try (rw [drewN_self wc]; generalize hq_ : World.drewN wc _ = wc; have n0_ : Aside0 (Below w.heap.size w wc) := ⟨by rw [← hq_]; exact zB⟩; clear HB hq_; have HB := n0_; clear n0_))) | ((with_reducible refine gate_callee (f := 67) rfl ?_); refine goesL_ (some 25) rfl rfl Tryz.func67 (by kernel_rfl) rfl #[.int .i64 a1] rfl zL ?_; (with_reducible refine (smaltoref01_Size.calls a1 t339 _ A8.out).mono ?_); rintro e w' ⟨rfl, ⟨nd, rfl⟩⟩; refine ⟨_, rfl, ?_⟩; (try (rw [drewN_self wc]; generalize hq_ : World.drewN wc _ = wc; have n0_ : Aside0 (Below w.heap.size w wc) := ⟨by rw [← hq_]; exact zB⟩; clear HB hq_; have HB := n0_; clear n0_))) | ((with_reducible refine gate_callee (f := 66) rfl ?_); refine goesL_ (some 26) rfl rfl Tryz.func66 (by kernel_rfl) rfl #[.int .u64 t338, .int .u64 t339] rfl zL ?_; (with_reducible refine (smaltoref01_Times.calls kj3 t338 t339 t340 t341 _ A9.out).mono ?_); rintro e w12 ⟨rfl, hb⟩; refine ⟨_, rfl, ?_⟩; replace HB := Aside0.mk (below_step zB hb); (try clear hb)) | ((with_reducible refine gate_dst (N := 8) rfl ?_); refine box_event zR (N := 8) zR (cs := #[.int .u64 0, .int .u64 0]) (t := 113) zG ?_; intro gb342 hg w13 hbox hb; obtain ⟨HB, BK342, GW342, GE342⟩ := zA4 (below_step zB hb) hbox (zg hg zB) (zg hg zB); clear hb hbox hg; obtain ⟨_, _⟩ := zC2 BK342.out; obtain ⟨_, _⟩ := zF2 BK342.out) | ((with_reducible refine gate_callee (f := 87) rfl ?_); refine goesL_ (some 31) rfl rfl Tryz.func87 (by kernel_rfl) rfl #[.agg #[.int .u64 t340, .int .u64 t341], .bool ((decide (a0 < 0)) != (decide (a1 < 0)))] rfl zL ?_; (with_reducible refine (smaltoref01_Hold.calls kj3 t340 t341 ((decide (a0 < 0)) != (decide (a1 < 0))) t343 _ A11.out).mono ?_); rintro e w15 ⟨rfl, hb⟩; refine ⟨_, rfl, ?_⟩; obtain ⟨BK342, HB⟩ := zA2 (blk_below (g := gb342) (o := .cells #[.int .u64 t340, .int .u64 t341] 113 (0, 0)) (by refine zD ?_; refine blk_put (cs := #[.int .u64 t340, .int .u64 0]) ?_ 1 _ rfl; refine zD ?_; refine blk_put (cs := #[.int .u64 0, .int .u64 0]) ?_ 0 _ rfl; refine zD ?_; exact BK342.out) hb) (below_step zB hb); (try clear hb)))
     go_ret
     exact ⟨zS, zB⟩
    ·rw [if_neg c10] at H
     have c10b0 : (x2_3 == 0) = false := beq_eq_false_iff_ne.mpr c10
     have c10b1 : (x2_3 != 0) = true := bne_iff_ne.mpr c10
     have H' := Aside0.mk H
     clear H
     go_wp2_with (first | ((with_reducible refine gate_callee (f := 67) rfl ?_); refine goesL_ (some 23) rfl rfl Tryz.func67 (by kernel_rfl) rfl #[.int .i64 a0] rfl zL ?_; (with_reducible refine (smaltoref01_Size.calls a0 t338 _ A7.out).mono ?_); rintro e w' ⟨rfl, ⟨nd, rfl⟩⟩; refine ⟨_, rfl, ?_⟩; (try (rw [drewN_self wc]; generalize hq_ : World.drewN wc _ = wc; have n0_ : Aside0 (Below w.heap.size w wc) := ⟨by rw [← hq_]; exact zB⟩; clear HB hq_; have HB := n0_; clear n0_))) | ((with_reducible refine gate_callee (f := 67) rfl ?_); refine goesL_ (some 25) rfl rfl Tryz.func67 (by kernel_rfl) rfl #[.int .i64 a1] rfl zL ?_; (with_reducible refine (smaltoref01_Size.calls a1 t339 _ A8.out).mono ?_); rintro e w' ⟨rfl, ⟨nd, rfl⟩⟩; refine ⟨_, rfl, ?_⟩; (try (rw [drewN_self wc]; generalize hq_ : World.drewN wc _ = wc; have n0_ : Aside0 (Below w.heap.size w wc) := ⟨by rw [← hq_]; exact zB⟩; clear HB hq_; have HB := n0_; clear n0_))) | ((with_reducible refine gate_callee (f := 66) rfl ?_); refine goesL_ (some 26) rfl rfl Tryz.func66 (by kernel_rfl) rfl #[.int .u64 t338, .int .u64 t339] rfl zL ?_; (with_reducible refine (smaltoref01_Times.calls kj3 t338 t339 t340 t341 _ A9.out).mono ?_); rintro e w16 ⟨rfl, hb⟩; refine ⟨_, rfl, ?_⟩; replace HB := Aside0.mk (below_step zB hb); (try clear hb)) | ((with_reducible refine gate_dst (N := 8) rfl ?_); refine box_event zR (N := 8) zR (cs := #[.int .u64 0, .int .u64 0]) (t := 113) zG ?_; intro gb342 hg w17 hbox hb; obtain ⟨HB, BK342, GW342, GE342⟩ := zA4 (below_step zB hb) hbox (zg hg zB) (zg hg zB); clear hb hbox hg; obtain ⟨_, _⟩ := zC2 BK342.out; obtain ⟨_, _⟩ := zF2 BK342.out) | ((with_reducible refine gate_dst (N := 9) rfl ?_); refine box_event zR (N := 9) zR (cs := #[.int .u64 0, .int .u64 0]) (t := 113) zG ?_; intro gb344 hg w19 hbox hb; obtain ⟨BK342, HB, BK344, GW344, GE344, NB342_344, NB344_342⟩ := zA7 (blk_below (g := gb342) (o := .cells #[.int .u64 t340, .int .u64 t341] 113 (0, 0)) (by refine zD ?_; refine blk_put (cs := #[.int .u64 t340, .int .u64 0]) ?_ 1 _ rfl; refine zD ?_; refine blk_put (cs := #[.int .u64 0, .int .u64 0]) ?_ 0 _ rfl; refine zD ?_; exact BK342.out) hb) (below_step zB hb) hbox (zg hg zB) (zg hg zB) ((by rw [hg]; exact Nat.ne_of_lt (blk_lt (g := gb342) (o := .cells #[.int .u64 t340, .int .u64 t341] 113 (0, 0)) (by refine zD ?_; refine blk_put (cs := #[.int .u64 t340, .int .u64 0]) ?_ 1 _ rfl; refine zD ?_; refine blk_put (cs := #[.int .u64 0, .int .u64 0]) ?_ 0 _ rfl; refine zD ?_; exact BK342.out)) : gb342 ≠ gb344)) ((by rw [hg]; exact Nat.ne_of_gt (blk_lt (g := gb342) (o := .cells #[.int .u64 t340, .int .u64 t341] 113 (0, 0)) (by refine zD ?_; refine blk_put (cs := #[.int .u64 t340, .int .u64 0]) ?_ 1 _ rfl; refine zD ?_; refine blk_put (cs := #[.int .u64 0, .int .u64 0]) ?_ 0 _ rfl; refine zD ?_; exact BK342.out)) : gb344 ≠ gb342)); clear hb hbox hg; have hnb20 := NB344_342.out; have hnc20 := NB342_344.out; obtain ⟨_, _⟩ := zC2 BK344.out; obtain ⟨_, _⟩ := zF2 BK344.out))
     go_loopg [10] kj3 (fun kq v10 w' => ∃ (x10_2 : Int) (x345000_2 : Int) (x345001_2 : Int), v10 = .int .i64 x10_2 ∧ Aside0 (smaltoref02_MulShift.l0 kq x2_3 ((decide (a0 < 0)) != (decide (a1 < 0))) x10_2 t340 t341 x345000_2 x345001_2 = some r) ∧ Aside0 (kq ≤ kj3) ∧ Aside0 (w'.heap[gb342]? = some (.cells #[.int .u64 t340, .int .u64 t341] 113 (0, 0))) ∧ Aside0 (w'.heap[gb344]? = some (.cells #[.int .u64 x345000_2, .int .u64 x345001_2] 113 (0, 0))) ∧ Aside0 (Below w.heap.size w w'))
     case atStart => exact ⟨(127), (0), (0), zT, H', ⟨Nat.le_refl _⟩, ⟨zK BK342⟩, ⟨by refine zD ?_; refine blk_put (cs := #[.int .u64 0, .int .u64 0]) ?_ 1 _ rfl; refine zD ?_; refine blk_put (cs := #[.int .u64 0, .int .u64 0]) ?_ 0 _ rfl; refine zD ?_; exact BK344.out⟩, ⟨zB⟩⟩
     case round =>
      clear H'
      obtain ⟨x10_2, x345000_2, x345001_2, rfl, HA, HK2, BK342, BK344, HB⟩ := hrel
      cases gk with
      | zero => exact absurd HA.out (by simp [smaltoref02_MulShift.l0])
      | succ k2 =>
       have H := HA.out
       clear HA
       simp only [smaltoref02_MulShift.l0] at H
       by_cases c22 : x10_2 ≥ x2_3
       ·rw [if_pos c22] at H
        have c22b0 := decide_eq_true c22
        clear c22
        replace H := zO H
        obtain ⟨t345, A23, H⟩ := H
        try dsimp only at H
        replace H := zO H
        obtain ⟨⟨t346, t347⟩, A24, H⟩ := H
        try dsimp only at H
        have H' := Aside0.mk H
        clear H
        try go_wp2
        obtain ⟨BK342, BK344, HB⟩ := zA3 (blk_drew BK342.out) (blk_drew BK344.out) (below_drew1 HB.out)
        refine start_ (n := 6) (S := fun w' => w'.cell? ⟨gb344, 0, none⟩ = some (.int .u64 x345000_2) ∧ w'.cell? ⟨gb344, 1, none⟩ = some (.int .u64 x345001_2) ∧ w'.cell? ⟨gb342, 0, none⟩ = some (.int .u64 t340) ∧ w'.cell? ⟨gb342, 1, none⟩ = some (.int .u64 t341)) (ds := [5]) #[false, false, false, false, false, false] (by kernel_rfl) rfl rfl ⟨(blk_cell BK344.out 0).trans rfl, (blk_cell BK344.out 1).trans rfl, (blk_cell BK342.out 0).trans rfl, (blk_cell BK342.out 1).trans rfl⟩ (fun hHeld => ?_)
        generalize wr.drew = w25 at BK342 BK344 HB hHeld ⊢
        refine pure_ (i := 2) (N := some 40) (v := ?_) (a' := ?_) #[false, false, true, false, false, false] rfl rfl (by kernel_rfl) (fun _ _ _ h => h) (Or.inl ⟨by rfl, ?_⟩) ?_ ?_
        rotate_left
        ·intro w'
         go_simp
         with_reducible rfl
        rotate_left
        ·simp only [Act.put, List.setIfInBounds_toArray, List.set_cons_zero, List.set_cons_succ, i64_w, i32_w]
         rfl
        refine take_ (i := 0) (N := some 38) (v := ?_) (a' := ?_) #[true, false, true, false, false, false] rfl rfl (by kernel_rfl) (fun _ _ _ h => h) (Or.inl ⟨by rfl, ?_⟩) hHeld ?_ ?_
        rotate_left
        ·rintro w' ⟨s0, s1, s2, s3⟩
         go_simp
         with_reducible rfl
        rotate_left
        ·simp only [Act.put, List.setIfInBounds_toArray, List.set_cons_zero, List.set_cons_succ, i64_w, i32_w]
         rfl
        refine take_ (i := 1) (N := some 39) (v := ?_) (a' := ?_) #[true, true, true, false, false, false] rfl rfl (by kernel_rfl) (fun _ _ _ h => h) (Or.inl ⟨by rfl, ?_⟩) hHeld ?_ ?_
        rotate_left
        ·rintro w' ⟨s0, s1, s2, s3⟩
         go_simp
         with_reducible rfl
        rotate_left
        ·simp only [Act.put, List.setIfInBounds_toArray, List.set_cons_zero, List.set_cons_succ, i64_w, i32_w]
         rfl
        refine one_ (i := 3) (N := some 41) #[true, true, true, true, false, false] rfl rfl (by kernel_rfl) (by decide) (fun K hK => ?_)
        refine goes_ Tryz.func89 (by kernel_rfl) rfl #[.agg #[.int .u64 t340, .int .u64 t341], .int .i64 x10_2] (by rfl) rfl rfl zL ?_
        with_reducible refine (smaltoref01_Bit.calls t340 t341 x10_2 t345 _ A23.out).mono ?_
        rintro e w26 ⟨rfl, hb⟩
        refine ⟨_, rfl, ?_⟩
        obtain ⟨BK342, BK344, HB⟩ := zA3 (blk_below (zK BK342) hb) (blk_below (zK BK344) hb) (below_step zB hb)
        (try clear hb)
        (try clear hb2)
        (try clear hk)
        (try clear hi)
        refine hK.out _ _ ⟨(blk_cell BK344.out 0).trans rfl, (blk_cell BK344.out 1).trans rfl, (blk_cell BK342.out 0).trans rfl, (blk_cell BK342.out 1).trans rfl⟩ (fun hHeld => ?_)
        clear hK K
        refine norm_ (a' := ?_) ?_ ?_
        rotate_left
        ·show Act.put _ (some 41) _ = _
         simp only [Act.put, List.setIfInBounds_toArray, List.set_cons_zero, List.set_cons_succ, i64_w, i32_w]
         rfl
        refine one_ (i := 4) (N := some 42) #[true, true, true, true, true, false] rfl rfl (by kernel_rfl) (by decide) (fun K hK => ?_)
        refine goes_ Tryz.func88 (by kernel_rfl) rfl #[.agg #[.int .u64 x345000_2, .int .u64 x345001_2], .int .u64 t345] (by rfl) rfl rfl zL ?_
        with_reducible refine (smaltoref01_Twice.calls x345000_2 x345001_2 t345 t346 t347 _ A24.out).mono ?_
        rintro e w27 ⟨rfl, hb⟩
        refine ⟨_, rfl, ?_⟩
        obtain ⟨BK342, BK344, HB⟩ := zA3 (blk_below (zK BK342) hb) (blk_below (zK BK344) hb) (below_step zB hb)
        (try clear hb)
        (try clear hb2)
        (try clear hk)
        (try clear hi)
        refine hK.out _ _ ⟨(blk_cell BK344.out 0).trans rfl, (blk_cell BK344.out 1).trans rfl, (blk_cell BK342.out 0).trans rfl, (blk_cell BK342.out 1).trans rfl⟩ (fun hHeld => ?_)
        clear hK K
        refine norm_ (a' := ?_) ?_ ?_
        rotate_left
        ·show Act.put _ (some 42) _ = _
         simp only [Act.put, List.setIfInBounds_toArray, List.set_cons_zero, List.set_cons_succ, i64_w, i32_w]
         rfl
        refine last_ (i := 5) (N := none) #[true, true, true, true, true, true] rfl rfl (by kernel_rfl) (by decide) (fun K hK => ?_)
        have hs28 : w27.cell? ⟨gb344, 0, none⟩ = some (.int .u64 x345000_2) := (blk_cell BK344.out 0).trans rfl
        have hfs28 := blk_frozen BK344.out 0
        have hns28_0 := NB342_344.out
        have hms28_0 := NB344_342.out
        have hs29 : w27.cell? ⟨gb344, 1, none⟩ = some (.int .u64 x345001_2) := (blk_cell BK344.out 1).trans rfl
        have hfs29 := blk_frozen BK344.out 1
        have hns29_0 := NB342_344.out
        have hms29_0 := NB344_342.out
        refine skip_ (w1 := ?_) (by rfl) rfl ?_ ?_
        rotate_left
        ·go_simp
         rfl
        refine hK.out _ _ ?_
        clear hK K
        refine done_ (by kernel_rfl) ?_
        try go_wp2
        go_roundg k2
        case measure => have := HJ3.out; have := HK2.out; omega
        case rel => exact ⟨(wrap64 (x10_2 - 1)), (t346), (t347), zT, H', ⟨by have := HJ3.out; have := HK2.out; omega⟩, ⟨zK BK342⟩, ⟨by refine zD ?_; refine blk_put (cs := #[.int .u64 t346, .int .u64 x345001_2]) ?_ 1 _ rfl; refine zD ?_; refine blk_put (cs := #[.int .u64 x345000_2, .int .u64 x345001_2]) ?_ 0 _ rfl; refine zD ?_; exact BK344.out⟩, ⟨zB⟩⟩
       ·rw [if_neg c22] at H
        have c22b0 := decide_eq_false c22
        clear c22
        have H' := Aside0.mk H
        clear H
        go_wp2
        try simp only [Act.put, List.setIfInBounds_toArray, List.set_cons_succ, List.set_cons_zero]
        go_loopg [11, 45] k2 (fun kq v11 v45 w' => ∃ (x11_3 : Bool) (x45_3 : Int), v11 = .bool x11_3 ∧ v45 = .int .i64 x45_3 ∧ Aside0 (smaltoref02_MulShift.l1 kq x2_3 ((decide (a0 < 0)) != (decide (a1 < 0))) x11_3 (wrap64 (x2_3 - 1)) x45_3 t340 t341 x345000_2 x345001_2 = some r) ∧ Aside0 (kq ≤ k2) ∧ Aside0 (w'.heap[gb342]? = some (.cells #[.int .u64 t340, .int .u64 t341] 113 (0, 0))) ∧ Aside0 (w'.heap[gb344]? = some (.cells #[.int .u64 x345000_2, .int .u64 x345001_2] 113 (0, 0))) ∧ Aside0 (Below w.heap.size w w'))
        case atStart => exact ⟨(false), (0), zT, zT, H', ⟨Nat.le_refl _⟩, ⟨zK BK342⟩, ⟨zK BK344⟩, ⟨zB⟩⟩
        case round =>
         clear H'
         obtain ⟨x11_3, x45_3, rfl, rfl, HA, HK3, BK342, BK344, HB⟩ := hrel
         cases gk with
         | zero => exact absurd HA.out (by simp [smaltoref02_MulShift.l1])
         | succ k3 =>
          have H := HA.out
          clear HA
          simp only [smaltoref02_MulShift.l1] at H
          by_cases c30 : x45_3 < (wrap64 (x2_3 - 1))
          ·rw [if_pos c30] at H
           have c30b0 := decide_eq_true c30
           clear c30
           by_cases c31 : x11_3 = true
           ·subst c31
            rw [if_pos rfl] at H; try dsimp only at H
            have H' := Aside0.mk H
            clear H
            go_wp2
            go_roundg k3
            case measure => have := HJ3.out; have := HK2.out; have := HK3.out; omega
            case rel => exact ⟨(true), (wrap64 (x45_3 + 1)), zT, zT, H', ⟨by have := HJ3.out; have := HK2.out; have := HK3.out; omega⟩, ⟨zK BK342⟩, ⟨zK BK344⟩, ⟨zB⟩⟩
           ·replace c31 := Bool.eq_false_iff.mpr c31
            subst c31
            rw [if_neg (show ¬ (false = true) by decide)] at H; try dsimp only at H
            replace H := zO H
            obtain ⟨t348, A32, H⟩ := H
            try dsimp only at H
            have H' := Aside0.mk H
            clear H
            have hnb33 := NB342_344.out
            have hnc33 := NB344_342.out
            obtain ⟨_, _⟩ := zC2 BK342.out
            obtain ⟨_, _⟩ := zF2 BK342.out
            go_wp2_with (first | (go_at_call 89; (with_reducible refine (smaltoref01_Bit.calls t340 t341 x45_3 t348 _ A32.out).mono ?_); rintro e w35 ⟨rfl, hb⟩; obtain ⟨BK342, BK344, HB⟩ := zA3 (blk_below (zK BK342) hb) (blk_below (zK BK344) hb) (below_step zB hb); (try clear hb)))
            go_roundg k3
            case measure => have := HJ3.out; have := HK2.out; have := HK3.out; omega
            case rel => exact ⟨((t348 == 1)), (wrap64 (x45_3 + 1)), zT, zT, H', ⟨by have := HJ3.out; have := HK2.out; have := HK3.out; omega⟩, ⟨zK BK342⟩, ⟨zK BK344⟩, ⟨zB⟩⟩
          ·rw [if_neg c30] at H
           have c30b0 := decide_eq_false c30
           clear c30
           have HC36 := Aside0.mk H
           clear H
           go_upto_region 20 with (fail)
           go_cut [67] (fun v67 wc => ∃ (kq : Nat) (x67_35 : Bool), v67 = .bool x67_35 ∧ Aside0 (smaltoref02_MulShift.j3 kq ((decide (a0 < 0)) != (decide (a1 < 0))) x67_35 x345000_2 x345001_2 = some r) ∧ Aside0 (kq ≤ k3) ∧ Aside0 (wc.heap[gb342]? = some (.cells #[.int .u64 t340, .int .u64 t341] 113 (0, 0))) ∧ Aside0 (wc.heap[gb344]? = some (.cells #[.int .u64 x345000_2, .int .u64 x345001_2] 113 (0, 0))) ∧ Aside0 (Below w.heap.size w wc))
           case first =>
            have H := HC36.out
            clear HC36
            replace H := zO H
            obtain ⟨t349, A37, H⟩ := H
            try dsimp only at H
            by_cases c38 : t349 = 1
            ·rw [if_pos c38] at H
             have c38b0 : (t349 == 1) = true := beq_iff_eq.mpr c38
             have c38b1 : (t349 != 1) = false := bne_eq_false_iff_eq.mpr c38
             clear c38
             (first | rw [c38b0] | (simp only [i64_w, i32_w]; rw [c38b0]) | skip)
             by_cases c39 : x11_3 = true
             ·subst c39
              rw [if_pos rfl] at H; try dsimp only at H
              have H' := Aside0.mk H
              clear H
              have hnb40 := NB342_344.out
              have hnc40 := NB344_342.out
              obtain ⟨_, _⟩ := zC2 BK342.out
              obtain ⟨_, _⟩ := zF2 BK342.out
              go_wp2_with (first | ((with_reducible refine gate_callee (f := 89) rfl ?_); refine goesL_ (some 59) rfl rfl Tryz.func89 (by kernel_rfl) rfl #[.agg #[.int .u64 t340, .int .u64 t341], .int .i64 (wrap64 (x2_3 - 1))] rfl zL ?_; (with_reducible refine (smaltoref01_Bit.calls t340 t341 (wrap64 (x2_3 - 1)) t349 _ A37.out).mono ?_); rintro e w42 ⟨rfl, hb⟩; refine ⟨_, rfl, ?_⟩; obtain ⟨BK342, BK344, HB⟩ := zA3 (blk_below (zK BK342) hb) (blk_below (zK BK344) hb) (below_step zB hb); (try clear hb)))
              go_meet
              case rel => exact ⟨_, (true), zT, H', ⟨by have := HJ3.out; have := HK2.out; have := HK3.out; first | omega | exact Nat.le_refl _⟩, ⟨zK BK342⟩, ⟨zK BK344⟩, ⟨zB⟩⟩
             ·replace c39 := Bool.eq_false_iff.mpr c39
              subst c39
              rw [if_neg (show ¬ (false = true) by decide)] at H; try dsimp only at H
              have H' := Aside0.mk H
              clear H
              have hnb43 := NB342_344.out
              have hnc43 := NB344_342.out
              obtain ⟨_, _⟩ := zC2 BK342.out
              obtain ⟨_, _⟩ := zF2 BK342.out
              go_wp2_with (first | ((with_reducible refine gate_callee (f := 89) rfl ?_); refine goesL_ (some 59) rfl rfl Tryz.func89 (by kernel_rfl) rfl #[.agg #[.int .u64 t340, .int .u64 t341], .int .i64 (wrap64 (x2_3 - 1))] rfl zL ?_; (with_reducible refine (smaltoref01_Bit.calls t340 t341 (wrap64 (x2_3 - 1)) t349 _ A37.out).mono ?_); rintro e w45 ⟨rfl, hb⟩; refine ⟨_, rfl, ?_⟩; obtain ⟨BK342, BK344, HB⟩ := zA3 (blk_below (zK BK342) hb) (blk_below (zK BK344) hb) (below_step zB hb); (try clear hb)))
              go_meet
              case rel => exact ⟨_, (!((decide (a0 < 0)) != (decide (a1 < 0)))), (by first | rfl | (simp; done) | (simp [*]; done) | (generalize decide (a0 < 0) = p_; generalize decide (a1 < 0) = q_; cases p_ <;> cases q_ <;> rfl)), H', ⟨by have := HJ3.out; have := HK2.out; have := HK3.out; first | omega | exact Nat.le_refl _⟩, ⟨zK BK342⟩, ⟨zK BK344⟩, ⟨zB⟩⟩
            ·rw [if_neg c38] at H
             have c38b0 : (t349 == 1) = false := beq_eq_false_iff_ne.mpr c38
             have c38b1 : (t349 != 1) = true := bne_iff_ne.mpr c38
             (first | rw [c38b0] | (simp only [i64_w, i32_w]; rw [c38b0]) | skip)
             have H' := Aside0.mk H
             clear H
             have hnb46 := NB342_344.out
             have hnc46 := NB344_342.out
             obtain ⟨_, _⟩ := zC2 BK342.out
             obtain ⟨_, _⟩ := zF2 BK342.out
             go_wp2_with (first | ((with_reducible refine gate_callee (f := 89) rfl ?_); refine goesL_ (some 59) rfl rfl Tryz.func89 (by kernel_rfl) rfl #[.agg #[.int .u64 t340, .int .u64 t341], .int .i64 (wrap64 (x2_3 - 1))] rfl zL ?_; (with_reducible refine (smaltoref01_Bit.calls t340 t341 (wrap64 (x2_3 - 1)) t349 _ A37.out).mono ?_); rintro e w48 ⟨rfl, hb⟩; refine ⟨_, rfl, ?_⟩; obtain ⟨BK342, BK344, HB⟩ := zA3 (blk_below (zK BK342) hb) (blk_below (zK BK344) hb) (below_step zB hb); (try clear hb)))
             go_meet
             case rel => exact ⟨_, (false), zT, H', ⟨by have := HJ3.out; have := HK2.out; have := HK3.out; first | omega | exact Nat.le_refl _⟩, ⟨zK BK342⟩, ⟨zK BK344⟩, ⟨zB⟩⟩
           case rest =>
            clear HC36
            obtain ⟨kq, x67_35, rfl, HA, HJ35, BK342, BK344, HB⟩ := hcut
            cases kq with
            | zero => exact absurd HA.out (by simp [smaltoref02_MulShift.j3])
            | succ kj35 =>
             have H := HA.out
             clear HA
             simp only [smaltoref02_MulShift.j3] at H
             by_cases c49 : x67_35 = true
             ·subst c49
              rw [if_pos rfl] at H; try dsimp only at H
              replace H := zO H
              obtain ⟨⟨t350, t351⟩, A50, H⟩ := H
              try dsimp only at H
              replace H := zO H
              obtain ⟨t352, A51, H⟩ := H
              try dsimp only at H
              obtain rfl := Option.some.inj H
              have hnb52 := NB344_342.out
              have hnc52 := NB342_344.out
              obtain ⟨_, _⟩ := zC2 BK344.out
              obtain ⟨_, _⟩ := zF2 BK344.out
              go_wp2_with (first | ((with_reducible refine gate_callee (f := 86) rfl ?_); refine goesL_ (some 70) rfl rfl Tryz.func86 (by kernel_rfl) rfl #[.agg #[.int .u64 x345000_2, .int .u64 x345001_2], .agg #[.int .u64 0, .int .u64 1]] rfl zL ?_; (with_reducible refine (smaltoref01_Plus.calls x345000_2 x345001_2 0 1 t350 t351 _ A50.out).mono ?_); rintro e w54 ⟨rfl, hb⟩; refine ⟨_, rfl, ?_⟩; obtain ⟨BK342, BK344, HB⟩ := zA3 (blk_below (zK BK342) hb) (blk_below (zK BK344) hb) (below_step zB hb); (try clear hb); obtain ⟨_, _⟩ := zC2 BK344.out; obtain ⟨_, _⟩ := zF2 BK344.out) | ((with_reducible refine gate_callee (f := 87) rfl ?_); refine goesL_ (some 73) rfl rfl Tryz.func87 (by kernel_rfl) rfl #[.agg #[.int .u64 t350, .int .u64 t351], .bool ((decide (a0 < 0)) != (decide (a1 < 0)))] rfl zL ?_; (with_reducible refine (smaltoref01_Hold.calls kj35 t350 t351 ((decide (a0 < 0)) != (decide (a1 < 0))) t352 _ A51.out).mono ?_); rintro e w56 ⟨rfl, hb⟩; refine ⟨_, rfl, ?_⟩; obtain ⟨BK342, BK344, HB⟩ := zA3 (blk_below (zK BK342) hb) (blk_below (g := gb344) (o := .cells #[.int .u64 t350, .int .u64 t351] 113 (0, 0)) (by refine zD ?_; refine blk_put (cs := #[.int .u64 t350, .int .u64 x345001_2]) ?_ 1 _ rfl; refine zD ?_; refine blk_put (cs := #[.int .u64 x345000_2, .int .u64 x345001_2]) ?_ 0 _ rfl; refine zD ?_; exact BK344.out) hb) (below_step zB hb); (try clear hb)))
              go_ret
              exact ⟨zS, zB⟩
             ·replace c49 := Bool.eq_false_iff.mpr c49
              subst c49
              rw [if_neg (show ¬ (false = true) by decide)] at H; try dsimp only at H
              replace H := zO H
              obtain ⟨t353, A57, H⟩ := H
              try dsimp only at H
              obtain rfl := Option.some.inj H
              have hnb58 := NB344_342.out
              have hnc58 := NB342_344.out
              obtain ⟨_, _⟩ := zC2 BK344.out
              obtain ⟨_, _⟩ := zF2 BK344.out
              go_wp2_with (first | ((with_reducible refine gate_callee (f := 87) rfl ?_); refine goesL_ (some 73) rfl rfl Tryz.func87 (by kernel_rfl) rfl #[.agg #[.int .u64 x345000_2, .int .u64 x345001_2], .bool ((decide (a0 < 0)) != (decide (a1 < 0)))] rfl zL ?_; (with_reducible refine (smaltoref01_Hold.calls kj35 x345000_2 x345001_2 ((decide (a0 < 0)) != (decide (a1 < 0))) t353 _ A57.out).mono ?_); rintro e w60 ⟨rfl, hb⟩; refine ⟨_, rfl, ?_⟩; obtain ⟨BK342, BK344, HB⟩ := zA3 (blk_below (zK BK342) hb) (blk_below (zK BK344) hb) (below_step zB hb); (try clear hb)))
              go_ret
              exact ⟨zS, zB⟩
end Go.Proofs.YtebipmdopdogkaaGreatDoor.QA

namespace Go.Proofs.YtebipmdopdogkaaGreatDoor.QA
open Go.Proofs.YtebipmdopdogkaaGreatDoor.T
open Go.RowKit Go.Proofs.YtebipmdopdogkaaGreatDoorW.PrintWords Go.Proofs.YtebipmdopdogkaaGreatDoorW.PrintLast Go.Proofs.YtebipmdopdogkaaGreatDoorW.PrintMore
attribute [local go_sem] ext_call max2_int min2_int max_two min_two
set_option linter.unusedVariables false
set_option linter.unusedSimpArgs false
mutual
def smaltoref04_Series.j0 : Nat → Int → Int → Option (Int)
 | 0, _, _ => none
 | k + 1, x0, x1 => (smaltoref02_MulDiv.f k 10851744800547 x0 x1).bind fun t354 => ((smaltoref02_MulDiv.f k t354 x0 x1).bind fun t355 => (smaltoref04_Series.l0 k t355 1099511627776 0 1099511627776 1))
def smaltoref04_Series.l0 : Nat → Int → Int → Int → Int → Int → Option (Int)
 | 0, _, _, _, _, _ => none
 | k + 1, x6, x7, x8, x9, x10 => if x10 ≤ 30 then ((smaltoref02_MulDiv.f k x9 x6 (wrap64 ((wrap64 ((wrap64 (2 * x10)) * (wrap64 ((wrap64 (2 * x10)) + 1)))) * 1099511627776))).bind fun t356 => (if (Int.tmod x10 2) = 1 then (smaltoref04_Series.l0 k x6 x7 (wrap64 (x8 + t356)) t356 (wrap64 (x10 + 1))) else (smaltoref04_Series.l0 k x6 (wrap64 (x7 + t356)) x8 t356 (wrap64 (x10 + 1))))) else (some (wrap64 (x7 - x8)))
end
def smaltoref04_Series.f (k : Nat) (a0 a1 : Int) : Option (Int) := if a0 < 0 then (smaltoref04_Series.j0 k (wrap64 (-a0)) a1) else (smaltoref04_Series.j0 k a0 a1)
set_option maxHeartbeats 8000000 in
set_option maxRecDepth 100000 in
theorem smaltoref04_Series.calls (k : Nat) (a0 a1 r : Int) (w : World) (h : smaltoref04_Series.f k a0 a1 = some r) :
  Calls Tryz.prog 114 #[.int .i64 a0, .int .i64 a1] w fun e w' => e = .returned (.int .i64 r) ∧ Below w.heap.size w w' := by
 have HB := Aside0.mk (Below.refl w.heap.size w)
 have H := h
 clear h
 unfold smaltoref04_Series.f at H
 have HC3 := Aside0.mk H
 clear H
 go_enter Tryz.func114, Tryz.ntmps114
 go_upto_if 13 with (fail)
 go_cut [0] (fun v0 wc => ∃ (kq : Nat) (x0_2 : Int), v0 = .int .i64 x0_2 ∧ Aside0 (smaltoref04_Series.j0 kq x0_2 a1 = some r) ∧ Aside0 (kq ≤ k) ∧ Aside0 (Below w.heap.size w wc))
 case first =>
  have H := HC3.out
  clear HC3
  by_cases c4 : a0 < 0
  ·rw [if_pos c4] at H
   have c4b0 := decide_eq_true c4
   clear c4
   (first | rw [c4b0] | (simp only [i64_w, i32_w]; rw [c4b0]) | skip)
   have H' := Aside0.mk H
   clear H
   go_wp2
   go_meet
   case rel => exact ⟨_, (wrap64 (-a0)), zT, H', ⟨by first | omega | exact Nat.le_refl _⟩, ⟨zB⟩⟩
  ·rw [if_neg c4] at H
   have c4b0 := decide_eq_false c4
   clear c4
   (first | rw [c4b0] | (simp only [i64_w, i32_w]; rw [c4b0]) | skip)
   have H' := Aside0.mk H
   clear H
   go_wp2
   go_meet
   case rel => exact ⟨_, (a0), zT, H', ⟨by first | omega | exact Nat.le_refl _⟩, ⟨zB⟩⟩
 case rest =>
  clear HC3
  obtain ⟨kq, x0_2, rfl, HA, HJ2, HB⟩ := hcut
  cases kq with
  | zero => exact absurd HA.out (by simp [smaltoref04_Series.j0])
  | succ kj2 =>
   have H := HA.out
   clear HA
   simp only [smaltoref04_Series.j0] at H
   replace H := zO H
   obtain ⟨t354, A5, H⟩ := H
   try dsimp only at H
   replace H := zO H
   obtain ⟨t355, A6, H⟩ := H
   try dsimp only at H
   have H' := Aside0.mk H
   clear H
   go_wp2_with (first | ((with_reducible refine gate_callee (f := 46) rfl ?_); refine goesL_ (some 18) rfl rfl Tryz.func46 (by kernel_rfl) rfl #[.int .i64 10851744800547, .int .i64 x0_2, .int .i64 a1] rfl zL ?_; (with_reducible refine (smaltoref02_MulDiv.calls kj2 10851744800547 x0_2 a1 t354 _ A5.out).mono ?_); rintro e w7 ⟨rfl, hb⟩; refine ⟨_, rfl, ?_⟩; replace HB := Aside0.mk (below_step zB hb); (try clear hb)) | ((with_reducible refine gate_callee (f := 46) rfl ?_); refine goesL_ (some 22) rfl rfl Tryz.func46 (by kernel_rfl) rfl #[.int .i64 t354, .int .i64 x0_2, .int .i64 a1] rfl zL ?_; (with_reducible refine (smaltoref02_MulDiv.calls kj2 t354 x0_2 a1 t355 _ A6.out).mono ?_); rintro e w8 ⟨rfl, hb⟩; refine ⟨_, rfl, ?_⟩; replace HB := Aside0.mk (below_step zB hb); (try clear hb)))
   go_loopg [7, 8, 9, 10] kj2 (fun kq v7 v8 v9 v10 w' => ∃ (x7_2 : Int) (x8_2 : Int) (x9_2 : Int) (x10_2 : Int), v7 = .int .i64 x7_2 ∧ v8 = .int .i64 x8_2 ∧ v9 = .int .i64 x9_2 ∧ v10 = .int .i64 x10_2 ∧ Aside0 (smaltoref04_Series.l0 kq t355 x7_2 x8_2 x9_2 x10_2 = some r) ∧ Aside0 (kq ≤ kj2) ∧ Aside0 (Below w.heap.size w w'))
   case atStart => exact ⟨(1099511627776), (0), (1099511627776), (1), zT, zT, zT, zT, H', ⟨Nat.le_refl _⟩, ⟨zB⟩⟩
   case round =>
    clear H'
    obtain ⟨x7_2, x8_2, x9_2, x10_2, rfl, rfl, rfl, rfl, HA, HK2, HB⟩ := hrel
    cases gk with
    | zero => exact absurd HA.out (by simp [smaltoref04_Series.l0])
    | succ k2 =>
     have H := HA.out
     clear HA
     simp only [smaltoref04_Series.l0] at H
     by_cases c9 : x10_2 ≤ 30
     ·rw [if_pos c9] at H
      have c9b0 := decide_eq_true c9
      clear c9
      replace H := zO H
      obtain ⟨t356, A10, H⟩ := H
      try dsimp only at H
      by_cases c11 : (Int.tmod x10_2 2) = 1
      ·rw [if_pos c11] at H
       have c11b0 : ((Int.tmod x10_2 2) == 1) = true := beq_iff_eq.mpr c11
       have c11b1 : ((Int.tmod x10_2 2) != 1) = false := bne_eq_false_iff_eq.mpr c11
       clear c11
       have H' := Aside0.mk H
       clear H
       go_wp2_with (first | ((with_reducible refine gate_callee (f := 46) rfl ?_); refine goesL_ (some 37) rfl rfl Tryz.func46 (by kernel_rfl) rfl #[.int .i64 x9_2, .int .i64 t355, .int .i64 (wrap64 ((wrap64 ((wrap64 (2 * x10_2)) * (wrap64 ((wrap64 (2 * x10_2)) + 1)))) * 1099511627776))] rfl zL ?_; (with_reducible refine (smaltoref02_MulDiv.calls k2 x9_2 t355 (wrap64 ((wrap64 ((wrap64 (2 * x10_2)) * (wrap64 ((wrap64 (2 * x10_2)) + 1)))) * 1099511627776)) t356 _ A10.out).mono ?_); rintro e w12 ⟨rfl, hb⟩; refine ⟨_, rfl, ?_⟩; replace HB := Aside0.mk (below_step zB hb); (try clear hb)))
       go_roundg k2
       case measure => have := HJ2.out; have := HK2.out; omega
       case rel => exact ⟨(x7_2), (wrap64 (x8_2 + t356)), (t356), (wrap64 (x10_2 + 1)), zT, zT, zT, zT, H', ⟨by have := HJ2.out; have := HK2.out; omega⟩, ⟨zB⟩⟩
      ·rw [if_neg c11] at H
       have c11b0 : ((Int.tmod x10_2 2) == 1) = false := beq_eq_false_iff_ne.mpr c11
       have c11b1 : ((Int.tmod x10_2 2) != 1) = true := bne_iff_ne.mpr c11
       have H' := Aside0.mk H
       clear H
       go_wp2_with (first | ((with_reducible refine gate_callee (f := 46) rfl ?_); refine goesL_ (some 37) rfl rfl Tryz.func46 (by kernel_rfl) rfl #[.int .i64 x9_2, .int .i64 t355, .int .i64 (wrap64 ((wrap64 ((wrap64 (2 * x10_2)) * (wrap64 ((wrap64 (2 * x10_2)) + 1)))) * 1099511627776))] rfl zL ?_; (with_reducible refine (smaltoref02_MulDiv.calls k2 x9_2 t355 (wrap64 ((wrap64 ((wrap64 (2 * x10_2)) * (wrap64 ((wrap64 (2 * x10_2)) + 1)))) * 1099511627776)) t356 _ A10.out).mono ?_); rintro e w13 ⟨rfl, hb⟩; refine ⟨_, rfl, ?_⟩; replace HB := Aside0.mk (below_step zB hb); (try clear hb)))
       go_roundg k2
       case measure => have := HJ2.out; have := HK2.out; omega
       case rel => exact ⟨(wrap64 (x7_2 + t356)), (x8_2), (t356), (wrap64 (x10_2 + 1)), zT, zT, zT, zT, H', ⟨by have := HJ2.out; have := HK2.out; omega⟩, ⟨zB⟩⟩
     ·rw [if_neg c9] at H
      have c9b0 := decide_eq_false c9
      clear c9
      obtain rfl := Option.some.inj H
      go_wp2
      go_ret
      exact ⟨zS, zB⟩
def smaltoref04_Lanczos.j0 : Nat → Int → Int → Bool → Option (Int)
 | 0, _, _, _ => none
 | k + 1, x0, x1, x21 => if x21 = true then (some 0) else ((smaltoref04_Series.f k x0 x1).bind fun t358 => ((smaltoref04_Series.f k x0 (wrap64 (3 * x1))).bind fun t359 => ((smaltoref02_MulShift.f k t358 t359 40).bind fun t360 => ((smaltoref01_Shift.f k t360 10).bind fun t361 => (some t361)))))
def smaltoref04_Lanczos.f (k : Nat) (a0 a1 : Int) : Option (Int) := (smaltoref04_May.f a0 a1).bind fun t357 => (if t357 = true then (if a0 ≥ (wrap64 (3 * a1)) then (smaltoref04_Lanczos.j0 k a0 a1 true) else (smaltoref04_Lanczos.j0 k a0 a1 (decide (a0 ≤ (wrap64 ((-3) * a1)))))) else (smaltoref04_Lanczos.j0 k a0 a1 true))
set_option maxHeartbeats 8000000 in
set_option maxRecDepth 100000 in
theorem smaltoref04_Lanczos.calls (k : Nat) (a0 a1 r : Int) (w : World) (h : smaltoref04_Lanczos.f k a0 a1 = some r) :
  Calls Tryz.prog 84 #[.int .i64 a0, .int .i64 a1] w fun e w' => e = .returned (.int .i64 r) ∧ Below w.heap.size w w' := by
 have HB := Aside0.mk (Below.refl w.heap.size w)
 have H := h
 clear h
 unfold smaltoref04_Lanczos.f at H
 have HC3 := Aside0.mk H
 clear H
 go_enter Tryz.func84, Tryz.ntmps84
 go_upto_region 1 with (fail)
 go_cut [21] (fun v21 wc => ∃ (kq : Nat) (x21_2 : Bool), v21 = .bool x21_2 ∧ Aside0 (smaltoref04_Lanczos.j0 kq a0 a1 x21_2 = some r) ∧ Aside0 (kq ≤ k) ∧ Aside0 (Below w.heap.size w wc))
 case first =>
  have H := HC3.out
  clear HC3
  replace H := zO H
  obtain ⟨t357, A4, H⟩ := H
  try dsimp only at H
  by_cases c5 : t357 = true
  ·subst c5
   rw [if_pos rfl] at H; try dsimp only at H
   by_cases c6 : a0 ≥ (wrap64 (3 * a1))
   ·rw [if_pos c6] at H
    have c6b0 := decide_eq_true c6
    clear c6
    (first | rw [c6b0] | (simp only [i64_w, i32_w]; rw [c6b0]) | skip)
    have H' := Aside0.mk H
    clear H
    go_wp2_with (first | ((with_reducible refine gate_callee (f := 112) rfl ?_); refine goesL_ (some 8) rfl rfl Tryz.func112 (by kernel_rfl) rfl #[.int .i64 a0, .int .i64 a1] rfl zL ?_; (with_reducible refine (smaltoref04_May.calls a0 a1 true _ A4.out).mono ?_); rintro e w' ⟨rfl, ⟨nd, rfl⟩⟩; refine ⟨_, rfl, ?_⟩))
    go_meet
    case rel => exact ⟨_, (true), zT, H', ⟨by first | omega | exact Nat.le_refl _⟩, ⟨zB⟩⟩
   ·rw [if_neg c6] at H
    have c6b0 := decide_eq_false c6
    clear c6
    (first | rw [c6b0] | (simp only [i64_w, i32_w]; rw [c6b0]) | skip)
    have H' := Aside0.mk H
    clear H
    go_wp2_with (first | ((with_reducible refine gate_callee (f := 112) rfl ?_); refine goesL_ (some 8) rfl rfl Tryz.func112 (by kernel_rfl) rfl #[.int .i64 a0, .int .i64 a1] rfl zL ?_; (with_reducible refine (smaltoref04_May.calls a0 a1 true _ A4.out).mono ?_); rintro e w' ⟨rfl, ⟨nd, rfl⟩⟩; refine ⟨_, rfl, ?_⟩))
    go_meet
    case rel => exact ⟨_, (decide (a0 ≤ (wrap64 ((-3) * a1)))), zT, H', ⟨by first | omega | exact Nat.le_refl _⟩, ⟨zB⟩⟩
  ·replace c5 := Bool.eq_false_iff.mpr c5
   subst c5
   rw [if_neg (show ¬ (false = true) by decide)] at H; try dsimp only at H
   have H' := Aside0.mk H
   clear H
   go_wp2_with (first | ((with_reducible refine gate_callee (f := 112) rfl ?_); refine goesL_ (some 8) rfl rfl Tryz.func112 (by kernel_rfl) rfl #[.int .i64 a0, .int .i64 a1] rfl zL ?_; (with_reducible refine (smaltoref04_May.calls a0 a1 false _ A4.out).mono ?_); rintro e w' ⟨rfl, ⟨nd, rfl⟩⟩; refine ⟨_, rfl, ?_⟩))
   go_meet
   case rel => exact ⟨_, (true), zT, H', ⟨by first | omega | exact Nat.le_refl _⟩, ⟨zB⟩⟩
 case rest =>
  clear HC3
  obtain ⟨kq, x21_2, rfl, HA, HJ2, HB⟩ := hcut
  cases kq with
  | zero => exact absurd HA.out (by simp [smaltoref04_Lanczos.j0])
  | succ kj2 =>
   have H := HA.out
   clear HA
   simp only [smaltoref04_Lanczos.j0] at H
   by_cases c7 : x21_2 = true
   ·subst c7
    rw [if_pos rfl] at H; try dsimp only at H
    obtain rfl := Option.some.inj H
    go_wp2
    go_ret
    exact ⟨zS, zB⟩
   ·replace c7 := Bool.eq_false_iff.mpr c7
    subst c7
    rw [if_neg (show ¬ (false = true) by decide)] at H; try dsimp only at H
    replace H := zO H
    obtain ⟨t358, A8, H⟩ := H
    try dsimp only at H
    replace H := zO H
    obtain ⟨t359, A9, H⟩ := H
    try dsimp only at H
    replace H := zO H
    obtain ⟨t360, A10, H⟩ := H
    try dsimp only at H
    replace H := zO H
    obtain ⟨t361, A11, H⟩ := H
    try dsimp only at H
    obtain rfl := Option.some.inj H
    go_wp2_with (first | ((with_reducible refine gate_callee (f := 114) rfl ?_); refine goesL_ (some 24) rfl rfl Tryz.func114 (by kernel_rfl) rfl #[.int .i64 a0, .int .i64 a1] rfl zL ?_; (with_reducible refine (smaltoref04_Series.calls kj2 a0 a1 t358 _ A8.out).mono ?_); rintro e w12 ⟨rfl, hb⟩; refine ⟨_, rfl, ?_⟩; replace HB := Aside0.mk (below_step zB hb); (try clear hb)) | ((with_reducible refine gate_callee (f := 114) rfl ?_); refine goesL_ (some 28) rfl rfl Tryz.func114 (by kernel_rfl) rfl #[.int .i64 a0, .int .i64 (wrap64 (3 * a1))] rfl zL ?_; (with_reducible refine (smaltoref04_Series.calls kj2 a0 (wrap64 (3 * a1)) t359 _ A9.out).mono ?_); rintro e w13 ⟨rfl, hb⟩; refine ⟨_, rfl, ?_⟩; replace HB := Aside0.mk (below_step zB hb); (try clear hb)) | ((with_reducible refine gate_callee (f := 113) rfl ?_); refine goesL_ (some 29) rfl rfl Tryz.func113 (by kernel_rfl) rfl #[.int .i64 t358, .int .i64 t359, .int .i64 40] rfl zL ?_; (with_reducible refine (smaltoref02_MulShift.calls kj2 t358 t359 40 t360 _ A10.out).mono ?_); rintro e w14 ⟨rfl, hb⟩; refine ⟨_, rfl, ?_⟩; replace HB := Aside0.mk (below_step zB hb); (try clear hb)) | ((with_reducible refine gate_callee (f := 62) rfl ?_); refine goesL_ (some 31) rfl rfl Tryz.func62 (by kernel_rfl) rfl #[.int .i64 t360, .int .i64 10] rfl zL ?_; (with_reducible refine (smaltoref01_Shift.calls kj2 t360 10 t361 _ A11.out).mono ?_); rintro e w15 ⟨rfl, hb⟩; refine ⟨_, rfl, ?_⟩; replace HB := Aside0.mk (below_step zB hb); (try clear hb)))
    go_ret
    exact ⟨zS, zB⟩
end Go.Proofs.YtebipmdopdogkaaGreatDoor.QA

namespace Go.Proofs.YtebipmdopdogkaaGreatDoor.QA
open Go.Proofs.YtebipmdopdogkaaGreatDoor.T
open Go.RowKit Go.Proofs.YtebipmdopdogkaaGreatDoorW.PrintWords Go.Proofs.YtebipmdopdogkaaGreatDoorW.PrintLast Go.Proofs.YtebipmdopdogkaaGreatDoorW.PrintMore
attribute [local go_sem] ext_call max2_int min2_int max_two min_two
set_option linter.unusedVariables false
set_option linter.unusedSimpArgs false
def smaltoref05_Weight.f (k : Nat) (a0 a1 a2 a3 a4 : Int) : Option (Int) := if a0 = 0 then (if (wrap64 (a4 * a2)) > (wrap64 (a3 * a1)) then (if (wrap64 ((wrap64 (a4 + 1)) * a2)) < (wrap64 ((wrap64 (a3 + 1)) * a1)) then ((smaltoref02_MulDiv.f k (wrap64 ((wrap64 ((wrap64 (a4 + 1)) * a2)) - (wrap64 (a4 * a2)))) 1073741824 a1).bind fun t362 => (some t362)) else ((smaltoref02_MulDiv.f k (wrap64 ((wrap64 ((wrap64 (a3 + 1)) * a1)) - (wrap64 (a4 * a2)))) 1073741824 a1).bind fun t363 => (some t363))) else (if (wrap64 ((wrap64 (a4 + 1)) * a2)) < (wrap64 ((wrap64 (a3 + 1)) * a1)) then ((smaltoref02_MulDiv.f k (wrap64 ((wrap64 ((wrap64 (a4 + 1)) * a2)) - (wrap64 (a3 * a1)))) 1073741824 a1).bind fun t364 => (some t364)) else ((smaltoref02_MulDiv.f k (wrap64 ((wrap64 ((wrap64 (a3 + 1)) * a1)) - (wrap64 (a3 * a1)))) 1073741824 a1).bind fun t365 => (some t365)))) else ((smaltoref05_fraction.f a1 a2 a3 a4).bind fun bt366 => (if a0 = 1 then ((smaltoref05_Keys.f k bt366.1 bt366.2).bind fun t368 => (some t368)) else ((smaltoref04_Lanczos.f k bt366.1 bt366.2).bind fun t369 => (some t369))))
set_option maxHeartbeats 8000000 in
set_option maxRecDepth 100000 in
theorem smaltoref05_Weight.calls (k : Nat) (a0 a1 a2 a3 a4 r : Int) (w : World) (h : smaltoref05_Weight.f k a0 a1 a2 a3 a4 = some r) :
  Calls Tryz.prog 58 #[.int .i64 a0, .int .i64 a1, .int .i64 a2, .int .i64 a3, .int .i64 a4] w fun e w' => e = .returned (.int .i64 r) ∧ Below w.heap.size w w' := by
 have HB := Aside0.mk (Below.refl w.heap.size w)
 have H := h
 clear h
 unfold smaltoref05_Weight.f at H
 by_cases c6 : a0 = 0
 ·rw [if_pos c6] at H
  have c6b0 : (a0 == 0) = true := beq_iff_eq.mpr c6
  have c6b1 : (a0 != 0) = false := bne_eq_false_iff_eq.mpr c6
  clear c6
  by_cases c7 : (wrap64 (a4 * a2)) > (wrap64 (a3 * a1))
  ·rw [if_pos c7] at H
   have c7b0 := decide_eq_true c7
   clear c7
   by_cases c8 : (wrap64 ((wrap64 (a4 + 1)) * a2)) < (wrap64 ((wrap64 (a3 + 1)) * a1))
   ·rw [if_pos c8] at H
    have c8b0 := decide_eq_true c8
    clear c8
    replace H := zO H
    obtain ⟨t362, A9, H⟩ := H
    try dsimp only at H
    obtain rfl := Option.some.inj H
    go_enter Tryz.func58, Tryz.ntmps58
    go_wp2_with (first | ((with_reducible refine gate_callee (f := 46) rfl ?_); refine goesL_ (some 46) rfl rfl Tryz.func46 (by kernel_rfl) rfl #[.int .i64 (wrap64 ((wrap64 ((wrap64 (a4 + 1)) * a2)) - (wrap64 (a4 * a2)))), .int .i64 1073741824, .int .i64 a1] rfl zL ?_; (with_reducible refine (smaltoref02_MulDiv.calls k (wrap64 ((wrap64 ((wrap64 (a4 + 1)) * a2)) - (wrap64 (a4 * a2)))) 1073741824 a1 t362 _ A9.out).mono ?_); rintro e w10 ⟨rfl, hb⟩; refine ⟨_, rfl, ?_⟩; replace HB := Aside0.mk (below_step zB hb); (try clear hb)))
    go_ret
    exact ⟨zS, zB⟩
   ·rw [if_neg c8] at H
    have c8b0 := decide_eq_false c8
    clear c8
    replace H := zO H
    obtain ⟨t363, A11, H⟩ := H
    try dsimp only at H
    obtain rfl := Option.some.inj H
    go_enter Tryz.func58, Tryz.ntmps58
    go_wp2_with (first | ((with_reducible refine gate_callee (f := 46) rfl ?_); refine goesL_ (some 46) rfl rfl Tryz.func46 (by kernel_rfl) rfl #[.int .i64 (wrap64 ((wrap64 ((wrap64 (a3 + 1)) * a1)) - (wrap64 (a4 * a2)))), .int .i64 1073741824, .int .i64 a1] rfl zL ?_; (with_reducible refine (smaltoref02_MulDiv.calls k (wrap64 ((wrap64 ((wrap64 (a3 + 1)) * a1)) - (wrap64 (a4 * a2)))) 1073741824 a1 t363 _ A11.out).mono ?_); rintro e w12 ⟨rfl, hb⟩; refine ⟨_, rfl, ?_⟩; replace HB := Aside0.mk (below_step zB hb); (try clear hb)))
    go_ret
    exact ⟨zS, zB⟩
  ·rw [if_neg c7] at H
   have c7b0 := decide_eq_false c7
   clear c7
   by_cases c13 : (wrap64 ((wrap64 (a4 + 1)) * a2)) < (wrap64 ((wrap64 (a3 + 1)) * a1))
   ·rw [if_pos c13] at H
    have c13b0 := decide_eq_true c13
    clear c13
    replace H := zO H
    obtain ⟨t364, A14, H⟩ := H
    try dsimp only at H
    obtain rfl := Option.some.inj H
    go_enter Tryz.func58, Tryz.ntmps58
    go_wp2_with (first | ((with_reducible refine gate_callee (f := 46) rfl ?_); refine goesL_ (some 46) rfl rfl Tryz.func46 (by kernel_rfl) rfl #[.int .i64 (wrap64 ((wrap64 ((wrap64 (a4 + 1)) * a2)) - (wrap64 (a3 * a1)))), .int .i64 1073741824, .int .i64 a1] rfl zL ?_; (with_reducible refine (smaltoref02_MulDiv.calls k (wrap64 ((wrap64 ((wrap64 (a4 + 1)) * a2)) - (wrap64 (a3 * a1)))) 1073741824 a1 t364 _ A14.out).mono ?_); rintro e w15 ⟨rfl, hb⟩; refine ⟨_, rfl, ?_⟩; replace HB := Aside0.mk (below_step zB hb); (try clear hb)))
    go_ret
    exact ⟨zS, zB⟩
   ·rw [if_neg c13] at H
    have c13b0 := decide_eq_false c13
    clear c13
    replace H := zO H
    obtain ⟨t365, A16, H⟩ := H
    try dsimp only at H
    obtain rfl := Option.some.inj H
    go_enter Tryz.func58, Tryz.ntmps58
    go_wp2_with (first | ((with_reducible refine gate_callee (f := 46) rfl ?_); refine goesL_ (some 46) rfl rfl Tryz.func46 (by kernel_rfl) rfl #[.int .i64 (wrap64 ((wrap64 ((wrap64 (a3 + 1)) * a1)) - (wrap64 (a3 * a1)))), .int .i64 1073741824, .int .i64 a1] rfl zL ?_; (with_reducible refine (smaltoref02_MulDiv.calls k (wrap64 ((wrap64 ((wrap64 (a3 + 1)) * a1)) - (wrap64 (a3 * a1)))) 1073741824 a1 t365 _ A16.out).mono ?_); rintro e w17 ⟨rfl, hb⟩; refine ⟨_, rfl, ?_⟩; replace HB := Aside0.mk (below_step zB hb); (try clear hb)))
    go_ret
    exact ⟨zS, zB⟩
 ·rw [if_neg c6] at H
  have c6b0 : (a0 == 0) = false := beq_eq_false_iff_ne.mpr c6
  have c6b1 : (a0 != 0) = true := bne_iff_ne.mpr c6
  replace H := zO H
  obtain ⟨⟨t366, t367⟩, A18, H⟩ := H
  try dsimp only at H
  by_cases c19 : a0 = 1
  ·rw [if_pos c19] at H
   have c19b0 : (a0 == 1) = true := beq_iff_eq.mpr c19
   have c19b1 : (a0 != 1) = false := bne_eq_false_iff_eq.mpr c19
   clear c19
   replace H := zO H
   obtain ⟨t368, A20, H⟩ := H
   try dsimp only at H
   obtain rfl := Option.some.inj H
   go_enter Tryz.func58, Tryz.ntmps58
   go_wp2_with (first | ((with_reducible refine gate_callee (f := 82) rfl ?_); refine goesL_ (some 52) rfl rfl Tryz.func82 (by kernel_rfl) rfl #[.int .i64 a1, .int .i64 a2, .int .i64 a3, .int .i64 a4] rfl zL ?_; (with_reducible refine (smaltoref05_fraction.calls a1 a2 a3 a4 t366 t367 _ A18.out).mono ?_); rintro e w' ⟨rfl, ⟨nd, rfl⟩⟩; refine ⟨_, rfl, ?_⟩) | ((with_reducible refine gate_callee (f := 83) rfl ?_); refine goesL_ (some 59) rfl rfl Tryz.func83 (by kernel_rfl) rfl #[.int .i64 t366, .int .i64 t367] rfl zL ?_; (with_reducible refine (smaltoref05_Keys.calls k t366 t367 t368 _ A20.out).mono ?_); rintro e w21 ⟨rfl, hb⟩; refine ⟨_, rfl, ?_⟩; replace HB := Aside0.mk (below_step zB hb); (try clear hb)))
   go_ret
   exact ⟨zS, zB⟩
  ·rw [if_neg c19] at H
   have c19b0 : (a0 == 1) = false := beq_eq_false_iff_ne.mpr c19
   have c19b1 : (a0 != 1) = true := bne_iff_ne.mpr c19
   replace H := zO H
   obtain ⟨t369, A22, H⟩ := H
   try dsimp only at H
   obtain rfl := Option.some.inj H
   go_enter Tryz.func58, Tryz.ntmps58
   go_wp2_with (first | ((with_reducible refine gate_callee (f := 82) rfl ?_); refine goesL_ (some 52) rfl rfl Tryz.func82 (by kernel_rfl) rfl #[.int .i64 a1, .int .i64 a2, .int .i64 a3, .int .i64 a4] rfl zL ?_; (with_reducible refine (smaltoref05_fraction.calls a1 a2 a3 a4 t366 t367 _ A18.out).mono ?_); rintro e w' ⟨rfl, ⟨nd, rfl⟩⟩; refine ⟨_, rfl, ?_⟩) | ((with_reducible refine gate_callee (f := 84) rfl ?_); refine goesL_ (some 62) rfl rfl Tryz.func84 (by kernel_rfl) rfl #[.int .i64 t366, .int .i64 t367] rfl zL ?_; (with_reducible refine (smaltoref04_Lanczos.calls k t366 t367 t369 _ A22.out).mono ?_); rintro e w23 ⟨rfl, hb⟩; refine ⟨_, rfl, ?_⟩; replace HB := Aside0.mk (below_step zB hb); (try clear hb)))
   go_ret
   exact ⟨zS, zB⟩
end Go.Proofs.YtebipmdopdogkaaGreatDoor.QA

namespace Go.Proofs.YtebipmdopdogkaaGreatDoor.QA
open Go.Proofs.YtebipmdopdogkaaGreatDoor.T
open Go.RowKit Go.Proofs.YtebipmdopdogkaaGreatDoorW.PrintWords Go.Proofs.YtebipmdopdogkaaGreatDoorW.PrintLast Go.Proofs.YtebipmdopdogkaaGreatDoorW.PrintMore
attribute [local go_sem] ext_call max2_int min2_int max_two min_two
set_option linter.unusedVariables false
set_option linter.unusedSimpArgs false
mutual
def smaltoref05_Row.l0 : Nat → Int → Int → Int → Int → Int → Option (Int × List Int)
 | 0, _, _, _, _, _ => none
 | k + 1, x0, x1, x2, x3, x10 => (smaltoref05_In.f x0 x1 x2 x3 (wrap64 (x10 - 1))).bind fun t371 => (if t371 = true then (smaltoref05_Row.l0 k x0 x1 x2 x3 (wrap64 (x10 - 1))) else (smaltoref05_Row.l1 k x0 x1 x2 x3 x10))
def smaltoref05_Row.l1 : Nat → Int → Int → Int → Int → Int → Option (Int × List Int)
 | 0, _, _, _, _, _ => none
 | k + 1, x0, x1, x2, x3, x10 => (smaltoref05_In.f x0 x1 x2 x3 x10).bind fun t372 => (if t372 = true then (smaltoref05_Row.l2 k x0 x1 x2 x3 x10 x10 ([] : List Int)) else (smaltoref05_Row.l1 k x0 x1 x2 x3 (wrap64 (x10 + 1))))
def smaltoref05_Row.l2 : Nat → Int → Int → Int → Int → Int → Int → List Int → Option (Int × List Int)
 | 0, _, _, _, _, _, _, _ => none
 | k + 1, x0, x1, x2, x3, x10, x11, x12 => (smaltoref05_In.f x0 x1 x2 x3 x10).bind fun t373 => (if t373 = true then ((smaltoref05_Weight.f k x0 x1 x2 x3 x10).bind fun t374 => (if x12.length < 17592186044416 then (smaltoref05_Row.l2 k x0 x1 x2 x3 (wrap64 (x10 + 1)) x11 (x12 ++ [t374])) else (none))) else (some (x11, x12)))
end
def smaltoref05_Row.f (k : Nat) (a0 a1 a2 a3 : Int) : Option (Int × List Int) := (smaltoref05_May.f a0 a1 a2 a3).bind fun t370 => (if t370 = true then (if a2 = 0 then (none) else (smaltoref05_Row.l0 k a0 a1 a2 a3 (wrap64 (Int.tdiv (wrap64 (a3 * a1)) a2)))) else (some (0, ([] : List Int))))
set_option maxHeartbeats 8000000 in
set_option maxRecDepth 100000 in
theorem smaltoref05_Row.calls (k : Nat) (a0 a1 a2 a3 r1 : Int) (r2 : List Int) (w : World) (h : smaltoref05_Row.f k a0 a1 a2 a3 = some (r1, r2)) :
  Calls Tryz.prog 42 #[.int .i64 a0, .int .i64 a1, .int .i64 a2, .int .i64 a3] w fun e w' => ∃ v1_ : Value, e = .returned (.tuple #[.int .i64 r1, v1_]) ∧ Kd.R (Kd.int .i64) 2 w' w.heap.size (fun _ => True) v1_ r2 ∧ Below w.heap.size w w' := by
 have HB := Aside0.mk (Below.refl w.heap.size w)
 have H := h
 clear h
 unfold smaltoref05_Row.f at H
 replace H := zO H
 obtain ⟨t370, A5, H⟩ := H
 try dsimp only at H
 by_cases c6 : t370 = true
 ·subst c6
  rw [if_pos rfl] at H; try dsimp only at H
  by_cases c7 : a2 = 0
  ·rw [if_pos c7] at H
   exact absurd H (by simp)
  ·rw [if_neg c7] at H
   have c7b0 : (a2 == 0) = false := beq_eq_false_iff_ne.mpr c7
   have c7b1 : (a2 != 0) = true := bne_iff_ne.mpr c7
   have H' := Aside0.mk H
   clear H
   go_enter Tryz.func42, Tryz.ntmps42
   go_wp2_with (first | ((with_reducible refine gate_callee (f := 56) rfl ?_); refine goesL_ (some 17) rfl rfl Tryz.func56 (by kernel_rfl) rfl #[.int .i64 a0, .int .i64 a1, .int .i64 a2, .int .i64 a3] rfl zL ?_; (with_reducible refine (smaltoref05_May.calls a0 a1 a2 a3 true _ A5.out).mono ?_); rintro e w' ⟨rfl, ⟨nd, rfl⟩⟩; refine ⟨_, rfl, ?_⟩))
   go_loopg [10] k (fun kq v10 w' => ∃ (x10_1 : Int), v10 = .int .i64 x10_1 ∧ Aside0 (smaltoref05_Row.l0 kq a0 a1 a2 a3 x10_1 = some (r1, r2)) ∧ Aside0 (kq ≤ k) ∧ Aside0 (Below w.heap.size w w'))
   case atStart => exact ⟨(wrap64 (Int.tdiv (wrap64 (a3 * a1)) a2)), zT, H', ⟨Nat.le_refl _⟩, ⟨zB⟩⟩
   case round =>
    clear H'
    obtain ⟨x10_1, rfl, HA, HK1, HB⟩ := hrel
    cases gk with
    | zero => exact absurd HA.out (by simp [smaltoref05_Row.l0])
    | succ k1 =>
     have H := HA.out
     clear HA
     simp only [smaltoref05_Row.l0] at H
     replace H := zO H
     obtain ⟨t371, A8, H⟩ := H
     try dsimp only at H
     by_cases c9 : t371 = true
     ·subst c9
      rw [if_pos rfl] at H; try dsimp only at H
      have H' := Aside0.mk H
      clear H
      go_wp2_with (first | ((with_reducible refine gate_callee (f := 57) rfl ?_); refine goesL_ (some 30) rfl rfl Tryz.func57 (by kernel_rfl) rfl #[.int .i64 a0, .int .i64 a1, .int .i64 a2, .int .i64 a3, .int .i64 (wrap64 (x10_1 - 1))] rfl zL ?_; (with_reducible refine (smaltoref05_In.calls a0 a1 a2 a3 (wrap64 (x10_1 - 1)) true _ A8.out).mono ?_); rintro e w' ⟨rfl, ⟨nd, rfl⟩⟩; refine ⟨_, rfl, ?_⟩))
      go_roundg k1
      case measure => have := HK1.out; omega
      case rel => exact ⟨(wrap64 (x10_1 - 1)), zT, H', ⟨by have := HK1.out; omega⟩, ⟨zB⟩⟩
     ·replace c9 := Bool.eq_false_iff.mpr c9
      subst c9
      rw [if_neg (show ¬ (false = true) by decide)] at H; try dsimp only at H
      have H' := Aside0.mk H
      clear H
      go_wp2_with (first | ((with_reducible refine gate_callee (f := 57) rfl ?_); refine goesL_ (some 30) rfl rfl Tryz.func57 (by kernel_rfl) rfl #[.int .i64 a0, .int .i64 a1, .int .i64 a2, .int .i64 a3, .int .i64 (wrap64 (x10_1 - 1))] rfl zL ?_; (with_reducible refine (smaltoref05_In.calls a0 a1 a2 a3 (wrap64 (x10_1 - 1)) false _ A8.out).mono ?_); rintro e w' ⟨rfl, ⟨nd, rfl⟩⟩; refine ⟨_, rfl, ?_⟩))
      try simp only [Act.put, List.setIfInBounds_toArray, List.set_cons_succ, List.set_cons_zero]
      go_loopg [10] k1 (fun kq v10 w' => ∃ (x10_2 : Int), v10 = .int .i64 x10_2 ∧ Aside0 (smaltoref05_Row.l1 kq a0 a1 a2 a3 x10_2 = some (r1, r2)) ∧ Aside0 (kq ≤ k1) ∧ Aside0 (Below w.heap.size w w'))
      case atStart => exact ⟨(x10_1), zT, H', ⟨Nat.le_refl _⟩, ⟨zB⟩⟩
      case round =>
       clear H'
       obtain ⟨x10_2, rfl, HA, HK2, HB⟩ := hrel
       cases gk with
       | zero => exact absurd HA.out (by simp [smaltoref05_Row.l1])
       | succ k2 =>
        have H := HA.out
        clear HA
        simp only [smaltoref05_Row.l1] at H
        replace H := zO H
        obtain ⟨t372, A10, H⟩ := H
        try dsimp only at H
        by_cases c11 : t372 = true
        ·subst c11
         rw [if_pos rfl] at H; try dsimp only at H
         have H' := Aside0.mk H
         clear H
         go_wp2_with (first | ((with_reducible refine gate_callee (f := 57) rfl ?_); refine goesL_ (some 38) rfl rfl Tryz.func57 (by kernel_rfl) rfl #[.int .i64 a0, .int .i64 a1, .int .i64 a2, .int .i64 a3, .int .i64 x10_2] rfl zL ?_; (with_reducible refine (smaltoref05_In.calls a0 a1 a2 a3 x10_2 true _ A10.out).mono ?_); rintro e w' ⟨rfl, ⟨nd, rfl⟩⟩; refine ⟨_, rfl, ?_⟩))
         try simp only [Act.put, List.setIfInBounds_toArray, List.set_cons_succ, List.set_cons_zero]
         go_loopg [10, 12] k2 (fun kq v10 v12 w' => ∃ (x10_3 : Int) (x12_3 : List Int), v10 = .int .i64 x10_3 ∧ Aside0 (smaltoref05_Row.l2 kq a0 a1 a2 a3 x10_3 x10_2 x12_3 = some (r1, r2)) ∧ Aside0 (kq ≤ k2) ∧ Aside0 (Kd.R (Kd.int .i64) 2 w' w.heap.size (fun _ => True) v12 x12_3) ∧ Aside0 (Below w.heap.size w w'))
         case atStart => exact ⟨(x10_2), (([] : List Int)), zT, H', ⟨Nat.le_refl _⟩, ⟨by first | exact Kd.R_nil _ _ _ _ _ | exact Kd.N_nil _ _ _ _ _ | exact Kd.V_nil _ _ _ _ _ | exact Kd.Q_nil _ _ _ _ _ | exact Kd.S_nil _ _ _ _ _⟩, ⟨zB⟩⟩
         case round =>
          clear H'
          obtain ⟨x10_3, x12_3, rfl, HA, HK3, HO_12, HB⟩ := hrel
          cases gk with
          | zero => exact absurd HA.out (by simp [smaltoref05_Row.l2])
          | succ k3 =>
           have H := HA.out
           clear HA
           simp only [smaltoref05_Row.l2] at H
           replace H := zO H
           obtain ⟨t373, A12, H⟩ := H
           try dsimp only at H
           by_cases c13 : t373 = true
           ·subst c13
            rw [if_pos rfl] at H; try dsimp only at H
            replace H := zO H
            obtain ⟨t374, A14, H⟩ := H
            try dsimp only at H
            by_cases c15 : x12_3.length < 17592186044416
            ·rw [if_pos c15] at H
             have LMc15 := Aside0.mk c15
             clear c15
             obtain ⟨y375, hy375⟩ : ∃ y_ : List Int, y_ = (x12_3 ++ [t374]) := ⟨_, rfl⟩
             replace H : (smaltoref05_Row.l2 k3 a0 a1 a2 a3 (wrap64 (x10_3 + 1)) x10_2 y375) = some (r1, r2) := by first | (rw [hy375]; with_reducible exact H) | (have H2_ := (Option.bind_some _ _).symm.trans H; rw [hy375]; with_reducible exact H2_) | (have H2_ := (Option.bind_some _ _).symm.trans H; with_reducible exact H2_) | with_reducible exact H | (rw [hy375]; exact H) | exact H
             have Ny375 := Aside0.mk hy375
             clear hy375
             have H' := Aside0.mk H
             clear H
             go_wp2_with (first | ((with_reducible refine gate_callee (f := 57) rfl ?_); refine goesL_ (some 48) rfl rfl Tryz.func57 (by kernel_rfl) rfl #[.int .i64 a0, .int .i64 a1, .int .i64 a2, .int .i64 a3, .int .i64 x10_3] rfl zL ?_; (with_reducible refine (smaltoref05_In.calls a0 a1 a2 a3 x10_3 true _ A12.out).mono ?_); rintro e w' ⟨rfl, ⟨nd, rfl⟩⟩; refine ⟨_, rfl, ?_⟩) | ((with_reducible refine gate_callee (f := 58) rfl ?_); refine goesL_ (some 55) rfl rfl Tryz.func58 (by kernel_rfl) rfl #[.int .i64 a0, .int .i64 a1, .int .i64 a2, .int .i64 a3, .int .i64 x10_3] rfl zL ?_; (with_reducible refine (smaltoref05_Weight.calls k3 a0 a1 a2 a3 x10_3 t374 _ A14.out).mono ?_); rintro e w16 ⟨rfl, hb⟩; refine ⟨_, rfl, ?_⟩; obtain ⟨HO_12, HB⟩ := zA2 (Kd.R_below (by (with_reducible repeat (first | apply Kd.R_alloc | apply Kd.R_drewN | apply Kd.R_drew)); exact HO_12.out) hb) (below_step zB hb); (try clear hb)) | ((with_reducible refine gate_builtin (b := .append) (xs := #[.tmp 49, .tmp 56]) rfl ?_); at_builtin; refine Kd.R_append (Kd.int .i64) (w0 := w) w.heap.size rfl (.tmp 49) (.tmp 56) 24 2 (.int .i64 0) 8 rfl Tryz.underlying24 info2 rfl (by decide) (by omega) u12 x12_3 t374 [.int .i64 t374] (fun _ => True) (fun _ => False) rfl rfl ?aP (fun _ hk => hk.elim) ?aF ?aO ?aB ?aS ?aL ?_; (case aP => exact rfl); (case aB => exact zB); (case aF => exact (fun _ _ => trivial)); (case aO => exact (by (with_reducible repeat (first | apply Kd.R_alloc | apply Kd.R_drewN | apply Kd.R_drew)); exact HO_12.out)); (case aS => exact (below_size zB)); (case aL => have := LMc15.out; omega); intro v376 w17 ho hb hg hat; rw [← Ny375.out] at ho; obtain ⟨HB, HO377⟩ := zA2 hb ho; clear ho hb hg hat))
             go_roundg k3
             case measure => have := HK1.out; have := HK2.out; have := HK3.out; omega
             case rel => exact ⟨(wrap64 (x10_3 + 1)), (y375), zT, H', ⟨by have := HK1.out; have := HK2.out; have := HK3.out; omega⟩, ⟨by (with_reducible repeat (first | apply Kd.R_alloc | apply Kd.R_drewN | apply Kd.R_drew)); exact HO377.out⟩, ⟨zB⟩⟩
            ·rw [if_neg c15] at H
             exact absurd H (by simp)
           ·replace c13 := Bool.eq_false_iff.mpr c13
            subst c13
            rw [if_neg (show ¬ (false = true) by decide)] at H; try dsimp only at H
            simp only [Option.some.injEq, Prod.mk.injEq] at H
            obtain ⟨rfl, rfl⟩ := H
            go_wp2_with (first | ((with_reducible refine gate_callee (f := 57) rfl ?_); refine goesL_ (some 48) rfl rfl Tryz.func57 (by kernel_rfl) rfl #[.int .i64 a0, .int .i64 a1, .int .i64 a2, .int .i64 a3, .int .i64 x10_3] rfl zL ?_; (with_reducible refine (smaltoref05_In.calls a0 a1 a2 a3 x10_3 false _ A12.out).mono ?_); rintro e w' ⟨rfl, ⟨nd, rfl⟩⟩; refine ⟨_, rfl, ?_⟩))
            go_ret2
            exact ⟨_, zS, by (with_reducible repeat (first | apply Kd.R_alloc | apply Kd.R_drewN | apply Kd.R_drew)); exact HO_12.out, zB⟩
        ·replace c11 := Bool.eq_false_iff.mpr c11
         subst c11
         rw [if_neg (show ¬ (false = true) by decide)] at H; try dsimp only at H
         have H' := Aside0.mk H
         clear H
         go_wp2_with (first | ((with_reducible refine gate_callee (f := 57) rfl ?_); refine goesL_ (some 38) rfl rfl Tryz.func57 (by kernel_rfl) rfl #[.int .i64 a0, .int .i64 a1, .int .i64 a2, .int .i64 a3, .int .i64 x10_2] rfl zL ?_; (with_reducible refine (smaltoref05_In.calls a0 a1 a2 a3 x10_2 false _ A10.out).mono ?_); rintro e w' ⟨rfl, ⟨nd, rfl⟩⟩; refine ⟨_, rfl, ?_⟩))
         go_roundg k2
         case measure => have := HK1.out; have := HK2.out; omega
         case rel => exact ⟨(wrap64 (x10_2 + 1)), zT, H', ⟨by have := HK1.out; have := HK2.out; omega⟩, ⟨zB⟩⟩
 ·replace c6 := Bool.eq_false_iff.mpr c6
  subst c6
  rw [if_neg (show ¬ (false = true) by decide)] at H; try dsimp only at H
  simp only [Option.some.injEq, Prod.mk.injEq] at H
  obtain ⟨rfl, rfl⟩ := H
  go_enter Tryz.func42, Tryz.ntmps42
  go_wp2_with (first | ((with_reducible refine gate_callee (f := 56) rfl ?_); refine goesL_ (some 17) rfl rfl Tryz.func56 (by kernel_rfl) rfl #[.int .i64 a0, .int .i64 a1, .int .i64 a2, .int .i64 a3] rfl zL ?_; (with_reducible refine (smaltoref05_May.calls a0 a1 a2 a3 false _ A5.out).mono ?_); rintro e w' ⟨rfl, ⟨nd, rfl⟩⟩; refine ⟨_, rfl, ?_⟩))
  go_ret2
  exact ⟨_, zS, by first | exact Kd.R_nil _ _ _ _ _ | exact Kd.N_nil _ _ _ _ _ | exact Kd.V_nil _ _ _ _ _ | exact Kd.Q_nil _ _ _ _ _ | exact Kd.S_nil _ _ _ _ _, zB⟩
def smaltoref06_Size.f (a0 : Int) : Option (Int) := if a0 ≥ 0 then (some a0) else (if a0 < (-9223372036854775807) then (some 9223372036854775807) else (some (wrap64 (-a0))))
set_option maxHeartbeats 8000000 in
set_option maxRecDepth 100000 in
theorem smaltoref06_Size.calls (a0 r : Int) (w : World) (h : smaltoref06_Size.f a0 = some r) :
  Calls Tryz.prog 59 #[.int .i64 a0] w fun e w' => e = .returned (.int .i64 r) ∧ Drawn0 w w' := by
 have H := h
 clear h
 unfold smaltoref06_Size.f at H
 by_cases c2 : a0 ≥ 0
 ·rw [if_pos c2] at H
  have c2b0 := decide_eq_true c2
  clear c2
  obtain rfl := Option.some.inj H
  go_enter Tryz.func59, Tryz.ntmps59
  go_wp2
  go_ret
  exact ⟨zT, zW⟩
 ·rw [if_neg c2] at H
  have c2b0 := decide_eq_false c2
  clear c2
  by_cases c3 : a0 < (-9223372036854775807)
  ·rw [if_pos c3] at H
   have c3b0 := decide_eq_true c3
   clear c3
   obtain rfl := Option.some.inj H
   go_enter Tryz.func59, Tryz.ntmps59
   go_wp2
   go_ret
   exact ⟨zT, zW⟩
  ·rw [if_neg c3] at H
   have c3b0 := decide_eq_false c3
   clear c3
   obtain rfl := Option.some.inj H
   go_enter Tryz.func59, Tryz.ntmps59
   go_wp2
   go_ret
   exact ⟨zT, zW⟩
end Go.Proofs.YtebipmdopdogkaaGreatDoor.QA
