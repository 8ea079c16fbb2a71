/- Joined by wip/tools/bundle.py out of: QAx33 QAx34 QAx35 QAx36 QAx37 QAx38. -/
import Derived.Test.YtebipmdopdogkaaGreatDoorBOpMakes0
import Derived.Test.YtebipmdopdogkaaGreatDoorBOpMakes1
import Derived.Test.YtebipmdopdogkaaGreatDoorBOpMakes7
import Derived.Test.YtebipmdopdogkaaGreatDoorBOpMakes8
namespace Go.Proofs.YtebipmdopdogkaaGreatDoor.QA
open Go.Proofs.YtebipmdopdogkaaGreatDoor.T
open Go.RowKit Go.Proofs.YtebipmdopdogkaaGreatDoorW.PrintWords Go.Proofs.YtebipmdopdogkaaGreatDoorW.PrintLast Go.Proofs.YtebipmdopdogkaaGreatDoorW.PrintMore
attribute [local go_sem] ext_call max2_int min2_int max_two min_two
set_option linter.unusedVariables false
set_option linter.unusedSimpArgs false
def smaltoref06_plus.j0 : Nat → Int → Int → Bool → Option (Int)
 | 0, _, _, _ => none
 | k + 1, x0, x1, x12 => if x12 = true then (some 9223372036854775807) else (if x1 < 0 then (if x0 < (wrap64 ((-9223372036854775808) - x1)) then (some (-9223372036854775808)) else (some (wrap64 (x0 + x1)))) else (some (wrap64 (x0 + x1))))
def smaltoref06_plus.f (k : Nat) (a0 a1 : Int) : Option (Int) := if a1 > 0 then (smaltoref06_plus.j0 k a0 a1 (decide (a0 > (wrap64 (9223372036854775807 - a1))))) else (smaltoref06_plus.j0 k a0 a1 false)
set_option maxHeartbeats 8000000 in
set_option maxRecDepth 100000 in
theorem smaltoref06_plus.calls (k : Nat) (a0 a1 r : Int) (w : World) (h : smaltoref06_plus.f k a0 a1 = some r) :
  Calls Tryz.prog 65 #[.int .i64 a0, .int .i64 a1] w fun e w' => e = .returned (.int .i64 r) ∧ Drawn0 w w' := by
 have H := h
 clear h
 unfold smaltoref06_plus.f at H
 have HC3 := Aside0.mk H
 clear H
 go_enter Tryz.func65, Tryz.ntmps65
 go_upto_region 1 with (fail)
 go_cut [12] (fun v12 wc => ∃ (kq : Nat) (x12_2 : Bool), v12 = .bool x12_2 ∧ Aside0 (smaltoref06_plus.j0 kq a0 a1 x12_2 = some r) ∧ Aside0 (kq ≤ k) ∧ Drawn0 w wc)
 case first =>
  have H := HC3.out
  clear HC3
  by_cases c4 : a1 > 0
  ·rw [if_pos c4] at H
   have c4b0 := decide_eq_true c4
   clear c4
   (first | rw [c4b0] | (simp only [i64_w, i32_w]; rw [c4b0]) | skip)
   have H' := Aside0.mk H
   clear H
   go_wp2
   go_meet
   case rel => exact ⟨_, (decide (a0 > (wrap64 (9223372036854775807 - a1)))), zT, H', ⟨by first | omega | exact Nat.le_refl _⟩, zW⟩
  ·rw [if_neg c4] at H
   have c4b0 := decide_eq_false c4
   clear c4
   (first | rw [c4b0] | (simp only [i64_w, i32_w]; rw [c4b0]) | skip)
   have H' := Aside0.mk H
   clear H
   go_wp2
   go_meet
   case rel => exact ⟨_, (false), zT, H', ⟨by first | omega | exact Nat.le_refl _⟩, zW⟩
 case rest =>
  clear HC3
  obtain ⟨kq, x12_2, rfl, HA, HJ2, ⟨mc2, rfl⟩⟩ := hcut
  cases kq with
  | zero => exact absurd HA.out (by simp [smaltoref06_plus.j0])
  | succ kj2 =>
   have H := HA.out
   clear HA
   simp only [smaltoref06_plus.j0] at H
   by_cases c5 : x12_2 = true
   ·subst c5
    rw [if_pos rfl] at H; try dsimp only at H
    obtain rfl := Option.some.inj H
    go_wp2
    go_ret
    exact ⟨zT, zW⟩
   ·replace c5 := Bool.eq_false_iff.mpr c5
    subst c5
    rw [if_neg (show ¬ (false = true) by decide)] at H; try dsimp only at H
    by_cases c6 : a1 < 0
    ·rw [if_pos c6] at H
     have c6b0 := decide_eq_true c6
     clear c6
     by_cases c7 : a0 < (wrap64 ((-9223372036854775808) - a1))
     ·rw [if_pos c7] at H
      have c7b0 := decide_eq_true c7
      clear c7
      obtain rfl := Option.some.inj H
      go_wp2
      go_ret
      exact ⟨zT, zW⟩
     ·rw [if_neg c7] at H
      have c7b0 := decide_eq_false c7
      clear c7
      obtain rfl := Option.some.inj H
      go_wp2
      go_ret
      exact ⟨zT, zW⟩
    ·rw [if_neg c6] at H
     have c6b0 := decide_eq_false c6
     clear c6
     obtain rfl := Option.some.inj H
     go_wp2
     go_ret
     exact ⟨zT, zW⟩
def smaltoref06_Sum.l0 : Nat → Int → List Int → Int → Int → Option (Int)
 | 0, _, _, _, _ => none
 | k + 1, x3, x6, x7, x8 => if x8 < x7 then (if 0 ≤ x8 then (if x8 < (x6.length : Int) then ((smaltoref06_plus.f k x3 (rd x6 x8)).bind fun t379 => (smaltoref06_Sum.l0 k t379 x6 x7 (wrap64 (x8 + 1)))) else (none)) else (none)) else (some x3)
def smaltoref06_Sum.f (k : Nat) (l0 : List Int) : Option (Int) := smaltoref06_Sum.l0 k 0 l0 (l0.length : Int) 0
set_option maxHeartbeats 8000000 in
set_option maxRecDepth 100000 in
theorem smaltoref06_Sum.calls (k : Nat) (A0 : Option Addr) (c0 : Nat) (l0 : List Int) (r : Int) (w : World) (hr0 : Kd.C (Kd.int .i64) w A0 l0.length l0) (hc0 : l0.length ≤ c0) (h : smaltoref06_Sum.f k l0 = some r) :
  Calls Tryz.prog 60 #[.slice A0 l0.length c0] w fun e w' => e = .returned (.int .i64 r) ∧ Drawn0 w w' := by
 have HR0 := Aside0.mk hr0
 have HC0 := Aside0.mk hc0
 clear hr0 hc0
 have H := h
 clear h
 unfold smaltoref06_Sum.f at H
 have H' := Aside0.mk H
 clear H
 go_enter Tryz.func60, Tryz.ntmps60
 go_wp2
 go_loopg [3, 8] k (fun kq v3 v8 w' => ∃ (x3_1 : Int) (x8_1 : Int), v3 = .int .i64 x3_1 ∧ v8 = .int .i64 x8_1 ∧ Aside0 (smaltoref06_Sum.l0 kq x3_1 l0 (l0.length : Int) x8_1 = some r) ∧ Aside0 (kq ≤ k) ∧ Drawn0 w w')
 case atStart => exact ⟨(0), (0), zT, zT, H', ⟨Nat.le_refl _⟩, zW⟩
 case round =>
  clear H'
  obtain ⟨x3_1, x8_1, rfl, rfl, HA, HK1, ⟨m1, rfl⟩⟩ := hrel
  cases gk with
  | zero => exact absurd HA.out (by simp [smaltoref06_Sum.l0])
  | succ k1 =>
   have H := HA.out
   clear HA
   simp only [smaltoref06_Sum.l0] at H
   by_cases c2 : x8_1 < (l0.length : Int)
   ·rw [if_pos c2] at H
    have c2b0 := decide_eq_true c2
    clear c2
    by_cases c3 : 0 ≤ x8_1
    ·rw [if_pos c3] at H
     have c3b0 := decide_eq_true c3
     clear c3
     by_cases c4 : x8_1 < (l0.length : Int)
     ·rw [if_pos c4] at H
      have c4b0 := decide_eq_true c4
      clear c4
      replace H := zO H
      obtain ⟨t379, A5, H⟩ := H
      try dsimp only at H
      have H' := Aside0.mk H
      clear H
      have p378 : 0 ≤ (x8_1 : Int) := of_decide_eq_true (by first | (with_reducible assumption) | assumption)
      have q378 : x8_1 < (l0.length : Int) := of_decide_eq_true (by first | (with_reducible assumption) | assumption)
      obtain ⟨ad378, e378, hx378_0⟩ := Kd.at_int HR0.out x8_1 p378 q378
      cases e378
      replace p378 := eq_true p378
      replace q378 := eq_true q378
      go_wp2_with (first | ((with_reducible refine gate_callee (f := 65) rfl ?_); refine goesL_ (some 14) rfl rfl Tryz.func65 (by kernel_rfl) rfl #[.int .i64 x3_1, .int .i64 (rd l0 x8_1)] rfl zL ?_; (with_reducible refine (smaltoref06_plus.calls k1 x3_1 (rd l0 x8_1) t379 _ A5.out).mono ?_); rintro e w' ⟨rfl, ⟨nd, rfl⟩⟩; refine ⟨_, rfl, ?_⟩))
      go_roundg k1
      case measure => have := HK1.out; omega
      case rel => exact ⟨(t379), (wrap64 (x8_1 + 1)), zT, zT, H', ⟨by have := HK1.out; omega⟩, zW⟩
     ·rw [if_neg c4] at H
      exact absurd H (by simp)
    ·rw [if_neg c3] at H
     exact absurd H (by simp)
   ·rw [if_neg c2] at H
    have c2b0 := decide_eq_false c2
    clear c2
    obtain rfl := Option.some.inj H
    go_wp2
    go_ret
    exact ⟨zT, zW⟩
end Go.Proofs.YtebipmdopdogkaaGreatDoor.QA

namespace Go.Proofs.YtebipmdopdogkaaGreatDoor.QA
open Go.Proofs.YtebipmdopdogkaaGreatDoor.T
open Go.RowKit Go.Proofs.YtebipmdopdogkaaGreatDoorW.PrintWords Go.Proofs.YtebipmdopdogkaaGreatDoorW.PrintLast Go.Proofs.YtebipmdopdogkaaGreatDoorW.PrintMore
attribute [local go_sem] ext_call max2_int min2_int max_two min_two
set_option linter.unusedVariables false
set_option linter.unusedSimpArgs false
def smaltoref01_Floor.j0 : Nat → Bool → Bool → Int → Int → Option (Int)
 | 0, _, _, _, _ => none
 | k + 1, x7, x28, x386000, x386001 => if x28 = true then ((smaltoref01_Plus.f x386000 x386001 0 1).bind fun bt386 => ((smaltoref01_Hold.f k bt386.1 bt386.2 x7).bind fun t388 => (some t388))) else ((smaltoref01_Hold.f k x386000 x386001 x7).bind fun t389 => (some t389))
def smaltoref01_Floor.f (k : Nat) (a0 a1 : Int) : Option (Int) := if a1 = 0 then (some 0) else ((smaltoref01_Size.f a0).bind fun t380 => ((smaltoref01_Size.f a1).bind fun t381 => ((smaltoref01_Over.f k 0 t380 t381).bind fun bt382 => (if ((decide (a0 < 0)) != (decide (a1 < 0))) = true then (smaltoref01_Floor.j0 k ((decide (a0 < 0)) != (decide (a1 < 0))) (decide (bt382.2.2 > 0)) bt382.1 bt382.2.1) else (smaltoref01_Floor.j0 k ((decide (a0 < 0)) != (decide (a1 < 0))) false bt382.1 bt382.2.1)))))
set_option maxHeartbeats 8000000 in
set_option maxRecDepth 100000 in
theorem smaltoref01_Floor.calls (k : Nat) (a0 a1 r : Int) (w : World) (h : smaltoref01_Floor.f k a0 a1 = some r) :
  Calls Tryz.prog 61 #[.int .i64 a0, .int .i64 a1] w fun e w' => e = .returned (.int .i64 r) ∧ Below w.heap.size w w' := by
 have hu113 := Tryz.underlying113
 have HB := Aside0.mk (Below.refl w.heap.size w)
 have H := h
 clear h
 unfold smaltoref01_Floor.f at H
 by_cases c3 : a1 = 0
 ·rw [if_pos c3] at H
  have c3b0 : (a1 == 0) = true := beq_iff_eq.mpr c3
  have c3b1 : (a1 != 0) = false := bne_eq_false_iff_eq.mpr c3
  clear c3
  obtain rfl := Option.some.inj H
  go_enter Tryz.func61, Tryz.ntmps61
  go_wp2
  go_ret
  exact ⟨zS, zB⟩
 ·rw [if_neg c3] at H
  have c3b0 : (a1 == 0) = false := beq_eq_false_iff_ne.mpr c3
  have c3b1 : (a1 != 0) = true := bne_iff_ne.mpr c3
  replace H := zO H
  obtain ⟨t380, A4, H⟩ := H
  try dsimp only at H
  replace H := zO H
  obtain ⟨t381, A5, H⟩ := H
  try dsimp only at H
  replace H := zO H
  obtain ⟨⟨t382, t383, t384⟩, A6, H⟩ := H
  try dsimp only at H
  rcases Bool.eq_false_or_eq_true ((decide (a0 < 0)) != (decide (a1 < 0))) with hsv | hsv
  ·have hsvb0 : ((decide (a0 < 0)) != (decide (a1 < 0))) = true := hsv
   have hsvb2 : ((decide (a0 < 0)) == (decide (a1 < 0))) = false := by simpa using hsv
   have HC7 := Aside0.mk H
   clear H
   go_enter Tryz.func61, Tryz.ntmps61
   go_upto_region 5 with (first | ((with_reducible refine gate_callee (f := 67) rfl ?_); refine goesL_ (some 12) rfl rfl Tryz.func67 (by kernel_rfl) rfl #[.int .i64 a0] rfl zL ?_; (with_reducible refine (smaltoref01_Size.calls a0 t380 _ A4.out).mono ?_); rintro e w' ⟨rfl, ⟨nd, rfl⟩⟩; refine ⟨_, rfl, ?_⟩) | ((with_reducible refine gate_callee (f := 67) rfl ?_); refine goesL_ (some 15) rfl rfl Tryz.func67 (by kernel_rfl) rfl #[.int .i64 a1] rfl zL ?_; (with_reducible refine (smaltoref01_Size.calls a1 t381 _ A5.out).mono ?_); rintro e w' ⟨rfl, ⟨nd, rfl⟩⟩; refine ⟨_, rfl, ?_⟩) | ((with_reducible refine gate_callee (f := 85) rfl ?_); refine goesL_ (some 16) rfl rfl Tryz.func85 (by kernel_rfl) rfl #[.agg #[.int .u64 0, .int .u64 t380], .int .u64 t381] rfl zL ?_; (with_reducible refine (smaltoref01_Over.calls k 0 t380 t381 t382 t383 t384 _ A6.out).mono ?_); rintro e w8 ⟨rfl, hb⟩; refine ⟨_, rfl, ?_⟩; replace HB := Aside0.mk (below_step zB hb); (try clear hb)) | ((with_reducible refine gate_dst (N := 5) rfl ?_); refine box_event zR (N := 5) zR (cs := #[.int .u64 0, .int .u64 0]) (t := 113) zG ?_; intro gb385 hg w9 hbox hb; obtain ⟨HB, BK385, GW385, GE385⟩ := zA4 (below_step zB hb) hbox (zg hg zB) (zg hg zB); clear hb hbox hg; obtain ⟨_, _⟩ := zC2 BK385.out; obtain ⟨_, _⟩ := zF2 BK385.out))
   (try simp only [Act.put, List.setIfInBounds_toArray, List.set_cons_zero, List.set_cons_succ])
   go_cut [28] (fun v28 wc => ∃ (kq : Nat) (x28_6 : Bool), v28 = .bool x28_6 ∧ Aside0 (smaltoref01_Floor.j0 kq ((decide (a0 < 0)) != (decide (a1 < 0))) x28_6 t382 t383 = some r) ∧ Aside0 (kq ≤ k) ∧ Aside0 (wc.heap[gb385]? = some (.cells #[.int .u64 t382, .int .u64 t383] 113 (0, 0))) ∧ Aside0 (Below w.heap.size w wc))
   case first =>
    have H := HC7.out
    clear HC7
    by_cases c11 : ((decide (a0 < 0)) != (decide (a1 < 0))) = true
    ·rw [if_pos c11] at H
     have c11b0 : ((decide (a0 < 0)) != (decide (a1 < 0))) = true := c11
     (try (have c11b1 : decide ((decide (a0 < 0)) = (decide (a1 < 0))) = false := by simpa using c11))
     (try (have c11b2 : ((decide (a0 < 0)) == (decide (a1 < 0))) = false := by simpa using c11))
     (try (have c11b3 : ¬ ((decide (a0 < 0)) = (decide (a1 < 0))) := by simpa using c11))
     clear c11
     (first | rw [c11b0] | (simp only [i64_w, i32_w]; rw [c11b0]) | skip)
     have H' := Aside0.mk H
     clear H
     go_wp2
     go_meet
     case rel => exact ⟨_, (decide (t384 > 0)), zT, H', ⟨by first | omega | exact Nat.le_refl _⟩, ⟨by refine zD ?_; refine blk_put (cs := #[.int .u64 t382, .int .u64 0]) ?_ 1 _ rfl; refine zD ?_; refine blk_put (cs := #[.int .u64 0, .int .u64 0]) ?_ 0 _ rfl; refine zD ?_; exact BK385.out⟩, ⟨zB⟩⟩
    ·rw [if_neg c11] at H
     have c11b0 : ((decide (a0 < 0)) != (decide (a1 < 0))) = false := by simpa using c11
     exact absurd (hsvb0.symm.trans c11b0) (by decide)
   case rest =>
    clear HC7
    obtain ⟨kq, x28_6, rfl, HA, HJ6, BK385, HB⟩ := hcut
    cases kq with
    | zero => exact absurd HA.out (by simp [smaltoref01_Floor.j0])
    | succ kj6 =>
     have H := HA.out
     clear HA
     simp only [smaltoref01_Floor.j0] at H
     by_cases c12 : x28_6 = true
     ·subst c12
      rw [if_pos rfl] at H; try dsimp only at H
      replace H := zO H
      obtain ⟨⟨t386, t387⟩, A13, H⟩ := H
      try dsimp only at H
      replace H := zO H
      obtain ⟨t388, A14, H⟩ := H
      try dsimp only at H
      obtain rfl := Option.some.inj H
      obtain ⟨_, _⟩ := zC2 BK385.out
      obtain ⟨_, _⟩ := zF2 BK385.out
      go_wp2_with (first | ((with_reducible refine gate_callee (f := 86) rfl ?_); refine goesL_ (some 31) rfl rfl Tryz.func86 (by kernel_rfl) rfl #[.agg #[.int .u64 t382, .int .u64 t383], .agg #[.int .u64 0, .int .u64 1]] rfl zL ?_; (with_reducible refine (smaltoref01_Plus.calls t382 t383 0 1 t386 t387 _ A13.out).mono ?_); rintro e w16 ⟨rfl, hb⟩; refine ⟨_, rfl, ?_⟩; obtain ⟨BK385, HB⟩ := zA2 (blk_below (zK BK385) hb) (below_step zB hb); (try clear hb); obtain ⟨_, _⟩ := zC2 BK385.out; obtain ⟨_, _⟩ := zF2 BK385.out) | ((with_reducible refine gate_callee (f := 87) rfl ?_); refine goesL_ (some 34) rfl rfl Tryz.func87 (by kernel_rfl) rfl #[.agg #[.int .u64 t386, .int .u64 t387], .bool true] rfl zL ?_; (with_reducible refine (smaltoref01_Hold.calls kj6 t386 t387 true t388 _ (by have h := A14.out; rw [hsvb0] at h; exact h)).mono ?_); rintro e w18 ⟨rfl, hb⟩; refine ⟨_, rfl, ?_⟩; obtain ⟨BK385, HB⟩ := zA2 (blk_below (g := gb385) (o := .cells #[.int .u64 t386, .int .u64 t387] 113 (0, 0)) (by refine zD ?_; refine blk_put (cs := #[.int .u64 t386, .int .u64 t383]) ?_ 1 _ rfl; refine zD ?_; refine blk_put (cs := #[.int .u64 t382, .int .u64 t383]) ?_ 0 _ rfl; refine zD ?_; exact BK385.out) hb) (below_step zB hb); (try clear hb)))
      go_ret
      exact ⟨zS, zB⟩
     ·replace c12 := Bool.eq_false_iff.mpr c12
      subst c12
      rw [if_neg (show ¬ (false = true) by decide)] at H; try dsimp only at H
      replace H := zO H
      obtain ⟨t389, A19, H⟩ := H
      try dsimp only at H
      obtain rfl := Option.some.inj H
      obtain ⟨_, _⟩ := zC2 BK385.out
      obtain ⟨_, _⟩ := zF2 BK385.out
      go_wp2_with (first | ((with_reducible refine gate_callee (f := 87) rfl ?_); refine goesL_ (some 34) rfl rfl Tryz.func87 (by kernel_rfl) rfl #[.agg #[.int .u64 t382, .int .u64 t383], .bool true] rfl zL ?_; (with_reducible refine (smaltoref01_Hold.calls kj6 t382 t383 true t389 _ (by have h := A19.out; rw [hsvb0] at h; exact h)).mono ?_); rintro e w21 ⟨rfl, hb⟩; refine ⟨_, rfl, ?_⟩; obtain ⟨BK385, HB⟩ := zA2 (blk_below (zK BK385) hb) (below_step zB hb); (try clear hb)))
      go_ret
      exact ⟨zS, zB⟩
  ·have hsvb0 : ((decide (a0 < 0)) != (decide (a1 < 0))) = false := hsv
   have hsvb2 : ((decide (a0 < 0)) == (decide (a1 < 0))) = true := by simpa using hsv
   have HC7 := Aside0.mk H
   clear H
   go_enter Tryz.func61, Tryz.ntmps61
   go_upto_region 5 with (first | ((with_reducible refine gate_callee (f := 67) rfl ?_); refine goesL_ (some 12) rfl rfl Tryz.func67 (by kernel_rfl) rfl #[.int .i64 a0] rfl zL ?_; (with_reducible refine (smaltoref01_Size.calls a0 t380 _ A4.out).mono ?_); rintro e w' ⟨rfl, ⟨nd, rfl⟩⟩; refine ⟨_, rfl, ?_⟩) | ((with_reducible refine gate_callee (f := 67) rfl ?_); refine goesL_ (some 15) rfl rfl Tryz.func67 (by kernel_rfl) rfl #[.int .i64 a1] rfl zL ?_; (with_reducible refine (smaltoref01_Size.calls a1 t381 _ A5.out).mono ?_); rintro e w' ⟨rfl, ⟨nd, rfl⟩⟩; refine ⟨_, rfl, ?_⟩) | ((with_reducible refine gate_callee (f := 85) rfl ?_); refine goesL_ (some 16) rfl rfl Tryz.func85 (by kernel_rfl) rfl #[.agg #[.int .u64 0, .int .u64 t380], .int .u64 t381] rfl zL ?_; (with_reducible refine (smaltoref01_Over.calls k 0 t380 t381 t382 t383 t384 _ A6.out).mono ?_); rintro e w8 ⟨rfl, hb⟩; refine ⟨_, rfl, ?_⟩; replace HB := Aside0.mk (below_step zB hb); (try clear hb)) | ((with_reducible refine gate_dst (N := 5) rfl ?_); refine box_event zR (N := 5) zR (cs := #[.int .u64 0, .int .u64 0]) (t := 113) zG ?_; intro gb385 hg w9 hbox hb; obtain ⟨HB, BK385, GW385, GE385⟩ := zA4 (below_step zB hb) hbox (zg hg zB) (zg hg zB); clear hb hbox hg; obtain ⟨_, _⟩ := zC2 BK385.out; obtain ⟨_, _⟩ := zF2 BK385.out))
   (try simp only [Act.put, List.setIfInBounds_toArray, List.set_cons_zero, List.set_cons_succ])
   go_cut [28] (fun v28 wc => ∃ (kq : Nat) (x28_6 : Bool), v28 = .bool x28_6 ∧ Aside0 (smaltoref01_Floor.j0 kq ((decide (a0 < 0)) != (decide (a1 < 0))) x28_6 t382 t383 = some r) ∧ Aside0 (kq ≤ k) ∧ Aside0 (wc.heap[gb385]? = some (.cells #[.int .u64 t382, .int .u64 t383] 113 (0, 0))) ∧ Aside0 (Below w.heap.size w wc))
   case first =>
    have H := HC7.out
    clear HC7
    by_cases c11 : ((decide (a0 < 0)) != (decide (a1 < 0))) = true
    ·rw [if_pos c11] at H
     have c11b0 : ((decide (a0 < 0)) != (decide (a1 < 0))) = true := c11
     exact absurd (hsvb0.symm.trans c11b0) (by decide)
    ·rw [if_neg c11] at H
     have c11b0 : ((decide (a0 < 0)) != (decide (a1 < 0))) = false := by simpa using c11
     (try (have c11b1 : decide ((decide (a0 < 0)) = (decide (a1 < 0))) = true := by simpa using c11))
     (try (have c11b2 : ((decide (a0 < 0)) == (decide (a1 < 0))) = true := by simpa using c11))
     clear c11
     (first | rw [c11b0] | (simp only [i64_w, i32_w]; rw [c11b0]) | skip)
     have H' := Aside0.mk H
     clear H
     go_wp2
     go_meet
     case rel => exact ⟨_, (false), zT, H', ⟨by first | omega | exact Nat.le_refl _⟩, ⟨by refine zD ?_; refine blk_put (cs := #[.int .u64 t382, .int .u64 0]) ?_ 1 _ rfl; refine zD ?_; refine blk_put (cs := #[.int .u64 0, .int .u64 0]) ?_ 0 _ rfl; refine zD ?_; exact BK385.out⟩, ⟨zB⟩⟩
   case rest =>
    clear HC7
    obtain ⟨kq, x28_6, rfl, HA, HJ6, BK385, HB⟩ := hcut
    cases kq with
    | zero => exact absurd HA.out (by simp [smaltoref01_Floor.j0])
    | succ kj6 =>
     have H := HA.out
     clear HA
     simp only [smaltoref01_Floor.j0] at H
     by_cases c12 : x28_6 = true
     ·subst c12
      rw [if_pos rfl] at H; try dsimp only at H
      replace H := zO H
      obtain ⟨⟨t386, t387⟩, A13, H⟩ := H
      try dsimp only at H
      replace H := zO H
      obtain ⟨t388, A14, H⟩ := H
      try dsimp only at H
      obtain rfl := Option.some.inj H
      obtain ⟨_, _⟩ := zC2 BK385.out
      obtain ⟨_, _⟩ := zF2 BK385.out
      go_wp2_with (first | ((with_reducible refine gate_callee (f := 86) rfl ?_); refine goesL_ (some 31) rfl rfl Tryz.func86 (by kernel_rfl) rfl #[.agg #[.int .u64 t382, .int .u64 t383], .agg #[.int .u64 0, .int .u64 1]] rfl zL ?_; (with_reducible refine (smaltoref01_Plus.calls t382 t383 0 1 t386 t387 _ A13.out).mono ?_); rintro e w16 ⟨rfl, hb⟩; refine ⟨_, rfl, ?_⟩; obtain ⟨BK385, HB⟩ := zA2 (blk_below (zK BK385) hb) (below_step zB hb); (try clear hb); obtain ⟨_, _⟩ := zC2 BK385.out; obtain ⟨_, _⟩ := zF2 BK385.out) | ((with_reducible refine gate_callee (f := 87) rfl ?_); refine goesL_ (some 34) rfl rfl Tryz.func87 (by kernel_rfl) rfl #[.agg #[.int .u64 t386, .int .u64 t387], .bool false] rfl zL ?_; (with_reducible refine (smaltoref01_Hold.calls kj6 t386 t387 false t388 _ (by have h := A14.out; rw [hsvb0] at h; exact h)).mono ?_); rintro e w18 ⟨rfl, hb⟩; refine ⟨_, rfl, ?_⟩; obtain ⟨BK385, HB⟩ := zA2 (blk_below (g := gb385) (o := .cells #[.int .u64 t386, .int .u64 t387] 113 (0, 0)) (by refine zD ?_; refine blk_put (cs := #[.int .u64 t386, .int .u64 t383]) ?_ 1 _ rfl; refine zD ?_; refine blk_put (cs := #[.int .u64 t382, .int .u64 t383]) ?_ 0 _ rfl; refine zD ?_; exact BK385.out) hb) (below_step zB hb); (try clear hb)))
      go_ret
      exact ⟨zS, zB⟩
     ·replace c12 := Bool.eq_false_iff.mpr c12
      subst c12
      rw [if_neg (show ¬ (false = true) by decide)] at H; try dsimp only at H
      replace H := zO H
      obtain ⟨t389, A19, H⟩ := H
      try dsimp only at H
      obtain rfl := Option.some.inj H
      obtain ⟨_, _⟩ := zC2 BK385.out
      obtain ⟨_, _⟩ := zF2 BK385.out
      go_wp2_with (first | ((with_reducible refine gate_callee (f := 87) rfl ?_); refine goesL_ (some 34) rfl rfl Tryz.func87 (by kernel_rfl) rfl #[.agg #[.int .u64 t382, .int .u64 t383], .bool false] rfl zL ?_; (with_reducible refine (smaltoref01_Hold.calls kj6 t382 t383 false t389 _ (by have h := A19.out; rw [hsvb0] at h; exact h)).mono ?_); rintro e w21 ⟨rfl, hb⟩; refine ⟨_, rfl, ?_⟩; obtain ⟨BK385, HB⟩ := zA2 (blk_below (zK BK385) hb) (below_step zB hb); (try clear hb)))
      go_ret
      exact ⟨zS, zB⟩
end Go.Proofs.YtebipmdopdogkaaGreatDoor.QA

namespace Go.Proofs.YtebipmdopdogkaaGreatDoor.QA
open Go.Proofs.YtebipmdopdogkaaGreatDoor.T
open Go.RowKit Go.Proofs.YtebipmdopdogkaaGreatDoorW.PrintWords Go.Proofs.YtebipmdopdogkaaGreatDoorW.PrintLast Go.Proofs.YtebipmdopdogkaaGreatDoorW.PrintMore
attribute [local go_sem] ext_call max2_int min2_int max_two min_two
set_option linter.unusedVariables false
set_option linter.unusedSimpArgs false
mutual
def smaltoref06_Apportion.j0 : Nat → List Int → Bool → Option (List Int × Int)
 | 0, _, _ => none
 | k + 1, x0, x22 => if x22 = true then (some (([] : List Int), 7)) else (smaltoref06_Apportion.l0 k x0 x0 (x0.length : Int) 0)
def smaltoref06_Apportion.l0 : Nat → List Int → List Int → Int → Int → Option (List Int × Int)
 | 0, _, _, _, _ => none
 | k + 1, x0, x23, x24, x25 => if x25 < x24 then (if 0 ≤ x25 then (if x25 < (x23.length : Int) then ((smaltoref06_Size.f (rd x23 x25)).bind fun t391 => (if t391 > 1099511627776 then (some (([] : List Int), 7)) else (smaltoref06_Apportion.l0 k x0 x23 x24 (wrap64 (x25 + 1))))) else (none)) else (none)) else ((smaltoref06_Sum.f k x0).bind fun t392 => (if t392 < 268435456 then (some (([] : List Int), 8)) else (smaltoref06_Apportion.l1 k t392 ([] : List Int) ([] : List Int) 16384 x0 (x0.length : Int) 0)))
def smaltoref06_Apportion.l1 : Nat → Int → List Int → List Int → Int → List Int → Int → Int → Option (List Int × Int)
 | 0, _, _, _, _, _, _, _ => none
 | k + 1, x6, x7, x8, x9, x37, x38, x39 => if x39 < x38 then (if 0 ≤ x39 then (if x39 < (x37.length : Int) then ((smaltoref01_Floor.f k (wrap64 ((rd x37 x39) * 16384)) x6).bind fun t394 => (if x7.length < 17592186044416 then (if x8.length < 17592186044416 then (smaltoref06_Apportion.l1 k x6 (x7 ++ [t394]) (x8 ++ [wrap64 ((wrap64 ((rd x37 x39) * 16384)) - (wrap64 (t394 * x6)))]) (wrap64 (x9 - t394)) x37 x38 (wrap64 (x39 + 1))) else (none)) else (none))) else (none)) else (none)) else (smaltoref06_Apportion.l2 k x7 x8 x9)
def smaltoref06_Apportion.l2 : Nat → List Int → List Int → Int → Option (List Int × Int)
 | 0, _, _, _ => none
 | k + 1, x7, x8, x9 => if x9 > 0 then (smaltoref06_Apportion.l3 k x7 x8 x9 0 (x8.length : Int) 0) else (some (x7, 0))
def smaltoref06_Apportion.l3 : Nat → List Int → List Int → Int → Int → Int → Int → Option (List Int × Int)
 | 0, _, _, _, _, _, _ => none
 | k + 1, x7, x8, x9, x13, x67, x68 => if x68 < x67 then (if 0 ≤ x68 then (if x68 < (x8.length : Int) then (if 0 ≤ x13 then (if x13 < (x8.length : Int) then (if (rd x8 x68) > (rd x8 x13) then (smaltoref06_Apportion.l3 k x7 x8 x9 x68 x67 (wrap64 (x68 + 1))) else (smaltoref06_Apportion.l3 k x7 x8 x9 x13 x67 (wrap64 (x68 + 1)))) else (none)) else (none)) else (none)) else (none)) else (if 0 ≤ x13 then (if x13 < (x7.length : Int) then (if x13 < (x8.length : Int) then (smaltoref06_Apportion.l2 k (x7.set (x13 : Int).toNat (wrap64 ((rd x7 x13) + 1))) (x8.set (x13 : Int).toNat (-1)) (wrap64 (x9 - 1))) else (none)) else (none)) else (none))
end
def smaltoref06_Apportion.f (k : Nat) (l0 : List Int) : Option (List Int × Int) := if (l0.length : Int) < 1 then (smaltoref06_Apportion.j0 k l0 true) else (smaltoref06_Apportion.j0 k l0 (decide ((l0.length : Int) > 1048576)))
set_option maxHeartbeats 8000000 in
set_option maxRecDepth 100000 in
theorem smaltoref06_Apportion.calls (k : Nat) (A0 : Option Addr) (c0 : Nat) (l0 r1 : List Int) (r2 : Int) (w : World) (hr0 : Kd.C (Kd.int .i64) w A0 l0.length l0) (hc0 : l0.length ≤ c0) (h : smaltoref06_Apportion.f k l0 = some (r1, r2)) :
  Calls Tryz.prog 43 #[.slice A0 l0.length c0] w fun e w' => ∃ v0_ : Value, e = .returned (.tuple #[v0_, .int .i64 r2]) ∧ Kd.R (Kd.int .i64) 2 w' w.heap.size (fun _ => True) v0_ r1 ∧ Below w.heap.size w w' := by
 have HR0 := Aside0.mk hr0
 have HC0 := Aside0.mk hc0
 clear hr0 hc0
 have HB := Aside0.mk (Below.refl w.heap.size w)
 have H := h
 clear h
 unfold smaltoref06_Apportion.f at H
 have HC2 := Aside0.mk H
 clear H
 go_enter Tryz.func43, Tryz.ntmps43
 go_upto_region 1 with (fail)
 repeat (go_quiet (fail); go_upto_region 1 with (fail))
 go_cut [22] (fun v22 wc => ∃ (kq : Nat) (x22_1 : Bool), v22 = .bool x22_1 ∧ Aside0 (smaltoref06_Apportion.j0 kq l0 x22_1 = some (r1, r2)) ∧ Aside0 (kq ≤ k) ∧ Aside0 (Below w.heap.size w wc))
 case first =>
  have H := HC2.out
  clear HC2
  by_cases c3 : (l0.length : Int) < 1
  ·rw [if_pos c3] at H
   have c3b0 := decide_eq_true c3
   have c3b1 : decide (l0.length < 1) = true := decide_eq_true (by omega)
   clear c3
   (first | rw [c3b0] | (simp only [i64_w, i32_w]; rw [c3b0]) | skip)
   have H' := Aside0.mk H
   clear H
   go_wp2
   repeat (go_quiet (fail); try go_wp2)
   go_meet
   case rel => exact ⟨_, (true), zT, H', ⟨by first | omega | exact Nat.le_refl _⟩, ⟨zB⟩⟩
  ·rw [if_neg c3] at H
   have c3b0 := decide_eq_false c3
   have c3b1 : decide (l0.length < 1) = false := decide_eq_false (by omega)
   clear c3
   (first | rw [c3b0] | (simp only [i64_w, i32_w]; rw [c3b0]) | skip)
   have H' := Aside0.mk H
   clear H
   go_wp2
   repeat (go_quiet (fail); try go_wp2)
   go_meet
   case rel => exact ⟨_, (decide ((l0.length : Int) > 1048576)), zT, H', ⟨by first | omega | exact Nat.le_refl _⟩, ⟨zB⟩⟩
 case rest =>
  clear HC2
  obtain ⟨kq, x22_1, rfl, HA, HJ1, HB⟩ := hcut
  cases kq with
  | zero => exact absurd HA.out (by simp [smaltoref06_Apportion.j0])
  | succ kj1 =>
   have H := HA.out
   clear HA
   simp only [smaltoref06_Apportion.j0] at H
   by_cases c4 : x22_1 = true
   ·subst c4
    rw [if_pos rfl] at H; try dsimp only at H
    simp only [Option.some.injEq, Prod.mk.injEq] at H
    obtain ⟨rfl, rfl⟩ := H
    go_wp2
    repeat (go_quiet (fail); try go_wp2)
    go_ret2
    exact ⟨_, zS, by first | exact Kd.R_nil _ _ _ _ _ | exact Kd.N_nil _ _ _ _ _ | exact Kd.V_nil _ _ _ _ _ | exact Kd.Q_nil _ _ _ _ _ | exact Kd.S_nil _ _ _ _ _, zB⟩
   ·replace c4 := Bool.eq_false_iff.mpr c4
    subst c4
    rw [if_neg (show ¬ (false = true) by decide)] at H; try dsimp only at H
    have H' := Aside0.mk H
    clear H
    go_wp2
    repeat (go_quiet (fail); try go_wp2)
    go_loopg [25] kj1 (fun kq v25 w' => ∃ (x25_2 : Int), v25 = .int .i64 x25_2 ∧ Aside0 (smaltoref06_Apportion.l0 kq l0 l0 (l0.length : Int) x25_2 = some (r1, r2)) ∧ Aside0 (kq ≤ kj1) ∧ Aside0 (Below w.heap.size w w'))
    case atStart => exact ⟨(0), zT, H', ⟨Nat.le_refl _⟩, ⟨zB⟩⟩
    case round =>
     clear H'
     obtain ⟨x25_2, rfl, HA, HK2, HB⟩ := hrel
     cases gk with
     | zero => exact absurd HA.out (by simp [smaltoref06_Apportion.l0])
     | succ k2 =>
      have H := HA.out
      clear HA
      simp only [smaltoref06_Apportion.l0] at H
      by_cases c5 : x25_2 < (l0.length : Int)
      ·rw [if_pos c5] at H
       have c5b0 := decide_eq_true c5
       clear c5
       by_cases c6 : 0 ≤ x25_2
       ·rw [if_pos c6] at H
        have c6b0 := decide_eq_true c6
        clear c6
        by_cases c7 : x25_2 < (l0.length : Int)
        ·rw [if_pos c7] at H
         have c7b0 := decide_eq_true c7
         clear c7
         replace H := zO H
         obtain ⟨t391, A8, H⟩ := H
         try dsimp only at H
         by_cases c9 : t391 > 1099511627776
         ·rw [if_pos c9] at H
          have c9b0 := decide_eq_true c9
          clear c9
          simp only [Option.some.injEq, Prod.mk.injEq] at H
          obtain ⟨rfl, rfl⟩ := H
          have p390 : 0 ≤ (x25_2 : Int) := of_decide_eq_true (by first | (with_reducible assumption) | assumption)
          have q390 : x25_2 < (l0.length : Int) := of_decide_eq_true (by first | (with_reducible assumption) | assumption)
          obtain ⟨ad390, e390, hx390_0⟩ := Kd.at_int HR0.out x25_2 p390 q390
          cases e390
          replace hx390_0 := (HB.out.cell (World.block_lt_of_cell? w _ hx390_0)).trans hx390_0
          replace p390 := eq_true p390
          replace q390 := eq_true q390
          go_wp2_with (first | (go_at_call 59; (with_reducible refine (smaltoref06_Size.calls (rd l0 x25_2) t391 _ A8.out).mono ?_); rintro e w' ⟨rfl, ⟨nd, rfl⟩⟩; (try exact ⟨rfl, _, zN⟩)))
          repeat (go_quiet (first | (go_at_call 59; (with_reducible refine (smaltoref06_Size.calls (rd l0 x25_2) t391 _ A8.out).mono ?_); rintro e w' ⟨rfl, ⟨nd, rfl⟩⟩; (try exact ⟨rfl, _, zN⟩))); try go_wp2_with (first | (go_at_call 59; (with_reducible refine (smaltoref06_Size.calls (rd l0 x25_2) t391 _ A8.out).mono ?_); rintro e w' ⟨rfl, ⟨nd, rfl⟩⟩; (try exact ⟨rfl, _, zN⟩))))
          go_ret2
          exact ⟨_, zS, by first | exact Kd.R_nil _ _ _ _ _ | exact Kd.N_nil _ _ _ _ _ | exact Kd.V_nil _ _ _ _ _ | exact Kd.Q_nil _ _ _ _ _ | exact Kd.S_nil _ _ _ _ _, zB⟩
         ·rw [if_neg c9] at H
          have c9b0 := decide_eq_false c9
          clear c9
          have H' := Aside0.mk H
          clear H
          have p390 : 0 ≤ (x25_2 : Int) := of_decide_eq_true (by first | (with_reducible assumption) | assumption)
          have q390 : x25_2 < (l0.length : Int) := of_decide_eq_true (by first | (with_reducible assumption) | assumption)
          obtain ⟨ad390, e390, hx390_0⟩ := Kd.at_int HR0.out x25_2 p390 q390
          cases e390
          replace hx390_0 := (HB.out.cell (World.block_lt_of_cell? w _ hx390_0)).trans hx390_0
          replace p390 := eq_true p390
          replace q390 := eq_true q390
          go_wp2_with (first | (go_at_call 59; (with_reducible refine (smaltoref06_Size.calls (rd l0 x25_2) t391 _ A8.out).mono ?_); rintro e w' ⟨rfl, ⟨nd, rfl⟩⟩; (try exact ⟨rfl, _, zN⟩)))
          repeat (go_quiet (first | (go_at_call 59; (with_reducible refine (smaltoref06_Size.calls (rd l0 x25_2) t391 _ A8.out).mono ?_); rintro e w' ⟨rfl, ⟨nd, rfl⟩⟩; (try exact ⟨rfl, _, zN⟩))); try go_wp2_with (first | (go_at_call 59; (with_reducible refine (smaltoref06_Size.calls (rd l0 x25_2) t391 _ A8.out).mono ?_); rintro e w' ⟨rfl, ⟨nd, rfl⟩⟩; (try exact ⟨rfl, _, zN⟩))))
          go_roundg k2
          case measure => have := HJ1.out; have := HK2.out; omega
          case rel => exact ⟨(wrap64 (x25_2 + 1)), zT, H', ⟨by have := HJ1.out; have := HK2.out; omega⟩, ⟨zB⟩⟩
        ·rw [if_neg c7] at H
         exact absurd H (by simp)
       ·rw [if_neg c6] at H
        exact absurd H (by simp)
      ·rw [if_neg c5] at H
       have c5b0 := decide_eq_false c5
       clear c5
       replace H := zO H
       obtain ⟨t392, A10, H⟩ := H
       try dsimp only at H
       by_cases c11 : t392 < 268435456
       ·rw [if_pos c11] at H
        have c11b0 := decide_eq_true c11
        clear c11
        simp only [Option.some.injEq, Prod.mk.injEq] at H
        obtain ⟨rfl, rfl⟩ := H
        go_wp2_with (first | (go_at_call 60; (with_reducible refine (smaltoref06_Sum.calls k2 _ _ l0 t392 _ ?side1 ?side2 A10.out).mono ?_); (case side1 => repeat (first | exact (Kd.C_below HR0.out HB.out) | (with_reducible refine Kd.C_alloc ?_ _) | (with_reducible refine Kd.C_drewN ?_ _) | (with_reducible refine Kd.C_drew ?_))); (case side2 => exact HC0.out); rintro e w' ⟨rfl, ⟨nd, rfl⟩⟩; (try exact ⟨rfl, _, zN⟩)))
        repeat (go_quiet (first | (go_at_call 60; (with_reducible refine (smaltoref06_Sum.calls k2 _ _ l0 t392 _ ?side1 ?side2 A10.out).mono ?_); (case side1 => repeat (first | exact (Kd.C_below HR0.out HB.out) | (with_reducible refine Kd.C_alloc ?_ _) | (with_reducible refine Kd.C_drewN ?_ _) | (with_reducible refine Kd.C_drew ?_))); (case side2 => exact HC0.out); rintro e w' ⟨rfl, ⟨nd, rfl⟩⟩; (try exact ⟨rfl, _, zN⟩))); try go_wp2_with (first | (go_at_call 60; (with_reducible refine (smaltoref06_Sum.calls k2 _ _ l0 t392 _ ?side1 ?side2 A10.out).mono ?_); (case side1 => repeat (first | exact (Kd.C_below HR0.out HB.out) | (with_reducible refine Kd.C_alloc ?_ _) | (with_reducible refine Kd.C_drewN ?_ _) | (with_reducible refine Kd.C_drew ?_))); (case side2 => exact HC0.out); rintro e w' ⟨rfl, ⟨nd, rfl⟩⟩; (try exact ⟨rfl, _, zN⟩))))
        go_ret2
        exact ⟨_, zS, by first | exact Kd.R_nil _ _ _ _ _ | exact Kd.N_nil _ _ _ _ _ | exact Kd.V_nil _ _ _ _ _ | exact Kd.Q_nil _ _ _ _ _ | exact Kd.S_nil _ _ _ _ _, zB⟩
       ·rw [if_neg c11] at H
        have c11b0 := decide_eq_false c11
        clear c11
        have H' := Aside0.mk H
        clear H
        go_wp2_with (first | (go_at_call 60; (with_reducible refine (smaltoref06_Sum.calls k2 _ _ l0 t392 _ ?side1 ?side2 A10.out).mono ?_); (case side1 => repeat (first | exact (Kd.C_below HR0.out HB.out) | (with_reducible refine Kd.C_alloc ?_ _) | (with_reducible refine Kd.C_drewN ?_ _) | (with_reducible refine Kd.C_drew ?_))); (case side2 => exact HC0.out); rintro e w' ⟨rfl, ⟨nd, rfl⟩⟩; (try exact ⟨rfl, _, zN⟩)))
        repeat (go_quiet (first | (go_at_call 60; (with_reducible refine (smaltoref06_Sum.calls k2 _ _ l0 t392 _ ?side1 ?side2 A10.out).mono ?_); (case side1 => repeat (first | exact (Kd.C_below HR0.out HB.out) | (with_reducible refine Kd.C_alloc ?_ _) | (with_reducible refine Kd.C_drewN ?_ _) | (with_reducible refine Kd.C_drew ?_))); (case side2 => exact HC0.out); rintro e w' ⟨rfl, ⟨nd, rfl⟩⟩; (try exact ⟨rfl, _, zN⟩))); try go_wp2_with (first | (go_at_call 60; (with_reducible refine (smaltoref06_Sum.calls k2 _ _ l0 t392 _ ?side1 ?side2 A10.out).mono ?_); (case side1 => repeat (first | exact (Kd.C_below HR0.out HB.out) | (with_reducible refine Kd.C_alloc ?_ _) | (with_reducible refine Kd.C_drewN ?_ _) | (with_reducible refine Kd.C_drew ?_))); (case side2 => exact HC0.out); rintro e w' ⟨rfl, ⟨nd, rfl⟩⟩; (try exact ⟨rfl, _, zN⟩))))
        try simp only [Act.put, List.setIfInBounds_toArray, List.set_cons_succ, List.set_cons_zero]
        go_loopg [7, 8, 9, 39] k2 (fun kq v7 v8 v9 v39 w' => ∃ (x7_3 : List Int) (x8_3 : List Int) (x9_3 : Int) (x39_3 : Int), v9 = .int .i64 x9_3 ∧ v39 = .int .i64 x39_3 ∧ Aside0 (smaltoref06_Apportion.l1 kq t392 x7_3 x8_3 x9_3 l0 (l0.length : Int) x39_3 = some (r1, r2)) ∧ Aside0 (kq ≤ k2) ∧ Aside0 (Kd.R (Kd.int .i64) 2 w' w.heap.size (fun k_ => some k_ ≠ (v8 : Value).ownBlock) v7 x7_3) ∧ Aside0 (Kd.R (Kd.int .i64) 2 w' w.heap.size (fun k_ => some k_ ≠ (v7 : Value).ownBlock) v8 x8_3) ∧ Aside0 (Below w.heap.size w w'))
        case atStart => exact ⟨(([] : List Int)), (([] : List Int)), (16384), (0), zT, zT, H', ⟨Nat.le_refl _⟩, ⟨by first | exact Kd.R_nil _ _ _ _ _ | exact Kd.N_nil _ _ _ _ _ | exact Kd.V_nil _ _ _ _ _ | exact Kd.Q_nil _ _ _ _ _ | exact Kd.S_nil _ _ _ _ _⟩, ⟨by first | exact Kd.R_nil _ _ _ _ _ | exact Kd.N_nil _ _ _ _ _ | exact Kd.V_nil _ _ _ _ _ | exact Kd.Q_nil _ _ _ _ _ | exact Kd.S_nil _ _ _ _ _⟩, ⟨zB⟩⟩
        case round =>
         clear H'
         try clear hx3
         obtain ⟨x7_3, x8_3, x9_3, x39_3, rfl, rfl, HA, HK3, HO_7, HO_8, HB⟩ := hrel
         cases gk with
         | zero => exact absurd HA.out (by simp [smaltoref06_Apportion.l1])
         | succ k3 =>
          have H := HA.out
          clear HA
          simp only [smaltoref06_Apportion.l1] at H
          by_cases c12 : x39_3 < (l0.length : Int)
          ·rw [if_pos c12] at H
           have c12b0 := decide_eq_true c12
           clear c12
           by_cases c13 : 0 ≤ x39_3
           ·rw [if_pos c13] at H
            have c13b0 := decide_eq_true c13
            clear c13
            by_cases c14 : x39_3 < (l0.length : Int)
            ·rw [if_pos c14] at H
             have c14b0 := decide_eq_true c14
             clear c14
             replace H := zO H
             obtain ⟨t394, A15, H⟩ := H
             try dsimp only at H
             by_cases c16 : x7_3.length < 17592186044416
             ·rw [if_pos c16] at H
              have LMc16 := Aside0.mk c16
              clear c16
              obtain ⟨y395, hy395⟩ : ∃ y_ : List Int, y_ = (x7_3 ++ [t394]) := ⟨_, rfl⟩
              replace H : (if x8_3.length < 17592186044416 then (smaltoref06_Apportion.l1 k3 t392 y395 (x8_3 ++ [wrap64 ((wrap64 ((rd l0 x39_3) * 16384)) - (wrap64 (t394 * t392)))]) (wrap64 (x9_3 - t394)) l0 (l0.length : Int) (wrap64 (x39_3 + 1))) else (none)) = some (r1, r2) := by first | (rw [hy395]; with_reducible exact H) | (have H2_ := (Option.bind_some _ _).symm.trans H; rw [hy395]; with_reducible exact H2_) | (have H2_ := (Option.bind_some _ _).symm.trans H; with_reducible exact H2_) | with_reducible exact H | (rw [hy395]; exact H) | exact H
              have Ny395 := Aside0.mk hy395
              clear hy395
              by_cases c17 : x8_3.length < 17592186044416
              ·rw [if_pos c17] at H
               have LMc17 := Aside0.mk c17
               clear c17
               obtain ⟨y398, hy398⟩ : ∃ y_ : List Int, y_ = (x8_3 ++ [wrap64 ((wrap64 ((rd l0 x39_3) * 16384)) - (wrap64 (t394 * t392)))]) := ⟨_, rfl⟩
               replace H : (smaltoref06_Apportion.l1 k3 t392 y395 y398 (wrap64 (x9_3 - t394)) l0 (l0.length : Int) (wrap64 (x39_3 + 1))) = some (r1, r2) := by first | (rw [hy398]; with_reducible exact H) | (have H2_ := (Option.bind_some _ _).symm.trans H; rw [hy398]; with_reducible exact H2_) | (have H2_ := (Option.bind_some _ _).symm.trans H; with_reducible exact H2_) | with_reducible exact H | (rw [hy398]; exact H) | exact H
               have Ny398 := Aside0.mk hy398
               clear hy398
               have H' := Aside0.mk H
               clear H
               have p393 : 0 ≤ (x39_3 : Int) := of_decide_eq_true (by first | (with_reducible assumption) | assumption)
               have q393 : x39_3 < (l0.length : Int) := of_decide_eq_true (by first | (with_reducible assumption) | assumption)
               obtain ⟨ad393, e393, hx393_0⟩ := Kd.at_int HR0.out x39_3 p393 q393
               cases e393
               replace hx393_0 := (HB.out.cell (World.block_lt_of_cell? w _ hx393_0)).trans hx393_0
               replace p393 := eq_true p393
               replace q393 := eq_true q393
               go_wp2_with (first | (go_at_call 61; (with_reducible refine (smaltoref01_Floor.calls k3 (wrap64 ((rd l0 x39_3) * 16384)) t392 t394 _ A15.out).mono ?_); rintro e w18 ⟨rfl, hb⟩; obtain ⟨HO_7, HO_8, HB⟩ := zA3 (Kd.R_below (by (with_reducible repeat (first | apply Kd.R_alloc | apply Kd.R_drewN | apply Kd.R_drew)); exact HO_7.out) hb) (Kd.R_below (by (with_reducible repeat (first | apply Kd.R_alloc | apply Kd.R_drewN | apply Kd.R_drew)); exact HO_8.out) hb) (below_step zB hb); (try clear hb)) | ((with_reducible refine gate_builtin (b := .append) (xs := #[.tmp 47, .tmp 49]) rfl ?_); (try (refine gate_guard (by rfl) ?_; dsimp only)); at_builtin; refine Kd.R_append (Kd.int .i64) (w0 := w) w.heap.size rfl (.tmp 47) (.tmp 49) 24 2 (.int .i64 0) 8 rfl Tryz.underlying24 info2 rfl (by decide) (by omega) u7 x7_3 t394 [.int .i64 t394] (fun k_ => some k_ ≠ (u8 : Value).ownBlock) (fun _ => False) rfl rfl ?aP (fun _ hk => hk.elim) ?aF ?aO ?aB ?aS ?aL ?_; (case aP => exact rfl); (case aB => exact zB); (case aF => exact (fun k_ hk => Kd.fresh' (Kd.R_lt (by (with_reducible repeat (first | apply Kd.R_alloc | apply Kd.R_drewN | apply Kd.R_drew)); exact HO_8.out)) k_ hk)); (case aO => exact (by (with_reducible repeat (first | apply Kd.R_alloc | apply Kd.R_drewN | apply Kd.R_drew)); exact HO_7.out)); (case aS => exact (below_size zB)); (case aL => have := LMc16.out; omega); intro v396 w19 ho hb hg hat; rw [← Ny395.out] at ho; obtain ⟨HO_8, HB, HO397⟩ := zA3 (Kd.R_after (ok := (fun _ => True)) (by (with_reducible repeat (first | apply Kd.R_alloc | apply Kd.R_drewN | apply Kd.R_drew)); exact Kd.R_mono HO_8.out (fun _ hk => ⟨trivial, hk⟩)) hg hat) hb ho; clear ho hb hg hat) | ((with_reducible refine gate_builtin (b := .append) (xs := #[.tmp 51, .tmp 58]) rfl ?_); (try (refine gate_guard (by rfl) ?_; dsimp only)); at_builtin; refine Kd.R_append (Kd.int .i64) (w0 := w) w.heap.size rfl (.tmp 51) (.tmp 58) 24 2 (.int .i64 0) 8 rfl Tryz.underlying24 info2 rfl (by decide) (by omega) u8 x8_3 (wrap64 ((wrap64 ((rd l0 x39_3) * 16384)) - (wrap64 (t394 * t392)))) [.int .i64 (wrap64 ((wrap64 ((rd l0 x39_3) * 16384)) - (wrap64 (t394 * t392))))] (fun k_ => some k_ ≠ (v396 : Value).ownBlock) (fun _ => False) rfl rfl ?aP (fun _ hk => hk.elim) ?aF ?aO ?aB ?aS ?aL ?_; (case aP => exact rfl); (case aB => exact zB); (case aF => exact (fun k_ hk => Kd.fresh' (Kd.R_lt (by (with_reducible repeat (first | apply Kd.R_alloc | apply Kd.R_drewN | apply Kd.R_drew)); exact HO397.out)) k_ hk)); (case aO => exact (by (with_reducible repeat (first | apply Kd.R_alloc | apply Kd.R_drewN | apply Kd.R_drew)); exact Kd.R_mono HO_8.out (fun _ hk => hk.2))); (case aS => exact (below_size zB)); (case aL => have := LMc17.out; omega); intro v399 w20 ho hb hg hat; rw [← Ny398.out] at ho; obtain ⟨HO397, HB, HO400⟩ := zA3 (Kd.R_after (ok := (fun _ => True)) (by (with_reducible repeat (first | apply Kd.R_alloc | apply Kd.R_drewN | apply Kd.R_drew)); exact Kd.R_mono HO397.out (fun _ hk => ⟨trivial, hk⟩)) hg hat) hb ho; clear ho hb hg hat))
               repeat (go_quiet (first | (go_at_call 61; (with_reducible refine (smaltoref01_Floor.calls k3 (wrap64 ((rd l0 x39_3) * 16384)) t392 t394 _ A15.out).mono ?_); rintro e w18 ⟨rfl, hb⟩; obtain ⟨HO_7, HO_8, HB⟩ := zA3 (Kd.R_below (by (with_reducible repeat (first | apply Kd.R_alloc | apply Kd.R_drewN | apply Kd.R_drew)); exact HO_7.out) hb) (Kd.R_below (by (with_reducible repeat (first | apply Kd.R_alloc | apply Kd.R_drewN | apply Kd.R_drew)); exact HO_8.out) hb) (below_step zB hb); (try clear hb)) | ((with_reducible refine gate_builtin (b := .append) (xs := #[.tmp 47, .tmp 49]) rfl ?_); (try (refine gate_guard (by rfl) ?_; dsimp only)); at_builtin; refine Kd.R_append (Kd.int .i64) (w0 := w) w.heap.size rfl (.tmp 47) (.tmp 49) 24 2 (.int .i64 0) 8 rfl Tryz.underlying24 info2 rfl (by decide) (by omega) u7 x7_3 t394 [.int .i64 t394] (fun k_ => some k_ ≠ (u8 : Value).ownBlock) (fun _ => False) rfl rfl ?aP (fun _ hk => hk.elim) ?aF ?aO ?aB ?aS ?aL ?_; (case aP => exact rfl); (case aB => exact zB); (case aF => exact (fun k_ hk => Kd.fresh' (Kd.R_lt (by (with_reducible repeat (first | apply Kd.R_alloc | apply Kd.R_drewN | apply Kd.R_drew)); exact HO_8.out)) k_ hk)); (case aO => exact (by (with_reducible repeat (first | apply Kd.R_alloc | apply Kd.R_drewN | apply Kd.R_drew)); exact HO_7.out)); (case aS => exact (below_size zB)); (case aL => have := LMc16.out; omega); intro v396 w19 ho hb hg hat; rw [← Ny395.out] at ho; obtain ⟨HO_8, HB, HO397⟩ := zA3 (Kd.R_after (ok := (fun _ => True)) (by (with_reducible repeat (first | apply Kd.R_alloc | apply Kd.R_drewN | apply Kd.R_drew)); exact Kd.R_mono HO_8.out (fun _ hk => ⟨trivial, hk⟩)) hg hat) hb ho; clear ho hb hg hat) | ((with_reducible refine gate_builtin (b := .append) (xs := #[.tmp 51, .tmp 58]) rfl ?_); (try (refine gate_guard (by rfl) ?_; dsimp only)); at_builtin; refine Kd.R_append (Kd.int .i64) (w0 := w) w.heap.size rfl (.tmp 51) (.tmp 58) 24 2 (.int .i64 0) 8 rfl Tryz.underlying24 info2 rfl (by decide) (by omega) u8 x8_3 (wrap64 ((wrap64 ((rd l0 x39_3) * 16384)) - (wrap64 (t394 * t392)))) [.int .i64 (wrap64 ((wrap64 ((rd l0 x39_3) * 16384)) - (wrap64 (t394 * t392))))] (fun k_ => some k_ ≠ (v396 : Value).ownBlock) (fun _ => False) rfl rfl ?aP (fun _ hk => hk.elim) ?aF ?aO ?aB ?aS ?aL ?_; (case aP => exact rfl); (case aB => exact zB); (case aF => exact (fun k_ hk => Kd.fresh' (Kd.R_lt (by (with_reducible repeat (first | apply Kd.R_alloc | apply Kd.R_drewN | apply Kd.R_drew)); exact HO397.out)) k_ hk)); (case aO => exact (by (with_reducible repeat (first | apply Kd.R_alloc | apply Kd.R_drewN | apply Kd.R_drew)); exact Kd.R_mono HO_8.out (fun _ hk => hk.2))); (case aS => exact (below_size zB)); (case aL => have := LMc17.out; omega); intro v399 w20 ho hb hg hat; rw [← Ny398.out] at ho; obtain ⟨HO397, HB, HO400⟩ := zA3 (Kd.R_after (ok := (fun _ => True)) (by (with_reducible repeat (first | apply Kd.R_alloc | apply Kd.R_drewN | apply Kd.R_drew)); exact Kd.R_mono HO397.out (fun _ hk => ⟨trivial, hk⟩)) hg hat) hb ho; clear ho hb hg hat)); try go_wp2_with (first | (go_at_call 61; (with_reducible refine (smaltoref01_Floor.calls k3 (wrap64 ((rd l0 x39_3) * 16384)) t392 t394 _ A15.out).mono ?_); rintro e w18 ⟨rfl, hb⟩; obtain ⟨HO_7, HO_8, HB⟩ := zA3 (Kd.R_below (by (with_reducible repeat (first | apply Kd.R_alloc | apply Kd.R_drewN | apply Kd.R_drew)); exact HO_7.out) hb) (Kd.R_below (by (with_reducible repeat (first | apply Kd.R_alloc | apply Kd.R_drewN | apply Kd.R_drew)); exact HO_8.out) hb) (below_step zB hb); (try clear hb)) | ((with_reducible refine gate_builtin (b := .append) (xs := #[.tmp 47, .tmp 49]) rfl ?_); (try (refine gate_guard (by rfl) ?_; dsimp only)); at_builtin; refine Kd.R_append (Kd.int .i64) (w0 := w) w.heap.size rfl (.tmp 47) (.tmp 49) 24 2 (.int .i64 0) 8 rfl Tryz.underlying24 info2 rfl (by decide) (by omega) u7 x7_3 t394 [.int .i64 t394] (fun k_ => some k_ ≠ (u8 : Value).ownBlock) (fun _ => False) rfl rfl ?aP (fun _ hk => hk.elim) ?aF ?aO ?aB ?aS ?aL ?_; (case aP => exact rfl); (case aB => exact zB); (case aF => exact (fun k_ hk => Kd.fresh' (Kd.R_lt (by (with_reducible repeat (first | apply Kd.R_alloc | apply Kd.R_drewN | apply Kd.R_drew)); exact HO_8.out)) k_ hk)); (case aO => exact (by (with_reducible repeat (first | apply Kd.R_alloc | apply Kd.R_drewN | apply Kd.R_drew)); exact HO_7.out)); (case aS => exact (below_size zB)); (case aL => have := LMc16.out; omega); intro v396 w19 ho hb hg hat; rw [← Ny395.out] at ho; obtain ⟨HO_8, HB, HO397⟩ := zA3 (Kd.R_after (ok := (fun _ => True)) (by (with_reducible repeat (first | apply Kd.R_alloc | apply Kd.R_drewN | apply Kd.R_drew)); exact Kd.R_mono HO_8.out (fun _ hk => ⟨trivial, hk⟩)) hg hat) hb ho; clear ho hb hg hat) | ((with_reducible refine gate_builtin (b := .append) (xs := #[.tmp 51, .tmp 58]) rfl ?_); (try (refine gate_guard (by rfl) ?_; dsimp only)); at_builtin; refine Kd.R_append (Kd.int .i64) (w0 := w) w.heap.size rfl (.tmp 51) (.tmp 58) 24 2 (.int .i64 0) 8 rfl Tryz.underlying24 info2 rfl (by decide) (by omega) u8 x8_3 (wrap64 ((wrap64 ((rd l0 x39_3) * 16384)) - (wrap64 (t394 * t392)))) [.int .i64 (wrap64 ((wrap64 ((rd l0 x39_3) * 16384)) - (wrap64 (t394 * t392))))] (fun k_ => some k_ ≠ (v396 : Value).ownBlock) (fun _ => False) rfl rfl ?aP (fun _ hk => hk.elim) ?aF ?aO ?aB ?aS ?aL ?_; (case aP => exact rfl); (case aB => exact zB); (case aF => exact (fun k_ hk => Kd.fresh' (Kd.R_lt (by (with_reducible repeat (first | apply Kd.R_alloc | apply Kd.R_drewN | apply Kd.R_drew)); exact HO397.out)) k_ hk)); (case aO => exact (by (with_reducible repeat (first | apply Kd.R_alloc | apply Kd.R_drewN | apply Kd.R_drew)); exact Kd.R_mono HO_8.out (fun _ hk => hk.2))); (case aS => exact (below_size zB)); (case aL => have := LMc17.out; omega); intro v399 w20 ho hb hg hat; rw [← Ny398.out] at ho; obtain ⟨HO397, HB, HO400⟩ := zA3 (Kd.R_after (ok := (fun _ => True)) (by (with_reducible repeat (first | apply Kd.R_alloc | apply Kd.R_drewN | apply Kd.R_drew)); exact Kd.R_mono HO397.out (fun _ hk => ⟨trivial, hk⟩)) hg hat) hb ho; clear ho hb hg hat)))
               go_roundg k3
               case measure => have := HJ1.out; have := HK2.out; have := HK3.out; omega
               case rel => exact ⟨(y395), (y398), (wrap64 (x9_3 - t394)), (wrap64 (x39_3 + 1)), zT, zT, H', ⟨by have := HJ1.out; have := HK2.out; have := HK3.out; omega⟩, ⟨by (with_reducible repeat (first | apply Kd.R_alloc | apply Kd.R_drewN | apply Kd.R_drew)); exact Kd.R_mono HO397.out (fun _ hk => hk.2)⟩, ⟨by (with_reducible repeat (first | apply Kd.R_alloc | apply Kd.R_drewN | apply Kd.R_drew)); exact HO400.out⟩, ⟨zB⟩⟩
              ·rw [if_neg c17] at H
               exact absurd H (by simp)
             ·rw [if_neg c16] at H
              exact absurd H (by simp)
            ·rw [if_neg c14] at H
             exact absurd H (by simp)
           ·rw [if_neg c13] at H
            exact absurd H (by simp)
          ·rw [if_neg c12] at H
           have c12b0 := decide_eq_false c12
           clear c12
           have H' := Aside0.mk H
           clear H
           go_wp2
           repeat (go_quiet (fail); try go_wp2)
           try simp only [Act.put, List.setIfInBounds_toArray, List.set_cons_succ, List.set_cons_zero]
           go_loopg [9] k3 (fun kq v9 w' => ∃ (x7_4 : List Int) (x8_4 : List Int) (x9_4 : Int), v9 = .int .i64 x9_4 ∧ Aside0 (smaltoref06_Apportion.l2 kq x7_4 x8_4 x9_4 = some (r1, r2)) ∧ Aside0 (kq ≤ k3) ∧ Aside0 (Kd.R (Kd.int .i64) 2 w' w.heap.size (fun k_ => some k_ ≠ (u8 : Value).ownBlock) u7 x7_4) ∧ Aside0 (Kd.R (Kd.int .i64) 2 w' w.heap.size (fun k_ => some k_ ≠ (u7 : Value).ownBlock) u8 x8_4) ∧ Aside0 (Below w.heap.size w w'))
           case atStart => exact ⟨(x7_3), (x8_3), (x9_3), zT, H', ⟨Nat.le_refl _⟩, ⟨by (with_reducible repeat (first | apply Kd.R_alloc | apply Kd.R_drewN | apply Kd.R_drew)); exact HO_7.out⟩, ⟨by (with_reducible repeat (first | apply Kd.R_alloc | apply Kd.R_drewN | apply Kd.R_drew)); exact HO_8.out⟩, ⟨zB⟩⟩
           case round =>
            clear H'
            try clear hx3
            obtain ⟨x7_4, x8_4, x9_4, rfl, HA, HK4, HO_7, HO_8, HB⟩ := hrel
            cases gk with
            | zero => exact absurd HA.out (by simp [smaltoref06_Apportion.l2])
            | succ k4 =>
             have H := HA.out
             clear HA
             simp only [smaltoref06_Apportion.l2] at H
             by_cases c21 : x9_4 > 0
             ·rw [if_pos c21] at H
              have c21b0 := decide_eq_true c21
              clear c21
              have H' := Aside0.mk H
              clear H
              obtain ⟨Ao22, co22, eo22⟩ := Kd.R_slice HO_8.out
              subst eo22
              go_wp2
              repeat (go_quiet (fail); try go_wp2)
              try simp only [Act.put, List.setIfInBounds_toArray, List.set_cons_succ, List.set_cons_zero]
              go_loopg [13, 68] k4 (fun kq v13 v68 w' => ∃ (x13_5 : Int) (x68_5 : Int), v13 = .int .i64 x13_5 ∧ v68 = .int .i64 x68_5 ∧ Aside0 (smaltoref06_Apportion.l3 kq x7_4 x8_4 x9_4 x13_5 (x8_4.length : Int) x68_5 = some (r1, r2)) ∧ Aside0 (kq ≤ k4) ∧ Aside0 (Kd.R (Kd.int .i64) 2 w' w.heap.size (fun k_ => some k_ ≠ ((.slice Ao22 x8_4.length co22) : Value).ownBlock) u7 x7_4) ∧ Aside0 (Kd.R (Kd.int .i64) 2 w' w.heap.size (fun k_ => some k_ ≠ (u7 : Value).ownBlock) (.slice Ao22 x8_4.length co22) x8_4) ∧ Aside0 (Below w.heap.size w w'))
              case atStart => exact ⟨(0), (0), zT, zT, H', ⟨Nat.le_refl _⟩, ⟨by (with_reducible repeat (first | apply Kd.R_alloc | apply Kd.R_drewN | apply Kd.R_drew)); exact HO_7.out⟩, ⟨by (with_reducible repeat (first | apply Kd.R_alloc | apply Kd.R_drewN | apply Kd.R_drew)); exact HO_8.out⟩, ⟨zB⟩⟩
              case round =>
               clear H'
               try clear hx3
               obtain ⟨x13_5, x68_5, rfl, rfl, HA, HK5, HO_7, HO_8, HB⟩ := hrel
               cases gk with
               | zero => exact absurd HA.out (by simp [smaltoref06_Apportion.l3])
               | succ k5 =>
                have H := HA.out
                clear HA
                simp only [smaltoref06_Apportion.l3] at H
                by_cases c23 : x68_5 < (x8_4.length : Int)
                ·rw [if_pos c23] at H
                 have c23b0 := decide_eq_true c23
                 clear c23
                 by_cases c24 : 0 ≤ x68_5
                 ·rw [if_pos c24] at H
                  have c24b0 := decide_eq_true c24
                  clear c24
                  by_cases c25 : x68_5 < (x8_4.length : Int)
                  ·rw [if_pos c25] at H
                   have c25b0 := decide_eq_true c25
                   clear c25
                   by_cases c26 : 0 ≤ x13_5
                   ·rw [if_pos c26] at H
                    have c26b0 := decide_eq_true c26
                    clear c26
                    by_cases c27 : x13_5 < (x8_4.length : Int)
                    ·rw [if_pos c27] at H
                     have c27b0 := decide_eq_true c27
                     clear c27
                     by_cases c28 : (rd x8_4 x68_5) > (rd x8_4 x13_5)
                     ·rw [if_pos c28] at H
                      have c28b0 := decide_eq_true c28
                      clear c28
                      have H' := Aside0.mk H
                      clear H
                      have p401 : 0 ≤ (x68_5 : Int) := of_decide_eq_true (by first | (with_reducible assumption) | assumption)
                      have q401 : x68_5 < (x8_4.length : Int) := of_decide_eq_true (by first | (with_reducible assumption) | assumption)
                      obtain ⟨ad401, e401, hx401_0⟩ := Kd.at_int (Kd.R_reads' HO_8.out).2.2 x68_5 p401 q401
                      cases e401
                      replace p401 := eq_true p401
                      replace q401 := eq_true q401
                      have p402 : 0 ≤ (x13_5 : Int) := of_decide_eq_true (by first | (with_reducible assumption) | assumption)
                      have q402 : x13_5 < (x8_4.length : Int) := of_decide_eq_true (by first | (with_reducible assumption) | assumption)
                      obtain ⟨ad402, e402, hx402_0⟩ := Kd.at_int (Kd.R_reads' HO_8.out).2.2 x13_5 p402 q402
                      obtain rfl : ad401 = ad402 := (by injection e402)
                      replace p402 := eq_true p402
                      replace q402 := eq_true q402
                      go_wp2
                      repeat (go_quiet (fail); try go_wp2)
                      go_roundg k5
                      case measure => have := HJ1.out; have := HK2.out; have := HK3.out; have := HK4.out; have := HK5.out; omega
                      case rel => exact ⟨(x68_5), (wrap64 (x68_5 + 1)), zT, zT, H', ⟨by have := HJ1.out; have := HK2.out; have := HK3.out; have := HK4.out; have := HK5.out; omega⟩, ⟨by (with_reducible repeat (first | apply Kd.R_alloc | apply Kd.R_drewN | apply Kd.R_drew)); exact HO_7.out⟩, ⟨by (with_reducible repeat (first | apply Kd.R_alloc | apply Kd.R_drewN | apply Kd.R_drew)); exact HO_8.out⟩, ⟨zB⟩⟩
                     ·rw [if_neg c28] at H
                      have c28b0 := decide_eq_false c28
                      clear c28
                      have H' := Aside0.mk H
                      clear H
                      have p401 : 0 ≤ (x68_5 : Int) := of_decide_eq_true (by first | (with_reducible assumption) | assumption)
                      have q401 : x68_5 < (x8_4.length : Int) := of_decide_eq_true (by first | (with_reducible assumption) | assumption)
                      obtain ⟨ad401, e401, hx401_0⟩ := Kd.at_int (Kd.R_reads' HO_8.out).2.2 x68_5 p401 q401
                      cases e401
                      replace p401 := eq_true p401
                      replace q401 := eq_true q401
                      have p402 : 0 ≤ (x13_5 : Int) := of_decide_eq_true (by first | (with_reducible assumption) | assumption)
                      have q402 : x13_5 < (x8_4.length : Int) := of_decide_eq_true (by first | (with_reducible assumption) | assumption)
                      obtain ⟨ad402, e402, hx402_0⟩ := Kd.at_int (Kd.R_reads' HO_8.out).2.2 x13_5 p402 q402
                      obtain rfl : ad401 = ad402 := (by injection e402)
                      replace p402 := eq_true p402
                      replace q402 := eq_true q402
                      go_wp2
                      repeat (go_quiet (fail); try go_wp2)
                      go_roundg k5
                      case measure => have := HJ1.out; have := HK2.out; have := HK3.out; have := HK4.out; have := HK5.out; omega
                      case rel => exact ⟨(x13_5), (wrap64 (x68_5 + 1)), zT, zT, H', ⟨by have := HJ1.out; have := HK2.out; have := HK3.out; have := HK4.out; have := HK5.out; omega⟩, ⟨by (with_reducible repeat (first | apply Kd.R_alloc | apply Kd.R_drewN | apply Kd.R_drew)); exact HO_7.out⟩, ⟨by (with_reducible repeat (first | apply Kd.R_alloc | apply Kd.R_drewN | apply Kd.R_drew)); exact HO_8.out⟩, ⟨zB⟩⟩
                    ·rw [if_neg c27] at H
                     exact absurd H (by simp)
                   ·rw [if_neg c26] at H
                    exact absurd H (by simp)
                  ·rw [if_neg c25] at H
                   exact absurd H (by simp)
                 ·rw [if_neg c24] at H
                  exact absurd H (by simp)
                ·rw [if_neg c23] at H
                 have c23b0 := decide_eq_false c23
                 clear c23
                 by_cases c29 : 0 ≤ x13_5
                 ·rw [if_pos c29] at H
                  have c29b0 := decide_eq_true c29
                  clear c29
                  by_cases c30 : x13_5 < (x7_4.length : Int)
                  ·rw [if_pos c30] at H
                   have c30b0 := decide_eq_true c30
                   clear c30
                   obtain ⟨y404, hy404⟩ : ∃ y_ : List Int, y_ = (x7_4.set (x13_5 : Int).toNat (wrap64 ((rd x7_4 x13_5) + 1))) := ⟨_, rfl⟩
                   replace H : (if x13_5 < (x8_4.length : Int) then (smaltoref06_Apportion.l2 k5 y404 (x8_4.set (x13_5 : Int).toNat (-1)) (wrap64 (x9_4 - 1))) else (none)) = some (r1, r2) := by first | (rw [hy404]; with_reducible exact H) | (have H2_ := (Option.bind_some _ _).symm.trans H; rw [hy404]; with_reducible exact H2_) | (have H2_ := (Option.bind_some _ _).symm.trans H; with_reducible exact H2_) | with_reducible exact H | (rw [hy404]; exact H) | exact H
                   have Ny404 := Aside0.mk hy404
                   clear hy404
                   by_cases c32 : x13_5 < (x8_4.length : Int)
                   ·rw [if_pos c32] at H
                    have c32b0 := decide_eq_true c32
                    clear c32
                    obtain ⟨y405, hy405⟩ : ∃ y_ : List Int, y_ = (x8_4.set (x13_5 : Int).toNat (-1)) := ⟨_, rfl⟩
                    replace H : (smaltoref06_Apportion.l2 k5 y404 y405 (wrap64 (x9_4 - 1))) = some (r1, r2) := by first | (rw [hy405]; with_reducible exact H) | (have H2_ := (Option.bind_some _ _).symm.trans H; rw [hy405]; with_reducible exact H2_) | (have H2_ := (Option.bind_some _ _).symm.trans H; with_reducible exact H2_) | with_reducible exact H | (rw [hy405]; exact H) | exact H
                    have Ny405 := Aside0.mk hy405
                    clear hy405
                    have H' := Aside0.mk H
                    clear H
                    obtain ⟨Ao34, co34, eo34⟩ := Kd.R_slice HO_7.out
                    subst eo34
                    have p403 : 0 ≤ (x13_5 : Int) := of_decide_eq_true (by first | (with_reducible assumption) | assumption)
                    have q403 : x13_5 < (x7_4.length : Int) := of_decide_eq_true (by first | (with_reducible assumption) | assumption)
                    obtain ⟨ad403, e403, hx403_0⟩ := Kd.at_int (Kd.R_reads' HO_7.out).2.2 x13_5 p403 q403
                    cases e403
                    replace p403 := eq_true p403
                    replace q403 := eq_true q403
                    have p31 : 0 ≤ (x13_5 : Int) := of_decide_eq_true (by first | (with_reducible assumption) | assumption)
                    have q31 : (x13_5 : Int) < ((x7_4.length : Int) : Int) := of_decide_eq_true (by first | (with_reducible assumption) | assumption)
                    obtain ⟨go31, co31, eo31, gb31, gl31, cl31, HG31⟩ := Kd.R_form HO_7.out (by omega)
                    (first | cases eo31 | (injection eo31 with ea_ en_ ec_; (first | subst ea_ | (injection ea_ with ea_; subst ea_)); subst ec_; clear en_))
                    have GB31 := Aside0.mk gb31
                    have GG31 := Aside0.mk HG31
                    clear gb31 gl31 HG31
                    (first | simp only [add_plain] at hx403_0 | skip)
                    obtain ⟨hx31_0, hf31_0⟩ := Kd.R_celln 0 HO_7.out (x13_5 : Int) p31 q31
                    replace p31 := eq_true p31
                    replace q31 := eq_true q31
                    have HP35 := Kd.R_putg HO_7.out (x13_5 : Int) (wrap64 ((rd x7_4 x13_5) + 1))
                    go_wp2_with (first | ((with_reducible refine gate_store (t := 2) (p := 87) rfl ?_); (try (rw [drewN_self wr]; generalize hq_ : World.drewN wr _ = wr; obtain ⟨HO_7, HO_8, HB⟩ := zA3 (Kd.R_at hq_ HO_7.out) (Kd.R_at hq_ HO_8.out) (below_at hq_ HB.out); (try (have HP35 := Kd.R_putg HO_7.out (x13_5 : Int) (wrap64 ((rd x7_4 x13_5) + 1)))))); refine store_event (t := 2) (p := 87) (v := ?vo_w36) (w1 := (wr.setCell ⟨go31, (x13_5 : Int).toNat, none⟩ (.int .i64 (wrap64 ((rd x7_4 x13_5) + 1))))) ?hg ?ho ?hn ?hr ?_; (case ho => rfl); (case hg => rfl); (case hn => rfl); (case hr => first | (go_simp; done) | (go_simp; rfl)); intro w36 hw; have hg : wr.grownBy w36 (some go31) := (by rw [hw]; exact HP35.2); have hp_ : Kd.R (Kd.int .i64) 2 w36 w.heap.size (fun k_ => some k_ ≠ (.slice Ao22 x8_4.length co22 : Value).ownBlock) (.slice (some ⟨go31, 0, none⟩) x7_4.length co34) y404 := (by rw [hw, Ny404.out]; exact HP35.1); clear HP35; obtain ⟨HO_7, HO_8, HB⟩ := zA3 hp_ (Kd.R_after (v := (.slice (some ⟨go31, 0, none⟩) x7_4.length co34)) (v1 := (.slice (some ⟨go31, 0, none⟩) x7_4.length co34)) (ok := (fun _ => True)) (by (with_reducible repeat (first | apply Kd.R_alloc | apply Kd.R_drewN | apply Kd.R_drew)); exact Kd.R_mono HO_8.out (fun _ hk => ⟨trivial, hk⟩)) hg (.inl rfl)) ((by rw [hw]; exact below_set (HB.out) GB31.out : Below w.heap.size w w36)); clear hg hw hp_; have p33 : 0 ≤ (x13_5 : Int) := of_decide_eq_true (by first | (with_reducible assumption) | assumption); have q33 : (x13_5 : Int) < ((x8_4.length : Int) : Int) := of_decide_eq_true (by first | (with_reducible assumption) | assumption); obtain ⟨go33, co33, eo33, gb33, gl33, cl33, HG33⟩ := Kd.R_form HO_8.out (by omega); (first | cases eo33 | (injection eo33 with ea_ en_ ec_; (first | subst ea_ | (injection ea_ with ea_; subst ea_)); subst ec_; clear en_)); have GB33 := Aside0.mk gb33; have GG33 := Aside0.mk HG33; clear gb33 gl33 HG33; obtain ⟨hx33_0, hf33_0⟩ := Kd.R_celln 0 HO_8.out (x13_5 : Int) p33 q33; replace p33 := eq_true p33; replace q33 := eq_true q33; have n_ := Aside0.mk (Kd.R_mono (ok' := (fun k_ => some k_ ≠ (.slice (some ⟨go31, 0, none⟩) x7_4.length co34 : Value).ownBlock)) HO_8.out (fun k_ hk => hk.2)); clear HO_8; have HO_8 := n_; clear n_; obtain ⟨hy37_, hz37_⟩ := Kd.R_celln 0 HO_8.out (x13_5 : Int) (of_decide_eq_true (by first | (with_reducible assumption) | assumption)) (of_decide_eq_true (by first | (with_reducible assumption) | assumption)); have HP37 := Kd.R_putg HO_8.out (x13_5 : Int) (-1)) | ((with_reducible refine gate_store (t := 2) (p := 90) rfl ?_); (try (rw [drewN_self w36]; generalize hq_ : World.drewN w36 _ = w36; obtain ⟨HO_7, HO_8, HB⟩ := zA3 (Kd.R_at hq_ HO_7.out) (Kd.R_at hq_ HO_8.out) (below_at hq_ HB.out); (try (have n_ := Aside0.mk (Kd.R_mono (ok' := (fun k_ => some k_ ≠ (.slice (some ⟨go31, 0, none⟩) x7_4.length co34 : Value).ownBlock)) HO_8.out (fun k_ hk => hk.2)); clear HO_8; have HO_8 := n_; clear n_)); (try (obtain ⟨hy37_, hz37_⟩ := Kd.R_celln 0 HO_8.out (x13_5 : Int) (of_decide_eq_true (by first | (with_reducible assumption) | assumption)) (of_decide_eq_true (by first | (with_reducible assumption) | assumption)))); (try (have HP37 := Kd.R_putg HO_8.out (x13_5 : Int) (-1))))); refine store_event (t := 2) (p := 90) (v := ?vo_w38) (w1 := (w36.setCell ⟨go33, (x13_5 : Int).toNat, none⟩ (.int .i64 (-1)))) ?hg ?ho ?hn ?hr ?_; (case ho => rfl); (case hg => rfl); (case hn => rfl); (case hr => first | (go_simp; done) | (go_simp; rfl)); intro w38 hw; have hg : w36.grownBy w38 (some go33) := (by rw [hw]; exact HP37.2); have hp_ : Kd.R (Kd.int .i64) 2 w38 w.heap.size (fun k_ => some k_ ≠ (.slice (some ⟨go31, 0, none⟩) x7_4.length co34 : Value).ownBlock) (.slice (some ⟨go33, 0, none⟩) x8_4.length co22) y405 := (by rw [hw, Ny405.out]; exact HP37.1); clear HP37; obtain ⟨HO_7, HO_8, HB⟩ := zA3 (Kd.R_after (v := (.slice (some ⟨go33, 0, none⟩) x8_4.length co22)) (v1 := (.slice (some ⟨go33, 0, none⟩) x8_4.length co22)) (ok := (fun _ => True)) (by (with_reducible repeat (first | apply Kd.R_alloc | apply Kd.R_drewN | apply Kd.R_drew)); exact Kd.R_mono HO_7.out (fun _ hk => ⟨trivial, hk⟩)) hg (.inl rfl)) hp_ ((by rw [hw]; exact below_set (HB.out) GB33.out : Below w.heap.size w w38)); clear hg hw hp_))
                    repeat (go_quiet (first | ((with_reducible refine gate_store (t := 2) (p := 87) rfl ?_); (try (rw [drewN_self wr]; generalize hq_ : World.drewN wr _ = wr; obtain ⟨HO_7, HO_8, HB⟩ := zA3 (Kd.R_at hq_ HO_7.out) (Kd.R_at hq_ HO_8.out) (below_at hq_ HB.out); (try (have HP35 := Kd.R_putg HO_7.out (x13_5 : Int) (wrap64 ((rd x7_4 x13_5) + 1)))))); refine store_event (t := 2) (p := 87) (v := ?vo_w36) (w1 := (wr.setCell ⟨go31, (x13_5 : Int).toNat, none⟩ (.int .i64 (wrap64 ((rd x7_4 x13_5) + 1))))) ?hg ?ho ?hn ?hr ?_; (case ho => rfl); (case hg => rfl); (case hn => rfl); (case hr => first | (go_simp; done) | (go_simp; rfl)); intro w36 hw; have hg : wr.grownBy w36 (some go31) := (by rw [hw]; exact HP35.2); have hp_ : Kd.R (Kd.int .i64) 2 w36 w.heap.size (fun k_ => some k_ ≠ (.slice Ao22 x8_4.length co22 : Value).ownBlock) (.slice (some ⟨go31, 0, none⟩) x7_4.length co34) y404 := (by rw [hw, Ny404.out]; exact HP35.1); clear HP35; obtain ⟨HO_7, HO_8, HB⟩ := zA3 hp_ (Kd.R_after (v := (.slice (some ⟨go31, 0, none⟩) x7_4.length co34)) (v1 := (.slice (some ⟨go31, 0, none⟩) x7_4.length co34)) (ok := (fun _ => True)) (by (with_reducible repeat (first | apply Kd.R_alloc | apply Kd.R_drewN | apply Kd.R_drew)); exact Kd.R_mono HO_8.out (fun _ hk => ⟨trivial, hk⟩)) hg (.inl rfl)) ((by rw [hw]; exact below_set (HB.out) GB31.out : Below w.heap.size w w36)); clear hg hw hp_; have p33 : 0 ≤ (x13_5 : Int) := of_decide_eq_true (by first | (with_reducible assumption) | assumption); have q33 : (x13_5 : Int) < ((x8_4.length : Int) : Int) := of_decide_eq_true (by first | (with_reducible assumption) | assumption); obtain ⟨go33, co33, eo33, gb33, gl33, cl33, HG33⟩ := Kd.R_form HO_8.out (by omega); (first | cases eo33 | (injection eo33 with ea_ en_ ec_; (first | subst ea_ | (injection ea_ with ea_; subst ea_)); subst ec_; clear en_)); have GB33 := Aside0.mk gb33; have GG33 := Aside0.mk HG33; clear gb33 gl33 HG33; obtain ⟨hx33_0, hf33_0⟩ := Kd.R_celln 0 HO_8.out (x13_5 : Int) p33 q33; replace p33 := eq_true p33; replace q33 := eq_true q33; have n_ := Aside0.mk (Kd.R_mono (ok' := (fun k_ => some k_ ≠ (.slice (some ⟨go31, 0, none⟩) x7_4.length co34 : Value).ownBlock)) HO_8.out (fun k_ hk => hk.2)); clear HO_8; have HO_8 := n_; clear n_; obtain ⟨hy37_, hz37_⟩ := Kd.R_celln 0 HO_8.out (x13_5 : Int) (of_decide_eq_true (by first | (with_reducible assumption) | assumption)) (of_decide_eq_true (by first | (with_reducible assumption) | assumption)); have HP37 := Kd.R_putg HO_8.out (x13_5 : Int) (-1)) | ((with_reducible refine gate_store (t := 2) (p := 90) rfl ?_); (try (rw [drewN_self w36]; generalize hq_ : World.drewN w36 _ = w36; obtain ⟨HO_7, HO_8, HB⟩ := zA3 (Kd.R_at hq_ HO_7.out) (Kd.R_at hq_ HO_8.out) (below_at hq_ HB.out); (try (have n_ := Aside0.mk (Kd.R_mono (ok' := (fun k_ => some k_ ≠ (.slice (some ⟨go31, 0, none⟩) x7_4.length co34 : Value).ownBlock)) HO_8.out (fun k_ hk => hk.2)); clear HO_8; have HO_8 := n_; clear n_)); (try (obtain ⟨hy37_, hz37_⟩ := Kd.R_celln 0 HO_8.out (x13_5 : Int) (of_decide_eq_true (by first | (with_reducible assumption) | assumption)) (of_decide_eq_true (by first | (with_reducible assumption) | assumption)))); (try (have HP37 := Kd.R_putg HO_8.out (x13_5 : Int) (-1))))); refine store_event (t := 2) (p := 90) (v := ?vo_w38) (w1 := (w36.setCell ⟨go33, (x13_5 : Int).toNat, none⟩ (.int .i64 (-1)))) ?hg ?ho ?hn ?hr ?_; (case ho => rfl); (case hg => rfl); (case hn => rfl); (case hr => first | (go_simp; done) | (go_simp; rfl)); intro w38 hw; have hg : w36.grownBy w38 (some go33) := (by rw [hw]; exact HP37.2); have hp_ : Kd.R (Kd.int .i64) 2 w38 w.heap.size (fun k_ => some k_ ≠ (.slice (some ⟨go31, 0, none⟩) x7_4.length co34 : Value).ownBlock) (.slice (some ⟨go33, 0, none⟩) x8_4.length co22) y405 := (by rw [hw, Ny405.out]; exact HP37.1); clear HP37; obtain ⟨HO_7, HO_8, HB⟩ := zA3 (Kd.R_after (v := (.slice (some ⟨go33, 0, none⟩) x8_4.length co22)) (v1 := (.slice (some ⟨go33, 0, none⟩) x8_4.length co22)) (ok := (fun _ => True)) (by (with_reducible repeat (first | apply Kd.R_alloc | apply Kd.R_drewN | apply Kd.R_drew)); exact Kd.R_mono HO_7.out (fun _ hk => ⟨trivial, hk⟩)) hg (.inl rfl)) hp_ ((by rw [hw]; exact below_set (HB.out) GB33.out : Below w.heap.size w w38)); clear hg hw hp_)); try go_wp2_with (first | ((with_reducible refine gate_store (t := 2) (p := 87) rfl ?_); (try (rw [drewN_self wr]; generalize hq_ : World.drewN wr _ = wr; obtain ⟨HO_7, HO_8, HB⟩ := zA3 (Kd.R_at hq_ HO_7.out) (Kd.R_at hq_ HO_8.out) (below_at hq_ HB.out); (try (have HP35 := Kd.R_putg HO_7.out (x13_5 : Int) (wrap64 ((rd x7_4 x13_5) + 1)))))); refine store_event (t := 2) (p := 87) (v := ?vo_w36) (w1 := (wr.setCell ⟨go31, (x13_5 : Int).toNat, none⟩ (.int .i64 (wrap64 ((rd x7_4 x13_5) + 1))))) ?hg ?ho ?hn ?hr ?_; (case ho => rfl); (case hg => rfl); (case hn => rfl); (case hr => first | (go_simp; done) | (go_simp; rfl)); intro w36 hw; have hg : wr.grownBy w36 (some go31) := (by rw [hw]; exact HP35.2); have hp_ : Kd.R (Kd.int .i64) 2 w36 w.heap.size (fun k_ => some k_ ≠ (.slice Ao22 x8_4.length co22 : Value).ownBlock) (.slice (some ⟨go31, 0, none⟩) x7_4.length co34) y404 := (by rw [hw, Ny404.out]; exact HP35.1); clear HP35; obtain ⟨HO_7, HO_8, HB⟩ := zA3 hp_ (Kd.R_after (v := (.slice (some ⟨go31, 0, none⟩) x7_4.length co34)) (v1 := (.slice (some ⟨go31, 0, none⟩) x7_4.length co34)) (ok := (fun _ => True)) (by (with_reducible repeat (first | apply Kd.R_alloc | apply Kd.R_drewN | apply Kd.R_drew)); exact Kd.R_mono HO_8.out (fun _ hk => ⟨trivial, hk⟩)) hg (.inl rfl)) ((by rw [hw]; exact below_set (HB.out) GB31.out : Below w.heap.size w w36)); clear hg hw hp_; have p33 : 0 ≤ (x13_5 : Int) := of_decide_eq_true (by first | (with_reducible assumption) | assumption); have q33 : (x13_5 : Int) < ((x8_4.length : Int) : Int) := of_decide_eq_true (by first | (with_reducible assumption) | assumption); obtain ⟨go33, co33, eo33, gb33, gl33, cl33, HG33⟩ := Kd.R_form HO_8.out (by omega); (first | cases eo33 | (injection eo33 with ea_ en_ ec_; (first | subst ea_ | (injection ea_ with ea_; subst ea_)); subst ec_; clear en_)); have GB33 := Aside0.mk gb33; have GG33 := Aside0.mk HG33; clear gb33 gl33 HG33; obtain ⟨hx33_0, hf33_0⟩ := Kd.R_celln 0 HO_8.out (x13_5 : Int) p33 q33; replace p33 := eq_true p33; replace q33 := eq_true q33; have n_ := Aside0.mk (Kd.R_mono (ok' := (fun k_ => some k_ ≠ (.slice (some ⟨go31, 0, none⟩) x7_4.length co34 : Value).ownBlock)) HO_8.out (fun k_ hk => hk.2)); clear HO_8; have HO_8 := n_; clear n_; obtain ⟨hy37_, hz37_⟩ := Kd.R_celln 0 HO_8.out (x13_5 : Int) (of_decide_eq_true (by first | (with_reducible assumption) | assumption)) (of_decide_eq_true (by first | (with_reducible assumption) | assumption)); have HP37 := Kd.R_putg HO_8.out (x13_5 : Int) (-1)) | ((with_reducible refine gate_store (t := 2) (p := 90) rfl ?_); (try (rw [drewN_self w36]; generalize hq_ : World.drewN w36 _ = w36; obtain ⟨HO_7, HO_8, HB⟩ := zA3 (Kd.R_at hq_ HO_7.out) (Kd.R_at hq_ HO_8.out) (below_at hq_ HB.out); (try (have n_ := Aside0.mk (Kd.R_mono (ok' := (fun k_ => some k_ ≠ (.slice (some ⟨go31, 0, none⟩) x7_4.length co34 : Value).ownBlock)) HO_8.out (fun k_ hk => hk.2)); clear HO_8; have HO_8 := n_; clear n_)); (try (obtain ⟨hy37_, hz37_⟩ := Kd.R_celln 0 HO_8.out (x13_5 : Int) (of_decide_eq_true (by first | (with_reducible assumption) | assumption)) (of_decide_eq_true (by first | (with_reducible assumption) | assumption)))); (try (have HP37 := Kd.R_putg HO_8.out (x13_5 : Int) (-1))))); refine store_event (t := 2) (p := 90) (v := ?vo_w38) (w1 := (w36.setCell ⟨go33, (x13_5 : Int).toNat, none⟩ (.int .i64 (-1)))) ?hg ?ho ?hn ?hr ?_; (case ho => rfl); (case hg => rfl); (case hn => rfl); (case hr => first | (go_simp; done) | (go_simp; rfl)); intro w38 hw; have hg : w36.grownBy w38 (some go33) := (by rw [hw]; exact HP37.2); have hp_ : Kd.R (Kd.int .i64) 2 w38 w.heap.size (fun k_ => some k_ ≠ (.slice (some ⟨go31, 0, none⟩) x7_4.length co34 : Value).ownBlock) (.slice (some ⟨go33, 0, none⟩) x8_4.length co22) y405 := (by rw [hw, Ny405.out]; exact HP37.1); clear HP37; obtain ⟨HO_7, HO_8, HB⟩ := zA3 (Kd.R_after (v := (.slice (some ⟨go33, 0, none⟩) x8_4.length co22)) (v1 := (.slice (some ⟨go33, 0, none⟩) x8_4.length co22)) (ok := (fun _ => True)) (by (with_reducible repeat (first | apply Kd.R_alloc | apply Kd.R_drewN | apply Kd.R_drew)); exact Kd.R_mono HO_7.out (fun _ hk => ⟨trivial, hk⟩)) hg (.inl rfl)) hp_ ((by rw [hw]; exact below_set (HB.out) GB33.out : Below w.heap.size w w38)); clear hg hw hp_)))
                    go_roundg k5
                    case measure => have := HJ1.out; have := HK2.out; have := HK3.out; have := HK4.out; have := HK5.out; omega
                    case rel => exact ⟨(y404), (y405), (wrap64 (x9_4 - 1)), zT, H', ⟨by have := HJ1.out; have := HK2.out; have := HK3.out; have := HK4.out; have := HK5.out; omega⟩, ⟨by (with_reducible repeat (first | apply Kd.R_alloc | apply Kd.R_drewN | apply Kd.R_drew)); exact Kd.R_mono HO_7.out (fun _ hk => hk.2)⟩, ⟨by (with_reducible repeat (first | apply Kd.R_alloc | apply Kd.R_drewN | apply Kd.R_drew)); exact HO_8.out⟩, ⟨zB⟩⟩
                   ·rw [if_neg c32] at H
                    exact absurd H (by simp)
                  ·rw [if_neg c30] at H
                   exact absurd H (by simp)
                 ·rw [if_neg c29] at H
                  exact absurd H (by simp)
             ·rw [if_neg c21] at H
              have c21b0 := decide_eq_false c21
              clear c21
              simp only [Option.some.injEq, Prod.mk.injEq] at H
              obtain ⟨rfl, rfl⟩ := H
              go_wp2
              repeat (go_quiet (fail); try go_wp2)
              go_ret2
              exact ⟨_, zS, by (with_reducible repeat (first | apply Kd.R_alloc | apply Kd.R_drewN | apply Kd.R_drew)); exact Kd.R_mono HO_7.out (fun _ hk => trivial), zB⟩
end Go.Proofs.YtebipmdopdogkaaGreatDoor.QA

namespace Go.Proofs.YtebipmdopdogkaaGreatDoor.QA
open Go.Proofs.YtebipmdopdogkaaGreatDoor.T
open Go.RowKit Go.Proofs.YtebipmdopdogkaaGreatDoorW.PrintWords Go.Proofs.YtebipmdopdogkaaGreatDoorW.PrintLast Go.Proofs.YtebipmdopdogkaaGreatDoorW.PrintMore
attribute [local go_sem] ext_call max2_int min2_int max_two min_two
set_option linter.unusedVariables false
set_option linter.unusedSimpArgs false
mutual
def smaltoref08_Resize.j0 : Nat → Int → Int → Int → Bool → Option ((List (S91)) × Int)
 | 0, _, _, _, _ => none
 | k + 1, x0, x1, x2, x29 => if x29 = true then (some (([] : List (S91)), 6)) else (smaltoref08_Resize.l0 k x0 x1 x2 ([] : List (S91)) x2 0)
def smaltoref08_Resize.l0 : Nat → Int → Int → Int → List (S91) → Int → Int → Option ((List (S91)) × Int)
 | 0, _, _, _, _, _, _ => none
 | k + 1, x0, x1, x2, x8, x30, x31 => if x31 < x30 then ((smaltoref05_Row.f k x0 x1 x2 x31).bind fun bt408 => ((smaltoref06_Apportion.f k bt408.2).bind fun bt412 => (if bt412.2 = 0 then (if x8.length < 4398046511104 then (smaltoref08_Resize.l0 k x0 x1 x2 (x8 ++ [(⟨bt408.1, bt412.1⟩ : S91)]) x30 (wrap64 (x31 + 1))) else (none)) else (some (([] : List (S91)), bt412.2))))) else (some (x8, 0))
end
def smaltoref08_Resize.f (k : Nat) (a0 a1 a2 : Int) : Option ((List (S91)) × Int) := if a0 < 0 then (smaltoref08_Resize.j0 k a0 a1 a2 true) else (if a0 > 2 then (smaltoref08_Resize.j0 k a0 a1 a2 true) else ((smaltoref08_side.f a1).bind fun t406 => (if t406 = true then ((smaltoref08_side.f a2).bind fun t407 => (smaltoref08_Resize.j0 k a0 a1 a2 (!t407))) else (smaltoref08_Resize.j0 k a0 a1 a2 true))))
set_option maxHeartbeats 8000000 in
set_option maxRecDepth 100000 in
theorem smaltoref08_Resize.calls (k : Nat) (a0 a1 a2 : Int) (r1 : List (S91)) (r2 : Int) (w : World) (h : smaltoref08_Resize.f k a0 a1 a2 = some (r1, r2)) :
  Calls Tryz.prog 23 #[.int .i64 a0, .int .i64 a1, .int .i64 a2] w fun e w' => ∃ v0_ : Value, e = .returned (.tuple #[v0_, .int .i64 r2]) ∧ Kd.S k91 91 w' w.heap.size (fun _ => True) v0_ r1 ∧ Below w.heap.size w w' := by
 have hu91 := Tryz.underlying91
 have HB := Aside0.mk (Below.refl w.heap.size w)
 have H := h
 clear h
 unfold smaltoref08_Resize.f at H
 have HC4 := Aside0.mk H
 clear H
 go_enter Tryz.func23, Tryz.ntmps23
 go_upto_region 1 with (fail)
 go_cut [29] (fun v29 wc => ∃ (kq : Nat) (x29_3 : Bool), v29 = .bool x29_3 ∧ Aside0 (smaltoref08_Resize.j0 kq a0 a1 a2 x29_3 = some (r1, r2)) ∧ Aside0 (kq ≤ k) ∧ Aside0 (Below w.heap.size w wc))
 case first =>
  have H := HC4.out
  clear HC4
  by_cases c5 : a0 < 0
  ·rw [if_pos c5] at H
   have c5b0 := decide_eq_true c5
   clear c5
   (first | rw [c5b0] | (simp only [i64_w, i32_w]; rw [c5b0]) | skip)
   have H' := Aside0.mk H
   clear H
   go_wp2
   go_meet
   case rel => exact ⟨_, (true), zT, H', ⟨by first | omega | exact Nat.le_refl _⟩, ⟨zB⟩⟩
  ·rw [if_neg c5] at H
   have c5b0 := decide_eq_false c5
   clear c5
   (first | rw [c5b0] | (simp only [i64_w, i32_w]; rw [c5b0]) | skip)
   by_cases c6 : a0 > 2
   ·rw [if_pos c6] at H
    have c6b0 := decide_eq_true c6
    clear c6
    have H' := Aside0.mk H
    clear H
    go_wp2
    go_meet
    case rel => exact ⟨_, (true), zT, H', ⟨by first | omega | exact Nat.le_refl _⟩, ⟨zB⟩⟩
   ·rw [if_neg c6] at H
    have c6b0 := decide_eq_false c6
    clear c6
    replace H := zO H
    obtain ⟨t406, A7, H⟩ := H
    try dsimp only at H
    by_cases c8 : t406 = true
    ·subst c8
     rw [if_pos rfl] at H; try dsimp only at H
     replace H := zO H
     obtain ⟨t407, A9, H⟩ := H
     try dsimp only at H
     have H' := Aside0.mk H
     clear H
     go_wp2_with (first | (go_at_call 41; (with_reducible refine (smaltoref08_side.calls a1 true _ A7.out).mono ?_); rintro e w' ⟨rfl, ⟨nd, rfl⟩⟩) | (go_at_call 41; (with_reducible refine (smaltoref08_side.calls a2 t407 _ A9.out).mono ?_); rintro e w' ⟨rfl, ⟨nd, rfl⟩⟩))
     go_meet
     case rel => exact ⟨_, (!t407), zT, H', ⟨by first | omega | exact Nat.le_refl _⟩, ⟨zB⟩⟩
    ·replace c8 := Bool.eq_false_iff.mpr c8
     subst c8
     rw [if_neg (show ¬ (false = true) by decide)] at H; try dsimp only at H
     have H' := Aside0.mk H
     clear H
     go_wp2_with (first | (go_at_call 41; (with_reducible refine (smaltoref08_side.calls a1 false _ A7.out).mono ?_); rintro e w' ⟨rfl, ⟨nd, rfl⟩⟩))
     go_meet
     case rel => exact ⟨_, (true), zT, H', ⟨by first | omega | exact Nat.le_refl _⟩, ⟨zB⟩⟩
 case rest =>
  clear HC4
  obtain ⟨kq, x29_3, rfl, HA, HJ3, HB⟩ := hcut
  cases kq with
  | zero => exact absurd HA.out (by simp [smaltoref08_Resize.j0])
  | succ kj3 =>
   have H := HA.out
   clear HA
   simp only [smaltoref08_Resize.j0] at H
   by_cases c10 : x29_3 = true
   ·subst c10
    rw [if_pos rfl] at H; try dsimp only at H
    simp only [Option.some.injEq, Prod.mk.injEq] at H
    obtain ⟨rfl, rfl⟩ := H
    go_wp2
    go_ret2
    exact ⟨_, zS, by first | exact Kd.S_nil _ _ _ _ _ | exact Kd.N_nil _ _ _ _ _ | exact Kd.V_nil _ _ _ _ _ | exact Kd.Q_nil _ _ _ _ _ | exact Kd.R_nil _ _ _ _ _, zB⟩
   ·replace c10 := Bool.eq_false_iff.mpr c10
    subst c10
    rw [if_neg (show ¬ (false = true) by decide)] at H; try dsimp only at H
    have H' := Aside0.mk H
    clear H
    go_wp2
    go_loopg [8, 31] kj3 (fun kq v8 v31 w' => ∃ (x8_2 : List (S91)) (x31_2 : Int), v31 = .int .i64 x31_2 ∧ Aside0 (smaltoref08_Resize.l0 kq a0 a1 a2 x8_2 a2 x31_2 = some (r1, r2)) ∧ Aside0 (kq ≤ kj3) ∧ Aside0 (Kd.S k91 91 w' w.heap.size (fun _ => True) v8 x8_2) ∧ Aside0 (Below w.heap.size w w'))
    case atStart => exact ⟨(([] : List (S91))), (0), zT, H', ⟨Nat.le_refl _⟩, ⟨by first | exact Kd.S_nil _ _ _ _ _ | exact Kd.N_nil _ _ _ _ _ | exact Kd.V_nil _ _ _ _ _ | exact Kd.Q_nil _ _ _ _ _ | exact Kd.R_nil _ _ _ _ _⟩, ⟨zB⟩⟩
    case round =>
     clear H'
     obtain ⟨x8_2, x31_2, rfl, HA, HK2, HO_8, HB⟩ := hrel
     cases gk with
     | zero => exact absurd HA.out (by simp [smaltoref08_Resize.l0])
     | succ k2 =>
      have H := HA.out
      clear HA
      simp only [smaltoref08_Resize.l0] at H
      by_cases c11 : x31_2 < a2
      ·rw [if_pos c11] at H
       have c11b0 := decide_eq_true c11
       clear c11
       replace H := zO H
       obtain ⟨⟨t408, t409⟩, A12, H⟩ := H
       try dsimp only at H
       replace H := zO H
       obtain ⟨⟨t412, t413⟩, A13, H⟩ := H
       try dsimp only at H
       by_cases c14 : t413 = 0
       ·rw [if_pos c14] at H
        have c14b0 : (t413 == 0) = true := beq_iff_eq.mpr c14
        have c14b1 : (t413 != 0) = false := bne_eq_false_iff_eq.mpr c14
        clear c14
        by_cases c15 : x8_2.length < 4398046511104
        ·rw [if_pos c15] at H
         have LMc15 := Aside0.mk c15
         clear c15
         obtain ⟨y416, hy416⟩ : ∃ y_ : List (S91), y_ = (x8_2 ++ [(⟨t408, t412⟩ : S91)]) := ⟨_, rfl⟩
         replace H : (smaltoref08_Resize.l0 k2 a0 a1 a2 y416 a2 (wrap64 (x31_2 + 1))) = some (r1, r2) := by first | (rw [hy416]; with_reducible exact H) | (have H2_ := (Option.bind_some _ _).symm.trans H; rw [hy416]; with_reducible exact H2_) | (have H2_ := (Option.bind_some _ _).symm.trans H; with_reducible exact H2_) | with_reducible exact H | (rw [hy416]; exact H) | exact H
         have Ny416 := Aside0.mk hy416
         clear hy416
         have H' := Aside0.mk H
         clear H
         go_wp2_with (first | ((with_reducible refine gate_callee (f := 42) rfl ?_); refine goesL_ (some 39) rfl rfl Tryz.func42 (by kernel_rfl) rfl #[.int .i64 a0, .int .i64 a1, .int .i64 a2, .int .i64 x31_2] rfl zL ?_; (with_reducible refine (smaltoref05_Row.calls k2 a0 a1 a2 x31_2 t408 t409 _ A12.out).mono ?_); rintro e w16 ⟨v410, rfl, ho0, hb⟩; refine ⟨_, rfl, ?_⟩; obtain ⟨HO_8, HO411, HB⟩ := zA3 (Kd.S_elder' (by (with_reducible repeat (first | apply Kd.S_alloc | apply Kd.S_drewN | apply Kd.S_drew)); exact HO_8.out) (Kd.R_base ho0) hb) (Kd.R_lower ho0 (below_size zB)) (below_step zB hb); (try clear hb); (try clear ho0); obtain ⟨Ao17, co17, eo17⟩ := Kd.R_slice HO411.out; subst eo17) | ((with_reducible refine gate_callee (f := 43) rfl ?_); refine goesL_ (some 44) rfl rfl Tryz.func43 (by kernel_rfl) rfl #[.slice Ao17 t409.length co17] rfl zL ?_; (with_reducible refine (smaltoref06_Apportion.calls k2 _ _ t409 t412 t413 _ ?side1 ?side2 A13.out).mono ?_); (case side1 => repeat (first | exact (Kd.R_reads' HO411.out).2.2 | (with_reducible refine Kd.C_alloc ?_ _) | (with_reducible refine Kd.C_drewN ?_ _) | (with_reducible refine Kd.C_drew ?_))); (case side2 => exact (Kd.R_reads' HO411.out).2.1); rintro e w18 ⟨v414, rfl, ho0, hb⟩; refine ⟨_, rfl, ?_⟩; obtain ⟨HO_8, HO411, HO415, HB⟩ := zA4 (Kd.S_elder' (by (with_reducible repeat (first | apply Kd.S_alloc | apply Kd.S_drewN | apply Kd.S_drew)); exact HO_8.out) (Kd.R_base ho0) hb) (Kd.R_elder' (by (with_reducible repeat (first | apply Kd.R_alloc | apply Kd.R_drewN | apply Kd.R_drew)); exact HO411.out) (Kd.R_base ho0) hb) (Kd.R_lower (Kd.R_new' ho0 (Kd.R_lt (by (with_reducible repeat (first | apply Kd.R_alloc | apply Kd.R_drewN | apply Kd.R_drew)); exact HO411.out))) (below_size zB)) (below_step zB hb); (try clear hb); (try clear ho0); obtain ⟨Ao19, co19, eo19⟩ := Kd.R_slice HO415.out; subst eo19) | ((with_reducible refine gate_builtin (b := .append) (xs := #[.tmp 50, .tmp 54]) rfl ?_); at_builtin; refine Kd.S_append k91 (w0 := w) w.heap.size rfl (.tmp 50) (.tmp 54) 37 91 (.agg #[(.int .i64 0), (.slice none 0 0)]) 32 rfl Tryz.underlying37 info91 rfl (by decide) (by omega) u8 x8_2 (⟨t408, t412⟩ : S91) [.int .i64 t408, .slice Ao19 t412.length co19] (fun k_ => some k_ ≠ (.slice Ao17 t409.length co17 : Value).ownBlock) (fun k_ => some k_ = (.slice Ao19 t412.length co19 : Value).ownBlock) rfl rfl ?aP (fun k_ hk_ => ((Kd.R_mono (ok' := fun k_ => ((fun k_ => some k_ ≠ (.slice Ao17 t409.length co17 : Value).ownBlock)) k_ ∧ some k_ ≠ (u8 : Value).ownBlock) (Kd.R_apart' (HO415.out) (Kd.S_typed HO_8.out) (by decide)) (fun k_ hk => ⟨hk.1.2, hk.2⟩))).1 k_ hk_.symm) ?aF ?aO ?aB ?aS ?aL ?_; (case aP => exact k91_mkM _ _ _ (⟨t408, t412⟩ : S91) (Kd.R_mono (Kd.R_tight rfl (Kd.R_mono (ok' := fun k_ => ((fun k_ => some k_ ≠ (.slice Ao17 t409.length co17 : Value).ownBlock)) k_ ∧ some k_ ≠ (u8 : Value).ownBlock) (Kd.R_apart' (HO415.out) (Kd.S_typed HO_8.out) (by decide)) (fun k_ hk => ⟨hk.1.2, hk.2⟩))) (fun _ h_ => h_))); (case aB => exact zB); (case aF => exact (fun k_ hk => Kd.fresh' (Kd.R_lt (by (with_reducible repeat (first | apply Kd.R_alloc | apply Kd.R_drewN | apply Kd.R_drew)); exact HO411.out)) k_ hk)); (case aO => exact (by (with_reducible repeat (first | apply Kd.S_alloc | apply Kd.S_drewN | apply Kd.S_drew)); exact Kd.S_mono HO_8.out (fun k_ hk => ⟨hk.1.2, fun e_ => hk.2 e_⟩))); (case aS => exact (below_size zB)); (case aL => have := LMc15.out; omega); intro v417 w20 ho hb hg hat; rw [← Ny416.out] at ho; obtain ⟨HO411, HB, HO418⟩ := zA3 (Kd.R_over' (by (with_reducible repeat (first | apply Kd.R_alloc | apply Kd.R_drewN | apply Kd.R_drew)); exact HO411.out) (Kd.S_typed (by (with_reducible repeat (first | apply Kd.S_alloc | apply Kd.S_drewN | apply Kd.S_drew)); exact HO_8.out)) (by decide) hg) hb ho; clear ho hb hg hat))
         go_roundg k2
         case measure => have := HJ3.out; have := HK2.out; omega
         case rel => exact ⟨(y416), (wrap64 (x31_2 + 1)), zT, H', ⟨by have := HJ3.out; have := HK2.out; omega⟩, ⟨by (with_reducible repeat (first | apply Kd.S_alloc | apply Kd.S_drewN | apply Kd.S_drew)); exact Kd.S_mono HO418.out (fun _ hk => trivial)⟩, ⟨zB⟩⟩
        ·rw [if_neg c15] at H
         exact absurd H (by simp)
       ·rw [if_neg c14] at H
        have c14b0 : (t413 == 0) = false := beq_eq_false_iff_ne.mpr c14
        have c14b1 : (t413 != 0) = true := bne_iff_ne.mpr c14
        simp only [Option.some.injEq, Prod.mk.injEq] at H
        obtain ⟨rfl, rfl⟩ := H
        go_wp2_with (first | ((with_reducible refine gate_callee (f := 42) rfl ?_); refine goesL_ (some 39) rfl rfl Tryz.func42 (by kernel_rfl) rfl #[.int .i64 a0, .int .i64 a1, .int .i64 a2, .int .i64 x31_2] rfl zL ?_; (with_reducible refine (smaltoref05_Row.calls k2 a0 a1 a2 x31_2 t408 t409 _ A12.out).mono ?_); rintro e w21 ⟨v410, rfl, ho0, hb⟩; refine ⟨_, rfl, ?_⟩; obtain ⟨HO_8, HO411, HB⟩ := zA3 (Kd.S_elder' (by (with_reducible repeat (first | apply Kd.S_alloc | apply Kd.S_drewN | apply Kd.S_drew)); exact HO_8.out) (Kd.R_base ho0) hb) (Kd.R_lower ho0 (below_size zB)) (below_step zB hb); (try clear hb); (try clear ho0); obtain ⟨Ao22, co22, eo22⟩ := Kd.R_slice HO411.out; subst eo22) | ((with_reducible refine gate_callee (f := 43) rfl ?_); refine goesL_ (some 44) rfl rfl Tryz.func43 (by kernel_rfl) rfl #[.slice Ao22 t409.length co22] rfl zL ?_; (with_reducible refine (smaltoref06_Apportion.calls k2 _ _ t409 t412 t413 _ ?side1 ?side2 A13.out).mono ?_); (case side1 => repeat (first | exact (Kd.R_reads' HO411.out).2.2 | (with_reducible refine Kd.C_alloc ?_ _) | (with_reducible refine Kd.C_drewN ?_ _) | (with_reducible refine Kd.C_drew ?_))); (case side2 => exact (Kd.R_reads' HO411.out).2.1); rintro e w23 ⟨v414, rfl, ho0, hb⟩; refine ⟨_, rfl, ?_⟩; obtain ⟨HO_8, HO411, HO415, HB⟩ := zA4 (Kd.S_elder' (by (with_reducible repeat (first | apply Kd.S_alloc | apply Kd.S_drewN | apply Kd.S_drew)); exact HO_8.out) (Kd.R_base ho0) hb) (Kd.R_elder' (by (with_reducible repeat (first | apply Kd.R_alloc | apply Kd.R_drewN | apply Kd.R_drew)); exact HO411.out) (Kd.R_base ho0) hb) (Kd.R_lower (Kd.R_new' ho0 (Kd.R_lt (by (with_reducible repeat (first | apply Kd.R_alloc | apply Kd.R_drewN | apply Kd.R_drew)); exact HO411.out))) (below_size zB)) (below_step zB hb); (try clear hb); (try clear ho0)))
        go_ret2
        exact ⟨_, zS, by first | exact Kd.S_nil _ _ _ _ _ | exact Kd.N_nil _ _ _ _ _ | exact Kd.V_nil _ _ _ _ _ | exact Kd.Q_nil _ _ _ _ _ | exact Kd.R_nil _ _ _ _ _, zB⟩
      ·rw [if_neg c11] at H
       have c11b0 := decide_eq_false c11
       clear c11
       simp only [Option.some.injEq, Prod.mk.injEq] at H
       obtain ⟨rfl, rfl⟩ := H
       go_wp2
       go_ret2
       exact ⟨_, zS, by (with_reducible repeat (first | apply Kd.S_alloc | apply Kd.S_drewN | apply Kd.S_drew)); exact HO_8.out, zB⟩
end Go.Proofs.YtebipmdopdogkaaGreatDoor.QA

namespace Go.Proofs.YtebipmdopdogkaaGreatDoor.QA
open Go.Proofs.YtebipmdopdogkaaGreatDoor.T
open Go.RowKit Go.Proofs.YtebipmdopdogkaaGreatDoorW.PrintWords Go.Proofs.YtebipmdopdogkaaGreatDoorW.PrintLast Go.Proofs.YtebipmdopdogkaaGreatDoorW.PrintMore
attribute [local go_sem] ext_call max2_int min2_int max_two min_two
set_option linter.unusedVariables false
set_option linter.unusedSimpArgs false
mutual
def smaltoref03_Exp.j0 : Nat → Int → Option (Int)
 | 0, _ => none
 | k + 1, x0 => (smaltoref01_Floor.f k x0 762123384786).bind fun t419 => (smaltoref03_Exp.l0 k t419 (wrap64 (x0 - (wrap64 (t419 * 762123384786)))) 1099511627776 0 1099511627776 1)
def smaltoref03_Exp.l0 : Nat → Int → Int → Int → Int → Int → Int → Option (Int)
 | 0, _, _, _, _, _, _ => none
 | k + 1, x3, x4, x5, x6, x7, x8 => if x8 ≤ 16 then ((smaltoref02_MulDiv.f k x7 x4 (wrap64 (x8 * 1099511627776))).bind fun t420 => (if (Int.tmod x8 2) = 1 then (smaltoref03_Exp.l0 k x3 x4 x5 (wrap64 (x6 + t420)) t420 (wrap64 (x8 + 1))) else (smaltoref03_Exp.l0 k x3 x4 (wrap64 (x5 + t420)) x6 t420 (wrap64 (x8 + 1))))) else ((smaltoref01_Shift.f k (wrap64 (x5 - x6)) x3).bind fun t421 => (some t421))
end
def smaltoref03_Exp.f (k : Nat) (a0 : Int) : Option (Int) := if a0 < 0 then (smaltoref03_Exp.j0 k 0) else (smaltoref03_Exp.j0 k a0)
set_option maxHeartbeats 8000000 in
set_option maxRecDepth 100000 in
theorem smaltoref03_Exp.calls (k : Nat) (a0 r : Int) (w : World) (h : smaltoref03_Exp.f k a0 = some r) :
  Calls Tryz.prog 63 #[.int .i64 a0] w fun e w' => e = .returned (.int .i64 r) ∧ Below w.heap.size w w' := by
 have HB := Aside0.mk (Below.refl w.heap.size w)
 have H := h
 clear h
 unfold smaltoref03_Exp.f at H
 have HC2 := Aside0.mk H
 clear H
 go_enter Tryz.func63, Tryz.ntmps63
 go_upto_if 10 with (fail)
 go_cut [0] (fun v0 wc => ∃ (kq : Nat) (x0_1 : Int), v0 = .int .i64 x0_1 ∧ Aside0 (smaltoref03_Exp.j0 kq x0_1 = some r) ∧ Aside0 (kq ≤ k) ∧ Aside0 (Below w.heap.size w wc))
 case first =>
  have H := HC2.out
  clear HC2
  by_cases c3 : a0 < 0
  ·rw [if_pos c3] at H
   have c3b0 := decide_eq_true c3
   clear c3
   (first | rw [c3b0] | (simp only [i64_w, i32_w]; rw [c3b0]) | skip)
   have H' := Aside0.mk H
   clear H
   go_wp2
   go_meet
   case rel => exact ⟨_, (0), zT, H', ⟨by first | omega | exact Nat.le_refl _⟩, ⟨zB⟩⟩
  ·rw [if_neg c3] at H
   have c3b0 := decide_eq_false c3
   clear c3
   (first | rw [c3b0] | (simp only [i64_w, i32_w]; rw [c3b0]) | skip)
   have H' := Aside0.mk H
   clear H
   go_wp2
   go_meet
   case rel => exact ⟨_, (a0), zT, H', ⟨by first | omega | exact Nat.le_refl _⟩, ⟨zB⟩⟩
 case rest =>
  clear HC2
  obtain ⟨kq, x0_1, rfl, HA, HJ1, HB⟩ := hcut
  cases kq with
  | zero => exact absurd HA.out (by simp [smaltoref03_Exp.j0])
  | succ kj1 =>
   have H := HA.out
   clear HA
   simp only [smaltoref03_Exp.j0] at H
   replace H := zO H
   obtain ⟨t419, A4, H⟩ := H
   try dsimp only at H
   have H' := Aside0.mk H
   clear H
   go_wp2_with (first | ((with_reducible refine gate_callee (f := 61) rfl ?_); refine goesL_ (some 12) rfl rfl Tryz.func61 (by kernel_rfl) rfl #[.int .i64 x0_1, .int .i64 762123384786] rfl zL ?_; (with_reducible refine (smaltoref01_Floor.calls kj1 x0_1 762123384786 t419 _ A4.out).mono ?_); rintro e w5 ⟨rfl, hb⟩; refine ⟨_, rfl, ?_⟩; replace HB := Aside0.mk (below_step zB hb); (try clear hb)))
   go_loopg [5, 6, 7, 8] kj1 (fun kq v5 v6 v7 v8 w' => ∃ (x5_2 : Int) (x6_2 : Int) (x7_2 : Int) (x8_2 : Int), v5 = .int .i64 x5_2 ∧ v6 = .int .i64 x6_2 ∧ v7 = .int .i64 x7_2 ∧ v8 = .int .i64 x8_2 ∧ Aside0 (smaltoref03_Exp.l0 kq t419 (wrap64 (x0_1 - (wrap64 (t419 * 762123384786)))) x5_2 x6_2 x7_2 x8_2 = some r) ∧ Aside0 (kq ≤ kj1) ∧ Aside0 (Below w.heap.size w w'))
   case atStart => exact ⟨(1099511627776), (0), (1099511627776), (1), zT, zT, zT, zT, H', ⟨Nat.le_refl _⟩, ⟨zB⟩⟩
   case round =>
    clear H'
    obtain ⟨x5_2, x6_2, x7_2, x8_2, rfl, rfl, rfl, rfl, HA, HK2, HB⟩ := hrel
    cases gk with
    | zero => exact absurd HA.out (by simp [smaltoref03_Exp.l0])
    | succ k2 =>
     have H := HA.out
     clear HA
     simp only [smaltoref03_Exp.l0] at H
     by_cases c6 : x8_2 ≤ 16
     ·rw [if_pos c6] at H
      have c6b0 := decide_eq_true c6
      clear c6
      replace H := zO H
      obtain ⟨t420, A7, H⟩ := H
      try dsimp only at H
      by_cases c8 : (Int.tmod x8_2 2) = 1
      ·rw [if_pos c8] at H
       have c8b0 : ((Int.tmod x8_2 2) == 1) = true := beq_iff_eq.mpr c8
       have c8b1 : ((Int.tmod x8_2 2) != 1) = false := bne_eq_false_iff_eq.mpr c8
       clear c8
       have H' := Aside0.mk H
       clear H
       go_wp2_with (first | ((with_reducible refine gate_callee (f := 46) rfl ?_); refine goesL_ (some 25) rfl rfl Tryz.func46 (by kernel_rfl) rfl #[.int .i64 x7_2, .int .i64 (wrap64 (x0_1 - (wrap64 (t419 * 762123384786)))), .int .i64 (wrap64 (x8_2 * 1099511627776))] rfl zL ?_; (with_reducible refine (smaltoref02_MulDiv.calls k2 x7_2 (wrap64 (x0_1 - (wrap64 (t419 * 762123384786)))) (wrap64 (x8_2 * 1099511627776)) t420 _ A7.out).mono ?_); rintro e w9 ⟨rfl, hb⟩; refine ⟨_, rfl, ?_⟩; replace HB := Aside0.mk (below_step zB hb); (try clear hb)))
       go_roundg k2
       case measure => have := HJ1.out; have := HK2.out; omega
       case rel => exact ⟨(x5_2), (wrap64 (x6_2 + t420)), (t420), (wrap64 (x8_2 + 1)), zT, zT, zT, zT, H', ⟨by have := HJ1.out; have := HK2.out; omega⟩, ⟨zB⟩⟩
      ·rw [if_neg c8] at H
       have c8b0 : ((Int.tmod x8_2 2) == 1) = false := beq_eq_false_iff_ne.mpr c8
       have c8b1 : ((Int.tmod x8_2 2) != 1) = true := bne_iff_ne.mpr c8
       have H' := Aside0.mk H
       clear H
       go_wp2_with (first | ((with_reducible refine gate_callee (f := 46) rfl ?_); refine goesL_ (some 25) rfl rfl Tryz.func46 (by kernel_rfl) rfl #[.int .i64 x7_2, .int .i64 (wrap64 (x0_1 - (wrap64 (t419 * 762123384786)))), .int .i64 (wrap64 (x8_2 * 1099511627776))] rfl zL ?_; (with_reducible refine (smaltoref02_MulDiv.calls k2 x7_2 (wrap64 (x0_1 - (wrap64 (t419 * 762123384786)))) (wrap64 (x8_2 * 1099511627776)) t420 _ A7.out).mono ?_); rintro e w10 ⟨rfl, hb⟩; refine ⟨_, rfl, ?_⟩; replace HB := Aside0.mk (below_step zB hb); (try clear hb)))
       go_roundg k2
       case measure => have := HJ1.out; have := HK2.out; omega
       case rel => exact ⟨(wrap64 (x5_2 + t420)), (x6_2), (t420), (wrap64 (x8_2 + 1)), zT, zT, zT, zT, H', ⟨by have := HJ1.out; have := HK2.out; omega⟩, ⟨zB⟩⟩
     ·rw [if_neg c6] at H
      have c6b0 := decide_eq_false c6
      clear c6
      replace H := zO H
      obtain ⟨t421, A11, H⟩ := H
      try dsimp only at H
      obtain rfl := Option.some.inj H
      go_wp2_with (first | ((with_reducible refine gate_callee (f := 62) rfl ?_); refine goesL_ (some 39) rfl rfl Tryz.func62 (by kernel_rfl) rfl #[.int .i64 (wrap64 (x5_2 - x6_2)), .int .i64 t419] rfl zL ?_; (with_reducible refine (smaltoref01_Shift.calls k2 (wrap64 (x5_2 - x6_2)) t419 t421 _ A11.out).mono ?_); rintro e w12 ⟨rfl, hb⟩; refine ⟨_, rfl, ?_⟩; replace HB := Aside0.mk (below_step zB hb); (try clear hb)))
      go_ret
      exact ⟨zS, zB⟩
def smaltoref03_Ratio.f (k : Nat) (a0 a1 : Int) : Option (Int) := if a1 < 1 then (some 9223372036854775807) else (if a1 > 4194304 then (some 9223372036854775807) else (if a0 < (-16384) then (some 9223372036854775807) else (if a0 > 16384 then (some 9223372036854775807) else ((smaltoref02_MulDiv.f k (wrap64 ((wrap64 (a0 * a0)) * 2147483648)) 1099511627776 (wrap64 (a1 * a1))).bind fun t422 => (some t422)))))
set_option maxHeartbeats 8000000 in
set_option maxRecDepth 100000 in
theorem smaltoref03_Ratio.calls (k : Nat) (a0 a1 r : Int) (w : World) (h : smaltoref03_Ratio.f k a0 a1 = some r) :
  Calls Tryz.prog 64 #[.int .i64 a0, .int .i64 a1] w fun e w' => e = .returned (.int .i64 r) ∧ Below w.heap.size w w' := by
 have HB := Aside0.mk (Below.refl w.heap.size w)
 have H := h
 clear h
 unfold smaltoref03_Ratio.f at H
 by_cases c3 : a1 < 1
 ·rw [if_pos c3] at H
  have c3b0 := decide_eq_true c3
  clear c3
  obtain rfl := Option.some.inj H
  go_enter Tryz.func64, Tryz.ntmps64
  go_wp2
  go_ret
  exact ⟨zS, zB⟩
 ·rw [if_neg c3] at H
  have c3b0 := decide_eq_false c3
  clear c3
  by_cases c4 : a1 > 4194304
  ·rw [if_pos c4] at H
   have c4b0 := decide_eq_true c4
   clear c4
   obtain rfl := Option.some.inj H
   go_enter Tryz.func64, Tryz.ntmps64
   go_wp2
   go_ret
   exact ⟨zS, zB⟩
  ·rw [if_neg c4] at H
   have c4b0 := decide_eq_false c4
   clear c4
   by_cases c5 : a0 < (-16384)
   ·rw [if_pos c5] at H
    have c5b0 := decide_eq_true c5
    clear c5
    obtain rfl := Option.some.inj H
    go_enter Tryz.func64, Tryz.ntmps64
    go_wp2
    go_ret
    exact ⟨zS, zB⟩
   ·rw [if_neg c5] at H
    have c5b0 := decide_eq_false c5
    clear c5
    by_cases c6 : a0 > 16384
    ·rw [if_pos c6] at H
     have c6b0 := decide_eq_true c6
     clear c6
     obtain rfl := Option.some.inj H
     go_enter Tryz.func64, Tryz.ntmps64
     go_wp2
     go_ret
     exact ⟨zS, zB⟩
    ·rw [if_neg c6] at H
     have c6b0 := decide_eq_false c6
     clear c6
     replace H := zO H
     obtain ⟨t422, A7, H⟩ := H
     try dsimp only at H
     obtain rfl := Option.some.inj H
     go_enter Tryz.func64, Tryz.ntmps64
     go_wp2_with (first | ((with_reducible refine gate_callee (f := 46) rfl ?_); refine goesL_ (some 26) rfl rfl Tryz.func46 (by kernel_rfl) rfl #[.int .i64 (wrap64 ((wrap64 (a0 * a0)) * 2147483648)), .int .i64 1099511627776, .int .i64 (wrap64 (a1 * a1))] rfl zL ?_; (with_reducible refine (smaltoref02_MulDiv.calls k (wrap64 ((wrap64 (a0 * a0)) * 2147483648)) 1099511627776 (wrap64 (a1 * a1)) t422 _ A7.out).mono ?_); rintro e w8 ⟨rfl, hb⟩; refine ⟨_, rfl, ?_⟩; replace HB := Aside0.mk (below_step zB hb); (try clear hb)))
     go_ret
     exact ⟨zS, zB⟩
def smaltoref03_Gauss.f (k : Nat) (a0 a1 : Int) : Option (Int) := (smaltoref03_Ratio.f k a0 a1).bind fun t423 => ((smaltoref03_Exp.f k t423).bind fun t424 => ((smaltoref01_Shift.f k t424 10).bind fun t425 => (some t425)))
set_option maxHeartbeats 8000000 in
set_option maxRecDepth 100000 in
theorem smaltoref03_Gauss.calls (k : Nat) (a0 a1 r : Int) (w : World) (h : smaltoref03_Gauss.f k a0 a1 = some r) :
  Calls Tryz.prog 44 #[.int .i64 a0, .int .i64 a1] w fun e w' => e = .returned (.int .i64 r) ∧ Below w.heap.size w w' := by
 have HB := Aside0.mk (Below.refl w.heap.size w)
 have H := h
 clear h
 unfold smaltoref03_Gauss.f at H
 replace H := zO H
 obtain ⟨t423, A3, H⟩ := H
 try dsimp only at H
 replace H := zO H
 obtain ⟨t424, A4, H⟩ := H
 try dsimp only at H
 replace H := zO H
 obtain ⟨t425, A5, H⟩ := H
 try dsimp only at H
 obtain rfl := Option.some.inj H
 go_enter Tryz.func44, Tryz.ntmps44
 go_wp2_with (first | ((with_reducible refine gate_callee (f := 64) rfl ?_); refine goesL_ (some 7) rfl rfl Tryz.func64 (by kernel_rfl) rfl #[.int .i64 a0, .int .i64 a1] rfl zL ?_; (with_reducible refine (smaltoref03_Ratio.calls k a0 a1 t423 _ A3.out).mono ?_); rintro e w6 ⟨rfl, hb⟩; refine ⟨_, rfl, ?_⟩; replace HB := Aside0.mk (below_step zB hb); (try clear hb)) | ((with_reducible refine gate_callee (f := 63) rfl ?_); refine goesL_ (some 8) rfl rfl Tryz.func63 (by kernel_rfl) rfl #[.int .i64 t423] rfl zL ?_; (with_reducible refine (smaltoref03_Exp.calls k t423 t424 _ A4.out).mono ?_); rintro e w7 ⟨rfl, hb⟩; refine ⟨_, rfl, ?_⟩; replace HB := Aside0.mk (below_step zB hb); (try clear hb)) | ((with_reducible refine gate_callee (f := 62) rfl ?_); refine goesL_ (some 9) rfl rfl Tryz.func62 (by kernel_rfl) rfl #[.int .i64 t424, .int .i64 10] rfl zL ?_; (with_reducible refine (smaltoref01_Shift.calls k t424 10 t425 _ A5.out).mono ?_); rintro e w8 ⟨rfl, hb⟩; refine ⟨_, rfl, ?_⟩; replace HB := Aside0.mk (below_step zB hb); (try clear hb)))
 go_ret
 exact ⟨zS, zB⟩
end Go.Proofs.YtebipmdopdogkaaGreatDoor.QA

namespace Go.Proofs.YtebipmdopdogkaaGreatDoor.QA
open Go.Proofs.YtebipmdopdogkaaGreatDoor.T
open Go.RowKit Go.Proofs.YtebipmdopdogkaaGreatDoorW.PrintWords Go.Proofs.YtebipmdopdogkaaGreatDoorW.PrintLast Go.Proofs.YtebipmdopdogkaaGreatDoorW.PrintMore
attribute [local go_sem] ext_call max2_int min2_int max_two min_two
set_option linter.unusedVariables false
set_option linter.unusedSimpArgs false
mutual
def smaltoref06_Gaussian.j0 : Nat → Int → Bool → Option (List Int × Int)
 | 0, _, _ => none
 | k + 1, x0, x12 => if x12 = true then (some (([] : List Int), 7)) else (smaltoref06_Gaussian.l0 k x0 0)
def smaltoref06_Gaussian.l0 : Nat → Int → Int → Option (List Int × Int)
 | 0, _, _ => none
 | k + 1, x0, x4 => if (wrap64 (x4 * 65536)) < (wrap64 (3 * x0)) then (smaltoref06_Gaussian.l0 k x0 (wrap64 (x4 + 1))) else (smaltoref06_Gaussian.l1 k x0 x4 ([] : List Int) (wrap64 (-x4)))
def smaltoref06_Gaussian.l1 : Nat → Int → Int → List Int → Int → Option (List Int × Int)
 | 0, _, _, _, _ => none
 | k + 1, x0, x4, x5, x6 => if x6 ≤ x4 then ((smaltoref03_Gauss.f k x6 x0).bind fun t426 => (if x5.length < 17592186044416 then (smaltoref06_Gaussian.l1 k x0 x4 (x5 ++ [t426]) (wrap64 (x6 + 1))) else (none))) else (some (x5, 0))
end
def smaltoref06_Gaussian.f (k : Nat) (a0 : Int) : Option (List Int × Int) := if a0 < 1 then (smaltoref06_Gaussian.j0 k a0 true) else (smaltoref06_Gaussian.j0 k a0 (decide (a0 > 4194304)))
set_option maxHeartbeats 8000000 in
set_option maxRecDepth 100000 in
theorem smaltoref06_Gaussian.calls (k : Nat) (a0 : Int) (r1 : List Int) (r2 : Int) (w : World) (h : smaltoref06_Gaussian.f k a0 = some (r1, r2)) :
  Calls Tryz.prog 24 #[.int .i64 a0] w fun e w' => ∃ v0_ : Value, e = .returned (.tuple #[v0_, .int .i64 r2]) ∧ Kd.R (Kd.int .i64) 2 w' w.heap.size (fun _ => True) v0_ r1 ∧ Below w.heap.size w w' := by
 have HB := Aside0.mk (Below.refl w.heap.size w)
 have H := h
 clear h
 unfold smaltoref06_Gaussian.f at H
 have HC2 := Aside0.mk H
 clear H
 go_enter Tryz.func24, Tryz.ntmps24
 go_upto_region 1 with (fail)
 go_cut [12] (fun v12 wc => ∃ (kq : Nat) (x12_1 : Bool), v12 = .bool x12_1 ∧ Aside0 (smaltoref06_Gaussian.j0 kq a0 x12_1 = some (r1, r2)) ∧ Aside0 (kq ≤ k) ∧ Aside0 (Below w.heap.size w wc))
 case first =>
  have H := HC2.out
  clear HC2
  by_cases c3 : a0 < 1
  ·rw [if_pos c3] at H
   have c3b0 := decide_eq_true c3
   clear c3
   (first | rw [c3b0] | (simp only [i64_w, i32_w]; rw [c3b0]) | skip)
   have H' := Aside0.mk H
   clear H
   go_wp2
   go_meet
   case rel => exact ⟨_, (true), zT, H', ⟨by first | omega | exact Nat.le_refl _⟩, ⟨zB⟩⟩
  ·rw [if_neg c3] at H
   have c3b0 := decide_eq_false c3
   clear c3
   (first | rw [c3b0] | (simp only [i64_w, i32_w]; rw [c3b0]) | skip)
   have H' := Aside0.mk H
   clear H
   go_wp2
   go_meet
   case rel => exact ⟨_, (decide (a0 > 4194304)), zT, H', ⟨by first | omega | exact Nat.le_refl _⟩, ⟨zB⟩⟩
 case rest =>
  clear HC2
  obtain ⟨kq, x12_1, rfl, HA, HJ1, HB⟩ := hcut
  cases kq with
  | zero => exact absurd HA.out (by simp [smaltoref06_Gaussian.j0])
  | succ kj1 =>
   have H := HA.out
   clear HA
   simp only [smaltoref06_Gaussian.j0] at H
   by_cases c4 : x12_1 = true
   ·subst c4
    rw [if_pos rfl] at H; try dsimp only at H
    simp only [Option.some.injEq, Prod.mk.injEq] at H
    obtain ⟨rfl, rfl⟩ := H
    go_wp2
    go_ret2
    exact ⟨_, zS, by first | exact Kd.R_nil _ _ _ _ _ | exact Kd.N_nil _ _ _ _ _ | exact Kd.V_nil _ _ _ _ _ | exact Kd.Q_nil _ _ _ _ _ | exact Kd.S_nil _ _ _ _ _, zB⟩
   ·replace c4 := Bool.eq_false_iff.mpr c4
    subst c4
    rw [if_neg (show ¬ (false = true) by decide)] at H; try dsimp only at H
    have H' := Aside0.mk H
    clear H
    go_wp2
    go_loopg [4] kj1 (fun kq v4 w' => ∃ (x4_2 : Int), v4 = .int .i64 x4_2 ∧ Aside0 (smaltoref06_Gaussian.l0 kq a0 x4_2 = some (r1, r2)) ∧ Aside0 (kq ≤ kj1) ∧ Aside0 (Below w.heap.size w w'))
    case atStart => exact ⟨(0), zT, H', ⟨Nat.le_refl _⟩, ⟨zB⟩⟩
    case round =>
     clear H'
     obtain ⟨x4_2, rfl, HA, HK2, HB⟩ := hrel
     cases gk with
     | zero => exact absurd HA.out (by simp [smaltoref06_Gaussian.l0])
     | succ k2 =>
      have H := HA.out
      clear HA
      simp only [smaltoref06_Gaussian.l0] at H
      by_cases c5 : (wrap64 (x4_2 * 65536)) < (wrap64 (3 * a0))
      ·rw [if_pos c5] at H
       have c5b0 := decide_eq_true c5
       clear c5
       have H' := Aside0.mk H
       clear H
       go_wp2
       go_roundg k2
       case measure => have := HJ1.out; have := HK2.out; omega
       case rel => exact ⟨(wrap64 (x4_2 + 1)), zT, H', ⟨by have := HJ1.out; have := HK2.out; omega⟩, ⟨zB⟩⟩
      ·rw [if_neg c5] at H
       have c5b0 := decide_eq_false c5
       clear c5
       have H' := Aside0.mk H
       clear H
       go_wp2
       try simp only [Act.put, List.setIfInBounds_toArray, List.set_cons_succ, List.set_cons_zero]
       go_loopg [5, 6] k2 (fun kq v5 v6 w' => ∃ (x5_3 : List Int) (x6_3 : Int), v6 = .int .i64 x6_3 ∧ Aside0 (smaltoref06_Gaussian.l1 kq a0 x4_2 x5_3 x6_3 = some (r1, r2)) ∧ Aside0 (kq ≤ k2) ∧ Aside0 (Kd.R (Kd.int .i64) 2 w' w.heap.size (fun _ => True) v5 x5_3) ∧ Aside0 (Below w.heap.size w w'))
       case atStart => exact ⟨(([] : List Int)), (wrap64 (-x4_2)), zT, H', ⟨Nat.le_refl _⟩, ⟨by first | exact Kd.R_nil _ _ _ _ _ | exact Kd.N_nil _ _ _ _ _ | exact Kd.V_nil _ _ _ _ _ | exact Kd.Q_nil _ _ _ _ _ | exact Kd.S_nil _ _ _ _ _⟩, ⟨zB⟩⟩
       case round =>
        clear H'
        obtain ⟨x5_3, x6_3, rfl, HA, HK3, HO_5, HB⟩ := hrel
        cases gk with
        | zero => exact absurd HA.out (by simp [smaltoref06_Gaussian.l1])
        | succ k3 =>
         have H := HA.out
         clear HA
         simp only [smaltoref06_Gaussian.l1] at H
         by_cases c6 : x6_3 ≤ x4_2
         ·rw [if_pos c6] at H
          have c6b0 := decide_eq_true c6
          clear c6
          replace H := zO H
          obtain ⟨t426, A7, H⟩ := H
          try dsimp only at H
          by_cases c8 : x5_3.length < 17592186044416
          ·rw [if_pos c8] at H
           have LMc8 := Aside0.mk c8
           clear c8
           obtain ⟨y427, hy427⟩ : ∃ y_ : List Int, y_ = (x5_3 ++ [t426]) := ⟨_, rfl⟩
           replace H : (smaltoref06_Gaussian.l1 k3 a0 x4_2 y427 (wrap64 (x6_3 + 1))) = some (r1, r2) := by first | (rw [hy427]; with_reducible exact H) | (have H2_ := (Option.bind_some _ _).symm.trans H; rw [hy427]; with_reducible exact H2_) | (have H2_ := (Option.bind_some _ _).symm.trans H; with_reducible exact H2_) | with_reducible exact H | (rw [hy427]; exact H) | exact H
           have Ny427 := Aside0.mk hy427
           clear hy427
           have H' := Aside0.mk H
           clear H
           go_wp2_with (first | ((with_reducible refine gate_callee (f := 44) rfl ?_); refine goesL_ (some 30) rfl rfl Tryz.func44 (by kernel_rfl) rfl #[.int .i64 x6_3, .int .i64 a0] rfl zL ?_; (with_reducible refine (smaltoref03_Gauss.calls k3 x6_3 a0 t426 _ A7.out).mono ?_); rintro e w9 ⟨rfl, hb⟩; refine ⟨_, rfl, ?_⟩; obtain ⟨HO_5, HB⟩ := zA2 (Kd.R_below (by (with_reducible repeat (first | apply Kd.R_alloc | apply Kd.R_drewN | apply Kd.R_drew)); exact HO_5.out) hb) (below_step zB hb); (try clear hb)) | ((with_reducible refine gate_builtin (b := .append) (xs := #[.tmp 27, .tmp 31]) rfl ?_); at_builtin; refine Kd.R_append (Kd.int .i64) (w0 := w) w.heap.size rfl (.tmp 27) (.tmp 31) 24 2 (.int .i64 0) 8 rfl Tryz.underlying24 info2 rfl (by decide) (by omega) u5 x5_3 t426 [.int .i64 t426] (fun _ => True) (fun _ => False) rfl rfl ?aP (fun _ hk => hk.elim) ?aF ?aO ?aB ?aS ?aL ?_; (case aP => exact rfl); (case aB => exact zB); (case aF => exact (fun _ _ => trivial)); (case aO => exact (by (with_reducible repeat (first | apply Kd.R_alloc | apply Kd.R_drewN | apply Kd.R_drew)); exact HO_5.out)); (case aS => exact (below_size zB)); (case aL => have := LMc8.out; omega); intro v428 w10 ho hb hg hat; rw [← Ny427.out] at ho; obtain ⟨HB, HO429⟩ := zA2 hb ho; clear ho hb hg hat))
           go_roundg k3
           case measure => have := HJ1.out; have := HK2.out; have := HK3.out; omega
           case rel => exact ⟨(y427), (wrap64 (x6_3 + 1)), zT, H', ⟨by have := HJ1.out; have := HK2.out; have := HK3.out; omega⟩, ⟨by (with_reducible repeat (first | apply Kd.R_alloc | apply Kd.R_drewN | apply Kd.R_drew)); exact HO429.out⟩, ⟨zB⟩⟩
          ·rw [if_neg c8] at H
           exact absurd H (by simp)
         ·rw [if_neg c6] at H
          have c6b0 := decide_eq_false c6
          clear c6
          simp only [Option.some.injEq, Prod.mk.injEq] at H
          obtain ⟨rfl, rfl⟩ := H
          go_wp2
          go_ret2
          exact ⟨_, zS, by (with_reducible repeat (first | apply Kd.R_alloc | apply Kd.R_drewN | apply Kd.R_drew)); exact HO_5.out, zB⟩
def smaltoref06_Sizes.l0 : Nat → Int → List Int → Int → Int → Option (Int)
 | 0, _, _, _, _ => none
 | k + 1, x3, x6, x7, x8 => if x8 < x7 then (if 0 ≤ x8 then (if x8 < (x6.length : Int) then ((smaltoref06_Size.f (rd x6 x8)).bind fun t431 => ((smaltoref06_plus.f k x3 t431).bind fun t432 => (smaltoref06_Sizes.l0 k t432 x6 x7 (wrap64 (x8 + 1))))) else (none)) else (none)) else (some x3)
def smaltoref06_Sizes.f (k : Nat) (l0 : List Int) : Option (Int) := smaltoref06_Sizes.l0 k 0 l0 (l0.length : Int) 0
set_option maxHeartbeats 8000000 in
set_option maxRecDepth 100000 in
theorem smaltoref06_Sizes.calls (k : Nat) (A0 : Option Addr) (c0 : Nat) (l0 : List Int) (r : Int) (w : World) (hr0 : Kd.C (Kd.int .i64) w A0 l0.length l0) (hc0 : l0.length ≤ c0) (h : smaltoref06_Sizes.f k l0 = some r) :
  Calls Tryz.prog 45 #[.slice A0 l0.length c0] w fun e w' => e = .returned (.int .i64 r) ∧ Drawn0 w w' := by
 have HR0 := Aside0.mk hr0
 have HC0 := Aside0.mk hc0
 clear hr0 hc0
 have H := h
 clear h
 unfold smaltoref06_Sizes.f at H
 have H' := Aside0.mk H
 clear H
 go_enter Tryz.func45, Tryz.ntmps45
 go_wp2
 go_loopg [3, 8] k (fun kq v3 v8 w' => ∃ (x3_1 : Int) (x8_1 : Int), v3 = .int .i64 x3_1 ∧ v8 = .int .i64 x8_1 ∧ Aside0 (smaltoref06_Sizes.l0 kq x3_1 l0 (l0.length : Int) x8_1 = some r) ∧ Aside0 (kq ≤ k) ∧ Drawn0 w w')
 case atStart => exact ⟨(0), (0), zT, zT, H', ⟨Nat.le_refl _⟩, zW⟩
 case round =>
  clear H'
  obtain ⟨x3_1, x8_1, rfl, rfl, HA, HK1, ⟨m1, rfl⟩⟩ := hrel
  cases gk with
  | zero => exact absurd HA.out (by simp [smaltoref06_Sizes.l0])
  | succ k1 =>
   have H := HA.out
   clear HA
   simp only [smaltoref06_Sizes.l0] at H
   by_cases c2 : x8_1 < (l0.length : Int)
   ·rw [if_pos c2] at H
    have c2b0 := decide_eq_true c2
    clear c2
    by_cases c3 : 0 ≤ x8_1
    ·rw [if_pos c3] at H
     have c3b0 := decide_eq_true c3
     clear c3
     by_cases c4 : x8_1 < (l0.length : Int)
     ·rw [if_pos c4] at H
      have c4b0 := decide_eq_true c4
      clear c4
      replace H := zO H
      obtain ⟨t431, A5, H⟩ := H
      try dsimp only at H
      replace H := zO H
      obtain ⟨t432, A6, H⟩ := H
      try dsimp only at H
      have H' := Aside0.mk H
      clear H
      have p430 : 0 ≤ (x8_1 : Int) := of_decide_eq_true (by first | (with_reducible assumption) | assumption)
      have q430 : x8_1 < (l0.length : Int) := of_decide_eq_true (by first | (with_reducible assumption) | assumption)
      obtain ⟨ad430, e430, hx430_0⟩ := Kd.at_int HR0.out x8_1 p430 q430
      cases e430
      replace p430 := eq_true p430
      replace q430 := eq_true q430
      go_wp2_with (first | ((with_reducible refine gate_callee (f := 59) rfl ?_); refine goesL_ (some 14) rfl rfl Tryz.func59 (by kernel_rfl) rfl #[.int .i64 (rd l0 x8_1)] rfl zL ?_; (with_reducible refine (smaltoref06_Size.calls (rd l0 x8_1) t431 _ A5.out).mono ?_); rintro e w' ⟨rfl, ⟨nd, rfl⟩⟩; refine ⟨_, rfl, ?_⟩) | ((with_reducible refine gate_callee (f := 65) rfl ?_); refine goesL_ (some 15) rfl rfl Tryz.func65 (by kernel_rfl) rfl #[.int .i64 x3_1, .int .i64 t431] rfl zL ?_; (with_reducible refine (smaltoref06_plus.calls k1 x3_1 t431 t432 _ A6.out).mono ?_); rintro e w' ⟨rfl, ⟨nd, rfl⟩⟩; refine ⟨_, rfl, ?_⟩))
      go_roundg k1
      case measure => have := HK1.out; omega
      case rel => exact ⟨(t432), (wrap64 (x8_1 + 1)), zT, zT, H', ⟨by have := HK1.out; omega⟩, zW⟩
     ·rw [if_neg c4] at H
      exact absurd H (by simp)
    ·rw [if_neg c3] at H
     exact absurd H (by simp)
   ·rw [if_neg c2] at H
    have c2b0 := decide_eq_false c2
    clear c2
    obtain rfl := Option.some.inj H
    go_wp2
    go_ret
    exact ⟨zT, zW⟩
end Go.Proofs.YtebipmdopdogkaaGreatDoor.QA
