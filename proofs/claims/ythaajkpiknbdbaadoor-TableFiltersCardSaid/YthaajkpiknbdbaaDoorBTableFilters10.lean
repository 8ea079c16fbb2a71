/- Joined by wip/tools/bundle.py out of: QAx26 QAx27 QAx28. -/
import Derived.Test.YthaajkpiknbdbaaDoorBTableFilters1
import Derived.Test.YthaajkpiknbdbaaDoorBTableFilters6
import Derived.Test.YthaajkpiknbdbaaDoorBTableFilters7
import Derived.Test.YthaajkpiknbdbaaDoorBTableFilters9
namespace Go.Proofs.YthaajkpiknbdbaaDoor.QA
open Go.Proofs.YthaajkpiknbdbaaDoor.T
open Go.RowKit Go.Proofs.YthaajkpiknbdbaaDoorW.PrintWords Go.Proofs.YthaajkpiknbdbaaDoorW.PrintLast Go.Proofs.YthaajkpiknbdbaaDoorW.PrintMore
attribute [local go_sem] ext_call max2_int min2_int max_two min_two max_three min_three max_four min_four   -- for this text's walks alone
set_option linter.unusedVariables false
set_option linter.unusedSimpArgs false
def smaltoref06_plus.j0 : Nat → Int → Int → Bool → Option (Int)
 | 0, _, _, _ => none
 | k + 1, x0, x1, x12 => if x12 = true then (some 9223372036854775807) else (if x1 < 0 then (if x0 < (wrap64 ((-9223372036854775808) - x1)) then (some (-9223372036854775808)) else (some (wrap64 (x0 + x1)))) else (some (wrap64 (x0 + x1))))
def smaltoref06_plus.f (k : Nat) (a0 : Int) (a1 : Int) : Option (Int) := if a1 > 0 then (smaltoref06_plus.j0 k a0 a1 (decide (a0 > (wrap64 (9223372036854775807 - a1))))) else (smaltoref06_plus.j0 k a0 a1 false)
theorem smaltoref06_plus.mono_l : ∀ k, (∀ y0 y1 y2, LeO (smaltoref06_plus.j0 k y0 y1 y2) (smaltoref06_plus.j0 (k + 1) y0 y1 y2))
 | 0 => fun _ _ _ r h => by simp [smaltoref06_plus.j0] at h
 | k + 1 => by
  have ih0 := smaltoref06_plus.mono_l k
  ·intro y0 y1 y2
   unfold smaltoref06_plus.j0
   repeat' (with_reducible first | exact ih0 _ _ _ | exact zM | refine LeO.ite ?_ ?_ | refine LeO.bind ?_ (fun _ => ?_))
theorem smaltoref06_plus.mono : ∀ a0 a1 k, LeO (smaltoref06_plus.f k a0 a1) (smaltoref06_plus.f (k + 1) a0 a1) := by
 intro a0 a1 k
 have ih0 := smaltoref06_plus.mono_l k
 unfold smaltoref06_plus.f
 repeat' (with_reducible first | exact ih0 _ _ _ | exact zM | refine LeO.ite ?_ ?_ | refine LeO.bind ?_ (fun _ => ?_))
set_option maxHeartbeats 8000000 in
set_option maxRecDepth 100000 in
theorem smaltoref06_plus.calls (k : Nat) (a0 : Int) (a1 : Int) (r : Int) (w : World) (h : smaltoref06_plus.f k a0 a1 = some r) :
  Calls Tryd.prog 53 #[.int .i64 a0, .int .i64 a1] w fun e w' => e = .returned (.int .i64 r) ∧ Drawn0 w w' := by
 have H : (if a1 > 0 then (smaltoref06_plus.j0 k a0 a1 (decide (a0 > (wrap64 (9223372036854775807 - a1))))) else (smaltoref06_plus.j0 k a0 a1 false)) = some r := h
 clear h
 have HC3 := Aside0.mk H
 clear H
 go_enter Tryd.func53, Tryd.ntmps53
 go_upto_region 1 with (fail)
 go_cut [12] (fun v12 wc => ∃ (kq : Nat) (x12_2 : Bool), v12 = .bool x12_2 ∧ Aside0 (smaltoref06_plus.j0 kq a0 a1 x12_2 = some r) ∧ Aside0 (kq ≤ k) ∧ Drawn0 w wc)
 case first =>
  have H := HC3.out
  clear HC3
  by_cases c4 : a1 > 0
  ·rw [if_pos c4] at H
   have c4b0 : decide (0 < a1) = true := decide_eq_true c4
   clear c4
   (first | rw [c4b0] | (simp only [i64_w, i32_w]; rw [c4b0]) | skip)
   have H' := Aside0.mk H
   clear H
   go_wp2
   go_meet
   case rel => exact ⟨_, (decide (a0 > (wrap64 (9223372036854775807 - a1)))), zT, H', ⟨by first | omega | exact Nat.le_refl _⟩, zW⟩
  ·rw [if_neg c4] at H
   have c4b0 : decide (0 < a1) = false := decide_eq_false c4
   clear c4
   (first | rw [c4b0] | (simp only [i64_w, i32_w]; rw [c4b0]) | skip)
   have H' := Aside0.mk H
   clear H
   go_wp2
   go_meet
   case rel => exact ⟨_, (false), zT, H', ⟨by first | omega | exact Nat.le_refl _⟩, zW⟩
 case rest =>
  clear HC3
  try clear p2
  try clear c4
  try clear c4b0
  obtain ⟨kq, x12_2, rfl, HA, HJ2, ⟨mc2, rfl⟩⟩ := hcut
  cases kq with
  | zero => exact absurd HA.out (by simp [smaltoref06_plus.j0])
  | succ kj2 =>
   have H := HA.out
   clear HA
   simp only [smaltoref06_plus.j0] at H
   by_cases c5 : x12_2 = true
   ·subst c5
    have H1 := H; rw [if_pos rfl] at H1; try dsimp only at H1
    clear H
    have H := H1
    clear H1
    obtain rfl := Option.some.inj H
    go_wp2
    go_ret
    exact ⟨zT, zW⟩
   ·replace c5 := Bool.eq_false_iff.mpr c5
    subst c5
    have H1 := H; rw [if_neg (show ¬ (false = true) by decide)] at H1; try dsimp only at H1
    clear H
    have H := H1
    clear H1
    by_cases c6 : a1 < 0
    ·rw [if_pos c6] at H
     have c6b0 : decide (a1 < 0) = true := decide_eq_true c6
     clear c6
     by_cases c7 : a0 < (wrap64 ((-9223372036854775808) - a1))
     ·rw [if_pos c7] at H
      have c7b0 : decide (a0 < (wrap64 ((-9223372036854775808) - a1))) = true := decide_eq_true c7
      clear c7
      obtain rfl := Option.some.inj H
      go_wp2
      go_ret
      exact ⟨zT, zW⟩
     ·rw [if_neg c7] at H
      have c7b0 : decide (a0 < (wrap64 ((-9223372036854775808) - a1))) = false := decide_eq_false c7
      clear c7
      obtain rfl := Option.some.inj H
      go_wp2
      go_ret
      exact ⟨zT, zW⟩
    ·rw [if_neg c6] at H
     have c6b0 : decide (a1 < 0) = false := decide_eq_false c6
     clear c6
     obtain rfl := Option.some.inj H
     go_wp2
     go_ret
     exact ⟨zT, zW⟩
def smaltoref06_Sum.l0 : Nat → Int → List Int → Int → Int → Option (Int)
 | 0, _, _, _, _ => none
 | k + 1, x3, x6, x7, x8 => if x8 < x7 then (if 0 ≤ x8 then (if x8 < (x6.length : Int) then ((smaltoref06_plus.f k x3 (rd x6 x8)).bind fun t339 => (smaltoref06_Sum.l0 k t339 x6 x7 (wrap64 (x8 + 1)))) else (none)) else (none)) else (some x3)
def smaltoref06_Sum.f (k : Nat) (l0 : List Int) : Option (Int) := smaltoref06_Sum.l0 k 0 l0 (l0.length : Int) 0
theorem smaltoref06_Sum.mono_l : ∀ k, (∀ y0 y1 y2 y3, LeO (smaltoref06_Sum.l0 k y0 y1 y2 y3) (smaltoref06_Sum.l0 (k + 1) y0 y1 y2 y3))
 | 0 => fun _ _ _ _ r h => by simp [smaltoref06_Sum.l0] at h
 | k + 1 => by
  have ih0 := smaltoref06_Sum.mono_l k
  ·intro y0 y1 y2 y3
   unfold smaltoref06_Sum.l0
   repeat' (with_reducible first | exact ih0 _ _ _ _ | exact smaltoref06_plus.mono _ _ _ | exact zM | refine LeO.ite ?_ ?_ | refine LeO.bind ?_ (fun _ => ?_))
theorem smaltoref06_Sum.mono : ∀ a0 k, LeO (smaltoref06_Sum.f k a0) (smaltoref06_Sum.f (k + 1) a0) := by
 intro a0 k
 have ih0 := smaltoref06_Sum.mono_l k
 unfold smaltoref06_Sum.f
 repeat' (with_reducible first | exact ih0 _ _ _ _ | exact smaltoref06_plus.mono _ _ _ | exact zM | refine LeO.ite ?_ ?_ | refine LeO.bind ?_ (fun _ => ?_))
set_option maxHeartbeats 8000000 in
set_option maxRecDepth 100000 in
theorem smaltoref06_Sum.calls (k : Nat) (A0 : Option Addr) (c0 : Nat) (l0 : List Int) (r : Int) (w : World) (hr0 : Kd.C (Kd.int .i64) w A0 l0.length l0) (hc0 : l0.length ≤ c0) (h : smaltoref06_Sum.f k l0 = some r) :
  Calls Tryd.prog 51 #[.slice A0 l0.length c0] w fun e w' => e = .returned (.int .i64 r) ∧ Drawn0 w w' := by
 have HR0 := Aside0.mk hr0
 have HC0 := Aside0.mk hc0
 clear hr0 hc0
 have H : (smaltoref06_Sum.l0 k 0 l0 (l0.length : Int) 0) = some r := h
 clear h
 have H' := Aside0.mk H
 clear H
 go_enter Tryd.func51, Tryd.ntmps51
 go_wp2
 go_loopg [3, 8] k (fun kq v3 v8 w' => ∃ (x3_1 : Int) (x8_1 : Int), v3 = .int .i64 x3_1 ∧ v8 = .int .i64 x8_1 ∧ Aside0 (smaltoref06_Sum.l0 kq x3_1 l0 (l0.length : Int) x8_1 = some r) ∧ Aside0 (kq ≤ k) ∧ Drawn0 w w')
 case atStart => exact ⟨(0), (0), zT, zT, H', ⟨Nat.le_refl _⟩, zW⟩
 case round =>
  clear H'
  obtain ⟨x3_1, x8_1, rfl, rfl, HA, HK1, ⟨m1, rfl⟩⟩ := hrel
  cases gk with
  | zero => exact absurd HA.out (by simp [smaltoref06_Sum.l0])
  | succ k1 =>
   have H := HA.out
   clear HA
   simp only [smaltoref06_Sum.l0] at H
   by_cases c2 : x8_1 < (l0.length : Int)
   ·rw [if_pos c2] at H
    have c2b0 : decide (x8_1 < (l0.length : Int)) = true := decide_eq_true c2
    clear c2
    by_cases c3 : 0 ≤ x8_1
    ·rw [if_pos c3] at H
     have c3b0 : decide (0 ≤ x8_1) = true := decide_eq_true c3
     clear c3
     by_cases c4 : x8_1 < (l0.length : Int)
     ·rw [if_pos c4] at H
      have c4b0 : decide (x8_1 < (l0.length : Int)) = true := decide_eq_true c4
      clear c4
      replace H := Option.bind_eq_some_iff.mp H
      obtain ⟨t339, A50, H⟩ := H
      try dsimp only at H
      have A5 := Aside0.mk A50
      clear A50
      have H' := Aside0.mk H
      clear H
      have p338 : 0 ≤ (x8_1 : Int) := of_decide_eq_true (by first | (with_reducible assumption) | assumption)
      have q338 : x8_1 < (l0.length : Int) := of_decide_eq_true (by first | (with_reducible assumption) | assumption)
      obtain ⟨ad338, e338, hx338_0⟩ := Kd.at_int HR0.out x8_1 p338 q338
      cases e338
      replace p338 := eq_true p338
      replace q338 := eq_true q338
      go_wp2_with (first | ((with_reducible refine gate_callee (f := 53) rfl ?_); refine goesL_ (some 14) rfl rfl Tryd.func53 (by kernel_rfl) rfl #[.int .i64 x3_1, .int .i64 (rd l0 x8_1)] rfl zL ?_; (with_reducible refine (smaltoref06_plus.calls k1 x3_1 (rd l0 x8_1) t339 _ A5.out).mono ?_); rintro e w' ⟨rfl, ⟨nd, rfl⟩⟩; refine ⟨_, rfl, ?_⟩))
      go_roundg k1
      case measure => have := HK1.out; omega
      case rel => exact ⟨(t339), (wrap64 (x8_1 + 1)), zT, zT, H', ⟨by have := HK1.out; omega⟩, zW⟩
     ·rw [if_neg c4] at H
      exact absurd H (by simp)
    ·rw [if_neg c3] at H
     exact absurd H (by simp)
   ·rw [if_neg c2] at H
    have c2b0 : decide (x8_1 < (l0.length : Int)) = false := decide_eq_false c2
    clear c2
    obtain rfl := Option.some.inj H
    go_wp2
    go_ret
    exact ⟨zT, zW⟩
end Go.Proofs.YthaajkpiknbdbaaDoor.QA

namespace Go.Proofs.YthaajkpiknbdbaaDoor.QA
open Go.Proofs.YthaajkpiknbdbaaDoor.T
open Go.RowKit Go.Proofs.YthaajkpiknbdbaaDoorW.PrintWords Go.Proofs.YthaajkpiknbdbaaDoorW.PrintLast Go.Proofs.YthaajkpiknbdbaaDoorW.PrintMore
attribute [local go_sem] ext_call max2_int min2_int max_two min_two max_three min_three max_four min_four   -- for this text's walks alone
set_option linter.unusedVariables false
set_option linter.unusedSimpArgs false
def smaltoref01_Floor.j0 : Nat → Bool → Bool → Int → Int → Option (Int)
 | 0, _, _, _, _ => none
 | k + 1, x7, x28, x346000, x346001 => if x28 = true then ((smaltoref01_Plus.f x346000 x346001 0 1).bind fun bt346 => ((smaltoref01_Hold.f k bt346.1 bt346.2 x7).bind fun t348 => (some t348))) else ((smaltoref01_Hold.f k x346000 x346001 x7).bind fun t349 => (some t349))
def smaltoref01_Floor.f (k : Nat) (a0 : Int) (a1 : Int) : Option (Int) := if a1 = 0 then (some 0) else ((smaltoref01_Size.f a0).bind fun t340 => ((smaltoref01_Size.f a1).bind fun t341 => ((smaltoref01_Over.f k 0 t340 t341).bind fun bt342 => (if ((decide (a0 < 0)) != (decide (a1 < 0))) = true then (smaltoref01_Floor.j0 k ((decide (a0 < 0)) != (decide (a1 < 0))) (decide (bt342.2.2 > 0)) bt342.1 bt342.2.1) else (smaltoref01_Floor.j0 k ((decide (a0 < 0)) != (decide (a1 < 0))) false bt342.1 bt342.2.1)))))
theorem smaltoref01_Floor.mono_l : ∀ k, (∀ y0 y1 y2 y3, LeO (smaltoref01_Floor.j0 k y0 y1 y2 y3) (smaltoref01_Floor.j0 (k + 1) y0 y1 y2 y3))
 | 0 => fun _ _ _ _ r h => by simp [smaltoref01_Floor.j0] at h
 | k + 1 => by
  have ih0 := smaltoref01_Floor.mono_l k
  ·intro y0 y1 y2 y3
   unfold smaltoref01_Floor.j0
   repeat' (with_reducible first | exact ih0 _ _ _ _ | exact smaltoref01_Hold.mono _ _ _ _ | exact smaltoref01_Over.mono _ _ _ _ | exact zM | refine LeO.ite ?_ ?_ | refine LeO.bind ?_ (fun _ => ?_))
theorem smaltoref01_Floor.mono : ∀ a0 a1 k, LeO (smaltoref01_Floor.f k a0 a1) (smaltoref01_Floor.f (k + 1) a0 a1) := by
 intro a0 a1 k
 have ih0 := smaltoref01_Floor.mono_l k
 unfold smaltoref01_Floor.f
 repeat' (with_reducible first | exact ih0 _ _ _ _ | exact smaltoref01_Hold.mono _ _ _ _ | exact smaltoref01_Over.mono _ _ _ _ | exact zM | refine LeO.ite ?_ ?_ | refine LeO.bind ?_ (fun _ => ?_))
set_option maxHeartbeats 8000000 in
set_option maxRecDepth 100000 in
theorem smaltoref01_Floor.calls (k : Nat) (a0 : Int) (a1 : Int) (r : Int) (w : World) (h : smaltoref01_Floor.f k a0 a1 = some r) :
  Calls Tryd.prog 52 #[.int .i64 a0, .int .i64 a1] w fun e w' => e = .returned (.int .i64 r) ∧ Below w.heap.size w w' := by
 have hu94 := Tryd.underlying94
 have HB := Aside0.mk (Below.refl w.heap.size w)
 have H : (if a1 = 0 then (some 0) else ((smaltoref01_Size.f a0).bind fun t340 => ((smaltoref01_Size.f a1).bind fun t341 => ((smaltoref01_Over.f k 0 t340 t341).bind fun bt342 => (if ((decide (a0 < 0)) != (decide (a1 < 0))) = true then (smaltoref01_Floor.j0 k ((decide (a0 < 0)) != (decide (a1 < 0))) (decide (bt342.2.2 > 0)) bt342.1 bt342.2.1) else (smaltoref01_Floor.j0 k ((decide (a0 < 0)) != (decide (a1 < 0))) false bt342.1 bt342.2.1)))))) = some r := h
 clear h
 by_cases c3 : a1 = 0
 ·rw [if_pos c3] at H
  have c3b0 : (a1 == 0) = true := beq_iff_eq.mpr c3
  have c3b1 : (a1 != 0) = false := bne_eq_false_iff_eq.mpr c3
  clear c3
  obtain rfl := Option.some.inj H
  go_enter Tryd.func52, Tryd.ntmps52
  go_wp2
  go_ret
  exact ⟨zS, zB⟩
 ·rw [if_neg c3] at H
  have c3b0 : (a1 == 0) = false := beq_eq_false_iff_ne.mpr c3
  have c3b1 : (a1 != 0) = true := bne_iff_ne.mpr c3
  replace H := Option.bind_eq_some_iff.mp H
  obtain ⟨t340, A40, H⟩ := H
  try dsimp only at H
  have A4 := Aside0.mk A40
  clear A40
  replace H := Option.bind_eq_some_iff.mp H
  obtain ⟨t341, A50, H⟩ := H
  try dsimp only at H
  have A5 := Aside0.mk A50
  clear A50
  replace H := Option.bind_eq_some_iff.mp H
  obtain ⟨⟨t342, t343, t344⟩, A60, H⟩ := H
  try dsimp only at H
  have A6 := Aside0.mk A60
  clear A60
  rcases Bool.eq_false_or_eq_true ((decide (a0 < 0)) != (decide (a1 < 0))) with hsv | hsv
  ·have hsvb0 : ((decide (a0 < 0)) != (decide (a1 < 0))) = true := hsv
   have hsvb2 : ((decide (a0 < 0)) == (decide (a1 < 0))) = false := by simpa using hsv
   have HC7 := Aside0.mk H
   clear H
   go_enter Tryd.func52, Tryd.ntmps52
   go_upto_region 5 with (first | ((with_reducible refine gate_callee (f := 72) rfl ?_); refine goesL_ (some 12) rfl rfl Tryd.func72 (by kernel_rfl) rfl #[.int .i64 a0] rfl zL ?_; (with_reducible refine (smaltoref01_Size.calls a0 t340 _ A4.out).mono ?_); rintro e w' ⟨rfl, ⟨nd, rfl⟩⟩; refine ⟨_, rfl, ?_⟩) | ((with_reducible refine gate_callee (f := 72) rfl ?_); refine goesL_ (some 15) rfl rfl Tryd.func72 (by kernel_rfl) rfl #[.int .i64 a1] rfl zL ?_; (with_reducible refine (smaltoref01_Size.calls a1 t341 _ A5.out).mono ?_); rintro e w' ⟨rfl, ⟨nd, rfl⟩⟩; refine ⟨_, rfl, ?_⟩) | ((with_reducible refine gate_callee (f := 71) rfl ?_); refine goesL_ (some 16) rfl rfl Tryd.func71 (by kernel_rfl) rfl #[.agg #[.int .u64 0, .int .u64 t340], .int .u64 t341] rfl zL ?_; (with_reducible refine (smaltoref01_Over.calls k 0 t340 t341 t342 t343 t344 _ A6.out).mono ?_); rintro e w8 ⟨rfl, hb⟩; refine ⟨_, rfl, ?_⟩; have n0_ := Aside0.mk (below_step zB hb); clear HB; have HB := n0_; clear n0_; (try clear hb); (try clear hb2); (try clear hk); (try clear hi)) | ((with_reducible refine gate_dst (N := 5) rfl ?_); refine box_event ?hg (N := 5) ?hd (cs := #[.int .u64 0, .int .u64 0]) (t := 94) ?hr ?_; (case hd => rfl); (case hg => rfl); (case hr => first | (go_simp; done) | (go_simp; rfl)); intro gb345 hg w9 hbox hb; have n0_ := Aside0.mk (below_step zB hb); have n1_ := Aside0.mk (hbox); have n2_ := Aside0.mk ((by rw [hg]; exact (below_size zB) : w.heap.size ≤ gb345)); have n3_ := Aside0.mk ((by rw [hg]; exact (below_size zB) : w.heap.size ≤ gb345)); clear HB; have HB := n0_; have BK345 := n1_; have GW345 := n2_; have GE345 := n3_; clear n0_ n1_ n2_ n3_; clear hb hbox hg; have hcz10_0 : w9.cell? ⟨gb345, 0, none⟩ = some (.int .u64 0) := (blk_cell BK345.out 0).trans rfl; have hcz10_1 : w9.cell? ⟨gb345, 1, none⟩ = some (.int .u64 0) := (blk_cell BK345.out 1).trans rfl; have hfz10_0 := blk_frozen BK345.out 0; have hfz10_1 := blk_frozen BK345.out 1))
   (try simp only [Act.put, List.setIfInBounds_toArray, List.set_cons_zero, List.set_cons_succ])
   go_cut [28] (fun v28 wc => ∃ (kq : Nat) (x28_6 : Bool), v28 = .bool x28_6 ∧ Aside0 (smaltoref01_Floor.j0 kq ((decide (a0 < 0)) != (decide (a1 < 0))) x28_6 t342 t343 = some r) ∧ Aside0 (kq ≤ k) ∧ Aside0 (wc.heap[gb345]? = some (.cells #[.int .u64 t342, .int .u64 t343] 94 (0, 0))) ∧ Aside0 (Below w.heap.size w wc))
   case first =>
    have H := HC7.out
    clear HC7
    by_cases c11 : ((decide (a0 < 0)) != (decide (a1 < 0))) = true
    ·rw [if_pos c11] at H
     have c11b0 : ((decide (a0 < 0)) != (decide (a1 < 0))) = true := c11
     (try (have c11b1 : decide ((decide (a0 < 0)) = (decide (a1 < 0))) = false := by simpa using c11))
     (try (have c11b2 : ((decide (a0 < 0)) == (decide (a1 < 0))) = false := by simpa using c11))
     (try (have c11b3 : ¬ ((decide (a0 < 0)) = (decide (a1 < 0))) := by simpa using c11))
     clear c11
     (first | rw [c11b0] | (simp only [i64_w, i32_w]; rw [c11b0]) | skip)
     have H' := Aside0.mk H
     clear H
     go_wp2
     go_meet
     case rel => exact ⟨_, (decide (t344 > 0)), zT, H', ⟨by first | omega | exact Nat.le_refl _⟩, ⟨by refine zD ?_; refine blk_put (cs := #[.int .u64 t342, .int .u64 0]) ?_ 1 _ rfl; refine zD ?_; refine blk_put (cs := #[.int .u64 0, .int .u64 0]) ?_ 0 _ rfl; refine zD ?_; exact BK345.out⟩, ⟨zB⟩⟩
    ·rw [if_neg c11] at H
     have c11b0 : ((decide (a0 < 0)) != (decide (a1 < 0))) = false := by simpa using c11
     exact absurd (hsvb0.symm.trans c11b0) (by decide)
   case rest =>
    clear HC7
    try clear c1
    try clear p2
    try clear c3
    try clear c3b0
    try clear c3b1
    try clear c5
    try clear c7
    try clear c11
    try clear c11b0
    try clear c11b1
    try clear c11b2
    try clear hcz10_0
    try clear hcz10_1
    try clear hfz10_0
    try clear hfz10_1
    obtain ⟨kq, x28_6, rfl, HA, HJ6, BK345, HB⟩ := hcut
    cases kq with
    | zero => exact absurd HA.out (by simp [smaltoref01_Floor.j0])
    | succ kj6 =>
     have H := HA.out
     clear HA
     simp only [smaltoref01_Floor.j0] at H
     by_cases c12 : x28_6 = true
     ·subst c12
      have H1 := H; rw [if_pos rfl] at H1; try dsimp only at H1
      clear H
      have H := H1
      clear H1
      replace H := Option.bind_eq_some_iff.mp H
      obtain ⟨⟨t346, t347⟩, A130, H⟩ := H
      try dsimp only at H
      have A13 := Aside0.mk A130
      clear A130
      replace H := Option.bind_eq_some_iff.mp H
      obtain ⟨t348, A140, H⟩ := H
      try dsimp only at H
      have A14 := Aside0.mk A140
      clear A140
      obtain rfl := Option.some.inj H
      have hcz15_0 : wc.cell? ⟨gb345, 0, none⟩ = some (.int .u64 t342) := (blk_cell BK345.out 0).trans rfl
      have hcz15_1 : wc.cell? ⟨gb345, 1, none⟩ = some (.int .u64 t343) := (blk_cell BK345.out 1).trans rfl
      have hfz15_0 := blk_frozen BK345.out 0
      have hfz15_1 := blk_frozen BK345.out 1
      go_wp2_with (first | ((with_reducible refine gate_callee (f := 73) rfl ?_); refine goesL_ (some 31) rfl rfl Tryd.func73 (by kernel_rfl) rfl #[.agg #[.int .u64 t342, .int .u64 t343], .agg #[.int .u64 0, .int .u64 1]] rfl zL ?_; (with_reducible refine (smaltoref01_Plus.calls t342 t343 0 1 t346 t347 _ A13.out).mono ?_); rintro e w16 ⟨rfl, hb⟩; refine ⟨_, rfl, ?_⟩; have n0_ := Aside0.mk (blk_below (zK BK345) hb); have n1_ := Aside0.mk (below_step zB hb); clear BK345; clear HB; have BK345 := n0_; have HB := n1_; clear n0_ n1_; (try clear hb); (try clear hb2); (try clear hk); (try clear hi); have hcz17_0 : w16.cell? ⟨gb345, 0, none⟩ = some (.int .u64 t342) := (blk_cell BK345.out 0).trans rfl; have hcz17_1 : w16.cell? ⟨gb345, 1, none⟩ = some (.int .u64 t343) := (blk_cell BK345.out 1).trans rfl; have hfz17_0 := blk_frozen BK345.out 0; have hfz17_1 := blk_frozen BK345.out 1) | ((with_reducible refine gate_callee (f := 74) rfl ?_); refine goesL_ (some 34) rfl rfl Tryd.func74 (by kernel_rfl) rfl #[.agg #[.int .u64 t346, .int .u64 t347], .bool true] rfl zL ?_; (with_reducible refine (smaltoref01_Hold.calls kj6 t346 t347 true t348 _ (by have h := A14.out; rw [hsvb0] at h; exact h)).mono ?_); rintro e w18 ⟨rfl, hb⟩; refine ⟨_, rfl, ?_⟩; have n0_ := Aside0.mk (blk_below (g := gb345) (o := .cells #[.int .u64 t346, .int .u64 t347] 94 (0, 0)) (by refine zD ?_; refine blk_put (cs := #[.int .u64 t346, .int .u64 t343]) ?_ 1 _ rfl; refine zD ?_; refine blk_put (cs := #[.int .u64 t342, .int .u64 t343]) ?_ 0 _ rfl; refine zD ?_; exact BK345.out) hb); have n1_ := Aside0.mk (below_step zB hb); clear BK345; clear HB; have BK345 := n0_; have HB := n1_; clear n0_ n1_; (try clear hb); (try clear hb2); (try clear hk); (try clear hi)))
      go_ret
      exact ⟨zS, zB⟩
     ·replace c12 := Bool.eq_false_iff.mpr c12
      subst c12
      have H1 := H; rw [if_neg (show ¬ (false = true) by decide)] at H1; try dsimp only at H1
      clear H
      have H := H1
      clear H1
      replace H := Option.bind_eq_some_iff.mp H
      obtain ⟨t349, A190, H⟩ := H
      try dsimp only at H
      have A19 := Aside0.mk A190
      clear A190
      obtain rfl := Option.some.inj H
      have hcz20_0 : wc.cell? ⟨gb345, 0, none⟩ = some (.int .u64 t342) := (blk_cell BK345.out 0).trans rfl
      have hcz20_1 : wc.cell? ⟨gb345, 1, none⟩ = some (.int .u64 t343) := (blk_cell BK345.out 1).trans rfl
      have hfz20_0 := blk_frozen BK345.out 0
      have hfz20_1 := blk_frozen BK345.out 1
      go_wp2_with (first | ((with_reducible refine gate_callee (f := 74) rfl ?_); refine goesL_ (some 34) rfl rfl Tryd.func74 (by kernel_rfl) rfl #[.agg #[.int .u64 t342, .int .u64 t343], .bool true] rfl zL ?_; (with_reducible refine (smaltoref01_Hold.calls kj6 t342 t343 true t349 _ (by have h := A19.out; rw [hsvb0] at h; exact h)).mono ?_); rintro e w21 ⟨rfl, hb⟩; refine ⟨_, rfl, ?_⟩; have n0_ := Aside0.mk (blk_below (zK BK345) hb); have n1_ := Aside0.mk (below_step zB hb); clear BK345; clear HB; have BK345 := n0_; have HB := n1_; clear n0_ n1_; (try clear hb); (try clear hb2); (try clear hk); (try clear hi)))
      go_ret
      exact ⟨zS, zB⟩
  ·have hsvb0 : ((decide (a0 < 0)) != (decide (a1 < 0))) = false := hsv
   have hsvb2 : ((decide (a0 < 0)) == (decide (a1 < 0))) = true := by simpa using hsv
   have HC7 := Aside0.mk H
   clear H
   go_enter Tryd.func52, Tryd.ntmps52
   go_upto_region 5 with (first | ((with_reducible refine gate_callee (f := 72) rfl ?_); refine goesL_ (some 12) rfl rfl Tryd.func72 (by kernel_rfl) rfl #[.int .i64 a0] rfl zL ?_; (with_reducible refine (smaltoref01_Size.calls a0 t340 _ A4.out).mono ?_); rintro e w' ⟨rfl, ⟨nd, rfl⟩⟩; refine ⟨_, rfl, ?_⟩) | ((with_reducible refine gate_callee (f := 72) rfl ?_); refine goesL_ (some 15) rfl rfl Tryd.func72 (by kernel_rfl) rfl #[.int .i64 a1] rfl zL ?_; (with_reducible refine (smaltoref01_Size.calls a1 t341 _ A5.out).mono ?_); rintro e w' ⟨rfl, ⟨nd, rfl⟩⟩; refine ⟨_, rfl, ?_⟩) | ((with_reducible refine gate_callee (f := 71) rfl ?_); refine goesL_ (some 16) rfl rfl Tryd.func71 (by kernel_rfl) rfl #[.agg #[.int .u64 0, .int .u64 t340], .int .u64 t341] rfl zL ?_; (with_reducible refine (smaltoref01_Over.calls k 0 t340 t341 t342 t343 t344 _ A6.out).mono ?_); rintro e w8 ⟨rfl, hb⟩; refine ⟨_, rfl, ?_⟩; have n0_ := Aside0.mk (below_step zB hb); clear HB; have HB := n0_; clear n0_; (try clear hb); (try clear hb2); (try clear hk); (try clear hi)) | ((with_reducible refine gate_dst (N := 5) rfl ?_); refine box_event ?hg (N := 5) ?hd (cs := #[.int .u64 0, .int .u64 0]) (t := 94) ?hr ?_; (case hd => rfl); (case hg => rfl); (case hr => first | (go_simp; done) | (go_simp; rfl)); intro gb345 hg w9 hbox hb; have n0_ := Aside0.mk (below_step zB hb); have n1_ := Aside0.mk (hbox); have n2_ := Aside0.mk ((by rw [hg]; exact (below_size zB) : w.heap.size ≤ gb345)); have n3_ := Aside0.mk ((by rw [hg]; exact (below_size zB) : w.heap.size ≤ gb345)); clear HB; have HB := n0_; have BK345 := n1_; have GW345 := n2_; have GE345 := n3_; clear n0_ n1_ n2_ n3_; clear hb hbox hg; have hcz10_0 : w9.cell? ⟨gb345, 0, none⟩ = some (.int .u64 0) := (blk_cell BK345.out 0).trans rfl; have hcz10_1 : w9.cell? ⟨gb345, 1, none⟩ = some (.int .u64 0) := (blk_cell BK345.out 1).trans rfl; have hfz10_0 := blk_frozen BK345.out 0; have hfz10_1 := blk_frozen BK345.out 1))
   (try simp only [Act.put, List.setIfInBounds_toArray, List.set_cons_zero, List.set_cons_succ])
   go_cut [28] (fun v28 wc => ∃ (kq : Nat) (x28_6 : Bool), v28 = .bool x28_6 ∧ Aside0 (smaltoref01_Floor.j0 kq ((decide (a0 < 0)) != (decide (a1 < 0))) x28_6 t342 t343 = some r) ∧ Aside0 (kq ≤ k) ∧ Aside0 (wc.heap[gb345]? = some (.cells #[.int .u64 t342, .int .u64 t343] 94 (0, 0))) ∧ Aside0 (Below w.heap.size w wc))
   case first =>
    have H := HC7.out
    clear HC7
    by_cases c11 : ((decide (a0 < 0)) != (decide (a1 < 0))) = true
    ·rw [if_pos c11] at H
     have c11b0 : ((decide (a0 < 0)) != (decide (a1 < 0))) = true := c11
     exact absurd (hsvb0.symm.trans c11b0) (by decide)
    ·rw [if_neg c11] at H
     have c11b0 : ((decide (a0 < 0)) != (decide (a1 < 0))) = false := by simpa using c11
     (try (have c11b1 : decide ((decide (a0 < 0)) = (decide (a1 < 0))) = true := by simpa using c11))
     (try (have c11b2 : ((decide (a0 < 0)) == (decide (a1 < 0))) = true := by simpa using c11))
     clear c11
     (first | rw [c11b0] | (simp only [i64_w, i32_w]; rw [c11b0]) | skip)
     have H' := Aside0.mk H
     clear H
     go_wp2
     go_meet
     case rel => exact ⟨_, (false), zT, H', ⟨by first | omega | exact Nat.le_refl _⟩, ⟨by refine zD ?_; refine blk_put (cs := #[.int .u64 t342, .int .u64 0]) ?_ 1 _ rfl; refine zD ?_; refine blk_put (cs := #[.int .u64 0, .int .u64 0]) ?_ 0 _ rfl; refine zD ?_; exact BK345.out⟩, ⟨zB⟩⟩
   case rest =>
    clear HC7
    try clear c1
    try clear p2
    try clear c3
    try clear c3b0
    try clear c3b1
    try clear c5
    try clear c7
    try clear c11
    try clear c11b0
    try clear c11b1
    try clear c11b2
    try clear hcz10_0
    try clear hcz10_1
    try clear hfz10_0
    try clear hfz10_1
    obtain ⟨kq, x28_6, rfl, HA, HJ6, BK345, HB⟩ := hcut
    cases kq with
    | zero => exact absurd HA.out (by simp [smaltoref01_Floor.j0])
    | succ kj6 =>
     have H := HA.out
     clear HA
     simp only [smaltoref01_Floor.j0] at H
     by_cases c12 : x28_6 = true
     ·subst c12
      have H1 := H; rw [if_pos rfl] at H1; try dsimp only at H1
      clear H
      have H := H1
      clear H1
      replace H := Option.bind_eq_some_iff.mp H
      obtain ⟨⟨t346, t347⟩, A130, H⟩ := H
      try dsimp only at H
      have A13 := Aside0.mk A130
      clear A130
      replace H := Option.bind_eq_some_iff.mp H
      obtain ⟨t348, A140, H⟩ := H
      try dsimp only at H
      have A14 := Aside0.mk A140
      clear A140
      obtain rfl := Option.some.inj H
      have hcz15_0 : wc.cell? ⟨gb345, 0, none⟩ = some (.int .u64 t342) := (blk_cell BK345.out 0).trans rfl
      have hcz15_1 : wc.cell? ⟨gb345, 1, none⟩ = some (.int .u64 t343) := (blk_cell BK345.out 1).trans rfl
      have hfz15_0 := blk_frozen BK345.out 0
      have hfz15_1 := blk_frozen BK345.out 1
      go_wp2_with (first | ((with_reducible refine gate_callee (f := 73) rfl ?_); refine goesL_ (some 31) rfl rfl Tryd.func73 (by kernel_rfl) rfl #[.agg #[.int .u64 t342, .int .u64 t343], .agg #[.int .u64 0, .int .u64 1]] rfl zL ?_; (with_reducible refine (smaltoref01_Plus.calls t342 t343 0 1 t346 t347 _ A13.out).mono ?_); rintro e w16 ⟨rfl, hb⟩; refine ⟨_, rfl, ?_⟩; have n0_ := Aside0.mk (blk_below (zK BK345) hb); have n1_ := Aside0.mk (below_step zB hb); clear BK345; clear HB; have BK345 := n0_; have HB := n1_; clear n0_ n1_; (try clear hb); (try clear hb2); (try clear hk); (try clear hi); have hcz17_0 : w16.cell? ⟨gb345, 0, none⟩ = some (.int .u64 t342) := (blk_cell BK345.out 0).trans rfl; have hcz17_1 : w16.cell? ⟨gb345, 1, none⟩ = some (.int .u64 t343) := (blk_cell BK345.out 1).trans rfl; have hfz17_0 := blk_frozen BK345.out 0; have hfz17_1 := blk_frozen BK345.out 1) | ((with_reducible refine gate_callee (f := 74) rfl ?_); refine goesL_ (some 34) rfl rfl Tryd.func74 (by kernel_rfl) rfl #[.agg #[.int .u64 t346, .int .u64 t347], .bool false] rfl zL ?_; (with_reducible refine (smaltoref01_Hold.calls kj6 t346 t347 false t348 _ (by have h := A14.out; rw [hsvb0] at h; exact h)).mono ?_); rintro e w18 ⟨rfl, hb⟩; refine ⟨_, rfl, ?_⟩; have n0_ := Aside0.mk (blk_below (g := gb345) (o := .cells #[.int .u64 t346, .int .u64 t347] 94 (0, 0)) (by refine zD ?_; refine blk_put (cs := #[.int .u64 t346, .int .u64 t343]) ?_ 1 _ rfl; refine zD ?_; refine blk_put (cs := #[.int .u64 t342, .int .u64 t343]) ?_ 0 _ rfl; refine zD ?_; exact BK345.out) hb); have n1_ := Aside0.mk (below_step zB hb); clear BK345; clear HB; have BK345 := n0_; have HB := n1_; clear n0_ n1_; (try clear hb); (try clear hb2); (try clear hk); (try clear hi)))
      go_ret
      exact ⟨zS, zB⟩
     ·replace c12 := Bool.eq_false_iff.mpr c12
      subst c12
      have H1 := H; rw [if_neg (show ¬ (false = true) by decide)] at H1; try dsimp only at H1
      clear H
      have H := H1
      clear H1
      replace H := Option.bind_eq_some_iff.mp H
      obtain ⟨t349, A190, H⟩ := H
      try dsimp only at H
      have A19 := Aside0.mk A190
      clear A190
      obtain rfl := Option.some.inj H
      have hcz20_0 : wc.cell? ⟨gb345, 0, none⟩ = some (.int .u64 t342) := (blk_cell BK345.out 0).trans rfl
      have hcz20_1 : wc.cell? ⟨gb345, 1, none⟩ = some (.int .u64 t343) := (blk_cell BK345.out 1).trans rfl
      have hfz20_0 := blk_frozen BK345.out 0
      have hfz20_1 := blk_frozen BK345.out 1
      go_wp2_with (first | ((with_reducible refine gate_callee (f := 74) rfl ?_); refine goesL_ (some 34) rfl rfl Tryd.func74 (by kernel_rfl) rfl #[.agg #[.int .u64 t342, .int .u64 t343], .bool false] rfl zL ?_; (with_reducible refine (smaltoref01_Hold.calls kj6 t342 t343 false t349 _ (by have h := A19.out; rw [hsvb0] at h; exact h)).mono ?_); rintro e w21 ⟨rfl, hb⟩; refine ⟨_, rfl, ?_⟩; have n0_ := Aside0.mk (blk_below (zK BK345) hb); have n1_ := Aside0.mk (below_step zB hb); clear BK345; clear HB; have BK345 := n0_; have HB := n1_; clear n0_ n1_; (try clear hb); (try clear hb2); (try clear hk); (try clear hi)))
      go_ret
      exact ⟨zS, zB⟩
end Go.Proofs.YthaajkpiknbdbaaDoor.QA

namespace Go.Proofs.YthaajkpiknbdbaaDoor.QA
open Go.Proofs.YthaajkpiknbdbaaDoor.T
open Go.RowKit Go.Proofs.YthaajkpiknbdbaaDoorW.PrintWords Go.Proofs.YthaajkpiknbdbaaDoorW.PrintLast Go.Proofs.YthaajkpiknbdbaaDoorW.PrintMore
attribute [local go_sem] ext_call max2_int min2_int max_two min_two max_three min_three max_four min_four   -- for this text's walks alone
set_option linter.unusedVariables false
set_option linter.unusedSimpArgs false
mutual
def smaltoref06_Apportion.j0 : Nat → List Int → Bool → Option (List Int × Int)
 | 0, _, _ => none
 | k + 1, x0, x22 => if x22 = true then (some (([] : List Int), 7)) else (smaltoref06_Apportion.l0 k x0 x0 (x0.length : Int) 0)
def smaltoref06_Apportion.l0 : Nat → List Int → List Int → Int → Int → Option (List Int × Int)
 | 0, _, _, _, _ => none
 | k + 1, x0, x23, x24, x25 => if x25 < x24 then (if 0 ≤ x25 then (if x25 < (x23.length : Int) then ((smaltoref06_Size.f (rd x23 x25)).bind fun t351 => (if t351 > 1099511627776 then (some (([] : List Int), 7)) else (smaltoref06_Apportion.l0 k x0 x23 x24 (wrap64 (x25 + 1))))) else (none)) else (none)) else ((smaltoref06_Sum.f k x0).bind fun t352 => (if t352 < 268435456 then (some (([] : List Int), 8)) else (smaltoref06_Apportion.l1 k t352 ([] : List Int) ([] : List Int) 16384 x0 (x0.length : Int) 0)))
def smaltoref06_Apportion.l1 : Nat → Int → List Int → List Int → Int → List Int → Int → Int → Option (List Int × Int)
 | 0, _, _, _, _, _, _, _ => none
 | k + 1, x6, x7, x8, x9, x37, x38, x39 => if x39 < x38 then (if 0 ≤ x39 then (if x39 < (x37.length : Int) then ((smaltoref01_Floor.f k (wrap64 ((rd x37 x39) * 16384)) x6).bind fun t354 => (if x7.length < 17592186044416 then (if x8.length < 17592186044416 then (smaltoref06_Apportion.l1 k x6 (x7 ++ [t354]) (x8 ++ [wrap64 ((wrap64 ((rd x37 x39) * 16384)) - (wrap64 (t354 * x6)))]) (wrap64 (x9 - t354)) x37 x38 (wrap64 (x39 + 1))) else (none)) else (none))) else (none)) else (none)) else (smaltoref06_Apportion.l2 k x7 x8 x9)
def smaltoref06_Apportion.l2 : Nat → List Int → List Int → Int → Option (List Int × Int)
 | 0, _, _, _ => none
 | k + 1, x7, x8, x9 => if x9 > 0 then (smaltoref06_Apportion.l3 k x7 x8 x9 0 (x8.length : Int) 0) else (some (x7, 0))
def smaltoref06_Apportion.l3 : Nat → List Int → List Int → Int → Int → Int → Int → Option (List Int × Int)
 | 0, _, _, _, _, _, _ => none
 | k + 1, x7, x8, x9, x13, x67, x68 => if x68 < x67 then (if 0 ≤ x68 then (if x68 < (x8.length : Int) then (if 0 ≤ x13 then (if x13 < (x8.length : Int) then (if (rd x8 x68) > (rd x8 x13) then (smaltoref06_Apportion.l3 k x7 x8 x9 x68 x67 (wrap64 (x68 + 1))) else (smaltoref06_Apportion.l3 k x7 x8 x9 x13 x67 (wrap64 (x68 + 1)))) else (none)) else (none)) else (none)) else (none)) else (if 0 ≤ x13 then (if x13 < (x7.length : Int) then (if x13 < (x8.length : Int) then (smaltoref06_Apportion.l2 k (x7.set (x13 : Int).toNat (wrap64 ((rd x7 x13) + 1))) (x8.set (x13 : Int).toNat (-1)) (wrap64 (x9 - 1))) else (none)) else (none)) else (none))
end
def smaltoref06_Apportion.f (k : Nat) (l0 : List Int) : Option (List Int × Int) := if (l0.length : Int) < 1 then (smaltoref06_Apportion.j0 k l0 true) else (smaltoref06_Apportion.j0 k l0 (decide ((l0.length : Int) > 1048576)))
theorem smaltoref06_Apportion.mono_l : ∀ k, (∀ y0 y1, LeO (smaltoref06_Apportion.j0 k y0 y1) (smaltoref06_Apportion.j0 (k + 1) y0 y1)) ∧ (∀ y0 y1 y2 y3, LeO (smaltoref06_Apportion.l0 k y0 y1 y2 y3) (smaltoref06_Apportion.l0 (k + 1) y0 y1 y2 y3)) ∧ (∀ y0 y1 y2 y3 y4 y5 y6, LeO (smaltoref06_Apportion.l1 k y0 y1 y2 y3 y4 y5 y6) (smaltoref06_Apportion.l1 (k + 1) y0 y1 y2 y3 y4 y5 y6)) ∧ (∀ y0 y1 y2, LeO (smaltoref06_Apportion.l2 k y0 y1 y2) (smaltoref06_Apportion.l2 (k + 1) y0 y1 y2)) ∧ (∀ y0 y1 y2 y3 y4 y5, LeO (smaltoref06_Apportion.l3 k y0 y1 y2 y3 y4 y5) (smaltoref06_Apportion.l3 (k + 1) y0 y1 y2 y3 y4 y5))
 | 0 => ⟨fun _ _ r h => by simp [smaltoref06_Apportion.j0] at h, fun _ _ _ _ r h => by simp [smaltoref06_Apportion.l0] at h, fun _ _ _ _ _ _ _ r h => by simp [smaltoref06_Apportion.l1] at h, fun _ _ _ r h => by simp [smaltoref06_Apportion.l2] at h, fun _ _ _ _ _ _ r h => by simp [smaltoref06_Apportion.l3] at h⟩
 | k + 1 => by
  obtain ⟨ih0, ih1, ih2, ih3, ih4⟩ := smaltoref06_Apportion.mono_l k
  refine ⟨?_, ?_, ?_, ?_, ?_⟩
  ·intro y0 y1
   unfold smaltoref06_Apportion.j0
   repeat' (with_reducible first | exact ih0 _ _ | exact ih1 _ _ _ _ | exact ih2 _ _ _ _ _ _ _ | exact ih3 _ _ _ | exact ih4 _ _ _ _ _ _ | exact smaltoref01_Floor.mono _ _ _ | exact smaltoref06_Sum.mono _ _ | exact zM | refine LeO.ite ?_ ?_ | refine LeO.bind ?_ (fun _ => ?_))
  ·intro y0 y1 y2 y3
   unfold smaltoref06_Apportion.l0
   repeat' (with_reducible first | exact ih0 _ _ | exact ih1 _ _ _ _ | exact ih2 _ _ _ _ _ _ _ | exact ih3 _ _ _ | exact ih4 _ _ _ _ _ _ | exact smaltoref01_Floor.mono _ _ _ | exact smaltoref06_Sum.mono _ _ | exact zM | refine LeO.ite ?_ ?_ | refine LeO.bind ?_ (fun _ => ?_))
  ·intro y0 y1 y2 y3 y4 y5 y6
   unfold smaltoref06_Apportion.l1
   repeat' (with_reducible first | exact ih0 _ _ | exact ih1 _ _ _ _ | exact ih2 _ _ _ _ _ _ _ | exact ih3 _ _ _ | exact ih4 _ _ _ _ _ _ | exact smaltoref01_Floor.mono _ _ _ | exact smaltoref06_Sum.mono _ _ | exact zM | refine LeO.ite ?_ ?_ | refine LeO.bind ?_ (fun _ => ?_))
  ·intro y0 y1 y2
   unfold smaltoref06_Apportion.l2
   repeat' (with_reducible first | exact ih0 _ _ | exact ih1 _ _ _ _ | exact ih2 _ _ _ _ _ _ _ | exact ih3 _ _ _ | exact ih4 _ _ _ _ _ _ | exact smaltoref01_Floor.mono _ _ _ | exact smaltoref06_Sum.mono _ _ | exact zM | refine LeO.ite ?_ ?_ | refine LeO.bind ?_ (fun _ => ?_))
  ·intro y0 y1 y2 y3 y4 y5
   unfold smaltoref06_Apportion.l3
   repeat' (with_reducible first | exact ih0 _ _ | exact ih1 _ _ _ _ | exact ih2 _ _ _ _ _ _ _ | exact ih3 _ _ _ | exact ih4 _ _ _ _ _ _ | exact smaltoref01_Floor.mono _ _ _ | exact smaltoref06_Sum.mono _ _ | exact zM | refine LeO.ite ?_ ?_ | refine LeO.bind ?_ (fun _ => ?_))
theorem smaltoref06_Apportion.mono : ∀ a0 k, LeO (smaltoref06_Apportion.f k a0) (smaltoref06_Apportion.f (k + 1) a0) := by
 intro a0 k
 obtain ⟨ih0, ih1, ih2, ih3, ih4⟩ := smaltoref06_Apportion.mono_l k
 unfold smaltoref06_Apportion.f
 repeat' (with_reducible first | exact ih0 _ _ | exact ih1 _ _ _ _ | exact ih2 _ _ _ _ _ _ _ | exact ih3 _ _ _ | exact ih4 _ _ _ _ _ _ | exact smaltoref01_Floor.mono _ _ _ | exact smaltoref06_Sum.mono _ _ | exact zM | refine LeO.ite ?_ ?_ | refine LeO.bind ?_ (fun _ => ?_))
set_option maxHeartbeats 8000000 in
set_option maxRecDepth 100000 in
theorem smaltoref06_Apportion.calls (k : Nat) (A0 : Option Addr) (c0 : Nat) (l0 : List Int) (r1 : List Int) (r2 : Int) (w : World) (hr0 : Kd.C (Kd.int .i64) w A0 l0.length l0) (hc0 : l0.length ≤ c0) (h : smaltoref06_Apportion.f k l0 = some (r1, r2)) :
  Calls Tryd.prog 32 #[.slice A0 l0.length c0] w fun e w' => ∃ v0_ : Value, e = .returned (.tuple #[v0_, .int .i64 r2]) ∧ Kd.R (Kd.int .i64) 2 w' w.heap.size (fun _ => True) v0_ r1 ∧ Below w.heap.size w w' := by
 have HR0 := Aside0.mk hr0
 have HC0 := Aside0.mk hc0
 clear hr0 hc0
 have HB := Aside0.mk (Below.refl w.heap.size w)
 have H : (if (l0.length : Int) < 1 then (smaltoref06_Apportion.j0 k l0 true) else (smaltoref06_Apportion.j0 k l0 (decide ((l0.length : Int) > 1048576)))) = some (r1, r2) := h
 clear h
 have HC2 := Aside0.mk H
 clear H
 go_enter Tryd.func32, Tryd.ntmps32
 go_upto_region 1 with (fail)
 repeat (go_quiet (fail); go_upto_region 1 with (fail))
 go_cut [22] (fun v22 wc => ∃ (kq : Nat) (x22_1 : Bool), v22 = .bool x22_1 ∧ Aside0 (smaltoref06_Apportion.j0 kq l0 x22_1 = some (r1, r2)) ∧ Aside0 (kq ≤ k) ∧ Aside0 (Below w.heap.size w wc))
 case first =>
  have H := HC2.out
  clear HC2
  by_cases c3 : (l0.length : Int) < 1
  ·rw [if_pos c3] at H
   have c3b0 : decide ((l0.length : Int) < 1) = true := decide_eq_true c3
   have c3b1 : decide (l0.length < 1) = true := decide_eq_true (by omega)
   clear c3
   (first | rw [c3b0] | (simp only [i64_w, i32_w]; rw [c3b0]) | skip)
   have H' := Aside0.mk H
   clear H
   go_wp2
   repeat (go_quiet (fail); try go_wp2)
   go_meet
   case rel => exact ⟨_, (true), zT, H', ⟨by first | omega | exact Nat.le_refl _⟩, ⟨zB⟩⟩
  ·rw [if_neg c3] at H
   have c3b0 : decide ((l0.length : Int) < 1) = false := decide_eq_false c3
   have c3b1 : decide (l0.length < 1) = false := decide_eq_false (by omega)
   clear c3
   (first | rw [c3b0] | (simp only [i64_w, i32_w]; rw [c3b0]) | skip)
   have H' := Aside0.mk H
   clear H
   go_wp2
   repeat (go_quiet (fail); try go_wp2)
   go_meet
   case rel => exact ⟨_, (decide ((l0.length : Int) > 1048576)), zT, H', ⟨by first | omega | exact Nat.le_refl _⟩, ⟨zB⟩⟩
 case rest =>
  clear HC2
  try clear p2
  try clear c3
  try clear c3b0
  try clear c3b1
  obtain ⟨kq, x22_1, rfl, HA, HJ1, HB⟩ := hcut
  cases kq with
  | zero => exact absurd HA.out (by simp [smaltoref06_Apportion.j0])
  | succ kj1 =>
   have H := HA.out
   clear HA
   simp only [smaltoref06_Apportion.j0] at H
   by_cases c4 : x22_1 = true
   ·subst c4
    have H1 := H; rw [if_pos rfl] at H1; try dsimp only at H1
    clear H
    have H := H1
    clear H1
    simp only [Option.some.injEq, Prod.mk.injEq] at H
    obtain ⟨rfl, rfl⟩ := H
    go_wp2
    repeat (go_quiet (fail); try go_wp2)
    go_ret2
    exact ⟨_, zS, by first | exact Kd.R_nil _ _ _ _ _ | exact Kd.N_nil _ _ _ _ _ | exact Kd.V_nil _ _ _ _ _ | exact Kd.Q_nil _ _ _ _ _ | exact Kd.S_nil _ _ _ _ _, zB⟩
   ·replace c4 := Bool.eq_false_iff.mpr c4
    subst c4
    have H1 := H; rw [if_neg (show ¬ (false = true) by decide)] at H1; try dsimp only at H1
    clear H
    have H := H1
    clear H1
    have H' := Aside0.mk H
    clear H
    go_wp2
    repeat (go_quiet (fail); try go_wp2)
    go_loopg [25] kj1 (fun kq v25 w' => ∃ (x25_2 : Int), v25 = .int .i64 x25_2 ∧ Aside0 (smaltoref06_Apportion.l0 kq l0 l0 (l0.length : Int) x25_2 = some (r1, r2)) ∧ Aside0 (kq ≤ kj1) ∧ Aside0 (Below w.heap.size w w'))
    case atStart => exact ⟨(0), zT, H', ⟨Nat.le_refl _⟩, ⟨zB⟩⟩
    case round =>
     clear H'
     try clear p2
     try clear c3
     try clear c3b0
     try clear c3b1
     try clear c4
     try clear p2
     obtain ⟨x25_2, rfl, HA, HK2, HB⟩ := hrel
     cases gk with
     | zero => exact absurd HA.out (by simp [smaltoref06_Apportion.l0])
     | succ k2 =>
      have H := HA.out
      clear HA
      simp only [smaltoref06_Apportion.l0] at H
      by_cases c5 : x25_2 < (l0.length : Int)
      ·rw [if_pos c5] at H
       have c5b0 : decide (x25_2 < (l0.length : Int)) = true := decide_eq_true c5
       clear c5
       by_cases c6 : 0 ≤ x25_2
       ·rw [if_pos c6] at H
        have c6b0 : decide (0 ≤ x25_2) = true := decide_eq_true c6
        clear c6
        by_cases c7 : x25_2 < (l0.length : Int)
        ·rw [if_pos c7] at H
         have c7b0 : decide (x25_2 < (l0.length : Int)) = true := decide_eq_true c7
         clear c7
         replace H := Option.bind_eq_some_iff.mp H
         obtain ⟨t351, A80, H⟩ := H
         try dsimp only at H
         have A8 := Aside0.mk A80
         clear A80
         by_cases c9 : t351 > 1099511627776
         ·rw [if_pos c9] at H
          have c9b0 : decide (1099511627776 < t351) = true := decide_eq_true c9
          clear c9
          simp only [Option.some.injEq, Prod.mk.injEq] at H
          obtain ⟨rfl, rfl⟩ := H
          have p350 : 0 ≤ (x25_2 : Int) := of_decide_eq_true (by first | (with_reducible assumption) | assumption)
          have q350 : x25_2 < (l0.length : Int) := of_decide_eq_true (by first | (with_reducible assumption) | assumption)
          obtain ⟨ad350, e350, hx350_0⟩ := Kd.at_int HR0.out x25_2 p350 q350
          cases e350
          replace hx350_0 := (HB.out.cell (World.block_lt_of_cell? w _ hx350_0)).trans hx350_0
          replace p350 := eq_true p350
          replace q350 := eq_true q350
          go_wp2_with (first | (go_at_call 50; (with_reducible refine (smaltoref06_Size.calls (rd l0 x25_2) t351 _ A8.out).mono ?_); rintro e w' ⟨rfl, ⟨nd, rfl⟩⟩; (try exact ⟨rfl, _, zN⟩)))
          repeat (go_quiet (first | (go_at_call 50; (with_reducible refine (smaltoref06_Size.calls (rd l0 x25_2) t351 _ A8.out).mono ?_); rintro e w' ⟨rfl, ⟨nd, rfl⟩⟩; (try exact ⟨rfl, _, zN⟩))); try go_wp2_with (first | (go_at_call 50; (with_reducible refine (smaltoref06_Size.calls (rd l0 x25_2) t351 _ A8.out).mono ?_); rintro e w' ⟨rfl, ⟨nd, rfl⟩⟩; (try exact ⟨rfl, _, zN⟩))))
          go_ret2
          exact ⟨_, zS, by first | exact Kd.R_nil _ _ _ _ _ | exact Kd.N_nil _ _ _ _ _ | exact Kd.V_nil _ _ _ _ _ | exact Kd.Q_nil _ _ _ _ _ | exact Kd.S_nil _ _ _ _ _, zB⟩
         ·rw [if_neg c9] at H
          have c9b0 : decide (1099511627776 < t351) = false := decide_eq_false c9
          clear c9
          have H' := Aside0.mk H
          clear H
          have p350 : 0 ≤ (x25_2 : Int) := of_decide_eq_true (by first | (with_reducible assumption) | assumption)
          have q350 : x25_2 < (l0.length : Int) := of_decide_eq_true (by first | (with_reducible assumption) | assumption)
          obtain ⟨ad350, e350, hx350_0⟩ := Kd.at_int HR0.out x25_2 p350 q350
          cases e350
          replace hx350_0 := (HB.out.cell (World.block_lt_of_cell? w _ hx350_0)).trans hx350_0
          replace p350 := eq_true p350
          replace q350 := eq_true q350
          go_wp2_with (first | (go_at_call 50; (with_reducible refine (smaltoref06_Size.calls (rd l0 x25_2) t351 _ A8.out).mono ?_); rintro e w' ⟨rfl, ⟨nd, rfl⟩⟩; (try exact ⟨rfl, _, zN⟩)))
          repeat (go_quiet (first | (go_at_call 50; (with_reducible refine (smaltoref06_Size.calls (rd l0 x25_2) t351 _ A8.out).mono ?_); rintro e w' ⟨rfl, ⟨nd, rfl⟩⟩; (try exact ⟨rfl, _, zN⟩))); try go_wp2_with (first | (go_at_call 50; (with_reducible refine (smaltoref06_Size.calls (rd l0 x25_2) t351 _ A8.out).mono ?_); rintro e w' ⟨rfl, ⟨nd, rfl⟩⟩; (try exact ⟨rfl, _, zN⟩))))
          go_roundg k2
          case measure => have := HJ1.out; have := HK2.out; omega
          case rel => exact ⟨(wrap64 (x25_2 + 1)), zT, H', ⟨by have := HJ1.out; have := HK2.out; omega⟩, ⟨zB⟩⟩
        ·rw [if_neg c7] at H
         exact absurd H (by simp)
       ·rw [if_neg c6] at H
        exact absurd H (by simp)
      ·rw [if_neg c5] at H
       have c5b0 : decide (x25_2 < (l0.length : Int)) = false := decide_eq_false c5
       clear c5
       replace H := Option.bind_eq_some_iff.mp H
       obtain ⟨t352, A100, H⟩ := H
       try dsimp only at H
       have A10 := Aside0.mk A100
       clear A100
       by_cases c11 : t352 < 268435456
       ·rw [if_pos c11] at H
        have c11b0 : decide (t352 < 268435456) = true := decide_eq_true c11
        clear c11
        simp only [Option.some.injEq, Prod.mk.injEq] at H
        obtain ⟨rfl, rfl⟩ := H
        go_wp2_with (first | (go_at_call 51; (with_reducible refine (smaltoref06_Sum.calls k2 _ _ l0 t352 _ ?side1 ?side2 A10.out).mono ?_); (case side1 => repeat (first | exact (Kd.C_below HR0.out HB.out) | (with_reducible refine Kd.C_alloc ?_ _) | (with_reducible refine Kd.C_drewN ?_ _) | (with_reducible refine Kd.C_drew ?_))); (case side2 => exact HC0.out); rintro e w' ⟨rfl, ⟨nd, rfl⟩⟩; (try exact ⟨rfl, _, zN⟩)))
        repeat (go_quiet (first | (go_at_call 51; (with_reducible refine (smaltoref06_Sum.calls k2 _ _ l0 t352 _ ?side1 ?side2 A10.out).mono ?_); (case side1 => repeat (first | exact (Kd.C_below HR0.out HB.out) | (with_reducible refine Kd.C_alloc ?_ _) | (with_reducible refine Kd.C_drewN ?_ _) | (with_reducible refine Kd.C_drew ?_))); (case side2 => exact HC0.out); rintro e w' ⟨rfl, ⟨nd, rfl⟩⟩; (try exact ⟨rfl, _, zN⟩))); try go_wp2_with (first | (go_at_call 51; (with_reducible refine (smaltoref06_Sum.calls k2 _ _ l0 t352 _ ?side1 ?side2 A10.out).mono ?_); (case side1 => repeat (first | exact (Kd.C_below HR0.out HB.out) | (with_reducible refine Kd.C_alloc ?_ _) | (with_reducible refine Kd.C_drewN ?_ _) | (with_reducible refine Kd.C_drew ?_))); (case side2 => exact HC0.out); rintro e w' ⟨rfl, ⟨nd, rfl⟩⟩; (try exact ⟨rfl, _, zN⟩))))
        go_ret2
        exact ⟨_, zS, by first | exact Kd.R_nil _ _ _ _ _ | exact Kd.N_nil _ _ _ _ _ | exact Kd.V_nil _ _ _ _ _ | exact Kd.Q_nil _ _ _ _ _ | exact Kd.S_nil _ _ _ _ _, zB⟩
       ·rw [if_neg c11] at H
        have c11b0 : decide (t352 < 268435456) = false := decide_eq_false c11
        clear c11
        have H' := Aside0.mk H
        clear H
        go_wp2_with (first | (go_at_call 51; (with_reducible refine (smaltoref06_Sum.calls k2 _ _ l0 t352 _ ?side1 ?side2 A10.out).mono ?_); (case side1 => repeat (first | exact (Kd.C_below HR0.out HB.out) | (with_reducible refine Kd.C_alloc ?_ _) | (with_reducible refine Kd.C_drewN ?_ _) | (with_reducible refine Kd.C_drew ?_))); (case side2 => exact HC0.out); rintro e w' ⟨rfl, ⟨nd, rfl⟩⟩; (try exact ⟨rfl, _, zN⟩)))
        repeat (go_quiet (first | (go_at_call 51; (with_reducible refine (smaltoref06_Sum.calls k2 _ _ l0 t352 _ ?side1 ?side2 A10.out).mono ?_); (case side1 => repeat (first | exact (Kd.C_below HR0.out HB.out) | (with_reducible refine Kd.C_alloc ?_ _) | (with_reducible refine Kd.C_drewN ?_ _) | (with_reducible refine Kd.C_drew ?_))); (case side2 => exact HC0.out); rintro e w' ⟨rfl, ⟨nd, rfl⟩⟩; (try exact ⟨rfl, _, zN⟩))); try go_wp2_with (first | (go_at_call 51; (with_reducible refine (smaltoref06_Sum.calls k2 _ _ l0 t352 _ ?side1 ?side2 A10.out).mono ?_); (case side1 => repeat (first | exact (Kd.C_below HR0.out HB.out) | (with_reducible refine Kd.C_alloc ?_ _) | (with_reducible refine Kd.C_drewN ?_ _) | (with_reducible refine Kd.C_drew ?_))); (case side2 => exact HC0.out); rintro e w' ⟨rfl, ⟨nd, rfl⟩⟩; (try exact ⟨rfl, _, zN⟩))))
        try simp only [Act.put, List.setIfInBounds_toArray, List.set_cons_succ, List.set_cons_zero]
        go_loopg [7, 8, 9, 39] k2 (fun kq v7 v8 v9 v39 w' => ∃ (x7_3 : List Int) (x8_3 : List Int) (x9_3 : Int) (x39_3 : Int), v9 = .int .i64 x9_3 ∧ v39 = .int .i64 x39_3 ∧ Aside0 (smaltoref06_Apportion.l1 kq t352 x7_3 x8_3 x9_3 l0 (l0.length : Int) x39_3 = some (r1, r2)) ∧ Aside0 (kq ≤ k2) ∧ Aside0 (Kd.R (Kd.int .i64) 2 w' w.heap.size (fun k_ => some k_ ≠ (v8 : Value).ownBlock) v7 x7_3) ∧ Aside0 (Kd.R (Kd.int .i64) 2 w' w.heap.size (fun k_ => some k_ ≠ (v7 : Value).ownBlock) v8 x8_3) ∧ Aside0 (Below w.heap.size w w'))
        case atStart => exact ⟨(([] : List Int)), (([] : List Int)), (16384), (0), zT, zT, H', ⟨Nat.le_refl _⟩, ⟨by first | exact Kd.R_nil _ _ _ _ _ | exact Kd.N_nil _ _ _ _ _ | exact Kd.V_nil _ _ _ _ _ | exact Kd.Q_nil _ _ _ _ _ | exact Kd.S_nil _ _ _ _ _⟩, ⟨by first | exact Kd.R_nil _ _ _ _ _ | exact Kd.N_nil _ _ _ _ _ | exact Kd.V_nil _ _ _ _ _ | exact Kd.Q_nil _ _ _ _ _ | exact Kd.S_nil _ _ _ _ _⟩, ⟨zB⟩⟩
        case round =>
         clear H'
         try clear c1
         try clear p2
         try clear c3
         try clear c3b0
         try clear c3b1
         try clear p3
         try clear q3
         try clear hx3
         try clear c4
         try clear c5
         try clear c5b0
         try clear c6
         try clear c6b0
         try clear p6
         try clear c7
         try clear c7b0
         try clear c9
         try clear c9b0
         try clear c11
         try clear c11b0
         try clear hx350_0
         try clear p2
         try clear p350
         try clear q350
         obtain ⟨x7_3, x8_3, x9_3, x39_3, rfl, rfl, HA, HK3, HO_7, HO_8, HB⟩ := hrel
         cases gk with
         | zero => exact absurd HA.out (by simp [smaltoref06_Apportion.l1])
         | succ k3 =>
          have H := HA.out
          clear HA
          simp only [smaltoref06_Apportion.l1] at H
          by_cases c12 : x39_3 < (l0.length : Int)
          ·rw [if_pos c12] at H
           have c12b0 : decide (x39_3 < (l0.length : Int)) = true := decide_eq_true c12
           clear c12
           by_cases c13 : 0 ≤ x39_3
           ·rw [if_pos c13] at H
            have c13b0 : decide (0 ≤ x39_3) = true := decide_eq_true c13
            clear c13
            by_cases c14 : x39_3 < (l0.length : Int)
            ·rw [if_pos c14] at H
             have c14b0 : decide (x39_3 < (l0.length : Int)) = true := decide_eq_true c14
             clear c14
             replace H := Option.bind_eq_some_iff.mp H
             obtain ⟨t354, A150, H⟩ := H
             try dsimp only at H
             have A15 := Aside0.mk A150
             clear A150
             by_cases c16 : x7_3.length < 17592186044416
             ·rw [if_pos c16] at H
              have LMc16 := Aside0.mk c16
              clear c16
              obtain ⟨y355, hy355⟩ : ∃ y_ : List Int, y_ = (x7_3 ++ [t354]) := ⟨_, rfl⟩
              replace H : (if x8_3.length < 17592186044416 then (smaltoref06_Apportion.l1 k3 t352 y355 (x8_3 ++ [wrap64 ((wrap64 ((rd l0 x39_3) * 16384)) - (wrap64 (t354 * t352)))]) (wrap64 (x9_3 - t354)) l0 (l0.length : Int) (wrap64 (x39_3 + 1))) else (none)) = some (r1, r2) := by first | (rw [hy355]; with_reducible exact H) | (have H2_ := (Option.bind_some _ _).symm.trans H; rw [hy355]; with_reducible exact H2_) | (have H2_ := (Option.bind_some _ _).symm.trans H; with_reducible exact H2_) | with_reducible exact H | (rw [hy355]; exact H) | exact H
              have Ny355 := Aside0.mk hy355
              clear hy355
              by_cases c17 : x8_3.length < 17592186044416
              ·rw [if_pos c17] at H
               have LMc17 := Aside0.mk c17
               clear c17
               obtain ⟨y358, hy358⟩ : ∃ y_ : List Int, y_ = (x8_3 ++ [wrap64 ((wrap64 ((rd l0 x39_3) * 16384)) - (wrap64 (t354 * t352)))]) := ⟨_, rfl⟩
               replace H : (smaltoref06_Apportion.l1 k3 t352 y355 y358 (wrap64 (x9_3 - t354)) l0 (l0.length : Int) (wrap64 (x39_3 + 1))) = some (r1, r2) := by first | (rw [hy358]; with_reducible exact H) | (have H2_ := (Option.bind_some _ _).symm.trans H; rw [hy358]; with_reducible exact H2_) | (have H2_ := (Option.bind_some _ _).symm.trans H; with_reducible exact H2_) | with_reducible exact H | (rw [hy358]; exact H) | exact H
               have Ny358 := Aside0.mk hy358
               clear hy358
               have H' := Aside0.mk H
               clear H
               have p353 : 0 ≤ (x39_3 : Int) := of_decide_eq_true (by first | (with_reducible assumption) | assumption)
               have q353 : x39_3 < (l0.length : Int) := of_decide_eq_true (by first | (with_reducible assumption) | assumption)
               obtain ⟨ad353, e353, hx353_0⟩ := Kd.at_int HR0.out x39_3 p353 q353
               cases e353
               replace hx353_0 := (HB.out.cell (World.block_lt_of_cell? w _ hx353_0)).trans hx353_0
               replace p353 := eq_true p353
               replace q353 := eq_true q353
               go_wp2_with (first | (go_at_call 52; (with_reducible refine (smaltoref01_Floor.calls k3 (wrap64 ((rd l0 x39_3) * 16384)) t352 t354 _ A15.out).mono ?_); rintro e w18 ⟨rfl, hb⟩; have n0_ := Aside0.mk (Kd.R_below (by (with_reducible repeat (first | apply Kd.R_alloc | apply Kd.R_drewN | apply Kd.R_drew)); exact HO_7.out) hb); have n1_ := Aside0.mk (Kd.R_below (by (with_reducible repeat (first | apply Kd.R_alloc | apply Kd.R_drewN | apply Kd.R_drew)); exact HO_8.out) hb); have n2_ := Aside0.mk (below_step zB hb); clear HO_7; clear HO_8; clear HB; have HO_7 := n0_; have HO_8 := n1_; have HB := n2_; clear n0_ n1_ n2_; (try clear hb); (try clear hb2); (try clear hk); (try clear hi)) | ((with_reducible refine gate_builtin (b := .append) (xs := #[.tmp 47, .tmp 49]) rfl ?_); (try (refine gate_guard (by rfl) ?_; dsimp only)); at_builtin; refine Kd.R_append (Kd.int .i64) (w0 := w) w.heap.size rfl (.tmp 47) (.tmp 49) 29 2 (.int .i64 0) 8 rfl Tryd.underlying29 info2 rfl (by decide) (by omega) u7 x7_3 t354 [.int .i64 t354] (fun k_ => some k_ ≠ (u8 : Value).ownBlock) (fun _ => False) rfl rfl ?aP (fun _ hk => hk.elim) ?aF ?aO ?aB ?aS ?aL ?_; (case aP => exact rfl); (case aB => exact zB); (case aF => exact (fun k_ hk => Kd.fresh' (Kd.R_lt (by (with_reducible repeat (first | apply Kd.R_alloc | apply Kd.R_drewN | apply Kd.R_drew)); exact HO_8.out)) k_ hk)); (case aO => exact (by (with_reducible repeat (first | apply Kd.R_alloc | apply Kd.R_drewN | apply Kd.R_drew)); exact HO_7.out)); (case aS => exact (below_size zB)); (case aL => have := LMc16.out; omega); intro v356 w19 ho hb hg hat; rw [← Ny355.out] at ho; have n0_ := Aside0.mk (Kd.R_after (ok := (fun _ => True)) (by (with_reducible repeat (first | apply Kd.R_alloc | apply Kd.R_drewN | apply Kd.R_drew)); exact Kd.R_mono HO_8.out (fun _ hk => ⟨trivial, hk⟩)) hg hat); have n1_ := Aside0.mk (hb); have n2_ := Aside0.mk (ho); clear HO_8; clear HB; clear HO_7; have HO_8 := n0_; have HB := n1_; have HO357 := n2_; clear n0_ n1_ n2_; clear ho hb hg hat) | ((with_reducible refine gate_builtin (b := .append) (xs := #[.tmp 51, .tmp 58]) rfl ?_); (try (refine gate_guard (by rfl) ?_; dsimp only)); at_builtin; refine Kd.R_append (Kd.int .i64) (w0 := w) w.heap.size rfl (.tmp 51) (.tmp 58) 29 2 (.int .i64 0) 8 rfl Tryd.underlying29 info2 rfl (by decide) (by omega) u8 x8_3 (wrap64 ((wrap64 ((rd l0 x39_3) * 16384)) - (wrap64 (t354 * t352)))) [.int .i64 (wrap64 ((wrap64 ((rd l0 x39_3) * 16384)) - (wrap64 (t354 * t352))))] (fun k_ => some k_ ≠ (v356 : Value).ownBlock) (fun _ => False) rfl rfl ?aP (fun _ hk => hk.elim) ?aF ?aO ?aB ?aS ?aL ?_; (case aP => exact rfl); (case aB => exact zB); (case aF => exact (fun k_ hk => Kd.fresh' (Kd.R_lt (by (with_reducible repeat (first | apply Kd.R_alloc | apply Kd.R_drewN | apply Kd.R_drew)); exact HO357.out)) k_ hk)); (case aO => exact (by (with_reducible repeat (first | apply Kd.R_alloc | apply Kd.R_drewN | apply Kd.R_drew)); exact Kd.R_mono HO_8.out (fun _ hk => hk.2))); (case aS => exact (below_size zB)); (case aL => have := LMc17.out; omega); intro v359 w20 ho hb hg hat; rw [← Ny358.out] at ho; have n0_ := Aside0.mk (Kd.R_after (ok := (fun _ => True)) (by (with_reducible repeat (first | apply Kd.R_alloc | apply Kd.R_drewN | apply Kd.R_drew)); exact Kd.R_mono HO357.out (fun _ hk => ⟨trivial, hk⟩)) hg hat); have n1_ := Aside0.mk (hb); have n2_ := Aside0.mk (ho); clear HO357; clear HB; clear HO_8; have HO357 := n0_; have HB := n1_; have HO360 := n2_; clear n0_ n1_ n2_; clear ho hb hg hat))
               repeat (go_quiet (first | (go_at_call 52; (with_reducible refine (smaltoref01_Floor.calls k3 (wrap64 ((rd l0 x39_3) * 16384)) t352 t354 _ A15.out).mono ?_); rintro e w18 ⟨rfl, hb⟩; have n0_ := Aside0.mk (Kd.R_below (by (with_reducible repeat (first | apply Kd.R_alloc | apply Kd.R_drewN | apply Kd.R_drew)); exact HO_7.out) hb); have n1_ := Aside0.mk (Kd.R_below (by (with_reducible repeat (first | apply Kd.R_alloc | apply Kd.R_drewN | apply Kd.R_drew)); exact HO_8.out) hb); have n2_ := Aside0.mk (below_step zB hb); clear HO_7; clear HO_8; clear HB; have HO_7 := n0_; have HO_8 := n1_; have HB := n2_; clear n0_ n1_ n2_; (try clear hb); (try clear hb2); (try clear hk); (try clear hi)) | ((with_reducible refine gate_builtin (b := .append) (xs := #[.tmp 47, .tmp 49]) rfl ?_); (try (refine gate_guard (by rfl) ?_; dsimp only)); at_builtin; refine Kd.R_append (Kd.int .i64) (w0 := w) w.heap.size rfl (.tmp 47) (.tmp 49) 29 2 (.int .i64 0) 8 rfl Tryd.underlying29 info2 rfl (by decide) (by omega) u7 x7_3 t354 [.int .i64 t354] (fun k_ => some k_ ≠ (u8 : Value).ownBlock) (fun _ => False) rfl rfl ?aP (fun _ hk => hk.elim) ?aF ?aO ?aB ?aS ?aL ?_; (case aP => exact rfl); (case aB => exact zB); (case aF => exact (fun k_ hk => Kd.fresh' (Kd.R_lt (by (with_reducible repeat (first | apply Kd.R_alloc | apply Kd.R_drewN | apply Kd.R_drew)); exact HO_8.out)) k_ hk)); (case aO => exact (by (with_reducible repeat (first | apply Kd.R_alloc | apply Kd.R_drewN | apply Kd.R_drew)); exact HO_7.out)); (case aS => exact (below_size zB)); (case aL => have := LMc16.out; omega); intro v356 w19 ho hb hg hat; rw [← Ny355.out] at ho; have n0_ := Aside0.mk (Kd.R_after (ok := (fun _ => True)) (by (with_reducible repeat (first | apply Kd.R_alloc | apply Kd.R_drewN | apply Kd.R_drew)); exact Kd.R_mono HO_8.out (fun _ hk => ⟨trivial, hk⟩)) hg hat); have n1_ := Aside0.mk (hb); have n2_ := Aside0.mk (ho); clear HO_8; clear HB; clear HO_7; have HO_8 := n0_; have HB := n1_; have HO357 := n2_; clear n0_ n1_ n2_; clear ho hb hg hat) | ((with_reducible refine gate_builtin (b := .append) (xs := #[.tmp 51, .tmp 58]) rfl ?_); (try (refine gate_guard (by rfl) ?_; dsimp only)); at_builtin; refine Kd.R_append (Kd.int .i64) (w0 := w) w.heap.size rfl (.tmp 51) (.tmp 58) 29 2 (.int .i64 0) 8 rfl Tryd.underlying29 info2 rfl (by decide) (by omega) u8 x8_3 (wrap64 ((wrap64 ((rd l0 x39_3) * 16384)) - (wrap64 (t354 * t352)))) [.int .i64 (wrap64 ((wrap64 ((rd l0 x39_3) * 16384)) - (wrap64 (t354 * t352))))] (fun k_ => some k_ ≠ (v356 : Value).ownBlock) (fun _ => False) rfl rfl ?aP (fun _ hk => hk.elim) ?aF ?aO ?aB ?aS ?aL ?_; (case aP => exact rfl); (case aB => exact zB); (case aF => exact (fun k_ hk => Kd.fresh' (Kd.R_lt (by (with_reducible repeat (first | apply Kd.R_alloc | apply Kd.R_drewN | apply Kd.R_drew)); exact HO357.out)) k_ hk)); (case aO => exact (by (with_reducible repeat (first | apply Kd.R_alloc | apply Kd.R_drewN | apply Kd.R_drew)); exact Kd.R_mono HO_8.out (fun _ hk => hk.2))); (case aS => exact (below_size zB)); (case aL => have := LMc17.out; omega); intro v359 w20 ho hb hg hat; rw [← Ny358.out] at ho; have n0_ := Aside0.mk (Kd.R_after (ok := (fun _ => True)) (by (with_reducible repeat (first | apply Kd.R_alloc | apply Kd.R_drewN | apply Kd.R_drew)); exact Kd.R_mono HO357.out (fun _ hk => ⟨trivial, hk⟩)) hg hat); have n1_ := Aside0.mk (hb); have n2_ := Aside0.mk (ho); clear HO357; clear HB; clear HO_8; have HO357 := n0_; have HB := n1_; have HO360 := n2_; clear n0_ n1_ n2_; clear ho hb hg hat)); try go_wp2_with (first | (go_at_call 52; (with_reducible refine (smaltoref01_Floor.calls k3 (wrap64 ((rd l0 x39_3) * 16384)) t352 t354 _ A15.out).mono ?_); rintro e w18 ⟨rfl, hb⟩; have n0_ := Aside0.mk (Kd.R_below (by (with_reducible repeat (first | apply Kd.R_alloc | apply Kd.R_drewN | apply Kd.R_drew)); exact HO_7.out) hb); have n1_ := Aside0.mk (Kd.R_below (by (with_reducible repeat (first | apply Kd.R_alloc | apply Kd.R_drewN | apply Kd.R_drew)); exact HO_8.out) hb); have n2_ := Aside0.mk (below_step zB hb); clear HO_7; clear HO_8; clear HB; have HO_7 := n0_; have HO_8 := n1_; have HB := n2_; clear n0_ n1_ n2_; (try clear hb); (try clear hb2); (try clear hk); (try clear hi)) | ((with_reducible refine gate_builtin (b := .append) (xs := #[.tmp 47, .tmp 49]) rfl ?_); (try (refine gate_guard (by rfl) ?_; dsimp only)); at_builtin; refine Kd.R_append (Kd.int .i64) (w0 := w) w.heap.size rfl (.tmp 47) (.tmp 49) 29 2 (.int .i64 0) 8 rfl Tryd.underlying29 info2 rfl (by decide) (by omega) u7 x7_3 t354 [.int .i64 t354] (fun k_ => some k_ ≠ (u8 : Value).ownBlock) (fun _ => False) rfl rfl ?aP (fun _ hk => hk.elim) ?aF ?aO ?aB ?aS ?aL ?_; (case aP => exact rfl); (case aB => exact zB); (case aF => exact (fun k_ hk => Kd.fresh' (Kd.R_lt (by (with_reducible repeat (first | apply Kd.R_alloc | apply Kd.R_drewN | apply Kd.R_drew)); exact HO_8.out)) k_ hk)); (case aO => exact (by (with_reducible repeat (first | apply Kd.R_alloc | apply Kd.R_drewN | apply Kd.R_drew)); exact HO_7.out)); (case aS => exact (below_size zB)); (case aL => have := LMc16.out; omega); intro v356 w19 ho hb hg hat; rw [← Ny355.out] at ho; have n0_ := Aside0.mk (Kd.R_after (ok := (fun _ => True)) (by (with_reducible repeat (first | apply Kd.R_alloc | apply Kd.R_drewN | apply Kd.R_drew)); exact Kd.R_mono HO_8.out (fun _ hk => ⟨trivial, hk⟩)) hg hat); have n1_ := Aside0.mk (hb); have n2_ := Aside0.mk (ho); clear HO_8; clear HB; clear HO_7; have HO_8 := n0_; have HB := n1_; have HO357 := n2_; clear n0_ n1_ n2_; clear ho hb hg hat) | ((with_reducible refine gate_builtin (b := .append) (xs := #[.tmp 51, .tmp 58]) rfl ?_); (try (refine gate_guard (by rfl) ?_; dsimp only)); at_builtin; refine Kd.R_append (Kd.int .i64) (w0 := w) w.heap.size rfl (.tmp 51) (.tmp 58) 29 2 (.int .i64 0) 8 rfl Tryd.underlying29 info2 rfl (by decide) (by omega) u8 x8_3 (wrap64 ((wrap64 ((rd l0 x39_3) * 16384)) - (wrap64 (t354 * t352)))) [.int .i64 (wrap64 ((wrap64 ((rd l0 x39_3) * 16384)) - (wrap64 (t354 * t352))))] (fun k_ => some k_ ≠ (v356 : Value).ownBlock) (fun _ => False) rfl rfl ?aP (fun _ hk => hk.elim) ?aF ?aO ?aB ?aS ?aL ?_; (case aP => exact rfl); (case aB => exact zB); (case aF => exact (fun k_ hk => Kd.fresh' (Kd.R_lt (by (with_reducible repeat (first | apply Kd.R_alloc | apply Kd.R_drewN | apply Kd.R_drew)); exact HO357.out)) k_ hk)); (case aO => exact (by (with_reducible repeat (first | apply Kd.R_alloc | apply Kd.R_drewN | apply Kd.R_drew)); exact Kd.R_mono HO_8.out (fun _ hk => hk.2))); (case aS => exact (below_size zB)); (case aL => have := LMc17.out; omega); intro v359 w20 ho hb hg hat; rw [← Ny358.out] at ho; have n0_ := Aside0.mk (Kd.R_after (ok := (fun _ => True)) (by (with_reducible repeat (first | apply Kd.R_alloc | apply Kd.R_drewN | apply Kd.R_drew)); exact Kd.R_mono HO357.out (fun _ hk => ⟨trivial, hk⟩)) hg hat); have n1_ := Aside0.mk (hb); have n2_ := Aside0.mk (ho); clear HO357; clear HB; clear HO_8; have HO357 := n0_; have HB := n1_; have HO360 := n2_; clear n0_ n1_ n2_; clear ho hb hg hat)))
               go_roundg k3
               case measure => have := HJ1.out; have := HK2.out; have := HK3.out; omega
               case rel => exact ⟨(y355), (y358), (wrap64 (x9_3 - t354)), (wrap64 (x39_3 + 1)), zT, zT, H', ⟨by have := HJ1.out; have := HK2.out; have := HK3.out; omega⟩, ⟨by (with_reducible repeat (first | apply Kd.R_alloc | apply Kd.R_drewN | apply Kd.R_drew)); exact Kd.R_mono HO357.out (fun _ hk => hk.2)⟩, ⟨by (with_reducible repeat (first | apply Kd.R_alloc | apply Kd.R_drewN | apply Kd.R_drew)); exact HO360.out⟩, ⟨zB⟩⟩
              ·rw [if_neg c17] at H
               exact absurd H (by simp)
             ·rw [if_neg c16] at H
              exact absurd H (by simp)
            ·rw [if_neg c14] at H
             exact absurd H (by simp)
           ·rw [if_neg c13] at H
            exact absurd H (by simp)
          ·rw [if_neg c12] at H
           have c12b0 : decide (x39_3 < (l0.length : Int)) = false := decide_eq_false c12
           clear c12
           have H' := Aside0.mk H
           clear H
           go_wp2
           repeat (go_quiet (fail); try go_wp2)
           try simp only [Act.put, List.setIfInBounds_toArray, List.set_cons_succ, List.set_cons_zero]
           go_loopg [9] k3 (fun kq v9 w' => ∃ (x7_4 : List Int) (x8_4 : List Int) (x9_4 : Int), v9 = .int .i64 x9_4 ∧ Aside0 (smaltoref06_Apportion.l2 kq x7_4 x8_4 x9_4 = some (r1, r2)) ∧ Aside0 (kq ≤ k3) ∧ Aside0 (Kd.R (Kd.int .i64) 2 w' w.heap.size (fun k_ => some k_ ≠ (u8 : Value).ownBlock) u7 x7_4) ∧ Aside0 (Kd.R (Kd.int .i64) 2 w' w.heap.size (fun k_ => some k_ ≠ (u7 : Value).ownBlock) u8 x8_4) ∧ Aside0 (Below w.heap.size w w'))
           case atStart => exact ⟨(x7_3), (x8_3), (x9_3), zT, H', ⟨Nat.le_refl _⟩, ⟨by (with_reducible repeat (first | apply Kd.R_alloc | apply Kd.R_drewN | apply Kd.R_drew)); exact HO_7.out⟩, ⟨by (with_reducible repeat (first | apply Kd.R_alloc | apply Kd.R_drewN | apply Kd.R_drew)); exact HO_8.out⟩, ⟨zB⟩⟩
           case round =>
            clear H'
            try clear c1
            try clear p2
            try clear c3
            try clear c3b0
            try clear c3b1
            try clear p3
            try clear q3
            try clear hx3
            try clear c4
            try clear c5
            try clear c5b0
            try clear c6
            try clear c6b0
            try clear p6
            try clear c7
            try clear c7b0
            try clear c9
            try clear c9b0
            try clear c11
            try clear c11b0
            try clear c12
            try clear c12b0
            try clear c13
            try clear c13b0
            try clear c14
            try clear c14b0
            try clear c16
            try clear c17
            try clear hx350_0
            try clear hx353_0
            try clear p2
            try clear p3
            try clear p350
            try clear p353
            try clear p6
            try clear q3
            try clear q350
            try clear q353
            obtain ⟨x7_4, x8_4, x9_4, rfl, HA, HK4, HO_7, HO_8, HB⟩ := hrel
            cases gk with
            | zero => exact absurd HA.out (by simp [smaltoref06_Apportion.l2])
            | succ k4 =>
             have H := HA.out
             clear HA
             simp only [smaltoref06_Apportion.l2] at H
             by_cases c21 : x9_4 > 0
             ·rw [if_pos c21] at H
              have c21b0 : decide (0 < x9_4) = true := decide_eq_true c21
              clear c21
              have H' := Aside0.mk H
              clear H
              obtain ⟨Ao22, co22, eo22⟩ := Kd.R_slice HO_8.out
              subst eo22
              go_wp2
              repeat (go_quiet (fail); try go_wp2)
              try simp only [Act.put, List.setIfInBounds_toArray, List.set_cons_succ, List.set_cons_zero]
              go_loopg [13, 68] k4 (fun kq v13 v68 w' => ∃ (x13_5 : Int) (x68_5 : Int), v13 = .int .i64 x13_5 ∧ v68 = .int .i64 x68_5 ∧ Aside0 (smaltoref06_Apportion.l3 kq x7_4 x8_4 x9_4 x13_5 (x8_4.length : Int) x68_5 = some (r1, r2)) ∧ Aside0 (kq ≤ k4) ∧ Aside0 (Kd.R (Kd.int .i64) 2 w' w.heap.size (fun k_ => some k_ ≠ ((.slice Ao22 x8_4.length co22) : Value).ownBlock) u7 x7_4) ∧ Aside0 (Kd.R (Kd.int .i64) 2 w' w.heap.size (fun k_ => some k_ ≠ (u7 : Value).ownBlock) (.slice Ao22 x8_4.length co22) x8_4) ∧ Aside0 (Below w.heap.size w w'))
              case atStart => exact ⟨(0), (0), zT, zT, H', ⟨Nat.le_refl _⟩, ⟨by (with_reducible repeat (first | apply Kd.R_alloc | apply Kd.R_drewN | apply Kd.R_drew)); exact HO_7.out⟩, ⟨by (with_reducible repeat (first | apply Kd.R_alloc | apply Kd.R_drewN | apply Kd.R_drew)); exact HO_8.out⟩, ⟨zB⟩⟩
              case round =>
               clear H'
               try clear c1
               try clear c2
               try clear p2
               try clear c3
               try clear c3b0
               try clear c3b1
               try clear p3
               try clear q3
               try clear hx3
               try clear c4
               try clear c5
               try clear c5b0
               try clear c6
               try clear c6b0
               try clear p6
               try clear c7
               try clear c7b0
               try clear c9
               try clear c9b0
               try clear c11
               try clear c11b0
               try clear c12
               try clear c12b0
               try clear c13
               try clear c13b0
               try clear c14
               try clear c14b0
               try clear c16
               try clear c17
               try clear c21
               try clear c21b0
               try clear hx350_0
               try clear hx353_0
               try clear p2
               try clear p3
               try clear p350
               try clear p353
               try clear p6
               try clear q3
               try clear q350
               try clear q353
               obtain ⟨x13_5, x68_5, rfl, rfl, HA, HK5, HO_7, HO_8, HB⟩ := hrel
               cases gk with
               | zero => exact absurd HA.out (by simp [smaltoref06_Apportion.l3])
               | succ k5 =>
                have H := HA.out
                clear HA
                simp only [smaltoref06_Apportion.l3] at H
                by_cases c23 : x68_5 < (x8_4.length : Int)
                ·rw [if_pos c23] at H
                 have c23b0 : decide (x68_5 < (x8_4.length : Int)) = true := decide_eq_true c23
                 clear c23
                 by_cases c24 : 0 ≤ x68_5
                 ·rw [if_pos c24] at H
                  have c24b0 : decide (0 ≤ x68_5) = true := decide_eq_true c24
                  clear c24
                  by_cases c25 : x68_5 < (x8_4.length : Int)
                  ·rw [if_pos c25] at H
                   have c25b0 : decide (x68_5 < (x8_4.length : Int)) = true := decide_eq_true c25
                   clear c25
                   by_cases c26 : 0 ≤ x13_5
                   ·rw [if_pos c26] at H
                    have c26b0 : decide (0 ≤ x13_5) = true := decide_eq_true c26
                    clear c26
                    by_cases c27 : x13_5 < (x8_4.length : Int)
                    ·rw [if_pos c27] at H
                     have c27b0 : decide (x13_5 < (x8_4.length : Int)) = true := decide_eq_true c27
                     clear c27
                     by_cases c28 : (rd x8_4 x68_5) > (rd x8_4 x13_5)
                     ·rw [if_pos c28] at H
                      have c28b0 : decide ((rd x8_4 x13_5) < (rd x8_4 x68_5)) = true := decide_eq_true c28
                      clear c28
                      have H' := Aside0.mk H
                      clear H
                      have p361 : 0 ≤ (x68_5 : Int) := of_decide_eq_true (by first | (with_reducible assumption) | assumption)
                      have q361 : x68_5 < (x8_4.length : Int) := of_decide_eq_true (by first | (with_reducible assumption) | assumption)
                      obtain ⟨ad361, e361, hx361_0⟩ := Kd.at_int (Kd.R_reads' HO_8.out).2.2 x68_5 p361 q361
                      cases e361
                      replace p361 := eq_true p361
                      replace q361 := eq_true q361
                      have p362 : 0 ≤ (x13_5 : Int) := of_decide_eq_true (by first | (with_reducible assumption) | assumption)
                      have q362 : x13_5 < (x8_4.length : Int) := of_decide_eq_true (by first | (with_reducible assumption) | assumption)
                      obtain ⟨ad362, e362, hx362_0⟩ := Kd.at_int (Kd.R_reads' HO_8.out).2.2 x13_5 p362 q362
                      obtain rfl : ad361 = ad362 := (by injection e362)
                      replace p362 := eq_true p362
                      replace q362 := eq_true q362
                      go_wp2
                      repeat (go_quiet (fail); try go_wp2)
                      go_roundg k5
                      case measure => have := HJ1.out; have := HK2.out; have := HK3.out; have := HK4.out; have := HK5.out; omega
                      case rel => exact ⟨(x68_5), (wrap64 (x68_5 + 1)), zT, zT, H', ⟨by have := HJ1.out; have := HK2.out; have := HK3.out; have := HK4.out; have := HK5.out; omega⟩, ⟨by (with_reducible repeat (first | apply Kd.R_alloc | apply Kd.R_drewN | apply Kd.R_drew)); exact HO_7.out⟩, ⟨by (with_reducible repeat (first | apply Kd.R_alloc | apply Kd.R_drewN | apply Kd.R_drew)); exact HO_8.out⟩, ⟨zB⟩⟩
                     ·rw [if_neg c28] at H
                      have c28b0 : decide ((rd x8_4 x13_5) < (rd x8_4 x68_5)) = false := decide_eq_false c28
                      clear c28
                      have H' := Aside0.mk H
                      clear H
                      have p361 : 0 ≤ (x68_5 : Int) := of_decide_eq_true (by first | (with_reducible assumption) | assumption)
                      have q361 : x68_5 < (x8_4.length : Int) := of_decide_eq_true (by first | (with_reducible assumption) | assumption)
                      obtain ⟨ad361, e361, hx361_0⟩ := Kd.at_int (Kd.R_reads' HO_8.out).2.2 x68_5 p361 q361
                      cases e361
                      replace p361 := eq_true p361
                      replace q361 := eq_true q361
                      have p362 : 0 ≤ (x13_5 : Int) := of_decide_eq_true (by first | (with_reducible assumption) | assumption)
                      have q362 : x13_5 < (x8_4.length : Int) := of_decide_eq_true (by first | (with_reducible assumption) | assumption)
                      obtain ⟨ad362, e362, hx362_0⟩ := Kd.at_int (Kd.R_reads' HO_8.out).2.2 x13_5 p362 q362
                      obtain rfl : ad361 = ad362 := (by injection e362)
                      replace p362 := eq_true p362
                      replace q362 := eq_true q362
                      go_wp2
                      repeat (go_quiet (fail); try go_wp2)
                      go_roundg k5
                      case measure => have := HJ1.out; have := HK2.out; have := HK3.out; have := HK4.out; have := HK5.out; omega
                      case rel => exact ⟨(x13_5), (wrap64 (x68_5 + 1)), zT, zT, H', ⟨by have := HJ1.out; have := HK2.out; have := HK3.out; have := HK4.out; have := HK5.out; omega⟩, ⟨by (with_reducible repeat (first | apply Kd.R_alloc | apply Kd.R_drewN | apply Kd.R_drew)); exact HO_7.out⟩, ⟨by (with_reducible repeat (first | apply Kd.R_alloc | apply Kd.R_drewN | apply Kd.R_drew)); exact HO_8.out⟩, ⟨zB⟩⟩
                    ·rw [if_neg c27] at H
                     exact absurd H (by simp)
                   ·rw [if_neg c26] at H
                    exact absurd H (by simp)
                  ·rw [if_neg c25] at H
                   exact absurd H (by simp)
                 ·rw [if_neg c24] at H
                  exact absurd H (by simp)
                ·rw [if_neg c23] at H
                 have c23b0 : decide (x68_5 < (x8_4.length : Int)) = false := decide_eq_false c23
                 clear c23
                 by_cases c29 : 0 ≤ x13_5
                 ·rw [if_pos c29] at H
                  have c29b0 : decide (0 ≤ x13_5) = true := decide_eq_true c29
                  clear c29
                  by_cases c30 : x13_5 < (x7_4.length : Int)
                  ·rw [if_pos c30] at H
                   have c30b0 : decide (x13_5 < (x7_4.length : Int)) = true := decide_eq_true c30
                   clear c30
                   obtain ⟨y364, hy364⟩ : ∃ y_ : List Int, y_ = (x7_4.set (x13_5 : Int).toNat (wrap64 ((rd x7_4 x13_5) + 1))) := ⟨_, rfl⟩
                   replace H : (if x13_5 < (x8_4.length : Int) then (smaltoref06_Apportion.l2 k5 y364 (x8_4.set (x13_5 : Int).toNat (-1)) (wrap64 (x9_4 - 1))) else (none)) = some (r1, r2) := by first | (rw [hy364]; with_reducible exact H) | (have H2_ := (Option.bind_some _ _).symm.trans H; rw [hy364]; with_reducible exact H2_) | (have H2_ := (Option.bind_some _ _).symm.trans H; with_reducible exact H2_) | with_reducible exact H | (rw [hy364]; exact H) | exact H
                   have Ny364 := Aside0.mk hy364
                   clear hy364
                   by_cases c32 : x13_5 < (x8_4.length : Int)
                   ·rw [if_pos c32] at H
                    have c32b0 : decide (x13_5 < (x8_4.length : Int)) = true := decide_eq_true c32
                    clear c32
                    obtain ⟨y365, hy365⟩ : ∃ y_ : List Int, y_ = (x8_4.set (x13_5 : Int).toNat (-1)) := ⟨_, rfl⟩
                    replace H : (smaltoref06_Apportion.l2 k5 y364 y365 (wrap64 (x9_4 - 1))) = some (r1, r2) := by first | (rw [hy365]; with_reducible exact H) | (have H2_ := (Option.bind_some _ _).symm.trans H; rw [hy365]; with_reducible exact H2_) | (have H2_ := (Option.bind_some _ _).symm.trans H; with_reducible exact H2_) | with_reducible exact H | (rw [hy365]; exact H) | exact H
                    have Ny365 := Aside0.mk hy365
                    clear hy365
                    have H' := Aside0.mk H
                    clear H
                    obtain ⟨Ao34, co34, eo34⟩ := Kd.R_slice HO_7.out
                    subst eo34
                    have p363 : 0 ≤ (x13_5 : Int) := of_decide_eq_true (by first | (with_reducible assumption) | assumption)
                    have q363 : x13_5 < (x7_4.length : Int) := of_decide_eq_true (by first | (with_reducible assumption) | assumption)
                    obtain ⟨ad363, e363, hx363_0⟩ := Kd.at_int (Kd.R_reads' HO_7.out).2.2 x13_5 p363 q363
                    cases e363
                    replace p363 := eq_true p363
                    replace q363 := eq_true q363
                    have p31 : 0 ≤ (x13_5 : Int) := of_decide_eq_true (by first | (with_reducible assumption) | assumption)
                    have q31 : (x13_5 : Int) < ((x7_4.length : Int) : Int) := of_decide_eq_true (by first | (with_reducible assumption) | assumption)
                    obtain ⟨go31, co31, eo31, gb31, gl31, cl31, HG31⟩ := Kd.R_form HO_7.out (by omega)
                    (first | cases eo31 | (injection eo31 with ea_ en_ ec_; (first | subst ea_ | (injection ea_ with ea_; subst ea_)); subst ec_; clear en_))
                    have GB31 := Aside0.mk gb31
                    have GG31 := Aside0.mk HG31
                    clear gb31 gl31 HG31
                    (first | simp only [add_plain] at hx363_0 | skip)
                    obtain ⟨hx31_0, hf31_0⟩ := Kd.R_celln 0 HO_7.out (x13_5 : Int) p31 q31
                    replace p31 := eq_true p31
                    replace q31 := eq_true q31
                    have HP35 := Kd.R_putg HO_7.out (x13_5 : Int) (wrap64 ((rd x7_4 x13_5) + 1))
                    go_wp2_with (first | ((with_reducible refine gate_store (t := 2) (p := 87) rfl ?_); (try (rw [drewN_self wr]; generalize hq_ : World.drewN wr _ = wr; have n0_ := Aside0.mk (Kd.R_at hq_ HO_7.out); have n1_ := Aside0.mk (Kd.R_at hq_ HO_8.out); have n2_ := Aside0.mk (below_at hq_ HB.out); clear hq_ HO_7 HO_8 HB; have HO_7 := n0_; have HO_8 := n1_; have HB := n2_; clear n0_ n1_ n2_; (try (have HP35 := Kd.R_putg HO_7.out (x13_5 : Int) (wrap64 ((rd x7_4 x13_5) + 1)))))); refine store_event (t := 2) (p := 87) (v := ?vo_w36) (w1 := (wr.setCell ⟨go31, (x13_5 : Int).toNat, none⟩ (.int .i64 (wrap64 ((rd x7_4 x13_5) + 1))))) ?hg ?ho ?hn ?hr ?_; (case ho => rfl); (case hg => rfl); (case hn => rfl); (case hr => first | (go_simp; done) | (go_simp; rfl)); intro w36 hw; have hg : wr.grownBy w36 (some go31) := (by rw [hw]; exact HP35.2); have hp_ : Kd.R (Kd.int .i64) 2 w36 w.heap.size (fun k_ => some k_ ≠ (.slice Ao22 x8_4.length co22 : Value).ownBlock) (.slice (some ⟨go31, 0, none⟩) x7_4.length co34) y364 := (by rw [hw, Ny364.out]; exact HP35.1); clear HP35; have n0_ := Aside0.mk (hp_); have n1_ := Aside0.mk (Kd.R_after (v := (.slice (some ⟨go31, 0, none⟩) x7_4.length co34)) (v1 := (.slice (some ⟨go31, 0, none⟩) x7_4.length co34)) (ok := (fun _ => True)) (by (with_reducible repeat (first | apply Kd.R_alloc | apply Kd.R_drewN | apply Kd.R_drew)); exact Kd.R_mono HO_8.out (fun _ hk => ⟨trivial, hk⟩)) hg (.inl rfl)); have n2_ := Aside0.mk ((by rw [hw]; exact below_set (HB.out) GB31.out : Below w.heap.size w w36)); clear HO_7; clear HO_8; clear HB; have HO_7 := n0_; have HO_8 := n1_; have HB := n2_; clear n0_ n1_ n2_; clear hg hw hp_; have p33 : 0 ≤ (x13_5 : Int) := of_decide_eq_true (by first | (with_reducible assumption) | assumption); have q33 : (x13_5 : Int) < ((x8_4.length : Int) : Int) := of_decide_eq_true (by first | (with_reducible assumption) | assumption); obtain ⟨go33, co33, eo33, gb33, gl33, cl33, HG33⟩ := Kd.R_form HO_8.out (by omega); (first | cases eo33 | (injection eo33 with ea_ en_ ec_; (first | subst ea_ | (injection ea_ with ea_; subst ea_)); subst ec_; clear en_)); have GB33 := Aside0.mk gb33; have GG33 := Aside0.mk HG33; clear gb33 gl33 HG33; obtain ⟨hx33_0, hf33_0⟩ := Kd.R_celln 0 HO_8.out (x13_5 : Int) p33 q33; replace p33 := eq_true p33; replace q33 := eq_true q33; have n_ := Aside0.mk (Kd.R_mono (ok' := (fun k_ => some k_ ≠ (.slice (some ⟨go31, 0, none⟩) x7_4.length co34 : Value).ownBlock)) HO_8.out (fun k_ hk => hk.2)); clear HO_8; have HO_8 := n_; clear n_; obtain ⟨hy37_, hz37_⟩ := Kd.R_celln 0 HO_8.out (x13_5 : Int) (of_decide_eq_true (by first | (with_reducible assumption) | assumption)) (of_decide_eq_true (by first | (with_reducible assumption) | assumption)); have HP37 := Kd.R_putg HO_8.out (x13_5 : Int) (-1)) | ((with_reducible refine gate_store (t := 2) (p := 90) rfl ?_); (try (rw [drewN_self w36]; generalize hq_ : World.drewN w36 _ = w36; have n0_ := Aside0.mk (Kd.R_at hq_ HO_7.out); have n1_ := Aside0.mk (Kd.R_at hq_ HO_8.out); have n2_ := Aside0.mk (below_at hq_ HB.out); clear hq_ HO_7 HO_8 HB; have HO_7 := n0_; have HO_8 := n1_; have HB := n2_; clear n0_ n1_ n2_; (try (have n_ := Aside0.mk (Kd.R_mono (ok' := (fun k_ => some k_ ≠ (.slice (some ⟨go31, 0, none⟩) x7_4.length co34 : Value).ownBlock)) HO_8.out (fun k_ hk => hk.2)); clear HO_8; have HO_8 := n_; clear n_)); (try (obtain ⟨hy37_, hz37_⟩ := Kd.R_celln 0 HO_8.out (x13_5 : Int) (of_decide_eq_true (by first | (with_reducible assumption) | assumption)) (of_decide_eq_true (by first | (with_reducible assumption) | assumption)))); (try (have HP37 := Kd.R_putg HO_8.out (x13_5 : Int) (-1))))); refine store_event (t := 2) (p := 90) (v := ?vo_w38) (w1 := (w36.setCell ⟨go33, (x13_5 : Int).toNat, none⟩ (.int .i64 (-1)))) ?hg ?ho ?hn ?hr ?_; (case ho => rfl); (case hg => rfl); (case hn => rfl); (case hr => first | (go_simp; done) | (go_simp; rfl)); intro w38 hw; have hg : w36.grownBy w38 (some go33) := (by rw [hw]; exact HP37.2); have hp_ : Kd.R (Kd.int .i64) 2 w38 w.heap.size (fun k_ => some k_ ≠ (.slice (some ⟨go31, 0, none⟩) x7_4.length co34 : Value).ownBlock) (.slice (some ⟨go33, 0, none⟩) x8_4.length co22) y365 := (by rw [hw, Ny365.out]; exact HP37.1); clear HP37; have n0_ := Aside0.mk (Kd.R_after (v := (.slice (some ⟨go33, 0, none⟩) x8_4.length co22)) (v1 := (.slice (some ⟨go33, 0, none⟩) x8_4.length co22)) (ok := (fun _ => True)) (by (with_reducible repeat (first | apply Kd.R_alloc | apply Kd.R_drewN | apply Kd.R_drew)); exact Kd.R_mono HO_7.out (fun _ hk => ⟨trivial, hk⟩)) hg (.inl rfl)); have n1_ := Aside0.mk (hp_); have n2_ := Aside0.mk ((by rw [hw]; exact below_set (HB.out) GB33.out : Below w.heap.size w w38)); clear HO_7; clear HO_8; clear HB; have HO_7 := n0_; have HO_8 := n1_; have HB := n2_; clear n0_ n1_ n2_; clear hg hw hp_))
                    repeat (go_quiet (first | ((with_reducible refine gate_store (t := 2) (p := 87) rfl ?_); (try (rw [drewN_self wr]; generalize hq_ : World.drewN wr _ = wr; have n0_ := Aside0.mk (Kd.R_at hq_ HO_7.out); have n1_ := Aside0.mk (Kd.R_at hq_ HO_8.out); have n2_ := Aside0.mk (below_at hq_ HB.out); clear hq_ HO_7 HO_8 HB; have HO_7 := n0_; have HO_8 := n1_; have HB := n2_; clear n0_ n1_ n2_; (try (have HP35 := Kd.R_putg HO_7.out (x13_5 : Int) (wrap64 ((rd x7_4 x13_5) + 1)))))); refine store_event (t := 2) (p := 87) (v := ?vo_w36) (w1 := (wr.setCell ⟨go31, (x13_5 : Int).toNat, none⟩ (.int .i64 (wrap64 ((rd x7_4 x13_5) + 1))))) ?hg ?ho ?hn ?hr ?_; (case ho => rfl); (case hg => rfl); (case hn => rfl); (case hr => first | (go_simp; done) | (go_simp; rfl)); intro w36 hw; have hg : wr.grownBy w36 (some go31) := (by rw [hw]; exact HP35.2); have hp_ : Kd.R (Kd.int .i64) 2 w36 w.heap.size (fun k_ => some k_ ≠ (.slice Ao22 x8_4.length co22 : Value).ownBlock) (.slice (some ⟨go31, 0, none⟩) x7_4.length co34) y364 := (by rw [hw, Ny364.out]; exact HP35.1); clear HP35; have n0_ := Aside0.mk (hp_); have n1_ := Aside0.mk (Kd.R_after (v := (.slice (some ⟨go31, 0, none⟩) x7_4.length co34)) (v1 := (.slice (some ⟨go31, 0, none⟩) x7_4.length co34)) (ok := (fun _ => True)) (by (with_reducible repeat (first | apply Kd.R_alloc | apply Kd.R_drewN | apply Kd.R_drew)); exact Kd.R_mono HO_8.out (fun _ hk => ⟨trivial, hk⟩)) hg (.inl rfl)); have n2_ := Aside0.mk ((by rw [hw]; exact below_set (HB.out) GB31.out : Below w.heap.size w w36)); clear HO_7; clear HO_8; clear HB; have HO_7 := n0_; have HO_8 := n1_; have HB := n2_; clear n0_ n1_ n2_; clear hg hw hp_; have p33 : 0 ≤ (x13_5 : Int) := of_decide_eq_true (by first | (with_reducible assumption) | assumption); have q33 : (x13_5 : Int) < ((x8_4.length : Int) : Int) := of_decide_eq_true (by first | (with_reducible assumption) | assumption); obtain ⟨go33, co33, eo33, gb33, gl33, cl33, HG33⟩ := Kd.R_form HO_8.out (by omega); (first | cases eo33 | (injection eo33 with ea_ en_ ec_; (first | subst ea_ | (injection ea_ with ea_; subst ea_)); subst ec_; clear en_)); have GB33 := Aside0.mk gb33; have GG33 := Aside0.mk HG33; clear gb33 gl33 HG33; obtain ⟨hx33_0, hf33_0⟩ := Kd.R_celln 0 HO_8.out (x13_5 : Int) p33 q33; replace p33 := eq_true p33; replace q33 := eq_true q33; have n_ := Aside0.mk (Kd.R_mono (ok' := (fun k_ => some k_ ≠ (.slice (some ⟨go31, 0, none⟩) x7_4.length co34 : Value).ownBlock)) HO_8.out (fun k_ hk => hk.2)); clear HO_8; have HO_8 := n_; clear n_; obtain ⟨hy37_, hz37_⟩ := Kd.R_celln 0 HO_8.out (x13_5 : Int) (of_decide_eq_true (by first | (with_reducible assumption) | assumption)) (of_decide_eq_true (by first | (with_reducible assumption) | assumption)); have HP37 := Kd.R_putg HO_8.out (x13_5 : Int) (-1)) | ((with_reducible refine gate_store (t := 2) (p := 90) rfl ?_); (try (rw [drewN_self w36]; generalize hq_ : World.drewN w36 _ = w36; have n0_ := Aside0.mk (Kd.R_at hq_ HO_7.out); have n1_ := Aside0.mk (Kd.R_at hq_ HO_8.out); have n2_ := Aside0.mk (below_at hq_ HB.out); clear hq_ HO_7 HO_8 HB; have HO_7 := n0_; have HO_8 := n1_; have HB := n2_; clear n0_ n1_ n2_; (try (have n_ := Aside0.mk (Kd.R_mono (ok' := (fun k_ => some k_ ≠ (.slice (some ⟨go31, 0, none⟩) x7_4.length co34 : Value).ownBlock)) HO_8.out (fun k_ hk => hk.2)); clear HO_8; have HO_8 := n_; clear n_)); (try (obtain ⟨hy37_, hz37_⟩ := Kd.R_celln 0 HO_8.out (x13_5 : Int) (of_decide_eq_true (by first | (with_reducible assumption) | assumption)) (of_decide_eq_true (by first | (with_reducible assumption) | assumption)))); (try (have HP37 := Kd.R_putg HO_8.out (x13_5 : Int) (-1))))); refine store_event (t := 2) (p := 90) (v := ?vo_w38) (w1 := (w36.setCell ⟨go33, (x13_5 : Int).toNat, none⟩ (.int .i64 (-1)))) ?hg ?ho ?hn ?hr ?_; (case ho => rfl); (case hg => rfl); (case hn => rfl); (case hr => first | (go_simp; done) | (go_simp; rfl)); intro w38 hw; have hg : w36.grownBy w38 (some go33) := (by rw [hw]; exact HP37.2); have hp_ : Kd.R (Kd.int .i64) 2 w38 w.heap.size (fun k_ => some k_ ≠ (.slice (some ⟨go31, 0, none⟩) x7_4.length co34 : Value).ownBlock) (.slice (some ⟨go33, 0, none⟩) x8_4.length co22) y365 := (by rw [hw, Ny365.out]; exact HP37.1); clear HP37; have n0_ := Aside0.mk (Kd.R_after (v := (.slice (some ⟨go33, 0, none⟩) x8_4.length co22)) (v1 := (.slice (some ⟨go33, 0, none⟩) x8_4.length co22)) (ok := (fun _ => True)) (by (with_reducible repeat (first | apply Kd.R_alloc | apply Kd.R_drewN | apply Kd.R_drew)); exact Kd.R_mono HO_7.out (fun _ hk => ⟨trivial, hk⟩)) hg (.inl rfl)); have n1_ := Aside0.mk (hp_); have n2_ := Aside0.mk ((by rw [hw]; exact below_set (HB.out) GB33.out : Below w.heap.size w w38)); clear HO_7; clear HO_8; clear HB; have HO_7 := n0_; have HO_8 := n1_; have HB := n2_; clear n0_ n1_ n2_; clear hg hw hp_)); try go_wp2_with (first | ((with_reducible refine gate_store (t := 2) (p := 87) rfl ?_); (try (rw [drewN_self wr]; generalize hq_ : World.drewN wr _ = wr; have n0_ := Aside0.mk (Kd.R_at hq_ HO_7.out); have n1_ := Aside0.mk (Kd.R_at hq_ HO_8.out); have n2_ := Aside0.mk (below_at hq_ HB.out); clear hq_ HO_7 HO_8 HB; have HO_7 := n0_; have HO_8 := n1_; have HB := n2_; clear n0_ n1_ n2_; (try (have HP35 := Kd.R_putg HO_7.out (x13_5 : Int) (wrap64 ((rd x7_4 x13_5) + 1)))))); refine store_event (t := 2) (p := 87) (v := ?vo_w36) (w1 := (wr.setCell ⟨go31, (x13_5 : Int).toNat, none⟩ (.int .i64 (wrap64 ((rd x7_4 x13_5) + 1))))) ?hg ?ho ?hn ?hr ?_; (case ho => rfl); (case hg => rfl); (case hn => rfl); (case hr => first | (go_simp; done) | (go_simp; rfl)); intro w36 hw; have hg : wr.grownBy w36 (some go31) := (by rw [hw]; exact HP35.2); have hp_ : Kd.R (Kd.int .i64) 2 w36 w.heap.size (fun k_ => some k_ ≠ (.slice Ao22 x8_4.length co22 : Value).ownBlock) (.slice (some ⟨go31, 0, none⟩) x7_4.length co34) y364 := (by rw [hw, Ny364.out]; exact HP35.1); clear HP35; have n0_ := Aside0.mk (hp_); have n1_ := Aside0.mk (Kd.R_after (v := (.slice (some ⟨go31, 0, none⟩) x7_4.length co34)) (v1 := (.slice (some ⟨go31, 0, none⟩) x7_4.length co34)) (ok := (fun _ => True)) (by (with_reducible repeat (first | apply Kd.R_alloc | apply Kd.R_drewN | apply Kd.R_drew)); exact Kd.R_mono HO_8.out (fun _ hk => ⟨trivial, hk⟩)) hg (.inl rfl)); have n2_ := Aside0.mk ((by rw [hw]; exact below_set (HB.out) GB31.out : Below w.heap.size w w36)); clear HO_7; clear HO_8; clear HB; have HO_7 := n0_; have HO_8 := n1_; have HB := n2_; clear n0_ n1_ n2_; clear hg hw hp_; have p33 : 0 ≤ (x13_5 : Int) := of_decide_eq_true (by first | (with_reducible assumption) | assumption); have q33 : (x13_5 : Int) < ((x8_4.length : Int) : Int) := of_decide_eq_true (by first | (with_reducible assumption) | assumption); obtain ⟨go33, co33, eo33, gb33, gl33, cl33, HG33⟩ := Kd.R_form HO_8.out (by omega); (first | cases eo33 | (injection eo33 with ea_ en_ ec_; (first | subst ea_ | (injection ea_ with ea_; subst ea_)); subst ec_; clear en_)); have GB33 := Aside0.mk gb33; have GG33 := Aside0.mk HG33; clear gb33 gl33 HG33; obtain ⟨hx33_0, hf33_0⟩ := Kd.R_celln 0 HO_8.out (x13_5 : Int) p33 q33; replace p33 := eq_true p33; replace q33 := eq_true q33; have n_ := Aside0.mk (Kd.R_mono (ok' := (fun k_ => some k_ ≠ (.slice (some ⟨go31, 0, none⟩) x7_4.length co34 : Value).ownBlock)) HO_8.out (fun k_ hk => hk.2)); clear HO_8; have HO_8 := n_; clear n_; obtain ⟨hy37_, hz37_⟩ := Kd.R_celln 0 HO_8.out (x13_5 : Int) (of_decide_eq_true (by first | (with_reducible assumption) | assumption)) (of_decide_eq_true (by first | (with_reducible assumption) | assumption)); have HP37 := Kd.R_putg HO_8.out (x13_5 : Int) (-1)) | ((with_reducible refine gate_store (t := 2) (p := 90) rfl ?_); (try (rw [drewN_self w36]; generalize hq_ : World.drewN w36 _ = w36; have n0_ := Aside0.mk (Kd.R_at hq_ HO_7.out); have n1_ := Aside0.mk (Kd.R_at hq_ HO_8.out); have n2_ := Aside0.mk (below_at hq_ HB.out); clear hq_ HO_7 HO_8 HB; have HO_7 := n0_; have HO_8 := n1_; have HB := n2_; clear n0_ n1_ n2_; (try (have n_ := Aside0.mk (Kd.R_mono (ok' := (fun k_ => some k_ ≠ (.slice (some ⟨go31, 0, none⟩) x7_4.length co34 : Value).ownBlock)) HO_8.out (fun k_ hk => hk.2)); clear HO_8; have HO_8 := n_; clear n_)); (try (obtain ⟨hy37_, hz37_⟩ := Kd.R_celln 0 HO_8.out (x13_5 : Int) (of_decide_eq_true (by first | (with_reducible assumption) | assumption)) (of_decide_eq_true (by first | (with_reducible assumption) | assumption)))); (try (have HP37 := Kd.R_putg HO_8.out (x13_5 : Int) (-1))))); refine store_event (t := 2) (p := 90) (v := ?vo_w38) (w1 := (w36.setCell ⟨go33, (x13_5 : Int).toNat, none⟩ (.int .i64 (-1)))) ?hg ?ho ?hn ?hr ?_; (case ho => rfl); (case hg => rfl); (case hn => rfl); (case hr => first | (go_simp; done) | (go_simp; rfl)); intro w38 hw; have hg : w36.grownBy w38 (some go33) := (by rw [hw]; exact HP37.2); have hp_ : Kd.R (Kd.int .i64) 2 w38 w.heap.size (fun k_ => some k_ ≠ (.slice (some ⟨go31, 0, none⟩) x7_4.length co34 : Value).ownBlock) (.slice (some ⟨go33, 0, none⟩) x8_4.length co22) y365 := (by rw [hw, Ny365.out]; exact HP37.1); clear HP37; have n0_ := Aside0.mk (Kd.R_after (v := (.slice (some ⟨go33, 0, none⟩) x8_4.length co22)) (v1 := (.slice (some ⟨go33, 0, none⟩) x8_4.length co22)) (ok := (fun _ => True)) (by (with_reducible repeat (first | apply Kd.R_alloc | apply Kd.R_drewN | apply Kd.R_drew)); exact Kd.R_mono HO_7.out (fun _ hk => ⟨trivial, hk⟩)) hg (.inl rfl)); have n1_ := Aside0.mk (hp_); have n2_ := Aside0.mk ((by rw [hw]; exact below_set (HB.out) GB33.out : Below w.heap.size w w38)); clear HO_7; clear HO_8; clear HB; have HO_7 := n0_; have HO_8 := n1_; have HB := n2_; clear n0_ n1_ n2_; clear hg hw hp_)))
                    go_roundg k5
                    case measure => have := HJ1.out; have := HK2.out; have := HK3.out; have := HK4.out; have := HK5.out; omega
                    case rel => exact ⟨(y364), (y365), (wrap64 (x9_4 - 1)), zT, H', ⟨by have := HJ1.out; have := HK2.out; have := HK3.out; have := HK4.out; have := HK5.out; omega⟩, ⟨by (with_reducible repeat (first | apply Kd.R_alloc | apply Kd.R_drewN | apply Kd.R_drew)); exact Kd.R_mono HO_7.out (fun _ hk => hk.2)⟩, ⟨by (with_reducible repeat (first | apply Kd.R_alloc | apply Kd.R_drewN | apply Kd.R_drew)); exact HO_8.out⟩, ⟨zB⟩⟩
                   ·rw [if_neg c32] at H
                    exact absurd H (by simp)
                  ·rw [if_neg c30] at H
                   exact absurd H (by simp)
                 ·rw [if_neg c29] at H
                  exact absurd H (by simp)
             ·rw [if_neg c21] at H
              have c21b0 : decide (0 < x9_4) = false := decide_eq_false c21
              clear c21
              simp only [Option.some.injEq, Prod.mk.injEq] at H
              obtain ⟨rfl, rfl⟩ := H
              go_wp2
              repeat (go_quiet (fail); try go_wp2)
              go_ret2
              exact ⟨_, zS, by (with_reducible repeat (first | apply Kd.R_alloc | apply Kd.R_drewN | apply Kd.R_drew)); exact Kd.R_mono HO_7.out (fun _ hk => trivial), zB⟩
end Go.Proofs.YthaajkpiknbdbaaDoor.QA
