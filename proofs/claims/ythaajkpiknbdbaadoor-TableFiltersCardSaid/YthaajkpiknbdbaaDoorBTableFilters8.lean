/- Joined by wip/tools/bundle.py out of: QAx20 QAx21 QAx22. -/
import Derived.Test.YthaajkpiknbdbaaDoorBTableFilters1
import Derived.Test.YthaajkpiknbdbaaDoorBTableFilters7
import Derived.Test.YthaajkpiknbdbaaDoorBTableFilters6
namespace Go.Proofs.YthaajkpiknbdbaaDoor.QA
open Go.Proofs.YthaajkpiknbdbaaDoor.T
open Go.RowKit Go.Proofs.YthaajkpiknbdbaaDoorW.PrintWords Go.Proofs.YthaajkpiknbdbaaDoorW.PrintLast Go.Proofs.YthaajkpiknbdbaaDoorW.PrintMore
attribute [local go_sem] ext_call max2_int min2_int max_two min_two max_three min_three max_four min_four   -- for this text's walks alone
set_option linter.unusedVariables false
set_option linter.unusedSimpArgs false
mutual
def smaltoref05_Keys.j0 : Nat → Int → Int → Bool → Option (Int)
 | 0, _, _, _ => none
 | k + 1, x0, x1, x14 => if x14 = true then (some 0) else (if x0 ≥ (wrap64 (2 * x1)) then (smaltoref05_Keys.j1 k x0 x1 true) else (smaltoref05_Keys.j1 k x0 x1 (decide (x0 ≤ (wrap64 ((-2) * x1))))))
def smaltoref05_Keys.j1 : Nat → Int → Int → Bool → Option (Int)
 | 0, _, _, _ => none
 | k + 1, x0, x1, x24 => if x24 = true then (some 0) else (if x0 < 0 then (smaltoref05_Keys.j2 k (wrap64 (-x0)) x1) else (smaltoref05_Keys.j2 k x0 x1))
def smaltoref05_Keys.j2 : Nat → Int → Int → Option (Int)
 | 0, _, _ => none
 | k + 1, x0, x1 => if x0 < x1 then ((smaltoref02_MulDiv.f k (wrap64 ((wrap64 ((wrap64 (3 * (wrap64 ((wrap64 (x0 * x0)) * x0)))) - (wrap64 ((wrap64 (5 * (wrap64 (x0 * x0)))) * x1)))) + (wrap64 (2 * (wrap64 ((wrap64 (x1 * x1)) * x1)))))) 1073741824 (wrap64 (2 * (wrap64 ((wrap64 (x1 * x1)) * x1))))).bind fun t274 => (some t274)) else ((smaltoref02_MulDiv.f k (wrap64 ((wrap64 ((wrap64 ((wrap64 ((wrap64 (5 * (wrap64 (x0 * x0)))) * x1)) - (wrap64 ((wrap64 (x0 * x0)) * x0)))) - (wrap64 ((wrap64 (8 * x0)) * (wrap64 (x1 * x1)))))) + (wrap64 (4 * (wrap64 ((wrap64 (x1 * x1)) * x1)))))) 1073741824 (wrap64 (2 * (wrap64 ((wrap64 (x1 * x1)) * x1))))).bind fun t275 => (some t275))
end
def smaltoref05_Keys.f (k : Nat) (a0 : Int) (a1 : Int) : Option (Int) := if a1 < 1 then (smaltoref05_Keys.j0 k a0 a1 true) else (smaltoref05_Keys.j0 k a0 a1 (decide (a1 > 262144)))
theorem smaltoref05_Keys.mono_l : ∀ k, (∀ y0 y1 y2, LeO (smaltoref05_Keys.j0 k y0 y1 y2) (smaltoref05_Keys.j0 (k + 1) y0 y1 y2)) ∧ (∀ y0 y1 y2, LeO (smaltoref05_Keys.j1 k y0 y1 y2) (smaltoref05_Keys.j1 (k + 1) y0 y1 y2)) ∧ (∀ y0 y1, LeO (smaltoref05_Keys.j2 k y0 y1) (smaltoref05_Keys.j2 (k + 1) y0 y1))
 | 0 => ⟨fun _ _ _ r h => by simp [smaltoref05_Keys.j0] at h, fun _ _ _ r h => by simp [smaltoref05_Keys.j1] at h, fun _ _ r h => by simp [smaltoref05_Keys.j2] at h⟩
 | k + 1 => by
  obtain ⟨ih0, ih1, ih2⟩ := smaltoref05_Keys.mono_l k
  refine ⟨?_, ?_, ?_⟩
  ·intro y0 y1 y2
   unfold smaltoref05_Keys.j0
   repeat' (with_reducible first | exact ih0 _ _ _ | exact ih1 _ _ _ | exact ih2 _ _ | exact smaltoref02_MulDiv.mono _ _ _ _ | exact zM | refine LeO.ite ?_ ?_ | refine LeO.bind ?_ (fun _ => ?_))
  ·intro y0 y1 y2
   unfold smaltoref05_Keys.j1
   repeat' (with_reducible first | exact ih0 _ _ _ | exact ih1 _ _ _ | exact ih2 _ _ | exact smaltoref02_MulDiv.mono _ _ _ _ | exact zM | refine LeO.ite ?_ ?_ | refine LeO.bind ?_ (fun _ => ?_))
  ·intro y0 y1
   unfold smaltoref05_Keys.j2
   repeat' (with_reducible first | exact ih0 _ _ _ | exact ih1 _ _ _ | exact ih2 _ _ | exact smaltoref02_MulDiv.mono _ _ _ _ | exact zM | refine LeO.ite ?_ ?_ | refine LeO.bind ?_ (fun _ => ?_))
theorem smaltoref05_Keys.mono : ∀ a0 a1 k, LeO (smaltoref05_Keys.f k a0 a1) (smaltoref05_Keys.f (k + 1) a0 a1) := by
 intro a0 a1 k
 obtain ⟨ih0, ih1, ih2⟩ := smaltoref05_Keys.mono_l k
 unfold smaltoref05_Keys.f
 repeat' (with_reducible first | exact ih0 _ _ _ | exact ih1 _ _ _ | exact ih2 _ _ | exact smaltoref02_MulDiv.mono _ _ _ _ | exact zM | refine LeO.ite ?_ ?_ | refine LeO.bind ?_ (fun _ => ?_))
set_option maxHeartbeats 8000000 in
set_option maxRecDepth 100000 in
theorem smaltoref05_Keys.calls (k : Nat) (a0 : Int) (a1 : Int) (r : Int) (w : World) (h : smaltoref05_Keys.f k a0 a1 = some r) :
  Calls Tryd.prog 69 #[.int .i64 a0, .int .i64 a1] w fun e w' => e = .returned (.int .i64 r) ∧ Below w.heap.size w w' := by
 have HB := Aside0.mk (Below.refl w.heap.size w)
 have H : (if a1 < 1 then (smaltoref05_Keys.j0 k a0 a1 true) else (smaltoref05_Keys.j0 k a0 a1 (decide (a1 > 262144)))) = some r := h
 clear h
 have HC3 := Aside0.mk H
 clear H
 go_enter Tryd.func69, Tryd.ntmps69
 go_upto_region 1 with (fail)
 go_cut [14] (fun v14 wc => ∃ (kq : Nat) (x14_2 : Bool), v14 = .bool x14_2 ∧ Aside0 (smaltoref05_Keys.j0 kq a0 a1 x14_2 = some r) ∧ Aside0 (kq ≤ k) ∧ Aside0 (Below w.heap.size w wc))
 case first =>
  have H := HC3.out
  clear HC3
  by_cases c4 : a1 < 1
  ·rw [if_pos c4] at H
   have c4b0 : decide (a1 < 1) = true := decide_eq_true c4
   clear c4
   (first | rw [c4b0] | (simp only [i64_w, i32_w]; rw [c4b0]) | skip)
   have H' := Aside0.mk H
   clear H
   go_wp2
   go_meet
   case rel => exact ⟨_, (true), zT, H', ⟨by first | omega | exact Nat.le_refl _⟩, ⟨zB⟩⟩
  ·rw [if_neg c4] at H
   have c4b0 : decide (a1 < 1) = false := decide_eq_false c4
   clear c4
   (first | rw [c4b0] | (simp only [i64_w, i32_w]; rw [c4b0]) | skip)
   have H' := Aside0.mk H
   clear H
   go_wp2
   go_meet
   case rel => exact ⟨_, (decide (a1 > 262144)), zT, H', ⟨by first | omega | exact Nat.le_refl _⟩, ⟨zB⟩⟩
 case rest =>
  clear HC3
  try clear p2
  try clear c4
  try clear c4b0
  obtain ⟨kq, x14_2, rfl, HA, HJ2, HB⟩ := hcut
  cases kq with
  | zero => exact absurd HA.out (by simp [smaltoref05_Keys.j0])
  | succ kj2 =>
   have H := HA.out
   clear HA
   simp only [smaltoref05_Keys.j0] at H
   by_cases c5 : x14_2 = true
   ·subst c5
    have H1 := H; rw [if_pos rfl] at H1; try dsimp only at H1
    clear H
    have H := H1
    clear H1
    obtain rfl := Option.some.inj H
    go_wp2
    go_ret
    exact ⟨zS, zB⟩
   ·replace c5 := Bool.eq_false_iff.mpr c5
    subst c5
    have H1 := H; rw [if_neg (show ¬ (false = true) by decide)] at H1; try dsimp only at H1
    clear H
    have H := H1
    clear H1
    have HC6 := Aside0.mk H
    clear H
    go_upto_region 3 with (fail)
    go_cut [24] (fun v24 wc => ∃ (kq : Nat) (x24_5 : Bool), v24 = .bool x24_5 ∧ Aside0 (smaltoref05_Keys.j1 kq a0 a1 x24_5 = some r) ∧ Aside0 (kq ≤ kj2) ∧ Aside0 (Below w.heap.size w wc))
    case first =>
     have H := HC6.out
     clear HC6
     by_cases c7 : a0 ≥ (wrap64 (2 * a1))
     ·rw [if_pos c7] at H
      have c7b0 : decide ((wrap64 (2 * a1)) ≤ a0) = true := decide_eq_true c7
      clear c7
      (first | rw [c7b0] | (simp only [i64_w, i32_w]; rw [c7b0]) | skip)
      have H' := Aside0.mk H
      clear H
      go_wp2
      go_meet
      case rel => exact ⟨_, (true), zT, H', ⟨by have := HJ2.out; first | omega | exact Nat.le_refl _⟩, ⟨zB⟩⟩
     ·rw [if_neg c7] at H
      have c7b0 : decide ((wrap64 (2 * a1)) ≤ a0) = false := decide_eq_false c7
      clear c7
      (first | rw [c7b0] | (simp only [i64_w, i32_w]; rw [c7b0]) | skip)
      have H' := Aside0.mk H
      clear H
      go_wp2
      go_meet
      case rel => exact ⟨_, (decide (a0 ≤ (wrap64 ((-2) * a1)))), zT, H', ⟨by have := HJ2.out; first | omega | exact Nat.le_refl _⟩, ⟨zB⟩⟩
    case rest =>
     clear HC6
     try clear p2
     try clear c4
     try clear c4b0
     try clear c5
     try clear c6
     try clear p6
     try clear c7
     try clear c7b0
     try clear p2
     obtain ⟨kq, x24_5, rfl, HA, HJ5, HB⟩ := hcut
     cases kq with
     | zero => exact absurd HA.out (by simp [smaltoref05_Keys.j1])
     | succ kj5 =>
      have H := HA.out
      clear HA
      simp only [smaltoref05_Keys.j1] at H
      by_cases c8 : x24_5 = true
      ·subst c8
       have H1 := H; rw [if_pos rfl] at H1; try dsimp only at H1
       clear H
       have H := H1
       clear H1
       obtain rfl := Option.some.inj H
       go_wp2
       go_ret
       exact ⟨zS, zB⟩
      ·replace c8 := Bool.eq_false_iff.mpr c8
       subst c8
       have H1 := H; rw [if_neg (show ¬ (false = true) by decide)] at H1; try dsimp only at H1
       clear H
       have H := H1
       clear H1
       have HC9 := Aside0.mk H
       clear H
       go_upto_if 26 with (fail)
       go_cut [0] (fun v0 wc => ∃ (kq : Nat) (x0_8 : Int), v0 = .int .i64 x0_8 ∧ Aside0 (smaltoref05_Keys.j2 kq x0_8 a1 = some r) ∧ Aside0 (kq ≤ kj5) ∧ Aside0 (Below w.heap.size w wc))
       case first =>
        have H := HC9.out
        clear HC9
        by_cases c10 : a0 < 0
        ·rw [if_pos c10] at H
         have c10b0 : decide (a0 < 0) = true := decide_eq_true c10
         clear c10
         (first | rw [c10b0] | (simp only [i64_w, i32_w]; rw [c10b0]) | skip)
         have H' := Aside0.mk H
         clear H
         go_wp2
         go_meet
         case rel => exact ⟨_, (wrap64 (-a0)), zT, H', ⟨by have := HJ2.out; have := HJ5.out; first | omega | exact Nat.le_refl _⟩, ⟨zB⟩⟩
        ·rw [if_neg c10] at H
         have c10b0 : decide (a0 < 0) = false := decide_eq_false c10
         clear c10
         (first | rw [c10b0] | (simp only [i64_w, i32_w]; rw [c10b0]) | skip)
         have H' := Aside0.mk H
         clear H
         go_wp2
         go_meet
         case rel => exact ⟨_, (a0), zT, H', ⟨by have := HJ2.out; have := HJ5.out; first | omega | exact Nat.le_refl _⟩, ⟨zB⟩⟩
       case rest =>
        clear HC9
        try clear c1
        try clear p2
        try clear c4
        try clear c4b0
        try clear c5
        try clear c6
        try clear p6
        try clear c7
        try clear c7b0
        try clear c8
        try clear c10
        try clear c10b0
        try clear p2
        try clear p6
        obtain ⟨kq, x0_8, rfl, HA, HJ8, HB⟩ := hcut
        cases kq with
        | zero => exact absurd HA.out (by simp [smaltoref05_Keys.j2])
        | succ kj8 =>
         have H := HA.out
         clear HA
         simp only [smaltoref05_Keys.j2] at H
         by_cases c11 : x0_8 < a1
         ·rw [if_pos c11] at H
          have c11b0 : decide (x0_8 < a1) = true := decide_eq_true c11
          clear c11
          replace H := Option.bind_eq_some_iff.mp H
          obtain ⟨t274, A120, H⟩ := H
          try dsimp only at H
          have A12 := Aside0.mk A120
          clear A120
          obtain rfl := Option.some.inj H
          go_wp2_with (first | ((with_reducible refine gate_callee (f := 68) rfl ?_); refine goesL_ (some 56) rfl rfl Tryd.func68 (by kernel_rfl) rfl #[.int .i64 (wrap64 ((wrap64 ((wrap64 (3 * (wrap64 ((wrap64 (x0_8 * x0_8)) * x0_8)))) - (wrap64 ((wrap64 (5 * (wrap64 (x0_8 * x0_8)))) * a1)))) + (wrap64 (2 * (wrap64 ((wrap64 (a1 * a1)) * a1)))))), .int .i64 1073741824, .int .i64 (wrap64 (2 * (wrap64 ((wrap64 (a1 * a1)) * a1))))] rfl zL ?_; (with_reducible refine (smaltoref02_MulDiv.calls kj8 (wrap64 ((wrap64 ((wrap64 (3 * (wrap64 ((wrap64 (x0_8 * x0_8)) * x0_8)))) - (wrap64 ((wrap64 (5 * (wrap64 (x0_8 * x0_8)))) * a1)))) + (wrap64 (2 * (wrap64 ((wrap64 (a1 * a1)) * a1)))))) 1073741824 (wrap64 (2 * (wrap64 ((wrap64 (a1 * a1)) * a1)))) t274 _ A12.out).mono ?_); rintro e w13 ⟨rfl, hb⟩; refine ⟨_, rfl, ?_⟩; have n0_ := Aside0.mk (below_step zB hb); clear HB; have HB := n0_; clear n0_; (try clear hb); (try clear hb2); (try clear hk); (try clear hi)))
          go_ret
          exact ⟨zS, zB⟩
         ·rw [if_neg c11] at H
          have c11b0 : decide (x0_8 < a1) = false := decide_eq_false c11
          clear c11
          replace H := Option.bind_eq_some_iff.mp H
          obtain ⟨t275, A140, H⟩ := H
          try dsimp only at H
          have A14 := Aside0.mk A140
          clear A140
          obtain rfl := Option.some.inj H
          go_wp2_with (first | ((with_reducible refine gate_callee (f := 68) rfl ?_); refine goesL_ (some 73) rfl rfl Tryd.func68 (by kernel_rfl) rfl #[.int .i64 (wrap64 ((wrap64 ((wrap64 ((wrap64 ((wrap64 (5 * (wrap64 (x0_8 * x0_8)))) * a1)) - (wrap64 ((wrap64 (x0_8 * x0_8)) * x0_8)))) - (wrap64 ((wrap64 (8 * x0_8)) * (wrap64 (a1 * a1)))))) + (wrap64 (4 * (wrap64 ((wrap64 (a1 * a1)) * a1)))))), .int .i64 1073741824, .int .i64 (wrap64 (2 * (wrap64 ((wrap64 (a1 * a1)) * a1))))] rfl zL ?_; (with_reducible refine (smaltoref02_MulDiv.calls kj8 (wrap64 ((wrap64 ((wrap64 ((wrap64 ((wrap64 (5 * (wrap64 (x0_8 * x0_8)))) * a1)) - (wrap64 ((wrap64 (x0_8 * x0_8)) * x0_8)))) - (wrap64 ((wrap64 (8 * x0_8)) * (wrap64 (a1 * a1)))))) + (wrap64 (4 * (wrap64 ((wrap64 (a1 * a1)) * a1)))))) 1073741824 (wrap64 (2 * (wrap64 ((wrap64 (a1 * a1)) * a1)))) t275 _ A14.out).mono ?_); rintro e w15 ⟨rfl, hb⟩; refine ⟨_, rfl, ?_⟩; have n0_ := Aside0.mk (below_step zB hb); clear HB; have HB := n0_; clear n0_; (try clear hb); (try clear hb2); (try clear hk); (try clear hi)))
          go_ret
          exact ⟨zS, zB⟩
def smaltoref04_May.f (a0 : Int) (a1 : Int) : Option (Bool) := if a1 < 1 then (some false) else (if a1 > 1048576 then (some false) else (if a0 ≤ (wrap64 (4 * a1)) then (some (decide (a0 ≥ (wrap64 ((-4) * a1))))) else (some false)))
set_option maxHeartbeats 8000000 in
set_option maxRecDepth 100000 in
theorem smaltoref04_May.calls (a0 : Int) (a1 : Int) (r : Bool) (w : World) (h : smaltoref04_May.f a0 a1 = some r) :
  Calls Tryd.prog 93 #[.int .i64 a0, .int .i64 a1] w fun e w' => e = .returned (.bool r) ∧ Drawn0 w w' := by
 have H : (if a1 < 1 then (some false) else (if a1 > 1048576 then (some false) else (if a0 ≤ (wrap64 (4 * a1)) then (some (decide (a0 ≥ (wrap64 ((-4) * a1))))) else (some false)))) = some r := h
 clear h
 by_cases c3 : a1 < 1
 ·rw [if_pos c3] at H
  have c3b0 : decide (a1 < 1) = true := decide_eq_true c3
  clear c3
  obtain rfl := Option.some.inj H
  go_enter Tryd.func93, Tryd.ntmps93
  go_wp2
  go_ret
  exact ⟨zT, zW⟩
 ·rw [if_neg c3] at H
  have c3b0 : decide (a1 < 1) = false := decide_eq_false c3
  clear c3
  by_cases c4 : a1 > 1048576
  ·rw [if_pos c4] at H
   have c4b0 : decide (1048576 < a1) = true := decide_eq_true c4
   clear c4
   obtain rfl := Option.some.inj H
   go_enter Tryd.func93, Tryd.ntmps93
   go_wp2
   go_ret
   exact ⟨zT, zW⟩
  ·rw [if_neg c4] at H
   have c4b0 : decide (1048576 < a1) = false := decide_eq_false c4
   clear c4
   by_cases c5 : a0 ≤ (wrap64 (4 * a1))
   ·rw [if_pos c5] at H
    have c5b0 : decide (a0 ≤ (wrap64 (4 * a1))) = true := decide_eq_true c5
    clear c5
    obtain rfl := Option.some.inj H
    go_enter Tryd.func93, Tryd.ntmps93
    go_wp2
    go_ret
    exact ⟨zT, zW⟩
   ·rw [if_neg c5] at H
    have c5b0 : decide (a0 ≤ (wrap64 (4 * a1))) = false := decide_eq_false c5
    clear c5
    obtain rfl := Option.some.inj H
    go_enter Tryd.func93, Tryd.ntmps93
    go_wp2
    go_ret
    exact ⟨zT, zW⟩
end Go.Proofs.YthaajkpiknbdbaaDoor.QA

namespace Go.Proofs.YthaajkpiknbdbaaDoor.QA
open Go.Proofs.YthaajkpiknbdbaaDoor.T
open Go.RowKit Go.Proofs.YthaajkpiknbdbaaDoorW.PrintWords Go.Proofs.YthaajkpiknbdbaaDoorW.PrintLast Go.Proofs.YthaajkpiknbdbaaDoorW.PrintMore
attribute [local go_sem] ext_call max2_int min2_int max_two min_two max_three min_three max_four min_four   -- for this text's walks alone
set_option linter.unusedVariables false
set_option linter.unusedSimpArgs false
mutual
def smaltoref02_MulShift.j0 : Nat → Int → Int → Int → Option (Int)
 | 0, _, _, _ => none
 | k + 1, x0, x1, x2 => if x2 > 127 then (some 0) else ((smaltoref01_Size.f x0).bind fun t276 => ((smaltoref01_Size.f x1).bind fun t277 => ((smaltoref01_Times.f k t276 t277).bind fun bt278 => (if x2 = 0 then ((smaltoref01_Hold.f k bt278.1 bt278.2 ((decide (x0 < 0)) != (decide (x1 < 0)))).bind fun t281 => (some t281)) else (smaltoref02_MulShift.l0 k x2 ((decide (x0 < 0)) != (decide (x1 < 0))) 127 bt278.1 bt278.2 0 0)))))
def smaltoref02_MulShift.l0 : Nat → Int → Bool → Int → Int → Int → Int → Int → Option (Int)
 | 0, _, _, _, _, _, _, _ => none
 | k + 1, x2, x7, x10, x281000, x281001, x283000, x283001 => if x10 ≥ x2 then ((smaltoref01_Bit.f x281000 x281001 x10).bind fun t283 => ((smaltoref01_Twice.f x283000 x283001 t283).bind fun bt284 => (smaltoref02_MulShift.l0 k x2 x7 (wrap64 (x10 - 1)) x281000 x281001 bt284.1 bt284.2))) else (smaltoref02_MulShift.l1 k x2 x7 false (wrap64 (x2 - 1)) 0 x281000 x281001 x283000 x283001)
def smaltoref02_MulShift.l1 : Nat → Int → Bool → Bool → Int → Int → Int → Int → Int → Int → Option (Int)
 | 0, _, _, _, _, _, _, _, _, _ => none
 | k + 1, x2, x7, x11, x44, x45, x281000, x281001, x283000, x283001 => if x45 < x44 then (if x11 = true then (smaltoref02_MulShift.l1 k x2 x7 true x44 (wrap64 (x45 + 1)) x281000 x281001 x283000 x283001) else ((smaltoref01_Bit.f x281000 x281001 x45).bind fun t286 => (smaltoref02_MulShift.l1 k x2 x7 (t286 == 1) x44 (wrap64 (x45 + 1)) x281000 x281001 x283000 x283001))) else ((smaltoref01_Bit.f x281000 x281001 (wrap64 (x2 - 1))).bind fun t287 => (if t287 = 1 then (if x11 = true then (smaltoref02_MulShift.j3 k x7 true x283000 x283001) else (smaltoref02_MulShift.j3 k x7 (!x7) x283000 x283001)) else (smaltoref02_MulShift.j3 k x7 false x283000 x283001)))
def smaltoref02_MulShift.j3 : Nat → Bool → Bool → Int → Int → Option (Int)
 | 0, _, _, _, _ => none
 | k + 1, x7, x67, x283000, x283001 => if x67 = true then ((smaltoref01_Plus.f x283000 x283001 0 1).bind fun bt288 => ((smaltoref01_Hold.f k bt288.1 bt288.2 x7).bind fun t290 => (some t290))) else ((smaltoref01_Hold.f k x283000 x283001 x7).bind fun t291 => (some t291))
end
def smaltoref02_MulShift.f (k : Nat) (a0 : Int) (a1 : Int) (a2 : Int) : Option (Int) := if a2 < 0 then (smaltoref02_MulShift.j0 k a0 a1 0) else (smaltoref02_MulShift.j0 k a0 a1 a2)
theorem smaltoref02_MulShift.mono_l : ∀ k, (∀ y0 y1 y2, LeO (smaltoref02_MulShift.j0 k y0 y1 y2) (smaltoref02_MulShift.j0 (k + 1) y0 y1 y2)) ∧ (∀ y0 y1 y2 y3 y4 y5 y6, LeO (smaltoref02_MulShift.l0 k y0 y1 y2 y3 y4 y5 y6) (smaltoref02_MulShift.l0 (k + 1) y0 y1 y2 y3 y4 y5 y6)) ∧ (∀ y0 y1 y2 y3 y4 y5 y6 y7 y8, LeO (smaltoref02_MulShift.l1 k y0 y1 y2 y3 y4 y5 y6 y7 y8) (smaltoref02_MulShift.l1 (k + 1) y0 y1 y2 y3 y4 y5 y6 y7 y8)) ∧ (∀ y0 y1 y2 y3, LeO (smaltoref02_MulShift.j3 k y0 y1 y2 y3) (smaltoref02_MulShift.j3 (k + 1) y0 y1 y2 y3))
 | 0 => ⟨fun _ _ _ r h => by simp [smaltoref02_MulShift.j0] at h, fun _ _ _ _ _ _ _ r h => by simp [smaltoref02_MulShift.l0] at h, fun _ _ _ _ _ _ _ _ _ r h => by simp [smaltoref02_MulShift.l1] at h, fun _ _ _ _ r h => by simp [smaltoref02_MulShift.j3] at h⟩
 | k + 1 => by
  obtain ⟨ih0, ih1, ih2, ih3⟩ := smaltoref02_MulShift.mono_l k
  refine ⟨?_, ?_, ?_, ?_⟩
  ·intro y0 y1 y2
   unfold smaltoref02_MulShift.j0
   repeat' (with_reducible first | exact ih0 _ _ _ | exact ih1 _ _ _ _ _ _ _ | exact ih2 _ _ _ _ _ _ _ _ _ | exact ih3 _ _ _ _ | exact smaltoref01_Hold.mono _ _ _ _ | exact smaltoref01_Times.mono _ _ _ | exact zM | refine LeO.ite ?_ ?_ | refine LeO.bind ?_ (fun _ => ?_))
  ·intro y0 y1 y2 y3 y4 y5 y6
   unfold smaltoref02_MulShift.l0
   repeat' (with_reducible first | exact ih0 _ _ _ | exact ih1 _ _ _ _ _ _ _ | exact ih2 _ _ _ _ _ _ _ _ _ | exact ih3 _ _ _ _ | exact smaltoref01_Hold.mono _ _ _ _ | exact smaltoref01_Times.mono _ _ _ | exact zM | refine LeO.ite ?_ ?_ | refine LeO.bind ?_ (fun _ => ?_))
  ·intro y0 y1 y2 y3 y4 y5 y6 y7 y8
   unfold smaltoref02_MulShift.l1
   repeat' (with_reducible first | exact ih0 _ _ _ | exact ih1 _ _ _ _ _ _ _ | exact ih2 _ _ _ _ _ _ _ _ _ | exact ih3 _ _ _ _ | exact smaltoref01_Hold.mono _ _ _ _ | exact smaltoref01_Times.mono _ _ _ | exact zM | refine LeO.ite ?_ ?_ | refine LeO.bind ?_ (fun _ => ?_))
  ·intro y0 y1 y2 y3
   unfold smaltoref02_MulShift.j3
   repeat' (with_reducible first | exact ih0 _ _ _ | exact ih1 _ _ _ _ _ _ _ | exact ih2 _ _ _ _ _ _ _ _ _ | exact ih3 _ _ _ _ | exact smaltoref01_Hold.mono _ _ _ _ | exact smaltoref01_Times.mono _ _ _ | exact zM | refine LeO.ite ?_ ?_ | refine LeO.bind ?_ (fun _ => ?_))
theorem smaltoref02_MulShift.mono : ∀ a0 a1 a2 k, LeO (smaltoref02_MulShift.f k a0 a1 a2) (smaltoref02_MulShift.f (k + 1) a0 a1 a2) := by
 intro a0 a1 a2 k
 obtain ⟨ih0, ih1, ih2, ih3⟩ := smaltoref02_MulShift.mono_l k
 unfold smaltoref02_MulShift.f
 repeat' (with_reducible first | exact ih0 _ _ _ | exact ih1 _ _ _ _ _ _ _ | exact ih2 _ _ _ _ _ _ _ _ _ | exact ih3 _ _ _ _ | exact smaltoref01_Hold.mono _ _ _ _ | exact smaltoref01_Times.mono _ _ _ | exact zM | refine LeO.ite ?_ ?_ | refine LeO.bind ?_ (fun _ => ?_))
set_option maxHeartbeats 8000000 in
set_option maxRecDepth 100000 in
theorem smaltoref02_MulShift.calls (k : Nat) (a0 : Int) (a1 : Int) (a2 : Int) (r : Int) (w : World) (h : smaltoref02_MulShift.f k a0 a1 a2 = some r) :
  Calls Tryd.prog 94 #[.int .i64 a0, .int .i64 a1, .int .i64 a2] w fun e w' => e = .returned (.int .i64 r) ∧ Below w.heap.size w w' := by
 have hu94 := Tryd.underlying94
 have HB := Aside0.mk (Below.refl w.heap.size w)
 have H : (if a2 < 0 then (smaltoref02_MulShift.j0 k a0 a1 0) else (smaltoref02_MulShift.j0 k a0 a1 a2)) = some r := h
 clear h
 have HC4 := Aside0.mk H
 clear H
 go_enter Tryd.func94, Tryd.ntmps94
 go_upto_if 14 with (fail)
 go_cut [2] (fun v2 wc => ∃ (kq : Nat) (x2_3 : Int), v2 = .int .i64 x2_3 ∧ Aside0 (smaltoref02_MulShift.j0 kq a0 a1 x2_3 = some r) ∧ Aside0 (kq ≤ k) ∧ Aside0 (Below w.heap.size w wc))
 case first =>
  have H := HC4.out
  clear HC4
  by_cases c5 : a2 < 0
  ·rw [if_pos c5] at H
   have c5b0 : decide (a2 < 0) = true := decide_eq_true c5
   clear c5
   (first | rw [c5b0] | (simp only [i64_w, i32_w]; rw [c5b0]) | skip)
   have H' := Aside0.mk H
   clear H
   go_wp2
   go_meet
   case rel => exact ⟨_, (0), zT, H', ⟨by first | omega | exact Nat.le_refl _⟩, ⟨zB⟩⟩
  ·rw [if_neg c5] at H
   have c5b0 : decide (a2 < 0) = false := decide_eq_false c5
   clear c5
   (first | rw [c5b0] | (simp only [i64_w, i32_w]; rw [c5b0]) | skip)
   have H' := Aside0.mk H
   clear H
   go_wp2
   go_meet
   case rel => exact ⟨_, (a2), zT, H', ⟨by first | omega | exact Nat.le_refl _⟩, ⟨zB⟩⟩
 case rest =>
  clear HC4
  try clear p2
  try clear c5
  try clear c5b0
  obtain ⟨kq, x2_3, rfl, HA, HJ3, HB⟩ := hcut
  cases kq with
  | zero => exact absurd HA.out (by simp [smaltoref02_MulShift.j0])
  | succ kj3 =>
   have H := HA.out
   clear HA
   simp only [smaltoref02_MulShift.j0] at H
   by_cases c6 : x2_3 > 127
   ·rw [if_pos c6] at H
    have c6b0 : decide (127 < x2_3) = true := decide_eq_true c6
    clear c6
    obtain rfl := Option.some.inj H
    go_wp2
    go_ret
    exact ⟨zS, zB⟩
   ·rw [if_neg c6] at H
    have c6b0 : decide (127 < x2_3) = false := decide_eq_false c6
    clear c6
    replace H := Option.bind_eq_some_iff.mp H
    obtain ⟨t276, A70, H⟩ := H
    try dsimp only at H
    have A7 := Aside0.mk A70
    clear A70
    replace H := Option.bind_eq_some_iff.mp H
    obtain ⟨t277, A80, H⟩ := H
    try dsimp only at H
    have A8 := Aside0.mk A80
    clear A80
    replace H := Option.bind_eq_some_iff.mp H
    obtain ⟨⟨t278, t279⟩, A90, H⟩ := H
    try dsimp only at H
    have A9 := Aside0.mk A90
    clear A90
    by_cases c10 : x2_3 = 0
    ·rw [if_pos c10] at H
     have c10b0 : (x2_3 == 0) = true := beq_iff_eq.mpr c10
     have c10b1 : (x2_3 != 0) = false := bne_eq_false_iff_eq.mpr c10
     clear c10
     replace H := Option.bind_eq_some_iff.mp H
     obtain ⟨t281, A110, H⟩ := H
     try dsimp only at H
     have A11 := Aside0.mk A110
     clear A110
     obtain rfl := Option.some.inj H
     go_wp2_with (first | ((with_reducible refine gate_callee (f := 72) rfl ?_); refine goesL_ (some 23) rfl rfl Tryd.func72 (by kernel_rfl) rfl #[.int .i64 a0] rfl zL ?_; (with_reducible refine (smaltoref01_Size.calls a0 t276 _ A7.out).mono ?_); rintro e w' ⟨rfl, ⟨nd, rfl⟩⟩; refine ⟨_, rfl, ?_⟩; (try (rw [drewN_self wc]; generalize hq_ : World.drewN wc _ = wc; have n0_ : Aside0 (Below w.heap.size w wc) := ⟨by rw [← hq_]; exact zB⟩; clear HB hq_; have HB := n0_; clear n0_))) | ((with_reducible refine gate_callee (f := 72) rfl ?_); refine goesL_ (some 25) rfl rfl Tryd.func72 (by kernel_rfl) rfl #[.int .i64 a1] rfl zL ?_; (with_reducible refine (smaltoref01_Size.calls a1 t277 _ A8.out).mono ?_); rintro e w' ⟨rfl, ⟨nd, rfl⟩⟩; refine ⟨_, rfl, ?_⟩; (try (rw [drewN_self wc]; generalize hq_ : World.drewN wc _ = wc; have n0_ : Aside0 (Below w.heap.size w wc) := ⟨by rw [← hq_]; exact zB⟩; clear HB hq_; have HB := n0_; clear n0_))) | ((with_reducible refine gate_callee (f := 91) rfl ?_); refine goesL_ (some 26) rfl rfl Tryd.func91 (by kernel_rfl) rfl #[.int .u64 t276, .int .u64 t277] rfl zL ?_; (with_reducible refine (smaltoref01_Times.calls kj3 t276 t277 t278 t279 _ A9.out).mono ?_); rintro e w12 ⟨rfl, hb⟩; refine ⟨_, rfl, ?_⟩; have n0_ := Aside0.mk (below_step zB hb); clear HB; have HB := n0_; clear n0_; (try clear hb); (try clear hb2); (try clear hk); (try clear hi)) | ((with_reducible refine gate_dst (N := 8) rfl ?_); refine box_event ?hg (N := 8) ?hd (cs := #[.int .u64 0, .int .u64 0]) (t := 94) ?hr ?_; (case hd => rfl); (case hg => rfl); (case hr => first | (go_simp; done) | (go_simp; rfl)); intro gb280 hg w13 hbox hb; have n0_ := Aside0.mk (below_step zB hb); have n1_ := Aside0.mk (hbox); have n2_ := Aside0.mk ((by rw [hg]; exact (below_size zB) : w.heap.size ≤ gb280)); have n3_ := Aside0.mk ((by rw [hg]; exact (below_size zB) : w.heap.size ≤ gb280)); clear HB; have HB := n0_; have BK280 := n1_; have GW280 := n2_; have GE280 := n3_; clear n0_ n1_ n2_ n3_; clear hb hbox hg; have hcz14_0 : w13.cell? ⟨gb280, 0, none⟩ = some (.int .u64 0) := (blk_cell BK280.out 0).trans rfl; have hcz14_1 : w13.cell? ⟨gb280, 1, none⟩ = some (.int .u64 0) := (blk_cell BK280.out 1).trans rfl; have hfz14_0 := blk_frozen BK280.out 0; have hfz14_1 := blk_frozen BK280.out 1) | ((with_reducible refine gate_callee (f := 74) rfl ?_); refine goesL_ (some 31) rfl rfl Tryd.func74 (by kernel_rfl) rfl #[.agg #[.int .u64 t278, .int .u64 t279], .bool ((decide (a0 < 0)) != (decide (a1 < 0)))] rfl zL ?_; (with_reducible refine (smaltoref01_Hold.calls kj3 t278 t279 ((decide (a0 < 0)) != (decide (a1 < 0))) t281 _ A11.out).mono ?_); rintro e w15 ⟨rfl, hb⟩; refine ⟨_, rfl, ?_⟩; have n0_ := Aside0.mk (blk_below (g := gb280) (o := .cells #[.int .u64 t278, .int .u64 t279] 94 (0, 0)) (by refine zD ?_; refine blk_put (cs := #[.int .u64 t278, .int .u64 0]) ?_ 1 _ rfl; refine zD ?_; refine blk_put (cs := #[.int .u64 0, .int .u64 0]) ?_ 0 _ rfl; refine zD ?_; exact BK280.out) hb); have n1_ := Aside0.mk (below_step zB hb); clear BK280; clear HB; have BK280 := n0_; have HB := n1_; clear n0_ n1_; (try clear hb); (try clear hb2); (try clear hk); (try clear hi)))
     go_ret
     exact ⟨zS, zB⟩
    ·rw [if_neg c10] at H
     have c10b0 : (x2_3 == 0) = false := beq_eq_false_iff_ne.mpr c10
     have c10b1 : (x2_3 != 0) = true := bne_iff_ne.mpr c10
     have H' := Aside0.mk H
     clear H
     go_wp2_with (first | ((with_reducible refine gate_callee (f := 72) rfl ?_); refine goesL_ (some 23) rfl rfl Tryd.func72 (by kernel_rfl) rfl #[.int .i64 a0] rfl zL ?_; (with_reducible refine (smaltoref01_Size.calls a0 t276 _ A7.out).mono ?_); rintro e w' ⟨rfl, ⟨nd, rfl⟩⟩; refine ⟨_, rfl, ?_⟩; (try (rw [drewN_self wc]; generalize hq_ : World.drewN wc _ = wc; have n0_ : Aside0 (Below w.heap.size w wc) := ⟨by rw [← hq_]; exact zB⟩; clear HB hq_; have HB := n0_; clear n0_))) | ((with_reducible refine gate_callee (f := 72) rfl ?_); refine goesL_ (some 25) rfl rfl Tryd.func72 (by kernel_rfl) rfl #[.int .i64 a1] rfl zL ?_; (with_reducible refine (smaltoref01_Size.calls a1 t277 _ A8.out).mono ?_); rintro e w' ⟨rfl, ⟨nd, rfl⟩⟩; refine ⟨_, rfl, ?_⟩; (try (rw [drewN_self wc]; generalize hq_ : World.drewN wc _ = wc; have n0_ : Aside0 (Below w.heap.size w wc) := ⟨by rw [← hq_]; exact zB⟩; clear HB hq_; have HB := n0_; clear n0_))) | ((with_reducible refine gate_callee (f := 91) rfl ?_); refine goesL_ (some 26) rfl rfl Tryd.func91 (by kernel_rfl) rfl #[.int .u64 t276, .int .u64 t277] rfl zL ?_; (with_reducible refine (smaltoref01_Times.calls kj3 t276 t277 t278 t279 _ A9.out).mono ?_); rintro e w16 ⟨rfl, hb⟩; refine ⟨_, rfl, ?_⟩; have n0_ := Aside0.mk (below_step zB hb); clear HB; have HB := n0_; clear n0_; (try clear hb); (try clear hb2); (try clear hk); (try clear hi)) | ((with_reducible refine gate_dst (N := 8) rfl ?_); refine box_event ?hg (N := 8) ?hd (cs := #[.int .u64 0, .int .u64 0]) (t := 94) ?hr ?_; (case hd => rfl); (case hg => rfl); (case hr => first | (go_simp; done) | (go_simp; rfl)); intro gb280 hg w17 hbox hb; have n0_ := Aside0.mk (below_step zB hb); have n1_ := Aside0.mk (hbox); have n2_ := Aside0.mk ((by rw [hg]; exact (below_size zB) : w.heap.size ≤ gb280)); have n3_ := Aside0.mk ((by rw [hg]; exact (below_size zB) : w.heap.size ≤ gb280)); clear HB; have HB := n0_; have BK280 := n1_; have GW280 := n2_; have GE280 := n3_; clear n0_ n1_ n2_ n3_; clear hb hbox hg; have hcz18_0 : w17.cell? ⟨gb280, 0, none⟩ = some (.int .u64 0) := (blk_cell BK280.out 0).trans rfl; have hcz18_1 : w17.cell? ⟨gb280, 1, none⟩ = some (.int .u64 0) := (blk_cell BK280.out 1).trans rfl; have hfz18_0 := blk_frozen BK280.out 0; have hfz18_1 := blk_frozen BK280.out 1) | ((with_reducible refine gate_dst (N := 9) rfl ?_); refine box_event ?hg (N := 9) ?hd (cs := #[.int .u64 0, .int .u64 0]) (t := 94) ?hr ?_; (case hd => rfl); (case hg => rfl); (case hr => first | (go_simp; done) | (go_simp; rfl)); intro gb282 hg w19 hbox hb; have n0_ := Aside0.mk (blk_below (g := gb280) (o := .cells #[.int .u64 t278, .int .u64 t279] 94 (0, 0)) (by refine zD ?_; refine blk_put (cs := #[.int .u64 t278, .int .u64 0]) ?_ 1 _ rfl; refine zD ?_; refine blk_put (cs := #[.int .u64 0, .int .u64 0]) ?_ 0 _ rfl; refine zD ?_; exact BK280.out) hb); have n1_ := Aside0.mk (below_step zB hb); have n2_ := Aside0.mk (hbox); have n3_ := Aside0.mk ((by rw [hg]; exact (below_size zB) : w.heap.size ≤ gb282)); have n4_ := Aside0.mk ((by rw [hg]; exact (below_size zB) : w.heap.size ≤ gb282)); have n5_ := Aside0.mk ((by rw [hg]; exact Nat.ne_of_lt (blk_lt (g := gb280) (o := .cells #[.int .u64 t278, .int .u64 t279] 94 (0, 0)) (by refine zD ?_; refine blk_put (cs := #[.int .u64 t278, .int .u64 0]) ?_ 1 _ rfl; refine zD ?_; refine blk_put (cs := #[.int .u64 0, .int .u64 0]) ?_ 0 _ rfl; refine zD ?_; exact BK280.out)) : gb280 ≠ gb282)); have n6_ := Aside0.mk ((by rw [hg]; exact Nat.ne_of_gt (blk_lt (g := gb280) (o := .cells #[.int .u64 t278, .int .u64 t279] 94 (0, 0)) (by refine zD ?_; refine blk_put (cs := #[.int .u64 t278, .int .u64 0]) ?_ 1 _ rfl; refine zD ?_; refine blk_put (cs := #[.int .u64 0, .int .u64 0]) ?_ 0 _ rfl; refine zD ?_; exact BK280.out)) : gb282 ≠ gb280)); clear BK280; clear HB; have BK280 := n0_; have HB := n1_; have BK282 := n2_; have GW282 := n3_; have GE282 := n4_; have NB280_282 := n5_; have NB282_280 := n6_; clear n0_ n1_ n2_ n3_ n4_ n5_ n6_; clear hb hbox hg; have hnb20 := NB282_280.out; have hnc20 := NB280_282.out; have hcz21_0 : w19.cell? ⟨gb282, 0, none⟩ = some (.int .u64 0) := (blk_cell BK282.out 0).trans rfl; have hcz21_1 : w19.cell? ⟨gb282, 1, none⟩ = some (.int .u64 0) := (blk_cell BK282.out 1).trans rfl; have hfz21_0 := blk_frozen BK282.out 0; have hfz21_1 := blk_frozen BK282.out 1))
     go_loopg [10] kj3 (fun kq v10 w' => ∃ (x10_2 : Int) (x283000_2 : Int) (x283001_2 : Int), v10 = .int .i64 x10_2 ∧ Aside0 (smaltoref02_MulShift.l0 kq x2_3 ((decide (a0 < 0)) != (decide (a1 < 0))) x10_2 t278 t279 x283000_2 x283001_2 = some r) ∧ Aside0 (kq ≤ kj3) ∧ Aside0 (w'.heap[gb280]? = some (.cells #[.int .u64 t278, .int .u64 t279] 94 (0, 0))) ∧ Aside0 (w'.heap[gb282]? = some (.cells #[.int .u64 x283000_2, .int .u64 x283001_2] 94 (0, 0))) ∧ Aside0 (Below w.heap.size w w'))
     case atStart => exact ⟨(127), (0), (0), zT, H', ⟨Nat.le_refl _⟩, ⟨zK BK280⟩, ⟨by refine zD ?_; refine blk_put (cs := #[.int .u64 0, .int .u64 0]) ?_ 1 _ rfl; refine zD ?_; refine blk_put (cs := #[.int .u64 0, .int .u64 0]) ?_ 0 _ rfl; refine zD ?_; exact BK282.out⟩, ⟨zB⟩⟩
     case round =>
      clear H'
      try clear c1
      try clear c2
      try clear p2
      try clear c5
      try clear c5b0
      try clear c6
      try clear c6b0
      try clear c7
      try clear c9
      try clear c10
      try clear c10b0
      try clear c10b1
      try clear c20
      try clear hcz14_0
      try clear hcz14_1
      try clear hcz18_0
      try clear hcz18_1
      try clear hcz21_0
      try clear hcz21_1
      try clear hfz14_0
      try clear hfz14_1
      try clear hfz18_0
      try clear hfz18_1
      try clear hfz21_0
      try clear hfz21_1
      try clear p2
      obtain ⟨x10_2, x283000_2, x283001_2, rfl, HA, HK2, BK280, BK282, HB⟩ := hrel
      cases gk with
      | zero => exact absurd HA.out (by simp [smaltoref02_MulShift.l0])
      | succ k2 =>
       have H := HA.out
       clear HA
       simp only [smaltoref02_MulShift.l0] at H
       by_cases c22 : x10_2 ≥ x2_3
       ·rw [if_pos c22] at H
        have c22b0 : decide (x2_3 ≤ x10_2) = true := decide_eq_true c22
        clear c22
        replace H := Option.bind_eq_some_iff.mp H
        obtain ⟨t283, A230, H⟩ := H
        try dsimp only at H
        have A23 := Aside0.mk A230
        clear A230
        replace H := Option.bind_eq_some_iff.mp H
        obtain ⟨⟨t284, t285⟩, A240, H⟩ := H
        try dsimp only at H
        have A24 := Aside0.mk A240
        clear A240
        have H' := Aside0.mk H
        clear H
        try go_wp2
        have n0_ := Aside0.mk (blk_drew BK280.out)
        have n1_ := Aside0.mk (blk_drew BK282.out)
        have n2_ := Aside0.mk (below_drew1 HB.out)
        clear BK280
        clear BK282
        clear HB
        have BK280 := n0_
        have BK282 := n1_
        have HB := n2_
        clear n0_ n1_ n2_
        refine start_ (n := 6) (S := fun w' => w'.cell? ⟨gb282, 0, none⟩ = some (.int .u64 x283000_2) ∧ w'.cell? ⟨gb282, 1, none⟩ = some (.int .u64 x283001_2) ∧ w'.cell? ⟨gb280, 0, none⟩ = some (.int .u64 t278) ∧ w'.cell? ⟨gb280, 1, none⟩ = some (.int .u64 t279)) (ds := [5]) #[false, false, false, false, false, false] (by kernel_rfl) rfl rfl ⟨(blk_cell BK282.out 0).trans rfl, (blk_cell BK282.out 1).trans rfl, (blk_cell BK280.out 0).trans rfl, (blk_cell BK280.out 1).trans rfl⟩ (fun hHeld => ?_)
        generalize wr.drew = w25 at BK280 BK282 HB hHeld ⊢
        refine pure_ (i := 2) (N := some 40) (v := ?_) (a' := ?_) #[false, false, true, false, false, false] rfl rfl (by kernel_rfl) (fun _ _ _ h => h) (Or.inl ⟨by rfl, ?_⟩) ?_ ?_
        rotate_left
        ·intro w'
         go_simp
         with_reducible rfl
        rotate_left
        ·simp only [Act.put, List.setIfInBounds_toArray, List.set_cons_zero, List.set_cons_succ, i64_w, i32_w]
         rfl
        refine take_ (i := 0) (N := some 38) (v := ?_) (a' := ?_) #[true, false, true, false, false, false] rfl rfl (by kernel_rfl) (fun _ _ _ h => h) (Or.inl ⟨by rfl, ?_⟩) hHeld ?_ ?_
        rotate_left
        ·rintro w' ⟨s0, s1, s2, s3⟩
         go_simp
         with_reducible rfl
        rotate_left
        ·simp only [Act.put, List.setIfInBounds_toArray, List.set_cons_zero, List.set_cons_succ, i64_w, i32_w]
         rfl
        refine take_ (i := 1) (N := some 39) (v := ?_) (a' := ?_) #[true, true, true, false, false, false] rfl rfl (by kernel_rfl) (fun _ _ _ h => h) (Or.inl ⟨by rfl, ?_⟩) hHeld ?_ ?_
        rotate_left
        ·rintro w' ⟨s0, s1, s2, s3⟩
         go_simp
         with_reducible rfl
        rotate_left
        ·simp only [Act.put, List.setIfInBounds_toArray, List.set_cons_zero, List.set_cons_succ, i64_w, i32_w]
         rfl
        refine one_ (i := 3) (N := some 41) #[true, true, true, true, false, false] rfl rfl (by kernel_rfl) (by decide) (fun K hK => ?_)
        refine goes_ Tryd.func98 (by kernel_rfl) rfl #[.agg #[.int .u64 t278, .int .u64 t279], .int .i64 x10_2] (by rfl) rfl rfl zL ?_
        with_reducible refine (smaltoref01_Bit.calls t278 t279 x10_2 t283 _ A23.out).mono ?_
        rintro e w26 ⟨rfl, hb⟩
        refine ⟨_, rfl, ?_⟩
        have n0_ := Aside0.mk (blk_below (zK BK280) hb)
        have n1_ := Aside0.mk (blk_below (zK BK282) hb)
        have n2_ := Aside0.mk (below_step zB hb)
        clear BK280
        clear BK282
        clear HB
        have BK280 := n0_
        have BK282 := n1_
        have HB := n2_
        clear n0_ n1_ n2_
        (try clear hb)
        (try clear hb2)
        (try clear hk)
        (try clear hi)
        refine hK.out _ _ ⟨(blk_cell BK282.out 0).trans rfl, (blk_cell BK282.out 1).trans rfl, (blk_cell BK280.out 0).trans rfl, (blk_cell BK280.out 1).trans rfl⟩ (fun hHeld => ?_)
        clear hK K
        refine norm_ (a' := ?_) ?_ ?_
        rotate_left
        ·show Act.put _ (some 41) _ = _
         simp only [Act.put, List.setIfInBounds_toArray, List.set_cons_zero, List.set_cons_succ, i64_w, i32_w]
         rfl
        refine one_ (i := 4) (N := some 42) #[true, true, true, true, true, false] rfl rfl (by kernel_rfl) (by decide) (fun K hK => ?_)
        refine goes_ Tryd.func97 (by kernel_rfl) rfl #[.agg #[.int .u64 x283000_2, .int .u64 x283001_2], .int .u64 t283] (by rfl) rfl rfl zL ?_
        with_reducible refine (smaltoref01_Twice.calls x283000_2 x283001_2 t283 t284 t285 _ A24.out).mono ?_
        rintro e w27 ⟨rfl, hb⟩
        refine ⟨_, rfl, ?_⟩
        have n0_ := Aside0.mk (blk_below (zK BK280) hb)
        have n1_ := Aside0.mk (blk_below (zK BK282) hb)
        have n2_ := Aside0.mk (below_step zB hb)
        clear BK280
        clear BK282
        clear HB
        have BK280 := n0_
        have BK282 := n1_
        have HB := n2_
        clear n0_ n1_ n2_
        (try clear hb)
        (try clear hb2)
        (try clear hk)
        (try clear hi)
        refine hK.out _ _ ⟨(blk_cell BK282.out 0).trans rfl, (blk_cell BK282.out 1).trans rfl, (blk_cell BK280.out 0).trans rfl, (blk_cell BK280.out 1).trans rfl⟩ (fun hHeld => ?_)
        clear hK K
        refine norm_ (a' := ?_) ?_ ?_
        rotate_left
        ·show Act.put _ (some 42) _ = _
         simp only [Act.put, List.setIfInBounds_toArray, List.set_cons_zero, List.set_cons_succ, i64_w, i32_w]
         rfl
        refine last_ (i := 5) (N := none) #[true, true, true, true, true, true] rfl rfl (by kernel_rfl) (by decide) (fun K hK => ?_)
        have hs28 : w27.cell? ⟨gb282, 0, none⟩ = some (.int .u64 x283000_2) := (blk_cell BK282.out 0).trans rfl
        have hfs28 := blk_frozen BK282.out 0
        have hns28_0 := NB280_282.out
        have hms28_0 := NB282_280.out
        have hs29 : w27.cell? ⟨gb282, 1, none⟩ = some (.int .u64 x283001_2) := (blk_cell BK282.out 1).trans rfl
        have hfs29 := blk_frozen BK282.out 1
        have hns29_0 := NB280_282.out
        have hms29_0 := NB282_280.out
        refine skip_ (w1 := ?_) (by rfl) rfl ?_ ?_
        rotate_left
        ·go_simp
         rfl
        refine hK.out _ _ ?_
        clear hK K
        refine done_ (by kernel_rfl) ?_
        try go_wp2
        go_roundg k2
        case measure => have := HJ3.out; have := HK2.out; omega
        case rel => exact ⟨(wrap64 (x10_2 - 1)), (t284), (t285), zT, H', ⟨by have := HJ3.out; have := HK2.out; omega⟩, ⟨zK BK280⟩, ⟨by refine zD ?_; refine blk_put (cs := #[.int .u64 t284, .int .u64 x283001_2]) ?_ 1 _ rfl; refine zD ?_; refine blk_put (cs := #[.int .u64 x283000_2, .int .u64 x283001_2]) ?_ 0 _ rfl; refine zD ?_; exact BK282.out⟩, ⟨zB⟩⟩
       ·rw [if_neg c22] at H
        have c22b0 : decide (x2_3 ≤ x10_2) = false := decide_eq_false c22
        clear c22
        have H' := Aside0.mk H
        clear H
        go_wp2
        try simp only [Act.put, List.setIfInBounds_toArray, List.set_cons_succ, List.set_cons_zero]
        go_loopg [11, 45] k2 (fun kq v11 v45 w' => ∃ (x11_3 : Bool) (x45_3 : Int), v11 = .bool x11_3 ∧ v45 = .int .i64 x45_3 ∧ Aside0 (smaltoref02_MulShift.l1 kq x2_3 ((decide (a0 < 0)) != (decide (a1 < 0))) x11_3 (wrap64 (x2_3 - 1)) x45_3 t278 t279 x283000_2 x283001_2 = some r) ∧ Aside0 (kq ≤ k2) ∧ Aside0 (w'.heap[gb280]? = some (.cells #[.int .u64 t278, .int .u64 t279] 94 (0, 0))) ∧ Aside0 (w'.heap[gb282]? = some (.cells #[.int .u64 x283000_2, .int .u64 x283001_2] 94 (0, 0))) ∧ Aside0 (Below w.heap.size w w'))
        case atStart => exact ⟨(false), (0), zT, zT, H', ⟨Nat.le_refl _⟩, ⟨zK BK280⟩, ⟨zK BK282⟩, ⟨zB⟩⟩
        case round =>
         clear H'
         try clear c1
         try clear c2
         try clear p2
         try clear c5
         try clear c5b0
         try clear c6
         try clear c6b0
         try clear p6
         try clear c7
         try clear c9
         try clear c10
         try clear c10b0
         try clear c10b1
         try clear c20
         try clear c22
         try clear c22b0
         try clear hcz14_0
         try clear hcz14_1
         try clear hcz18_0
         try clear hcz18_1
         try clear hcz21_0
         try clear hcz21_1
         try clear hfz14_0
         try clear hfz14_1
         try clear hfz18_0
         try clear hfz18_1
         try clear hfz21_0
         try clear hfz21_1
         try clear p2
         obtain ⟨x11_3, x45_3, rfl, rfl, HA, HK3, BK280, BK282, HB⟩ := hrel
         cases gk with
         | zero => exact absurd HA.out (by simp [smaltoref02_MulShift.l1])
         | succ k3 =>
          have H := HA.out
          clear HA
          simp only [smaltoref02_MulShift.l1] at H
          by_cases c30 : x45_3 < (wrap64 (x2_3 - 1))
          ·rw [if_pos c30] at H
           have c30b0 : decide (x45_3 < (wrap64 (x2_3 - 1))) = true := decide_eq_true c30
           clear c30
           by_cases c31 : x11_3 = true
           ·subst c31
            have H1 := H; rw [if_pos rfl] at H1; try dsimp only at H1
            clear H
            have H := H1
            clear H1
            have H' := Aside0.mk H
            clear H
            go_wp2
            go_roundg k3
            case measure => have := HJ3.out; have := HK2.out; have := HK3.out; omega
            case rel => exact ⟨(true), (wrap64 (x45_3 + 1)), zT, zT, H', ⟨by have := HJ3.out; have := HK2.out; have := HK3.out; omega⟩, ⟨zK BK280⟩, ⟨zK BK282⟩, ⟨zB⟩⟩
           ·replace c31 := Bool.eq_false_iff.mpr c31
            subst c31
            have H1 := H; rw [if_neg (show ¬ (false = true) by decide)] at H1; try dsimp only at H1
            clear H
            have H := H1
            clear H1
            replace H := Option.bind_eq_some_iff.mp H
            obtain ⟨t286, A320, H⟩ := H
            try dsimp only at H
            have A32 := Aside0.mk A320
            clear A320
            have H' := Aside0.mk H
            clear H
            have hnb33 := NB280_282.out
            have hnc33 := NB282_280.out
            have hcz34_0 : wr.cell? ⟨gb280, 0, none⟩ = some (.int .u64 t278) := (blk_cell BK280.out 0).trans rfl
            have hcz34_1 : wr.cell? ⟨gb280, 1, none⟩ = some (.int .u64 t279) := (blk_cell BK280.out 1).trans rfl
            have hfz34_0 := blk_frozen BK280.out 0
            have hfz34_1 := blk_frozen BK280.out 1
            go_wp2_with (first | (go_at_call 98; (with_reducible refine (smaltoref01_Bit.calls t278 t279 x45_3 t286 _ A32.out).mono ?_); rintro e w35 ⟨rfl, hb⟩; have n0_ := Aside0.mk (blk_below (zK BK280) hb); have n1_ := Aside0.mk (blk_below (zK BK282) hb); have n2_ := Aside0.mk (below_step zB hb); clear BK280; clear BK282; clear HB; have BK280 := n0_; have BK282 := n1_; have HB := n2_; clear n0_ n1_ n2_; (try clear hb); (try clear hb2); (try clear hk); (try clear hi)))
            go_roundg k3
            case measure => have := HJ3.out; have := HK2.out; have := HK3.out; omega
            case rel => exact ⟨((t286 == 1)), (wrap64 (x45_3 + 1)), zT, zT, H', ⟨by have := HJ3.out; have := HK2.out; have := HK3.out; omega⟩, ⟨zK BK280⟩, ⟨zK BK282⟩, ⟨zB⟩⟩
          ·rw [if_neg c30] at H
           have c30b0 : decide (x45_3 < (wrap64 (x2_3 - 1))) = false := decide_eq_false c30
           clear c30
           have HC36 := Aside0.mk H
           clear H
           go_upto_region 20 with (fail)
           go_cut [67] (fun v67 wc => ∃ (kq : Nat) (x67_35 : Bool), v67 = .bool x67_35 ∧ Aside0 (smaltoref02_MulShift.j3 kq ((decide (a0 < 0)) != (decide (a1 < 0))) x67_35 x283000_2 x283001_2 = some r) ∧ Aside0 (kq ≤ k3) ∧ Aside0 (wc.heap[gb280]? = some (.cells #[.int .u64 t278, .int .u64 t279] 94 (0, 0))) ∧ Aside0 (wc.heap[gb282]? = some (.cells #[.int .u64 x283000_2, .int .u64 x283001_2] 94 (0, 0))) ∧ Aside0 (Below w.heap.size w wc))
           case first =>
            have H := HC36.out
            clear HC36
            replace H := Option.bind_eq_some_iff.mp H
            obtain ⟨t287, A370, H⟩ := H
            try dsimp only at H
            have A37 := Aside0.mk A370
            clear A370
            by_cases c38 : t287 = 1
            ·rw [if_pos c38] at H
             have c38b0 : (t287 == 1) = true := beq_iff_eq.mpr c38
             have c38b1 : (t287 != 1) = false := bne_eq_false_iff_eq.mpr c38
             clear c38
             (first | rw [c38b0] | (simp only [i64_w, i32_w]; rw [c38b0]) | skip)
             by_cases c39 : x11_3 = true
             ·subst c39
              have H1 := H; rw [if_pos rfl] at H1; try dsimp only at H1
              clear H
              have H := H1
              clear H1
              have H' := Aside0.mk H
              clear H
              have hnb40 := NB280_282.out
              have hnc40 := NB282_280.out
              have hcz41_0 : wr.cell? ⟨gb280, 0, none⟩ = some (.int .u64 t278) := (blk_cell BK280.out 0).trans rfl
              have hcz41_1 : wr.cell? ⟨gb280, 1, none⟩ = some (.int .u64 t279) := (blk_cell BK280.out 1).trans rfl
              have hfz41_0 := blk_frozen BK280.out 0
              have hfz41_1 := blk_frozen BK280.out 1
              go_wp2_with (first | ((with_reducible refine gate_callee (f := 98) rfl ?_); refine goesL_ (some 59) rfl rfl Tryd.func98 (by kernel_rfl) rfl #[.agg #[.int .u64 t278, .int .u64 t279], .int .i64 (wrap64 (x2_3 - 1))] rfl zL ?_; (with_reducible refine (smaltoref01_Bit.calls t278 t279 (wrap64 (x2_3 - 1)) t287 _ A37.out).mono ?_); rintro e w42 ⟨rfl, hb⟩; refine ⟨_, rfl, ?_⟩; have n0_ := Aside0.mk (blk_below (zK BK280) hb); have n1_ := Aside0.mk (blk_below (zK BK282) hb); have n2_ := Aside0.mk (below_step zB hb); clear BK280; clear BK282; clear HB; have BK280 := n0_; have BK282 := n1_; have HB := n2_; clear n0_ n1_ n2_; (try clear hb); (try clear hb2); (try clear hk); (try clear hi)))
              go_meet
              case rel => exact ⟨_, (true), zT, H', ⟨by have := HJ3.out; have := HK2.out; have := HK3.out; first | omega | exact Nat.le_refl _⟩, ⟨zK BK280⟩, ⟨zK BK282⟩, ⟨zB⟩⟩
             ·replace c39 := Bool.eq_false_iff.mpr c39
              subst c39
              have H1 := H; rw [if_neg (show ¬ (false = true) by decide)] at H1; try dsimp only at H1
              clear H
              have H := H1
              clear H1
              have H' := Aside0.mk H
              clear H
              have hnb43 := NB280_282.out
              have hnc43 := NB282_280.out
              have hcz44_0 : wr.cell? ⟨gb280, 0, none⟩ = some (.int .u64 t278) := (blk_cell BK280.out 0).trans rfl
              have hcz44_1 : wr.cell? ⟨gb280, 1, none⟩ = some (.int .u64 t279) := (blk_cell BK280.out 1).trans rfl
              have hfz44_0 := blk_frozen BK280.out 0
              have hfz44_1 := blk_frozen BK280.out 1
              go_wp2_with (first | ((with_reducible refine gate_callee (f := 98) rfl ?_); refine goesL_ (some 59) rfl rfl Tryd.func98 (by kernel_rfl) rfl #[.agg #[.int .u64 t278, .int .u64 t279], .int .i64 (wrap64 (x2_3 - 1))] rfl zL ?_; (with_reducible refine (smaltoref01_Bit.calls t278 t279 (wrap64 (x2_3 - 1)) t287 _ A37.out).mono ?_); rintro e w45 ⟨rfl, hb⟩; refine ⟨_, rfl, ?_⟩; have n0_ := Aside0.mk (blk_below (zK BK280) hb); have n1_ := Aside0.mk (blk_below (zK BK282) hb); have n2_ := Aside0.mk (below_step zB hb); clear BK280; clear BK282; clear HB; have BK280 := n0_; have BK282 := n1_; have HB := n2_; clear n0_ n1_ n2_; (try clear hb); (try clear hb2); (try clear hk); (try clear hi)))
              go_meet
              case rel => exact ⟨_, (!((decide (a0 < 0)) != (decide (a1 < 0)))), (by first | rfl | (simp; done) | (simp [*]; done) | (generalize decide (a0 < 0) = p_; generalize decide (a1 < 0) = q_; cases p_ <;> cases q_ <;> rfl)), H', ⟨by have := HJ3.out; have := HK2.out; have := HK3.out; first | omega | exact Nat.le_refl _⟩, ⟨zK BK280⟩, ⟨zK BK282⟩, ⟨zB⟩⟩
            ·rw [if_neg c38] at H
             have c38b0 : (t287 == 1) = false := beq_eq_false_iff_ne.mpr c38
             have c38b1 : (t287 != 1) = true := bne_iff_ne.mpr c38
             (first | rw [c38b0] | (simp only [i64_w, i32_w]; rw [c38b0]) | skip)
             have H' := Aside0.mk H
             clear H
             have hnb46 := NB280_282.out
             have hnc46 := NB282_280.out
             have hcz47_0 : wr.cell? ⟨gb280, 0, none⟩ = some (.int .u64 t278) := (blk_cell BK280.out 0).trans rfl
             have hcz47_1 : wr.cell? ⟨gb280, 1, none⟩ = some (.int .u64 t279) := (blk_cell BK280.out 1).trans rfl
             have hfz47_0 := blk_frozen BK280.out 0
             have hfz47_1 := blk_frozen BK280.out 1
             go_wp2_with (first | ((with_reducible refine gate_callee (f := 98) rfl ?_); refine goesL_ (some 59) rfl rfl Tryd.func98 (by kernel_rfl) rfl #[.agg #[.int .u64 t278, .int .u64 t279], .int .i64 (wrap64 (x2_3 - 1))] rfl zL ?_; (with_reducible refine (smaltoref01_Bit.calls t278 t279 (wrap64 (x2_3 - 1)) t287 _ A37.out).mono ?_); rintro e w48 ⟨rfl, hb⟩; refine ⟨_, rfl, ?_⟩; have n0_ := Aside0.mk (blk_below (zK BK280) hb); have n1_ := Aside0.mk (blk_below (zK BK282) hb); have n2_ := Aside0.mk (below_step zB hb); clear BK280; clear BK282; clear HB; have BK280 := n0_; have BK282 := n1_; have HB := n2_; clear n0_ n1_ n2_; (try clear hb); (try clear hb2); (try clear hk); (try clear hi)))
             go_meet
             case rel => exact ⟨_, (false), zT, H', ⟨by have := HJ3.out; have := HK2.out; have := HK3.out; first | omega | exact Nat.le_refl _⟩, ⟨zK BK280⟩, ⟨zK BK282⟩, ⟨zB⟩⟩
           case rest =>
            clear HC36
            try clear c1
            try clear c2
            try clear p2
            try clear c3
            try clear c4
            try clear c5
            try clear c5b0
            try clear c6
            try clear c6b0
            try clear p6
            try clear c7
            try clear c9
            try clear c10
            try clear c10b0
            try clear c10b1
            try clear c20
            try clear c22
            try clear c22b0
            try clear c30
            try clear c30b0
            try clear c31
            try clear c33
            try clear c38
            try clear c38b0
            try clear c38b1
            try clear c39
            try clear c40
            try clear c43
            try clear c46
            try clear hcz14_0
            try clear hcz14_1
            try clear hcz18_0
            try clear hcz18_1
            try clear hcz21_0
            try clear hcz21_1
            try clear hcz34_0
            try clear hcz34_1
            try clear hcz41_0
            try clear hcz41_1
            try clear hcz44_0
            try clear hcz44_1
            try clear hcz47_0
            try clear hcz47_1
            try clear hfz14_0
            try clear hfz14_1
            try clear hfz18_0
            try clear hfz18_1
            try clear hfz21_0
            try clear hfz21_1
            try clear hfz34_0
            try clear hfz34_1
            try clear hfz41_0
            try clear hfz41_1
            try clear hfz44_0
            try clear hfz44_1
            try clear hfz47_0
            try clear hfz47_1
            try clear p2
            try clear p6
            obtain ⟨kq, x67_35, rfl, HA, HJ35, BK280, BK282, HB⟩ := hcut
            cases kq with
            | zero => exact absurd HA.out (by simp [smaltoref02_MulShift.j3])
            | succ kj35 =>
             have H := HA.out
             clear HA
             simp only [smaltoref02_MulShift.j3] at H
             by_cases c49 : x67_35 = true
             ·subst c49
              have H1 := H; rw [if_pos rfl] at H1; try dsimp only at H1
              clear H
              have H := H1
              clear H1
              replace H := Option.bind_eq_some_iff.mp H
              obtain ⟨⟨t288, t289⟩, A500, H⟩ := H
              try dsimp only at H
              have A50 := Aside0.mk A500
              clear A500
              replace H := Option.bind_eq_some_iff.mp H
              obtain ⟨t290, A510, H⟩ := H
              try dsimp only at H
              have A51 := Aside0.mk A510
              clear A510
              obtain rfl := Option.some.inj H
              have hnb52 := NB282_280.out
              have hnc52 := NB280_282.out
              have hcz53_0 : wc.cell? ⟨gb282, 0, none⟩ = some (.int .u64 x283000_2) := (blk_cell BK282.out 0).trans rfl
              have hcz53_1 : wc.cell? ⟨gb282, 1, none⟩ = some (.int .u64 x283001_2) := (blk_cell BK282.out 1).trans rfl
              have hfz53_0 := blk_frozen BK282.out 0
              have hfz53_1 := blk_frozen BK282.out 1
              go_wp2_with (first | ((with_reducible refine gate_callee (f := 73) rfl ?_); refine goesL_ (some 70) rfl rfl Tryd.func73 (by kernel_rfl) rfl #[.agg #[.int .u64 x283000_2, .int .u64 x283001_2], .agg #[.int .u64 0, .int .u64 1]] rfl zL ?_; (with_reducible refine (smaltoref01_Plus.calls x283000_2 x283001_2 0 1 t288 t289 _ A50.out).mono ?_); rintro e w54 ⟨rfl, hb⟩; refine ⟨_, rfl, ?_⟩; have n0_ := Aside0.mk (blk_below (zK BK280) hb); have n1_ := Aside0.mk (blk_below (zK BK282) hb); have n2_ := Aside0.mk (below_step zB hb); clear BK280; clear BK282; clear HB; have BK280 := n0_; have BK282 := n1_; have HB := n2_; clear n0_ n1_ n2_; (try clear hb); (try clear hb2); (try clear hk); (try clear hi); have hcz55_0 : w54.cell? ⟨gb282, 0, none⟩ = some (.int .u64 x283000_2) := (blk_cell BK282.out 0).trans rfl; have hcz55_1 : w54.cell? ⟨gb282, 1, none⟩ = some (.int .u64 x283001_2) := (blk_cell BK282.out 1).trans rfl; have hfz55_0 := blk_frozen BK282.out 0; have hfz55_1 := blk_frozen BK282.out 1) | ((with_reducible refine gate_callee (f := 74) rfl ?_); refine goesL_ (some 73) rfl rfl Tryd.func74 (by kernel_rfl) rfl #[.agg #[.int .u64 t288, .int .u64 t289], .bool ((decide (a0 < 0)) != (decide (a1 < 0)))] rfl zL ?_; (with_reducible refine (smaltoref01_Hold.calls kj35 t288 t289 ((decide (a0 < 0)) != (decide (a1 < 0))) t290 _ A51.out).mono ?_); rintro e w56 ⟨rfl, hb⟩; refine ⟨_, rfl, ?_⟩; have n0_ := Aside0.mk (blk_below (zK BK280) hb); have n1_ := Aside0.mk (blk_below (g := gb282) (o := .cells #[.int .u64 t288, .int .u64 t289] 94 (0, 0)) (by refine zD ?_; refine blk_put (cs := #[.int .u64 t288, .int .u64 x283001_2]) ?_ 1 _ rfl; refine zD ?_; refine blk_put (cs := #[.int .u64 x283000_2, .int .u64 x283001_2]) ?_ 0 _ rfl; refine zD ?_; exact BK282.out) hb); have n2_ := Aside0.mk (below_step zB hb); clear BK280; clear BK282; clear HB; have BK280 := n0_; have BK282 := n1_; have HB := n2_; clear n0_ n1_ n2_; (try clear hb); (try clear hb2); (try clear hk); (try clear hi)))
              go_ret
              exact ⟨zS, zB⟩
             ·replace c49 := Bool.eq_false_iff.mpr c49
              subst c49
              have H1 := H; rw [if_neg (show ¬ (false = true) by decide)] at H1; try dsimp only at H1
              clear H
              have H := H1
              clear H1
              replace H := Option.bind_eq_some_iff.mp H
              obtain ⟨t291, A570, H⟩ := H
              try dsimp only at H
              have A57 := Aside0.mk A570
              clear A570
              obtain rfl := Option.some.inj H
              have hnb58 := NB282_280.out
              have hnc58 := NB280_282.out
              have hcz59_0 : wc.cell? ⟨gb282, 0, none⟩ = some (.int .u64 x283000_2) := (blk_cell BK282.out 0).trans rfl
              have hcz59_1 : wc.cell? ⟨gb282, 1, none⟩ = some (.int .u64 x283001_2) := (blk_cell BK282.out 1).trans rfl
              have hfz59_0 := blk_frozen BK282.out 0
              have hfz59_1 := blk_frozen BK282.out 1
              go_wp2_with (first | ((with_reducible refine gate_callee (f := 74) rfl ?_); refine goesL_ (some 73) rfl rfl Tryd.func74 (by kernel_rfl) rfl #[.agg #[.int .u64 x283000_2, .int .u64 x283001_2], .bool ((decide (a0 < 0)) != (decide (a1 < 0)))] rfl zL ?_; (with_reducible refine (smaltoref01_Hold.calls kj35 x283000_2 x283001_2 ((decide (a0 < 0)) != (decide (a1 < 0))) t291 _ A57.out).mono ?_); rintro e w60 ⟨rfl, hb⟩; refine ⟨_, rfl, ?_⟩; have n0_ := Aside0.mk (blk_below (zK BK280) hb); have n1_ := Aside0.mk (blk_below (zK BK282) hb); have n2_ := Aside0.mk (below_step zB hb); clear BK280; clear BK282; clear HB; have BK280 := n0_; have BK282 := n1_; have HB := n2_; clear n0_ n1_ n2_; (try clear hb); (try clear hb2); (try clear hk); (try clear hi)))
              go_ret
              exact ⟨zS, zB⟩
end Go.Proofs.YthaajkpiknbdbaaDoor.QA

namespace Go.Proofs.YthaajkpiknbdbaaDoor.QA
open Go.Proofs.YthaajkpiknbdbaaDoor.T
open Go.RowKit Go.Proofs.YthaajkpiknbdbaaDoorW.PrintWords Go.Proofs.YthaajkpiknbdbaaDoorW.PrintLast Go.Proofs.YthaajkpiknbdbaaDoorW.PrintMore
attribute [local go_sem] ext_call max2_int min2_int max_two min_two max_three min_three max_four min_four   -- for this text's walks alone
set_option linter.unusedVariables false
set_option linter.unusedSimpArgs false
mutual
def smaltoref04_Series.j0 : Nat → Int → Int → Option (Int)
 | 0, _, _ => none
 | k + 1, x0, x1 => (smaltoref02_MulDiv.f k 10851744800547 x0 x1).bind fun t292 => ((smaltoref02_MulDiv.f k t292 x0 x1).bind fun t293 => (smaltoref04_Series.l0 k t293 1099511627776 0 1099511627776 1))
def smaltoref04_Series.l0 : Nat → Int → Int → Int → Int → Int → Option (Int)
 | 0, _, _, _, _, _ => none
 | k + 1, x6, x7, x8, x9, x10 => if x10 ≤ 30 then ((smaltoref02_MulDiv.f k x9 x6 (wrap64 ((wrap64 ((wrap64 (2 * x10)) * (wrap64 ((wrap64 (2 * x10)) + 1)))) * 1099511627776))).bind fun t294 => (if (Int.tmod x10 2) = 1 then (smaltoref04_Series.l0 k x6 x7 (wrap64 (x8 + t294)) t294 (wrap64 (x10 + 1))) else (smaltoref04_Series.l0 k x6 (wrap64 (x7 + t294)) x8 t294 (wrap64 (x10 + 1))))) else (some (wrap64 (x7 - x8)))
end
def smaltoref04_Series.f (k : Nat) (a0 : Int) (a1 : Int) : Option (Int) := if a0 < 0 then (smaltoref04_Series.j0 k (wrap64 (-a0)) a1) else (smaltoref04_Series.j0 k a0 a1)
theorem smaltoref04_Series.mono_l : ∀ k, (∀ y0 y1, LeO (smaltoref04_Series.j0 k y0 y1) (smaltoref04_Series.j0 (k + 1) y0 y1)) ∧ (∀ y0 y1 y2 y3 y4, LeO (smaltoref04_Series.l0 k y0 y1 y2 y3 y4) (smaltoref04_Series.l0 (k + 1) y0 y1 y2 y3 y4))
 | 0 => ⟨fun _ _ r h => by simp [smaltoref04_Series.j0] at h, fun _ _ _ _ _ r h => by simp [smaltoref04_Series.l0] at h⟩
 | k + 1 => by
  obtain ⟨ih0, ih1⟩ := smaltoref04_Series.mono_l k
  refine ⟨?_, ?_⟩
  ·intro y0 y1
   unfold smaltoref04_Series.j0
   repeat' (with_reducible first | exact ih0 _ _ | exact ih1 _ _ _ _ _ | exact smaltoref02_MulDiv.mono _ _ _ _ | exact zM | refine LeO.ite ?_ ?_ | refine LeO.bind ?_ (fun _ => ?_))
  ·intro y0 y1 y2 y3 y4
   unfold smaltoref04_Series.l0
   repeat' (with_reducible first | exact ih0 _ _ | exact ih1 _ _ _ _ _ | exact smaltoref02_MulDiv.mono _ _ _ _ | exact zM | refine LeO.ite ?_ ?_ | refine LeO.bind ?_ (fun _ => ?_))
theorem smaltoref04_Series.mono : ∀ a0 a1 k, LeO (smaltoref04_Series.f k a0 a1) (smaltoref04_Series.f (k + 1) a0 a1) := by
 intro a0 a1 k
 obtain ⟨ih0, ih1⟩ := smaltoref04_Series.mono_l k
 unfold smaltoref04_Series.f
 repeat' (with_reducible first | exact ih0 _ _ | exact ih1 _ _ _ _ _ | exact smaltoref02_MulDiv.mono _ _ _ _ | exact zM | refine LeO.ite ?_ ?_ | refine LeO.bind ?_ (fun _ => ?_))
set_option maxHeartbeats 8000000 in
set_option maxRecDepth 100000 in
theorem smaltoref04_Series.calls (k : Nat) (a0 : Int) (a1 : Int) (r : Int) (w : World) (h : smaltoref04_Series.f k a0 a1 = some r) :
  Calls Tryd.prog 95 #[.int .i64 a0, .int .i64 a1] w fun e w' => e = .returned (.int .i64 r) ∧ Below w.heap.size w w' := by
 have HB := Aside0.mk (Below.refl w.heap.size w)
 have H : (if a0 < 0 then (smaltoref04_Series.j0 k (wrap64 (-a0)) a1) else (smaltoref04_Series.j0 k a0 a1)) = some r := h
 clear h
 have HC3 := Aside0.mk H
 clear H
 go_enter Tryd.func95, Tryd.ntmps95
 go_upto_if 13 with (fail)
 go_cut [0] (fun v0 wc => ∃ (kq : Nat) (x0_2 : Int), v0 = .int .i64 x0_2 ∧ Aside0 (smaltoref04_Series.j0 kq x0_2 a1 = some r) ∧ Aside0 (kq ≤ k) ∧ Aside0 (Below w.heap.size w wc))
 case first =>
  have H := HC3.out
  clear HC3
  by_cases c4 : a0 < 0
  ·rw [if_pos c4] at H
   have c4b0 : decide (a0 < 0) = true := decide_eq_true c4
   clear c4
   (first | rw [c4b0] | (simp only [i64_w, i32_w]; rw [c4b0]) | skip)
   have H' := Aside0.mk H
   clear H
   go_wp2
   go_meet
   case rel => exact ⟨_, (wrap64 (-a0)), zT, H', ⟨by first | omega | exact Nat.le_refl _⟩, ⟨zB⟩⟩
  ·rw [if_neg c4] at H
   have c4b0 : decide (a0 < 0) = false := decide_eq_false c4
   clear c4
   (first | rw [c4b0] | (simp only [i64_w, i32_w]; rw [c4b0]) | skip)
   have H' := Aside0.mk H
   clear H
   go_wp2
   go_meet
   case rel => exact ⟨_, (a0), zT, H', ⟨by first | omega | exact Nat.le_refl _⟩, ⟨zB⟩⟩
 case rest =>
  clear HC3
  try clear p2
  try clear c4
  try clear c4b0
  obtain ⟨kq, x0_2, rfl, HA, HJ2, HB⟩ := hcut
  cases kq with
  | zero => exact absurd HA.out (by simp [smaltoref04_Series.j0])
  | succ kj2 =>
   have H := HA.out
   clear HA
   simp only [smaltoref04_Series.j0] at H
   replace H := Option.bind_eq_some_iff.mp H
   obtain ⟨t292, A50, H⟩ := H
   try dsimp only at H
   have A5 := Aside0.mk A50
   clear A50
   replace H := Option.bind_eq_some_iff.mp H
   obtain ⟨t293, A60, H⟩ := H
   try dsimp only at H
   have A6 := Aside0.mk A60
   clear A60
   have H' := Aside0.mk H
   clear H
   go_wp2_with (first | ((with_reducible refine gate_callee (f := 68) rfl ?_); refine goesL_ (some 18) rfl rfl Tryd.func68 (by kernel_rfl) rfl #[.int .i64 10851744800547, .int .i64 x0_2, .int .i64 a1] rfl zL ?_; (with_reducible refine (smaltoref02_MulDiv.calls kj2 10851744800547 x0_2 a1 t292 _ A5.out).mono ?_); rintro e w7 ⟨rfl, hb⟩; refine ⟨_, rfl, ?_⟩; have n0_ := Aside0.mk (below_step zB hb); clear HB; have HB := n0_; clear n0_; (try clear hb); (try clear hb2); (try clear hk); (try clear hi)) | ((with_reducible refine gate_callee (f := 68) rfl ?_); refine goesL_ (some 22) rfl rfl Tryd.func68 (by kernel_rfl) rfl #[.int .i64 t292, .int .i64 x0_2, .int .i64 a1] rfl zL ?_; (with_reducible refine (smaltoref02_MulDiv.calls kj2 t292 x0_2 a1 t293 _ A6.out).mono ?_); rintro e w8 ⟨rfl, hb⟩; refine ⟨_, rfl, ?_⟩; have n0_ := Aside0.mk (below_step zB hb); clear HB; have HB := n0_; clear n0_; (try clear hb); (try clear hb2); (try clear hk); (try clear hi)))
   go_loopg [7, 8, 9, 10] kj2 (fun kq v7 v8 v9 v10 w' => ∃ (x7_2 : Int) (x8_2 : Int) (x9_2 : Int) (x10_2 : Int), v7 = .int .i64 x7_2 ∧ v8 = .int .i64 x8_2 ∧ v9 = .int .i64 x9_2 ∧ v10 = .int .i64 x10_2 ∧ Aside0 (smaltoref04_Series.l0 kq t293 x7_2 x8_2 x9_2 x10_2 = some r) ∧ Aside0 (kq ≤ kj2) ∧ Aside0 (Below w.heap.size w w'))
   case atStart => exact ⟨(1099511627776), (0), (1099511627776), (1), zT, zT, zT, zT, H', ⟨Nat.le_refl _⟩, ⟨zB⟩⟩
   case round =>
    clear H'
    try clear p2
    try clear c4
    try clear c4b0
    try clear c6
    try clear p6
    try clear p2
    obtain ⟨x7_2, x8_2, x9_2, x10_2, rfl, rfl, rfl, rfl, HA, HK2, HB⟩ := hrel
    cases gk with
    | zero => exact absurd HA.out (by simp [smaltoref04_Series.l0])
    | succ k2 =>
     have H := HA.out
     clear HA
     simp only [smaltoref04_Series.l0] at H
     by_cases c9 : x10_2 ≤ 30
     ·rw [if_pos c9] at H
      have c9b0 : decide (x10_2 ≤ 30) = true := decide_eq_true c9
      clear c9
      replace H := Option.bind_eq_some_iff.mp H
      obtain ⟨t294, A100, H⟩ := H
      try dsimp only at H
      have A10 := Aside0.mk A100
      clear A100
      by_cases c11 : (Int.tmod x10_2 2) = 1
      ·rw [if_pos c11] at H
       have c11b0 : ((Int.tmod x10_2 2) == 1) = true := beq_iff_eq.mpr c11
       have c11b1 : ((Int.tmod x10_2 2) != 1) = false := bne_eq_false_iff_eq.mpr c11
       clear c11
       have H' := Aside0.mk H
       clear H
       go_wp2_with (first | ((with_reducible refine gate_callee (f := 68) rfl ?_); refine goesL_ (some 37) rfl rfl Tryd.func68 (by kernel_rfl) rfl #[.int .i64 x9_2, .int .i64 t293, .int .i64 (wrap64 ((wrap64 ((wrap64 (2 * x10_2)) * (wrap64 ((wrap64 (2 * x10_2)) + 1)))) * 1099511627776))] rfl zL ?_; (with_reducible refine (smaltoref02_MulDiv.calls k2 x9_2 t293 (wrap64 ((wrap64 ((wrap64 (2 * x10_2)) * (wrap64 ((wrap64 (2 * x10_2)) + 1)))) * 1099511627776)) t294 _ A10.out).mono ?_); rintro e w12 ⟨rfl, hb⟩; refine ⟨_, rfl, ?_⟩; have n0_ := Aside0.mk (below_step zB hb); clear HB; have HB := n0_; clear n0_; (try clear hb); (try clear hb2); (try clear hk); (try clear hi)))
       go_roundg k2
       case measure => have := HJ2.out; have := HK2.out; omega
       case rel => exact ⟨(x7_2), (wrap64 (x8_2 + t294)), (t294), (wrap64 (x10_2 + 1)), zT, zT, zT, zT, H', ⟨by have := HJ2.out; have := HK2.out; omega⟩, ⟨zB⟩⟩
      ·rw [if_neg c11] at H
       have c11b0 : ((Int.tmod x10_2 2) == 1) = false := beq_eq_false_iff_ne.mpr c11
       have c11b1 : ((Int.tmod x10_2 2) != 1) = true := bne_iff_ne.mpr c11
       have H' := Aside0.mk H
       clear H
       go_wp2_with (first | ((with_reducible refine gate_callee (f := 68) rfl ?_); refine goesL_ (some 37) rfl rfl Tryd.func68 (by kernel_rfl) rfl #[.int .i64 x9_2, .int .i64 t293, .int .i64 (wrap64 ((wrap64 ((wrap64 (2 * x10_2)) * (wrap64 ((wrap64 (2 * x10_2)) + 1)))) * 1099511627776))] rfl zL ?_; (with_reducible refine (smaltoref02_MulDiv.calls k2 x9_2 t293 (wrap64 ((wrap64 ((wrap64 (2 * x10_2)) * (wrap64 ((wrap64 (2 * x10_2)) + 1)))) * 1099511627776)) t294 _ A10.out).mono ?_); rintro e w13 ⟨rfl, hb⟩; refine ⟨_, rfl, ?_⟩; have n0_ := Aside0.mk (below_step zB hb); clear HB; have HB := n0_; clear n0_; (try clear hb); (try clear hb2); (try clear hk); (try clear hi)))
       go_roundg k2
       case measure => have := HJ2.out; have := HK2.out; omega
       case rel => exact ⟨(wrap64 (x7_2 + t294)), (x8_2), (t294), (wrap64 (x10_2 + 1)), zT, zT, zT, zT, H', ⟨by have := HJ2.out; have := HK2.out; omega⟩, ⟨zB⟩⟩
     ·rw [if_neg c9] at H
      have c9b0 : decide (x10_2 ≤ 30) = false := decide_eq_false c9
      clear c9
      obtain rfl := Option.some.inj H
      go_wp2
      go_ret
      exact ⟨zS, zB⟩
end Go.Proofs.YthaajkpiknbdbaaDoor.QA
