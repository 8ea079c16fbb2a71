/- Joined by wip/tools/bundle.py out of: QAx7 QAx8 QAx9 QAx10 QAx13 QAx14 QAx15 QAx16 QAx17. -/
import Derived.Test.YtebipmdopdogkaaGreatDoorBOpMakes0
import Derived.Test.YtebipmdopdogkaaGreatDoorBOpMakes1
import Derived.Test.YtebipmdopdogkaaGreatDoorBOpMakes3
namespace Go.Proofs.YtebipmdopdogkaaGreatDoor.QA
open Go.Proofs.YtebipmdopdogkaaGreatDoor.T
open Go.RowKit Go.Proofs.YtebipmdopdogkaaGreatDoorW.PrintWords Go.Proofs.YtebipmdopdogkaaGreatDoorW.PrintLast Go.Proofs.YtebipmdopdogkaaGreatDoorW.PrintMore
attribute [local go_sem] ext_call max2_int min2_int max_two min_two
set_option linter.unusedVariables false
set_option linter.unusedSimpArgs false
def wide_MulDiv.j0 : Nat → Bool → Int → Int → Bool → Option (Int)
 | 0, _, _, _, _ => none
 | k + 1, x9, x11, x14, x60 => if x60 = true then ((wide_signed.f k (add64c x11 1 0) (add64s x11 1 0) x9).bind fun t137 => (some t137)) else ((wide_signed.f k (add64c x11 x14 0) (add64s x11 x14 0) x9).bind fun t138 => (some t138))
def wide_MulDiv.f (k : Nat) (a0 a1 a2 : Int) : Option (Int) := if a2 = 0 then (some 0) else ((wide_product.f a0 a1).bind fun bt130 => ((wide_size.f a2).bind fun t133 => (if bt130.1 ≥ t133 then ((wide_signed.f k 1 0 (bt130.2.2 != (decide (a2 < 0)))).bind fun t134 => (some t134)) else ((bits_Div64.f k bt130.1 bt130.2.1 t133).bind fun bt135 => (if (bt130.2.2 != (decide (a2 < 0))) = true then (if bt135.2 > (IntKind.u64.wrap (t133 - bt135.2)) then (wide_MulDiv.j0 k (bt130.2.2 != (decide (a2 < 0))) bt135.1 0 true) else (if ((bt130.2.2 != (decide (a2 < 0))) = true) then (wide_MulDiv.j0 k (bt130.2.2 != (decide (a2 < 0))) bt135.1 0 false) else (wide_MulDiv.j0 k (bt130.2.2 != (decide (a2 < 0))) bt135.1 0 (decide (bt135.2 ≥ (IntKind.u64.wrap (t133 - bt135.2))))))) else (if ((bt130.2.2 != (decide (a2 < 0))) = true) then (wide_MulDiv.j0 k (bt130.2.2 != (decide (a2 < 0))) bt135.1 0 false) else (wide_MulDiv.j0 k (bt130.2.2 != (decide (a2 < 0))) bt135.1 0 (decide (bt135.2 ≥ (IntKind.u64.wrap (t133 - bt135.2)))))))))))
theorem wide_MulDiv.mono_l : ∀ k, (∀ y0 y1 y2 y3, LeO (wide_MulDiv.j0 k y0 y1 y2 y3) (wide_MulDiv.j0 (k + 1) y0 y1 y2 y3))
 | 0 => fun _ _ _ _ r h => by simp [wide_MulDiv.j0] at h
 | k + 1 => by
  have ih0 := wide_MulDiv.mono_l k
  ·intro y0 y1 y2 y3
   unfold wide_MulDiv.j0
   repeat' (with_reducible first | exact ih0 _ _ _ _ | exact bits_Div64.mono _ _ _ _ | exact wide_signed.mono _ _ _ _ | exact zM | refine LeO.ite ?_ ?_ | refine LeO.bind ?_ (fun _ => ?_))
theorem wide_MulDiv.mono : ∀ a0 a1 a2 k, LeO (wide_MulDiv.f k a0 a1 a2) (wide_MulDiv.f (k + 1) a0 a1 a2) := by
 intro a0 a1 a2 k
 have ih0 := wide_MulDiv.mono_l k
 unfold wide_MulDiv.f
 repeat' (with_reducible first | exact ih0 _ _ _ _ | exact bits_Div64.mono _ _ _ _ | exact wide_signed.mono _ _ _ _ | exact zM | refine LeO.ite ?_ ?_ | refine LeO.bind ?_ (fun _ => ?_))
set_option maxHeartbeats 8000000 in
set_option maxRecDepth 100000 in
theorem wide_MulDiv.calls (k : Nat) (a0 a1 a2 r : Int) (w : World) (h : wide_MulDiv.f k a0 a1 a2 = some r) :
  Calls Tryz.prog 71 #[.int .i64 a0, .int .i64 a1, .int .i64 a2] w fun e w' => e = .returned (.int .i64 r) ∧ Drawn0 w w' := by
 have H := h
 clear h
 unfold wide_MulDiv.f at H
 by_cases c4 : a2 = 0
 ·rw [if_pos c4] at H
  have c4b0 : (a2 == 0) = true := beq_iff_eq.mpr c4
  have c4b1 : (a2 != 0) = false := bne_eq_false_iff_eq.mpr c4
  clear c4
  obtain rfl := Option.some.inj H
  go_enter Tryz.func71, Tryz.ntmps71
  go_wp2
  go_ret
  exact ⟨zT, zW⟩
 ·rw [if_neg c4] at H
  have c4b0 : (a2 == 0) = false := beq_eq_false_iff_ne.mpr c4
  have c4b1 : (a2 != 0) = true := bne_iff_ne.mpr c4
  replace H := zO H
  obtain ⟨⟨t130, t131, t132⟩, A5, H⟩ := H
  try dsimp only at H
  replace H := zO H
  obtain ⟨t133, A6, H⟩ := H
  try dsimp only at H
  by_cases c7 : t130 ≥ t133
  ·rw [if_pos c7] at H
   have c7b0 := decide_eq_true c7
   clear c7
   replace H := zO H
   obtain ⟨t134, A8, H⟩ := H
   try dsimp only at H
   obtain rfl := Option.some.inj H
   go_enter Tryz.func71, Tryz.ntmps71
   go_wp2_with (first | ((with_reducible refine gate_callee (f := 95) rfl ?_); refine goesL_ (some 21) rfl rfl Tryz.func95 (by kernel_rfl) rfl #[.int .i64 a0, .int .i64 a1] rfl zL ?_; (with_reducible refine (wide_product.calls a0 a1 t130 t131 t132 _ A5.out).mono ?_); rintro e w' ⟨rfl, ⟨nd, rfl⟩⟩; refine ⟨_, rfl, ?_⟩) | ((with_reducible refine gate_callee (f := 96) rfl ?_); refine goesL_ (some 26) rfl rfl Tryz.func96 (by kernel_rfl) rfl #[.int .i64 a2] rfl zL ?_; (with_reducible refine (wide_size.calls a2 t133 _ A6.out).mono ?_); rintro e w' ⟨rfl, ⟨nd, rfl⟩⟩; refine ⟨_, rfl, ?_⟩) | ((with_reducible refine gate_callee (f := 97) rfl ?_); refine goesL_ (some 35) rfl rfl Tryz.func97 (by kernel_rfl) rfl #[.int .u64 1, .int .u64 0, .bool (t132 != (decide (a2 < 0)))] rfl zL ?_; (with_reducible refine (wide_signed.calls k 1 0 (t132 != (decide (a2 < 0))) t134 _ A8.out).mono ?_); rintro e w' ⟨rfl, ⟨nd, rfl⟩⟩; refine ⟨_, rfl, ?_⟩))
   go_ret
   exact ⟨zT, zW⟩
  ·rw [if_neg c7] at H
   have c7b0 := decide_eq_false c7
   clear c7
   replace H := zO H
   obtain ⟨⟨t135, t136⟩, A9, H⟩ := H
   try dsimp only at H
   rcases Bool.eq_false_or_eq_true (t132 != (decide (a2 < 0))) with hsv | hsv
   ·have hsvb0 : (t132 != (decide (a2 < 0))) = true := hsv
    have hsvb2 : (t132 == (decide (a2 < 0))) = false := by simpa using hsv
    have HC10 := Aside0.mk H
    clear H
    go_enter Tryz.func71, Tryz.ntmps71
    go_upto_region 11 with (first | ((with_reducible refine gate_callee (f := 95) rfl ?_); refine goesL_ (some 21) rfl rfl Tryz.func95 (by kernel_rfl) rfl #[.int .i64 a0, .int .i64 a1] rfl zL ?_; (with_reducible refine (wide_product.calls a0 a1 t130 t131 t132 _ A5.out).mono ?_); rintro e w' ⟨rfl, ⟨nd, rfl⟩⟩; refine ⟨_, rfl, ?_⟩) | ((with_reducible refine gate_callee (f := 96) rfl ?_); refine goesL_ (some 26) rfl rfl Tryz.func96 (by kernel_rfl) rfl #[.int .i64 a2] rfl zL ?_; (with_reducible refine (wide_size.calls a2 t133 _ A6.out).mono ?_); rintro e w' ⟨rfl, ⟨nd, rfl⟩⟩; refine ⟨_, rfl, ?_⟩) | ((with_reducible refine gate_callee (f := 98) rfl ?_); refine goesL_ (some 40) rfl rfl Tryz.func98 (by kernel_rfl) rfl #[.int .u64 t130, .int .u64 t131, .int .u64 t133] rfl zL ?_; (with_reducible refine (bits_Div64.calls k t130 t131 t133 t135 t136 _ A9.out).mono ?_); rintro e w' ⟨rfl, ⟨nd, rfl⟩⟩; refine ⟨_, rfl, ?_⟩))
    (try simp only [Act.put, List.setIfInBounds_toArray, List.set_cons_zero, List.set_cons_succ])
    go_cut [60] (fun v60 wc => ∃ (kq : Nat) (x60_9 : Bool), v60 = .bool x60_9 ∧ Aside0 (wide_MulDiv.j0 kq (t132 != (decide (a2 < 0))) t135 0 x60_9 = some r) ∧ Aside0 (kq ≤ k) ∧ Drawn0 w wc)
    case first =>
     have H := HC10.out
     clear HC10
     by_cases c11 : (t132 != (decide (a2 < 0))) = true
     ·rw [if_pos c11] at H
      have c11b0 : (t132 != (decide (a2 < 0))) = true := c11
      (try (have c11b1 : decide (t132 = (decide (a2 < 0))) = false := by simpa using c11))
      (try (have c11b2 : (t132 == (decide (a2 < 0))) = false := by simpa using c11))
      (try (have c11b3 : ¬ (t132 = (decide (a2 < 0))) := by simpa using c11))
      clear c11
      (first | rw [c11b0] | (simp only [i64_w, i32_w]; rw [c11b0]) | skip)
      by_cases c12 : t136 > (IntKind.u64.wrap (t133 - t136))
      ·rw [if_pos c12] at H
       have c12b0 := decide_eq_true c12
       clear c12
       have H' := Aside0.mk H
       clear H
       go_wp2
       go_meet
       case rel => exact ⟨_, (true), zT, H', ⟨by first | omega | exact Nat.le_refl _⟩, zW⟩
      ·rw [if_neg c12] at H
       have c12b0 := decide_eq_false c12
       clear c12
       by_cases c13 : ((t132 != (decide (a2 < 0))) = true)
       ·rw [if_pos c13] at H
        have c13b0 : (t132 != (decide (a2 < 0))) = true := c13
        (try (have c13b1 : decide (t132 = (decide (a2 < 0))) = false := by simpa using c13))
        (try (have c13b2 : (t132 == (decide (a2 < 0))) = false := by simpa using c13))
        (try (have c13b3 : ¬ (t132 = (decide (a2 < 0))) := by simpa using c13))
        clear c13
        have H' := Aside0.mk H
        clear H
        go_wp2
        go_meet
        case rel => exact ⟨_, (false), zT, H', ⟨by first | omega | exact Nat.le_refl _⟩, zW⟩
       ·rw [if_neg c13] at H
        have c13b0 : (t132 != (decide (a2 < 0))) = false := by simpa using c13
        exact absurd (hsvb0.symm.trans c13b0) (by decide)
     ·rw [if_neg c11] at H
      have c11b0 : (t132 != (decide (a2 < 0))) = false := by simpa using c11
      exact absurd (hsvb0.symm.trans c11b0) (by decide)
    case rest =>
     clear HC10
     obtain ⟨kq, x60_9, rfl, HA, HJ9, ⟨mc9, rfl⟩⟩ := hcut
     cases kq with
     | zero => exact absurd HA.out (by simp [wide_MulDiv.j0])
     | succ kj9 =>
      have H := HA.out
      clear HA
      simp only [wide_MulDiv.j0] at H
      by_cases c15 : x60_9 = true
      ·subst c15
       rw [if_pos rfl] at H; try dsimp only at H
       replace H := zO H
       obtain ⟨t137, A16, H⟩ := H
       try dsimp only at H
       obtain rfl := Option.some.inj H
       go_wp2_with (first | ((with_reducible refine gate_callee (f := 97) rfl ?_); refine goesL_ (some 70) rfl rfl Tryz.func97 (by kernel_rfl) rfl #[.int .u64 (add64c t135 1 0), .int .u64 (add64s t135 1 0), .bool true] rfl zL ?_; (with_reducible refine (wide_signed.calls kj9 (add64c t135 1 0) (add64s t135 1 0) true t137 _ (by have h := A16.out; rw [hsvb0] at h; exact h)).mono ?_); rintro e w' ⟨rfl, ⟨nd, rfl⟩⟩; refine ⟨_, rfl, ?_⟩))
       go_ret
       exact ⟨zT, zW⟩
      ·replace c15 := Bool.eq_false_iff.mpr c15
       subst c15
       rw [if_neg (show ¬ (false = true) by decide)] at H; try dsimp only at H
       replace H := zO H
       obtain ⟨t138, A17, H⟩ := H
       try dsimp only at H
       obtain rfl := Option.some.inj H
       go_wp2_with (first | ((with_reducible refine gate_callee (f := 97) rfl ?_); refine goesL_ (some 70) rfl rfl Tryz.func97 (by kernel_rfl) rfl #[.int .u64 (add64c t135 0 0), .int .u64 (add64s t135 0 0), .bool true] rfl zL ?_; (with_reducible refine (wide_signed.calls kj9 (add64c t135 0 0) (add64s t135 0 0) true t138 _ (by have h := A17.out; rw [hsvb0] at h; exact h)).mono ?_); rintro e w' ⟨rfl, ⟨nd, rfl⟩⟩; refine ⟨_, rfl, ?_⟩))
       go_ret
       exact ⟨zT, zW⟩
   ·have hsvb0 : (t132 != (decide (a2 < 0))) = false := hsv
    have hsvb2 : (t132 == (decide (a2 < 0))) = true := by simpa using hsv
    have HC10 := Aside0.mk H
    clear H
    go_enter Tryz.func71, Tryz.ntmps71
    go_upto_region 11 with (first | ((with_reducible refine gate_callee (f := 95) rfl ?_); refine goesL_ (some 21) rfl rfl Tryz.func95 (by kernel_rfl) rfl #[.int .i64 a0, .int .i64 a1] rfl zL ?_; (with_reducible refine (wide_product.calls a0 a1 t130 t131 t132 _ A5.out).mono ?_); rintro e w' ⟨rfl, ⟨nd, rfl⟩⟩; refine ⟨_, rfl, ?_⟩) | ((with_reducible refine gate_callee (f := 96) rfl ?_); refine goesL_ (some 26) rfl rfl Tryz.func96 (by kernel_rfl) rfl #[.int .i64 a2] rfl zL ?_; (with_reducible refine (wide_size.calls a2 t133 _ A6.out).mono ?_); rintro e w' ⟨rfl, ⟨nd, rfl⟩⟩; refine ⟨_, rfl, ?_⟩) | ((with_reducible refine gate_callee (f := 98) rfl ?_); refine goesL_ (some 40) rfl rfl Tryz.func98 (by kernel_rfl) rfl #[.int .u64 t130, .int .u64 t131, .int .u64 t133] rfl zL ?_; (with_reducible refine (bits_Div64.calls k t130 t131 t133 t135 t136 _ A9.out).mono ?_); rintro e w' ⟨rfl, ⟨nd, rfl⟩⟩; refine ⟨_, rfl, ?_⟩))
    (try simp only [Act.put, List.setIfInBounds_toArray, List.set_cons_zero, List.set_cons_succ])
    go_cut [60] (fun v60 wc => ∃ (kq : Nat) (x60_9 : Bool), v60 = .bool x60_9 ∧ Aside0 (wide_MulDiv.j0 kq (t132 != (decide (a2 < 0))) t135 0 x60_9 = some r) ∧ Aside0 (kq ≤ k) ∧ Drawn0 w wc)
    case first =>
     have H := HC10.out
     clear HC10
     by_cases c11 : (t132 != (decide (a2 < 0))) = true
     ·rw [if_pos c11] at H
      have c11b0 : (t132 != (decide (a2 < 0))) = true := c11
      exact absurd (hsvb0.symm.trans c11b0) (by decide)
     ·rw [if_neg c11] at H
      have c11b0 : (t132 != (decide (a2 < 0))) = false := by simpa using c11
      (try (have c11b1 : decide (t132 = (decide (a2 < 0))) = true := by simpa using c11))
      (try (have c11b2 : (t132 == (decide (a2 < 0))) = true := by simpa using c11))
      clear c11
      (first | rw [c11b0] | (simp only [i64_w, i32_w]; rw [c11b0]) | skip)
      by_cases c14 : ((t132 != (decide (a2 < 0))) = true)
      ·rw [if_pos c14] at H
       have c14b0 : (t132 != (decide (a2 < 0))) = true := c14
       exact absurd (hsvb0.symm.trans c14b0) (by decide)
      ·rw [if_neg c14] at H
       have c14b0 : (t132 != (decide (a2 < 0))) = false := by simpa using c14
       (try (have c14b1 : decide (t132 = (decide (a2 < 0))) = true := by simpa using c14))
       (try (have c14b2 : (t132 == (decide (a2 < 0))) = true := by simpa using c14))
       clear c14
       have H' := Aside0.mk H
       clear H
       go_wp2
       go_meet
       case rel => exact ⟨_, (decide (t136 ≥ (IntKind.u64.wrap (t133 - t136)))), zT, H', ⟨by first | omega | exact Nat.le_refl _⟩, zW⟩
    case rest =>
     clear HC10
     obtain ⟨kq, x60_9, rfl, HA, HJ9, ⟨mc9, rfl⟩⟩ := hcut
     cases kq with
     | zero => exact absurd HA.out (by simp [wide_MulDiv.j0])
     | succ kj9 =>
      have H := HA.out
      clear HA
      simp only [wide_MulDiv.j0] at H
      by_cases c15 : x60_9 = true
      ·subst c15
       rw [if_pos rfl] at H; try dsimp only at H
       replace H := zO H
       obtain ⟨t137, A16, H⟩ := H
       try dsimp only at H
       obtain rfl := Option.some.inj H
       go_wp2_with (first | ((with_reducible refine gate_callee (f := 97) rfl ?_); refine goesL_ (some 70) rfl rfl Tryz.func97 (by kernel_rfl) rfl #[.int .u64 (add64c t135 1 0), .int .u64 (add64s t135 1 0), .bool false] rfl zL ?_; (with_reducible refine (wide_signed.calls kj9 (add64c t135 1 0) (add64s t135 1 0) false t137 _ (by have h := A16.out; rw [hsvb0] at h; exact h)).mono ?_); rintro e w' ⟨rfl, ⟨nd, rfl⟩⟩; refine ⟨_, rfl, ?_⟩))
       go_ret
       exact ⟨zT, zW⟩
      ·replace c15 := Bool.eq_false_iff.mpr c15
       subst c15
       rw [if_neg (show ¬ (false = true) by decide)] at H; try dsimp only at H
       replace H := zO H
       obtain ⟨t138, A17, H⟩ := H
       try dsimp only at H
       obtain rfl := Option.some.inj H
       go_wp2_with (first | ((with_reducible refine gate_callee (f := 97) rfl ?_); refine goesL_ (some 70) rfl rfl Tryz.func97 (by kernel_rfl) rfl #[.int .u64 (add64c t135 0 0), .int .u64 (add64s t135 0 0), .bool false] rfl zL ?_; (with_reducible refine (wide_signed.calls kj9 (add64c t135 0 0) (add64s t135 0 0) false t138 _ (by have h := A17.out; rw [hsvb0] at h; exact h)).mono ?_); rintro e w' ⟨rfl, ⟨nd, rfl⟩⟩; refine ⟨_, rfl, ?_⟩))
       go_ret
       exact ⟨zT, zW⟩
def raw_Keys.j0 : Nat → Int → Int → Bool → Option (Int)
 | 0, _, _, _ => none
 | k + 1, x0, x1, x23 => if x23 = true then (some 0) else (if (mx x0 (wrap64 (-x0))) ≥ x1 then ((wide_MulDiv.f k (wrap64 ((wrap64 ((wrap64 ((wrap64 ((wrap64 ((wrap64 (-(mx x0 (wrap64 (-x0))))) * (mx x0 (wrap64 (-x0))))) * (mx x0 (wrap64 (-x0))))) + (wrap64 ((wrap64 ((wrap64 (5 * (mx x0 (wrap64 (-x0))))) * (mx x0 (wrap64 (-x0))))) * x1)))) - (wrap64 ((wrap64 ((wrap64 (8 * (mx x0 (wrap64 (-x0))))) * x1)) * x1)))) + (wrap64 ((wrap64 ((wrap64 (4 * x1)) * x1)) * x1)))) 1073741824 (wrap64 ((wrap64 ((wrap64 (2 * x1)) * x1)) * x1))).bind fun t139 => (some t139)) else ((wide_MulDiv.f k (wrap64 ((wrap64 ((wrap64 ((wrap64 ((wrap64 (3 * (mx x0 (wrap64 (-x0))))) * (mx x0 (wrap64 (-x0))))) * (mx x0 (wrap64 (-x0))))) - (wrap64 ((wrap64 ((wrap64 (5 * (mx x0 (wrap64 (-x0))))) * (mx x0 (wrap64 (-x0))))) * x1)))) + (wrap64 ((wrap64 ((wrap64 (2 * x1)) * x1)) * x1)))) 1073741824 (wrap64 ((wrap64 ((wrap64 (2 * x1)) * x1)) * x1))).bind fun t140 => (some t140)))
def raw_Keys.f (k : Nat) (a0 a1 : Int) : Option (Int) := if a1 < 1 then (raw_Keys.j0 k a0 a1 true) else (if a1 > 262144 then (raw_Keys.j0 k a0 a1 true) else (if a0 ≥ (wrap64 (2 * a1)) then (raw_Keys.j0 k a0 a1 true) else (raw_Keys.j0 k a0 a1 (decide (a0 ≤ (wrap64 ((-2) * a1)))))))
theorem raw_Keys.mono_l : ∀ k, (∀ y0 y1 y2, LeO (raw_Keys.j0 k y0 y1 y2) (raw_Keys.j0 (k + 1) y0 y1 y2))
 | 0 => fun _ _ _ r h => by simp [raw_Keys.j0] at h
 | k + 1 => by
  have ih0 := raw_Keys.mono_l k
  ·intro y0 y1 y2
   unfold raw_Keys.j0
   repeat' (with_reducible first | exact ih0 _ _ _ | exact wide_MulDiv.mono _ _ _ _ | exact zM | refine LeO.ite ?_ ?_ | refine LeO.bind ?_ (fun _ => ?_))
theorem raw_Keys.mono : ∀ a0 a1 k, LeO (raw_Keys.f k a0 a1) (raw_Keys.f (k + 1) a0 a1) := by
 intro a0 a1 k
 have ih0 := raw_Keys.mono_l k
 unfold raw_Keys.f
 repeat' (with_reducible first | exact ih0 _ _ _ | exact wide_MulDiv.mono _ _ _ _ | exact zM | refine LeO.ite ?_ ?_ | refine LeO.bind ?_ (fun _ => ?_))
set_option maxHeartbeats 8000000 in
set_option maxRecDepth 100000 in
theorem raw_Keys.calls (k : Nat) (a0 a1 r : Int) (w : World) (h : raw_Keys.f k a0 a1 = some r) :
  Calls Tryz.prog 48 #[.int .i64 a0, .int .i64 a1] w fun e w' => e = .returned (.int .i64 r) ∧ Below w.heap.size w w' := by
 have HB := Aside0.mk (Below.refl w.heap.size w)
 have H := h
 clear h
 unfold raw_Keys.f at H
 have HC3 := Aside0.mk H
 clear H
 go_enter Tryz.func48, Tryz.ntmps48
 go_upto_region 1 with (fail)
 go_cut [23] (fun v23 wc => ∃ (kq : Nat) (x23_2 : Bool), v23 = .bool x23_2 ∧ Aside0 (raw_Keys.j0 kq a0 a1 x23_2 = some r) ∧ Aside0 (kq ≤ k) ∧ Aside0 (Below w.heap.size w wc))
 case first =>
  have H := HC3.out
  clear HC3
  by_cases c4 : a1 < 1
  ·rw [if_pos c4] at H
   have c4b0 := decide_eq_true c4
   clear c4
   (first | rw [c4b0] | (simp only [i64_w, i32_w]; rw [c4b0]) | skip)
   have H' := Aside0.mk H
   clear H
   go_wp2
   go_meet
   case rel => exact ⟨_, (true), zT, H', ⟨by first | omega | exact Nat.le_refl _⟩, ⟨zB⟩⟩
  ·rw [if_neg c4] at H
   have c4b0 := decide_eq_false c4
   clear c4
   (first | rw [c4b0] | (simp only [i64_w, i32_w]; rw [c4b0]) | skip)
   by_cases c5 : a1 > 262144
   ·rw [if_pos c5] at H
    have c5b0 := decide_eq_true c5
    clear c5
    have H' := Aside0.mk H
    clear H
    go_wp2
    go_meet
    case rel => exact ⟨_, (true), zT, H', ⟨by first | omega | exact Nat.le_refl _⟩, ⟨zB⟩⟩
   ·rw [if_neg c5] at H
    have c5b0 := decide_eq_false c5
    clear c5
    by_cases c6 : a0 ≥ (wrap64 (2 * a1))
    ·rw [if_pos c6] at H
     have c6b0 := decide_eq_true c6
     clear c6
     have H' := Aside0.mk H
     clear H
     go_wp2
     go_meet
     case rel => exact ⟨_, (true), zT, H', ⟨by first | omega | exact Nat.le_refl _⟩, ⟨zB⟩⟩
    ·rw [if_neg c6] at H
     have c6b0 := decide_eq_false c6
     clear c6
     have H' := Aside0.mk H
     clear H
     go_wp2
     go_meet
     case rel => exact ⟨_, (decide (a0 ≤ (wrap64 ((-2) * a1)))), zT, H', ⟨by first | omega | exact Nat.le_refl _⟩, ⟨zB⟩⟩
 case rest =>
  clear HC3
  obtain ⟨kq, x23_2, rfl, HA, HJ2, HB⟩ := hcut
  cases kq with
  | zero => exact absurd HA.out (by simp [raw_Keys.j0])
  | succ kj2 =>
   have H := HA.out
   clear HA
   simp only [raw_Keys.j0] at H
   by_cases c7 : x23_2 = true
   ·subst c7
    rw [if_pos rfl] at H; try dsimp only at H
    obtain rfl := Option.some.inj H
    go_wp2
    go_ret
    exact ⟨zS, zB⟩
   ·replace c7 := Bool.eq_false_iff.mpr c7
    subst c7
    rw [if_neg (show ¬ (false = true) by decide)] at H; try dsimp only at H
    obtain ⟨ji8, hji8⟩ : ∃ j_ : Int, (mx a0 (wrap64 (-a0))) = j_ := ⟨_, rfl⟩
    replace H : (if (ji8) ≥ a1 then ((wide_MulDiv.f kj2 (wrap64 ((wrap64 ((wrap64 ((wrap64 ((wrap64 ((wrap64 (-(ji8))) * (ji8))) * (ji8))) + (wrap64 ((wrap64 ((wrap64 (5 * (ji8))) * (ji8))) * a1)))) - (wrap64 ((wrap64 ((wrap64 (8 * (ji8))) * a1)) * a1)))) + (wrap64 ((wrap64 ((wrap64 (4 * a1)) * a1)) * a1)))) 1073741824 (wrap64 ((wrap64 ((wrap64 (2 * a1)) * a1)) * a1))).bind fun t139 => (some t139)) else ((wide_MulDiv.f kj2 (wrap64 ((wrap64 ((wrap64 ((wrap64 ((wrap64 (3 * (ji8))) * (ji8))) * (ji8))) - (wrap64 ((wrap64 ((wrap64 (5 * (ji8))) * (ji8))) * a1)))) + (wrap64 ((wrap64 ((wrap64 (2 * a1)) * a1)) * a1)))) 1073741824 (wrap64 ((wrap64 ((wrap64 (2 * a1)) * a1)) * a1))).bind fun t140 => (some t140))) = some r := by first | (rw [hji8] at H; exact H) | (simp only [hji8] at H ⊢; exact H)
    have hji8_ : (if a0 < (wrap64 (-a0)) then (wrap64 (-a0)) else a0) = ji8 := hji8
    by_cases c9 : (ji8) ≥ a1
    ·rw [if_pos c9] at H
     have c9b0 := decide_eq_true c9
     clear c9
     replace H := zO H
     obtain ⟨t139, A10, H⟩ := H
     try dsimp only at H
     obtain rfl := Option.some.inj H
     go_wp2_with (first | ((with_reducible refine gate_callee (f := 71) rfl ?_); refine goesL_ (some 85) rfl rfl Tryz.func71 (by kernel_rfl) rfl #[.int .i64 (wrap64 ((wrap64 ((wrap64 ((wrap64 ((wrap64 ((wrap64 (-(ji8))) * (ji8))) * (ji8))) + (wrap64 ((wrap64 ((wrap64 (5 * (ji8))) * (ji8))) * a1)))) - (wrap64 ((wrap64 ((wrap64 (8 * (ji8))) * a1)) * a1)))) + (wrap64 ((wrap64 ((wrap64 (4 * a1)) * a1)) * a1)))), .int .i64 1073741824, .int .i64 (wrap64 ((wrap64 ((wrap64 (2 * a1)) * a1)) * a1))] rfl (by (try simp only [List.map_toArray, List.map_cons, List.map_nil]); first | done | (simp only [hji8]; rfl) | (simp only [Int.tdiv_eq_ediv_of_nonneg hji8l]; rfl) | rfl | (simp only [List.length_drop, List.length_take]; rfl)) ?_; (with_reducible refine (wide_MulDiv.calls kj2 (wrap64 ((wrap64 ((wrap64 ((wrap64 ((wrap64 ((wrap64 (-(ji8))) * (ji8))) * (ji8))) + (wrap64 ((wrap64 ((wrap64 (5 * (ji8))) * (ji8))) * a1)))) - (wrap64 ((wrap64 ((wrap64 (8 * (ji8))) * a1)) * a1)))) + (wrap64 ((wrap64 ((wrap64 (4 * a1)) * a1)) * a1)))) 1073741824 (wrap64 ((wrap64 ((wrap64 (2 * a1)) * a1)) * a1)) t139 _ A10.out).mono ?_); rintro e w' ⟨rfl, ⟨nd, rfl⟩⟩; refine ⟨_, rfl, ?_⟩))
     go_ret
     exact ⟨by first | rfl | (simp [errW_none, errW_some] <;> rfl) | (simp only [← hji8]; first | rfl | (simp [errW_none, errW_some] <;> rfl)) | (simp [*, errW_none, errW_some] <;> rfl), zB⟩
    ·rw [if_neg c9] at H
     have c9b0 := decide_eq_false c9
     clear c9
     replace H := zO H
     obtain ⟨t140, A11, H⟩ := H
     try dsimp only at H
     obtain rfl := Option.some.inj H
     go_wp2_with (first | ((with_reducible refine gate_callee (f := 71) rfl ?_); refine goesL_ (some 85) rfl rfl Tryz.func71 (by kernel_rfl) rfl #[.int .i64 (wrap64 ((wrap64 ((wrap64 ((wrap64 ((wrap64 (3 * (ji8))) * (ji8))) * (ji8))) - (wrap64 ((wrap64 ((wrap64 (5 * (ji8))) * (ji8))) * a1)))) + (wrap64 ((wrap64 ((wrap64 (2 * a1)) * a1)) * a1)))), .int .i64 1073741824, .int .i64 (wrap64 ((wrap64 ((wrap64 (2 * a1)) * a1)) * a1))] rfl (by (try simp only [List.map_toArray, List.map_cons, List.map_nil]); first | done | (simp only [hji8]; rfl) | (simp only [Int.tdiv_eq_ediv_of_nonneg hji8l]; rfl) | rfl | (simp only [List.length_drop, List.length_take]; rfl)) ?_; (with_reducible refine (wide_MulDiv.calls kj2 (wrap64 ((wrap64 ((wrap64 ((wrap64 ((wrap64 (3 * (ji8))) * (ji8))) * (ji8))) - (wrap64 ((wrap64 ((wrap64 (5 * (ji8))) * (ji8))) * a1)))) + (wrap64 ((wrap64 ((wrap64 (2 * a1)) * a1)) * a1)))) 1073741824 (wrap64 ((wrap64 ((wrap64 (2 * a1)) * a1)) * a1)) t140 _ A11.out).mono ?_); rintro e w' ⟨rfl, ⟨nd, rfl⟩⟩; refine ⟨_, rfl, ?_⟩))
     go_ret
     exact ⟨by first | rfl | (simp [errW_none, errW_some] <;> rfl) | (simp only [← hji8]; first | rfl | (simp [errW_none, errW_some] <;> rfl)) | (simp [*, errW_none, errW_some] <;> rfl), zB⟩
end Go.Proofs.YtebipmdopdogkaaGreatDoor.QA

namespace Go.Proofs.YtebipmdopdogkaaGreatDoor.QA
open Go.Proofs.YtebipmdopdogkaaGreatDoor.T
open Go.RowKit Go.Proofs.YtebipmdopdogkaaGreatDoorW.PrintWords Go.Proofs.YtebipmdopdogkaaGreatDoorW.PrintLast Go.Proofs.YtebipmdopdogkaaGreatDoorW.PrintMore
attribute [local go_sem] ext_call max2_int min2_int max_two min_two
set_option linter.unusedVariables false
set_option linter.unusedSimpArgs false
def fixed_Shift.f (a0 a1 : Int) : Option (Int) := if a1 ≤ 0 then (some a0) else (if a1 ≥ 64 then (some 0) else (if 0 ≤ a1 then (if 0 ≤ (wrap64 (a1 - 1)) then (some (wrap64 ((shr .i64 a0 a1) + (Go.bits .and .i64 (shr .i64 a0 (wrap64 (a1 - 1))) 1)))) else (none)) else (none)))
set_option maxHeartbeats 8000000 in
set_option maxRecDepth 100000 in
theorem fixed_Shift.calls (a0 a1 r : Int) (w : World) (h : fixed_Shift.f a0 a1 = some r) :
  Calls Tryz.prog 108 #[.int .i64 a0, .int .i64 a1] w fun e w' => e = .returned (.int .i64 r) ∧ Drawn0 w w' := by
 have H := h
 clear h
 unfold fixed_Shift.f at H
 by_cases c3 : a1 ≤ 0
 ·rw [if_pos c3] at H
  have c3b0 := decide_eq_true c3
  clear c3
  obtain rfl := Option.some.inj H
  go_enter Tryz.func108, Tryz.ntmps108
  go_wp2
  repeat (go_quiet (fail); try go_wp2)
  go_ret
  exact ⟨zT, zW⟩
 ·rw [if_neg c3] at H
  have c3b0 := decide_eq_false c3
  clear c3
  by_cases c4 : a1 ≥ 64
  ·rw [if_pos c4] at H
   have c4b0 := decide_eq_true c4
   clear c4
   obtain rfl := Option.some.inj H
   go_enter Tryz.func108, Tryz.ntmps108
   go_wp2
   repeat (go_quiet (fail); try go_wp2)
   go_ret
   exact ⟨zT, zW⟩
  ·rw [if_neg c4] at H
   have c4b0 := decide_eq_false c4
   clear c4
   by_cases c5 : 0 ≤ a1
   ·rw [if_pos c5] at H
    have c5b0 := eq_true c5
    have c5b1 := decide_eq_true c5
    clear c5
    obtain ⟨ji6, hji6⟩ : ∃ j_ : Int, (shr .i64 a0 a1) = j_ := ⟨_, rfl⟩
    replace H : (if 0 ≤ (wrap64 (a1 - 1)) then (some (wrap64 ((ji6) + (Go.bits .and .i64 (shr .i64 a0 (wrap64 (a1 - 1))) 1)))) else (none)) = some r := by first | (rw [hji6] at H; exact H) | (simp only [hji6] at H ⊢; exact H)
    have hji6_ : (a0 / 2 ^ min a1.toNat 64) = ji6 := hji6
    have hji6z : a1 ≤ 64 → (a0 / 2 ^ a1.toNat) = ji6 := shr_small hji6
    obtain ⟨ji7, hji7⟩ : ∃ j_ : Int, (wrap64 (a1 - 1)) = j_ := ⟨_, rfl⟩
    replace H : (if 0 ≤ (ji7) then (some (wrap64 ((ji6) + (Go.bits .and .i64 (shr .i64 a0 (ji7)) 1)))) else (none)) = some r := by first | (rw [hji7] at H; exact H) | (simp only [hji7] at H ⊢; exact H)
    have hji7w : (IntKind.i64.wrap (a1 - 1)) = ji7 := (i64_w _).trans hji7
    by_cases c8 : 0 ≤ (ji7)
    ·rw [if_pos c8] at H
     have c8b0 := eq_true c8
     have c8b1 := decide_eq_true c8
     clear c8
     obtain ⟨ji9, hji9⟩ : ∃ j_ : Int, (shr .i64 a0 (ji7)) = j_ := ⟨_, rfl⟩
     replace H : (some (wrap64 ((ji6) + (Go.bits .and .i64 (ji9) 1)))) = some r := by first | (rw [hji9] at H; exact H) | (simp only [hji9] at H ⊢; exact H)
     have hji9_ : (a0 / 2 ^ min (ji7).toNat 64) = ji9 := hji9
     have hji9z : (ji7) ≤ 64 → (a0 / 2 ^ (ji7).toNat) = ji9 := shr_small hji9
     obtain rfl := Option.some.inj H
     go_enter Tryz.func108, Tryz.ntmps108
     go_wp2
     repeat (go_quiet (fail); try go_wp2)
     go_ret
     exact ⟨by first | rfl | (simp; done) | (simp only [← hji6, ← hji7, ← hji9] <;> (first | rfl | simp)) | (simp [*]; done), zW⟩
    ·rw [if_neg c8] at H
     exact absurd H (by simp)
   ·rw [if_neg c5] at H
    exact absurd H (by simp)
def sinc_May.f (a0 a1 : Int) : Option (Bool) := if a1 ≥ 1 then (if a1 ≤ 1048576 then (if a0 ≥ (wrap64 ((-4) * a1)) then (some (decide (a0 ≤ (wrap64 (4 * a1))))) else (some false)) else (some false)) else (some false)
set_option maxHeartbeats 8000000 in
set_option maxRecDepth 100000 in
theorem sinc_May.calls (a0 a1 : Int) (r : Bool) (w : World) (h : sinc_May.f a0 a1 = some r) :
  Calls Tryz.prog 115 #[.int .i64 a0, .int .i64 a1] w fun e w' => e = .returned (.bool r) ∧ Drawn0 w w' := by
 have H := h
 clear h
 unfold sinc_May.f at H
 by_cases c3 : a1 ≥ 1
 ·rw [if_pos c3] at H
  have c3b0 := decide_eq_true c3
  clear c3
  by_cases c4 : a1 ≤ 1048576
  ·rw [if_pos c4] at H
   have c4b0 := decide_eq_true c4
   clear c4
   by_cases c5 : a0 ≥ (wrap64 ((-4) * a1))
   ·rw [if_pos c5] at H
    have c5b0 := decide_eq_true c5
    clear c5
    obtain rfl := Option.some.inj H
    go_enter Tryz.func115, Tryz.ntmps115
    go_wp2
    go_ret
    exact ⟨zT, zW⟩
   ·rw [if_neg c5] at H
    have c5b0 := decide_eq_false c5
    clear c5
    obtain rfl := Option.some.inj H
    go_enter Tryz.func115, Tryz.ntmps115
    go_wp2
    go_ret
    exact ⟨zT, zW⟩
  ·rw [if_neg c4] at H
   have c4b0 := decide_eq_false c4
   clear c4
   obtain rfl := Option.some.inj H
   go_enter Tryz.func115, Tryz.ntmps115
   go_wp2
   go_ret
   exact ⟨zT, zW⟩
 ·rw [if_neg c3] at H
  have c3b0 := decide_eq_false c3
  clear c3
  obtain rfl := Option.some.inj H
  go_enter Tryz.func115, Tryz.ntmps115
  go_wp2
  go_ret
  exact ⟨zT, zW⟩
def sinc_size.f (a0 : Int) : Option (Int) := some (mx a0 (wrap64 (-a0)))
set_option maxHeartbeats 8000000 in
set_option maxRecDepth 100000 in
theorem sinc_size.calls (a0 r : Int) (w : World) (h : sinc_size.f a0 = some r) :
  Calls Tryz.prog 116 #[.int .i64 a0] w fun e w' => e = .returned (.int .i64 r) ∧ Below w.heap.size w w' := by
 have HB := Aside0.mk (Below.refl w.heap.size w)
 have H := h
 clear h
 unfold sinc_size.f at H
 obtain ⟨ji2, hji2⟩ : ∃ j_ : Int, (mx a0 (wrap64 (-a0))) = j_ := ⟨_, rfl⟩
 replace H : (some ji2) = some r := by first | (rw [hji2] at H; exact H) | (simp only [hji2] at H ⊢; exact H)
 have hji2_ : (if a0 < (wrap64 (-a0)) then (wrap64 (-a0)) else a0) = ji2 := hji2
 obtain rfl := Option.some.inj H
 go_enter Tryz.func116, Tryz.ntmps116
 go_wp2
 go_ret
 exact ⟨by first | rfl | (simp [errW_none, errW_some] <;> rfl) | (simp only [← hji2]; first | rfl | (simp [errW_none, errW_some] <;> rfl)) | (simp [*, errW_none, errW_some] <;> rfl), zB⟩
def wide_shift.f (a0 a1 a2 : Int) : Option (Int × Int) := if a2 ≥ 64 then (if 0 ≤ (wrap64 (a2 - 64)) then (some (0, shr .u64 a0 (wrap64 (a2 - 64)))) else (none)) else (if 0 ≤ a2 then (if 0 ≤ (wrap64 (64 - a2)) then (some (shr .u64 a0 a2, Go.bits .or .u64 (shr .u64 a1 a2) (shl .u64 a0 (wrap64 (64 - a2))))) else (none)) else (none))
set_option maxHeartbeats 8000000 in
set_option maxRecDepth 100000 in
theorem wide_shift.calls (a0 a1 a2 r1 r2 : Int) (w : World) (h : wide_shift.f a0 a1 a2 = some (r1, r2)) :
  Calls Tryz.prog 126 #[.int .u64 a0, .int .u64 a1, .int .i64 a2] w fun e w' => e = .returned (.tuple #[.int .u64 r1, .int .u64 r2]) ∧ Drawn0 w w' := by
 have H := h
 clear h
 unfold wide_shift.f at H
 by_cases c4 : a2 ≥ 64
 ·rw [if_pos c4] at H
  have c4b0 := decide_eq_true c4
  clear c4
  obtain ⟨ji5, hji5⟩ : ∃ j_ : Int, (wrap64 (a2 - 64)) = j_ := ⟨_, rfl⟩
  replace H : (if 0 ≤ (ji5) then (some (0, shr .u64 a0 (ji5))) else (none)) = some (r1, r2) := by first | (rw [hji5] at H; exact H) | (simp only [hji5] at H ⊢; exact H)
  have hji5w : (IntKind.i64.wrap (a2 - 64)) = ji5 := (i64_w _).trans hji5
  by_cases c6 : 0 ≤ (ji5)
  ·rw [if_pos c6] at H
   have c6b0 := eq_true c6
   have c6b1 := decide_eq_true c6
   clear c6
   obtain ⟨ji7, hji7⟩ : ∃ j_ : Int, (shr .u64 a0 (ji5)) = j_ := ⟨_, rfl⟩
   replace H : (some (0, ji7)) = some (r1, r2) := by first | (rw [hji7] at H; exact H) | (simp only [hji7] at H ⊢; exact H)
   have hji7_ : (a0 / 2 ^ min (ji5).toNat 64) = ji7 := hji7
   have hji7z : (ji5) ≤ 64 → (a0 / 2 ^ (ji5).toNat) = ji7 := shr_small hji7
   simp only [Option.some.injEq, Prod.mk.injEq] at H
   obtain ⟨rfl, rfl⟩ := H
   go_enter Tryz.func126, Tryz.ntmps126
   go_wp2
   repeat (go_quiet (fail); try go_wp2)
   go_ret2
   exact ⟨by first | rfl | (simp; done) | (simp only [← hji5, ← hji7] <;> (first | rfl | simp)) | (simp [*]; done), zW⟩
  ·rw [if_neg c6] at H
   exact absurd H (by simp)
 ·rw [if_neg c4] at H
  have c4b0 := decide_eq_false c4
  clear c4
  by_cases c8 : 0 ≤ a2
  ·rw [if_pos c8] at H
   have c8b0 := eq_true c8
   have c8b1 := decide_eq_true c8
   clear c8
   obtain ⟨ji9, hji9⟩ : ∃ j_ : Int, (shr .u64 a0 a2) = j_ := ⟨_, rfl⟩
   replace H : (if 0 ≤ (wrap64 (64 - a2)) then (some (ji9, Go.bits .or .u64 (shr .u64 a1 a2) (shl .u64 a0 (wrap64 (64 - a2))))) else (none)) = some (r1, r2) := by first | (rw [hji9] at H; exact H) | (simp only [hji9] at H ⊢; exact H)
   have hji9_ : (a0 / 2 ^ min a2.toNat 64) = ji9 := hji9
   have hji9z : a2 ≤ 64 → (a0 / 2 ^ a2.toNat) = ji9 := shr_small hji9
   have c10b0 := eq_true (of_decide_eq_true (by first | (with_reducible assumption) | assumption) : 0 ≤ a2)
   obtain ⟨ji11, hji11⟩ : ∃ j_ : Int, (shr .u64 a1 a2) = j_ := ⟨_, rfl⟩
   replace H : (if 0 ≤ (wrap64 (64 - a2)) then (some (ji9, Go.bits .or .u64 (ji11) (shl .u64 a0 (wrap64 (64 - a2))))) else (none)) = some (r1, r2) := by first | (rw [hji11] at H; exact H) | (simp only [hji11] at H ⊢; exact H)
   have hji11_ : (a1 / 2 ^ min a2.toNat 64) = ji11 := hji11
   have hji11z : a2 ≤ 64 → (a1 / 2 ^ a2.toNat) = ji11 := shr_small hji11
   obtain ⟨ji12, hji12⟩ : ∃ j_ : Int, (wrap64 (64 - a2)) = j_ := ⟨_, rfl⟩
   replace H : (if 0 ≤ (ji12) then (some (ji9, Go.bits .or .u64 (ji11) (shl .u64 a0 (ji12)))) else (none)) = some (r1, r2) := by first | (rw [hji12] at H; exact H) | (simp only [hji12] at H ⊢; exact H)
   have hji12w : (IntKind.i64.wrap (64 - a2)) = ji12 := (i64_w _).trans hji12
   by_cases c13 : 0 ≤ (ji12)
   ·rw [if_pos c13] at H
    have c13b0 := eq_true c13
    have c13b1 := decide_eq_true c13
    clear c13
    obtain ⟨ji14, hji14⟩ : ∃ j_ : Int, (shl .u64 a0 (ji12)) = j_ := ⟨_, rfl⟩
    replace H : (some (ji9, Go.bits .or .u64 (ji11) (ji14))) = some (r1, r2) := by first | (rw [hji14] at H; exact H) | (simp only [hji14] at H ⊢; exact H)
    have hji14_ : (IntKind.u64.wrap (a0 * 2 ^ min (ji12).toNat 64)) = ji14 := hji14
    have hji14z : (ji12) ≤ 64 → (IntKind.u64.wrap (a0 * 2 ^ (ji12).toNat)) = ji14 := shl_small hji14
    simp only [Option.some.injEq, Prod.mk.injEq] at H
    obtain ⟨rfl, rfl⟩ := H
    go_enter Tryz.func126, Tryz.ntmps126
    go_wp2
    repeat (go_quiet (fail); try go_wp2)
    go_ret2
    exact ⟨by first | rfl | (simp; done) | (simp only [← hji9, ← hji11, ← hji12, ← hji14] <;> (first | rfl | simp)) | (simp [*]; done), zW⟩
   ·rw [if_neg c13] at H
    exact absurd H (by simp)
  ·rw [if_neg c8] at H
   exact absurd H (by simp)
def wide_exact.f (a0 a1 a2 : Int) : Option (Bool) := if a2 ≥ 64 then (if a1 = 0 then (if 0 ≤ (wrap64 (128 - a2)) then (some ((shl .u64 a0 (wrap64 (128 - a2))) == 0)) else (none)) else (some false)) else (if 0 ≤ (wrap64 (64 - a2)) then (some ((shl .u64 a1 (wrap64 (64 - a2))) == 0)) else (none))
set_option maxHeartbeats 8000000 in
set_option maxRecDepth 100000 in
theorem wide_exact.calls (a0 a1 a2 : Int) (r : Bool) (w : World) (h : wide_exact.f a0 a1 a2 = some r) :
  Calls Tryz.prog 127 #[.int .u64 a0, .int .u64 a1, .int .i64 a2] w fun e w' => e = .returned (.bool r) ∧ Drawn0 w w' := by
 have H := h
 clear h
 unfold wide_exact.f at H
 by_cases c4 : a2 ≥ 64
 ·rw [if_pos c4] at H
  have c4b0 := decide_eq_true c4
  clear c4
  by_cases c5 : a1 = 0
  ·rw [if_pos c5] at H
   have c5b0 : (a1 == 0) = true := beq_iff_eq.mpr c5
   have c5b1 : (a1 != 0) = false := bne_eq_false_iff_eq.mpr c5
   clear c5
   obtain ⟨ji6, hji6⟩ : ∃ j_ : Int, (wrap64 (128 - a2)) = j_ := ⟨_, rfl⟩
   replace H : (if 0 ≤ (ji6) then (some ((shl .u64 a0 (ji6)) == 0)) else (none)) = some r := by first | (rw [hji6] at H; exact H) | (simp only [hji6] at H ⊢; exact H)
   have hji6w : (IntKind.i64.wrap (128 - a2)) = ji6 := (i64_w _).trans hji6
   by_cases c7 : 0 ≤ (ji6)
   ·rw [if_pos c7] at H
    have c7b0 := eq_true c7
    have c7b1 := decide_eq_true c7
    clear c7
    obtain ⟨ji8, hji8⟩ : ∃ j_ : Int, (shl .u64 a0 (ji6)) = j_ := ⟨_, rfl⟩
    replace H : (some ((ji8) == 0)) = some r := by first | (rw [hji8] at H; exact H) | (simp only [hji8] at H ⊢; exact H)
    have hji8_ : (IntKind.u64.wrap (a0 * 2 ^ min (ji6).toNat 64)) = ji8 := hji8
    have hji8z : (ji6) ≤ 64 → (IntKind.u64.wrap (a0 * 2 ^ (ji6).toNat)) = ji8 := shl_small hji8
    obtain rfl := Option.some.inj H
    go_enter Tryz.func127, Tryz.ntmps127
    go_wp2
    go_ret
    exact ⟨by first | rfl | (simp; done) | (simp only [← hji6, ← hji8] <;> (first | rfl | simp)) | (simp [*]; done), zW⟩
   ·rw [if_neg c7] at H
    exact absurd H (by simp)
  ·rw [if_neg c5] at H
   have c5b0 : (a1 == 0) = false := beq_eq_false_iff_ne.mpr c5
   have c5b1 : (a1 != 0) = true := bne_iff_ne.mpr c5
   obtain rfl := Option.some.inj H
   go_enter Tryz.func127, Tryz.ntmps127
   go_wp2
   go_ret
   exact ⟨zT, zW⟩
 ·rw [if_neg c4] at H
  have c4b0 := decide_eq_false c4
  clear c4
  obtain ⟨ji9, hji9⟩ : ∃ j_ : Int, (wrap64 (64 - a2)) = j_ := ⟨_, rfl⟩
  replace H : (if 0 ≤ (ji9) then (some ((shl .u64 a1 (ji9)) == 0)) else (none)) = some r := by first | (rw [hji9] at H; exact H) | (simp only [hji9] at H ⊢; exact H)
  have hji9w : (IntKind.i64.wrap (64 - a2)) = ji9 := (i64_w _).trans hji9
  by_cases c10 : 0 ≤ (ji9)
  ·rw [if_pos c10] at H
   have c10b0 := eq_true c10
   have c10b1 := decide_eq_true c10
   clear c10
   obtain ⟨ji11, hji11⟩ : ∃ j_ : Int, (shl .u64 a1 (ji9)) = j_ := ⟨_, rfl⟩
   replace H : (some ((ji11) == 0)) = some r := by first | (rw [hji11] at H; exact H) | (simp only [hji11] at H ⊢; exact H)
   have hji11_ : (IntKind.u64.wrap (a1 * 2 ^ min (ji9).toNat 64)) = ji11 := hji11
   have hji11z : (ji9) ≤ 64 → (IntKind.u64.wrap (a1 * 2 ^ (ji9).toNat)) = ji11 := shl_small hji11
   obtain rfl := Option.some.inj H
   go_enter Tryz.func127, Tryz.ntmps127
   go_wp2
   go_ret
   exact ⟨by first | rfl | (simp; done) | (simp only [← hji9, ← hji11] <;> (first | rfl | simp)) | (simp [*]; done), zW⟩
  ·rw [if_neg c10] at H
   exact absurd H (by simp)
end Go.Proofs.YtebipmdopdogkaaGreatDoor.QA

namespace Go.Proofs.YtebipmdopdogkaaGreatDoor.QA
open Go.Proofs.YtebipmdopdogkaaGreatDoor.T
open Go.RowKit Go.Proofs.YtebipmdopdogkaaGreatDoorW.PrintWords Go.Proofs.YtebipmdopdogkaaGreatDoorW.PrintLast Go.Proofs.YtebipmdopdogkaaGreatDoorW.PrintMore
attribute [local go_sem] ext_call max2_int min2_int max_two min_two
set_option linter.unusedVariables false
set_option linter.unusedSimpArgs false
def wide_MulShift.j0 : Nat → Bool → Int → Int → Bool → Option (Int)
 | 0, _, _, _, _ => none
 | k + 1, x9, x10, x11, x59 => if x59 = true then ((wide_signed.f k x10 x11 x9).bind fun t150 => (some t150)) else ((wide_signed.f k (IntKind.u64.wrap (x10 + (add64c x11 1 0))) (add64s x11 1 0) x9).bind fun t151 => (some t151))
def wide_MulShift.f (k : Nat) (a0 a1 a2 : Int) : Option (Int) := if (mx 0 a2) ≥ 128 then (some 0) else ((wide_product.f a0 a1).bind fun bt141 => (if (mx 0 a2) = 0 then ((wide_signed.f k bt141.1 bt141.2.1 bt141.2.2).bind fun t144 => (some t144)) else ((wide_shift.f bt141.1 bt141.2.1 (mx 0 a2)).bind fun bt145 => ((wide_shift.f bt141.1 bt141.2.1 (wrap64 ((mx 0 a2) - 1))).bind fun bt147 => (if (Go.bits .and .u64 bt147.2 1) = 0 then (wide_MulShift.j0 k bt141.2.2 bt145.1 bt145.2 true) else (if bt141.2.2 = true then ((wide_exact.f bt141.1 bt141.2.1 (wrap64 ((mx 0 a2) - 1))).bind fun t149 => (wide_MulShift.j0 k bt141.2.2 bt145.1 bt145.2 t149)) else (wide_MulShift.j0 k bt141.2.2 bt145.1 bt145.2 false)))))))
theorem wide_MulShift.mono_l : ∀ k, (∀ y0 y1 y2 y3, LeO (wide_MulShift.j0 k y0 y1 y2 y3) (wide_MulShift.j0 (k + 1) y0 y1 y2 y3))
 | 0 => fun _ _ _ _ r h => by simp [wide_MulShift.j0] at h
 | k + 1 => by
  have ih0 := wide_MulShift.mono_l k
  ·intro y0 y1 y2 y3
   unfold wide_MulShift.j0
   repeat' (with_reducible first | exact ih0 _ _ _ _ | exact wide_signed.mono _ _ _ _ | exact zM | refine LeO.ite ?_ ?_ | refine LeO.bind ?_ (fun _ => ?_))
theorem wide_MulShift.mono : ∀ a0 a1 a2 k, LeO (wide_MulShift.f k a0 a1 a2) (wide_MulShift.f (k + 1) a0 a1 a2) := by
 intro a0 a1 a2 k
 have ih0 := wide_MulShift.mono_l k
 unfold wide_MulShift.f
 repeat' (with_reducible first | exact ih0 _ _ _ _ | exact wide_signed.mono _ _ _ _ | exact zM | refine LeO.ite ?_ ?_ | refine LeO.bind ?_ (fun _ => ?_))
set_option maxHeartbeats 8000000 in
set_option maxRecDepth 100000 in
theorem wide_MulShift.calls (k : Nat) (a0 a1 a2 r : Int) (w : World) (h : wide_MulShift.f k a0 a1 a2 = some r) :
  Calls Tryz.prog 117 #[.int .i64 a0, .int .i64 a1, .int .i64 a2] w fun e w' => e = .returned (.int .i64 r) ∧ Below w.heap.size w w' := by
 have HB := Aside0.mk (Below.refl w.heap.size w)
 have H := h
 clear h
 unfold wide_MulShift.f at H
 obtain ⟨ji4, hji4⟩ : ∃ j_ : Int, (mx 0 a2) = j_ := ⟨_, rfl⟩
 replace H : (if (ji4) ≥ 128 then (some 0) else ((wide_product.f a0 a1).bind fun bt141 => (if (ji4) = 0 then ((wide_signed.f k bt141.1 bt141.2.1 bt141.2.2).bind fun t144 => (some t144)) else ((wide_shift.f bt141.1 bt141.2.1 (ji4)).bind fun bt145 => ((wide_shift.f bt141.1 bt141.2.1 (wrap64 ((ji4) - 1))).bind fun bt147 => (if (Go.bits .and .u64 bt147.2 1) = 0 then (wide_MulShift.j0 k bt141.2.2 bt145.1 bt145.2 true) else (if bt141.2.2 = true then ((wide_exact.f bt141.1 bt141.2.1 (wrap64 ((ji4) - 1))).bind fun t149 => (wide_MulShift.j0 k bt141.2.2 bt145.1 bt145.2 t149)) else (wide_MulShift.j0 k bt141.2.2 bt145.1 bt145.2 false)))))))) = some r := by first | (rw [hji4] at H; exact H) | (simp only [hji4] at H ⊢; exact H)
 (try (have hji4l : 0 ≤ ji4 := by (rw [← hji4]; unfold mx; (repeat' split) <;> omega)))
 (try (have hji4m : 0 ≤ ji4 := by omega))
 have hji4_ : (if 0 < a2 then a2 else 0) = ji4 := hji4
 by_cases c5 : (ji4) ≥ 128
 ·rw [if_pos c5] at H
  have c5b0 := decide_eq_true c5
  clear c5
  obtain rfl := Option.some.inj H
  go_enter Tryz.func117, Tryz.ntmps117
  go_wp2
  go_ret
  exact ⟨by first | rfl | (simp [errW_none, errW_some] <;> rfl) | (simp only [← hji4]; first | rfl | (simp [errW_none, errW_some] <;> rfl)) | (simp [*, errW_none, errW_some] <;> rfl), zB⟩
 ·rw [if_neg c5] at H
  have c5b0 := decide_eq_false c5
  clear c5
  replace H := zO H
  obtain ⟨⟨t141, t142, t143⟩, A6, H⟩ := H
  try dsimp only at H
  by_cases c7 : (ji4) = 0
  ·rw [if_pos c7] at H
   have c7b0 : ((ji4) == 0) = true := beq_iff_eq.mpr c7
   have c7b1 : ((ji4) != 0) = false := bne_eq_false_iff_eq.mpr c7
   clear c7
   replace H := zO H
   obtain ⟨t144, A8, H⟩ := H
   try dsimp only at H
   obtain rfl := Option.some.inj H
   go_enter Tryz.func117, Tryz.ntmps117
   go_wp2_with (first | ((with_reducible refine gate_callee (f := 95) rfl ?_); refine goesL_ (some 22) rfl rfl Tryz.func95 (by kernel_rfl) rfl #[.int .i64 a0, .int .i64 a1] rfl zL ?_; (with_reducible refine (wide_product.calls a0 a1 t141 t142 t143 _ A6.out).mono ?_); rintro e w' ⟨rfl, ⟨nd, rfl⟩⟩; refine ⟨_, rfl, ?_⟩) | ((with_reducible refine gate_callee (f := 97) rfl ?_); refine goesL_ (some 31) rfl rfl Tryz.func97 (by kernel_rfl) rfl #[.int .u64 t141, .int .u64 t142, .bool t143] rfl zL ?_; (with_reducible refine (wide_signed.calls k t141 t142 t143 t144 _ A8.out).mono ?_); rintro e w' ⟨rfl, ⟨nd, rfl⟩⟩; refine ⟨_, rfl, ?_⟩))
   go_ret
   exact ⟨by first | rfl | (simp [errW_none, errW_some] <;> rfl) | (simp only [← hji4]; first | rfl | (simp [errW_none, errW_some] <;> rfl)) | (simp [*, errW_none, errW_some] <;> rfl), zB⟩
  ·rw [if_neg c7] at H
   have c7b0 : ((ji4) == 0) = false := beq_eq_false_iff_ne.mpr c7
   have c7b1 : ((ji4) != 0) = true := bne_iff_ne.mpr c7
   replace H := zO H
   obtain ⟨⟨t145, t146⟩, A9, H⟩ := H
   try dsimp only at H
   replace H := zO H
   obtain ⟨⟨t147, t148⟩, A10, H⟩ := H
   try dsimp only at H
   have HC11 := Aside0.mk H
   clear H
   go_enter Tryz.func117, Tryz.ntmps117
   go_upto_region 9 with (first | ((with_reducible refine gate_callee (f := 95) rfl ?_); refine goesL_ (some 22) rfl rfl Tryz.func95 (by kernel_rfl) rfl #[.int .i64 a0, .int .i64 a1] rfl zL ?_; (with_reducible refine (wide_product.calls a0 a1 t141 t142 t143 _ A6.out).mono ?_); rintro e w' ⟨rfl, ⟨nd, rfl⟩⟩; refine ⟨_, rfl, ?_⟩) | ((with_reducible refine gate_callee (f := 126) rfl ?_); refine goesL_ (some 36) rfl rfl Tryz.func126 (by kernel_rfl) rfl #[.int .u64 t141, .int .u64 t142, .int .i64 ji4] rfl (by (try simp only [List.map_toArray, List.map_cons, List.map_nil]); first | done | (simp only [hji4]; rfl) | (simp only [Int.tdiv_eq_ediv_of_nonneg hji4l]; rfl) | rfl | (simp only [List.length_drop, List.length_take]; rfl)) ?_; (with_reducible refine (wide_shift.calls t141 t142 ji4 t145 t146 _ A9.out).mono ?_); rintro e w' ⟨rfl, ⟨nd, rfl⟩⟩; refine ⟨_, rfl, ?_⟩) | ((with_reducible refine gate_callee (f := 126) rfl ?_); refine goesL_ (some 44) rfl rfl Tryz.func126 (by kernel_rfl) rfl #[.int .u64 t141, .int .u64 t142, .int .i64 (wrap64 ((ji4) - 1))] rfl (by (try simp only [List.map_toArray, List.map_cons, List.map_nil]); first | done | (simp only [hji4]; rfl) | (simp only [Int.tdiv_eq_ediv_of_nonneg hji4l]; rfl) | rfl | (simp only [List.length_drop, List.length_take]; rfl)) ?_; (with_reducible refine (wide_shift.calls t141 t142 (wrap64 ((ji4) - 1)) t147 t148 _ A10.out).mono ?_); rintro e w' ⟨rfl, ⟨nd, rfl⟩⟩; refine ⟨_, rfl, ?_⟩))
   (try simp only [Act.put, List.setIfInBounds_toArray, List.set_cons_zero, List.set_cons_succ])
   go_cut [59] (fun v59 wc => ∃ (kq : Nat) (x59_10 : Bool), v59 = .bool x59_10 ∧ Aside0 (wide_MulShift.j0 kq t143 t145 t146 x59_10 = some r) ∧ Aside0 (kq ≤ k) ∧ Aside0 (Below w.heap.size w wc))
   case first =>
    have H := HC11.out
    clear HC11
    by_cases c12 : (Go.bits .and .u64 t148 1) = 0
    ·rw [if_pos c12] at H
     have c12b0 : ((Go.bits .and .u64 t148 1) == 0) = true := beq_iff_eq.mpr c12
     have c12b1 : ((Go.bits .and .u64 t148 1) != 0) = false := bne_eq_false_iff_eq.mpr c12
     clear c12
     (first | rw [c12b0] | (simp only [i64_w, i32_w]; rw [c12b0]) | skip)
     have H' := Aside0.mk H
     clear H
     go_wp2
     go_meet
     case rel => exact ⟨_, (true), zT, H', ⟨by first | omega | exact Nat.le_refl _⟩, ⟨zB⟩⟩
    ·rw [if_neg c12] at H
     have c12b0 : ((Go.bits .and .u64 t148 1) == 0) = false := beq_eq_false_iff_ne.mpr c12
     have c12b1 : ((Go.bits .and .u64 t148 1) != 0) = true := bne_iff_ne.mpr c12
     (first | rw [c12b0] | (simp only [i64_w, i32_w]; rw [c12b0]) | skip)
     by_cases c13 : t143 = true
     ·subst c13
      rw [if_pos rfl] at H; try dsimp only at H
      replace H := zO H
      obtain ⟨t149, A14, H⟩ := H
      try dsimp only at H
      have H' := Aside0.mk H
      clear H
      go_wp2_with (first | (go_at_call 127; (with_reducible refine (wide_exact.calls t141 t142 (wrap64 ((ji4) - 1)) t149 _ A14.out).mono ?_); rintro e w' ⟨rfl, ⟨nd, rfl⟩⟩))
      go_meet
      case rel => exact ⟨_, (t149), zT, H', ⟨by first | omega | exact Nat.le_refl _⟩, ⟨zB⟩⟩
     ·replace c13 := Bool.eq_false_iff.mpr c13
      subst c13
      rw [if_neg (show ¬ (false = true) by decide)] at H; try dsimp only at H
      have H' := Aside0.mk H
      clear H
      go_wp2
      go_meet
      case rel => exact ⟨_, (false), zT, H', ⟨by first | omega | exact Nat.le_refl _⟩, ⟨zB⟩⟩
   case rest =>
    clear HC11
    obtain ⟨kq, x59_10, rfl, HA, HJ10, HB⟩ := hcut
    cases kq with
    | zero => exact absurd HA.out (by simp [wide_MulShift.j0])
    | succ kj10 =>
     have H := HA.out
     clear HA
     simp only [wide_MulShift.j0] at H
     by_cases c15 : x59_10 = true
     ·subst c15
      rw [if_pos rfl] at H; try dsimp only at H
      replace H := zO H
      obtain ⟨t150, A16, H⟩ := H
      try dsimp only at H
      obtain rfl := Option.some.inj H
      go_wp2_with (first | ((with_reducible refine gate_callee (f := 97) rfl ?_); refine goesL_ (some 63) rfl rfl Tryz.func97 (by kernel_rfl) rfl #[.int .u64 t145, .int .u64 t146, .bool t143] rfl zL ?_; (with_reducible refine (wide_signed.calls kj10 t145 t146 t143 t150 _ A16.out).mono ?_); rintro e w' ⟨rfl, ⟨nd, rfl⟩⟩; refine ⟨_, rfl, ?_⟩))
      go_ret
      exact ⟨by first | rfl | (simp [errW_none, errW_some] <;> rfl) | (simp only [← hji4]; first | rfl | (simp [errW_none, errW_some] <;> rfl)) | (simp [*, errW_none, errW_some] <;> rfl), zB⟩
     ·replace c15 := Bool.eq_false_iff.mpr c15
      subst c15
      rw [if_neg (show ¬ (false = true) by decide)] at H; try dsimp only at H
      replace H := zO H
      obtain ⟨t151, A17, H⟩ := H
      try dsimp only at H
      obtain rfl := Option.some.inj H
      go_wp2_with (first | ((with_reducible refine gate_callee (f := 97) rfl ?_); refine goesL_ (some 74) rfl rfl Tryz.func97 (by kernel_rfl) rfl #[.int .u64 (IntKind.u64.wrap (t145 + (add64c t146 1 0))), .int .u64 (add64s t146 1 0), .bool t143] rfl zL ?_; (with_reducible refine (wide_signed.calls kj10 (IntKind.u64.wrap (t145 + (add64c t146 1 0))) (add64s t146 1 0) t143 t151 _ A17.out).mono ?_); rintro e w' ⟨rfl, ⟨nd, rfl⟩⟩; refine ⟨_, rfl, ?_⟩))
      go_ret
      exact ⟨by first | rfl | (simp [errW_none, errW_some] <;> rfl) | (simp only [← hji4]; first | rfl | (simp [errW_none, errW_some] <;> rfl)) | (simp [*, errW_none, errW_some] <;> rfl), zB⟩
def sinc_series.l0 : Nat → Int → Int → Int → Int → Int → Option (Int)
 | 0, _, _, _, _, _ => none
 | k + 1, x5, x6, x7, x8, x9 => if x9 ≤ 30 then ((wide_MulDiv.f k x7 x5 (wrap64 ((wrap64 ((wrap64 (2 * x9)) * (wrap64 ((wrap64 (2 * x9)) + 1)))) * 1099511627776))).bind fun t155 => (sinc_series.l0 k x5 (wrap64 (x6 + (wrap64 ((wrap64 (-x8)) * t155)))) t155 (wrap64 (-x8)) (wrap64 (x9 + 1)))) else (some x6)
def sinc_series.f (k : Nat) (a0 a1 : Int) : Option (Int) := (sinc_size.f a0).bind fun t152 => ((wide_MulDiv.f k 10851744800547 t152 a1).bind fun t153 => ((wide_MulDiv.f k t153 t152 a1).bind fun t154 => (sinc_series.l0 k t154 1099511627776 1099511627776 1 1)))
theorem sinc_series.mono_l : ∀ k, (∀ y0 y1 y2 y3 y4, LeO (sinc_series.l0 k y0 y1 y2 y3 y4) (sinc_series.l0 (k + 1) y0 y1 y2 y3 y4))
 | 0 => fun _ _ _ _ _ r h => by simp [sinc_series.l0] at h
 | k + 1 => by
  have ih0 := sinc_series.mono_l k
  ·intro y0 y1 y2 y3 y4
   unfold sinc_series.l0
   repeat' (with_reducible first | exact ih0 _ _ _ _ _ | exact wide_MulDiv.mono _ _ _ _ | exact zM | refine LeO.ite ?_ ?_ | refine LeO.bind ?_ (fun _ => ?_))
theorem sinc_series.mono : ∀ a0 a1 k, LeO (sinc_series.f k a0 a1) (sinc_series.f (k + 1) a0 a1) := by
 intro a0 a1 k
 have ih0 := sinc_series.mono_l k
 unfold sinc_series.f
 repeat' (with_reducible first | exact ih0 _ _ _ _ _ | exact wide_MulDiv.mono _ _ _ _ | exact zM | refine LeO.ite ?_ ?_ | refine LeO.bind ?_ (fun _ => ?_))
set_option maxHeartbeats 8000000 in
set_option maxRecDepth 100000 in
theorem sinc_series.calls (k : Nat) (a0 a1 r : Int) (w : World) (h : sinc_series.f k a0 a1 = some r) :
  Calls Tryz.prog 118 #[.int .i64 a0, .int .i64 a1] w fun e w' => e = .returned (.int .i64 r) ∧ Below w.heap.size w w' := by
 have HB := Aside0.mk (Below.refl w.heap.size w)
 have H := h
 clear h
 unfold sinc_series.f at H
 replace H := zO H
 obtain ⟨t152, A3, H⟩ := H
 try dsimp only at H
 replace H := zO H
 obtain ⟨t153, A4, H⟩ := H
 try dsimp only at H
 replace H := zO H
 obtain ⟨t154, A5, H⟩ := H
 try dsimp only at H
 have H' := Aside0.mk H
 clear H
 go_enter Tryz.func118, Tryz.ntmps118
 go_wp2_with (first | ((with_reducible refine gate_callee (f := 116) rfl ?_); refine goesL_ (some 11) rfl rfl Tryz.func116 (by kernel_rfl) rfl #[.int .i64 a0] rfl zL ?_; (with_reducible refine (sinc_size.calls a0 t152 _ A3.out).mono ?_); rintro e w6 ⟨rfl, hb⟩; refine ⟨_, rfl, ?_⟩; replace HB := Aside0.mk (below_step zB hb); (try clear hb)) | ((with_reducible refine gate_callee (f := 71) rfl ?_); refine goesL_ (some 14) rfl rfl Tryz.func71 (by kernel_rfl) rfl #[.int .i64 10851744800547, .int .i64 t152, .int .i64 a1] rfl zL ?_; (with_reducible refine (wide_MulDiv.calls k 10851744800547 t152 a1 t153 _ A4.out).mono ?_); rintro e w' ⟨rfl, ⟨nd, rfl⟩⟩; refine ⟨_, rfl, ?_⟩) | ((with_reducible refine gate_callee (f := 71) rfl ?_); refine goesL_ (some 17) rfl rfl Tryz.func71 (by kernel_rfl) rfl #[.int .i64 t153, .int .i64 t152, .int .i64 a1] rfl zL ?_; (with_reducible refine (wide_MulDiv.calls k t153 t152 a1 t154 _ A5.out).mono ?_); rintro e w' ⟨rfl, ⟨nd, rfl⟩⟩; refine ⟨_, rfl, ?_⟩))
 go_loopg [6, 7, 8, 9] k (fun kq v6 v7 v8 v9 w' => ∃ (x6_1 : Int) (x7_1 : Int) (x8_1 : Int) (x9_1 : Int), v6 = .int .i64 x6_1 ∧ v7 = .int .i64 x7_1 ∧ v8 = .int .i64 x8_1 ∧ v9 = .int .i64 x9_1 ∧ Aside0 (sinc_series.l0 kq t154 x6_1 x7_1 x8_1 x9_1 = some r) ∧ Aside0 (kq ≤ k) ∧ Aside0 (Below w.heap.size w w'))
 case atStart => exact ⟨(1099511627776), (1099511627776), (1), (1), zT, zT, zT, zT, H', ⟨Nat.le_refl _⟩, ⟨zB⟩⟩
 case round =>
  clear H'
  obtain ⟨x6_1, x7_1, x8_1, x9_1, rfl, rfl, rfl, rfl, HA, HK1, HB⟩ := hrel
  cases gk with
  | zero => exact absurd HA.out (by simp [sinc_series.l0])
  | succ k1 =>
   have H := HA.out
   clear HA
   simp only [sinc_series.l0] at H
   by_cases c7 : x9_1 ≤ 30
   ·rw [if_pos c7] at H
    have c7b0 := decide_eq_true c7
    clear c7
    replace H := zO H
    obtain ⟨t155, A8, H⟩ := H
    try dsimp only at H
    have H' := Aside0.mk H
    clear H
    go_wp2_with (first | ((with_reducible refine gate_callee (f := 71) rfl ?_); refine goesL_ (some 33) rfl rfl Tryz.func71 (by kernel_rfl) rfl #[.int .i64 x7_1, .int .i64 t154, .int .i64 (wrap64 ((wrap64 ((wrap64 (2 * x9_1)) * (wrap64 ((wrap64 (2 * x9_1)) + 1)))) * 1099511627776))] rfl zL ?_; (with_reducible refine (wide_MulDiv.calls k1 x7_1 t154 (wrap64 ((wrap64 ((wrap64 (2 * x9_1)) * (wrap64 ((wrap64 (2 * x9_1)) + 1)))) * 1099511627776)) t155 _ A8.out).mono ?_); rintro e w' ⟨rfl, ⟨nd, rfl⟩⟩; refine ⟨_, rfl, ?_⟩))
    go_roundg k1
    case measure => have := HK1.out; omega
    case rel => exact ⟨(wrap64 (x6_1 + (wrap64 ((wrap64 (-x8_1)) * t155)))), (t155), (wrap64 (-x8_1)), (wrap64 (x9_1 + 1)), zT, zT, zT, zT, H', ⟨by have := HK1.out; omega⟩, ⟨zB⟩⟩
   ·rw [if_neg c7] at H
    have c7b0 := decide_eq_false c7
    clear c7
    obtain rfl := Option.some.inj H
    go_wp2
    go_ret
    exact ⟨zS, zB⟩
end Go.Proofs.YtebipmdopdogkaaGreatDoor.QA

namespace Go.Proofs.YtebipmdopdogkaaGreatDoor.QA
open Go.Proofs.YtebipmdopdogkaaGreatDoor.T
open Go.RowKit Go.Proofs.YtebipmdopdogkaaGreatDoorW.PrintWords Go.Proofs.YtebipmdopdogkaaGreatDoorW.PrintLast Go.Proofs.YtebipmdopdogkaaGreatDoorW.PrintMore
attribute [local go_sem] ext_call max2_int min2_int max_two min_two
set_option linter.unusedVariables false
set_option linter.unusedSimpArgs false
def sinc_Lanczos.j0 : Nat → Int → Int → Bool → Option (Int)
 | 0, _, _, _ => none
 | k + 1, x0, x1, x15 => if x15 = true then (some 0) else ((sinc_series.f k x0 x1).bind fun t158 => ((sinc_series.f k x0 (wrap64 (3 * x1))).bind fun t159 => ((wide_MulShift.f k t158 t159 40).bind fun t160 => ((fixed_Shift.f t160 10).bind fun t161 => (some t161)))))
def sinc_Lanczos.f (k : Nat) (a0 a1 : Int) : Option (Int) := (sinc_May.f a0 a1).bind fun t156 => (if t156 = true then ((sinc_size.f a0).bind fun t157 => (sinc_Lanczos.j0 k a0 a1 (decide (t157 ≥ (wrap64 (3 * a1)))))) else (sinc_Lanczos.j0 k a0 a1 true))
theorem sinc_Lanczos.mono_l : ∀ k, (∀ y0 y1 y2, LeO (sinc_Lanczos.j0 k y0 y1 y2) (sinc_Lanczos.j0 (k + 1) y0 y1 y2))
 | 0 => fun _ _ _ r h => by simp [sinc_Lanczos.j0] at h
 | k + 1 => by
  have ih0 := sinc_Lanczos.mono_l k
  ·intro y0 y1 y2
   unfold sinc_Lanczos.j0
   repeat' (with_reducible first | exact ih0 _ _ _ | exact sinc_series.mono _ _ _ | exact wide_MulShift.mono _ _ _ _ | exact zM | refine LeO.ite ?_ ?_ | refine LeO.bind ?_ (fun _ => ?_))
theorem sinc_Lanczos.mono : ∀ a0 a1 k, LeO (sinc_Lanczos.f k a0 a1) (sinc_Lanczos.f (k + 1) a0 a1) := by
 intro a0 a1 k
 have ih0 := sinc_Lanczos.mono_l k
 unfold sinc_Lanczos.f
 repeat' (with_reducible first | exact ih0 _ _ _ | exact sinc_series.mono _ _ _ | exact wide_MulShift.mono _ _ _ _ | exact zM | refine LeO.ite ?_ ?_ | refine LeO.bind ?_ (fun _ => ?_))
set_option maxHeartbeats 8000000 in
set_option maxRecDepth 100000 in
theorem sinc_Lanczos.calls (k : Nat) (a0 a1 r : Int) (w : World) (h : sinc_Lanczos.f k a0 a1 = some r) :
  Calls Tryz.prog 94 #[.int .i64 a0, .int .i64 a1] w fun e w' => e = .returned (.int .i64 r) ∧ Below w.heap.size w w' := by
 have HB := Aside0.mk (Below.refl w.heap.size w)
 have H := h
 clear h
 unfold sinc_Lanczos.f at H
 have HC3 := Aside0.mk H
 clear H
 go_enter Tryz.func94, Tryz.ntmps94
 go_upto_region 1 with (fail)
 go_cut [15] (fun v15 wc => ∃ (kq : Nat) (x15_2 : Bool), v15 = .bool x15_2 ∧ Aside0 (sinc_Lanczos.j0 kq a0 a1 x15_2 = some r) ∧ Aside0 (kq ≤ k) ∧ Aside0 (Below w.heap.size w wc))
 case first =>
  have H := HC3.out
  clear HC3
  replace H := zO H
  obtain ⟨t156, A4, H⟩ := H
  try dsimp only at H
  by_cases c5 : t156 = true
  ·subst c5
   rw [if_pos rfl] at H; try dsimp only at H
   replace H := zO H
   obtain ⟨t157, A6, H⟩ := H
   try dsimp only at H
   have H' := Aside0.mk H
   clear H
   go_wp2_with (first | ((with_reducible refine gate_callee (f := 115) rfl ?_); refine goesL_ (some 7) rfl rfl Tryz.func115 (by kernel_rfl) rfl #[.int .i64 a0, .int .i64 a1] rfl zL ?_; (with_reducible refine (sinc_May.calls a0 a1 true _ A4.out).mono ?_); rintro e w' ⟨rfl, ⟨nd, rfl⟩⟩; refine ⟨_, rfl, ?_⟩) | (go_at_call 116; (with_reducible refine (sinc_size.calls a0 t157 _ A6.out).mono ?_); rintro e w7 ⟨rfl, hb⟩; replace HB := Aside0.mk (below_step zB hb); (try clear hb)))
   go_meet
   case rel => exact ⟨_, (decide (t157 ≥ (wrap64 (3 * a1)))), zT, H', ⟨by first | omega | exact Nat.le_refl _⟩, ⟨zB⟩⟩
  ·replace c5 := Bool.eq_false_iff.mpr c5
   subst c5
   rw [if_neg (show ¬ (false = true) by decide)] at H; try dsimp only at H
   have H' := Aside0.mk H
   clear H
   go_wp2_with (first | ((with_reducible refine gate_callee (f := 115) rfl ?_); refine goesL_ (some 7) rfl rfl Tryz.func115 (by kernel_rfl) rfl #[.int .i64 a0, .int .i64 a1] rfl zL ?_; (with_reducible refine (sinc_May.calls a0 a1 false _ A4.out).mono ?_); rintro e w' ⟨rfl, ⟨nd, rfl⟩⟩; refine ⟨_, rfl, ?_⟩))
   go_meet
   case rel => exact ⟨_, (true), zT, H', ⟨by first | omega | exact Nat.le_refl _⟩, ⟨zB⟩⟩
 case rest =>
  clear HC3
  obtain ⟨kq, x15_2, rfl, HA, HJ2, HB⟩ := hcut
  cases kq with
  | zero => exact absurd HA.out (by simp [sinc_Lanczos.j0])
  | succ kj2 =>
   have H := HA.out
   clear HA
   simp only [sinc_Lanczos.j0] at H
   by_cases c8 : x15_2 = true
   ·subst c8
    rw [if_pos rfl] at H; try dsimp only at H
    obtain rfl := Option.some.inj H
    go_wp2
    go_ret
    exact ⟨zS, zB⟩
   ·replace c8 := Bool.eq_false_iff.mpr c8
    subst c8
    rw [if_neg (show ¬ (false = true) by decide)] at H; try dsimp only at H
    replace H := zO H
    obtain ⟨t158, A9, H⟩ := H
    try dsimp only at H
    replace H := zO H
    obtain ⟨t159, A10, H⟩ := H
    try dsimp only at H
    replace H := zO H
    obtain ⟨t160, A11, H⟩ := H
    try dsimp only at H
    replace H := zO H
    obtain ⟨t161, A12, H⟩ := H
    try dsimp only at H
    obtain rfl := Option.some.inj H
    go_wp2_with (first | ((with_reducible refine gate_callee (f := 118) rfl ?_); refine goesL_ (some 18) rfl rfl Tryz.func118 (by kernel_rfl) rfl #[.int .i64 a0, .int .i64 a1] rfl zL ?_; (with_reducible refine (sinc_series.calls kj2 a0 a1 t158 _ A9.out).mono ?_); rintro e w13 ⟨rfl, hb⟩; refine ⟨_, rfl, ?_⟩; replace HB := Aside0.mk (below_step zB hb); (try clear hb)) | ((with_reducible refine gate_callee (f := 118) rfl ?_); refine goesL_ (some 22) rfl rfl Tryz.func118 (by kernel_rfl) rfl #[.int .i64 a0, .int .i64 (wrap64 (3 * a1))] rfl zL ?_; (with_reducible refine (sinc_series.calls kj2 a0 (wrap64 (3 * a1)) t159 _ A10.out).mono ?_); rintro e w14 ⟨rfl, hb⟩; refine ⟨_, rfl, ?_⟩; replace HB := Aside0.mk (below_step zB hb); (try clear hb)) | ((with_reducible refine gate_callee (f := 117) rfl ?_); refine goesL_ (some 23) rfl rfl Tryz.func117 (by kernel_rfl) rfl #[.int .i64 t158, .int .i64 t159, .int .i64 40] rfl zL ?_; (with_reducible refine (wide_MulShift.calls kj2 t158 t159 40 t160 _ A11.out).mono ?_); rintro e w15 ⟨rfl, hb⟩; refine ⟨_, rfl, ?_⟩; replace HB := Aside0.mk (below_step zB hb); (try clear hb)) | ((with_reducible refine gate_callee (f := 108) rfl ?_); refine goesL_ (some 24) rfl rfl Tryz.func108 (by kernel_rfl) rfl #[.int .i64 t160, .int .i64 10] rfl zL ?_; (with_reducible refine (fixed_Shift.calls t160 10 t161 _ A12.out).mono ?_); rintro e w' ⟨rfl, ⟨nd, rfl⟩⟩; refine ⟨_, rfl, ?_⟩))
    go_ret
    exact ⟨zS, zB⟩
def raw_weigh.f (k : Nat) (a0 a1 a2 a3 a4 : Int) : Option (Int) := if a0 = 0 then ((wide_MulDiv.f k (wrap64 ((mn (wrap64 ((wrap64 (a3 + 1)) * a1)) (wrap64 ((wrap64 (a4 + 1)) * a2))) - (mx (wrap64 (a3 * a1)) (wrap64 (a4 * a2))))) 1073741824 a1).bind fun t162 => (some t162)) else (if a0 = 1 then ((raw_Keys.f k (wrap64 ((wrap64 ((wrap64 ((wrap64 (2 * a2)) * a4)) - (wrap64 ((wrap64 ((wrap64 (2 * a3)) + 1)) * a1)))) + a2)) (wrap64 (2 * (mx a1 a2)))).bind fun t163 => (some t163)) else ((sinc_Lanczos.f k (wrap64 ((wrap64 ((wrap64 ((wrap64 (2 * a2)) * a4)) - (wrap64 ((wrap64 ((wrap64 (2 * a3)) + 1)) * a1)))) + a2)) (wrap64 (2 * (mx a1 a2)))).bind fun t164 => (some t164)))
theorem raw_weigh.mono : ∀ a0 a1 a2 a3 a4 k, LeO (raw_weigh.f k a0 a1 a2 a3 a4) (raw_weigh.f (k + 1) a0 a1 a2 a3 a4) := by
 intro a0 a1 a2 a3 a4 k
 unfold raw_weigh.f
 repeat' (with_reducible first | exact raw_Keys.mono _ _ _ | exact sinc_Lanczos.mono _ _ _ | exact wide_MulDiv.mono _ _ _ _ | exact zM | refine LeO.ite ?_ ?_ | refine LeO.bind ?_ (fun _ => ?_))
set_option maxHeartbeats 8000000 in
set_option maxRecDepth 100000 in
theorem raw_weigh.calls (k : Nat) (a0 a1 a2 a3 a4 r : Int) (w : World) (h : raw_weigh.f k a0 a1 a2 a3 a4 = some r) :
  Calls Tryz.prog 70 #[.int .i64 a0, .int .i64 a1, .int .i64 a2, .int .i64 a3, .int .i64 a4] w fun e w' => e = .returned (.int .i64 r) ∧ Below w.heap.size w w' := by
 have HB := Aside0.mk (Below.refl w.heap.size w)
 have H := h
 clear h
 unfold raw_weigh.f at H
 by_cases c6 : a0 = 0
 ·rw [if_pos c6] at H
  have c6b0 : (a0 == 0) = true := beq_iff_eq.mpr c6
  have c6b1 : (a0 != 0) = false := bne_eq_false_iff_eq.mpr c6
  clear c6
  obtain ⟨ji7, hji7⟩ : ∃ j_ : Int, (mn (wrap64 ((wrap64 (a3 + 1)) * a1)) (wrap64 ((wrap64 (a4 + 1)) * a2))) = j_ := ⟨_, rfl⟩
  replace H : ((wide_MulDiv.f k (wrap64 ((ji7) - (mx (wrap64 (a3 * a1)) (wrap64 (a4 * a2))))) 1073741824 a1).bind fun t162 => (some t162)) = some r := by first | (rw [hji7] at H; exact H) | (simp only [hji7] at H ⊢; exact H)
  have hji7_ : (if (wrap64 ((wrap64 (a4 + 1)) * a2)) < (wrap64 ((wrap64 (a3 + 1)) * a1)) then (wrap64 ((wrap64 (a4 + 1)) * a2)) else (wrap64 ((wrap64 (a3 + 1)) * a1))) = ji7 := hji7
  obtain ⟨ji8, hji8⟩ : ∃ j_ : Int, (mx (wrap64 (a3 * a1)) (wrap64 (a4 * a2))) = j_ := ⟨_, rfl⟩
  replace H : ((wide_MulDiv.f k (wrap64 ((ji7) - (ji8))) 1073741824 a1).bind fun t162 => (some t162)) = some r := by first | (rw [hji8] at H; exact H) | (simp only [hji8] at H ⊢; exact H)
  have hji8_ : (if (wrap64 (a3 * a1)) < (wrap64 (a4 * a2)) then (wrap64 (a4 * a2)) else (wrap64 (a3 * a1))) = ji8 := hji8
  replace H := zO H
  obtain ⟨t162, A9, H⟩ := H
  try dsimp only at H
  obtain rfl := Option.some.inj H
  go_enter Tryz.func70, Tryz.ntmps70
  go_wp2_with (first | ((with_reducible refine gate_callee (f := 71) rfl ?_); refine goesL_ (some 35) rfl rfl Tryz.func71 (by kernel_rfl) rfl #[.int .i64 (wrap64 ((ji7) - (ji8))), .int .i64 1073741824, .int .i64 a1] rfl (by (try simp only [List.map_toArray, List.map_cons, List.map_nil]); first | done | (simp only [hji7, hji8]; rfl) | rfl | (simp only [List.length_drop, List.length_take]; rfl)) ?_; (with_reducible refine (wide_MulDiv.calls k (wrap64 ((ji7) - (ji8))) 1073741824 a1 t162 _ A9.out).mono ?_); rintro e w' ⟨rfl, ⟨nd, rfl⟩⟩; refine ⟨_, rfl, ?_⟩))
  go_ret
  exact ⟨by first | rfl | (simp [errW_none, errW_some] <;> rfl) | (simp only [← hji7, ← hji8]; first | rfl | (simp [errW_none, errW_some] <;> rfl)) | (simp [*, errW_none, errW_some] <;> rfl), zB⟩
 ·rw [if_neg c6] at H
  have c6b0 : (a0 == 0) = false := beq_eq_false_iff_ne.mpr c6
  have c6b1 : (a0 != 0) = true := bne_iff_ne.mpr c6
  obtain ⟨ji10, hji10⟩ : ∃ j_ : Int, (mx a1 a2) = j_ := ⟨_, rfl⟩
  replace H : (if a0 = 1 then ((raw_Keys.f k (wrap64 ((wrap64 ((wrap64 ((wrap64 (2 * a2)) * a4)) - (wrap64 ((wrap64 ((wrap64 (2 * a3)) + 1)) * a1)))) + a2)) (wrap64 (2 * (ji10)))).bind fun t163 => (some t163)) else ((sinc_Lanczos.f k (wrap64 ((wrap64 ((wrap64 ((wrap64 (2 * a2)) * a4)) - (wrap64 ((wrap64 ((wrap64 (2 * a3)) + 1)) * a1)))) + a2)) (wrap64 (2 * (ji10)))).bind fun t164 => (some t164))) = some r := by first | (rw [hji10] at H; exact H) | (simp only [hji10] at H ⊢; exact H)
  have hji10_ : (if a1 < a2 then a2 else a1) = ji10 := hji10
  by_cases c11 : a0 = 1
  ·rw [if_pos c11] at H
   have c11b0 : (a0 == 1) = true := beq_iff_eq.mpr c11
   have c11b1 : (a0 != 1) = false := bne_eq_false_iff_eq.mpr c11
   clear c11
   replace H := zO H
   obtain ⟨t163, A12, H⟩ := H
   try dsimp only at H
   obtain rfl := Option.some.inj H
   go_enter Tryz.func70, Tryz.ntmps70
   go_wp2_with (first | ((with_reducible refine gate_callee (f := 48) rfl ?_); refine goesL_ (some 56) rfl rfl Tryz.func48 (by kernel_rfl) rfl #[.int .i64 (wrap64 ((wrap64 ((wrap64 ((wrap64 (2 * a2)) * a4)) - (wrap64 ((wrap64 ((wrap64 (2 * a3)) + 1)) * a1)))) + a2)), .int .i64 (wrap64 (2 * (ji10)))] rfl (by (try simp only [List.map_toArray, List.map_cons, List.map_nil]); first | done | (simp only [hji10]; rfl) | (simp only [Int.tdiv_eq_ediv_of_nonneg hji10l]; rfl) | rfl | (simp only [List.length_drop, List.length_take]; rfl)) ?_; (with_reducible refine (raw_Keys.calls k (wrap64 ((wrap64 ((wrap64 ((wrap64 (2 * a2)) * a4)) - (wrap64 ((wrap64 ((wrap64 (2 * a3)) + 1)) * a1)))) + a2)) (wrap64 (2 * (ji10))) t163 _ A12.out).mono ?_); rintro e w13 ⟨rfl, hb⟩; refine ⟨_, rfl, ?_⟩; replace HB := Aside0.mk (below_step zB hb); (try clear hb)))
   go_ret
   exact ⟨by first | rfl | (simp [errW_none, errW_some] <;> rfl) | (simp only [← hji10]; first | rfl | (simp [errW_none, errW_some] <;> rfl)) | (simp [*, errW_none, errW_some] <;> rfl), zB⟩
  ·rw [if_neg c11] at H
   have c11b0 : (a0 == 1) = false := beq_eq_false_iff_ne.mpr c11
   have c11b1 : (a0 != 1) = true := bne_iff_ne.mpr c11
   replace H := zO H
   obtain ⟨t164, A14, H⟩ := H
   try dsimp only at H
   obtain rfl := Option.some.inj H
   go_enter Tryz.func70, Tryz.ntmps70
   go_wp2_with (first | ((with_reducible refine gate_callee (f := 94) rfl ?_); refine goesL_ (some 59) rfl rfl Tryz.func94 (by kernel_rfl) rfl #[.int .i64 (wrap64 ((wrap64 ((wrap64 ((wrap64 (2 * a2)) * a4)) - (wrap64 ((wrap64 ((wrap64 (2 * a3)) + 1)) * a1)))) + a2)), .int .i64 (wrap64 (2 * (ji10)))] rfl (by (try simp only [List.map_toArray, List.map_cons, List.map_nil]); first | done | (simp only [hji10]; rfl) | (simp only [Int.tdiv_eq_ediv_of_nonneg hji10l]; rfl) | rfl | (simp only [List.length_drop, List.length_take]; rfl)) ?_; (with_reducible refine (sinc_Lanczos.calls k (wrap64 ((wrap64 ((wrap64 ((wrap64 (2 * a2)) * a4)) - (wrap64 ((wrap64 ((wrap64 (2 * a3)) + 1)) * a1)))) + a2)) (wrap64 (2 * (ji10))) t164 _ A14.out).mono ?_); rintro e w15 ⟨rfl, hb⟩; refine ⟨_, rfl, ?_⟩; replace HB := Aside0.mk (below_step zB hb); (try clear hb)))
   go_ret
   exact ⟨by first | rfl | (simp [errW_none, errW_some] <;> rfl) | (simp only [← hji10]; first | rfl | (simp [errW_none, errW_some] <;> rfl)) | (simp [*, errW_none, errW_some] <;> rfl), zB⟩
def raw_Row.l0 : Nat → Int → Int → Int → Int → Int → List Int → Int → Int → Option (Int × List Int)
 | 0, _, _, _, _, _, _, _, _ => none
 | k + 1, x0, x1, x2, x3, x8, x9, x20, x21 => if x21 < x20 then ((raw_weigh.f k x0 x1 x2 x3 (wrap64 (x8 + x21))).bind fun t167 => (if x9.length < 17592186044416 then (raw_Row.l0 k x0 x1 x2 x3 x8 (x9 ++ [t167]) x20 (wrap64 (x21 + 1))) else (none))) else (some (x8, x9))
def raw_Row.f (k : Nat) (a0 a1 a2 a3 : Int) : Option (Int × List Int) := (raw_Window.f k a0 a1 a2 a3).bind fun bt165 => (raw_Row.l0 k a0 a1 a2 a3 bt165.1 ([] : List Int) bt165.2 0)
theorem raw_Row.mono_l : ∀ k, (∀ y0 y1 y2 y3 y4 y5 y6 y7, LeO (raw_Row.l0 k y0 y1 y2 y3 y4 y5 y6 y7) (raw_Row.l0 (k + 1) y0 y1 y2 y3 y4 y5 y6 y7))
 | 0 => fun _ _ _ _ _ _ _ _ r h => by simp [raw_Row.l0] at h
 | k + 1 => by
  have ih0 := raw_Row.mono_l k
  ·intro y0 y1 y2 y3 y4 y5 y6 y7
   unfold raw_Row.l0
   repeat' (with_reducible first | exact ih0 _ _ _ _ _ _ _ _ | exact raw_Window.mono _ _ _ _ _ | exact raw_weigh.mono _ _ _ _ _ _ | exact zM | refine LeO.ite ?_ ?_ | refine LeO.bind ?_ (fun _ => ?_))
theorem raw_Row.mono : ∀ a0 a1 a2 a3 k, LeO (raw_Row.f k a0 a1 a2 a3) (raw_Row.f (k + 1) a0 a1 a2 a3) := by
 intro a0 a1 a2 a3 k
 have ih0 := raw_Row.mono_l k
 unfold raw_Row.f
 repeat' (with_reducible first | exact ih0 _ _ _ _ _ _ _ _ | exact raw_Window.mono _ _ _ _ _ | exact raw_weigh.mono _ _ _ _ _ _ | exact zM | refine LeO.ite ?_ ?_ | refine LeO.bind ?_ (fun _ => ?_))
set_option maxHeartbeats 8000000 in
set_option maxRecDepth 100000 in
theorem raw_Row.calls (k : Nat) (a0 a1 a2 a3 r1 : Int) (r2 : List Int) (w : World) (hG : GL w) (h : raw_Row.f k a0 a1 a2 a3 = some (r1, r2)) :
  Calls Tryz.prog 47 #[.int .i64 a0, .int .i64 a1, .int .i64 a2, .int .i64 a3] w fun e w' => ∃ v1_ : Value, e = .returned (.tuple #[.int .i64 r1, v1_]) ∧ Kd.R (Kd.int .i64) 2 w' w.heap.size (fun _ => True) v1_ r2 ∧ Below w.heap.size w w' := by
 have HB := Aside0.mk (Below.refl w.heap.size w)
 have H := h
 clear h
 unfold raw_Row.f at H
 replace H := zO H
 obtain ⟨⟨t165, t166⟩, A5, H⟩ := H
 try dsimp only at H
 have H' := Aside0.mk H
 clear H
 go_enter Tryz.func47, Tryz.ntmps47
 go_wp2_with (first | ((with_reducible refine gate_callee (f := 69) rfl ?_); refine goesL_ (some 17) rfl rfl Tryz.func69 (by kernel_rfl) rfl #[.int .i64 a0, .int .i64 a1, .int .i64 a2, .int .i64 a3] rfl zL ?_; (with_reducible refine (raw_Window.calls k a0 a1 a2 a3 t165 t166 _ (by exact GL.below hG (by repeat (first | (with_reducible first | exact HB.out | apply below_alloc | apply pw_below_drewN | apply below_drew1) | exact HB.out | exact Below.refl _ _))) A5.out).mono ?_); rintro e w6 ⟨rfl, hb⟩; refine ⟨_, rfl, ?_⟩; replace HB := Aside0.mk (below_step zB hb); (try clear hb)))
 go_loopg [9, 21] k (fun kq v9 v21 w' => ∃ (x9_1 : List Int) (x21_1 : Int), v21 = .int .i64 x21_1 ∧ Aside0 (raw_Row.l0 kq a0 a1 a2 a3 t165 x9_1 t166 x21_1 = some (r1, r2)) ∧ Aside0 (kq ≤ k) ∧ Aside0 (Kd.R (Kd.int .i64) 2 w' w.heap.size (fun _ => True) v9 x9_1) ∧ Aside0 (Below w.heap.size w w'))
 case atStart => exact ⟨(([] : List Int)), (0), zT, H', ⟨Nat.le_refl _⟩, ⟨by first | exact Kd.R_nil _ _ _ _ _ | exact Kd.N_nil _ _ _ _ _ | exact Kd.V_nil _ _ _ _ _ | exact Kd.Q_nil _ _ _ _ _ | exact Kd.S_nil _ _ _ _ _⟩, ⟨zB⟩⟩
 case round =>
  clear H'
  obtain ⟨x9_1, x21_1, rfl, HA, HK1, HO_9, HB⟩ := hrel
  cases gk with
  | zero => exact absurd HA.out (by simp [raw_Row.l0])
  | succ k1 =>
   have H := HA.out
   clear HA
   simp only [raw_Row.l0] at H
   by_cases c7 : x21_1 < t166
   ·rw [if_pos c7] at H
    have c7b0 := decide_eq_true c7
    clear c7
    replace H := zO H
    obtain ⟨t167, A8, H⟩ := H
    try dsimp only at H
    by_cases c9 : x9_1.length < 17592186044416
    ·rw [if_pos c9] at H
     have LMc9 := Aside0.mk c9
     clear c9
     obtain ⟨y168, hy168⟩ : ∃ y_ : List Int, y_ = (x9_1 ++ [t167]) := ⟨_, rfl⟩
     replace H : (raw_Row.l0 k1 a0 a1 a2 a3 t165 y168 t166 (wrap64 (x21_1 + 1))) = some (r1, r2) := by first | (rw [hy168]; with_reducible exact H) | (have H2_ := (Option.bind_some _ _).symm.trans H; rw [hy168]; with_reducible exact H2_) | (have H2_ := (Option.bind_some _ _).symm.trans H; with_reducible exact H2_) | with_reducible exact H | (rw [hy168]; exact H) | exact H
     have Ny168 := Aside0.mk hy168
     clear hy168
     have H' := Aside0.mk H
     clear H
     go_wp2_with (first | ((with_reducible refine gate_callee (f := 70) rfl ?_); refine goesL_ (some 32) rfl rfl Tryz.func70 (by kernel_rfl) rfl #[.int .i64 a0, .int .i64 a1, .int .i64 a2, .int .i64 a3, .int .i64 (wrap64 (t165 + x21_1))] rfl zL ?_; (with_reducible refine (raw_weigh.calls k1 a0 a1 a2 a3 (wrap64 (t165 + x21_1)) t167 _ A8.out).mono ?_); rintro e w10 ⟨rfl, hb⟩; refine ⟨_, rfl, ?_⟩; obtain ⟨HO_9, HB⟩ := zA2 (Kd.R_below (by (with_reducible repeat (first | apply Kd.R_alloc | apply Kd.R_drewN | apply Kd.R_drew)); exact HO_9.out) hb) (below_step zB hb); (try clear hb)) | ((with_reducible refine gate_builtin (b := .append) (xs := #[.tmp 24, .tmp 33]) rfl ?_); at_builtin; refine Kd.R_append (Kd.int .i64) (w0 := w) w.heap.size rfl (.tmp 24) (.tmp 33) 24 2 (.int .i64 0) 8 rfl Tryz.underlying24 info2 rfl (by decide) (by omega) u9 x9_1 t167 [.int .i64 t167] (fun _ => True) (fun _ => False) rfl rfl ?aP (fun _ hk => hk.elim) ?aF ?aO ?aB ?aS ?aL ?_; (case aP => exact rfl); (case aB => exact zB); (case aF => exact (fun _ _ => trivial)); (case aO => exact (by (with_reducible repeat (first | apply Kd.R_alloc | apply Kd.R_drewN | apply Kd.R_drew)); exact HO_9.out)); (case aS => exact (below_size zB)); (case aL => have := LMc9.out; omega); intro v169 w11 ho hb hg hat; rw [← Ny168.out] at ho; obtain ⟨HB, HO170⟩ := zA2 hb ho; clear ho hb hg hat))
     go_roundg k1
     case measure => have := HK1.out; omega
     case rel => exact ⟨(y168), (wrap64 (x21_1 + 1)), zT, H', ⟨by have := HK1.out; omega⟩, ⟨by (with_reducible repeat (first | apply Kd.R_alloc | apply Kd.R_drewN | apply Kd.R_drew)); exact HO170.out⟩, ⟨zB⟩⟩
    ·rw [if_neg c9] at H
     exact absurd H (by simp)
   ·rw [if_neg c7] at H
    have c7b0 := decide_eq_false c7
    clear c7
    simp only [Option.some.injEq, Prod.mk.injEq] at H
    obtain ⟨rfl, rfl⟩ := H
    go_wp2
    go_ret2
    exact ⟨_, zS, by (with_reducible repeat (first | apply Kd.R_alloc | apply Kd.R_drewN | apply Kd.R_drew)); exact HO_9.out, zB⟩
end Go.Proofs.YtebipmdopdogkaaGreatDoor.QA

namespace Go.Proofs.YtebipmdopdogkaaGreatDoor.QA
open Go.Proofs.YtebipmdopdogkaaGreatDoor.T
open Go.RowKit Go.Proofs.YtebipmdopdogkaaGreatDoorW.PrintWords Go.Proofs.YtebipmdopdogkaaGreatDoorW.PrintLast Go.Proofs.YtebipmdopdogkaaGreatDoorW.PrintMore
attribute [local go_sem] ext_call max2_int min2_int max_two min_two
set_option linter.unusedVariables false
set_option linter.unusedSimpArgs false
def taps_Apportion.f (a0 : List Int) : Option (List Int × Int) := appF a0
theorem taps_Apportion.calls (A0 : Option Addr) (c0 : Nat) (l0 r1 : List Int) (r2 : Int) (w : World) (hr0 : Kd.C (Kd.int .i64) w A0 l0.length l0) (hc0 : l0.length ≤ c0) (h : taps_Apportion.f l0 = some (r1, r2)) :
  Calls Tryz.prog 49 #[.slice A0 l0.length c0] w fun e w' => ∃ v0_ : Value, e = .returned (.tuple #[v0_, .int .i64 r2]) ∧ Kd.R (Kd.int .i64) 2 w' w.heap.size (fun _ => True) v0_ r1 ∧ Below w.heap.size w w' := appF_calls A0 c0 l0 r1 r2 w hr0 hc0 h
end Go.Proofs.YtebipmdopdogkaaGreatDoor.QA

namespace Go.Proofs.YtebipmdopdogkaaGreatDoor.QA
open Go.Proofs.YtebipmdopdogkaaGreatDoor.T
open Go.RowKit Go.Proofs.YtebipmdopdogkaaGreatDoorW.PrintWords Go.Proofs.YtebipmdopdogkaaGreatDoorW.PrintLast Go.Proofs.YtebipmdopdogkaaGreatDoorW.PrintMore
attribute [local go_sem] ext_call max2_int min2_int max_two min_two
set_option linter.unusedVariables false
set_option linter.unusedSimpArgs false
def table_side.f (a0 : Int) : Option (Bool) := if a0 ≥ 1 then (some (decide (a0 ≤ 65536))) else (some false)
set_option maxHeartbeats 8000000 in
set_option maxRecDepth 100000 in
theorem table_side.calls (a0 : Int) (r : Bool) (w : World) (h : table_side.f a0 = some r) :
  Calls Tryz.prog 51 #[.int .i64 a0] w fun e w' => e = .returned (.bool r) ∧ Drawn0 w w' := by
 have H := h
 clear h
 unfold table_side.f at H
 by_cases c2 : a0 ≥ 1
 ·rw [if_pos c2] at H
  have c2b0 := decide_eq_true c2
  clear c2
  obtain rfl := Option.some.inj H
  go_enter Tryz.func51, Tryz.ntmps51
  go_wp2
  go_ret
  exact ⟨zT, zW⟩
 ·rw [if_neg c2] at H
  have c2b0 := decide_eq_false c2
  clear c2
  obtain rfl := Option.some.inj H
  go_enter Tryz.func51, Tryz.ntmps51
  go_wp2
  go_ret
  exact ⟨zT, zW⟩
def taps_Size.l0 : Nat → Int → List Int → Int → Int → Option (Int)
 | 0, _, _, _, _ => none
 | k + 1, x3, x6, x7, x8 => if x8 < x7 then (if 0 ≤ x8 then (if x8 < (x6.length : Int) then ((taps_size.f k (rd x6 x8)).bind fun t181 => ((fixed_Add.f k x3 t181).bind fun t182 => (taps_Size.l0 k t182 x6 x7 (wrap64 (x8 + 1))))) else (none)) else (none)) else (some x3)
def taps_Size.f (k : Nat) (l0 : List Int) : Option (Int) := taps_Size.l0 k 0 l0 (l0.length : Int) 0
set_option maxHeartbeats 8000000 in
set_option maxRecDepth 100000 in
theorem taps_Size.calls (k : Nat) (A0 : Option Addr) (c0 : Nat) (l0 : List Int) (r : Int) (w : World) (hr0 : Kd.C (Kd.int .i64) w A0 l0.length l0) (hc0 : l0.length ≤ c0) (h : taps_Size.f k l0 = some r) :
  Calls Tryz.prog 80 #[.slice A0 l0.length c0] w fun e w' => e = .returned (.int .i64 r) ∧ Below w.heap.size w w' := by
 have HR0 := Aside0.mk hr0
 have HC0 := Aside0.mk hc0
 clear hr0 hc0
 have HB := Aside0.mk (Below.refl w.heap.size w)
 have H := h
 clear h
 unfold taps_Size.f at H
 have H' := Aside0.mk H
 clear H
 go_enter Tryz.func80, Tryz.ntmps80
 go_wp2
 go_loopg [3, 8] k (fun kq v3 v8 w' => ∃ (x3_1 : Int) (x8_1 : Int), v3 = .int .i64 x3_1 ∧ v8 = .int .i64 x8_1 ∧ Aside0 (taps_Size.l0 kq x3_1 l0 (l0.length : Int) x8_1 = some r) ∧ Aside0 (kq ≤ k) ∧ Aside0 (Below w.heap.size w w'))
 case atStart => exact ⟨(0), (0), zT, zT, H', ⟨Nat.le_refl _⟩, ⟨zB⟩⟩
 case round =>
  clear H'
  obtain ⟨x3_1, x8_1, rfl, rfl, HA, HK1, HB⟩ := hrel
  cases gk with
  | zero => exact absurd HA.out (by simp [taps_Size.l0])
  | succ k1 =>
   have H := HA.out
   clear HA
   simp only [taps_Size.l0] at H
   by_cases c2 : x8_1 < (l0.length : Int)
   ·rw [if_pos c2] at H
    have c2b0 := decide_eq_true c2
    clear c2
    by_cases c3 : 0 ≤ x8_1
    ·rw [if_pos c3] at H
     have c3b0 := decide_eq_true c3
     clear c3
     by_cases c4 : x8_1 < (l0.length : Int)
     ·rw [if_pos c4] at H
      have c4b0 := decide_eq_true c4
      clear c4
      replace H := zO H
      obtain ⟨t181, A5, H⟩ := H
      try dsimp only at H
      replace H := zO H
      obtain ⟨t182, A6, H⟩ := H
      try dsimp only at H
      have H' := Aside0.mk H
      clear H
      have p180 : 0 ≤ (x8_1 : Int) := of_decide_eq_true (by first | (with_reducible assumption) | assumption)
      have q180 : x8_1 < (l0.length : Int) := of_decide_eq_true (by first | (with_reducible assumption) | assumption)
      obtain ⟨ad180, e180, hx180_0⟩ := Kd.at_int HR0.out x8_1 p180 q180
      cases e180
      replace hx180_0 := (HB.out.cell (World.block_lt_of_cell? w _ hx180_0)).trans hx180_0
      replace p180 := eq_true p180
      replace q180 := eq_true q180
      go_wp2_with (first | ((with_reducible refine gate_callee (f := 102) rfl ?_); refine goesL_ (some 14) rfl rfl Tryz.func102 (by kernel_rfl) rfl #[.int .i64 (rd l0 x8_1)] rfl zL ?_; (with_reducible refine (taps_size.calls k1 (rd l0 x8_1) t181 _ A5.out).mono ?_); rintro e w7 ⟨rfl, hb⟩; refine ⟨_, rfl, ?_⟩; replace HB := Aside0.mk (below_step zB hb); (try clear hb)) | ((with_reducible refine gate_callee (f := 103) rfl ?_); refine goesL_ (some 15) rfl rfl Tryz.func103 (by kernel_rfl) rfl #[.int .i64 x3_1, .int .i64 t181] rfl zL ?_; (with_reducible refine (fixed_Add.calls k1 x3_1 t181 t182 _ A6.out).mono ?_); rintro e w' ⟨rfl, ⟨nd, rfl⟩⟩; refine ⟨_, rfl, ?_⟩))
      go_roundg k1
      case measure => have := HK1.out; omega
      case rel => exact ⟨(t182), (wrap64 (x8_1 + 1)), zT, zT, H', ⟨by have := HK1.out; omega⟩, ⟨zB⟩⟩
     ·rw [if_neg c4] at H
      exact absurd H (by simp)
    ·rw [if_neg c3] at H
     exact absurd H (by simp)
   ·rw [if_neg c2] at H
    have c2b0 := decide_eq_false c2
    clear c2
    obtain rfl := Option.some.inj H
    go_wp2
    go_ret
    exact ⟨zS, zB⟩
def expo_Exp.l0 : Nat → Int → Int → Int → Int → Int → Option (Int)
 | 0, _, _, _, _, _ => none
 | k + 1, x3, x4, x5, x6, x14 => if x14 < 16 then ((wide_MulDiv.f k x6 x4 (wrap64 ((wrap64 (x14 + 1)) * 1099511627776))).bind fun t183 => (if (Int.tmod x14 2) = 0 then (expo_Exp.l0 k x3 x4 (wrap64 (x5 - t183)) t183 (wrap64 (x14 + 1))) else (expo_Exp.l0 k x3 x4 (wrap64 (x5 + t183)) t183 (wrap64 (x14 + 1))))) else ((fixed_Shift.f x5 x3).bind fun t184 => (some t184))
def expo_Exp.f (k : Nat) (a0 : Int) : Option (Int) := expo_Exp.l0 k (wrap64 ((mx 0 a0) / 762123384786)) ((mx 0 a0) % 762123384786) 1099511627776 1099511627776 0
theorem expo_Exp.mono_l : ∀ k, (∀ y0 y1 y2 y3 y4, LeO (expo_Exp.l0 k y0 y1 y2 y3 y4) (expo_Exp.l0 (k + 1) y0 y1 y2 y3 y4))
 | 0 => fun _ _ _ _ _ r h => by simp [expo_Exp.l0] at h
 | k + 1 => by
  have ih0 := expo_Exp.mono_l k
  ·intro y0 y1 y2 y3 y4
   unfold expo_Exp.l0
   repeat' (with_reducible first | exact ih0 _ _ _ _ _ | exact wide_MulDiv.mono _ _ _ _ | exact zM | refine LeO.ite ?_ ?_ | refine LeO.bind ?_ (fun _ => ?_))
theorem expo_Exp.mono : ∀ a0 k, LeO (expo_Exp.f k a0) (expo_Exp.f (k + 1) a0) := by
 intro a0 k
 have ih0 := expo_Exp.mono_l k
 unfold expo_Exp.f
 repeat' (with_reducible first | exact ih0 _ _ _ _ _ | exact wide_MulDiv.mono _ _ _ _ | exact zM | refine LeO.ite ?_ ?_ | refine LeO.bind ?_ (fun _ => ?_))
set_option maxHeartbeats 8000000 in
set_option maxRecDepth 100000 in
theorem expo_Exp.calls (k : Nat) (a0 r : Int) (w : World) (h : expo_Exp.f k a0 = some r) :
  Calls Tryz.prog 109 #[.int .i64 a0] w fun e w' => e = .returned (.int .i64 r) ∧ Below w.heap.size w w' := by
 have HB := Aside0.mk (Below.refl w.heap.size w)
 have H := h
 clear h
 unfold expo_Exp.f at H
 obtain ⟨ji2, hji2⟩ : ∃ j_ : Int, (mx 0 a0) = j_ := ⟨_, rfl⟩
 replace H : (expo_Exp.l0 k (wrap64 ((ji2) / 762123384786)) ((ji2) % 762123384786) 1099511627776 1099511627776 0) = some r := by first | (rw [hji2] at H; exact H) | (simp only [hji2] at H ⊢; exact H)
 (try (have hji2l : 0 ≤ ji2 := by (rw [← hji2]; unfold mx; (repeat' split) <;> omega)))
 (try (have hji2m : 0 ≤ ji2 := by omega))
 have hji2_ : (if 0 < a0 then a0 else 0) = ji2 := hji2
 have H' := Aside0.mk H
 clear H
 go_enter Tryz.func109, Tryz.ntmps109
 go_wp2
 go_loopg [5, 6, 14] k (fun kq v5 v6 v14 w' => ∃ (x5_1 : Int) (x6_1 : Int) (x14_1 : Int), v5 = .int .i64 x5_1 ∧ v6 = .int .i64 x6_1 ∧ v14 = .int .i64 x14_1 ∧ Aside0 (expo_Exp.l0 kq (wrap64 ((ji2) / 762123384786)) ((ji2) % 762123384786) x5_1 x6_1 x14_1 = some r) ∧ Aside0 (kq ≤ k) ∧ Aside0 (Below w.heap.size w w'))
 case atStart => exact ⟨(1099511627776), (1099511627776), (0), zT, zT, zT, H', ⟨Nat.le_refl _⟩, ⟨zB⟩⟩
 case round =>
  clear H'
  obtain ⟨x5_1, x6_1, x14_1, rfl, rfl, rfl, HA, HK1, HB⟩ := hrel
  cases gk with
  | zero => exact absurd HA.out (by simp [expo_Exp.l0])
  | succ k1 =>
   have H := HA.out
   clear HA
   simp only [expo_Exp.l0] at H
   by_cases c3 : x14_1 < 16
   ·rw [if_pos c3] at H
    have c3b0 := decide_eq_true c3
    clear c3
    replace H := zO H
    obtain ⟨t183, A4, H⟩ := H
    try dsimp only at H
    by_cases c5 : (Int.tmod x14_1 2) = 0
    ·rw [if_pos c5] at H
     have c5b0 : ((Int.tmod x14_1 2) == 0) = true := beq_iff_eq.mpr c5
     have c5b1 : ((Int.tmod x14_1 2) != 0) = false := bne_eq_false_iff_eq.mpr c5
     clear c5
     have H' := Aside0.mk H
     clear H
     go_wp2_with (first | ((with_reducible refine gate_callee (f := 71) rfl ?_); refine goesL_ (some 22) rfl rfl Tryz.func71 (by kernel_rfl) rfl #[.int .i64 x6_1, .int .i64 ((ji2) % 762123384786), .int .i64 (wrap64 ((wrap64 (x14_1 + 1)) * 1099511627776))] rfl (by (try simp only [List.map_toArray, List.map_cons, List.map_nil]); first | done | (simp only [hji2]; rfl) | (simp only [Int.tdiv_eq_ediv_of_nonneg hji2l]; rfl) | rfl | (simp only [List.length_drop, List.length_take]; rfl)) ?_; (with_reducible refine (wide_MulDiv.calls k1 x6_1 ((ji2) % 762123384786) (wrap64 ((wrap64 (x14_1 + 1)) * 1099511627776)) t183 _ A4.out).mono ?_); rintro e w' ⟨rfl, ⟨nd, rfl⟩⟩; refine ⟨_, rfl, ?_⟩))
     go_roundg k1
     case measure => have := HK1.out; omega
     case rel => exact ⟨(wrap64 (x5_1 - t183)), (t183), (wrap64 (x14_1 + 1)), zT, zT, zT, H', ⟨by have := HK1.out; omega⟩, ⟨zB⟩⟩
    ·rw [if_neg c5] at H
     have c5b0 : ((Int.tmod x14_1 2) == 0) = false := beq_eq_false_iff_ne.mpr c5
     have c5b1 : ((Int.tmod x14_1 2) != 0) = true := bne_iff_ne.mpr c5
     have H' := Aside0.mk H
     clear H
     go_wp2_with (first | ((with_reducible refine gate_callee (f := 71) rfl ?_); refine goesL_ (some 22) rfl rfl Tryz.func71 (by kernel_rfl) rfl #[.int .i64 x6_1, .int .i64 ((ji2) % 762123384786), .int .i64 (wrap64 ((wrap64 (x14_1 + 1)) * 1099511627776))] rfl (by (try simp only [List.map_toArray, List.map_cons, List.map_nil]); first | done | (simp only [hji2]; rfl) | (simp only [Int.tdiv_eq_ediv_of_nonneg hji2l]; rfl) | rfl | (simp only [List.length_drop, List.length_take]; rfl)) ?_; (with_reducible refine (wide_MulDiv.calls k1 x6_1 ((ji2) % 762123384786) (wrap64 ((wrap64 (x14_1 + 1)) * 1099511627776)) t183 _ A4.out).mono ?_); rintro e w' ⟨rfl, ⟨nd, rfl⟩⟩; refine ⟨_, rfl, ?_⟩))
     go_roundg k1
     case measure => have := HK1.out; omega
     case rel => exact ⟨(wrap64 (x5_1 + t183)), (t183), (wrap64 (x14_1 + 1)), zT, zT, zT, H', ⟨by have := HK1.out; omega⟩, ⟨zB⟩⟩
   ·rw [if_neg c3] at H
    have c3b0 := decide_eq_false c3
    clear c3
    replace H := zO H
    obtain ⟨t184, A6, H⟩ := H
    try dsimp only at H
    obtain rfl := Option.some.inj H
    go_wp2_with (first | ((with_reducible refine gate_callee (f := 108) rfl ?_); refine goesL_ (some 35) rfl rfl Tryz.func108 (by kernel_rfl) rfl #[.int .i64 x5_1, .int .i64 (wrap64 ((ji2) / 762123384786))] rfl (by (try simp only [List.map_toArray, List.map_cons, List.map_nil]); first | done | (simp only [hji2]; rfl) | (simp only [Int.tdiv_eq_ediv_of_nonneg hji2l]; rfl) | rfl | (simp only [List.length_drop, List.length_take]; rfl)) ?_; (with_reducible refine (fixed_Shift.calls x5_1 (wrap64 ((ji2) / 762123384786)) t184 _ A6.out).mono ?_); rintro e w' ⟨rfl, ⟨nd, rfl⟩⟩; refine ⟨_, rfl, ?_⟩))
    go_ret
    exact ⟨by first | rfl | (simp [errW_none, errW_some] <;> rfl) | (simp only [← hji2]; first | rfl | (simp [errW_none, errW_some] <;> rfl)) | (simp [*, errW_none, errW_some] <;> rfl), zB⟩
def expo_Ratio.f (k : Nat) (a0 a1 : Int) : Option (Int) := if a1 < 1 then (some 9223372036854775807) else (if a1 > 4194304 then (some 9223372036854775807) else (if a0 < (-16384) then (some 9223372036854775807) else (if a0 > 16384 then (some 9223372036854775807) else ((wide_MulDiv.f k (wrap64 ((wrap64 (a0 * a0)) * 2147483648)) 1099511627776 (wrap64 (a1 * a1))).bind fun t185 => (some t185)))))
theorem expo_Ratio.mono : ∀ a0 a1 k, LeO (expo_Ratio.f k a0 a1) (expo_Ratio.f (k + 1) a0 a1) := by
 intro a0 a1 k
 unfold expo_Ratio.f
 repeat' (with_reducible first | exact wide_MulDiv.mono _ _ _ _ | exact zM | refine LeO.ite ?_ ?_ | refine LeO.bind ?_ (fun _ => ?_))
set_option maxHeartbeats 8000000 in
set_option maxRecDepth 100000 in
theorem expo_Ratio.calls (k : Nat) (a0 a1 r : Int) (w : World) (h : expo_Ratio.f k a0 a1 = some r) :
  Calls Tryz.prog 110 #[.int .i64 a0, .int .i64 a1] w fun e w' => e = .returned (.int .i64 r) ∧ Drawn0 w w' := by
 have H := h
 clear h
 unfold expo_Ratio.f at H
 by_cases c3 : a1 < 1
 ·rw [if_pos c3] at H
  have c3b0 := decide_eq_true c3
  clear c3
  obtain rfl := Option.some.inj H
  go_enter Tryz.func110, Tryz.ntmps110
  go_wp2
  go_ret
  exact ⟨zT, zW⟩
 ·rw [if_neg c3] at H
  have c3b0 := decide_eq_false c3
  clear c3
  by_cases c4 : a1 > 4194304
  ·rw [if_pos c4] at H
   have c4b0 := decide_eq_true c4
   clear c4
   obtain rfl := Option.some.inj H
   go_enter Tryz.func110, Tryz.ntmps110
   go_wp2
   go_ret
   exact ⟨zT, zW⟩
  ·rw [if_neg c4] at H
   have c4b0 := decide_eq_false c4
   clear c4
   by_cases c5 : a0 < (-16384)
   ·rw [if_pos c5] at H
    have c5b0 := decide_eq_true c5
    clear c5
    obtain rfl := Option.some.inj H
    go_enter Tryz.func110, Tryz.ntmps110
    go_wp2
    go_ret
    exact ⟨zT, zW⟩
   ·rw [if_neg c5] at H
    have c5b0 := decide_eq_false c5
    clear c5
    by_cases c6 : a0 > 16384
    ·rw [if_pos c6] at H
     have c6b0 := decide_eq_true c6
     clear c6
     obtain rfl := Option.some.inj H
     go_enter Tryz.func110, Tryz.ntmps110
     go_wp2
     go_ret
     exact ⟨zT, zW⟩
    ·rw [if_neg c6] at H
     have c6b0 := decide_eq_false c6
     clear c6
     replace H := zO H
     obtain ⟨t185, A7, H⟩ := H
     try dsimp only at H
     obtain rfl := Option.some.inj H
     go_enter Tryz.func110, Tryz.ntmps110
     go_wp2_with (first | ((with_reducible refine gate_callee (f := 71) rfl ?_); refine goesL_ (some 26) rfl rfl Tryz.func71 (by kernel_rfl) rfl #[.int .i64 (wrap64 ((wrap64 (a0 * a0)) * 2147483648)), .int .i64 1099511627776, .int .i64 (wrap64 (a1 * a1))] rfl zL ?_; (with_reducible refine (wide_MulDiv.calls k (wrap64 ((wrap64 (a0 * a0)) * 2147483648)) 1099511627776 (wrap64 (a1 * a1)) t185 _ A7.out).mono ?_); rintro e w' ⟨rfl, ⟨nd, rfl⟩⟩; refine ⟨_, rfl, ?_⟩))
     go_ret
     exact ⟨zT, zW⟩
def expo_Gauss.f (k : Nat) (a0 a1 : Int) : Option (Int) := (expo_Ratio.f k a0 a1).bind fun t186 => ((expo_Exp.f k t186).bind fun t187 => ((fixed_Shift.f t187 10).bind fun t188 => (some t188)))
theorem expo_Gauss.mono : ∀ a0 a1 k, LeO (expo_Gauss.f k a0 a1) (expo_Gauss.f (k + 1) a0 a1) := by
 intro a0 a1 k
 unfold expo_Gauss.f
 repeat' (with_reducible first | exact expo_Exp.mono _ _ | exact expo_Ratio.mono _ _ _ | exact zM | refine LeO.ite ?_ ?_ | refine LeO.bind ?_ (fun _ => ?_))
set_option maxHeartbeats 8000000 in
set_option maxRecDepth 100000 in
theorem expo_Gauss.calls (k : Nat) (a0 a1 r : Int) (w : World) (h : expo_Gauss.f k a0 a1 = some r) :
  Calls Tryz.prog 79 #[.int .i64 a0, .int .i64 a1] w fun e w' => e = .returned (.int .i64 r) ∧ Below w.heap.size w w' := by
 have HB := Aside0.mk (Below.refl w.heap.size w)
 have H := h
 clear h
 unfold expo_Gauss.f at H
 replace H := zO H
 obtain ⟨t186, A3, H⟩ := H
 try dsimp only at H
 replace H := zO H
 obtain ⟨t187, A4, H⟩ := H
 try dsimp only at H
 replace H := zO H
 obtain ⟨t188, A5, H⟩ := H
 try dsimp only at H
 obtain rfl := Option.some.inj H
 go_enter Tryz.func79, Tryz.ntmps79
 go_wp2_with (first | ((with_reducible refine gate_callee (f := 110) rfl ?_); refine goesL_ (some 7) rfl rfl Tryz.func110 (by kernel_rfl) rfl #[.int .i64 a0, .int .i64 a1] rfl zL ?_; (with_reducible refine (expo_Ratio.calls k a0 a1 t186 _ A3.out).mono ?_); rintro e w' ⟨rfl, ⟨nd, rfl⟩⟩; refine ⟨_, rfl, ?_⟩) | ((with_reducible refine gate_callee (f := 109) rfl ?_); refine goesL_ (some 8) rfl rfl Tryz.func109 (by kernel_rfl) rfl #[.int .i64 t186] rfl zL ?_; (with_reducible refine (expo_Exp.calls k t186 t187 _ A4.out).mono ?_); rintro e w6 ⟨rfl, hb⟩; refine ⟨_, rfl, ?_⟩; replace HB := Aside0.mk (below_step zB hb); (try clear hb)) | ((with_reducible refine gate_callee (f := 108) rfl ?_); refine goesL_ (some 9) rfl rfl Tryz.func108 (by kernel_rfl) rfl #[.int .i64 t187, .int .i64 10] rfl zL ?_; (with_reducible refine (fixed_Shift.calls t187 10 t188 _ A5.out).mono ?_); rintro e w' ⟨rfl, ⟨nd, rfl⟩⟩; refine ⟨_, rfl, ?_⟩))
 go_ret
 exact ⟨zS, zB⟩
end Go.Proofs.YtebipmdopdogkaaGreatDoor.QA

namespace Go.Proofs.YtebipmdopdogkaaGreatDoor.QA
open Go.Proofs.YtebipmdopdogkaaGreatDoor.T
open Go.RowKit Go.Proofs.YtebipmdopdogkaaGreatDoorW.PrintWords Go.Proofs.YtebipmdopdogkaaGreatDoorW.PrintLast Go.Proofs.YtebipmdopdogkaaGreatDoorW.PrintMore
attribute [local go_sem] ext_call max2_int min2_int max_two min_two
set_option linter.unusedVariables false
set_option linter.unusedSimpArgs false
mutual
def taps_Gaussian.j0 : Nat → Int → Bool → Option (List Int × Int)
 | 0, _, _ => none
 | k + 1, x0, x12 => if x12 = true then (some (([] : List Int), 7)) else (taps_Gaussian.l0 k x0 ((wrap64 ((wrap64 ((wrap64 (3 * x0)) + 65536)) - 1)) / 65536) ([] : List Int) (wrap64 (-((wrap64 ((wrap64 ((wrap64 (3 * x0)) + 65536)) - 1)) / 65536))))
def taps_Gaussian.l0 : Nat → Int → Int → List Int → Int → Option (List Int × Int)
 | 0, _, _, _, _ => none
 | k + 1, x0, x4, x5, x6 => if x6 ≤ x4 then ((expo_Gauss.f k x6 x0).bind fun t189 => (if x5.length < 17592186044416 then (taps_Gaussian.l0 k x0 x4 (x5 ++ [t189]) (wrap64 (x6 + 1))) else (none))) else (some (x5, 0))
end
def taps_Gaussian.f (k : Nat) (a0 : Int) : Option (List Int × Int) := if a0 < 1 then (taps_Gaussian.j0 k a0 true) else (taps_Gaussian.j0 k a0 (decide (a0 > 4194304)))
theorem taps_Gaussian.mono_l : ∀ k, (∀ y0 y1, LeO (taps_Gaussian.j0 k y0 y1) (taps_Gaussian.j0 (k + 1) y0 y1)) ∧ (∀ y0 y1 y2 y3, LeO (taps_Gaussian.l0 k y0 y1 y2 y3) (taps_Gaussian.l0 (k + 1) y0 y1 y2 y3))
 | 0 => ⟨fun _ _ r h => by simp [taps_Gaussian.j0] at h, fun _ _ _ _ r h => by simp [taps_Gaussian.l0] at h⟩
 | k + 1 => by
  obtain ⟨ih0, ih1⟩ := taps_Gaussian.mono_l k
  refine ⟨?_, ?_⟩
  ·intro y0 y1
   unfold taps_Gaussian.j0
   repeat' (with_reducible first | exact ih0 _ _ | exact ih1 _ _ _ _ | exact expo_Gauss.mono _ _ _ | exact zM | refine LeO.ite ?_ ?_ | refine LeO.bind ?_ (fun _ => ?_))
  ·intro y0 y1 y2 y3
   unfold taps_Gaussian.l0
   repeat' (with_reducible first | exact ih0 _ _ | exact ih1 _ _ _ _ | exact expo_Gauss.mono _ _ _ | exact zM | refine LeO.ite ?_ ?_ | refine LeO.bind ?_ (fun _ => ?_))
theorem taps_Gaussian.mono : ∀ a0 k, LeO (taps_Gaussian.f k a0) (taps_Gaussian.f (k + 1) a0) := by
 intro a0 k
 obtain ⟨ih0, ih1⟩ := taps_Gaussian.mono_l k
 unfold taps_Gaussian.f
 repeat' (with_reducible first | exact ih0 _ _ | exact ih1 _ _ _ _ | exact expo_Gauss.mono _ _ _ | exact zM | refine LeO.ite ?_ ?_ | refine LeO.bind ?_ (fun _ => ?_))
set_option maxHeartbeats 8000000 in
set_option maxRecDepth 100000 in
theorem taps_Gaussian.calls (k : Nat) (a0 : Int) (r1 : List Int) (r2 : Int) (w : World) (h : taps_Gaussian.f k a0 = some (r1, r2)) :
  Calls Tryz.prog 50 #[.int .i64 a0] w fun e w' => ∃ v0_ : Value, e = .returned (.tuple #[v0_, .int .i64 r2]) ∧ Kd.R (Kd.int .i64) 2 w' w.heap.size (fun _ => True) v0_ r1 ∧ Below w.heap.size w w' := by
 have HB := Aside0.mk (Below.refl w.heap.size w)
 have H := h
 clear h
 unfold taps_Gaussian.f at H
 have HC2 := Aside0.mk H
 clear H
 go_enter Tryz.func50, Tryz.ntmps50
 go_upto_region 1 with (fail)
 go_cut [12] (fun v12 wc => ∃ (kq : Nat) (x12_1 : Bool), v12 = .bool x12_1 ∧ Aside0 (taps_Gaussian.j0 kq a0 x12_1 = some (r1, r2)) ∧ Aside0 (kq ≤ k) ∧ Aside0 (Below w.heap.size w wc))
 case first =>
  have H := HC2.out
  clear HC2
  by_cases c3 : a0 < 1
  ·rw [if_pos c3] at H
   have c3b0 := decide_eq_true c3
   clear c3
   (first | rw [c3b0] | (simp only [i64_w, i32_w]; rw [c3b0]) | skip)
   have H' := Aside0.mk H
   clear H
   go_wp2
   go_meet
   case rel => exact ⟨_, (true), zT, H', ⟨by first | omega | exact Nat.le_refl _⟩, ⟨zB⟩⟩
  ·rw [if_neg c3] at H
   have c3b0 := decide_eq_false c3
   clear c3
   (first | rw [c3b0] | (simp only [i64_w, i32_w]; rw [c3b0]) | skip)
   have H' := Aside0.mk H
   clear H
   go_wp2
   go_meet
   case rel => exact ⟨_, (decide (a0 > 4194304)), zT, H', ⟨by first | omega | exact Nat.le_refl _⟩, ⟨zB⟩⟩
 case rest =>
  clear HC2
  obtain ⟨kq, x12_1, rfl, HA, HJ1, HB⟩ := hcut
  cases kq with
  | zero => exact absurd HA.out (by simp [taps_Gaussian.j0])
  | succ kj1 =>
   have H := HA.out
   clear HA
   simp only [taps_Gaussian.j0] at H
   by_cases c4 : x12_1 = true
   ·subst c4
    rw [if_pos rfl] at H; try dsimp only at H
    simp only [Option.some.injEq, Prod.mk.injEq] at H
    obtain ⟨rfl, rfl⟩ := H
    go_wp2
    go_ret2
    exact ⟨_, zS, by first | exact Kd.R_nil _ _ _ _ _ | exact Kd.N_nil _ _ _ _ _ | exact Kd.V_nil _ _ _ _ _ | exact Kd.Q_nil _ _ _ _ _ | exact Kd.S_nil _ _ _ _ _, zB⟩
   ·replace c4 := Bool.eq_false_iff.mpr c4
    subst c4
    rw [if_neg (show ¬ (false = true) by decide)] at H; try dsimp only at H
    have H' := Aside0.mk H
    clear H
    go_wp2
    go_loopg [5, 6] kj1 (fun kq v5 v6 w' => ∃ (x5_2 : List Int) (x6_2 : Int), v6 = .int .i64 x6_2 ∧ Aside0 (taps_Gaussian.l0 kq a0 ((wrap64 ((wrap64 ((wrap64 (3 * a0)) + 65536)) - 1)) / 65536) x5_2 x6_2 = some (r1, r2)) ∧ Aside0 (kq ≤ kj1) ∧ Aside0 (Kd.R (Kd.int .i64) 2 w' w.heap.size (fun _ => True) v5 x5_2) ∧ Aside0 (Below w.heap.size w w'))
    case atStart => exact ⟨(([] : List Int)), (wrap64 (-((wrap64 ((wrap64 ((wrap64 (3 * a0)) + 65536)) - 1)) / 65536))), zT, H', ⟨Nat.le_refl _⟩, ⟨by first | exact Kd.R_nil _ _ _ _ _ | exact Kd.N_nil _ _ _ _ _ | exact Kd.V_nil _ _ _ _ _ | exact Kd.Q_nil _ _ _ _ _ | exact Kd.S_nil _ _ _ _ _⟩, ⟨zB⟩⟩
    case round =>
     clear H'
     obtain ⟨x5_2, x6_2, rfl, HA, HK2, HO_5, HB⟩ := hrel
     cases gk with
     | zero => exact absurd HA.out (by simp [taps_Gaussian.l0])
     | succ k2 =>
      have H := HA.out
      clear HA
      simp only [taps_Gaussian.l0] at H
      by_cases c5 : x6_2 ≤ ((wrap64 ((wrap64 ((wrap64 (3 * a0)) + 65536)) - 1)) / 65536)
      ·rw [if_pos c5] at H
       have c5b0 := decide_eq_true c5
       clear c5
       replace H := zO H
       obtain ⟨t189, A6, H⟩ := H
       try dsimp only at H
       by_cases c7 : x5_2.length < 17592186044416
       ·rw [if_pos c7] at H
        have LMc7 := Aside0.mk c7
        clear c7
        obtain ⟨y190, hy190⟩ : ∃ y_ : List Int, y_ = (x5_2 ++ [t189]) := ⟨_, rfl⟩
        replace H : (taps_Gaussian.l0 k2 a0 ((wrap64 ((wrap64 ((wrap64 (3 * a0)) + 65536)) - 1)) / 65536) y190 (wrap64 (x6_2 + 1))) = some (r1, r2) := by first | (rw [hy190]; with_reducible exact H) | (have H2_ := (Option.bind_some _ _).symm.trans H; rw [hy190]; with_reducible exact H2_) | (have H2_ := (Option.bind_some _ _).symm.trans H; with_reducible exact H2_) | with_reducible exact H | (rw [hy190]; exact H) | exact H
        have Ny190 := Aside0.mk hy190
        clear hy190
        have H' := Aside0.mk H
        clear H
        go_wp2_with (first | ((with_reducible refine gate_callee (f := 79) rfl ?_); refine goesL_ (some 28) rfl rfl Tryz.func79 (by kernel_rfl) rfl #[.int .i64 x6_2, .int .i64 a0] rfl zL ?_; (with_reducible refine (expo_Gauss.calls k2 x6_2 a0 t189 _ A6.out).mono ?_); rintro e w8 ⟨rfl, hb⟩; refine ⟨_, rfl, ?_⟩; obtain ⟨HO_5, HB⟩ := zA2 (Kd.R_below (by (with_reducible repeat (first | apply Kd.R_alloc | apply Kd.R_drewN | apply Kd.R_drew)); exact HO_5.out) hb) (below_step zB hb); (try clear hb)) | ((with_reducible refine gate_builtin (b := .append) (xs := #[.tmp 25, .tmp 29]) rfl ?_); at_builtin; refine Kd.R_append (Kd.int .i64) (w0 := w) w.heap.size rfl (.tmp 25) (.tmp 29) 24 2 (.int .i64 0) 8 rfl Tryz.underlying24 info2 rfl (by decide) (by omega) u5 x5_2 t189 [.int .i64 t189] (fun _ => True) (fun _ => False) rfl rfl ?aP (fun _ hk => hk.elim) ?aF ?aO ?aB ?aS ?aL ?_; (case aP => exact rfl); (case aB => exact zB); (case aF => exact (fun _ _ => trivial)); (case aO => exact (by (with_reducible repeat (first | apply Kd.R_alloc | apply Kd.R_drewN | apply Kd.R_drew)); exact HO_5.out)); (case aS => exact (below_size zB)); (case aL => have := LMc7.out; omega); intro v191 w9 ho hb hg hat; rw [← Ny190.out] at ho; obtain ⟨HB, HO192⟩ := zA2 hb ho; clear ho hb hg hat))
        go_roundg k2
        case measure => have := HJ1.out; have := HK2.out; omega
        case rel => exact ⟨(y190), (wrap64 (x6_2 + 1)), zT, H', ⟨by have := HJ1.out; have := HK2.out; omega⟩, ⟨by (with_reducible repeat (first | apply Kd.R_alloc | apply Kd.R_drewN | apply Kd.R_drew)); exact HO192.out⟩, ⟨zB⟩⟩
       ·rw [if_neg c7] at H
        exact absurd H (by simp)
      ·rw [if_neg c5] at H
       have c5b0 := decide_eq_false c5
       clear c5
       simp only [Option.some.injEq, Prod.mk.injEq] at H
       obtain ⟨rfl, rfl⟩ := H
       go_wp2
       go_ret2
       exact ⟨_, zS, by (with_reducible repeat (first | apply Kd.R_alloc | apply Kd.R_drewN | apply Kd.R_drew)); exact HO_5.out, zB⟩
end Go.Proofs.YtebipmdopdogkaaGreatDoor.QA

namespace Go.Proofs.YtebipmdopdogkaaGreatDoor.QA
open Go.Proofs.YtebipmdopdogkaaGreatDoor.T
open Go.RowKit Go.Proofs.YtebipmdopdogkaaGreatDoorW.PrintWords Go.Proofs.YtebipmdopdogkaaGreatDoorW.PrintLast Go.Proofs.YtebipmdopdogkaaGreatDoorW.PrintMore
attribute [local go_sem] ext_call max2_int min2_int max_two min_two
set_option linter.unusedVariables false
set_option linter.unusedSimpArgs false
mutual
def taps_User.j0 : Nat → List Int → Int → Bool → Option (List Int × Int)
 | 0, _, _, _ => none
 | k + 1, x0, x4, x26 => if x26 = true then (some (([] : List Int), 7)) else (taps_User.l0 k x4 ([] : List Int) x0 (x0.length : Int) 0)
def taps_User.l0 : Nat → Int → List Int → List Int → Int → Int → Option (List Int × Int)
 | 0, _, _, _, _, _ => none
 | k + 1, x4, x5, x27, x28, x29 => if x29 < x28 then (if 0 ≤ x29 then (if x29 < (x27.length : Int) then ((wide_MulDiv.f k (rd x27 x29) 1073741824 x4).bind fun t195 => (if x5.length < 17592186044416 then (taps_User.l0 k x4 (x5 ++ [t195]) x27 x28 (wrap64 (x29 + 1))) else (none))) else (none)) else (none)) else (some (x5, 0))
end
def taps_User.f (k : Nat) (l0 : List Int) : Option (List Int × Int) := (taps_Size.f k l0).bind fun t193 => (if ((l0.length : Int) % 2) = 0 then (taps_User.j0 k l0 t193 true) else (if (l0.length : Int) > 1024 then (taps_User.j0 k l0 t193 true) else (if t193 < 1 then (taps_User.j0 k l0 t193 true) else (taps_User.j0 k l0 t193 (decide (t193 > 1048576))))))
set_option maxHeartbeats 8000000 in
set_option maxRecDepth 100000 in
theorem taps_User.calls (k : Nat) (A0 : Option Addr) (c0 : Nat) (l0 r1 : List Int) (r2 : Int) (w : World) (hr0 : Kd.C (Kd.int .i64) w A0 l0.length l0) (hc0 : l0.length ≤ c0) (h : taps_User.f k l0 = some (r1, r2)) :
  Calls Tryz.prog 55 #[.slice A0 l0.length c0] w fun e w' => ∃ v0_ : Value, e = .returned (.tuple #[v0_, .int .i64 r2]) ∧ Kd.R (Kd.int .i64) 2 w' w.heap.size (fun _ => True) v0_ r1 ∧ Below w.heap.size w w' := by
 have HR0 := Aside0.mk hr0
 have HC0 := Aside0.mk hc0
 clear hr0 hc0
 have HB := Aside0.mk (Below.refl w.heap.size w)
 have H := h
 clear h
 unfold taps_User.f at H
 replace H := zO H
 obtain ⟨t193, A2, H⟩ := H
 try dsimp only at H
 have HC3 := Aside0.mk H
 clear H
 go_enter Tryz.func55, Tryz.ntmps55
 go_upto_region 2 with (first | ((with_reducible refine gate_callee (f := 80) rfl ?_); refine goesL_ (some 9) rfl rfl Tryz.func80 (by kernel_rfl) rfl #[.slice A0 l0.length c0] rfl zL ?_; (with_reducible refine (taps_Size.calls k _ _ l0 t193 _ ?side1 ?side2 A2.out).mono ?_); (case side1 => repeat (first | exact HR0.out | (with_reducible refine Kd.C_alloc ?_ _) | (with_reducible refine Kd.C_drewN ?_ _) | (with_reducible refine Kd.C_drew ?_))); (case side2 => exact HC0.out); rintro e w4 ⟨rfl, hb⟩; refine ⟨_, rfl, ?_⟩; replace HB := Aside0.mk (below_step zB hb); (try clear hb)))
 (try simp only [Act.put, List.setIfInBounds_toArray, List.set_cons_zero, List.set_cons_succ])
 go_cut [26] (fun v26 wc => ∃ (kq : Nat) (x26_2 : Bool), v26 = .bool x26_2 ∧ Aside0 (taps_User.j0 kq l0 t193 x26_2 = some (r1, r2)) ∧ Aside0 (kq ≤ k) ∧ Aside0 (Below w.heap.size w wc))
 case first =>
  have H := HC3.out
  clear HC3
  by_cases c5 : ((l0.length : Int) % 2) = 0
  ·rw [if_pos c5] at H
   have c5b0 : (((l0.length : Int) % 2) == 0) = true := beq_iff_eq.mpr c5
   have c5b1 : (((l0.length : Int) % 2) != 0) = false := bne_eq_false_iff_eq.mpr c5
   clear c5
   (first | rw [c5b0] | (simp only [i64_w, i32_w]; rw [c5b0]) | skip)
   have H' := Aside0.mk H
   clear H
   go_wp2
   go_meet
   case rel => exact ⟨_, (true), zT, H', ⟨by first | omega | exact Nat.le_refl _⟩, ⟨zB⟩⟩
  ·rw [if_neg c5] at H
   have c5b0 : (((l0.length : Int) % 2) == 0) = false := beq_eq_false_iff_ne.mpr c5
   have c5b1 : (((l0.length : Int) % 2) != 0) = true := bne_iff_ne.mpr c5
   (first | rw [c5b0] | (simp only [i64_w, i32_w]; rw [c5b0]) | skip)
   by_cases c6 : (l0.length : Int) > 1024
   ·rw [if_pos c6] at H
    have c6b0 := decide_eq_true c6
    have c6b1 : decide (1024 < l0.length) = true := decide_eq_true (by omega)
    clear c6
    have H' := Aside0.mk H
    clear H
    go_wp2
    go_meet
    case rel => exact ⟨_, (true), zT, H', ⟨by first | omega | exact Nat.le_refl _⟩, ⟨zB⟩⟩
   ·rw [if_neg c6] at H
    have c6b0 := decide_eq_false c6
    have c6b1 : decide (1024 < l0.length) = false := decide_eq_false (by omega)
    clear c6
    by_cases c7 : t193 < 1
    ·rw [if_pos c7] at H
     have c7b0 := decide_eq_true c7
     clear c7
     have H' := Aside0.mk H
     clear H
     go_wp2
     go_meet
     case rel => exact ⟨_, (true), zT, H', ⟨by first | omega | exact Nat.le_refl _⟩, ⟨zB⟩⟩
    ·rw [if_neg c7] at H
     have c7b0 := decide_eq_false c7
     clear c7
     have H' := Aside0.mk H
     clear H
     go_wp2
     go_meet
     case rel => exact ⟨_, (decide (t193 > 1048576)), zT, H', ⟨by first | omega | exact Nat.le_refl _⟩, ⟨zB⟩⟩
 case rest =>
  clear HC3
  obtain ⟨kq, x26_2, rfl, HA, HJ2, HB⟩ := hcut
  cases kq with
  | zero => exact absurd HA.out (by simp [taps_User.j0])
  | succ kj2 =>
   have H := HA.out
   clear HA
   simp only [taps_User.j0] at H
   by_cases c8 : x26_2 = true
   ·subst c8
    rw [if_pos rfl] at H; try dsimp only at H
    simp only [Option.some.injEq, Prod.mk.injEq] at H
    obtain ⟨rfl, rfl⟩ := H
    go_wp2
    go_ret2
    exact ⟨_, zS, by first | exact Kd.R_nil _ _ _ _ _ | exact Kd.N_nil _ _ _ _ _ | exact Kd.V_nil _ _ _ _ _ | exact Kd.Q_nil _ _ _ _ _ | exact Kd.S_nil _ _ _ _ _, zB⟩
   ·replace c8 := Bool.eq_false_iff.mpr c8
    subst c8
    rw [if_neg (show ¬ (false = true) by decide)] at H; try dsimp only at H
    have H' := Aside0.mk H
    clear H
    go_wp2
    go_loopg [5, 29] kj2 (fun kq v5 v29 w' => ∃ (x5_2 : List Int) (x29_2 : Int), v29 = .int .i64 x29_2 ∧ Aside0 (taps_User.l0 kq t193 x5_2 l0 (l0.length : Int) x29_2 = some (r1, r2)) ∧ Aside0 (kq ≤ kj2) ∧ Aside0 (Kd.R (Kd.int .i64) 2 w' w.heap.size (fun _ => True) v5 x5_2) ∧ Aside0 (Below w.heap.size w w'))
    case atStart => exact ⟨(([] : List Int)), (0), zT, H', ⟨Nat.le_refl _⟩, ⟨by first | exact Kd.R_nil _ _ _ _ _ | exact Kd.N_nil _ _ _ _ _ | exact Kd.V_nil _ _ _ _ _ | exact Kd.Q_nil _ _ _ _ _ | exact Kd.S_nil _ _ _ _ _⟩, ⟨zB⟩⟩
    case round =>
     clear H'
     obtain ⟨x5_2, x29_2, rfl, HA, HK2, HO_5, HB⟩ := hrel
     cases gk with
     | zero => exact absurd HA.out (by simp [taps_User.l0])
     | succ k2 =>
      have H := HA.out
      clear HA
      simp only [taps_User.l0] at H
      by_cases c9 : x29_2 < (l0.length : Int)
      ·rw [if_pos c9] at H
       have c9b0 := decide_eq_true c9
       clear c9
       by_cases c10 : 0 ≤ x29_2
       ·rw [if_pos c10] at H
        have c10b0 := decide_eq_true c10
        clear c10
        by_cases c11 : x29_2 < (l0.length : Int)
        ·rw [if_pos c11] at H
         have c11b0 := decide_eq_true c11
         clear c11
         replace H := zO H
         obtain ⟨t195, A12, H⟩ := H
         try dsimp only at H
         by_cases c13 : x5_2.length < 17592186044416
         ·rw [if_pos c13] at H
          have LMc13 := Aside0.mk c13
          clear c13
          obtain ⟨y196, hy196⟩ : ∃ y_ : List Int, y_ = (x5_2 ++ [t195]) := ⟨_, rfl⟩
          replace H : (taps_User.l0 k2 t193 y196 l0 (l0.length : Int) (wrap64 (x29_2 + 1))) = some (r1, r2) := by first | (rw [hy196]; with_reducible exact H) | (have H2_ := (Option.bind_some _ _).symm.trans H; rw [hy196]; with_reducible exact H2_) | (have H2_ := (Option.bind_some _ _).symm.trans H; with_reducible exact H2_) | with_reducible exact H | (rw [hy196]; exact H) | exact H
          have Ny196 := Aside0.mk hy196
          clear hy196
          have H' := Aside0.mk H
          clear H
          have p194 : 0 ≤ (x29_2 : Int) := of_decide_eq_true (by first | (with_reducible assumption) | assumption)
          have q194 : x29_2 < (l0.length : Int) := of_decide_eq_true (by first | (with_reducible assumption) | assumption)
          obtain ⟨ad194, e194, hx194_0⟩ := Kd.at_int HR0.out x29_2 p194 q194
          cases e194
          replace hx194_0 := (HB.out.cell (World.block_lt_of_cell? w _ hx194_0)).trans hx194_0
          replace p194 := eq_true p194
          replace q194 := eq_true q194
          go_wp2_with (first | ((with_reducible refine gate_callee (f := 71) rfl ?_); refine goesL_ (some 36) rfl rfl Tryz.func71 (by kernel_rfl) rfl #[.int .i64 (rd l0 x29_2), .int .i64 1073741824, .int .i64 t193] rfl zL ?_; (with_reducible refine (wide_MulDiv.calls k2 (rd l0 x29_2) 1073741824 t193 t195 _ A12.out).mono ?_); rintro e w' ⟨rfl, ⟨nd, rfl⟩⟩; refine ⟨_, rfl, ?_⟩) | ((with_reducible refine gate_builtin (b := .append) (xs := #[.tmp 33, .tmp 37]) rfl ?_); (try (refine gate_guard (by rfl) ?_; dsimp only)); at_builtin; refine Kd.R_append (Kd.int .i64) (w0 := w) w.heap.size rfl (.tmp 33) (.tmp 37) 24 2 (.int .i64 0) 8 rfl Tryz.underlying24 info2 rfl (by decide) (by omega) u5 x5_2 t195 [.int .i64 t195] (fun _ => True) (fun _ => False) rfl rfl ?aP (fun _ hk => hk.elim) ?aF ?aO ?aB ?aS ?aL ?_; (case aP => exact rfl); (case aB => exact zB); (case aF => exact (fun _ _ => trivial)); (case aO => exact (by (with_reducible repeat (first | apply Kd.R_alloc | apply Kd.R_drewN | apply Kd.R_drew)); exact HO_5.out)); (case aS => exact (below_size zB)); (case aL => have := LMc13.out; omega); intro v197 w14 ho hb hg hat; rw [← Ny196.out] at ho; obtain ⟨HB, HO198⟩ := zA2 hb ho; clear ho hb hg hat))
          go_roundg k2
          case measure => have := HJ2.out; have := HK2.out; omega
          case rel => exact ⟨(y196), (wrap64 (x29_2 + 1)), zT, H', ⟨by have := HJ2.out; have := HK2.out; omega⟩, ⟨by (with_reducible repeat (first | apply Kd.R_alloc | apply Kd.R_drewN | apply Kd.R_drew)); exact HO198.out⟩, ⟨zB⟩⟩
         ·rw [if_neg c13] at H
          exact absurd H (by simp)
        ·rw [if_neg c11] at H
         exact absurd H (by simp)
       ·rw [if_neg c10] at H
        exact absurd H (by simp)
      ·rw [if_neg c9] at H
       have c9b0 := decide_eq_false c9
       clear c9
       simp only [Option.some.injEq, Prod.mk.injEq] at H
       obtain ⟨rfl, rfl⟩ := H
       go_wp2
       go_ret2
       exact ⟨_, zS, by (with_reducible repeat (first | apply Kd.R_alloc | apply Kd.R_drewN | apply Kd.R_drew)); exact HO_5.out, zB⟩
end Go.Proofs.YtebipmdopdogkaaGreatDoor.QA

namespace Go.Proofs.YtebipmdopdogkaaGreatDoor.QA
open Go.Proofs.YtebipmdopdogkaaGreatDoor.T
open Go.RowKit Go.Proofs.YtebipmdopdogkaaGreatDoorW.PrintWords Go.Proofs.YtebipmdopdogkaaGreatDoorW.PrintLast Go.Proofs.YtebipmdopdogkaaGreatDoorW.PrintMore
attribute [local go_sem] ext_call max2_int min2_int max_two min_two
set_option linter.unusedVariables false
set_option linter.unusedSimpArgs false
def slices_Repeat_int64_int64.f (a0 : List Int) (a1 : Int) : Option (List Int) := repF a0 a1
theorem slices_Repeat_int64_int64.calls (A0 : Option Addr) (c0 : Nat) (l0 : List Int) (a1 : Int) (r : List Int) (w : World) (hr0 : Kd.C (Kd.int .i64) w A0 l0.length l0) (hc0 : l0.length ≤ c0) (h : slices_Repeat_int64_int64.f l0 a1 = some r) :
  Calls Tryz.prog 81 #[.slice A0 l0.length c0, .int .i64 a1] w fun e w' => ∃ v0_ : Value, e = .returned v0_ ∧ Kd.R (Kd.int .i64) 2 w' w.heap.size (fun _ => True) v0_ r ∧ Below w.heap.size w w' := repF_calls A0 c0 l0 a1 r w hr0 hc0 h
end Go.Proofs.YtebipmdopdogkaaGreatDoor.QA
