-- Written by wip/tools/pp.py over the kit's print.py; not trusted: Lean checks it.
import Derived.Test.YthaajkpiknbdbaaDoorQAx0
import Derived.Test.YthaajkpiknbdbaaDoorQAx3
import Derived.Test.YthaajkpiknbdbaaDoorQAx4
namespace Go.Proofs.YthaajkpiknbdbaaDoor.QA
open Go.Proofs.YthaajkpiknbdbaaDoor.T
open Go.RowKit Go.Proofs.YthaajkpiknbdbaaDoorW.PrintWords Go.Proofs.YthaajkpiknbdbaaDoorW.PrintLast Go.Proofs.YthaajkpiknbdbaaDoorW.PrintMore
attribute [local go_sem] ext_call max2_int min2_int max_two min_two max_three min_three max_four min_four   -- for this text's walks alone
set_option linter.unusedVariables false
set_option linter.unusedSimpArgs false

-- NOT PRINTED: function 79 (bits_Add64)

/-! ### wide_MulDiv: function 54 -/
def wide_MulDiv.j0 : Nat → Bool → Int → Int → Bool → Option (Int)
 | 0, _, _, _, _ => none
 | k + 1, x9, x11, x14, x60 => if x60 = true then ((wide_signed.f k (add64c x11 1 0) (add64s x11 1 0) x9).bind fun t132 => (some t132)) else ((wide_signed.f k (add64c x11 x14 0) (add64s x11 x14 0) x9).bind fun t133 => (some t133))
def wide_MulDiv.f (k : Nat) (a0 : Int) (a1 : Int) (a2 : Int) : Option (Int) := if a2 = 0 then (some 0) else ((wide_product.f a0 a1).bind fun bt125 => ((wide_size.f a2).bind fun t128 => (if bt125.1 ≥ t128 then ((wide_signed.f k 1 0 (bt125.2.2 != (decide (a2 < 0)))).bind fun t129 => (some t129)) else ((bits_Div64.f k bt125.1 bt125.2.1 t128).bind fun bt130 => (if (bt125.2.2 != (decide (a2 < 0))) = true then (if bt130.2 > (IntKind.u64.wrap (t128 - bt130.2)) then (wide_MulDiv.j0 k (bt125.2.2 != (decide (a2 < 0))) bt130.1 0 true) else (if ((bt125.2.2 != (decide (a2 < 0))) = true) then (wide_MulDiv.j0 k (bt125.2.2 != (decide (a2 < 0))) bt130.1 0 false) else (wide_MulDiv.j0 k (bt125.2.2 != (decide (a2 < 0))) bt130.1 0 (decide (bt130.2 ≥ (IntKind.u64.wrap (t128 - bt130.2))))))) else (if ((bt125.2.2 != (decide (a2 < 0))) = true) then (wide_MulDiv.j0 k (bt125.2.2 != (decide (a2 < 0))) bt130.1 0 false) else (wide_MulDiv.j0 k (bt125.2.2 != (decide (a2 < 0))) bt130.1 0 (decide (bt130.2 ≥ (IntKind.u64.wrap (t128 - bt130.2)))))))))))
theorem wide_MulDiv.mono_l : ∀ k, (∀ y0 y1 y2 y3, LeO (wide_MulDiv.j0 k y0 y1 y2 y3) (wide_MulDiv.j0 (k + 1) y0 y1 y2 y3))
 | 0 => fun _ _ _ _ r h => by simp [wide_MulDiv.j0] at h
 | k + 1 => by
  have ih0 := wide_MulDiv.mono_l k
  ·intro y0 y1 y2 y3
   unfold wide_MulDiv.j0
   repeat' first
   | (with_reducible exact ih0 _ _ _ _)
   | (with_reducible exact bits_Div64.mono _ _ _ _)
   | (with_reducible exact wide_signed.mono _ _ _ _)
   | (with_reducible exact LeO.refl _)
   | (with_reducible exact LeO.none _)
   | (with_reducible refine LeO.ite ?_ ?_)
   | (with_reducible refine LeO.bind ?_ (fun _ => ?_))
   | exact ih0 _ _ _ _
   | exact bits_Div64.mono _ _ _ _
   | exact wide_signed.mono _ _ _ _
   | exact LeO.none _
   | refine LeO.ite ?_ ?_
   | refine LeO.bind ?_ (fun _ => ?_)
theorem wide_MulDiv.mono : ∀ a0 a1 a2 k, LeO (wide_MulDiv.f k a0 a1 a2) (wide_MulDiv.f (k + 1) a0 a1 a2) := by
 intro a0 a1 a2 k
 have ih0 := wide_MulDiv.mono_l k
 unfold wide_MulDiv.f
 repeat' first
   | (with_reducible exact ih0 _ _ _ _)
   | (with_reducible exact bits_Div64.mono _ _ _ _)
   | (with_reducible exact wide_signed.mono _ _ _ _)
   | (with_reducible exact LeO.refl _)
   | (with_reducible exact LeO.none _)
   | (with_reducible refine LeO.ite ?_ ?_)
   | (with_reducible refine LeO.bind ?_ (fun _ => ?_))
   | exact ih0 _ _ _ _
   | exact bits_Div64.mono _ _ _ _
   | exact wide_signed.mono _ _ _ _
   | exact LeO.none _
   | refine LeO.ite ?_ ?_
   | refine LeO.bind ?_ (fun _ => ?_)
set_option maxHeartbeats 8000000 in
set_option maxRecDepth 100000 in
theorem wide_MulDiv.calls (k : Nat) (a0 : Int) (a1 : Int) (a2 : Int) (r : Int) (w : World) (h : wide_MulDiv.f k a0 a1 a2 = some r) :
  Calls Tryd.prog 54 #[.int .i64 a0, .int .i64 a1, .int .i64 a2] w fun e w' => e = .returned (.int .i64 r) ∧ Drawn0 w w' := by
 have H : (if a2 = 0 then (some 0) else ((wide_product.f a0 a1).bind fun bt125 => ((wide_size.f a2).bind fun t128 => (if bt125.1 ≥ t128 then ((wide_signed.f k 1 0 (bt125.2.2 != (decide (a2 < 0)))).bind fun t129 => (some t129)) else ((bits_Div64.f k bt125.1 bt125.2.1 t128).bind fun bt130 => (if (bt125.2.2 != (decide (a2 < 0))) = true then (if bt130.2 > (IntKind.u64.wrap (t128 - bt130.2)) then (wide_MulDiv.j0 k (bt125.2.2 != (decide (a2 < 0))) bt130.1 0 true) else (if ((bt125.2.2 != (decide (a2 < 0))) = true) then (wide_MulDiv.j0 k (bt125.2.2 != (decide (a2 < 0))) bt130.1 0 false) else (wide_MulDiv.j0 k (bt125.2.2 != (decide (a2 < 0))) bt130.1 0 (decide (bt130.2 ≥ (IntKind.u64.wrap (t128 - bt130.2))))))) else (if ((bt125.2.2 != (decide (a2 < 0))) = true) then (wide_MulDiv.j0 k (bt125.2.2 != (decide (a2 < 0))) bt130.1 0 false) else (wide_MulDiv.j0 k (bt125.2.2 != (decide (a2 < 0))) bt130.1 0 (decide (bt130.2 ≥ (IntKind.u64.wrap (t128 - bt130.2)))))))))))) = some r := h
 clear h
 by_cases c4 : a2 = 0
 ·rw [if_pos c4] at H
  have c4b0 : (a2 == 0) = true := beq_iff_eq.mpr c4
  have c4b1 : (a2 != 0) = false := bne_eq_false_iff_eq.mpr c4
  clear c4
  obtain rfl := Option.some.inj H
  go_enter Tryd.func54, Tryd.ntmps54
  go_wp2
  go_ret
  exact ⟨by first | rfl | (simp; done) | (simp [*]; done), by repeat (first | exact Drawn0.refl _ | apply Drawn0.step)⟩
 ·rw [if_neg c4] at H
  have c4b0 : (a2 == 0) = false := beq_eq_false_iff_ne.mpr c4
  have c4b1 : (a2 != 0) = true := bne_iff_ne.mpr c4
  replace H := Option.bind_eq_some_iff.mp H
  obtain ⟨⟨t125, t126, t127⟩, A50, H⟩ := H
  replace H : ((wide_size.f a2).bind fun t128 => (if t125 ≥ t128 then ((wide_signed.f k 1 0 (t127 != (decide (a2 < 0)))).bind fun t129 => (some t129)) else ((bits_Div64.f k t125 t126 t128).bind fun bt130 => (if (t127 != (decide (a2 < 0))) = true then (if bt130.2 > (IntKind.u64.wrap (t128 - bt130.2)) then (wide_MulDiv.j0 k (t127 != (decide (a2 < 0))) bt130.1 0 true) else (if ((t127 != (decide (a2 < 0))) = true) then (wide_MulDiv.j0 k (t127 != (decide (a2 < 0))) bt130.1 0 false) else (wide_MulDiv.j0 k (t127 != (decide (a2 < 0))) bt130.1 0 (decide (bt130.2 ≥ (IntKind.u64.wrap (t128 - bt130.2))))))) else (if ((t127 != (decide (a2 < 0))) = true) then (wide_MulDiv.j0 k (t127 != (decide (a2 < 0))) bt130.1 0 false) else (wide_MulDiv.j0 k (t127 != (decide (a2 < 0))) bt130.1 0 (decide (bt130.2 ≥ (IntKind.u64.wrap (t128 - bt130.2)))))))))) = some r := H
  have A5 := Aside0.mk A50
  clear A50
  replace H := Option.bind_eq_some_iff.mp H
  obtain ⟨t128, A60, H⟩ := H
  replace H : (if t125 ≥ t128 then ((wide_signed.f k 1 0 (t127 != (decide (a2 < 0)))).bind fun t129 => (some t129)) else ((bits_Div64.f k t125 t126 t128).bind fun bt130 => (if (t127 != (decide (a2 < 0))) = true then (if bt130.2 > (IntKind.u64.wrap (t128 - bt130.2)) then (wide_MulDiv.j0 k (t127 != (decide (a2 < 0))) bt130.1 0 true) else (if ((t127 != (decide (a2 < 0))) = true) then (wide_MulDiv.j0 k (t127 != (decide (a2 < 0))) bt130.1 0 false) else (wide_MulDiv.j0 k (t127 != (decide (a2 < 0))) bt130.1 0 (decide (bt130.2 ≥ (IntKind.u64.wrap (t128 - bt130.2))))))) else (if ((t127 != (decide (a2 < 0))) = true) then (wide_MulDiv.j0 k (t127 != (decide (a2 < 0))) bt130.1 0 false) else (wide_MulDiv.j0 k (t127 != (decide (a2 < 0))) bt130.1 0 (decide (bt130.2 ≥ (IntKind.u64.wrap (t128 - bt130.2))))))))) = some r := H
  have A6 := Aside0.mk A60
  clear A60
  by_cases c7 : t125 ≥ t128
  ·rw [if_pos c7] at H
   have c7b0 : decide (t128 ≤ t125) = true := decide_eq_true c7
   clear c7
   replace H := Option.bind_eq_some_iff.mp H
   obtain ⟨t129, A80, H⟩ := H
   replace H : (some t129) = some r := H
   have A8 := Aside0.mk A80
   clear A80
   obtain rfl := Option.some.inj H
   go_enter Tryd.func54, Tryd.ntmps54
   go_wp2_with (first | ((with_reducible refine gate_callee (f := 75) rfl ?_); refine goesL_ (some 21) rfl rfl Tryd.func75 (by kernel_rfl) rfl #[.int .i64 a0, .int .i64 a1] rfl (by (try simp only [List.map_toArray, List.map_cons, List.map_nil]); first | done | rfl | (simp only [List.length_drop, List.length_take]; rfl)) ?_; (with_reducible refine (wide_product.calls a0 a1 t125 t126 t127 _ A5.out).mono ?_); rintro e w' ⟨rfl, ⟨nd, rfl⟩⟩; refine ⟨_, rfl, ?_⟩) | ((with_reducible refine gate_callee (f := 76) rfl ?_); refine goesL_ (some 26) rfl rfl Tryd.func76 (by kernel_rfl) rfl #[.int .i64 a2] rfl (by (try simp only [List.map_toArray, List.map_cons, List.map_nil]); first | done | rfl | (simp only [List.length_drop, List.length_take]; rfl)) ?_; (with_reducible refine (wide_size.calls a2 t128 _ A6.out).mono ?_); rintro e w' ⟨rfl, ⟨nd, rfl⟩⟩; refine ⟨_, rfl, ?_⟩) | ((with_reducible refine gate_callee (f := 77) rfl ?_); refine goesL_ (some 35) rfl rfl Tryd.func77 (by kernel_rfl) rfl #[.int .u64 1, .int .u64 0, .bool (t127 != (decide (a2 < 0)))] rfl (by (try simp only [List.map_toArray, List.map_cons, List.map_nil]); first | done | rfl | (simp only [List.length_drop, List.length_take]; rfl)) ?_; (with_reducible refine (wide_signed.calls k 1 0 (t127 != (decide (a2 < 0))) t129 _ A8.out).mono ?_); rintro e w' ⟨rfl, ⟨nd, rfl⟩⟩; refine ⟨_, rfl, ?_⟩))
   go_ret
   exact ⟨by first | rfl | (simp; done) | (simp [*]; done), by repeat (first | exact Drawn0.refl _ | apply Drawn0.step)⟩
  ·rw [if_neg c7] at H
   have c7b0 : decide (t128 ≤ t125) = false := decide_eq_false c7
   clear c7
   replace H := Option.bind_eq_some_iff.mp H
   obtain ⟨⟨t130, t131⟩, A90, H⟩ := H
   replace H : (if (t127 != (decide (a2 < 0))) = true then (if t131 > (IntKind.u64.wrap (t128 - t131)) then (wide_MulDiv.j0 k (t127 != (decide (a2 < 0))) t130 0 true) else (if ((t127 != (decide (a2 < 0))) = true) then (wide_MulDiv.j0 k (t127 != (decide (a2 < 0))) t130 0 false) else (wide_MulDiv.j0 k (t127 != (decide (a2 < 0))) t130 0 (decide (t131 ≥ (IntKind.u64.wrap (t128 - t131))))))) else (if ((t127 != (decide (a2 < 0))) = true) then (wide_MulDiv.j0 k (t127 != (decide (a2 < 0))) t130 0 false) else (wide_MulDiv.j0 k (t127 != (decide (a2 < 0))) t130 0 (decide (t131 ≥ (IntKind.u64.wrap (t128 - t131))))))) = some r := H
   have A9 := Aside0.mk A90
   clear A90
   rcases Bool.eq_false_or_eq_true (t127 != (decide (a2 < 0))) with hsv | hsv
   ·have hsvb0 : (t127 != (decide (a2 < 0))) = true := hsv
    have hsvb2 : (t127 == (decide (a2 < 0))) = false := by simpa using hsv
    have HC10 := Aside0.mk H
    clear H
    go_enter Tryd.func54, Tryd.ntmps54
    go_upto_region 11 with (first | ((with_reducible refine gate_callee (f := 75) rfl ?_); refine goesL_ (some 21) rfl rfl Tryd.func75 (by kernel_rfl) rfl #[.int .i64 a0, .int .i64 a1] rfl (by (try simp only [List.map_toArray, List.map_cons, List.map_nil]); first | done | rfl | (simp only [List.length_drop, List.length_take]; rfl)) ?_; (with_reducible refine (wide_product.calls a0 a1 t125 t126 t127 _ A5.out).mono ?_); rintro e w' ⟨rfl, ⟨nd, rfl⟩⟩; refine ⟨_, rfl, ?_⟩) | ((with_reducible refine gate_callee (f := 76) rfl ?_); refine goesL_ (some 26) rfl rfl Tryd.func76 (by kernel_rfl) rfl #[.int .i64 a2] rfl (by (try simp only [List.map_toArray, List.map_cons, List.map_nil]); first | done | rfl | (simp only [List.length_drop, List.length_take]; rfl)) ?_; (with_reducible refine (wide_size.calls a2 t128 _ A6.out).mono ?_); rintro e w' ⟨rfl, ⟨nd, rfl⟩⟩; refine ⟨_, rfl, ?_⟩) | ((with_reducible refine gate_callee (f := 78) rfl ?_); refine goesL_ (some 40) rfl rfl Tryd.func78 (by kernel_rfl) rfl #[.int .u64 t125, .int .u64 t126, .int .u64 t128] rfl (by (try simp only [List.map_toArray, List.map_cons, List.map_nil]); first | done | rfl | (simp only [List.length_drop, List.length_take]; rfl)) ?_; (with_reducible refine (bits_Div64.calls k t125 t126 t128 t130 t131 _ A9.out).mono ?_); rintro e w' ⟨rfl, ⟨nd, rfl⟩⟩; refine ⟨_, rfl, ?_⟩))
    (try simp only [Act.put, List.setIfInBounds_toArray, List.set_cons_zero, List.set_cons_succ])
    go_cut [60] (fun v60 wc => ∃ (kq : Nat) (x60_9 : Bool), v60 = .bool x60_9 ∧ Aside0 (wide_MulDiv.j0 kq (t127 != (decide (a2 < 0))) t130 0 x60_9 = some r) ∧ Aside0 (kq ≤ k) ∧ Drawn0 w wc)
    case first =>
     have H := HC10.out
     clear HC10
     by_cases c11 : (t127 != (decide (a2 < 0))) = true
     ·rw [if_pos c11] at H
      have c11b0 : (t127 != (decide (a2 < 0))) = true := c11
      (try (have c11b1 : decide (t127 = (decide (a2 < 0))) = false := by simpa using c11))
      (try (have c11b2 : (t127 == (decide (a2 < 0))) = false := by simpa using c11))
      (try (have c11b3 : ¬ (t127 = (decide (a2 < 0))) := by simpa using c11))
      clear c11
      (first | rw [c11b0] | (simp only [i64_w, i32_w]; rw [c11b0]) | skip)
      by_cases c12 : t131 > (IntKind.u64.wrap (t128 - t131))
      ·rw [if_pos c12] at H
       have c12b0 : decide ((IntKind.u64.wrap (t128 - t131)) < t131) = true := decide_eq_true c12
       clear c12
       have H' := Aside0.mk H
       clear H
       go_wp2
       go_meet
       case rel => exact ⟨_, (true), (by first | rfl | (simp; done) | (simp [*]; done)), H', ⟨by first | omega | exact Nat.le_refl _⟩, by repeat (first | exact Drawn0.refl _ | apply Drawn0.step)⟩
      ·rw [if_neg c12] at H
       have c12b0 : decide ((IntKind.u64.wrap (t128 - t131)) < t131) = false := decide_eq_false c12
       clear c12
       by_cases c13 : ((t127 != (decide (a2 < 0))) = true)
       ·rw [if_pos c13] at H
        have c13b0 : (t127 != (decide (a2 < 0))) = true := c13
        (try (have c13b1 : decide (t127 = (decide (a2 < 0))) = false := by simpa using c13))
        (try (have c13b2 : (t127 == (decide (a2 < 0))) = false := by simpa using c13))
        (try (have c13b3 : ¬ (t127 = (decide (a2 < 0))) := by simpa using c13))
        clear c13
        have H' := Aside0.mk H
        clear H
        go_wp2
        go_meet
        case rel => exact ⟨_, (false), (by first | rfl | (simp; done) | (simp [*]; done)), H', ⟨by first | omega | exact Nat.le_refl _⟩, by repeat (first | exact Drawn0.refl _ | apply Drawn0.step)⟩
       ·rw [if_neg c13] at H
        have c13b0 : (t127 != (decide (a2 < 0))) = false := by simpa using c13
        exact absurd (hsvb0.symm.trans c13b0) (by decide)
     ·rw [if_neg c11] at H
      have c11b0 : (t127 != (decide (a2 < 0))) = false := by simpa using c11
      exact absurd (hsvb0.symm.trans c11b0) (by decide)
    case rest =>
     clear HC10
     try clear c1
     try clear p2
     try clear c4
     try clear c4b0
     try clear c4b1
     try clear c5
     try clear c7
     try clear c7b0
     try clear c11
     try clear c11b0
     try clear c11b1
     try clear c11b2
     try clear c12
     try clear c12b0
     try clear c13
     try clear c13b0
     try clear c13b1
     try clear c13b2
     try clear c14
     try clear c14b0
     try clear c14b1
     try clear c14b2
     obtain ⟨kq, x60_9, rfl, HA, HJ9, ⟨mc9, rfl⟩⟩ := hcut
     cases kq with
     | zero => exact absurd HA.out (by simp [wide_MulDiv.j0])
     | succ kj9 =>
      have H := HA.out
      clear HA
      simp only [wide_MulDiv.j0] at H
      by_cases c15 : x60_9 = true
      ·subst c15
       have H1 : ((wide_signed.f kj9 (add64c t130 1 0) (add64s t130 1 0) (t127 != (decide (a2 < 0)))).bind fun t132 => (some t132)) = some r := by rw [if_pos rfl] at H; exact H
       clear H
       have H := H1
       clear H1
       replace H := Option.bind_eq_some_iff.mp H
       obtain ⟨t132, A160, H⟩ := H
       replace H : (some t132) = some r := H
       have A16 := Aside0.mk A160
       clear A160
       obtain rfl := Option.some.inj H
       go_wp2_with (first | ((with_reducible refine gate_callee (f := 77) rfl ?_); refine goesL_ (some 70) rfl rfl Tryd.func77 (by kernel_rfl) rfl #[.int .u64 (add64c t130 1 0), .int .u64 (add64s t130 1 0), .bool true] rfl (by (try simp only [List.map_toArray, List.map_cons, List.map_nil]); first | done | rfl | (simp only [List.length_drop, List.length_take]; rfl)) ?_; (with_reducible refine (wide_signed.calls kj9 (add64c t130 1 0) (add64s t130 1 0) true t132 _ (by have h := A16.out; rw [hsvb0] at h; exact h)).mono ?_); rintro e w' ⟨rfl, ⟨nd, rfl⟩⟩; refine ⟨_, rfl, ?_⟩))
       go_ret
       exact ⟨by first | rfl | (simp; done) | (simp [*]; done), by repeat (first | exact Drawn0.refl _ | apply Drawn0.step)⟩
      ·replace c15 := Bool.eq_false_iff.mpr c15
       subst c15
       have H1 : ((wide_signed.f kj9 (add64c t130 0 0) (add64s t130 0 0) (t127 != (decide (a2 < 0)))).bind fun t133 => (some t133)) = some r := by rw [if_neg (show ¬ (false = true) by decide)] at H; exact H
       clear H
       have H := H1
       clear H1
       replace H := Option.bind_eq_some_iff.mp H
       obtain ⟨t133, A170, H⟩ := H
       replace H : (some t133) = some r := H
       have A17 := Aside0.mk A170
       clear A170
       obtain rfl := Option.some.inj H
       go_wp2_with (first | ((with_reducible refine gate_callee (f := 77) rfl ?_); refine goesL_ (some 70) rfl rfl Tryd.func77 (by kernel_rfl) rfl #[.int .u64 (add64c t130 0 0), .int .u64 (add64s t130 0 0), .bool true] rfl (by (try simp only [List.map_toArray, List.map_cons, List.map_nil]); first | done | rfl | (simp only [List.length_drop, List.length_take]; rfl)) ?_; (with_reducible refine (wide_signed.calls kj9 (add64c t130 0 0) (add64s t130 0 0) true t133 _ (by have h := A17.out; rw [hsvb0] at h; exact h)).mono ?_); rintro e w' ⟨rfl, ⟨nd, rfl⟩⟩; refine ⟨_, rfl, ?_⟩))
       go_ret
       exact ⟨by first | rfl | (simp; done) | (simp [*]; done), by repeat (first | exact Drawn0.refl _ | apply Drawn0.step)⟩
   ·have hsvb0 : (t127 != (decide (a2 < 0))) = false := hsv
    have hsvb2 : (t127 == (decide (a2 < 0))) = true := by simpa using hsv
    have HC10 := Aside0.mk H
    clear H
    go_enter Tryd.func54, Tryd.ntmps54
    go_upto_region 11 with (first | ((with_reducible refine gate_callee (f := 75) rfl ?_); refine goesL_ (some 21) rfl rfl Tryd.func75 (by kernel_rfl) rfl #[.int .i64 a0, .int .i64 a1] rfl (by (try simp only [List.map_toArray, List.map_cons, List.map_nil]); first | done | rfl | (simp only [List.length_drop, List.length_take]; rfl)) ?_; (with_reducible refine (wide_product.calls a0 a1 t125 t126 t127 _ A5.out).mono ?_); rintro e w' ⟨rfl, ⟨nd, rfl⟩⟩; refine ⟨_, rfl, ?_⟩) | ((with_reducible refine gate_callee (f := 76) rfl ?_); refine goesL_ (some 26) rfl rfl Tryd.func76 (by kernel_rfl) rfl #[.int .i64 a2] rfl (by (try simp only [List.map_toArray, List.map_cons, List.map_nil]); first | done | rfl | (simp only [List.length_drop, List.length_take]; rfl)) ?_; (with_reducible refine (wide_size.calls a2 t128 _ A6.out).mono ?_); rintro e w' ⟨rfl, ⟨nd, rfl⟩⟩; refine ⟨_, rfl, ?_⟩) | ((with_reducible refine gate_callee (f := 78) rfl ?_); refine goesL_ (some 40) rfl rfl Tryd.func78 (by kernel_rfl) rfl #[.int .u64 t125, .int .u64 t126, .int .u64 t128] rfl (by (try simp only [List.map_toArray, List.map_cons, List.map_nil]); first | done | rfl | (simp only [List.length_drop, List.length_take]; rfl)) ?_; (with_reducible refine (bits_Div64.calls k t125 t126 t128 t130 t131 _ A9.out).mono ?_); rintro e w' ⟨rfl, ⟨nd, rfl⟩⟩; refine ⟨_, rfl, ?_⟩))
    (try simp only [Act.put, List.setIfInBounds_toArray, List.set_cons_zero, List.set_cons_succ])
    go_cut [60] (fun v60 wc => ∃ (kq : Nat) (x60_9 : Bool), v60 = .bool x60_9 ∧ Aside0 (wide_MulDiv.j0 kq (t127 != (decide (a2 < 0))) t130 0 x60_9 = some r) ∧ Aside0 (kq ≤ k) ∧ Drawn0 w wc)
    case first =>
     have H := HC10.out
     clear HC10
     by_cases c11 : (t127 != (decide (a2 < 0))) = true
     ·rw [if_pos c11] at H
      have c11b0 : (t127 != (decide (a2 < 0))) = true := c11
      exact absurd (hsvb0.symm.trans c11b0) (by decide)
     ·rw [if_neg c11] at H
      have c11b0 : (t127 != (decide (a2 < 0))) = false := by simpa using c11
      (try (have c11b1 : decide (t127 = (decide (a2 < 0))) = true := by simpa using c11))
      (try (have c11b2 : (t127 == (decide (a2 < 0))) = true := by simpa using c11))
      clear c11
      (first | rw [c11b0] | (simp only [i64_w, i32_w]; rw [c11b0]) | skip)
      by_cases c14 : ((t127 != (decide (a2 < 0))) = true)
      ·rw [if_pos c14] at H
       have c14b0 : (t127 != (decide (a2 < 0))) = true := c14
       exact absurd (hsvb0.symm.trans c14b0) (by decide)
      ·rw [if_neg c14] at H
       have c14b0 : (t127 != (decide (a2 < 0))) = false := by simpa using c14
       (try (have c14b1 : decide (t127 = (decide (a2 < 0))) = true := by simpa using c14))
       (try (have c14b2 : (t127 == (decide (a2 < 0))) = true := by simpa using c14))
       clear c14
       have H' := Aside0.mk H
       clear H
       go_wp2
       go_meet
       case rel => exact ⟨_, (decide (t131 ≥ (IntKind.u64.wrap (t128 - t131)))), (by first | rfl | (simp; done) | (simp [*]; done)), H', ⟨by first | omega | exact Nat.le_refl _⟩, by repeat (first | exact Drawn0.refl _ | apply Drawn0.step)⟩
    case rest =>
     clear HC10
     try clear c1
     try clear p2
     try clear c4
     try clear c4b0
     try clear c4b1
     try clear c5
     try clear c7
     try clear c7b0
     try clear c11
     try clear c11b0
     try clear c11b1
     try clear c11b2
     try clear c12
     try clear c12b0
     try clear c13
     try clear c13b0
     try clear c13b1
     try clear c13b2
     try clear c14
     try clear c14b0
     try clear c14b1
     try clear c14b2
     obtain ⟨kq, x60_9, rfl, HA, HJ9, ⟨mc9, rfl⟩⟩ := hcut
     cases kq with
     | zero => exact absurd HA.out (by simp [wide_MulDiv.j0])
     | succ kj9 =>
      have H := HA.out
      clear HA
      simp only [wide_MulDiv.j0] at H
      by_cases c15 : x60_9 = true
      ·subst c15
       have H1 : ((wide_signed.f kj9 (add64c t130 1 0) (add64s t130 1 0) (t127 != (decide (a2 < 0)))).bind fun t132 => (some t132)) = some r := by rw [if_pos rfl] at H; exact H
       clear H
       have H := H1
       clear H1
       replace H := Option.bind_eq_some_iff.mp H
       obtain ⟨t132, A160, H⟩ := H
       replace H : (some t132) = some r := H
       have A16 := Aside0.mk A160
       clear A160
       obtain rfl := Option.some.inj H
       go_wp2_with (first | ((with_reducible refine gate_callee (f := 77) rfl ?_); refine goesL_ (some 70) rfl rfl Tryd.func77 (by kernel_rfl) rfl #[.int .u64 (add64c t130 1 0), .int .u64 (add64s t130 1 0), .bool false] rfl (by (try simp only [List.map_toArray, List.map_cons, List.map_nil]); first | done | rfl | (simp only [List.length_drop, List.length_take]; rfl)) ?_; (with_reducible refine (wide_signed.calls kj9 (add64c t130 1 0) (add64s t130 1 0) false t132 _ (by have h := A16.out; rw [hsvb0] at h; exact h)).mono ?_); rintro e w' ⟨rfl, ⟨nd, rfl⟩⟩; refine ⟨_, rfl, ?_⟩))
       go_ret
       exact ⟨by first | rfl | (simp; done) | (simp [*]; done), by repeat (first | exact Drawn0.refl _ | apply Drawn0.step)⟩
      ·replace c15 := Bool.eq_false_iff.mpr c15
       subst c15
       have H1 : ((wide_signed.f kj9 (add64c t130 0 0) (add64s t130 0 0) (t127 != (decide (a2 < 0)))).bind fun t133 => (some t133)) = some r := by rw [if_neg (show ¬ (false = true) by decide)] at H; exact H
       clear H
       have H := H1
       clear H1
       replace H := Option.bind_eq_some_iff.mp H
       obtain ⟨t133, A170, H⟩ := H
       replace H : (some t133) = some r := H
       have A17 := Aside0.mk A170
       clear A170
       obtain rfl := Option.some.inj H
       go_wp2_with (first | ((with_reducible refine gate_callee (f := 77) rfl ?_); refine goesL_ (some 70) rfl rfl Tryd.func77 (by kernel_rfl) rfl #[.int .u64 (add64c t130 0 0), .int .u64 (add64s t130 0 0), .bool false] rfl (by (try simp only [List.map_toArray, List.map_cons, List.map_nil]); first | done | rfl | (simp only [List.length_drop, List.length_take]; rfl)) ?_; (with_reducible refine (wide_signed.calls kj9 (add64c t130 0 0) (add64s t130 0 0) false t133 _ (by have h := A17.out; rw [hsvb0] at h; exact h)).mono ?_); rintro e w' ⟨rfl, ⟨nd, rfl⟩⟩; refine ⟨_, rfl, ?_⟩))
       go_ret
       exact ⟨by first | rfl | (simp; done) | (simp [*]; done), by repeat (first | exact Drawn0.refl _ | apply Drawn0.step)⟩

/-! ### raw_Keys: function 35 -/
def raw_Keys.j0 : Nat → Int → Int → Bool → Option (Int)
 | 0, _, _, _ => none
 | k + 1, x0, x1, x23 => if x23 = true then (some 0) else (if (mx x0 (wrap64 (-x0))) ≥ x1 then ((wide_MulDiv.f k (wrap64 ((wrap64 ((wrap64 ((wrap64 ((wrap64 ((wrap64 (-(mx x0 (wrap64 (-x0))))) * (mx x0 (wrap64 (-x0))))) * (mx x0 (wrap64 (-x0))))) + (wrap64 ((wrap64 ((wrap64 (5 * (mx x0 (wrap64 (-x0))))) * (mx x0 (wrap64 (-x0))))) * x1)))) - (wrap64 ((wrap64 ((wrap64 (8 * (mx x0 (wrap64 (-x0))))) * x1)) * x1)))) + (wrap64 ((wrap64 ((wrap64 (4 * x1)) * x1)) * x1)))) 1073741824 (wrap64 ((wrap64 ((wrap64 (2 * x1)) * x1)) * x1))).bind fun t134 => (some t134)) else ((wide_MulDiv.f k (wrap64 ((wrap64 ((wrap64 ((wrap64 ((wrap64 (3 * (mx x0 (wrap64 (-x0))))) * (mx x0 (wrap64 (-x0))))) * (mx x0 (wrap64 (-x0))))) - (wrap64 ((wrap64 ((wrap64 (5 * (mx x0 (wrap64 (-x0))))) * (mx x0 (wrap64 (-x0))))) * x1)))) + (wrap64 ((wrap64 ((wrap64 (2 * x1)) * x1)) * x1)))) 1073741824 (wrap64 ((wrap64 ((wrap64 (2 * x1)) * x1)) * x1))).bind fun t135 => (some t135)))
def raw_Keys.f (k : Nat) (a0 : Int) (a1 : Int) : Option (Int) := if a1 < 1 then (raw_Keys.j0 k a0 a1 true) else (if a1 > 262144 then (raw_Keys.j0 k a0 a1 true) else (if a0 ≥ (wrap64 (2 * a1)) then (raw_Keys.j0 k a0 a1 true) else (raw_Keys.j0 k a0 a1 (decide (a0 ≤ (wrap64 ((-2) * a1)))))))
theorem raw_Keys.mono_l : ∀ k, (∀ y0 y1 y2, LeO (raw_Keys.j0 k y0 y1 y2) (raw_Keys.j0 (k + 1) y0 y1 y2))
 | 0 => fun _ _ _ r h => by simp [raw_Keys.j0] at h
 | k + 1 => by
  have ih0 := raw_Keys.mono_l k
  ·intro y0 y1 y2
   unfold raw_Keys.j0
   repeat' first
   | (with_reducible exact ih0 _ _ _)
   | (with_reducible exact wide_MulDiv.mono _ _ _ _)
   | (with_reducible exact LeO.refl _)
   | (with_reducible exact LeO.none _)
   | (with_reducible refine LeO.ite ?_ ?_)
   | (with_reducible refine LeO.bind ?_ (fun _ => ?_))
   | exact ih0 _ _ _
   | exact wide_MulDiv.mono _ _ _ _
   | exact LeO.none _
   | refine LeO.ite ?_ ?_
   | refine LeO.bind ?_ (fun _ => ?_)
theorem raw_Keys.mono : ∀ a0 a1 k, LeO (raw_Keys.f k a0 a1) (raw_Keys.f (k + 1) a0 a1) := by
 intro a0 a1 k
 have ih0 := raw_Keys.mono_l k
 unfold raw_Keys.f
 repeat' first
   | (with_reducible exact ih0 _ _ _)
   | (with_reducible exact wide_MulDiv.mono _ _ _ _)
   | (with_reducible exact LeO.refl _)
   | (with_reducible exact LeO.none _)
   | (with_reducible refine LeO.ite ?_ ?_)
   | (with_reducible refine LeO.bind ?_ (fun _ => ?_))
   | exact ih0 _ _ _
   | exact wide_MulDiv.mono _ _ _ _
   | exact LeO.none _
   | refine LeO.ite ?_ ?_
   | refine LeO.bind ?_ (fun _ => ?_)
set_option maxHeartbeats 8000000 in
set_option maxRecDepth 100000 in
theorem raw_Keys.calls (k : Nat) (a0 : Int) (a1 : Int) (r : Int) (w : World) (h : raw_Keys.f k a0 a1 = some r) :
  Calls Tryd.prog 35 #[.int .i64 a0, .int .i64 a1] w fun e w' => e = .returned (.int .i64 r) ∧ Below w.heap.size w w' := by
 have HB := Aside0.mk (Below.refl w.heap.size w)
 have H : (if a1 < 1 then (raw_Keys.j0 k a0 a1 true) else (if a1 > 262144 then (raw_Keys.j0 k a0 a1 true) else (if a0 ≥ (wrap64 (2 * a1)) then (raw_Keys.j0 k a0 a1 true) else (raw_Keys.j0 k a0 a1 (decide (a0 ≤ (wrap64 ((-2) * a1)))))))) = some r := h
 clear h
 have HC3 := Aside0.mk H
 clear H
 go_enter Tryd.func35, Tryd.ntmps35
 go_upto_region 1 with (fail)
 go_cut [23] (fun v23 wc => ∃ (kq : Nat) (x23_2 : Bool), v23 = .bool x23_2 ∧ Aside0 (raw_Keys.j0 kq a0 a1 x23_2 = some r) ∧ Aside0 (kq ≤ k) ∧ Aside0 (Below w.heap.size w wc))
 case first =>
  have H := HC3.out
  clear HC3
  by_cases c4 : a1 < 1
  ·rw [if_pos c4] at H
   have c4b0 : decide (a1 < 1) = true := decide_eq_true c4
   clear c4
   (first | rw [c4b0] | (simp only [i64_w, i32_w]; rw [c4b0]) | skip)
   have H' := Aside0.mk H
   clear H
   go_wp2
   go_meet
   case rel => exact ⟨_, (true), (by first | rfl | (simp; done) | (simp [*]; done)), H', ⟨by first | omega | exact Nat.le_refl _⟩, ⟨by repeat (first | (with_reducible first | exact HB.out | apply below_alloc | apply pw_below_drewN | apply below_drew1) | exact HB.out)⟩⟩
  ·rw [if_neg c4] at H
   have c4b0 : decide (a1 < 1) = false := decide_eq_false c4
   clear c4
   (first | rw [c4b0] | (simp only [i64_w, i32_w]; rw [c4b0]) | skip)
   by_cases c5 : a1 > 262144
   ·rw [if_pos c5] at H
    have c5b0 : decide (262144 < a1) = true := decide_eq_true c5
    clear c5
    have H' := Aside0.mk H
    clear H
    go_wp2
    go_meet
    case rel => exact ⟨_, (true), (by first | rfl | (simp; done) | (simp [*]; done)), H', ⟨by first | omega | exact Nat.le_refl _⟩, ⟨by repeat (first | (with_reducible first | exact HB.out | apply below_alloc | apply pw_below_drewN | apply below_drew1) | exact HB.out)⟩⟩
   ·rw [if_neg c5] at H
    have c5b0 : decide (262144 < a1) = false := decide_eq_false c5
    clear c5
    by_cases c6 : a0 ≥ (wrap64 (2 * a1))
    ·rw [if_pos c6] at H
     have c6b0 : decide ((wrap64 (2 * a1)) ≤ a0) = true := decide_eq_true c6
     clear c6
     have H' := Aside0.mk H
     clear H
     go_wp2
     go_meet
     case rel => exact ⟨_, (true), (by first | rfl | (simp; done) | (simp [*]; done)), H', ⟨by first | omega | exact Nat.le_refl _⟩, ⟨by repeat (first | (with_reducible first | exact HB.out | apply below_alloc | apply pw_below_drewN | apply below_drew1) | exact HB.out)⟩⟩
    ·rw [if_neg c6] at H
     have c6b0 : decide ((wrap64 (2 * a1)) ≤ a0) = false := decide_eq_false c6
     clear c6
     have H' := Aside0.mk H
     clear H
     go_wp2
     go_meet
     case rel => exact ⟨_, (decide (a0 ≤ (wrap64 ((-2) * a1)))), (by first | rfl | (simp; done) | (simp [*]; done)), H', ⟨by first | omega | exact Nat.le_refl _⟩, ⟨by repeat (first | (with_reducible first | exact HB.out | apply below_alloc | apply pw_below_drewN | apply below_drew1) | exact HB.out)⟩⟩
 case rest =>
  clear HC3
  try clear p2
  try clear c3
  try clear c4
  try clear c4b0
  try clear c5
  try clear c5b0
  try clear c6
  try clear c6b0
  try clear p6
  obtain ⟨kq, x23_2, rfl, HA, HJ2, HB⟩ := hcut
  cases kq with
  | zero => exact absurd HA.out (by simp [raw_Keys.j0])
  | succ kj2 =>
   have H := HA.out
   clear HA
   simp only [raw_Keys.j0] at H
   by_cases c7 : x23_2 = true
   ·subst c7
    have H1 : (some 0) = some r := by rw [if_pos rfl] at H; exact H
    clear H
    have H := H1
    clear H1
    obtain rfl := Option.some.inj H
    go_wp2
    go_ret
    exact ⟨by first | rfl | (simp [errW_none, errW_some] <;> rfl) | (simp [*, errW_none, errW_some] <;> rfl), by repeat (first | (with_reducible first | exact HB.out | apply below_alloc | apply pw_below_drewN | apply below_drew1) | exact HB.out)⟩
   ·replace c7 := Bool.eq_false_iff.mpr c7
    subst c7
    have H1 : (if (mx a0 (wrap64 (-a0))) ≥ a1 then ((wide_MulDiv.f kj2 (wrap64 ((wrap64 ((wrap64 ((wrap64 ((wrap64 ((wrap64 (-(mx a0 (wrap64 (-a0))))) * (mx a0 (wrap64 (-a0))))) * (mx a0 (wrap64 (-a0))))) + (wrap64 ((wrap64 ((wrap64 (5 * (mx a0 (wrap64 (-a0))))) * (mx a0 (wrap64 (-a0))))) * a1)))) - (wrap64 ((wrap64 ((wrap64 (8 * (mx a0 (wrap64 (-a0))))) * a1)) * a1)))) + (wrap64 ((wrap64 ((wrap64 (4 * a1)) * a1)) * a1)))) 1073741824 (wrap64 ((wrap64 ((wrap64 (2 * a1)) * a1)) * a1))).bind fun t134 => (some t134)) else ((wide_MulDiv.f kj2 (wrap64 ((wrap64 ((wrap64 ((wrap64 ((wrap64 (3 * (mx a0 (wrap64 (-a0))))) * (mx a0 (wrap64 (-a0))))) * (mx a0 (wrap64 (-a0))))) - (wrap64 ((wrap64 ((wrap64 (5 * (mx a0 (wrap64 (-a0))))) * (mx a0 (wrap64 (-a0))))) * a1)))) + (wrap64 ((wrap64 ((wrap64 (2 * a1)) * a1)) * a1)))) 1073741824 (wrap64 ((wrap64 ((wrap64 (2 * a1)) * a1)) * a1))).bind fun t135 => (some t135))) = some r := by rw [if_neg (show ¬ (false = true) by decide)] at H; exact H
    clear H
    have H := H1
    clear H1
    obtain ⟨ji8, hji8⟩ : ∃ j_ : Int, (mx a0 (wrap64 (-a0))) = j_ := ⟨_, rfl⟩
    replace H : (if (ji8) ≥ a1 then ((wide_MulDiv.f kj2 (wrap64 ((wrap64 ((wrap64 ((wrap64 ((wrap64 ((wrap64 (-(ji8))) * (ji8))) * (ji8))) + (wrap64 ((wrap64 ((wrap64 (5 * (ji8))) * (ji8))) * a1)))) - (wrap64 ((wrap64 ((wrap64 (8 * (ji8))) * a1)) * a1)))) + (wrap64 ((wrap64 ((wrap64 (4 * a1)) * a1)) * a1)))) 1073741824 (wrap64 ((wrap64 ((wrap64 (2 * a1)) * a1)) * a1))).bind fun t134 => (some t134)) else ((wide_MulDiv.f kj2 (wrap64 ((wrap64 ((wrap64 ((wrap64 ((wrap64 (3 * (ji8))) * (ji8))) * (ji8))) - (wrap64 ((wrap64 ((wrap64 (5 * (ji8))) * (ji8))) * a1)))) + (wrap64 ((wrap64 ((wrap64 (2 * a1)) * a1)) * a1)))) 1073741824 (wrap64 ((wrap64 ((wrap64 (2 * a1)) * a1)) * a1))).bind fun t135 => (some t135))) = some r := by first | (rw [hji8] at H; exact H) | (simp only [hji8] at H ⊢; exact H)
    have hji8_ : (if a0 < (wrap64 (-a0)) then (wrap64 (-a0)) else a0) = ji8 := hji8
    by_cases c9 : (ji8) ≥ a1
    ·rw [if_pos c9] at H
     have c9b0 : decide (a1 ≤ (ji8)) = true := decide_eq_true c9
     clear c9
     replace H := Option.bind_eq_some_iff.mp H
     obtain ⟨t134, A100, H⟩ := H
     replace H : (some t134) = some r := H
     have A10 := Aside0.mk A100
     clear A100
     obtain rfl := Option.some.inj H
     go_wp2_with (first | ((with_reducible refine gate_callee (f := 54) rfl ?_); refine goesL_ (some 85) rfl rfl Tryd.func54 (by kernel_rfl) rfl #[.int .i64 (wrap64 ((wrap64 ((wrap64 ((wrap64 ((wrap64 ((wrap64 (-(ji8))) * (ji8))) * (ji8))) + (wrap64 ((wrap64 ((wrap64 (5 * (ji8))) * (ji8))) * a1)))) - (wrap64 ((wrap64 ((wrap64 (8 * (ji8))) * a1)) * a1)))) + (wrap64 ((wrap64 ((wrap64 (4 * a1)) * a1)) * a1)))), .int .i64 1073741824, .int .i64 (wrap64 ((wrap64 ((wrap64 (2 * a1)) * a1)) * a1))] rfl (by (try simp only [List.map_toArray, List.map_cons, List.map_nil]); first | done | (simp only [hji8]; rfl) | (simp only [Int.tdiv_eq_ediv_of_nonneg hji8l]; rfl) | rfl | (simp only [List.length_drop, List.length_take]; rfl)) ?_; (with_reducible refine (wide_MulDiv.calls kj2 (wrap64 ((wrap64 ((wrap64 ((wrap64 ((wrap64 ((wrap64 (-(ji8))) * (ji8))) * (ji8))) + (wrap64 ((wrap64 ((wrap64 (5 * (ji8))) * (ji8))) * a1)))) - (wrap64 ((wrap64 ((wrap64 (8 * (ji8))) * a1)) * a1)))) + (wrap64 ((wrap64 ((wrap64 (4 * a1)) * a1)) * a1)))) 1073741824 (wrap64 ((wrap64 ((wrap64 (2 * a1)) * a1)) * a1)) t134 _ A10.out).mono ?_); rintro e w' ⟨rfl, ⟨nd, rfl⟩⟩; refine ⟨_, rfl, ?_⟩))
     go_ret
     exact ⟨by first | rfl | (simp [errW_none, errW_some] <;> rfl) | (simp only [← hji8]; first | rfl | (simp [errW_none, errW_some] <;> rfl)) | (simp [*, errW_none, errW_some] <;> rfl), by repeat (first | (with_reducible first | exact HB.out | apply below_alloc | apply pw_below_drewN | apply below_drew1) | exact HB.out)⟩
    ·rw [if_neg c9] at H
     have c9b0 : decide (a1 ≤ (ji8)) = false := decide_eq_false c9
     clear c9
     replace H := Option.bind_eq_some_iff.mp H
     obtain ⟨t135, A110, H⟩ := H
     replace H : (some t135) = some r := H
     have A11 := Aside0.mk A110
     clear A110
     obtain rfl := Option.some.inj H
     go_wp2_with (first | ((with_reducible refine gate_callee (f := 54) rfl ?_); refine goesL_ (some 85) rfl rfl Tryd.func54 (by kernel_rfl) rfl #[.int .i64 (wrap64 ((wrap64 ((wrap64 ((wrap64 ((wrap64 (3 * (ji8))) * (ji8))) * (ji8))) - (wrap64 ((wrap64 ((wrap64 (5 * (ji8))) * (ji8))) * a1)))) + (wrap64 ((wrap64 ((wrap64 (2 * a1)) * a1)) * a1)))), .int .i64 1073741824, .int .i64 (wrap64 ((wrap64 ((wrap64 (2 * a1)) * a1)) * a1))] rfl (by (try simp only [List.map_toArray, List.map_cons, List.map_nil]); first | done | (simp only [hji8]; rfl) | (simp only [Int.tdiv_eq_ediv_of_nonneg hji8l]; rfl) | rfl | (simp only [List.length_drop, List.length_take]; rfl)) ?_; (with_reducible refine (wide_MulDiv.calls kj2 (wrap64 ((wrap64 ((wrap64 ((wrap64 ((wrap64 (3 * (ji8))) * (ji8))) * (ji8))) - (wrap64 ((wrap64 ((wrap64 (5 * (ji8))) * (ji8))) * a1)))) + (wrap64 ((wrap64 ((wrap64 (2 * a1)) * a1)) * a1)))) 1073741824 (wrap64 ((wrap64 ((wrap64 (2 * a1)) * a1)) * a1)) t135 _ A11.out).mono ?_); rintro e w' ⟨rfl, ⟨nd, rfl⟩⟩; refine ⟨_, rfl, ?_⟩))
     go_ret
     exact ⟨by first | rfl | (simp [errW_none, errW_some] <;> rfl) | (simp only [← hji8]; first | rfl | (simp [errW_none, errW_some] <;> rfl)) | (simp [*, errW_none, errW_some] <;> rfl), by repeat (first | (with_reducible first | exact HB.out | apply below_alloc | apply pw_below_drewN | apply below_drew1) | exact HB.out)⟩

end Go.Proofs.YthaajkpiknbdbaaDoor.QA
