-- Written by wip/tools/pp.py over the kit's print.py; not trusted: Lean checks it.
import Derived.Test.YtabojpnelbmifaaQMx0
import Derived.Test.YtabojpnelbmifaaQMx4
import Derived.Test.YtabojpnelbmifaaQMx5
import Derived.Test.YtabojpnelbmifaaQMx6
namespace Go.Proofs.Ytabojpnelbmifaa.QM
open Go.Proofs.Ytabojpnelbmifaa.T
open Go.RowKit Go.Proofs.YtabojpnelbmifaaW.PrintWords Go.Proofs.YtabojpnelbmifaaW.PrintLast Go.Proofs.YtabojpnelbmifaaW.PrintMore
attribute [local go_sem] ext_call max2_int min2_int max_two min_two max_three min_three max_four min_four   -- for this text's walks alone
set_option linter.unusedVariables false
set_option linter.unusedSimpArgs false

-- NOT PRINTED: function 54 (bits_Add64)

/-! ### wide_MulDiv: function 34 -/
def wide_MulDiv.j0 : Nat → Bool → Int → Int → Bool → Option (Int)
 | 0, _, _, _, _ => none
 | k + 1, x9, x11, x14, x60 => if x60 = true then ((wide_signed.f k (add64c x11 1 0) (add64s x11 1 0) x9).bind fun t129 => (some t129)) else ((wide_signed.f k (add64c x11 x14 0) (add64s x11 x14 0) x9).bind fun t130 => (some t130))
def wide_MulDiv.f (k : Nat) (a0 : Int) (a1 : Int) (a2 : Int) : Option (Int) := if a2 = 0 then (some 0) else ((wide_product.f a0 a1).bind fun bt122 => ((wide_size.f a2).bind fun t125 => (if bt122.1 ≥ t125 then ((wide_signed.f k 1 0 (bt122.2.2 != (decide (a2 < 0)))).bind fun t126 => (some t126)) else ((bits_Div64.f k bt122.1 bt122.2.1 t125).bind fun bt127 => (if (bt122.2.2 != (decide (a2 < 0))) = true then (if bt127.2 > (IntKind.u64.wrap (t125 - bt127.2)) then (wide_MulDiv.j0 k (bt122.2.2 != (decide (a2 < 0))) bt127.1 0 true) else (if ((bt122.2.2 != (decide (a2 < 0))) = true) then (wide_MulDiv.j0 k (bt122.2.2 != (decide (a2 < 0))) bt127.1 0 false) else (wide_MulDiv.j0 k (bt122.2.2 != (decide (a2 < 0))) bt127.1 0 (decide (bt127.2 ≥ (IntKind.u64.wrap (t125 - bt127.2))))))) else (if ((bt122.2.2 != (decide (a2 < 0))) = true) then (wide_MulDiv.j0 k (bt122.2.2 != (decide (a2 < 0))) bt127.1 0 false) else (wide_MulDiv.j0 k (bt122.2.2 != (decide (a2 < 0))) bt127.1 0 (decide (bt127.2 ≥ (IntKind.u64.wrap (t125 - bt127.2)))))))))))
theorem wide_MulDiv.mono_l : ∀ k, (∀ y0 y1 y2 y3, LeO (wide_MulDiv.j0 k y0 y1 y2 y3) (wide_MulDiv.j0 (k + 1) y0 y1 y2 y3))
 | 0 => fun _ _ _ _ r h => by simp [wide_MulDiv.j0] at h
 | k + 1 => by
  have ih0 := wide_MulDiv.mono_l k
  ·intro y0 y1 y2 y3
   unfold wide_MulDiv.j0
   repeat' first
   | (with_reducible exact ih0 _ _ _ _)
   | (with_reducible exact bits_Div64.mono _ _ _ _)
   | (with_reducible exact wide_signed.mono _ _ _ _)
   | (with_reducible exact LeO.refl _)
   | (with_reducible exact LeO.none _)
   | (with_reducible refine LeO.ite ?_ ?_)
   | (with_reducible refine LeO.bind ?_ (fun _ => ?_))
   | exact ih0 _ _ _ _
   | exact bits_Div64.mono _ _ _ _
   | exact wide_signed.mono _ _ _ _
   | exact LeO.none _
   | refine LeO.ite ?_ ?_
   | refine LeO.bind ?_ (fun _ => ?_)
theorem wide_MulDiv.mono : ∀ a0 a1 a2 k, LeO (wide_MulDiv.f k a0 a1 a2) (wide_MulDiv.f (k + 1) a0 a1 a2) := by
 intro a0 a1 a2 k
 have ih0 := wide_MulDiv.mono_l k
 unfold wide_MulDiv.f
 repeat' first
   | (with_reducible exact ih0 _ _ _ _)
   | (with_reducible exact bits_Div64.mono _ _ _ _)
   | (with_reducible exact wide_signed.mono _ _ _ _)
   | (with_reducible exact LeO.refl _)
   | (with_reducible exact LeO.none _)
   | (with_reducible refine LeO.ite ?_ ?_)
   | (with_reducible refine LeO.bind ?_ (fun _ => ?_))
   | exact ih0 _ _ _ _
   | exact bits_Div64.mono _ _ _ _
   | exact wide_signed.mono _ _ _ _
   | exact LeO.none _
   | refine LeO.ite ?_ ?_
   | refine LeO.bind ?_ (fun _ => ?_)
set_option maxHeartbeats 8000000 in
set_option maxRecDepth 100000 in
theorem wide_MulDiv.calls (k : Nat) (a0 : Int) (a1 : Int) (a2 : Int) (r : Int) (w : World) (h : wide_MulDiv.f k a0 a1 a2 = some r) :
  Calls Try.prog 34 #[.int .i64 a0, .int .i64 a1, .int .i64 a2] w fun e w' => e = .returned (.int .i64 r) ∧ Drawn0 w w' := by
 have H : (if a2 = 0 then (some 0) else ((wide_product.f a0 a1).bind fun bt122 => ((wide_size.f a2).bind fun t125 => (if bt122.1 ≥ t125 then ((wide_signed.f k 1 0 (bt122.2.2 != (decide (a2 < 0)))).bind fun t126 => (some t126)) else ((bits_Div64.f k bt122.1 bt122.2.1 t125).bind fun bt127 => (if (bt122.2.2 != (decide (a2 < 0))) = true then (if bt127.2 > (IntKind.u64.wrap (t125 - bt127.2)) then (wide_MulDiv.j0 k (bt122.2.2 != (decide (a2 < 0))) bt127.1 0 true) else (if ((bt122.2.2 != (decide (a2 < 0))) = true) then (wide_MulDiv.j0 k (bt122.2.2 != (decide (a2 < 0))) bt127.1 0 false) else (wide_MulDiv.j0 k (bt122.2.2 != (decide (a2 < 0))) bt127.1 0 (decide (bt127.2 ≥ (IntKind.u64.wrap (t125 - bt127.2))))))) else (if ((bt122.2.2 != (decide (a2 < 0))) = true) then (wide_MulDiv.j0 k (bt122.2.2 != (decide (a2 < 0))) bt127.1 0 false) else (wide_MulDiv.j0 k (bt122.2.2 != (decide (a2 < 0))) bt127.1 0 (decide (bt127.2 ≥ (IntKind.u64.wrap (t125 - bt127.2)))))))))))) = some r := h
 clear h
 by_cases c4 : a2 = 0
 ·rw [if_pos c4] at H
  have c4b0 : (a2 == 0) = true := beq_iff_eq.mpr c4
  have c4b1 : (a2 != 0) = false := bne_eq_false_iff_eq.mpr c4
  clear c4
  obtain rfl := Option.some.inj H
  go_enter Try.func34, Try.ntmps34
  go_wp2
  go_ret
  exact ⟨by first | rfl | (simp; done) | (simp [*]; done), by repeat (first | exact Drawn0.refl _ | apply Drawn0.step)⟩
 ·rw [if_neg c4] at H
  have c4b0 : (a2 == 0) = false := beq_eq_false_iff_ne.mpr c4
  have c4b1 : (a2 != 0) = true := bne_iff_ne.mpr c4
  replace H := Option.bind_eq_some_iff.mp H
  obtain ⟨⟨t122, t123, t124⟩, A50, H⟩ := H
  replace H : ((wide_size.f a2).bind fun t125 => (if t122 ≥ t125 then ((wide_signed.f k 1 0 (t124 != (decide (a2 < 0)))).bind fun t126 => (some t126)) else ((bits_Div64.f k t122 t123 t125).bind fun bt127 => (if (t124 != (decide (a2 < 0))) = true then (if bt127.2 > (IntKind.u64.wrap (t125 - bt127.2)) then (wide_MulDiv.j0 k (t124 != (decide (a2 < 0))) bt127.1 0 true) else (if ((t124 != (decide (a2 < 0))) = true) then (wide_MulDiv.j0 k (t124 != (decide (a2 < 0))) bt127.1 0 false) else (wide_MulDiv.j0 k (t124 != (decide (a2 < 0))) bt127.1 0 (decide (bt127.2 ≥ (IntKind.u64.wrap (t125 - bt127.2))))))) else (if ((t124 != (decide (a2 < 0))) = true) then (wide_MulDiv.j0 k (t124 != (decide (a2 < 0))) bt127.1 0 false) else (wide_MulDiv.j0 k (t124 != (decide (a2 < 0))) bt127.1 0 (decide (bt127.2 ≥ (IntKind.u64.wrap (t125 - bt127.2)))))))))) = some r := H
  have A5 := Aside0.mk A50
  clear A50
  replace H := Option.bind_eq_some_iff.mp H
  obtain ⟨t125, A60, H⟩ := H
  replace H : (if t122 ≥ t125 then ((wide_signed.f k 1 0 (t124 != (decide (a2 < 0)))).bind fun t126 => (some t126)) else ((bits_Div64.f k t122 t123 t125).bind fun bt127 => (if (t124 != (decide (a2 < 0))) = true then (if bt127.2 > (IntKind.u64.wrap (t125 - bt127.2)) then (wide_MulDiv.j0 k (t124 != (decide (a2 < 0))) bt127.1 0 true) else (if ((t124 != (decide (a2 < 0))) = true) then (wide_MulDiv.j0 k (t124 != (decide (a2 < 0))) bt127.1 0 false) else (wide_MulDiv.j0 k (t124 != (decide (a2 < 0))) bt127.1 0 (decide (bt127.2 ≥ (IntKind.u64.wrap (t125 - bt127.2))))))) else (if ((t124 != (decide (a2 < 0))) = true) then (wide_MulDiv.j0 k (t124 != (decide (a2 < 0))) bt127.1 0 false) else (wide_MulDiv.j0 k (t124 != (decide (a2 < 0))) bt127.1 0 (decide (bt127.2 ≥ (IntKind.u64.wrap (t125 - bt127.2))))))))) = some r := H
  have A6 := Aside0.mk A60
  clear A60
  by_cases c7 : t122 ≥ t125
  ·rw [if_pos c7] at H
   have c7b0 : decide (t125 ≤ t122) = true := decide_eq_true c7
   clear c7
   replace H := Option.bind_eq_some_iff.mp H
   obtain ⟨t126, A80, H⟩ := H
   replace H : (some t126) = some r := H
   have A8 := Aside0.mk A80
   clear A80
   obtain rfl := Option.some.inj H
   go_enter Try.func34, Try.ntmps34
   go_wp2_with (first | ((with_reducible refine gate_callee (f := 50) rfl ?_); refine goesL_ (some 21) rfl rfl Try.func50 (by kernel_rfl) rfl #[.int .i64 a0, .int .i64 a1] rfl (by (try simp only [List.map_toArray, List.map_cons, List.map_nil]); first | done | rfl | (simp only [List.length_drop, List.length_take]; rfl)) ?_; (with_reducible refine (wide_product.calls a0 a1 t122 t123 t124 _ A5.out).mono ?_); rintro e w' ⟨rfl, ⟨nd, rfl⟩⟩; refine ⟨_, rfl, ?_⟩) | ((with_reducible refine gate_callee (f := 51) rfl ?_); refine goesL_ (some 26) rfl rfl Try.func51 (by kernel_rfl) rfl #[.int .i64 a2] rfl (by (try simp only [List.map_toArray, List.map_cons, List.map_nil]); first | done | rfl | (simp only [List.length_drop, List.length_take]; rfl)) ?_; (with_reducible refine (wide_size.calls a2 t125 _ A6.out).mono ?_); rintro e w' ⟨rfl, ⟨nd, rfl⟩⟩; refine ⟨_, rfl, ?_⟩) | ((with_reducible refine gate_callee (f := 52) rfl ?_); refine goesL_ (some 35) rfl rfl Try.func52 (by kernel_rfl) rfl #[.int .u64 1, .int .u64 0, .bool (t124 != (decide (a2 < 0)))] rfl (by (try simp only [List.map_toArray, List.map_cons, List.map_nil]); first | done | rfl | (simp only [List.length_drop, List.length_take]; rfl)) ?_; (with_reducible refine (wide_signed.calls k 1 0 (t124 != (decide (a2 < 0))) t126 _ A8.out).mono ?_); rintro e w' ⟨rfl, ⟨nd, rfl⟩⟩; refine ⟨_, rfl, ?_⟩))
   go_ret
   exact ⟨by first | rfl | (simp; done) | (simp [*]; done), by repeat (first | exact Drawn0.refl _ | apply Drawn0.step)⟩
  ·rw [if_neg c7] at H
   have c7b0 : decide (t125 ≤ t122) = false := decide_eq_false c7
   clear c7
   replace H := Option.bind_eq_some_iff.mp H
   obtain ⟨⟨t127, t128⟩, A90, H⟩ := H
   replace H : (if (t124 != (decide (a2 < 0))) = true then (if t128 > (IntKind.u64.wrap (t125 - t128)) then (wide_MulDiv.j0 k (t124 != (decide (a2 < 0))) t127 0 true) else (if ((t124 != (decide (a2 < 0))) = true) then (wide_MulDiv.j0 k (t124 != (decide (a2 < 0))) t127 0 false) else (wide_MulDiv.j0 k (t124 != (decide (a2 < 0))) t127 0 (decide (t128 ≥ (IntKind.u64.wrap (t125 - t128))))))) else (if ((t124 != (decide (a2 < 0))) = true) then (wide_MulDiv.j0 k (t124 != (decide (a2 < 0))) t127 0 false) else (wide_MulDiv.j0 k (t124 != (decide (a2 < 0))) t127 0 (decide (t128 ≥ (IntKind.u64.wrap (t125 - t128))))))) = some r := H
   have A9 := Aside0.mk A90
   clear A90
   rcases Bool.eq_false_or_eq_true (t124 != (decide (a2 < 0))) with hsv | hsv
   ·have hsvb0 : (t124 != (decide (a2 < 0))) = true := hsv
    have hsvb2 : (t124 == (decide (a2 < 0))) = false := by simpa using hsv
    have HC10 := Aside0.mk H
    clear H
    go_enter Try.func34, Try.ntmps34
    go_upto_region 11 with (first | ((with_reducible refine gate_callee (f := 50) rfl ?_); refine goesL_ (some 21) rfl rfl Try.func50 (by kernel_rfl) rfl #[.int .i64 a0, .int .i64 a1] rfl (by (try simp only [List.map_toArray, List.map_cons, List.map_nil]); first | done | rfl | (simp only [List.length_drop, List.length_take]; rfl)) ?_; (with_reducible refine (wide_product.calls a0 a1 t122 t123 t124 _ A5.out).mono ?_); rintro e w' ⟨rfl, ⟨nd, rfl⟩⟩; refine ⟨_, rfl, ?_⟩) | ((with_reducible refine gate_callee (f := 51) rfl ?_); refine goesL_ (some 26) rfl rfl Try.func51 (by kernel_rfl) rfl #[.int .i64 a2] rfl (by (try simp only [List.map_toArray, List.map_cons, List.map_nil]); first | done | rfl | (simp only [List.length_drop, List.length_take]; rfl)) ?_; (with_reducible refine (wide_size.calls a2 t125 _ A6.out).mono ?_); rintro e w' ⟨rfl, ⟨nd, rfl⟩⟩; refine ⟨_, rfl, ?_⟩) | ((with_reducible refine gate_callee (f := 53) rfl ?_); refine goesL_ (some 40) rfl rfl Try.func53 (by kernel_rfl) rfl #[.int .u64 t122, .int .u64 t123, .int .u64 t125] rfl (by (try simp only [List.map_toArray, List.map_cons, List.map_nil]); first | done | rfl | (simp only [List.length_drop, List.length_take]; rfl)) ?_; (with_reducible refine (bits_Div64.calls k t122 t123 t125 t127 t128 _ A9.out).mono ?_); rintro e w' ⟨rfl, ⟨nd, rfl⟩⟩; refine ⟨_, rfl, ?_⟩))
    (try simp only [Act.put, List.setIfInBounds_toArray, List.set_cons_zero, List.set_cons_succ])
    go_cut [60] (fun v60 wc => ∃ (kq : Nat) (x60_9 : Bool), v60 = .bool x60_9 ∧ Aside0 (wide_MulDiv.j0 kq (t124 != (decide (a2 < 0))) t127 0 x60_9 = some r) ∧ Aside0 (kq ≤ k) ∧ Drawn0 w wc)
    case first =>
     have H := HC10.out
     clear HC10
     by_cases c11 : (t124 != (decide (a2 < 0))) = true
     ·rw [if_pos c11] at H
      have c11b0 : (t124 != (decide (a2 < 0))) = true := c11
      (try (have c11b1 : decide (t124 = (decide (a2 < 0))) = false := by simpa using c11))
      (try (have c11b2 : (t124 == (decide (a2 < 0))) = false := by simpa using c11))
      (try (have c11b3 : ¬ (t124 = (decide (a2 < 0))) := by simpa using c11))
      clear c11
      (first | rw [c11b0] | (simp only [i64_w, i32_w]; rw [c11b0]) | skip)
      by_cases c12 : t128 > (IntKind.u64.wrap (t125 - t128))
      ·rw [if_pos c12] at H
       have c12b0 : decide ((IntKind.u64.wrap (t125 - t128)) < t128) = true := decide_eq_true c12
       clear c12
       have H' := Aside0.mk H
       clear H
       go_wp2
       go_meet
       case rel => exact ⟨_, (true), (by first | rfl | (simp; done) | (simp [*]; done)), H', ⟨by first | omega | exact Nat.le_refl _⟩, by repeat (first | exact Drawn0.refl _ | apply Drawn0.step)⟩
      ·rw [if_neg c12] at H
       have c12b0 : decide ((IntKind.u64.wrap (t125 - t128)) < t128) = false := decide_eq_false c12
       clear c12
       by_cases c13 : ((t124 != (decide (a2 < 0))) = true)
       ·rw [if_pos c13] at H
        have c13b0 : (t124 != (decide (a2 < 0))) = true := c13
        (try (have c13b1 : decide (t124 = (decide (a2 < 0))) = false := by simpa using c13))
        (try (have c13b2 : (t124 == (decide (a2 < 0))) = false := by simpa using c13))
        (try (have c13b3 : ¬ (t124 = (decide (a2 < 0))) := by simpa using c13))
        clear c13
        have H' := Aside0.mk H
        clear H
        go_wp2
        go_meet
        case rel => exact ⟨_, (false), (by first | rfl | (simp; done) | (simp [*]; done)), H', ⟨by first | omega | exact Nat.le_refl _⟩, by repeat (first | exact Drawn0.refl _ | apply Drawn0.step)⟩
       ·rw [if_neg c13] at H
        have c13b0 : (t124 != (decide (a2 < 0))) = false := by simpa using c13
        exact absurd (hsvb0.symm.trans c13b0) (by decide)
     ·rw [if_neg c11] at H
      have c11b0 : (t124 != (decide (a2 < 0))) = false := by simpa using c11
      exact absurd (hsvb0.symm.trans c11b0) (by decide)
    case rest =>
     clear HC10
     try clear c1
     try clear p2
     try clear c3
     try clear c4
     try clear c4b0
     try clear c4b1
     try clear c5
     try clear c7
     try clear c7b0
     try clear c11
     try clear c11b0
     try clear c11b1
     try clear c11b2
     try clear c12
     try clear c12b0
     try clear c13
     try clear c13b0
     try clear c13b1
     try clear c13b2
     try clear c14
     try clear c14b0
     try clear c14b1
     try clear c14b2
     obtain ⟨kq, x60_9, rfl, HA, HJ9, ⟨mc9, rfl⟩⟩ := hcut
     cases kq with
     | zero => exact absurd HA.out (by simp [wide_MulDiv.j0])
     | succ kj9 =>
      have H := HA.out
      clear HA
      simp only [wide_MulDiv.j0] at H
      by_cases c15 : x60_9 = true
      ·subst c15
       have H1 : ((wide_signed.f kj9 (add64c t127 1 0) (add64s t127 1 0) (t124 != (decide (a2 < 0)))).bind fun t129 => (some t129)) = some r := by rw [if_pos rfl] at H; exact H
       clear H
       have H := H1
       clear H1
       replace H := Option.bind_eq_some_iff.mp H
       obtain ⟨t129, A160, H⟩ := H
       replace H : (some t129) = some r := H
       have A16 := Aside0.mk A160
       clear A160
       obtain rfl := Option.some.inj H
       go_wp2_with (first | ((with_reducible refine gate_callee (f := 52) rfl ?_); refine goesL_ (some 70) rfl rfl Try.func52 (by kernel_rfl) rfl #[.int .u64 (add64c t127 1 0), .int .u64 (add64s t127 1 0), .bool true] rfl (by (try simp only [List.map_toArray, List.map_cons, List.map_nil]); first | done | rfl | (simp only [List.length_drop, List.length_take]; rfl)) ?_; (with_reducible refine (wide_signed.calls kj9 (add64c t127 1 0) (add64s t127 1 0) true t129 _ (by have h := A16.out; rw [hsvb0] at h; exact h)).mono ?_); rintro e w' ⟨rfl, ⟨nd, rfl⟩⟩; refine ⟨_, rfl, ?_⟩))
       go_ret
       exact ⟨by first | rfl | (simp; done) | (simp [*]; done), by repeat (first | exact Drawn0.refl _ | apply Drawn0.step)⟩
      ·replace c15 := Bool.eq_false_iff.mpr c15
       subst c15
       have H1 : ((wide_signed.f kj9 (add64c t127 0 0) (add64s t127 0 0) (t124 != (decide (a2 < 0)))).bind fun t130 => (some t130)) = some r := by rw [if_neg (show ¬ (false = true) by decide)] at H; exact H
       clear H
       have H := H1
       clear H1
       replace H := Option.bind_eq_some_iff.mp H
       obtain ⟨t130, A170, H⟩ := H
       replace H : (some t130) = some r := H
       have A17 := Aside0.mk A170
       clear A170
       obtain rfl := Option.some.inj H
       go_wp2_with (first | ((with_reducible refine gate_callee (f := 52) rfl ?_); refine goesL_ (some 70) rfl rfl Try.func52 (by kernel_rfl) rfl #[.int .u64 (add64c t127 0 0), .int .u64 (add64s t127 0 0), .bool true] rfl (by (try simp only [List.map_toArray, List.map_cons, List.map_nil]); first | done | rfl | (simp only [List.length_drop, List.length_take]; rfl)) ?_; (with_reducible refine (wide_signed.calls kj9 (add64c t127 0 0) (add64s t127 0 0) true t130 _ (by have h := A17.out; rw [hsvb0] at h; exact h)).mono ?_); rintro e w' ⟨rfl, ⟨nd, rfl⟩⟩; refine ⟨_, rfl, ?_⟩))
       go_ret
       exact ⟨by first | rfl | (simp; done) | (simp [*]; done), by repeat (first | exact Drawn0.refl _ | apply Drawn0.step)⟩
   ·have hsvb0 : (t124 != (decide (a2 < 0))) = false := hsv
    have hsvb2 : (t124 == (decide (a2 < 0))) = true := by simpa using hsv
    have HC10 := Aside0.mk H
    clear H
    go_enter Try.func34, Try.ntmps34
    go_upto_region 11 with (first | ((with_reducible refine gate_callee (f := 50) rfl ?_); refine goesL_ (some 21) rfl rfl Try.func50 (by kernel_rfl) rfl #[.int .i64 a0, .int .i64 a1] rfl (by (try simp only [List.map_toArray, List.map_cons, List.map_nil]); first | done | rfl | (simp only [List.length_drop, List.length_take]; rfl)) ?_; (with_reducible refine (wide_product.calls a0 a1 t122 t123 t124 _ A5.out).mono ?_); rintro e w' ⟨rfl, ⟨nd, rfl⟩⟩; refine ⟨_, rfl, ?_⟩) | ((with_reducible refine gate_callee (f := 51) rfl ?_); refine goesL_ (some 26) rfl rfl Try.func51 (by kernel_rfl) rfl #[.int .i64 a2] rfl (by (try simp only [List.map_toArray, List.map_cons, List.map_nil]); first | done | rfl | (simp only [List.length_drop, List.length_take]; rfl)) ?_; (with_reducible refine (wide_size.calls a2 t125 _ A6.out).mono ?_); rintro e w' ⟨rfl, ⟨nd, rfl⟩⟩; refine ⟨_, rfl, ?_⟩) | ((with_reducible refine gate_callee (f := 53) rfl ?_); refine goesL_ (some 40) rfl rfl Try.func53 (by kernel_rfl) rfl #[.int .u64 t122, .int .u64 t123, .int .u64 t125] rfl (by (try simp only [List.map_toArray, List.map_cons, List.map_nil]); first | done | rfl | (simp only [List.length_drop, List.length_take]; rfl)) ?_; (with_reducible refine (bits_Div64.calls k t122 t123 t125 t127 t128 _ A9.out).mono ?_); rintro e w' ⟨rfl, ⟨nd, rfl⟩⟩; refine ⟨_, rfl, ?_⟩))
    (try simp only [Act.put, List.setIfInBounds_toArray, List.set_cons_zero, List.set_cons_succ])
    go_cut [60] (fun v60 wc => ∃ (kq : Nat) (x60_9 : Bool), v60 = .bool x60_9 ∧ Aside0 (wide_MulDiv.j0 kq (t124 != (decide (a2 < 0))) t127 0 x60_9 = some r) ∧ Aside0 (kq ≤ k) ∧ Drawn0 w wc)
    case first =>
     have H := HC10.out
     clear HC10
     by_cases c11 : (t124 != (decide (a2 < 0))) = true
     ·rw [if_pos c11] at H
      have c11b0 : (t124 != (decide (a2 < 0))) = true := c11
      exact absurd (hsvb0.symm.trans c11b0) (by decide)
     ·rw [if_neg c11] at H
      have c11b0 : (t124 != (decide (a2 < 0))) = false := by simpa using c11
      (try (have c11b1 : decide (t124 = (decide (a2 < 0))) = true := by simpa using c11))
      (try (have c11b2 : (t124 == (decide (a2 < 0))) = true := by simpa using c11))
      clear c11
      (first | rw [c11b0] | (simp only [i64_w, i32_w]; rw [c11b0]) | skip)
      by_cases c14 : ((t124 != (decide (a2 < 0))) = true)
      ·rw [if_pos c14] at H
       have c14b0 : (t124 != (decide (a2 < 0))) = true := c14
       exact absurd (hsvb0.symm.trans c14b0) (by decide)
      ·rw [if_neg c14] at H
       have c14b0 : (t124 != (decide (a2 < 0))) = false := by simpa using c14
       (try (have c14b1 : decide (t124 = (decide (a2 < 0))) = true := by simpa using c14))
       (try (have c14b2 : (t124 == (decide (a2 < 0))) = true := by simpa using c14))
       clear c14
       have H' := Aside0.mk H
       clear H
       go_wp2
       go_meet
       case rel => exact ⟨_, (decide (t128 ≥ (IntKind.u64.wrap (t125 - t128)))), (by first | rfl | (simp; done) | (simp [*]; done)), H', ⟨by first | omega | exact Nat.le_refl _⟩, by repeat (first | exact Drawn0.refl _ | apply Drawn0.step)⟩
    case rest =>
     clear HC10
     try clear c1
     try clear p2
     try clear c3
     try clear c4
     try clear c4b0
     try clear c4b1
     try clear c5
     try clear c7
     try clear c7b0
     try clear c11
     try clear c11b0
     try clear c11b1
     try clear c11b2
     try clear c12
     try clear c12b0
     try clear c13
     try clear c13b0
     try clear c13b1
     try clear c13b2
     try clear c14
     try clear c14b0
     try clear c14b1
     try clear c14b2
     obtain ⟨kq, x60_9, rfl, HA, HJ9, ⟨mc9, rfl⟩⟩ := hcut
     cases kq with
     | zero => exact absurd HA.out (by simp [wide_MulDiv.j0])
     | succ kj9 =>
      have H := HA.out
      clear HA
      simp only [wide_MulDiv.j0] at H
      by_cases c15 : x60_9 = true
      ·subst c15
       have H1 : ((wide_signed.f kj9 (add64c t127 1 0) (add64s t127 1 0) (t124 != (decide (a2 < 0)))).bind fun t129 => (some t129)) = some r := by rw [if_pos rfl] at H; exact H
       clear H
       have H := H1
       clear H1
       replace H := Option.bind_eq_some_iff.mp H
       obtain ⟨t129, A160, H⟩ := H
       replace H : (some t129) = some r := H
       have A16 := Aside0.mk A160
       clear A160
       obtain rfl := Option.some.inj H
       go_wp2_with (first | ((with_reducible refine gate_callee (f := 52) rfl ?_); refine goesL_ (some 70) rfl rfl Try.func52 (by kernel_rfl) rfl #[.int .u64 (add64c t127 1 0), .int .u64 (add64s t127 1 0), .bool false] rfl (by (try simp only [List.map_toArray, List.map_cons, List.map_nil]); first | done | rfl | (simp only [List.length_drop, List.length_take]; rfl)) ?_; (with_reducible refine (wide_signed.calls kj9 (add64c t127 1 0) (add64s t127 1 0) false t129 _ (by have h := A16.out; rw [hsvb0] at h; exact h)).mono ?_); rintro e w' ⟨rfl, ⟨nd, rfl⟩⟩; refine ⟨_, rfl, ?_⟩))
       go_ret
       exact ⟨by first | rfl | (simp; done) | (simp [*]; done), by repeat (first | exact Drawn0.refl _ | apply Drawn0.step)⟩
      ·replace c15 := Bool.eq_false_iff.mpr c15
       subst c15
       have H1 : ((wide_signed.f kj9 (add64c t127 0 0) (add64s t127 0 0) (t124 != (decide (a2 < 0)))).bind fun t130 => (some t130)) = some r := by rw [if_neg (show ¬ (false = true) by decide)] at H; exact H
       clear H
       have H := H1
       clear H1
       replace H := Option.bind_eq_some_iff.mp H
       obtain ⟨t130, A170, H⟩ := H
       replace H : (some t130) = some r := H
       have A17 := Aside0.mk A170
       clear A170
       obtain rfl := Option.some.inj H
       go_wp2_with (first | ((with_reducible refine gate_callee (f := 52) rfl ?_); refine goesL_ (some 70) rfl rfl Try.func52 (by kernel_rfl) rfl #[.int .u64 (add64c t127 0 0), .int .u64 (add64s t127 0 0), .bool false] rfl (by (try simp only [List.map_toArray, List.map_cons, List.map_nil]); first | done | rfl | (simp only [List.length_drop, List.length_take]; rfl)) ?_; (with_reducible refine (wide_signed.calls kj9 (add64c t127 0 0) (add64s t127 0 0) false t130 _ (by have h := A17.out; rw [hsvb0] at h; exact h)).mono ?_); rintro e w' ⟨rfl, ⟨nd, rfl⟩⟩; refine ⟨_, rfl, ?_⟩))
       go_ret
       exact ⟨by first | rfl | (simp; done) | (simp [*]; done), by repeat (first | exact Drawn0.refl _ | apply Drawn0.step)⟩

/-! ### expo_Exp: function 58 -/
def expo_Exp.l0 : Nat → Int → Int → Int → Int → Int → Option (Int)
 | 0, _, _, _, _, _ => none
 | k + 1, x3, x4, x5, x6, x14 => if x14 < 16 then ((wide_MulDiv.f k x6 x4 (wrap64 ((wrap64 (x14 + 1)) * 1099511627776))).bind fun t131 => (if (Int.tmod x14 2) = 0 then (expo_Exp.l0 k x3 x4 (wrap64 (x5 - t131)) t131 (wrap64 (x14 + 1))) else (expo_Exp.l0 k x3 x4 (wrap64 (x5 + t131)) t131 (wrap64 (x14 + 1))))) else ((fixed_Shift.f x5 x3).bind fun t132 => (some t132))
def expo_Exp.f (k : Nat) (a0 : Int) : Option (Int) := expo_Exp.l0 k (wrap64 ((mx 0 a0) / 762123384786)) ((mx 0 a0) % 762123384786) 1099511627776 1099511627776 0
theorem expo_Exp.mono_l : ∀ k, (∀ y0 y1 y2 y3 y4, LeO (expo_Exp.l0 k y0 y1 y2 y3 y4) (expo_Exp.l0 (k + 1) y0 y1 y2 y3 y4))
 | 0 => fun _ _ _ _ _ r h => by simp [expo_Exp.l0] at h
 | k + 1 => by
  have ih0 := expo_Exp.mono_l k
  ·intro y0 y1 y2 y3 y4
   unfold expo_Exp.l0
   repeat' first
   | (with_reducible exact ih0 _ _ _ _ _)
   | (with_reducible exact wide_MulDiv.mono _ _ _ _)
   | (with_reducible exact LeO.refl _)
   | (with_reducible exact LeO.none _)
   | (with_reducible refine LeO.ite ?_ ?_)
   | (with_reducible refine LeO.bind ?_ (fun _ => ?_))
   | exact ih0 _ _ _ _ _
   | exact wide_MulDiv.mono _ _ _ _
   | exact LeO.none _
   | refine LeO.ite ?_ ?_
   | refine LeO.bind ?_ (fun _ => ?_)
theorem expo_Exp.mono : ∀ a0 k, LeO (expo_Exp.f k a0) (expo_Exp.f (k + 1) a0) := by
 intro a0 k
 have ih0 := expo_Exp.mono_l k
 unfold expo_Exp.f
 repeat' first
   | (with_reducible exact ih0 _ _ _ _ _)
   | (with_reducible exact wide_MulDiv.mono _ _ _ _)
   | (with_reducible exact LeO.refl _)
   | (with_reducible exact LeO.none _)
   | (with_reducible refine LeO.ite ?_ ?_)
   | (with_reducible refine LeO.bind ?_ (fun _ => ?_))
   | exact ih0 _ _ _ _ _
   | exact wide_MulDiv.mono _ _ _ _
   | exact LeO.none _
   | refine LeO.ite ?_ ?_
   | refine LeO.bind ?_ (fun _ => ?_)
set_option maxHeartbeats 8000000 in
set_option maxRecDepth 100000 in
theorem expo_Exp.calls (k : Nat) (a0 : Int) (r : Int) (w : World) (h : expo_Exp.f k a0 = some r) :
  Calls Try.prog 58 #[.int .i64 a0] w fun e w' => e = .returned (.int .i64 r) ∧ Below w.heap.size w w' := by
 have HB := Aside0.mk (Below.refl w.heap.size w)
 have H : (expo_Exp.l0 k (wrap64 ((mx 0 a0) / 762123384786)) ((mx 0 a0) % 762123384786) 1099511627776 1099511627776 0) = some r := h
 clear h
 obtain ⟨ji2, hji2⟩ : ∃ j_ : Int, (mx 0 a0) = j_ := ⟨_, rfl⟩
 replace H : (expo_Exp.l0 k (wrap64 ((ji2) / 762123384786)) ((ji2) % 762123384786) 1099511627776 1099511627776 0) = some r := by first | (rw [hji2] at H; exact H) | (simp only [hji2] at H ⊢; exact H)
 (try (have hji2l : 0 ≤ ji2 := by (rw [← hji2]; unfold mx; (repeat' split) <;> omega)))
 (try (have hji2m : 0 ≤ ji2 := by omega))
 have hji2_ : (if 0 < a0 then a0 else 0) = ji2 := hji2
 have H' := Aside0.mk H
 clear H
 go_enter Try.func58, Try.ntmps58
 go_wp2
 go_loopg [5, 6, 14] k (fun kq v5 v6 v14 w' => ∃ (x5_1 : Int) (x6_1 : Int) (x14_1 : Int), v5 = .int .i64 x5_1 ∧ v6 = .int .i64 x6_1 ∧ v14 = .int .i64 x14_1 ∧ Aside0 (expo_Exp.l0 kq (wrap64 ((ji2) / 762123384786)) ((ji2) % 762123384786) x5_1 x6_1 x14_1 = some r) ∧ Aside0 (kq ≤ k) ∧ Aside0 (Below w.heap.size w w'))
 case atStart => exact ⟨(1099511627776), (1099511627776), (0), (by first | rfl | (simp; done) | (simp [*]; done)), (by first | rfl | (simp; done) | (simp [*]; done)), (by first | rfl | (simp; done) | (simp [*]; done)), H', ⟨Nat.le_refl _⟩, ⟨by repeat (first | (with_reducible first | exact HB.out | apply below_alloc | apply pw_below_drewN | apply below_drew1) | exact HB.out)⟩⟩
 case round =>
  clear H'
  try clear p2
  obtain ⟨x5_1, x6_1, x14_1, rfl, rfl, rfl, HA, HK1, HB⟩ := hrel
  cases gk with
  | zero => exact absurd HA.out (by simp [expo_Exp.l0])
  | succ k1 =>
   have H := HA.out
   clear HA
   simp only [expo_Exp.l0] at H
   by_cases c3 : x14_1 < 16
   ·rw [if_pos c3] at H
    have c3b0 : decide (x14_1 < 16) = true := decide_eq_true c3
    clear c3
    replace H := Option.bind_eq_some_iff.mp H
    obtain ⟨t131, A40, H⟩ := H
    replace H : (if (Int.tmod x14_1 2) = 0 then (expo_Exp.l0 k1 (wrap64 ((ji2) / 762123384786)) ((ji2) % 762123384786) (wrap64 (x5_1 - t131)) t131 (wrap64 (x14_1 + 1))) else (expo_Exp.l0 k1 (wrap64 ((ji2) / 762123384786)) ((ji2) % 762123384786) (wrap64 (x5_1 + t131)) t131 (wrap64 (x14_1 + 1)))) = some r := H
    have A4 := Aside0.mk A40
    clear A40
    by_cases c5 : (Int.tmod x14_1 2) = 0
    ·rw [if_pos c5] at H
     have c5b0 : ((Int.tmod x14_1 2) == 0) = true := beq_iff_eq.mpr c5
     have c5b1 : ((Int.tmod x14_1 2) != 0) = false := bne_eq_false_iff_eq.mpr c5
     clear c5
     have H' := Aside0.mk H
     clear H
     go_wp2_with (first | ((with_reducible refine gate_callee (f := 34) rfl ?_); refine goesL_ (some 22) rfl rfl Try.func34 (by kernel_rfl) rfl #[.int .i64 x6_1, .int .i64 ((ji2) % 762123384786), .int .i64 (wrap64 ((wrap64 (x14_1 + 1)) * 1099511627776))] rfl (by (try simp only [List.map_toArray, List.map_cons, List.map_nil]); first | done | (simp only [hji2]; rfl) | (simp only [Int.tdiv_eq_ediv_of_nonneg hji2l]; rfl) | rfl | (simp only [List.length_drop, List.length_take]; rfl)) ?_; (with_reducible refine (wide_MulDiv.calls k1 x6_1 ((ji2) % 762123384786) (wrap64 ((wrap64 (x14_1 + 1)) * 1099511627776)) t131 _ A4.out).mono ?_); rintro e w' ⟨rfl, ⟨nd, rfl⟩⟩; refine ⟨_, rfl, ?_⟩))
     go_roundg k1
     case measure => have := HK1.out; omega
     case rel => exact ⟨(wrap64 (x5_1 - t131)), (t131), (wrap64 (x14_1 + 1)), (by first | rfl | (simp; done) | (simp [*]; done)), (by first | rfl | (simp; done) | (simp [*]; done)), (by first | rfl | (simp; done) | (simp [*]; done)), H', ⟨by have := HK1.out; omega⟩, ⟨by repeat (first | (with_reducible first | exact HB.out | apply below_alloc | apply pw_below_drewN | apply below_drew1) | exact HB.out)⟩⟩
    ·rw [if_neg c5] at H
     have c5b0 : ((Int.tmod x14_1 2) == 0) = false := beq_eq_false_iff_ne.mpr c5
     have c5b1 : ((Int.tmod x14_1 2) != 0) = true := bne_iff_ne.mpr c5
     have H' := Aside0.mk H
     clear H
     go_wp2_with (first | ((with_reducible refine gate_callee (f := 34) rfl ?_); refine goesL_ (some 22) rfl rfl Try.func34 (by kernel_rfl) rfl #[.int .i64 x6_1, .int .i64 ((ji2) % 762123384786), .int .i64 (wrap64 ((wrap64 (x14_1 + 1)) * 1099511627776))] rfl (by (try simp only [List.map_toArray, List.map_cons, List.map_nil]); first | done | (simp only [hji2]; rfl) | (simp only [Int.tdiv_eq_ediv_of_nonneg hji2l]; rfl) | rfl | (simp only [List.length_drop, List.length_take]; rfl)) ?_; (with_reducible refine (wide_MulDiv.calls k1 x6_1 ((ji2) % 762123384786) (wrap64 ((wrap64 (x14_1 + 1)) * 1099511627776)) t131 _ A4.out).mono ?_); rintro e w' ⟨rfl, ⟨nd, rfl⟩⟩; refine ⟨_, rfl, ?_⟩))
     go_roundg k1
     case measure => have := HK1.out; omega
     case rel => exact ⟨(wrap64 (x5_1 + t131)), (t131), (wrap64 (x14_1 + 1)), (by first | rfl | (simp; done) | (simp [*]; done)), (by first | rfl | (simp; done) | (simp [*]; done)), (by first | rfl | (simp; done) | (simp [*]; done)), H', ⟨by have := HK1.out; omega⟩, ⟨by repeat (first | (with_reducible first | exact HB.out | apply below_alloc | apply pw_below_drewN | apply below_drew1) | exact HB.out)⟩⟩
   ·rw [if_neg c3] at H
    have c3b0 : decide (x14_1 < 16) = false := decide_eq_false c3
    clear c3
    replace H := Option.bind_eq_some_iff.mp H
    obtain ⟨t132, A60, H⟩ := H
    replace H : (some t132) = some r := H
    have A6 := Aside0.mk A60
    clear A60
    obtain rfl := Option.some.inj H
    go_wp2_with (first | ((with_reducible refine gate_callee (f := 57) rfl ?_); refine goesL_ (some 35) rfl rfl Try.func57 (by kernel_rfl) rfl #[.int .i64 x5_1, .int .i64 (wrap64 ((ji2) / 762123384786))] rfl (by (try simp only [List.map_toArray, List.map_cons, List.map_nil]); first | done | (simp only [hji2]; rfl) | (simp only [Int.tdiv_eq_ediv_of_nonneg hji2l]; rfl) | rfl | (simp only [List.length_drop, List.length_take]; rfl)) ?_; (with_reducible refine (fixed_Shift.calls x5_1 (wrap64 ((ji2) / 762123384786)) t132 _ A6.out).mono ?_); rintro e w' ⟨rfl, ⟨nd, rfl⟩⟩; refine ⟨_, rfl, ?_⟩))
    go_ret
    exact ⟨by first | rfl | (simp [errW_none, errW_some] <;> rfl) | (simp only [← hji2]; first | rfl | (simp [errW_none, errW_some] <;> rfl)) | (simp [*, errW_none, errW_some] <;> rfl), by repeat (first | (with_reducible first | exact HB.out | apply below_alloc | apply pw_below_drewN | apply below_drew1) | exact HB.out)⟩

end Go.Proofs.Ytabojpnelbmifaa.QM
