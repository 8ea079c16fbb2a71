/- Joined by wip/tools/bundle.py out of: QAx9 QAx10 QAx11 QAx12 TCore. -/
import Derived.Test.YtkdmebekabmkkaaDoorBPlanNone4
import Derived.Test.YtkdmebekabmkkaaDoorBPlanNone5
import Derived.Test.YtkdmebekabmkkaaDoorBPlanNone6
import Derived.RowKit
import Derived.Laws.BitsLemmas
namespace Go.Proofs.YtkdmebekabmkkaaDoor.QA
open Go.Proofs.YtkdmebekabmkkaaDoor.T
open Go.RowKit Go.Proofs.YtkdmebekabmkkaaDoorW.PrintWords Go.Proofs.YtkdmebekabmkkaaDoorW.PrintLast Go.Proofs.YtkdmebekabmkkaaDoorW.PrintMore
attribute [local go_sem] ext_call max2_int min2_int max_two min_two max_three min_three max_four min_four   -- for this text's walks alone
set_option linter.unusedVariables false
set_option linter.unusedSimpArgs false
def wide_MulShift.j0 : Nat → Bool → Int → Int → Bool → Option (Int)
 | 0, _, _, _, _ => none
 | k + 1, x9, x10, x11, x59 => if x59 = true then ((wide_signed.f k x10 x11 x9).bind fun t150 => (some t150)) else ((wide_signed.f k (IntKind.u64.wrap (x10 + (add64c x11 1 0))) (add64s x11 1 0) x9).bind fun t151 => (some t151))
def wide_MulShift.f (k : Nat) (a0 : Int) (a1 : Int) (a2 : Int) : Option (Int) := if (mx 0 a2) ≥ 128 then (some 0) else ((wide_product.f a0 a1).bind fun bt141 => (if (mx 0 a2) = 0 then ((wide_signed.f k bt141.1 bt141.2.1 bt141.2.2).bind fun t144 => (some t144)) else ((wide_shift.f bt141.1 bt141.2.1 (mx 0 a2)).bind fun bt145 => ((wide_shift.f bt141.1 bt141.2.1 (wrap64 ((mx 0 a2) - 1))).bind fun bt147 => (if (Go.bits .and .u64 bt147.2 1) = 0 then (wide_MulShift.j0 k bt141.2.2 bt145.1 bt145.2 true) else (if bt141.2.2 = true then ((wide_exact.f bt141.1 bt141.2.1 (wrap64 ((mx 0 a2) - 1))).bind fun t149 => (wide_MulShift.j0 k bt141.2.2 bt145.1 bt145.2 t149)) else (wide_MulShift.j0 k bt141.2.2 bt145.1 bt145.2 false)))))))
theorem wide_MulShift.mono_l : ∀ k, (∀ y0 y1 y2 y3, LeO (wide_MulShift.j0 k y0 y1 y2 y3) (wide_MulShift.j0 (k + 1) y0 y1 y2 y3))
 | 0 => fun _ _ _ _ r h => by simp [wide_MulShift.j0] at h
 | k + 1 => by
  have ih0 := wide_MulShift.mono_l k
  ·intro y0 y1 y2 y3
   unfold wide_MulShift.j0
   repeat' first
   | (with_reducible exact ih0 _ _ _ _)
   | (with_reducible exact wide_signed.mono _ _ _ _)
   | (with_reducible exact LeO.refl _)
   | (with_reducible exact LeO.none _)
   | (with_reducible refine LeO.ite ?_ ?_)
   | (with_reducible refine LeO.bind ?_ (fun _ => ?_))
   | exact ih0 _ _ _ _
   | exact wide_signed.mono _ _ _ _
   | exact LeO.none _
   | refine LeO.ite ?_ ?_
   | refine LeO.bind ?_ (fun _ => ?_)
theorem wide_MulShift.mono : ∀ a0 a1 a2 k, LeO (wide_MulShift.f k a0 a1 a2) (wide_MulShift.f (k + 1) a0 a1 a2) := by
 intro a0 a1 a2 k
 have ih0 := wide_MulShift.mono_l k
 unfold wide_MulShift.f
 repeat' first
   | (with_reducible exact ih0 _ _ _ _)
   | (with_reducible exact wide_signed.mono _ _ _ _)
   | (with_reducible exact LeO.refl _)
   | (with_reducible exact LeO.none _)
   | (with_reducible refine LeO.ite ?_ ?_)
   | (with_reducible refine LeO.bind ?_ (fun _ => ?_))
   | exact ih0 _ _ _ _
   | exact wide_signed.mono _ _ _ _
   | exact LeO.none _
   | refine LeO.ite ?_ ?_
   | refine LeO.bind ?_ (fun _ => ?_)
set_option maxHeartbeats 8000000 in
set_option maxRecDepth 100000 in
theorem wide_MulShift.calls (k : Nat) (a0 : Int) (a1 : Int) (a2 : Int) (r : Int) (w : World) (h : wide_MulShift.f k a0 a1 a2 = some r) :
  Calls Tryd.prog 80 #[.int .i64 a0, .int .i64 a1, .int .i64 a2] w fun e w' => e = .returned (.int .i64 r) ∧ Below w.heap.size w w' := by
 have HB := Aside0.mk (Below.refl w.heap.size w)
 have H : (if (mx 0 a2) ≥ 128 then (some 0) else ((wide_product.f a0 a1).bind fun bt141 => (if (mx 0 a2) = 0 then ((wide_signed.f k bt141.1 bt141.2.1 bt141.2.2).bind fun t144 => (some t144)) else ((wide_shift.f bt141.1 bt141.2.1 (mx 0 a2)).bind fun bt145 => ((wide_shift.f bt141.1 bt141.2.1 (wrap64 ((mx 0 a2) - 1))).bind fun bt147 => (if (Go.bits .and .u64 bt147.2 1) = 0 then (wide_MulShift.j0 k bt141.2.2 bt145.1 bt145.2 true) else (if bt141.2.2 = true then ((wide_exact.f bt141.1 bt141.2.1 (wrap64 ((mx 0 a2) - 1))).bind fun t149 => (wide_MulShift.j0 k bt141.2.2 bt145.1 bt145.2 t149)) else (wide_MulShift.j0 k bt141.2.2 bt145.1 bt145.2 false)))))))) = some r := h
 clear h
 obtain ⟨ji4, hji4⟩ : ∃ j_ : Int, (mx 0 a2) = j_ := ⟨_, rfl⟩
 replace H : (if (ji4) ≥ 128 then (some 0) else ((wide_product.f a0 a1).bind fun bt141 => (if (ji4) = 0 then ((wide_signed.f k bt141.1 bt141.2.1 bt141.2.2).bind fun t144 => (some t144)) else ((wide_shift.f bt141.1 bt141.2.1 (ji4)).bind fun bt145 => ((wide_shift.f bt141.1 bt141.2.1 (wrap64 ((ji4) - 1))).bind fun bt147 => (if (Go.bits .and .u64 bt147.2 1) = 0 then (wide_MulShift.j0 k bt141.2.2 bt145.1 bt145.2 true) else (if bt141.2.2 = true then ((wide_exact.f bt141.1 bt141.2.1 (wrap64 ((ji4) - 1))).bind fun t149 => (wide_MulShift.j0 k bt141.2.2 bt145.1 bt145.2 t149)) else (wide_MulShift.j0 k bt141.2.2 bt145.1 bt145.2 false)))))))) = some r := by first | (rw [hji4] at H; exact H) | (simp only [hji4] at H ⊢; exact H)
 (try (have hji4l : 0 ≤ ji4 := by (rw [← hji4]; unfold mx; (repeat' split) <;> omega)))
 (try (have hji4m : 0 ≤ ji4 := by omega))
 have hji4_ : (if 0 < a2 then a2 else 0) = ji4 := hji4
 by_cases c5 : (ji4) ≥ 128
 ·rw [if_pos c5] at H
  have c5b0 : decide (128 ≤ (ji4)) = true := decide_eq_true c5
  clear c5
  obtain rfl := Option.some.inj H
  go_enter Tryd.func80, Tryd.ntmps80
  go_wp2
  go_ret
  exact ⟨by first | rfl | (simp [errW_none, errW_some] <;> rfl) | (simp only [← hji4]; first | rfl | (simp [errW_none, errW_some] <;> rfl)) | (simp [*, errW_none, errW_some] <;> rfl), by repeat (first | (with_reducible first | exact HB.out | apply below_alloc | apply pw_below_drewN | apply below_drew1) | exact HB.out)⟩
 ·rw [if_neg c5] at H
  have c5b0 : decide (128 ≤ (ji4)) = false := decide_eq_false c5
  clear c5
  replace H := Option.bind_eq_some_iff.mp H
  obtain ⟨⟨t141, t142, t143⟩, A60, H⟩ := H
  replace H : (if (ji4) = 0 then ((wide_signed.f k t141 t142 t143).bind fun t144 => (some t144)) else ((wide_shift.f t141 t142 (ji4)).bind fun bt145 => ((wide_shift.f t141 t142 (wrap64 ((ji4) - 1))).bind fun bt147 => (if (Go.bits .and .u64 bt147.2 1) = 0 then (wide_MulShift.j0 k t143 bt145.1 bt145.2 true) else (if t143 = true then ((wide_exact.f t141 t142 (wrap64 ((ji4) - 1))).bind fun t149 => (wide_MulShift.j0 k t143 bt145.1 bt145.2 t149)) else (wide_MulShift.j0 k t143 bt145.1 bt145.2 false)))))) = some r := H
  have A6 := Aside0.mk A60
  clear A60
  by_cases c7 : (ji4) = 0
  ·rw [if_pos c7] at H
   have c7b0 : ((ji4) == 0) = true := beq_iff_eq.mpr c7
   have c7b1 : ((ji4) != 0) = false := bne_eq_false_iff_eq.mpr c7
   clear c7
   replace H := Option.bind_eq_some_iff.mp H
   obtain ⟨t144, A80, H⟩ := H
   replace H : (some t144) = some r := H
   have A8 := Aside0.mk A80
   clear A80
   obtain rfl := Option.some.inj H
   go_enter Tryd.func80, Tryd.ntmps80
   go_wp2_with (first | ((with_reducible refine gate_callee (f := 61) rfl ?_); refine goesL_ (some 22) rfl rfl Tryd.func61 (by kernel_rfl) rfl #[.int .i64 a0, .int .i64 a1] rfl (by (try simp only [List.map_toArray, List.map_cons, List.map_nil]); first | done | rfl | (simp only [List.length_drop, List.length_take]; rfl)) ?_; (with_reducible refine (wide_product.calls a0 a1 t141 t142 t143 _ A6.out).mono ?_); rintro e w' ⟨rfl, ⟨nd, rfl⟩⟩; refine ⟨_, rfl, ?_⟩) | ((with_reducible refine gate_callee (f := 63) rfl ?_); refine goesL_ (some 31) rfl rfl Tryd.func63 (by kernel_rfl) rfl #[.int .u64 t141, .int .u64 t142, .bool t143] rfl (by (try simp only [List.map_toArray, List.map_cons, List.map_nil]); first | done | rfl | (simp only [List.length_drop, List.length_take]; rfl)) ?_; (with_reducible refine (wide_signed.calls k t141 t142 t143 t144 _ A8.out).mono ?_); rintro e w' ⟨rfl, ⟨nd, rfl⟩⟩; refine ⟨_, rfl, ?_⟩))
   go_ret
   exact ⟨by first | rfl | (simp [errW_none, errW_some] <;> rfl) | (simp only [← hji4]; first | rfl | (simp [errW_none, errW_some] <;> rfl)) | (simp [*, errW_none, errW_some] <;> rfl), by repeat (first | (with_reducible first | exact HB.out | apply below_alloc | apply pw_below_drewN | apply below_drew1) | exact HB.out)⟩
  ·rw [if_neg c7] at H
   have c7b0 : ((ji4) == 0) = false := beq_eq_false_iff_ne.mpr c7
   have c7b1 : ((ji4) != 0) = true := bne_iff_ne.mpr c7
   replace H := Option.bind_eq_some_iff.mp H
   obtain ⟨⟨t145, t146⟩, A90, H⟩ := H
   replace H : ((wide_shift.f t141 t142 (wrap64 ((ji4) - 1))).bind fun bt147 => (if (Go.bits .and .u64 bt147.2 1) = 0 then (wide_MulShift.j0 k t143 t145 t146 true) else (if t143 = true then ((wide_exact.f t141 t142 (wrap64 ((ji4) - 1))).bind fun t149 => (wide_MulShift.j0 k t143 t145 t146 t149)) else (wide_MulShift.j0 k t143 t145 t146 false)))) = some r := H
   have A9 := Aside0.mk A90
   clear A90
   replace H := Option.bind_eq_some_iff.mp H
   obtain ⟨⟨t147, t148⟩, A100, H⟩ := H
   replace H : (if (Go.bits .and .u64 t148 1) = 0 then (wide_MulShift.j0 k t143 t145 t146 true) else (if t143 = true then ((wide_exact.f t141 t142 (wrap64 ((ji4) - 1))).bind fun t149 => (wide_MulShift.j0 k t143 t145 t146 t149)) else (wide_MulShift.j0 k t143 t145 t146 false))) = some r := H
   have A10 := Aside0.mk A100
   clear A100
   have HC11 := Aside0.mk H
   clear H
   go_enter Tryd.func80, Tryd.ntmps80
   go_upto_region 9 with (first | ((with_reducible refine gate_callee (f := 61) rfl ?_); refine goesL_ (some 22) rfl rfl Tryd.func61 (by kernel_rfl) rfl #[.int .i64 a0, .int .i64 a1] rfl (by (try simp only [List.map_toArray, List.map_cons, List.map_nil]); first | done | rfl | (simp only [List.length_drop, List.length_take]; rfl)) ?_; (with_reducible refine (wide_product.calls a0 a1 t141 t142 t143 _ A6.out).mono ?_); rintro e w' ⟨rfl, ⟨nd, rfl⟩⟩; refine ⟨_, rfl, ?_⟩) | ((with_reducible refine gate_callee (f := 89) rfl ?_); refine goesL_ (some 36) rfl rfl Tryd.func89 (by kernel_rfl) rfl #[.int .u64 t141, .int .u64 t142, .int .i64 ji4] rfl (by (try simp only [List.map_toArray, List.map_cons, List.map_nil]); first | done | (simp only [hji4]; rfl) | (simp only [Int.tdiv_eq_ediv_of_nonneg hji4l]; rfl) | rfl | (simp only [List.length_drop, List.length_take]; rfl)) ?_; (with_reducible refine (wide_shift.calls t141 t142 ji4 t145 t146 _ A9.out).mono ?_); rintro e w' ⟨rfl, ⟨nd, rfl⟩⟩; refine ⟨_, rfl, ?_⟩) | ((with_reducible refine gate_callee (f := 89) rfl ?_); refine goesL_ (some 44) rfl rfl Tryd.func89 (by kernel_rfl) rfl #[.int .u64 t141, .int .u64 t142, .int .i64 (wrap64 ((ji4) - 1))] rfl (by (try simp only [List.map_toArray, List.map_cons, List.map_nil]); first | done | (simp only [hji4]; rfl) | (simp only [Int.tdiv_eq_ediv_of_nonneg hji4l]; rfl) | rfl | (simp only [List.length_drop, List.length_take]; rfl)) ?_; (with_reducible refine (wide_shift.calls t141 t142 (wrap64 ((ji4) - 1)) t147 t148 _ A10.out).mono ?_); rintro e w' ⟨rfl, ⟨nd, rfl⟩⟩; refine ⟨_, rfl, ?_⟩))
   (try simp only [Act.put, List.setIfInBounds_toArray, List.set_cons_zero, List.set_cons_succ])
   go_cut [59] (fun v59 wc => ∃ (kq : Nat) (x59_10 : Bool), v59 = .bool x59_10 ∧ Aside0 (wide_MulShift.j0 kq t143 t145 t146 x59_10 = some r) ∧ Aside0 (kq ≤ k) ∧ Aside0 (Below w.heap.size w wc))
   case first =>
    have H := HC11.out
    clear HC11
    by_cases c12 : (Go.bits .and .u64 t148 1) = 0
    ·rw [if_pos c12] at H
     have c12b0 : ((Go.bits .and .u64 t148 1) == 0) = true := beq_iff_eq.mpr c12
     have c12b1 : ((Go.bits .and .u64 t148 1) != 0) = false := bne_eq_false_iff_eq.mpr c12
     clear c12
     (first | rw [c12b0] | (simp only [i64_w, i32_w]; rw [c12b0]) | skip)
     have H' := Aside0.mk H
     clear H
     go_wp2
     go_meet
     case rel => exact ⟨_, (true), (by first | rfl | (simp; done) | (simp [*]; done)), H', ⟨by first | omega | exact Nat.le_refl _⟩, ⟨by repeat (first | (with_reducible first | exact HB.out | apply below_alloc | apply pw_below_drewN | apply below_drew1) | exact HB.out)⟩⟩
    ·rw [if_neg c12] at H
     have c12b0 : ((Go.bits .and .u64 t148 1) == 0) = false := beq_eq_false_iff_ne.mpr c12
     have c12b1 : ((Go.bits .and .u64 t148 1) != 0) = true := bne_iff_ne.mpr c12
     (first | rw [c12b0] | (simp only [i64_w, i32_w]; rw [c12b0]) | skip)
     by_cases c13 : t143 = true
     ·subst c13
      have H1 : ((wide_exact.f t141 t142 (wrap64 ((ji4) - 1))).bind fun t149 => (wide_MulShift.j0 k true t145 t146 t149)) = some r := by rw [if_pos rfl] at H; exact H
      clear H
      have H := H1
      clear H1
      replace H := Option.bind_eq_some_iff.mp H
      obtain ⟨t149, A140, H⟩ := H
      replace H : (wide_MulShift.j0 k true t145 t146 t149) = some r := H
      have A14 := Aside0.mk A140
      clear A140
      have H' := Aside0.mk H
      clear H
      go_wp2_with (first | (go_at_call 90; (with_reducible refine (wide_exact.calls t141 t142 (wrap64 ((ji4) - 1)) t149 _ A14.out).mono ?_); rintro e w' ⟨rfl, ⟨nd, rfl⟩⟩))
      go_meet
      case rel => exact ⟨_, (t149), (by first | rfl | (simp; done) | (simp [*]; done)), H', ⟨by first | omega | exact Nat.le_refl _⟩, ⟨by repeat (first | (with_reducible first | exact HB.out | apply below_alloc | apply pw_below_drewN | apply below_drew1) | exact HB.out)⟩⟩
     ·replace c13 := Bool.eq_false_iff.mpr c13
      subst c13
      have H1 : (wide_MulShift.j0 k false t145 t146 false) = some r := by rw [if_neg (show ¬ (false = true) by decide)] at H; exact H
      clear H
      have H := H1
      clear H1
      have H' := Aside0.mk H
      clear H
      go_wp2
      go_meet
      case rel => exact ⟨_, (false), (by first | rfl | (simp; done) | (simp [*]; done)), H', ⟨by first | omega | exact Nat.le_refl _⟩, ⟨by repeat (first | (with_reducible first | exact HB.out | apply below_alloc | apply pw_below_drewN | apply below_drew1) | exact HB.out)⟩⟩
   case rest =>
    clear HC11
    try clear c1
    try clear p2
    try clear c5
    try clear c5b0
    try clear c6
    try clear p6
    try clear c7
    try clear c7b0
    try clear c7b1
    try clear c8
    try clear c12
    try clear c12b0
    try clear c12b1
    try clear c13
    obtain ⟨kq, x59_10, rfl, HA, HJ10, HB⟩ := hcut
    cases kq with
    | zero => exact absurd HA.out (by simp [wide_MulShift.j0])
    | succ kj10 =>
     have H := HA.out
     clear HA
     simp only [wide_MulShift.j0] at H
     by_cases c15 : x59_10 = true
     ·subst c15
      have H1 : ((wide_signed.f kj10 t145 t146 t143).bind fun t150 => (some t150)) = some r := by rw [if_pos rfl] at H; exact H
      clear H
      have H := H1
      clear H1
      replace H := Option.bind_eq_some_iff.mp H
      obtain ⟨t150, A160, H⟩ := H
      replace H : (some t150) = some r := H
      have A16 := Aside0.mk A160
      clear A160
      obtain rfl := Option.some.inj H
      go_wp2_with (first | ((with_reducible refine gate_callee (f := 63) rfl ?_); refine goesL_ (some 63) rfl rfl Tryd.func63 (by kernel_rfl) rfl #[.int .u64 t145, .int .u64 t146, .bool t143] rfl (by (try simp only [List.map_toArray, List.map_cons, List.map_nil]); first | done | rfl | (simp only [List.length_drop, List.length_take]; rfl)) ?_; (with_reducible refine (wide_signed.calls kj10 t145 t146 t143 t150 _ A16.out).mono ?_); rintro e w' ⟨rfl, ⟨nd, rfl⟩⟩; refine ⟨_, rfl, ?_⟩))
      go_ret
      exact ⟨by first | rfl | (simp [errW_none, errW_some] <;> rfl) | (simp only [← hji4]; first | rfl | (simp [errW_none, errW_some] <;> rfl)) | (simp [*, errW_none, errW_some] <;> rfl), by repeat (first | (with_reducible first | exact HB.out | apply below_alloc | apply pw_below_drewN | apply below_drew1) | exact HB.out)⟩
     ·replace c15 := Bool.eq_false_iff.mpr c15
      subst c15
      have H1 : ((wide_signed.f kj10 (IntKind.u64.wrap (t145 + (add64c t146 1 0))) (add64s t146 1 0) t143).bind fun t151 => (some t151)) = some r := by rw [if_neg (show ¬ (false = true) by decide)] at H; exact H
      clear H
      have H := H1
      clear H1
      replace H := Option.bind_eq_some_iff.mp H
      obtain ⟨t151, A170, H⟩ := H
      replace H : (some t151) = some r := H
      have A17 := Aside0.mk A170
      clear A170
      obtain rfl := Option.some.inj H
      go_wp2_with (first | ((with_reducible refine gate_callee (f := 63) rfl ?_); refine goesL_ (some 74) rfl rfl Tryd.func63 (by kernel_rfl) rfl #[.int .u64 (IntKind.u64.wrap (t145 + (add64c t146 1 0))), .int .u64 (add64s t146 1 0), .bool t143] rfl (by (try simp only [List.map_toArray, List.map_cons, List.map_nil]); first | done | rfl | (simp only [List.length_drop, List.length_take]; rfl)) ?_; (with_reducible refine (wide_signed.calls kj10 (IntKind.u64.wrap (t145 + (add64c t146 1 0))) (add64s t146 1 0) t143 t151 _ A17.out).mono ?_); rintro e w' ⟨rfl, ⟨nd, rfl⟩⟩; refine ⟨_, rfl, ?_⟩))
      go_ret
      exact ⟨by first | rfl | (simp [errW_none, errW_some] <;> rfl) | (simp only [← hji4]; first | rfl | (simp [errW_none, errW_some] <;> rfl)) | (simp [*, errW_none, errW_some] <;> rfl), by repeat (first | (with_reducible first | exact HB.out | apply below_alloc | apply pw_below_drewN | apply below_drew1) | exact HB.out)⟩
def sinc_series.l0 : Nat → Int → Int → Int → Int → Int → Option (Int)
 | 0, _, _, _, _, _ => none
 | k + 1, x5, x6, x7, x8, x9 => if x9 ≤ 30 then ((wide_MulDiv.f k x7 x5 (wrap64 ((wrap64 ((wrap64 (2 * x9)) * (wrap64 ((wrap64 (2 * x9)) + 1)))) * 1099511627776))).bind fun t155 => (sinc_series.l0 k x5 (wrap64 (x6 + (wrap64 ((wrap64 (-x8)) * t155)))) t155 (wrap64 (-x8)) (wrap64 (x9 + 1)))) else (some x6)
def sinc_series.f (k : Nat) (a0 : Int) (a1 : Int) : Option (Int) := (sinc_size.f a0).bind fun t152 => ((wide_MulDiv.f k 10851744800547 t152 a1).bind fun t153 => ((wide_MulDiv.f k t153 t152 a1).bind fun t154 => (sinc_series.l0 k t154 1099511627776 1099511627776 1 1)))
theorem sinc_series.mono_l : ∀ k, (∀ y0 y1 y2 y3 y4, LeO (sinc_series.l0 k y0 y1 y2 y3 y4) (sinc_series.l0 (k + 1) y0 y1 y2 y3 y4))
 | 0 => fun _ _ _ _ _ r h => by simp [sinc_series.l0] at h
 | k + 1 => by
  have ih0 := sinc_series.mono_l k
  ·intro y0 y1 y2 y3 y4
   unfold sinc_series.l0
   repeat' first
   | (with_reducible exact ih0 _ _ _ _ _)
   | (with_reducible exact wide_MulDiv.mono _ _ _ _)
   | (with_reducible exact LeO.refl _)
   | (with_reducible exact LeO.none _)
   | (with_reducible refine LeO.ite ?_ ?_)
   | (with_reducible refine LeO.bind ?_ (fun _ => ?_))
   | exact ih0 _ _ _ _ _
   | exact wide_MulDiv.mono _ _ _ _
   | exact LeO.none _
   | refine LeO.ite ?_ ?_
   | refine LeO.bind ?_ (fun _ => ?_)
theorem sinc_series.mono : ∀ a0 a1 k, LeO (sinc_series.f k a0 a1) (sinc_series.f (k + 1) a0 a1) := by
 intro a0 a1 k
 have ih0 := sinc_series.mono_l k
 unfold sinc_series.f
 repeat' first
   | (with_reducible exact ih0 _ _ _ _ _)
   | (with_reducible exact wide_MulDiv.mono _ _ _ _)
   | (with_reducible exact LeO.refl _)
   | (with_reducible exact LeO.none _)
   | (with_reducible refine LeO.ite ?_ ?_)
   | (with_reducible refine LeO.bind ?_ (fun _ => ?_))
   | exact ih0 _ _ _ _ _
   | exact wide_MulDiv.mono _ _ _ _
   | exact LeO.none _
   | refine LeO.ite ?_ ?_
   | refine LeO.bind ?_ (fun _ => ?_)
set_option maxHeartbeats 8000000 in
set_option maxRecDepth 100000 in
theorem sinc_series.calls (k : Nat) (a0 : Int) (a1 : Int) (r : Int) (w : World) (h : sinc_series.f k a0 a1 = some r) :
  Calls Tryd.prog 81 #[.int .i64 a0, .int .i64 a1] w fun e w' => e = .returned (.int .i64 r) ∧ Below w.heap.size w w' := by
 have HB := Aside0.mk (Below.refl w.heap.size w)
 have H : ((sinc_size.f a0).bind fun t152 => ((wide_MulDiv.f k 10851744800547 t152 a1).bind fun t153 => ((wide_MulDiv.f k t153 t152 a1).bind fun t154 => (sinc_series.l0 k t154 1099511627776 1099511627776 1 1)))) = some r := h
 clear h
 replace H := Option.bind_eq_some_iff.mp H
 obtain ⟨t152, A30, H⟩ := H
 replace H : ((wide_MulDiv.f k 10851744800547 t152 a1).bind fun t153 => ((wide_MulDiv.f k t153 t152 a1).bind fun t154 => (sinc_series.l0 k t154 1099511627776 1099511627776 1 1))) = some r := H
 have A3 := Aside0.mk A30
 clear A30
 replace H := Option.bind_eq_some_iff.mp H
 obtain ⟨t153, A40, H⟩ := H
 replace H : ((wide_MulDiv.f k t153 t152 a1).bind fun t154 => (sinc_series.l0 k t154 1099511627776 1099511627776 1 1)) = some r := H
 have A4 := Aside0.mk A40
 clear A40
 replace H := Option.bind_eq_some_iff.mp H
 obtain ⟨t154, A50, H⟩ := H
 replace H : (sinc_series.l0 k t154 1099511627776 1099511627776 1 1) = some r := H
 have A5 := Aside0.mk A50
 clear A50
 have H' := Aside0.mk H
 clear H
 go_enter Tryd.func81, Tryd.ntmps81
 go_wp2_with (first | ((with_reducible refine gate_callee (f := 79) rfl ?_); refine goesL_ (some 11) rfl rfl Tryd.func79 (by kernel_rfl) rfl #[.int .i64 a0] rfl (by (try simp only [List.map_toArray, List.map_cons, List.map_nil]); first | done | rfl | (simp only [List.length_drop, List.length_take]; rfl)) ?_; (with_reducible refine (sinc_size.calls a0 t152 _ A3.out).mono ?_); rintro e w6 ⟨rfl, hb⟩; refine ⟨_, rfl, ?_⟩; have n0_ := Aside0.mk (below_step (by repeat (first | (with_reducible first | exact HB.out | apply below_alloc | apply pw_below_drewN | apply below_drew1) | exact HB.out)) hb); clear HB; have HB := n0_; clear n0_; (try clear hb); (try clear hb2); (try clear hk); (try clear hi)) | ((with_reducible refine gate_callee (f := 47) rfl ?_); refine goesL_ (some 14) rfl rfl Tryd.func47 (by kernel_rfl) rfl #[.int .i64 10851744800547, .int .i64 t152, .int .i64 a1] rfl (by (try simp only [List.map_toArray, List.map_cons, List.map_nil]); first | done | rfl | (simp only [List.length_drop, List.length_take]; rfl)) ?_; (with_reducible refine (wide_MulDiv.calls k 10851744800547 t152 a1 t153 _ A4.out).mono ?_); rintro e w' ⟨rfl, ⟨nd, rfl⟩⟩; refine ⟨_, rfl, ?_⟩) | ((with_reducible refine gate_callee (f := 47) rfl ?_); refine goesL_ (some 17) rfl rfl Tryd.func47 (by kernel_rfl) rfl #[.int .i64 t153, .int .i64 t152, .int .i64 a1] rfl (by (try simp only [List.map_toArray, List.map_cons, List.map_nil]); first | done | rfl | (simp only [List.length_drop, List.length_take]; rfl)) ?_; (with_reducible refine (wide_MulDiv.calls k t153 t152 a1 t154 _ A5.out).mono ?_); rintro e w' ⟨rfl, ⟨nd, rfl⟩⟩; refine ⟨_, rfl, ?_⟩))
 go_loopg [6, 7, 8, 9] k (fun kq v6 v7 v8 v9 w' => ∃ (x6_1 : Int) (x7_1 : Int) (x8_1 : Int) (x9_1 : Int), v6 = .int .i64 x6_1 ∧ v7 = .int .i64 x7_1 ∧ v8 = .int .i64 x8_1 ∧ v9 = .int .i64 x9_1 ∧ Aside0 (sinc_series.l0 kq t154 x6_1 x7_1 x8_1 x9_1 = some r) ∧ Aside0 (kq ≤ k) ∧ Aside0 (Below w.heap.size w w'))
 case atStart => exact ⟨(1099511627776), (1099511627776), (1), (1), (by first | rfl | (simp; done) | (simp [*]; done)), (by first | rfl | (simp; done) | (simp [*]; done)), (by first | rfl | (simp; done) | (simp [*]; done)), (by first | rfl | (simp; done) | (simp [*]; done)), H', ⟨Nat.le_refl _⟩, ⟨by repeat (first | (with_reducible first | exact HB.out | apply below_alloc | apply pw_below_drewN | apply below_drew1) | exact HB.out)⟩⟩
 case round =>
  clear H'
  try clear p2
  try clear c4
  obtain ⟨x6_1, x7_1, x8_1, x9_1, rfl, rfl, rfl, rfl, HA, HK1, HB⟩ := hrel
  cases gk with
  | zero => exact absurd HA.out (by simp [sinc_series.l0])
  | succ k1 =>
   have H := HA.out
   clear HA
   simp only [sinc_series.l0] at H
   by_cases c7 : x9_1 ≤ 30
   ·rw [if_pos c7] at H
    have c7b0 : decide (x9_1 ≤ 30) = true := decide_eq_true c7
    clear c7
    replace H := Option.bind_eq_some_iff.mp H
    obtain ⟨t155, A80, H⟩ := H
    replace H : (sinc_series.l0 k1 t154 (wrap64 (x6_1 + (wrap64 ((wrap64 (-x8_1)) * t155)))) t155 (wrap64 (-x8_1)) (wrap64 (x9_1 + 1))) = some r := H
    have A8 := Aside0.mk A80
    clear A80
    have H' := Aside0.mk H
    clear H
    go_wp2_with (first | ((with_reducible refine gate_callee (f := 47) rfl ?_); refine goesL_ (some 33) rfl rfl Tryd.func47 (by kernel_rfl) rfl #[.int .i64 x7_1, .int .i64 t154, .int .i64 (wrap64 ((wrap64 ((wrap64 (2 * x9_1)) * (wrap64 ((wrap64 (2 * x9_1)) + 1)))) * 1099511627776))] rfl (by (try simp only [List.map_toArray, List.map_cons, List.map_nil]); first | done | rfl | (simp only [List.length_drop, List.length_take]; rfl)) ?_; (with_reducible refine (wide_MulDiv.calls k1 x7_1 t154 (wrap64 ((wrap64 ((wrap64 (2 * x9_1)) * (wrap64 ((wrap64 (2 * x9_1)) + 1)))) * 1099511627776)) t155 _ A8.out).mono ?_); rintro e w' ⟨rfl, ⟨nd, rfl⟩⟩; refine ⟨_, rfl, ?_⟩))
    go_roundg k1
    case measure => have := HK1.out; omega
    case rel => exact ⟨(wrap64 (x6_1 + (wrap64 ((wrap64 (-x8_1)) * t155)))), (t155), (wrap64 (-x8_1)), (wrap64 (x9_1 + 1)), (by first | rfl | (simp; done) | (simp [*]; done)), (by first | rfl | (simp; done) | (simp [*]; done)), (by first | rfl | (simp; done) | (simp [*]; done)), (by first | rfl | (simp; done) | (simp [*]; done)), H', ⟨by have := HK1.out; omega⟩, ⟨by repeat (first | (with_reducible first | exact HB.out | apply below_alloc | apply pw_below_drewN | apply below_drew1) | exact HB.out)⟩⟩
   ·rw [if_neg c7] at H
    have c7b0 : decide (x9_1 ≤ 30) = false := decide_eq_false c7
    clear c7
    obtain rfl := Option.some.inj H
    go_wp2
    go_ret
    exact ⟨by first | rfl | (simp [errW_none, errW_some] <;> rfl) | (simp [*, errW_none, errW_some] <;> rfl), by repeat (first | (with_reducible first | exact HB.out | apply below_alloc | apply pw_below_drewN | apply below_drew1) | exact HB.out)⟩
end Go.Proofs.YtkdmebekabmkkaaDoor.QA

namespace Go.Proofs.YtkdmebekabmkkaaDoor.QA
open Go.Proofs.YtkdmebekabmkkaaDoor.T
open Go.RowKit Go.Proofs.YtkdmebekabmkkaaDoorW.PrintWords Go.Proofs.YtkdmebekabmkkaaDoorW.PrintLast Go.Proofs.YtkdmebekabmkkaaDoorW.PrintMore
attribute [local go_sem] ext_call max2_int min2_int max_two min_two max_three min_three max_four min_four   -- for this text's walks alone
set_option linter.unusedVariables false
set_option linter.unusedSimpArgs false
def sinc_Lanczos.j0 : Nat → Int → Int → Bool → Option (Int)
 | 0, _, _, _ => none
 | k + 1, x0, x1, x15 => if x15 = true then (some 0) else ((sinc_series.f k x0 x1).bind fun t158 => ((sinc_series.f k x0 (wrap64 (3 * x1))).bind fun t159 => ((wide_MulShift.f k t158 t159 40).bind fun t160 => ((fixed_Shift.f t160 10).bind fun t161 => (some t161)))))
def sinc_Lanczos.f (k : Nat) (a0 : Int) (a1 : Int) : Option (Int) := (sinc_May.f a0 a1).bind fun t156 => (if t156 = true then ((sinc_size.f a0).bind fun t157 => (sinc_Lanczos.j0 k a0 a1 (decide (t157 ≥ (wrap64 (3 * a1)))))) else (sinc_Lanczos.j0 k a0 a1 true))
theorem sinc_Lanczos.mono_l : ∀ k, (∀ y0 y1 y2, LeO (sinc_Lanczos.j0 k y0 y1 y2) (sinc_Lanczos.j0 (k + 1) y0 y1 y2))
 | 0 => fun _ _ _ r h => by simp [sinc_Lanczos.j0] at h
 | k + 1 => by
  have ih0 := sinc_Lanczos.mono_l k
  ·intro y0 y1 y2
   unfold sinc_Lanczos.j0
   repeat' first
   | (with_reducible exact ih0 _ _ _)
   | (with_reducible exact sinc_series.mono _ _ _)
   | (with_reducible exact wide_MulShift.mono _ _ _ _)
   | (with_reducible exact LeO.refl _)
   | (with_reducible exact LeO.none _)
   | (with_reducible refine LeO.ite ?_ ?_)
   | (with_reducible refine LeO.bind ?_ (fun _ => ?_))
   | exact ih0 _ _ _
   | exact sinc_series.mono _ _ _
   | exact wide_MulShift.mono _ _ _ _
   | exact LeO.none _
   | refine LeO.ite ?_ ?_
   | refine LeO.bind ?_ (fun _ => ?_)
theorem sinc_Lanczos.mono : ∀ a0 a1 k, LeO (sinc_Lanczos.f k a0 a1) (sinc_Lanczos.f (k + 1) a0 a1) := by
 intro a0 a1 k
 have ih0 := sinc_Lanczos.mono_l k
 unfold sinc_Lanczos.f
 repeat' first
   | (with_reducible exact ih0 _ _ _)
   | (with_reducible exact sinc_series.mono _ _ _)
   | (with_reducible exact wide_MulShift.mono _ _ _ _)
   | (with_reducible exact LeO.refl _)
   | (with_reducible exact LeO.none _)
   | (with_reducible refine LeO.ite ?_ ?_)
   | (with_reducible refine LeO.bind ?_ (fun _ => ?_))
   | exact ih0 _ _ _
   | exact sinc_series.mono _ _ _
   | exact wide_MulShift.mono _ _ _ _
   | exact LeO.none _
   | refine LeO.ite ?_ ?_
   | refine LeO.bind ?_ (fun _ => ?_)
set_option maxHeartbeats 8000000 in
set_option maxRecDepth 100000 in
theorem sinc_Lanczos.calls (k : Nat) (a0 : Int) (a1 : Int) (r : Int) (w : World) (h : sinc_Lanczos.f k a0 a1 = some r) :
  Calls Tryd.prog 60 #[.int .i64 a0, .int .i64 a1] w fun e w' => e = .returned (.int .i64 r) ∧ Below w.heap.size w w' := by
 have HB := Aside0.mk (Below.refl w.heap.size w)
 have H : ((sinc_May.f a0 a1).bind fun t156 => (if t156 = true then ((sinc_size.f a0).bind fun t157 => (sinc_Lanczos.j0 k a0 a1 (decide (t157 ≥ (wrap64 (3 * a1)))))) else (sinc_Lanczos.j0 k a0 a1 true))) = some r := h
 clear h
 have HC3 := Aside0.mk H
 clear H
 go_enter Tryd.func60, Tryd.ntmps60
 go_upto_region 1 with (fail)
 go_cut [15] (fun v15 wc => ∃ (kq : Nat) (x15_2 : Bool), v15 = .bool x15_2 ∧ Aside0 (sinc_Lanczos.j0 kq a0 a1 x15_2 = some r) ∧ Aside0 (kq ≤ k) ∧ Aside0 (Below w.heap.size w wc))
 case first =>
  have H := HC3.out
  clear HC3
  replace H := Option.bind_eq_some_iff.mp H
  obtain ⟨t156, A40, H⟩ := H
  replace H : (if t156 = true then ((sinc_size.f a0).bind fun t157 => (sinc_Lanczos.j0 k a0 a1 (decide (t157 ≥ (wrap64 (3 * a1)))))) else (sinc_Lanczos.j0 k a0 a1 true)) = some r := H
  have A4 := Aside0.mk A40
  clear A40
  by_cases c5 : t156 = true
  ·subst c5
   have H1 : ((sinc_size.f a0).bind fun t157 => (sinc_Lanczos.j0 k a0 a1 (decide (t157 ≥ (wrap64 (3 * a1)))))) = some r := by rw [if_pos rfl] at H; exact H
   clear H
   have H := H1
   clear H1
   replace H := Option.bind_eq_some_iff.mp H
   obtain ⟨t157, A60, H⟩ := H
   replace H : (sinc_Lanczos.j0 k a0 a1 (decide (t157 ≥ (wrap64 (3 * a1))))) = some r := H
   have A6 := Aside0.mk A60
   clear A60
   have H' := Aside0.mk H
   clear H
   go_wp2_with (first | ((with_reducible refine gate_callee (f := 78) rfl ?_); refine goesL_ (some 7) rfl rfl Tryd.func78 (by kernel_rfl) rfl #[.int .i64 a0, .int .i64 a1] rfl (by (try simp only [List.map_toArray, List.map_cons, List.map_nil]); first | done | rfl | (simp only [List.length_drop, List.length_take]; rfl)) ?_; (with_reducible refine (sinc_May.calls a0 a1 true _ A4.out).mono ?_); rintro e w' ⟨rfl, ⟨nd, rfl⟩⟩; refine ⟨_, rfl, ?_⟩) | (go_at_call 79; (with_reducible refine (sinc_size.calls a0 t157 _ A6.out).mono ?_); rintro e w7 ⟨rfl, hb⟩; have n0_ := Aside0.mk (below_step (by repeat (first | (with_reducible first | exact HB.out | apply below_alloc | apply pw_below_drewN | apply below_drew1) | exact HB.out)) hb); clear HB; have HB := n0_; clear n0_; (try clear hb); (try clear hb2); (try clear hk); (try clear hi)))
   go_meet
   case rel => exact ⟨_, (decide (t157 ≥ (wrap64 (3 * a1)))), (by first | rfl | (simp; done) | (simp [*]; done)), H', ⟨by first | omega | exact Nat.le_refl _⟩, ⟨by repeat (first | (with_reducible first | exact HB.out | apply below_alloc | apply pw_below_drewN | apply below_drew1) | exact HB.out)⟩⟩
  ·replace c5 := Bool.eq_false_iff.mpr c5
   subst c5
   have H1 : (sinc_Lanczos.j0 k a0 a1 true) = some r := by rw [if_neg (show ¬ (false = true) by decide)] at H; exact H
   clear H
   have H := H1
   clear H1
   have H' := Aside0.mk H
   clear H
   go_wp2_with (first | ((with_reducible refine gate_callee (f := 78) rfl ?_); refine goesL_ (some 7) rfl rfl Tryd.func78 (by kernel_rfl) rfl #[.int .i64 a0, .int .i64 a1] rfl (by (try simp only [List.map_toArray, List.map_cons, List.map_nil]); first | done | rfl | (simp only [List.length_drop, List.length_take]; rfl)) ?_; (with_reducible refine (sinc_May.calls a0 a1 false _ A4.out).mono ?_); rintro e w' ⟨rfl, ⟨nd, rfl⟩⟩; refine ⟨_, rfl, ?_⟩))
   go_meet
   case rel => exact ⟨_, (true), (by first | rfl | (simp; done) | (simp [*]; done)), H', ⟨by first | omega | exact Nat.le_refl _⟩, ⟨by repeat (first | (with_reducible first | exact HB.out | apply below_alloc | apply pw_below_drewN | apply below_drew1) | exact HB.out)⟩⟩
 case rest =>
  clear HC3
  try clear p2
  try clear c5
  try clear c6
  try clear p6
  try clear c7
  obtain ⟨kq, x15_2, rfl, HA, HJ2, HB⟩ := hcut
  cases kq with
  | zero => exact absurd HA.out (by simp [sinc_Lanczos.j0])
  | succ kj2 =>
   have H := HA.out
   clear HA
   simp only [sinc_Lanczos.j0] at H
   by_cases c8 : x15_2 = true
   ·subst c8
    have H1 : (some 0) = some r := by rw [if_pos rfl] at H; exact H
    clear H
    have H := H1
    clear H1
    obtain rfl := Option.some.inj H
    go_wp2
    go_ret
    exact ⟨by first | rfl | (simp [errW_none, errW_some] <;> rfl) | (simp [*, errW_none, errW_some] <;> rfl), by repeat (first | (with_reducible first | exact HB.out | apply below_alloc | apply pw_below_drewN | apply below_drew1) | exact HB.out)⟩
   ·replace c8 := Bool.eq_false_iff.mpr c8
    subst c8
    have H1 : ((sinc_series.f kj2 a0 a1).bind fun t158 => ((sinc_series.f kj2 a0 (wrap64 (3 * a1))).bind fun t159 => ((wide_MulShift.f kj2 t158 t159 40).bind fun t160 => ((fixed_Shift.f t160 10).bind fun t161 => (some t161))))) = some r := by rw [if_neg (show ¬ (false = true) by decide)] at H; exact H
    clear H
    have H := H1
    clear H1
    replace H := Option.bind_eq_some_iff.mp H
    obtain ⟨t158, A90, H⟩ := H
    replace H : ((sinc_series.f kj2 a0 (wrap64 (3 * a1))).bind fun t159 => ((wide_MulShift.f kj2 t158 t159 40).bind fun t160 => ((fixed_Shift.f t160 10).bind fun t161 => (some t161)))) = some r := H
    have A9 := Aside0.mk A90
    clear A90
    replace H := Option.bind_eq_some_iff.mp H
    obtain ⟨t159, A100, H⟩ := H
    replace H : ((wide_MulShift.f kj2 t158 t159 40).bind fun t160 => ((fixed_Shift.f t160 10).bind fun t161 => (some t161))) = some r := H
    have A10 := Aside0.mk A100
    clear A100
    replace H := Option.bind_eq_some_iff.mp H
    obtain ⟨t160, A110, H⟩ := H
    replace H : ((fixed_Shift.f t160 10).bind fun t161 => (some t161)) = some r := H
    have A11 := Aside0.mk A110
    clear A110
    replace H := Option.bind_eq_some_iff.mp H
    obtain ⟨t161, A120, H⟩ := H
    replace H : (some t161) = some r := H
    have A12 := Aside0.mk A120
    clear A120
    obtain rfl := Option.some.inj H
    go_wp2_with (first | ((with_reducible refine gate_callee (f := 81) rfl ?_); refine goesL_ (some 18) rfl rfl Tryd.func81 (by kernel_rfl) rfl #[.int .i64 a0, .int .i64 a1] rfl (by (try simp only [List.map_toArray, List.map_cons, List.map_nil]); first | done | rfl | (simp only [List.length_drop, List.length_take]; rfl)) ?_; (with_reducible refine (sinc_series.calls kj2 a0 a1 t158 _ A9.out).mono ?_); rintro e w13 ⟨rfl, hb⟩; refine ⟨_, rfl, ?_⟩; have n0_ := Aside0.mk (below_step (by repeat (first | (with_reducible first | exact HB.out | apply below_alloc | apply pw_below_drewN | apply below_drew1) | exact HB.out)) hb); clear HB; have HB := n0_; clear n0_; (try clear hb); (try clear hb2); (try clear hk); (try clear hi)) | ((with_reducible refine gate_callee (f := 81) rfl ?_); refine goesL_ (some 22) rfl rfl Tryd.func81 (by kernel_rfl) rfl #[.int .i64 a0, .int .i64 (wrap64 (3 * a1))] rfl (by (try simp only [List.map_toArray, List.map_cons, List.map_nil]); first | done | rfl | (simp only [List.length_drop, List.length_take]; rfl)) ?_; (with_reducible refine (sinc_series.calls kj2 a0 (wrap64 (3 * a1)) t159 _ A10.out).mono ?_); rintro e w14 ⟨rfl, hb⟩; refine ⟨_, rfl, ?_⟩; have n0_ := Aside0.mk (below_step (by repeat (first | (with_reducible first | exact HB.out | apply below_alloc | apply pw_below_drewN | apply below_drew1) | exact HB.out)) hb); clear HB; have HB := n0_; clear n0_; (try clear hb); (try clear hb2); (try clear hk); (try clear hi)) | ((with_reducible refine gate_callee (f := 80) rfl ?_); refine goesL_ (some 23) rfl rfl Tryd.func80 (by kernel_rfl) rfl #[.int .i64 t158, .int .i64 t159, .int .i64 40] rfl (by (try simp only [List.map_toArray, List.map_cons, List.map_nil]); first | done | rfl | (simp only [List.length_drop, List.length_take]; rfl)) ?_; (with_reducible refine (wide_MulShift.calls kj2 t158 t159 40 t160 _ A11.out).mono ?_); rintro e w15 ⟨rfl, hb⟩; refine ⟨_, rfl, ?_⟩; have n0_ := Aside0.mk (below_step (by repeat (first | (with_reducible first | exact HB.out | apply below_alloc | apply pw_below_drewN | apply below_drew1) | exact HB.out)) hb); clear HB; have HB := n0_; clear n0_; (try clear hb); (try clear hb2); (try clear hk); (try clear hi)) | ((with_reducible refine gate_callee (f := 74) rfl ?_); refine goesL_ (some 24) rfl rfl Tryd.func74 (by kernel_rfl) rfl #[.int .i64 t160, .int .i64 10] rfl (by (try simp only [List.map_toArray, List.map_cons, List.map_nil]); first | done | rfl | (simp only [List.length_drop, List.length_take]; rfl)) ?_; (with_reducible refine (fixed_Shift.calls t160 10 t161 _ A12.out).mono ?_); rintro e w' ⟨rfl, ⟨nd, rfl⟩⟩; refine ⟨_, rfl, ?_⟩))
    go_ret
    exact ⟨by first | rfl | (simp [errW_none, errW_some] <;> rfl) | (simp [*, errW_none, errW_some] <;> rfl), by repeat (first | (with_reducible first | exact HB.out | apply below_alloc | apply pw_below_drewN | apply below_drew1) | exact HB.out)⟩
def raw_weigh.f (k : Nat) (a0 : Int) (a1 : Int) (a2 : Int) (a3 : Int) (a4 : Int) : Option (Int) := if a0 = 0 then ((wide_MulDiv.f k (wrap64 ((mn (wrap64 ((wrap64 (a3 + 1)) * a1)) (wrap64 ((wrap64 (a4 + 1)) * a2))) - (mx (wrap64 (a3 * a1)) (wrap64 (a4 * a2))))) 1073741824 a1).bind fun t162 => (some t162)) else (if a0 = 1 then ((raw_Keys.f k (wrap64 ((wrap64 ((wrap64 ((wrap64 (2 * a2)) * a4)) - (wrap64 ((wrap64 ((wrap64 (2 * a3)) + 1)) * a1)))) + a2)) (wrap64 (2 * (mx a1 a2)))).bind fun t163 => (some t163)) else ((sinc_Lanczos.f k (wrap64 ((wrap64 ((wrap64 ((wrap64 (2 * a2)) * a4)) - (wrap64 ((wrap64 ((wrap64 (2 * a3)) + 1)) * a1)))) + a2)) (wrap64 (2 * (mx a1 a2)))).bind fun t164 => (some t164)))
theorem raw_weigh.mono : ∀ a0 a1 a2 a3 a4 k, LeO (raw_weigh.f k a0 a1 a2 a3 a4) (raw_weigh.f (k + 1) a0 a1 a2 a3 a4) := by
 intro a0 a1 a2 a3 a4 k
 unfold raw_weigh.f
 repeat' first
   | (with_reducible exact raw_Keys.mono _ _ _)
   | (with_reducible exact sinc_Lanczos.mono _ _ _)
   | (with_reducible exact wide_MulDiv.mono _ _ _ _)
   | (with_reducible exact LeO.refl _)
   | (with_reducible exact LeO.none _)
   | (with_reducible refine LeO.ite ?_ ?_)
   | (with_reducible refine LeO.bind ?_ (fun _ => ?_))
   | exact raw_Keys.mono _ _ _
   | exact sinc_Lanczos.mono _ _ _
   | exact wide_MulDiv.mono _ _ _ _
   | exact LeO.none _
   | refine LeO.ite ?_ ?_
   | refine LeO.bind ?_ (fun _ => ?_)
set_option maxHeartbeats 8000000 in
set_option maxRecDepth 100000 in
theorem raw_weigh.calls (k : Nat) (a0 : Int) (a1 : Int) (a2 : Int) (a3 : Int) (a4 : Int) (r : Int) (w : World) (h : raw_weigh.f k a0 a1 a2 a3 a4 = some r) :
  Calls Tryd.prog 46 #[.int .i64 a0, .int .i64 a1, .int .i64 a2, .int .i64 a3, .int .i64 a4] w fun e w' => e = .returned (.int .i64 r) ∧ Below w.heap.size w w' := by
 have HB := Aside0.mk (Below.refl w.heap.size w)
 have H : (if a0 = 0 then ((wide_MulDiv.f k (wrap64 ((mn (wrap64 ((wrap64 (a3 + 1)) * a1)) (wrap64 ((wrap64 (a4 + 1)) * a2))) - (mx (wrap64 (a3 * a1)) (wrap64 (a4 * a2))))) 1073741824 a1).bind fun t162 => (some t162)) else (if a0 = 1 then ((raw_Keys.f k (wrap64 ((wrap64 ((wrap64 ((wrap64 (2 * a2)) * a4)) - (wrap64 ((wrap64 ((wrap64 (2 * a3)) + 1)) * a1)))) + a2)) (wrap64 (2 * (mx a1 a2)))).bind fun t163 => (some t163)) else ((sinc_Lanczos.f k (wrap64 ((wrap64 ((wrap64 ((wrap64 (2 * a2)) * a4)) - (wrap64 ((wrap64 ((wrap64 (2 * a3)) + 1)) * a1)))) + a2)) (wrap64 (2 * (mx a1 a2)))).bind fun t164 => (some t164)))) = some r := h
 clear h
 by_cases c6 : a0 = 0
 ·rw [if_pos c6] at H
  have c6b0 : (a0 == 0) = true := beq_iff_eq.mpr c6
  have c6b1 : (a0 != 0) = false := bne_eq_false_iff_eq.mpr c6
  clear c6
  obtain ⟨ji7, hji7⟩ : ∃ j_ : Int, (mn (wrap64 ((wrap64 (a3 + 1)) * a1)) (wrap64 ((wrap64 (a4 + 1)) * a2))) = j_ := ⟨_, rfl⟩
  replace H : ((wide_MulDiv.f k (wrap64 ((ji7) - (mx (wrap64 (a3 * a1)) (wrap64 (a4 * a2))))) 1073741824 a1).bind fun t162 => (some t162)) = some r := by first | (rw [hji7] at H; exact H) | (simp only [hji7] at H ⊢; exact H)
  have hji7_ : (if (wrap64 ((wrap64 (a4 + 1)) * a2)) < (wrap64 ((wrap64 (a3 + 1)) * a1)) then (wrap64 ((wrap64 (a4 + 1)) * a2)) else (wrap64 ((wrap64 (a3 + 1)) * a1))) = ji7 := hji7
  obtain ⟨ji8, hji8⟩ : ∃ j_ : Int, (mx (wrap64 (a3 * a1)) (wrap64 (a4 * a2))) = j_ := ⟨_, rfl⟩
  replace H : ((wide_MulDiv.f k (wrap64 ((ji7) - (ji8))) 1073741824 a1).bind fun t162 => (some t162)) = some r := by first | (rw [hji8] at H; exact H) | (simp only [hji8] at H ⊢; exact H)
  have hji8_ : (if (wrap64 (a3 * a1)) < (wrap64 (a4 * a2)) then (wrap64 (a4 * a2)) else (wrap64 (a3 * a1))) = ji8 := hji8
  replace H := Option.bind_eq_some_iff.mp H
  obtain ⟨t162, A90, H⟩ := H
  replace H : (some t162) = some r := H
  have A9 := Aside0.mk A90
  clear A90
  obtain rfl := Option.some.inj H
  go_enter Tryd.func46, Tryd.ntmps46
  go_wp2_with (first | ((with_reducible refine gate_callee (f := 47) rfl ?_); refine goesL_ (some 35) rfl rfl Tryd.func47 (by kernel_rfl) rfl #[.int .i64 (wrap64 ((ji7) - (ji8))), .int .i64 1073741824, .int .i64 a1] rfl (by (try simp only [List.map_toArray, List.map_cons, List.map_nil]); first | done | (simp only [hji7, hji8]; rfl) | rfl | (simp only [List.length_drop, List.length_take]; rfl)) ?_; (with_reducible refine (wide_MulDiv.calls k (wrap64 ((ji7) - (ji8))) 1073741824 a1 t162 _ A9.out).mono ?_); rintro e w' ⟨rfl, ⟨nd, rfl⟩⟩; refine ⟨_, rfl, ?_⟩))
  go_ret
  exact ⟨by first | rfl | (simp [errW_none, errW_some] <;> rfl) | (simp only [← hji7, ← hji8]; first | rfl | (simp [errW_none, errW_some] <;> rfl)) | (simp [*, errW_none, errW_some] <;> rfl), by repeat (first | (with_reducible first | exact HB.out | apply below_alloc | apply pw_below_drewN | apply below_drew1) | exact HB.out)⟩
 ·rw [if_neg c6] at H
  have c6b0 : (a0 == 0) = false := beq_eq_false_iff_ne.mpr c6
  have c6b1 : (a0 != 0) = true := bne_iff_ne.mpr c6
  obtain ⟨ji10, hji10⟩ : ∃ j_ : Int, (mx a1 a2) = j_ := ⟨_, rfl⟩
  replace H : (if a0 = 1 then ((raw_Keys.f k (wrap64 ((wrap64 ((wrap64 ((wrap64 (2 * a2)) * a4)) - (wrap64 ((wrap64 ((wrap64 (2 * a3)) + 1)) * a1)))) + a2)) (wrap64 (2 * (ji10)))).bind fun t163 => (some t163)) else ((sinc_Lanczos.f k (wrap64 ((wrap64 ((wrap64 ((wrap64 (2 * a2)) * a4)) - (wrap64 ((wrap64 ((wrap64 (2 * a3)) + 1)) * a1)))) + a2)) (wrap64 (2 * (ji10)))).bind fun t164 => (some t164))) = some r := by first | (rw [hji10] at H; exact H) | (simp only [hji10] at H ⊢; exact H)
  have hji10_ : (if a1 < a2 then a2 else a1) = ji10 := hji10
  by_cases c11 : a0 = 1
  ·rw [if_pos c11] at H
   have c11b0 : (a0 == 1) = true := beq_iff_eq.mpr c11
   have c11b1 : (a0 != 1) = false := bne_eq_false_iff_eq.mpr c11
   clear c11
   replace H := Option.bind_eq_some_iff.mp H
   obtain ⟨t163, A120, H⟩ := H
   replace H : (some t163) = some r := H
   have A12 := Aside0.mk A120
   clear A120
   obtain rfl := Option.some.inj H
   go_enter Tryd.func46, Tryd.ntmps46
   go_wp2_with (first | ((with_reducible refine gate_callee (f := 37) rfl ?_); refine goesL_ (some 56) rfl rfl Tryd.func37 (by kernel_rfl) rfl #[.int .i64 (wrap64 ((wrap64 ((wrap64 ((wrap64 (2 * a2)) * a4)) - (wrap64 ((wrap64 ((wrap64 (2 * a3)) + 1)) * a1)))) + a2)), .int .i64 (wrap64 (2 * (ji10)))] rfl (by (try simp only [List.map_toArray, List.map_cons, List.map_nil]); first | done | (simp only [hji10]; rfl) | (simp only [Int.tdiv_eq_ediv_of_nonneg hji10l]; rfl) | rfl | (simp only [List.length_drop, List.length_take]; rfl)) ?_; (with_reducible refine (raw_Keys.calls k (wrap64 ((wrap64 ((wrap64 ((wrap64 (2 * a2)) * a4)) - (wrap64 ((wrap64 ((wrap64 (2 * a3)) + 1)) * a1)))) + a2)) (wrap64 (2 * (ji10))) t163 _ A12.out).mono ?_); rintro e w13 ⟨rfl, hb⟩; refine ⟨_, rfl, ?_⟩; have n0_ := Aside0.mk (below_step (by repeat (first | (with_reducible first | exact HB.out | apply below_alloc | apply pw_below_drewN | apply below_drew1) | exact HB.out)) hb); clear HB; have HB := n0_; clear n0_; (try clear hb); (try clear hb2); (try clear hk); (try clear hi)))
   go_ret
   exact ⟨by first | rfl | (simp [errW_none, errW_some] <;> rfl) | (simp only [← hji10]; first | rfl | (simp [errW_none, errW_some] <;> rfl)) | (simp [*, errW_none, errW_some] <;> rfl), by repeat (first | (with_reducible first | exact HB.out | apply below_alloc | apply pw_below_drewN | apply below_drew1) | exact HB.out)⟩
  ·rw [if_neg c11] at H
   have c11b0 : (a0 == 1) = false := beq_eq_false_iff_ne.mpr c11
   have c11b1 : (a0 != 1) = true := bne_iff_ne.mpr c11
   replace H := Option.bind_eq_some_iff.mp H
   obtain ⟨t164, A140, H⟩ := H
   replace H : (some t164) = some r := H
   have A14 := Aside0.mk A140
   clear A140
   obtain rfl := Option.some.inj H
   go_enter Tryd.func46, Tryd.ntmps46
   go_wp2_with (first | ((with_reducible refine gate_callee (f := 60) rfl ?_); refine goesL_ (some 59) rfl rfl Tryd.func60 (by kernel_rfl) rfl #[.int .i64 (wrap64 ((wrap64 ((wrap64 ((wrap64 (2 * a2)) * a4)) - (wrap64 ((wrap64 ((wrap64 (2 * a3)) + 1)) * a1)))) + a2)), .int .i64 (wrap64 (2 * (ji10)))] rfl (by (try simp only [List.map_toArray, List.map_cons, List.map_nil]); first | done | (simp only [hji10]; rfl) | (simp only [Int.tdiv_eq_ediv_of_nonneg hji10l]; rfl) | rfl | (simp only [List.length_drop, List.length_take]; rfl)) ?_; (with_reducible refine (sinc_Lanczos.calls k (wrap64 ((wrap64 ((wrap64 ((wrap64 (2 * a2)) * a4)) - (wrap64 ((wrap64 ((wrap64 (2 * a3)) + 1)) * a1)))) + a2)) (wrap64 (2 * (ji10))) t164 _ A14.out).mono ?_); rintro e w15 ⟨rfl, hb⟩; refine ⟨_, rfl, ?_⟩; have n0_ := Aside0.mk (below_step (by repeat (first | (with_reducible first | exact HB.out | apply below_alloc | apply pw_below_drewN | apply below_drew1) | exact HB.out)) hb); clear HB; have HB := n0_; clear n0_; (try clear hb); (try clear hb2); (try clear hk); (try clear hi)))
   go_ret
   exact ⟨by first | rfl | (simp [errW_none, errW_some] <;> rfl) | (simp only [← hji10]; first | rfl | (simp [errW_none, errW_some] <;> rfl)) | (simp [*, errW_none, errW_some] <;> rfl), by repeat (first | (with_reducible first | exact HB.out | apply below_alloc | apply pw_below_drewN | apply below_drew1) | exact HB.out)⟩
def raw_Row.l0 : Nat → Int → Int → Int → Int → Int → List Int → Int → Int → Option (Int × List Int)
 | 0, _, _, _, _, _, _, _, _ => none
 | k + 1, x0, x1, x2, x3, x8, x9, x20, x21 => if x21 < x20 then ((raw_weigh.f k x0 x1 x2 x3 (wrap64 (x8 + x21))).bind fun t167 => (if x9.length < 17592186044416 then (raw_Row.l0 k x0 x1 x2 x3 x8 (x9 ++ [t167]) x20 (wrap64 (x21 + 1))) else (none))) else (some (x8, x9))
def raw_Row.f (k : Nat) (a0 : Int) (a1 : Int) (a2 : Int) (a3 : Int) : Option (Int × List Int) := (raw_Window.f k a0 a1 a2 a3).bind fun bt165 => (raw_Row.l0 k a0 a1 a2 a3 bt165.1 ([] : List Int) bt165.2 0)
theorem raw_Row.mono_l : ∀ k, (∀ y0 y1 y2 y3 y4 y5 y6 y7, LeO (raw_Row.l0 k y0 y1 y2 y3 y4 y5 y6 y7) (raw_Row.l0 (k + 1) y0 y1 y2 y3 y4 y5 y6 y7))
 | 0 => fun _ _ _ _ _ _ _ _ r h => by simp [raw_Row.l0] at h
 | k + 1 => by
  have ih0 := raw_Row.mono_l k
  ·intro y0 y1 y2 y3 y4 y5 y6 y7
   unfold raw_Row.l0
   repeat' first
   | (with_reducible exact ih0 _ _ _ _ _ _ _ _)
   | (with_reducible exact raw_Window.mono _ _ _ _ _)
   | (with_reducible exact raw_weigh.mono _ _ _ _ _ _)
   | (with_reducible exact LeO.refl _)
   | (with_reducible exact LeO.none _)
   | (with_reducible refine LeO.ite ?_ ?_)
   | (with_reducible refine LeO.bind ?_ (fun _ => ?_))
   | exact ih0 _ _ _ _ _ _ _ _
   | exact raw_Window.mono _ _ _ _ _
   | exact raw_weigh.mono _ _ _ _ _ _
   | exact LeO.none _
   | refine LeO.ite ?_ ?_
   | refine LeO.bind ?_ (fun _ => ?_)
theorem raw_Row.mono : ∀ a0 a1 a2 a3 k, LeO (raw_Row.f k a0 a1 a2 a3) (raw_Row.f (k + 1) a0 a1 a2 a3) := by
 intro a0 a1 a2 a3 k
 have ih0 := raw_Row.mono_l k
 unfold raw_Row.f
 repeat' first
   | (with_reducible exact ih0 _ _ _ _ _ _ _ _)
   | (with_reducible exact raw_Window.mono _ _ _ _ _)
   | (with_reducible exact raw_weigh.mono _ _ _ _ _ _)
   | (with_reducible exact LeO.refl _)
   | (with_reducible exact LeO.none _)
   | (with_reducible refine LeO.ite ?_ ?_)
   | (with_reducible refine LeO.bind ?_ (fun _ => ?_))
   | exact ih0 _ _ _ _ _ _ _ _
   | exact raw_Window.mono _ _ _ _ _
   | exact raw_weigh.mono _ _ _ _ _ _
   | exact LeO.none _
   | refine LeO.ite ?_ ?_
   | refine LeO.bind ?_ (fun _ => ?_)
set_option maxHeartbeats 8000000 in
set_option maxRecDepth 100000 in
theorem raw_Row.calls (k : Nat) (a0 : Int) (a1 : Int) (a2 : Int) (a3 : Int) (r1 : Int) (r2 : List Int) (w : World) (hG : GL w) (h : raw_Row.f k a0 a1 a2 a3 = some (r1, r2)) :
  Calls Tryd.prog 36 #[.int .i64 a0, .int .i64 a1, .int .i64 a2, .int .i64 a3] w fun e w' => ∃ v1_ : Value, e = .returned (.tuple #[.int .i64 r1, v1_]) ∧ Kd.R (Kd.int .i64) 2 w' w.heap.size (fun _ => True) v1_ r2 ∧ Below w.heap.size w w' := by
 have HB := Aside0.mk (Below.refl w.heap.size w)
 have H : ((raw_Window.f k a0 a1 a2 a3).bind fun bt165 => (raw_Row.l0 k a0 a1 a2 a3 bt165.1 ([] : List Int) bt165.2 0)) = some (r1, r2) := h
 clear h
 replace H := Option.bind_eq_some_iff.mp H
 obtain ⟨⟨t165, t166⟩, A50, H⟩ := H
 replace H : (raw_Row.l0 k a0 a1 a2 a3 t165 ([] : List Int) t166 0) = some (r1, r2) := H
 have A5 := Aside0.mk A50
 clear A50
 have H' := Aside0.mk H
 clear H
 go_enter Tryd.func36, Tryd.ntmps36
 go_wp2_with (first | ((with_reducible refine gate_callee (f := 45) rfl ?_); refine goesL_ (some 17) rfl rfl Tryd.func45 (by kernel_rfl) rfl #[.int .i64 a0, .int .i64 a1, .int .i64 a2, .int .i64 a3] rfl (by (try simp only [List.map_toArray, List.map_cons, List.map_nil]); first | done | rfl | (simp only [List.length_drop, List.length_take]; rfl)) ?_; (with_reducible refine (raw_Window.calls k a0 a1 a2 a3 t165 t166 _ (by exact GL.below hG (by repeat (first | (with_reducible first | exact HB.out | apply below_alloc | apply pw_below_drewN | apply below_drew1) | exact HB.out | exact Below.refl _ _))) A5.out).mono ?_); rintro e w6 ⟨rfl, hb⟩; refine ⟨_, rfl, ?_⟩; have n0_ := Aside0.mk (below_step (by repeat (first | (with_reducible first | exact HB.out | apply below_alloc | apply pw_below_drewN | apply below_drew1) | exact HB.out)) hb); clear HB; have HB := n0_; clear n0_; (try clear hb); (try clear hb2); (try clear hk); (try clear hi)))
 go_loopg [9, 21] k (fun kq v9 v21 w' => ∃ (x9_1 : List Int) (x21_1 : Int), v21 = .int .i64 x21_1 ∧ Aside0 (raw_Row.l0 kq a0 a1 a2 a3 t165 x9_1 t166 x21_1 = some (r1, r2)) ∧ Aside0 (kq ≤ k) ∧ Aside0 (Kd.R (Kd.int .i64) 2 w' w.heap.size (fun _ => True) v9 x9_1) ∧ Aside0 (Below w.heap.size w w'))
 case atStart => exact ⟨(([] : List Int)), (0), (by first | rfl | (simp; done) | (simp [*]; done)), H', ⟨Nat.le_refl _⟩, ⟨by first | exact Kd.R_nil _ _ _ _ _ | exact Kd.N_nil _ _ _ _ _ | exact Kd.V_nil _ _ _ _ _ | exact Kd.Q_nil _ _ _ _ _ | exact Kd.S_nil _ _ _ _ _⟩, ⟨by repeat (first | (with_reducible first | exact HB.out | apply below_alloc | apply pw_below_drewN | apply below_drew1) | exact HB.out)⟩⟩
 case round =>
  clear H'
  try clear p2
  try clear c3
  try clear c4
  obtain ⟨x9_1, x21_1, rfl, HA, HK1, HO_9, HB⟩ := hrel
  cases gk with
  | zero => exact absurd HA.out (by simp [raw_Row.l0])
  | succ k1 =>
   have H := HA.out
   clear HA
   simp only [raw_Row.l0] at H
   by_cases c7 : x21_1 < t166
   ·rw [if_pos c7] at H
    have c7b0 : decide (x21_1 < t166) = true := decide_eq_true c7
    clear c7
    replace H := Option.bind_eq_some_iff.mp H
    obtain ⟨t167, A80, H⟩ := H
    replace H : (if x9_1.length < 17592186044416 then (raw_Row.l0 k1 a0 a1 a2 a3 t165 (x9_1 ++ [t167]) t166 (wrap64 (x21_1 + 1))) else (none)) = some (r1, r2) := H
    have A8 := Aside0.mk A80
    clear A80
    by_cases c9 : x9_1.length < 17592186044416
    ·rw [if_pos c9] at H
     have LMc9 := Aside0.mk c9
     clear c9
     obtain ⟨y168, hy168⟩ : ∃ y_ : List Int, y_ = (x9_1 ++ [t167]) := ⟨_, rfl⟩
     replace H : (raw_Row.l0 k1 a0 a1 a2 a3 t165 y168 t166 (wrap64 (x21_1 + 1))) = some (r1, r2) := by first | (rw [hy168]; with_reducible exact H) | (have H2_ := (Option.bind_some _ _).symm.trans H; rw [hy168]; with_reducible exact H2_) | (have H2_ := (Option.bind_some _ _).symm.trans H; with_reducible exact H2_) | with_reducible exact H | (rw [hy168]; exact H) | exact H
     have Ny168 := Aside0.mk hy168
     clear hy168
     have H' := Aside0.mk H
     clear H
     go_wp2_with (first | ((with_reducible refine gate_callee (f := 46) rfl ?_); refine goesL_ (some 32) rfl rfl Tryd.func46 (by kernel_rfl) rfl #[.int .i64 a0, .int .i64 a1, .int .i64 a2, .int .i64 a3, .int .i64 (wrap64 (t165 + x21_1))] rfl (by (try simp only [List.map_toArray, List.map_cons, List.map_nil]); first | done | rfl | (simp only [List.length_drop, List.length_take]; rfl)) ?_; (with_reducible refine (raw_weigh.calls k1 a0 a1 a2 a3 (wrap64 (t165 + x21_1)) t167 _ A8.out).mono ?_); rintro e w10 ⟨rfl, hb⟩; refine ⟨_, rfl, ?_⟩; have n0_ := Aside0.mk (Kd.R_below (by (with_reducible repeat (first | apply Kd.R_alloc | apply Kd.R_drewN | apply Kd.R_drew)); exact HO_9.out) hb); have n1_ := Aside0.mk (below_step (by repeat (first | (with_reducible first | exact HB.out | apply below_alloc | apply pw_below_drewN | apply below_drew1) | exact HB.out)) hb); clear HO_9; clear HB; have HO_9 := n0_; have HB := n1_; clear n0_ n1_; (try clear hb); (try clear hb2); (try clear hk); (try clear hi)) | ((with_reducible refine gate_builtin (b := .append) (xs := #[.tmp 24, .tmp 33]) rfl ?_); at_builtin; refine Kd.R_append (Kd.int .i64) (w0 := w) w.heap.size rfl (.tmp 24) (.tmp 33) 37 2 (.int .i64 0) 8 rfl Tryd.underlying37 info2 rfl (by decide) (by omega) u9 x9_1 t167 [.int .i64 t167] (fun _ => True) (fun _ => False) rfl rfl ?aP (fun _ hk => hk.elim) ?aF ?aO ?aB ?aS ?aL ?_; (case aP => exact rfl); (case aB => exact (by repeat (first | (with_reducible first | exact HB.out | apply below_alloc | apply pw_below_drewN | apply below_drew1) | exact HB.out))); (case aF => exact (fun _ _ => trivial)); (case aO => exact (by (with_reducible repeat (first | apply Kd.R_alloc | apply Kd.R_drewN | apply Kd.R_drew)); exact HO_9.out)); (case aS => exact (below_size (by repeat (first | (with_reducible first | exact HB.out | apply below_alloc | apply pw_below_drewN | apply below_drew1) | exact HB.out)))); (case aL => have := LMc9.out; omega); intro v169 w11 ho hb hg hat; rw [← Ny168.out] at ho; have n0_ := Aside0.mk (hb); have n1_ := Aside0.mk (ho); clear HB; clear HO_9; have HB := n0_; have HO170 := n1_; clear n0_ n1_; clear ho hb hg hat))
     go_roundg k1
     case measure => have := HK1.out; omega
     case rel => exact ⟨(y168), (wrap64 (x21_1 + 1)), (by first | rfl | (simp; done) | (simp [*]; done)), H', ⟨by have := HK1.out; omega⟩, ⟨by (with_reducible repeat (first | apply Kd.R_alloc | apply Kd.R_drewN | apply Kd.R_drew)); exact HO170.out⟩, ⟨by repeat (first | (with_reducible first | exact HB.out | apply below_alloc | apply pw_below_drewN | apply below_drew1) | exact HB.out)⟩⟩
    ·rw [if_neg c9] at H
     exact absurd H (by simp)
   ·rw [if_neg c7] at H
    have c7b0 : decide (x21_1 < t166) = false := decide_eq_false c7
    clear c7
    simp only [Option.some.injEq, Prod.mk.injEq] at H
    obtain ⟨rfl, rfl⟩ := H
    go_wp2
    go_ret2
    exact ⟨_, by first | rfl | (simp [errW_none, errW_some] <;> rfl) | (simp [*, errW_none, errW_some] <;> rfl), by (with_reducible repeat (first | apply Kd.R_alloc | apply Kd.R_drewN | apply Kd.R_drew)); exact HO_9.out, by repeat (first | (with_reducible first | exact HB.out | apply below_alloc | apply pw_below_drewN | apply below_drew1) | exact HB.out)⟩
end Go.Proofs.YtkdmebekabmkkaaDoor.QA

namespace Go.Proofs.YtkdmebekabmkkaaDoor.QA
open Go.Proofs.YtkdmebekabmkkaaDoor.T
open Go.RowKit Go.Proofs.YtkdmebekabmkkaaDoorW.PrintWords Go.Proofs.YtkdmebekabmkkaaDoorW.PrintLast Go.Proofs.YtkdmebekabmkkaaDoorW.PrintMore
attribute [local go_sem] ext_call max2_int min2_int max_two min_two max_three min_three max_four min_four   -- for this text's walks alone
set_option linter.unusedVariables false
set_option linter.unusedSimpArgs false
def fixed_Add.j0 : Nat → Int → Int → Int → Bool → Option (Int)
 | 0, _, _, _, _ => none
 | k + 1, x0, x1, x5, x9 => if x9 = true then (some 9223372036854775807) else (if x1 < 0 then (if x5 > x0 then (some (-9223372036854775808)) else (some x5)) else (some x5))
def fixed_Add.f (k : Nat) (a0 : Int) (a1 : Int) : Option (Int) := if a1 > 0 then (fixed_Add.j0 k a0 a1 (wrap64 (a0 + a1)) (decide ((wrap64 (a0 + a1)) < a0))) else (fixed_Add.j0 k a0 a1 (wrap64 (a0 + a1)) false)
theorem fixed_Add.mono_l : ∀ k, (∀ y0 y1 y2 y3, LeO (fixed_Add.j0 k y0 y1 y2 y3) (fixed_Add.j0 (k + 1) y0 y1 y2 y3))
 | 0 => fun _ _ _ _ r h => by simp [fixed_Add.j0] at h
 | k + 1 => by
  have ih0 := fixed_Add.mono_l k
  ·intro y0 y1 y2 y3
   unfold fixed_Add.j0
   repeat' first
   | (with_reducible exact ih0 _ _ _ _)
   | (with_reducible exact LeO.refl _)
   | (with_reducible exact LeO.none _)
   | (with_reducible refine LeO.ite ?_ ?_)
   | (with_reducible refine LeO.bind ?_ (fun _ => ?_))
   | exact ih0 _ _ _ _
   | exact LeO.none _
   | refine LeO.ite ?_ ?_
   | refine LeO.bind ?_ (fun _ => ?_)
theorem fixed_Add.mono : ∀ a0 a1 k, LeO (fixed_Add.f k a0 a1) (fixed_Add.f (k + 1) a0 a1) := by
 intro a0 a1 k
 have ih0 := fixed_Add.mono_l k
 unfold fixed_Add.f
 repeat' first
   | (with_reducible exact ih0 _ _ _ _)
   | (with_reducible exact LeO.refl _)
   | (with_reducible exact LeO.none _)
   | (with_reducible refine LeO.ite ?_ ?_)
   | (with_reducible refine LeO.bind ?_ (fun _ => ?_))
   | exact ih0 _ _ _ _
   | exact LeO.none _
   | refine LeO.ite ?_ ?_
   | refine LeO.bind ?_ (fun _ => ?_)
set_option maxHeartbeats 8000000 in
set_option maxRecDepth 100000 in
theorem fixed_Add.calls (k : Nat) (a0 : Int) (a1 : Int) (r : Int) (w : World) (h : fixed_Add.f k a0 a1 = some r) :
  Calls Tryd.prog 69 #[.int .i64 a0, .int .i64 a1] w fun e w' => e = .returned (.int .i64 r) ∧ Drawn0 w w' := by
 have H : (if a1 > 0 then (fixed_Add.j0 k a0 a1 (wrap64 (a0 + a1)) (decide ((wrap64 (a0 + a1)) < a0))) else (fixed_Add.j0 k a0 a1 (wrap64 (a0 + a1)) false)) = some r := h
 clear h
 have HC3 := Aside0.mk H
 clear H
 go_enter Tryd.func69, Tryd.ntmps69
 go_upto_region 2 with (fail)
 go_cut [9] (fun v9 wc => ∃ (kq : Nat) (x9_2 : Bool), v9 = .bool x9_2 ∧ Aside0 (fixed_Add.j0 kq a0 a1 (wrap64 (a0 + a1)) x9_2 = some r) ∧ Aside0 (kq ≤ k) ∧ Drawn0 w wc)
 case first =>
  have H := HC3.out
  clear HC3
  by_cases c4 : a1 > 0
  ·rw [if_pos c4] at H
   have c4b0 : decide (0 < a1) = true := decide_eq_true c4
   clear c4
   (first | rw [c4b0] | (simp only [i64_w, i32_w]; rw [c4b0]) | skip)
   have H' := Aside0.mk H
   clear H
   go_wp2
   go_meet
   case rel => exact ⟨_, (decide ((wrap64 (a0 + a1)) < a0)), (by first | rfl | (simp; done) | (simp [*]; done)), H', ⟨by first | omega | exact Nat.le_refl _⟩, by repeat (first | exact Drawn0.refl _ | apply Drawn0.step)⟩
  ·rw [if_neg c4] at H
   have c4b0 : decide (0 < a1) = false := decide_eq_false c4
   clear c4
   (first | rw [c4b0] | (simp only [i64_w, i32_w]; rw [c4b0]) | skip)
   have H' := Aside0.mk H
   clear H
   go_wp2
   go_meet
   case rel => exact ⟨_, (false), (by first | rfl | (simp; done) | (simp [*]; done)), H', ⟨by first | omega | exact Nat.le_refl _⟩, by repeat (first | exact Drawn0.refl _ | apply Drawn0.step)⟩
 case rest =>
  clear HC3
  try clear p2
  try clear c4
  try clear c4b0
  obtain ⟨kq, x9_2, rfl, HA, HJ2, ⟨mc2, rfl⟩⟩ := hcut
  cases kq with
  | zero => exact absurd HA.out (by simp [fixed_Add.j0])
  | succ kj2 =>
   have H := HA.out
   clear HA
   simp only [fixed_Add.j0] at H
   by_cases c5 : x9_2 = true
   ·subst c5
    have H1 : (some 9223372036854775807) = some r := by rw [if_pos rfl] at H; exact H
    clear H
    have H := H1
    clear H1
    obtain rfl := Option.some.inj H
    go_wp2
    go_ret
    exact ⟨by first | rfl | (simp; done) | (simp [*]; done), by repeat (first | exact Drawn0.refl _ | apply Drawn0.step)⟩
   ·replace c5 := Bool.eq_false_iff.mpr c5
    subst c5
    have H1 : (if a1 < 0 then (if (wrap64 (a0 + a1)) > a0 then (some (-9223372036854775808)) else (some (wrap64 (a0 + a1)))) else (some (wrap64 (a0 + a1)))) = some r := by rw [if_neg (show ¬ (false = true) by decide)] at H; exact H
    clear H
    have H := H1
    clear H1
    by_cases c6 : a1 < 0
    ·rw [if_pos c6] at H
     have c6b0 : decide (a1 < 0) = true := decide_eq_true c6
     clear c6
     by_cases c7 : (wrap64 (a0 + a1)) > a0
     ·rw [if_pos c7] at H
      have c7b0 : decide (a0 < (wrap64 (a0 + a1))) = true := decide_eq_true c7
      clear c7
      obtain rfl := Option.some.inj H
      go_wp2
      go_ret
      exact ⟨by first | rfl | (simp; done) | (simp [*]; done), by repeat (first | exact Drawn0.refl _ | apply Drawn0.step)⟩
     ·rw [if_neg c7] at H
      have c7b0 : decide (a0 < (wrap64 (a0 + a1))) = false := decide_eq_false c7
      clear c7
      obtain rfl := Option.some.inj H
      go_wp2
      go_ret
      exact ⟨by first | rfl | (simp; done) | (simp [*]; done), by repeat (first | exact Drawn0.refl _ | apply Drawn0.step)⟩
    ·rw [if_neg c6] at H
     have c6b0 : decide (a1 < 0) = false := decide_eq_false c6
     clear c6
     obtain rfl := Option.some.inj H
     go_wp2
     go_ret
     exact ⟨by first | rfl | (simp; done) | (simp [*]; done), by repeat (first | exact Drawn0.refl _ | apply Drawn0.step)⟩
def taps_Sum.l0 : Nat → Int → List Int → Int → Int → Option (Int)
 | 0, _, _, _, _ => none
 | k + 1, x3, x6, x7, x8 => if x8 < x7 then (if 0 ≤ x8 then (if x8 < (x6.length : Int) then ((fixed_Add.f k x3 (rd x6 x8)).bind fun t172 => (taps_Sum.l0 k t172 x6 x7 (wrap64 (x8 + 1)))) else (none)) else (none)) else (some x3)
def taps_Sum.f (k : Nat) (l0 : List Int) : Option (Int) := taps_Sum.l0 k 0 l0 (l0.length : Int) 0
theorem taps_Sum.mono_l : ∀ k, (∀ y0 y1 y2 y3, LeO (taps_Sum.l0 k y0 y1 y2 y3) (taps_Sum.l0 (k + 1) y0 y1 y2 y3))
 | 0 => fun _ _ _ _ r h => by simp [taps_Sum.l0] at h
 | k + 1 => by
  have ih0 := taps_Sum.mono_l k
  ·intro y0 y1 y2 y3
   unfold taps_Sum.l0
   repeat' first
   | (with_reducible exact ih0 _ _ _ _)
   | (with_reducible exact fixed_Add.mono _ _ _)
   | (with_reducible exact LeO.refl _)
   | (with_reducible exact LeO.none _)
   | (with_reducible refine LeO.ite ?_ ?_)
   | (with_reducible refine LeO.bind ?_ (fun _ => ?_))
   | exact ih0 _ _ _ _
   | exact fixed_Add.mono _ _ _
   | exact LeO.none _
   | refine LeO.ite ?_ ?_
   | refine LeO.bind ?_ (fun _ => ?_)
theorem taps_Sum.mono : ∀ a0 k, LeO (taps_Sum.f k a0) (taps_Sum.f (k + 1) a0) := by
 intro a0 k
 have ih0 := taps_Sum.mono_l k
 unfold taps_Sum.f
 repeat' first
   | (with_reducible exact ih0 _ _ _ _)
   | (with_reducible exact fixed_Add.mono _ _ _)
   | (with_reducible exact LeO.refl _)
   | (with_reducible exact LeO.none _)
   | (with_reducible refine LeO.ite ?_ ?_)
   | (with_reducible refine LeO.bind ?_ (fun _ => ?_))
   | exact ih0 _ _ _ _
   | exact fixed_Add.mono _ _ _
   | exact LeO.none _
   | refine LeO.ite ?_ ?_
   | refine LeO.bind ?_ (fun _ => ?_)
set_option maxHeartbeats 8000000 in
set_option maxRecDepth 100000 in
theorem taps_Sum.calls (k : Nat) (A0 : Option Addr) (c0 : Nat) (l0 : List Int) (r : Int) (w : World) (hr0 : Kd.C (Kd.int .i64) w A0 l0.length l0) (hc0 : l0.length ≤ c0) (h : taps_Sum.f k l0 = some r) :
  Calls Tryd.prog 49 #[.slice A0 l0.length c0] w fun e w' => e = .returned (.int .i64 r) ∧ Drawn0 w w' := by
 have HR0 := Aside0.mk hr0
 have HC0 := Aside0.mk hc0
 clear hr0 hc0
 have H : (taps_Sum.l0 k 0 l0 (l0.length : Int) 0) = some r := h
 clear h
 have H' := Aside0.mk H
 clear H
 go_enter Tryd.func49, Tryd.ntmps49
 go_wp2
 go_loopg [3, 8] k (fun kq v3 v8 w' => ∃ (x3_1 : Int) (x8_1 : Int), v3 = .int .i64 x3_1 ∧ v8 = .int .i64 x8_1 ∧ Aside0 (taps_Sum.l0 kq x3_1 l0 (l0.length : Int) x8_1 = some r) ∧ Aside0 (kq ≤ k) ∧ Drawn0 w w')
 case atStart => exact ⟨(0), (0), (by first | rfl | (simp; done) | (simp [*]; done)), (by first | rfl | (simp; done) | (simp [*]; done)), H', ⟨Nat.le_refl _⟩, by repeat (first | exact Drawn0.refl _ | apply Drawn0.step)⟩
 case round =>
  clear H'
  obtain ⟨x3_1, x8_1, rfl, rfl, HA, HK1, ⟨m1, rfl⟩⟩ := hrel
  cases gk with
  | zero => exact absurd HA.out (by simp [taps_Sum.l0])
  | succ k1 =>
   have H := HA.out
   clear HA
   simp only [taps_Sum.l0] at H
   by_cases c2 : x8_1 < (l0.length : Int)
   ·rw [if_pos c2] at H
    have c2b0 : decide (x8_1 < (l0.length : Int)) = true := decide_eq_true c2
    clear c2
    by_cases c3 : 0 ≤ x8_1
    ·rw [if_pos c3] at H
     have c3b0 : decide (0 ≤ x8_1) = true := decide_eq_true c3
     clear c3
     by_cases c4 : x8_1 < (l0.length : Int)
     ·rw [if_pos c4] at H
      have c4b0 : decide (x8_1 < (l0.length : Int)) = true := decide_eq_true c4
      clear c4
      replace H := Option.bind_eq_some_iff.mp H
      obtain ⟨t172, A50, H⟩ := H
      replace H : (taps_Sum.l0 k1 t172 l0 (l0.length : Int) (wrap64 (x8_1 + 1))) = some r := H
      have A5 := Aside0.mk A50
      clear A50
      have H' := Aside0.mk H
      clear H
      have p171 : 0 ≤ (x8_1 : Int) := of_decide_eq_true (by first | (with_reducible assumption) | assumption)
      have q171 : x8_1 < (l0.length : Int) := of_decide_eq_true (by first | (with_reducible assumption) | assumption)
      obtain ⟨ad171, e171, hx171_0⟩ := Kd.at_int HR0.out x8_1 p171 q171
      cases e171
      replace p171 := eq_true p171
      replace q171 := eq_true q171
      go_wp2_with (first | ((with_reducible refine gate_callee (f := 69) rfl ?_); refine goesL_ (some 14) rfl rfl Tryd.func69 (by kernel_rfl) rfl #[.int .i64 x3_1, .int .i64 (rd l0 x8_1)] rfl (by (try simp only [List.map_toArray, List.map_cons, List.map_nil]); first | done | rfl | (simp only [List.length_drop, List.length_take]; rfl)) ?_; (with_reducible refine (fixed_Add.calls k1 x3_1 (rd l0 x8_1) t172 _ A5.out).mono ?_); rintro e w' ⟨rfl, ⟨nd, rfl⟩⟩; refine ⟨_, rfl, ?_⟩))
      go_roundg k1
      case measure => have := HK1.out; omega
      case rel => exact ⟨(t172), (wrap64 (x8_1 + 1)), (by first | rfl | (simp; done) | (simp [*]; done)), (by first | rfl | (simp; done) | (simp [*]; done)), H', ⟨by have := HK1.out; omega⟩, by repeat (first | exact Drawn0.refl _ | apply Drawn0.step)⟩
     ·rw [if_neg c4] at H
      exact absurd H (by simp)
    ·rw [if_neg c3] at H
     exact absurd H (by simp)
   ·rw [if_neg c2] at H
    have c2b0 : decide (x8_1 < (l0.length : Int)) = false := decide_eq_false c2
    clear c2
    obtain rfl := Option.some.inj H
    go_wp2
    go_ret
    exact ⟨by first | rfl | (simp; done) | (simp [*]; done), by repeat (first | exact Drawn0.refl _ | apply Drawn0.step)⟩
def fixed_Mod.j0 : Nat → Int → Int → Bool → Option (Int)
 | 0, _, _, _ => none
 | k + 1, x0, x1, x11 => if x11 = true then (some 0) else (if x1 = 0 then (none) else (if (Int.tmod x0 x1) = 0 then (some (Int.tmod x0 x1)) else (if ((decide ((Int.tmod x0 x1) < 0)) != (decide (x1 < 0))) = true then (some (wrap64 ((Int.tmod x0 x1) + x1))) else (some (Int.tmod x0 x1)))))
def fixed_Mod.f (k : Nat) (a0 : Int) (a1 : Int) : Option (Int) := if a1 = 0 then (fixed_Mod.j0 k a0 a1 true) else (fixed_Mod.j0 k a0 a1 (a1 == (-1)))
theorem fixed_Mod.mono_l : ∀ k, (∀ y0 y1 y2, LeO (fixed_Mod.j0 k y0 y1 y2) (fixed_Mod.j0 (k + 1) y0 y1 y2))
 | 0 => fun _ _ _ r h => by simp [fixed_Mod.j0] at h
 | k + 1 => by
  have ih0 := fixed_Mod.mono_l k
  ·intro y0 y1 y2
   unfold fixed_Mod.j0
   repeat' first
   | (with_reducible exact ih0 _ _ _)
   | (with_reducible exact LeO.refl _)
   | (with_reducible exact LeO.none _)
   | (with_reducible refine LeO.ite ?_ ?_)
   | (with_reducible refine LeO.bind ?_ (fun _ => ?_))
   | exact ih0 _ _ _
   | exact LeO.none _
   | refine LeO.ite ?_ ?_
   | refine LeO.bind ?_ (fun _ => ?_)
theorem fixed_Mod.mono : ∀ a0 a1 k, LeO (fixed_Mod.f k a0 a1) (fixed_Mod.f (k + 1) a0 a1) := by
 intro a0 a1 k
 have ih0 := fixed_Mod.mono_l k
 unfold fixed_Mod.f
 repeat' first
   | (with_reducible exact ih0 _ _ _)
   | (with_reducible exact LeO.refl _)
   | (with_reducible exact LeO.none _)
   | (with_reducible refine LeO.ite ?_ ?_)
   | (with_reducible refine LeO.bind ?_ (fun _ => ?_))
   | exact ih0 _ _ _
   | exact LeO.none _
   | refine LeO.ite ?_ ?_
   | refine LeO.bind ?_ (fun _ => ?_)
set_option maxHeartbeats 8000000 in
set_option maxRecDepth 100000 in
theorem fixed_Mod.calls (k : Nat) (a0 : Int) (a1 : Int) (r : Int) (w : World) (h : fixed_Mod.f k a0 a1 = some r) :
  Calls Tryd.prog 51 #[.int .i64 a0, .int .i64 a1] w fun e w' => e = .returned (.int .i64 r) ∧ Drawn0 w w' := by
 have H : (if a1 = 0 then (fixed_Mod.j0 k a0 a1 true) else (fixed_Mod.j0 k a0 a1 (a1 == (-1)))) = some r := h
 clear h
 have HC3 := Aside0.mk H
 clear H
 go_enter Tryd.func51, Tryd.ntmps51
 go_upto_region 1 with (fail)
 go_cut [11] (fun v11 wc => ∃ (kq : Nat) (x11_2 : Bool), v11 = .bool x11_2 ∧ Aside0 (fixed_Mod.j0 kq a0 a1 x11_2 = some r) ∧ Aside0 (kq ≤ k) ∧ Drawn0 w wc)
 case first =>
  have H := HC3.out
  clear HC3
  by_cases c4 : a1 = 0
  ·rw [if_pos c4] at H
   have c4b0 : (a1 == 0) = true := beq_iff_eq.mpr c4
   have c4b1 : (a1 != 0) = false := bne_eq_false_iff_eq.mpr c4
   clear c4
   (first | rw [c4b0] | (simp only [i64_w, i32_w]; rw [c4b0]) | skip)
   have H' := Aside0.mk H
   clear H
   go_wp2
   go_meet
   case rel => exact ⟨_, (true), (by first | rfl | (simp; done) | (simp [*]; done)), H', ⟨by first | omega | exact Nat.le_refl _⟩, by repeat (first | exact Drawn0.refl _ | apply Drawn0.step)⟩
  ·rw [if_neg c4] at H
   have c4b0 : (a1 == 0) = false := beq_eq_false_iff_ne.mpr c4
   have c4b1 : (a1 != 0) = true := bne_iff_ne.mpr c4
   (first | rw [c4b0] | (simp only [i64_w, i32_w]; rw [c4b0]) | skip)
   have H' := Aside0.mk H
   clear H
   go_wp2
   go_meet
   case rel => exact ⟨_, ((a1 == (-1))), (by first | rfl | (simp; done) | (simp [*]; done)), H', ⟨by first | omega | exact Nat.le_refl _⟩, by repeat (first | exact Drawn0.refl _ | apply Drawn0.step)⟩
 case rest =>
  clear HC3
  try clear p2
  try clear c4
  try clear c4b0
  try clear c4b1
  obtain ⟨kq, x11_2, rfl, HA, HJ2, ⟨mc2, rfl⟩⟩ := hcut
  cases kq with
  | zero => exact absurd HA.out (by simp [fixed_Mod.j0])
  | succ kj2 =>
   have H := HA.out
   clear HA
   simp only [fixed_Mod.j0] at H
   by_cases c5 : x11_2 = true
   ·subst c5
    have H1 : (some 0) = some r := by rw [if_pos rfl] at H; exact H
    clear H
    have H := H1
    clear H1
    obtain rfl := Option.some.inj H
    go_wp2
    go_ret
    exact ⟨by first | rfl | (simp; done) | (simp [*]; done), by repeat (first | exact Drawn0.refl _ | apply Drawn0.step)⟩
   ·replace c5 := Bool.eq_false_iff.mpr c5
    subst c5
    have H1 : (if a1 = 0 then (none) else (if (Int.tmod a0 a1) = 0 then (some (Int.tmod a0 a1)) else (if ((decide ((Int.tmod a0 a1) < 0)) != (decide (a1 < 0))) = true then (some (wrap64 ((Int.tmod a0 a1) + a1))) else (some (Int.tmod a0 a1))))) = some r := by rw [if_neg (show ¬ (false = true) by decide)] at H; exact H
    clear H
    have H := H1
    clear H1
    by_cases c6 : a1 = 0
    ·rw [if_pos c6] at H
     exact absurd H (by simp)
    ·rw [if_neg c6] at H
     have c6b0 : (a1 == 0) = false := beq_eq_false_iff_ne.mpr c6
     have c6b1 : (a1 != 0) = true := bne_iff_ne.mpr c6
     by_cases c7 : (Int.tmod a0 a1) = 0
     ·rw [if_pos c7] at H
      have c7b0 : ((Int.tmod a0 a1) == 0) = true := beq_iff_eq.mpr c7
      have c7b1 : ((Int.tmod a0 a1) != 0) = false := bne_eq_false_iff_eq.mpr c7
      clear c7
      obtain rfl := Option.some.inj H
      go_wp2
      go_ret
      exact ⟨by first | rfl | (simp; done) | (simp [*]; done), by repeat (first | exact Drawn0.refl _ | apply Drawn0.step)⟩
     ·rw [if_neg c7] at H
      have c7b0 : ((Int.tmod a0 a1) == 0) = false := beq_eq_false_iff_ne.mpr c7
      have c7b1 : ((Int.tmod a0 a1) != 0) = true := bne_iff_ne.mpr c7
      by_cases c8 : ((decide ((Int.tmod a0 a1) < 0)) != (decide (a1 < 0))) = true
      ·rw [if_pos c8] at H
       have c8b0 : ((decide ((Int.tmod a0 a1) < 0)) != (decide (a1 < 0))) = true := c8
       (try (have c8b1 : decide ((decide ((Int.tmod a0 a1) < 0)) = (decide (a1 < 0))) = false := by simpa using c8))
       (try (have c8b2 : ((decide ((Int.tmod a0 a1) < 0)) == (decide (a1 < 0))) = false := by simpa using c8))
       (try (have c8b3 : ¬ ((decide ((Int.tmod a0 a1) < 0)) = (decide (a1 < 0))) := by simpa using c8))
       clear c8
       obtain rfl := Option.some.inj H
       go_wp2
       go_ret
       exact ⟨by first | rfl | (simp; done) | (simp [*]; done), by repeat (first | exact Drawn0.refl _ | apply Drawn0.step)⟩
      ·rw [if_neg c8] at H
       have c8b0 : ((decide ((Int.tmod a0 a1) < 0)) != (decide (a1 < 0))) = false := by simpa using c8
       (try (have c8b1 : decide ((decide ((Int.tmod a0 a1) < 0)) = (decide (a1 < 0))) = true := by simpa using c8))
       (try (have c8b2 : ((decide ((Int.tmod a0 a1) < 0)) == (decide (a1 < 0))) = true := by simpa using c8))
       clear c8
       obtain rfl := Option.some.inj H
       go_wp2
       go_ret
       exact ⟨by first | rfl | (simp; done) | (simp [*]; done), by repeat (first | exact Drawn0.refl _ | apply Drawn0.step)⟩
end Go.Proofs.YtkdmebekabmkkaaDoor.QA

namespace Go.Proofs.YtkdmebekabmkkaaDoor.QA
open Go.Proofs.YtkdmebekabmkkaaDoor.T
open Go.RowKit Go.Proofs.YtkdmebekabmkkaaDoorW.PrintWords Go.Proofs.YtkdmebekabmkkaaDoorW.PrintLast Go.Proofs.YtkdmebekabmkkaaDoorW.PrintMore
attribute [local go_sem] ext_call max2_int min2_int max_two min_two max_three min_three max_four min_four   -- for this text's walks alone
set_option linter.unusedVariables false
set_option linter.unusedSimpArgs false
def fixed_Mul.f (k : Nat) (a0 : Int) (a1 : Int) : Option (Int) := (fixed_size.f a0).bind fun t173 => ((fixed_size.f a1).bind fun t174 => ((bits_Mul64.f t173 t174).bind fun bt175 => (if bt175.1 = 0 then ((fixed_hold.f k bt175.2 ((decide (a0 < 0)) != (decide (a1 < 0)))).bind fun t177 => (some t177)) else ((fixed_hold.f k 18446744073709551615 ((decide (a0 < 0)) != (decide (a1 < 0)))).bind fun t178 => (some t178)))))
theorem fixed_Mul.mono : ∀ a0 a1 k, LeO (fixed_Mul.f k a0 a1) (fixed_Mul.f (k + 1) a0 a1) := by
 intro a0 a1 k
 unfold fixed_Mul.f
 repeat' first
   | (with_reducible exact fixed_hold.mono _ _ _)
   | (with_reducible exact LeO.refl _)
   | (with_reducible exact LeO.none _)
   | (with_reducible refine LeO.ite ?_ ?_)
   | (with_reducible refine LeO.bind ?_ (fun _ => ?_))
   | exact fixed_hold.mono _ _ _
   | exact LeO.none _
   | refine LeO.ite ?_ ?_
   | refine LeO.bind ?_ (fun _ => ?_)
set_option maxHeartbeats 8000000 in
set_option maxRecDepth 100000 in
theorem fixed_Mul.calls (k : Nat) (a0 : Int) (a1 : Int) (r : Int) (w : World) (h : fixed_Mul.f k a0 a1 = some r) :
  Calls Tryd.prog 85 #[.int .i64 a0, .int .i64 a1] w fun e w' => e = .returned (.int .i64 r) ∧ Drawn0 w w' := by
 have H : ((fixed_size.f a0).bind fun t173 => ((fixed_size.f a1).bind fun t174 => ((bits_Mul64.f t173 t174).bind fun bt175 => (if bt175.1 = 0 then ((fixed_hold.f k bt175.2 ((decide (a0 < 0)) != (decide (a1 < 0)))).bind fun t177 => (some t177)) else ((fixed_hold.f k 18446744073709551615 ((decide (a0 < 0)) != (decide (a1 < 0)))).bind fun t178 => (some t178)))))) = some r := h
 clear h
 replace H := Option.bind_eq_some_iff.mp H
 obtain ⟨t173, A30, H⟩ := H
 replace H : ((fixed_size.f a1).bind fun t174 => ((bits_Mul64.f t173 t174).bind fun bt175 => (if bt175.1 = 0 then ((fixed_hold.f k bt175.2 ((decide (a0 < 0)) != (decide (a1 < 0)))).bind fun t177 => (some t177)) else ((fixed_hold.f k 18446744073709551615 ((decide (a0 < 0)) != (decide (a1 < 0)))).bind fun t178 => (some t178))))) = some r := H
 have A3 := Aside0.mk A30
 clear A30
 replace H := Option.bind_eq_some_iff.mp H
 obtain ⟨t174, A40, H⟩ := H
 replace H : ((bits_Mul64.f t173 t174).bind fun bt175 => (if bt175.1 = 0 then ((fixed_hold.f k bt175.2 ((decide (a0 < 0)) != (decide (a1 < 0)))).bind fun t177 => (some t177)) else ((fixed_hold.f k 18446744073709551615 ((decide (a0 < 0)) != (decide (a1 < 0)))).bind fun t178 => (some t178)))) = some r := H
 have A4 := Aside0.mk A40
 clear A40
 replace H := Option.bind_eq_some_iff.mp H
 obtain ⟨⟨t175, t176⟩, A50, H⟩ := H
 replace H : (if t175 = 0 then ((fixed_hold.f k t176 ((decide (a0 < 0)) != (decide (a1 < 0)))).bind fun t177 => (some t177)) else ((fixed_hold.f k 18446744073709551615 ((decide (a0 < 0)) != (decide (a1 < 0)))).bind fun t178 => (some t178))) = some r := H
 have A5 := Aside0.mk A50
 clear A50
 by_cases c6 : t175 = 0
 ·rw [if_pos c6] at H
  have c6b0 : (t175 == 0) = true := beq_iff_eq.mpr c6
  have c6b1 : (t175 != 0) = false := bne_eq_false_iff_eq.mpr c6
  clear c6
  replace H := Option.bind_eq_some_iff.mp H
  obtain ⟨t177, A70, H⟩ := H
  replace H : (some t177) = some r := H
  have A7 := Aside0.mk A70
  clear A70
  obtain rfl := Option.some.inj H
  go_enter Tryd.func85, Tryd.ntmps85
  go_wp2_with (first | ((with_reducible refine gate_callee (f := 70) rfl ?_); refine goesL_ (some 9) rfl rfl Tryd.func70 (by kernel_rfl) rfl #[.int .i64 a0] rfl (by (try simp only [List.map_toArray, List.map_cons, List.map_nil]); first | done | rfl | (simp only [List.length_drop, List.length_take]; rfl)) ?_; (with_reducible refine (fixed_size.calls a0 t173 _ A3.out).mono ?_); rintro e w' ⟨rfl, ⟨nd, rfl⟩⟩; refine ⟨_, rfl, ?_⟩) | ((with_reducible refine gate_callee (f := 70) rfl ?_); refine goesL_ (some 11) rfl rfl Tryd.func70 (by kernel_rfl) rfl #[.int .i64 a1] rfl (by (try simp only [List.map_toArray, List.map_cons, List.map_nil]); first | done | rfl | (simp only [List.length_drop, List.length_take]; rfl)) ?_; (with_reducible refine (fixed_size.calls a1 t174 _ A4.out).mono ?_); rintro e w' ⟨rfl, ⟨nd, rfl⟩⟩; refine ⟨_, rfl, ?_⟩) | ((with_reducible refine gate_callee (f := 82) rfl ?_); refine goesL_ (some 12) rfl rfl Tryd.func82 (by kernel_rfl) rfl #[.int .u64 t173, .int .u64 t174] rfl (by (try simp only [List.map_toArray, List.map_cons, List.map_nil]); first | done | rfl | (simp only [List.length_drop, List.length_take]; rfl)) ?_; (with_reducible refine (bits_Mul64.calls t173 t174 t175 t176 _ A5.out).mono ?_); rintro e w' ⟨rfl, ⟨nd, rfl⟩⟩; refine ⟨_, rfl, ?_⟩) | ((with_reducible refine gate_callee (f := 71) rfl ?_); refine goesL_ (some 23) rfl rfl Tryd.func71 (by kernel_rfl) rfl #[.int .u64 t176, .bool ((decide (a0 < 0)) != (decide (a1 < 0)))] rfl (by (try simp only [List.map_toArray, List.map_cons, List.map_nil]); first | done | rfl | (simp only [List.length_drop, List.length_take]; rfl)) ?_; (with_reducible refine (fixed_hold.calls k t176 ((decide (a0 < 0)) != (decide (a1 < 0))) t177 _ A7.out).mono ?_); rintro e w' ⟨rfl, ⟨nd, rfl⟩⟩; refine ⟨_, rfl, ?_⟩))
  go_ret
  exact ⟨by first | rfl | (simp; done) | (simp [*]; done), by repeat (first | exact Drawn0.refl _ | apply Drawn0.step)⟩
 ·rw [if_neg c6] at H
  have c6b0 : (t175 == 0) = false := beq_eq_false_iff_ne.mpr c6
  have c6b1 : (t175 != 0) = true := bne_iff_ne.mpr c6
  replace H := Option.bind_eq_some_iff.mp H
  obtain ⟨t178, A80, H⟩ := H
  replace H : (some t178) = some r := H
  have A8 := Aside0.mk A80
  clear A80
  obtain rfl := Option.some.inj H
  go_enter Tryd.func85, Tryd.ntmps85
  go_wp2_with (first | ((with_reducible refine gate_callee (f := 70) rfl ?_); refine goesL_ (some 9) rfl rfl Tryd.func70 (by kernel_rfl) rfl #[.int .i64 a0] rfl (by (try simp only [List.map_toArray, List.map_cons, List.map_nil]); first | done | rfl | (simp only [List.length_drop, List.length_take]; rfl)) ?_; (with_reducible refine (fixed_size.calls a0 t173 _ A3.out).mono ?_); rintro e w' ⟨rfl, ⟨nd, rfl⟩⟩; refine ⟨_, rfl, ?_⟩) | ((with_reducible refine gate_callee (f := 70) rfl ?_); refine goesL_ (some 11) rfl rfl Tryd.func70 (by kernel_rfl) rfl #[.int .i64 a1] rfl (by (try simp only [List.map_toArray, List.map_cons, List.map_nil]); first | done | rfl | (simp only [List.length_drop, List.length_take]; rfl)) ?_; (with_reducible refine (fixed_size.calls a1 t174 _ A4.out).mono ?_); rintro e w' ⟨rfl, ⟨nd, rfl⟩⟩; refine ⟨_, rfl, ?_⟩) | ((with_reducible refine gate_callee (f := 82) rfl ?_); refine goesL_ (some 12) rfl rfl Tryd.func82 (by kernel_rfl) rfl #[.int .u64 t173, .int .u64 t174] rfl (by (try simp only [List.map_toArray, List.map_cons, List.map_nil]); first | done | rfl | (simp only [List.length_drop, List.length_take]; rfl)) ?_; (with_reducible refine (bits_Mul64.calls t173 t174 t175 t176 _ A5.out).mono ?_); rintro e w' ⟨rfl, ⟨nd, rfl⟩⟩; refine ⟨_, rfl, ?_⟩) | ((with_reducible refine gate_callee (f := 71) rfl ?_); refine goesL_ (some 23) rfl rfl Tryd.func71 (by kernel_rfl) rfl #[.int .u64 18446744073709551615, .bool ((decide (a0 < 0)) != (decide (a1 < 0)))] rfl (by (try simp only [List.map_toArray, List.map_cons, List.map_nil]); first | done | rfl | (simp only [List.length_drop, List.length_take]; rfl)) ?_; (with_reducible refine (fixed_hold.calls k 18446744073709551615 ((decide (a0 < 0)) != (decide (a1 < 0))) t178 _ A8.out).mono ?_); rintro e w' ⟨rfl, ⟨nd, rfl⟩⟩; refine ⟨_, rfl, ?_⟩))
  go_ret
  exact ⟨by first | rfl | (simp; done) | (simp [*]; done), by repeat (first | exact Drawn0.refl _ | apply Drawn0.step)⟩
def taps_size.f (k : Nat) (a0 : Int) : Option (Int) := (fixed_Mul.f k a0 (-1)).bind fun t179 => (some (mx a0 t179))
theorem taps_size.mono : ∀ a0 k, LeO (taps_size.f k a0) (taps_size.f (k + 1) a0) := by
 intro a0 k
 unfold taps_size.f
 repeat' first
   | (with_reducible exact fixed_Mul.mono _ _ _)
   | (with_reducible exact LeO.refl _)
   | (with_reducible exact LeO.none _)
   | (with_reducible refine LeO.ite ?_ ?_)
   | (with_reducible refine LeO.bind ?_ (fun _ => ?_))
   | exact fixed_Mul.mono _ _ _
   | exact LeO.none _
   | refine LeO.ite ?_ ?_
   | refine LeO.bind ?_ (fun _ => ?_)
set_option maxHeartbeats 8000000 in
set_option maxRecDepth 100000 in
theorem taps_size.calls (k : Nat) (a0 : Int) (r : Int) (w : World) (h : taps_size.f k a0 = some r) :
  Calls Tryd.prog 68 #[.int .i64 a0] w fun e w' => e = .returned (.int .i64 r) ∧ Below w.heap.size w w' := by
 have HB := Aside0.mk (Below.refl w.heap.size w)
 have H : ((fixed_Mul.f k a0 (-1)).bind fun t179 => (some (mx a0 t179))) = some r := h
 clear h
 replace H := Option.bind_eq_some_iff.mp H
 obtain ⟨t179, A20, H⟩ := H
 replace H : (some (mx a0 t179)) = some r := H
 have A2 := Aside0.mk A20
 clear A20
 obtain ⟨ji3, hji3⟩ : ∃ j_ : Int, (mx a0 t179) = j_ := ⟨_, rfl⟩
 replace H : (some ji3) = some r := by first | (rw [hji3] at H; exact H) | (simp only [hji3] at H ⊢; exact H)
 (try rw [hji3] at A2)
 have hji3_ : (if a0 < t179 then t179 else a0) = ji3 := hji3
 obtain rfl := Option.some.inj H
 go_enter Tryd.func68, Tryd.ntmps68
 go_wp2_with (first | ((with_reducible refine gate_callee (f := 85) rfl ?_); refine goesL_ (some 5) rfl rfl Tryd.func85 (by kernel_rfl) rfl #[.int .i64 a0, .int .i64 (-1)] rfl (by (try simp only [List.map_toArray, List.map_cons, List.map_nil]); first | done | rfl | (simp only [List.length_drop, List.length_take]; rfl)) ?_; (with_reducible refine (fixed_Mul.calls k a0 (-1) t179 _ A2.out).mono ?_); rintro e w' ⟨rfl, ⟨nd, rfl⟩⟩; refine ⟨_, rfl, ?_⟩))
 go_ret
 exact ⟨by first | rfl | (simp [errW_none, errW_some] <;> rfl) | (simp only [← hji3]; first | rfl | (simp [errW_none, errW_some] <;> rfl)) | (simp [*, errW_none, errW_some] <;> rfl), by repeat (first | (with_reducible first | exact HB.out | apply below_alloc | apply pw_below_drewN | apply below_drew1) | exact HB.out)⟩
end Go.Proofs.YtkdmebekabmkkaaDoor.QA

namespace Go.Proofs.YtkdmebekabmkkaaDoor.T
open Go.RowKit Go.Proofs.YtkdmebekabmkkaaDoorW.PrintWords Go.Proofs.YtkdmebekabmkkaaDoorW.PrintLast Go.Proofs.YtkdmebekabmkkaaDoorW.PrintMore
theorem u64w (n : Int) : IntKind.u64.wrap n = n % 18446744073709551616 := by simp [IntKind.wrap, IntKind.bits, IntKind.signed]
theorem i64w (n : Int) : IntKind.i64.wrap n = wrap64 n := by rw [IntKind.wrap_i64]; unfold wrap64; omega
theorem wf64 {x : Int} (h : (Lit.int .i64 x).wf = true) : -9223372036854775808 ≤ x ∧ x ≤ 9223372036854775807 := by
  simp [Lit.wf, IntKind.min, IntKind.max, IntKind.bits, IntKind.signed] at h; exact h
theorem wfu64 {x : Int} (h : (Lit.int .u64 x).wf = true) : 0 ≤ x ∧ x ≤ 18446744073709551615 := by
  simp [Lit.wf, IntKind.min, IntKind.max, IntKind.bits, IntKind.signed] at h; exact h
theorem wfu8 {x : Int} (h : (Lit.int .u8 x).wf = true) : 0 ≤ x ∧ x ≤ 255 := by
  simp [Lit.wf, IntKind.min, IntKind.max, IntKind.bits, IntKind.signed] at h; exact h
theorem wfu16 {x : Int} (h : (Lit.int .u16 x).wf = true) : 0 ≤ x ∧ x ≤ 65535 := by
  simp [Lit.wf, IntKind.min, IntKind.max, IntKind.bits, IntKind.signed] at h; exact h
theorem wfu32 {x : Int} (h : (Lit.int .u32 x).wf = true) : 0 ≤ x ∧ x ≤ 4294967295 := by
  simp [Lit.wf, IntKind.min, IntKind.max, IntKind.bits, IntKind.signed] at h; exact h
theorem wfi32 {x : Int} (h : (Lit.int .i32 x).wf = true) : -2147483648 ≤ x ∧ x ≤ 2147483647 := by
  simp [Lit.wf, IntKind.min, IntKind.max, IntKind.bits, IntKind.signed] at h; exact h
theorem wfi16 {x : Int} (h : (Lit.int .i16 x).wf = true) : -32768 ≤ x ∧ x ≤ 32767 := by
  simp [Lit.wf, IntKind.min, IntKind.max, IntKind.bits, IntKind.signed] at h; exact h
theorem w64_id {x : Int} (h0 : -9223372036854775808 ≤ x) (h1 : x ≤ 9223372036854775807) : wrap64 x = x := by unfold wrap64; omega
/-- Masks of low bits, of any sign. -/
theorem and_mask (k : IntKind) (x : Int) (i : Nat) (hi : i ≤ k.bits) (hw : k.wrap (x % 2 ^ i) = x % 2 ^ i) : bits .and k x (2 ^ i - 1) = x % 2 ^ i := by
  have hc : ((2 : Int) ^ i - 1) = ((2 ^ i - 1 : Nat) : Int) := by
    rw [Int.natCast_sub (Nat.two_pow_pos i)]; simp
  have h1 : (BitVec.ofInt k.bits (2 ^ i - 1)).toNat = 2 ^ i - 1 := by
    rw [hc, BitVec.ofInt_natCast, BitVec.toNat_ofNat, Nat.mod_eq_of_lt]
    exact Nat.lt_of_lt_of_le (Nat.sub_lt (Nat.two_pow_pos i) (by decide)) (Nat.pow_le_pow_right (by decide) hi)
  have h2 : (((BitVec.ofInt k.bits x).toNat : Nat) : Int) = x % 2 ^ k.bits := by
    rw [BitVec.toNat_ofInt, Int.toNat_of_nonneg (Int.emod_nonneg _ (by have := Nat.two_pow_pos k.bits; omega))]
    simp
  have h3 : ((((BitVec.ofInt k.bits x) &&& (BitVec.ofInt k.bits (2 ^ i - 1))).toNat : Nat) : Int) = x % 2 ^ i := by
    rw [BitVec.toNat_and, h1, Nat.and_two_pow_sub_one_eq_mod]
    rw [Int.natCast_emod, h2]
    simp only [Int.natCast_pow, Int.cast_ofNat_Int]
    exact Int.emod_emod_of_dvd x ⟨2 ^ (k.bits - i), by rw [← Int.pow_add]; congr 1; omega⟩
  simp only [bits]
  rw [h3, hw]
theorem u64and1 (x : Int) : bits .and .u64 x 1 = x % 2 := by
  have := and_mask .u64 x 1 (by decide) (by rw [u64w]; omega)
  simpa using this
theorem i64and1 (x : Int) : bits .and .i64 x 1 = x % 2 := by
  have := and_mask .i64 x 1 (by decide) (by rw [i64w]; unfold wrap64; omega)
  simpa using this
theorem u64and32 (x : Int) : bits .and .u64 x 4294967295 = x % 4294967296 := by
  have := and_mask .u64 x 32 (by decide) (by rw [u64w]; omega)
  simpa using this
/-- Held within 64 bits. -/
def hold (m : Int) : Int := if m < -9223372036854775808 then -9223372036854775808 else if m > 9223372036854775807 then 9223372036854775807 else m
theorem hold_ge (m : Int) : -9223372036854775808 ≤ hold m := by unfold hold; split <;> (try split) <;> omega
theorem hold_le (m : Int) : hold m ≤ 9223372036854775807 := by unfold hold; split <;> (try split) <;> omega
theorem hold_id {m : Int} (h0 : -9223372036854775808 ≤ m) (h1 : m ≤ 9223372036854775807) : hold m = m := by unfold hold; rw [if_neg (by omega), if_neg (by omega)]
/-- The quotient downwards, of any signs. -/
def flo (a b : Int) : Int := if 0 < b then a / b else (-a) / (-b)
/-- The nearest number to a quotient; of two the greater one. -/
def rdiv (a b : Int) : Int := if 0 < b then (2 * a + b) / (2 * b) else (2 * (-a) + (-b)) / (2 * (-b))
/-- What is left, of any signs. -/
def fmo (a b : Int) : Int := a - b * flo a b
/-- Without sign. -/
def siz (x : Int) : Int := if x < 0 then -x else x
theorem siz_nonneg (x : Int) : 0 ≤ siz x := by unfold siz; split <;> omega
/-- Rounded, without sign: the half goes up (of a number that isn't below), or down (of one that is). -/
theorem near_up {p d : Int} (_hp : 0 ≤ p) (hd : 0 < d) : (2 * p + d) / (2 * d) = if p % d ≥ d - p % d then p / d + 1 else p / d := by
  have e := Int.mul_ediv_add_emod p d
  have r0 := Int.emod_nonneg p (Int.ne_of_gt hd)
  have r1 := Int.emod_lt_of_pos p hd
  have e2 : 2 * p + d = (2 * d) * (p / d) + (2 * (p % d) + d) := by rw [Int.mul_assoc]; omega
  rw [e2, Int.add_comm, Int.add_mul_ediv_left _ _ (by omega)]
  split
  · have : (2 * (p % d) + d) / (2 * d) = 1 := by
      rw [show 2 * (p % d) + d = (2 * (p % d) - d) + (2 * d) * 1 from by omega, Int.add_mul_ediv_left _ _ (by omega), Int.ediv_eq_zero_of_lt (by omega) (by omega)]; omega
    omega
  · have : (2 * (p % d) + d) / (2 * d) = 0 := Int.ediv_eq_zero_of_lt (by omega) (by omega)
    omega
theorem near_dn {p d : Int} (_hp : 0 ≤ p) (hd : 0 < d) : (2 * (-p) + d) / (2 * d) = if p % d > d - p % d then -(p / d + 1) else -(p / d) := by
  have e := Int.mul_ediv_add_emod p d
  have r0 := Int.emod_nonneg p (Int.ne_of_gt hd)
  have r1 := Int.emod_lt_of_pos p hd
  have e2 : 2 * (-p) + d = (2 * d) * (-(p / d)) + (d - 2 * (p % d)) := by rw [Int.mul_assoc, Int.mul_neg, Int.mul_neg]; omega
  rw [e2, Int.add_comm, Int.add_mul_ediv_left _ _ (by omega)]
  split
  · have : (d - 2 * (p % d)) / (2 * d) = -1 := by
      rw [show d - 2 * (p % d) = (3 * d - 2 * (p % d)) + (2 * d) * (-1) from by omega, Int.add_mul_ediv_left _ _ (by omega), Int.ediv_eq_zero_of_lt (by omega) (by omega)]; omega
    omega
  · have : (d - 2 * (p % d)) / (2 * d) = 0 := Int.ediv_eq_zero_of_lt (by omega) (by omega)
    omega
/-- A product's or a number's sign. -/
def sgn (below : Bool) (m : Int) : Int := if below = true then -m else m
theorem sgn_siz2 (a b : Int) : sgn ((decide (a < 0)) != (decide (b < 0))) (siz a * siz b) = a * b := by
  unfold sgn siz
  by_cases h : a < 0 <;> by_cases k : b < 0 <;> simp [h, k, Int.neg_mul, Int.mul_neg]
theorem sgn_siz (a : Int) : sgn (decide (a < 0)) (siz a) = a := by
  unfold sgn siz
  by_cases h : a < 0 <;> simp [h]
theorem sgn_xor (x : Bool) (d p : Int) (_hd : d ≠ 0) : rdiv (sgn (x != decide (d < 0)) p) (siz d) = rdiv (sgn x p) d := by
  unfold sgn siz rdiv
  by_cases k : d < 0
  · rw [if_pos k]
    rw [if_pos (show 0 < -d from by omega), if_neg (show ¬ 0 < d from by omega)]
    cases x <;> simp [k]
  · simp [k]
theorem flo_xor (x : Bool) (d p : Int) (_hd : d ≠ 0) : flo (sgn (x != decide (d < 0)) p) (siz d) = flo (sgn x p) d := by
  unfold sgn siz flo
  by_cases k : d < 0
  · rw [if_pos k]
    rw [if_pos (show 0 < -d from by omega), if_neg (show ¬ 0 < d from by omega)]
    cases x <;> simp [k]
  · simp [k]
theorem rdiv_sgn (below : Bool) {p d : Int} (hp : 0 ≤ p) (hd : 0 < d) :
    rdiv (sgn below p) d = sgn below (if below = true then (if p % d > d - p % d then p / d + 1 else p / d) else (if p % d ≥ d - p % d then p / d + 1 else p / d)) := by
  unfold rdiv sgn
  rw [if_pos hd]
  cases below
  · simp only [Bool.false_eq_true, if_false]; exact near_up hp hd
  · simp only [if_true]; rw [near_dn hp hd]; split <;> rfl
theorem neg_ediv {p d : Int} (hd : 0 < d) : (-p) / d = if p % d = 0 then -(p / d) else -(p / d + 1) := by
  have e := Int.mul_ediv_add_emod p d
  have r0 := Int.emod_nonneg p (Int.ne_of_gt hd)
  have r1 := Int.emod_lt_of_pos p hd
  rw [show -p = -(p % d) + d * (-(p / d)) from by rw [Int.mul_neg]; omega, Int.add_mul_ediv_left _ _ (by omega)]
  split
  · rename_i h; rw [h]; simp
  · have : (-(p % d)) / d = -1 := by
      rw [show -(p % d) = (d - p % d) + d * (-1) from by omega, Int.add_mul_ediv_left _ _ (by omega), Int.ediv_eq_zero_of_lt (by omega) (by omega)]; omega
    omega
theorem flo_sgn (below : Bool) {p d : Int} (hd : 0 < d) :
    flo (sgn below p) d = sgn below (if below = true ∧ p % d ≠ 0 then p / d + 1 else p / d) := by
  unfold flo sgn
  rw [if_pos hd]
  cases below
  · simp
  · simp only [if_true, true_and]; rw [neg_ediv hd]; by_cases h : p % d = 0 <;> simp [h]
/-- Within 64 bits; without sign. -/
abbrev I64 (x : Int) : Prop := -9223372036854775808 ≤ x ∧ x ≤ 9223372036854775807
abbrev U64 (x : Int) : Prop := 0 ≤ x ∧ x < 18446744073709551616
theorem siz_u {a : Int} (h : I64 a) : 0 ≤ siz a ∧ siz a ≤ 9223372036854775808 := by unfold siz; split <;> omega
theorem siz_zero {a : Int} : siz a = 0 ↔ a = 0 := by unfold siz; split <;> omega
theorem hold_i (m : Int) : I64 (hold m) := ⟨hold_ge m, hold_le m⟩
theorem tmod_pos (a : Int) {b : Int} (hb : 0 < b) : a.tmod b = if 0 ≤ a ∨ a % b = 0 then a % b else a % b - b := by
  have e := Int.tmod_eq_emod (a := a) (b := b)
  have hdv := Int.dvd_iff_emod_eq_zero (a := b) (b := a)
  rw [e]
  simp only [hdv]
  split
  · simp
  · rw [Int.natAbs_of_nonneg (by omega)]
/-- What is left. -/
def md (a b : Int) : Int := if b = 0 then 0 else if 0 < b then a % b else -((-a) % (-b))
/-- By bits, rounded. -/
def sh (x n : Int) : Int := if n ≤ 0 then x else rdiv x (2 ^ n.toNat)
theorem pow_pos (n : Nat) : (0 : Int) < 2 ^ n := Int.pow_pos (by decide)
theorem pow_succ2 (n : Nat) : (2 : Int) ^ (n + 1) = 2 * 2 ^ n := by rw [Int.pow_succ, Int.mul_comm]
theorem pow_le {m n : Nat} (h : m ≤ n) : (2 : Int) ^ m ≤ 2 ^ n := by
  obtain ⟨d, rfl⟩ := Nat.exists_eq_add_of_le h
  rw [Int.pow_add]
  have h1 := pow_pos m
  have h2 := pow_pos d
  calc (2 : Int) ^ m = 2 ^ m * 1 := by rw [Int.mul_one]
    _ ≤ 2 ^ m * 2 ^ d := Int.mul_le_mul_of_nonneg_left (by omega) (by omega)
/-- Rounded by a power of two: the part below and its highest bit. -/
theorem rdiv_pow (x : Int) (n : Nat) (hn : 1 ≤ n) : rdiv x (2 ^ n) = x / 2 ^ n + x / 2 ^ (n - 1) % 2 := by
  obtain ⟨m, rfl⟩ : ∃ m, n = m + 1 := ⟨n - 1, by omega⟩
  rw [Nat.add_sub_cancel]
  have hp := pow_pos m
  unfold rdiv
  rw [if_pos (pow_pos _), pow_succ2]
  have e1 : (2 * x + 2 * 2 ^ m) / (2 * (2 * 2 ^ m)) = (x + 2 ^ m) / (2 * 2 ^ m) := by
    rw [← Int.mul_add]; exact Int.mul_ediv_mul_of_pos _ _ (by omega)
  have e2 : (x + 2 ^ m) / (2 * 2 ^ m) = (x / 2 ^ m + 1) / 2 := by
    rw [Int.mul_comm, ← Int.ediv_ediv_of_nonneg (by omega)]
    congr 1
    have := Int.add_mul_ediv_right x 1 (show (2 : Int) ^ m ≠ 0 from by omega)
    rw [Int.one_mul] at this; exact this
  have e3 : x / (2 * 2 ^ m) = x / 2 ^ m / 2 := by rw [Int.mul_comm, ← Int.ediv_ediv_of_nonneg (by omega)]
  rw [e1, e2, e3]
  omega
theorem rdiv_far {x d : Int} (hd : 18446744073709551616 ≤ d) (hx : I64 x) : rdiv x d = 0 := by
  unfold rdiv
  rw [if_pos (by omega)]
  exact Int.ediv_eq_zero_of_lt (by omega) (by omega)
theorem rdiv_one (x : Int) : rdiv x 1 = x := by unfold rdiv; rw [if_pos (by decide)]; omega
theorem div_unique {a d q r : Int} (h : q * d + r = a) (h0 : 0 ≤ r) (h1 : r < d) : a / d = q ∧ a % d = r := by
  subst h
  constructor
  · rw [Int.add_comm, Int.add_mul_ediv_right _ _ (by omega), Int.ediv_eq_zero_of_lt h0 h1]; omega
  · rw [Int.add_comm, Int.add_mul_emod_self_right, Int.emod_eq_of_lt h0 h1]
theorem half_pow (a : Int) (n : Nat) : a / 2 ^ n = 2 * (a / 2 ^ (n + 1)) + a / 2 ^ n % 2 := by
  have e : a / 2 ^ (n + 1) = a / 2 ^ n / 2 := by rw [pow_succ2, Int.mul_comm, ← Int.ediv_ediv_of_nonneg (by have := pow_pos n; omega)]
  rw [e]; omega
theorem sh_range {x n : Int} (hx : I64 x) : I64 (sh x n) := by
  unfold sh
  split
  · exact hx
  · by_cases h : 64 ≤ n
    · rw [rdiv_far (x := x) _ hx]
      · constructor <;> omega
      · calc (18446744073709551616 : Int) = 2 ^ 64 := by decide
          _ ≤ 2 ^ n.toNat := pow_le (by omega)
    · rw [rdiv_pow x n.toNat (by omega)]
      have hp := pow_pos n.toNat
      have h2 : (2 : Int) ≤ 2 ^ n.toNat := by
        calc (2 : Int) = 2 ^ 1 := by decide
          _ ≤ 2 ^ n.toNat := pow_le (by omega)
      have a : -9223372036854775808 ≤ x / 2 ^ n.toNat := by
        rw [Int.le_ediv_iff_mul_le hp]
        have : -9223372036854775808 * 2 ^ n.toNat ≤ -9223372036854775808 * 1 := Int.mul_le_mul_of_nonpos_left (by decide) (by omega)
        omega
      have b : x / 2 ^ n.toNat < 4611686018427387904 := by
        rw [Int.ediv_lt_iff_lt_mul hp]
        calc x < 4611686018427387904 * 2 := by omega
          _ ≤ 4611686018427387904 * 2 ^ n.toNat := Int.mul_le_mul_of_nonneg_left h2 (by decide)
      constructor <;> omega
end Go.Proofs.YtkdmebekabmkkaaDoor.T
