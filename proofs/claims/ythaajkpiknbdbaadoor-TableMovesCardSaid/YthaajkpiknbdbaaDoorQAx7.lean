-- Written by wip/tools/pp.py over the kit's print.py; not trusted: Lean checks it.
import Derived.Test.YthaajkpiknbdbaaDoorQAx0
import Derived.Test.YthaajkpiknbdbaaDoorQAx3
import Derived.Test.YthaajkpiknbdbaaDoorQAx5
import Derived.Test.YthaajkpiknbdbaaDoorQAx6
namespace Go.Proofs.YthaajkpiknbdbaaDoor.QA
open Go.Proofs.YthaajkpiknbdbaaDoor.T
open Go.RowKit Go.Proofs.YthaajkpiknbdbaaDoorW.PrintWords Go.Proofs.YthaajkpiknbdbaaDoorW.PrintLast Go.Proofs.YthaajkpiknbdbaaDoorW.PrintMore
attribute [local go_sem] ext_call max2_int min2_int max_two min_two max_three min_three max_four min_four   -- for this text's walks alone
set_option linter.unusedVariables false
set_option linter.unusedSimpArgs false

/-! ### wide_MulShift: function 85 -/
def wide_MulShift.j0 : Nat → Bool → Int → Int → Bool → Option (Int)
 | 0, _, _, _, _ => none
 | k + 1, x9, x10, x11, x59 => if x59 = true then ((wide_signed.f k x10 x11 x9).bind fun t145 => (some t145)) else ((wide_signed.f k (IntKind.u64.wrap (x10 + (add64c x11 1 0))) (add64s x11 1 0) x9).bind fun t146 => (some t146))
def wide_MulShift.f (k : Nat) (a0 : Int) (a1 : Int) (a2 : Int) : Option (Int) := if (mx 0 a2) ≥ 128 then (some 0) else ((wide_product.f a0 a1).bind fun bt136 => (if (mx 0 a2) = 0 then ((wide_signed.f k bt136.1 bt136.2.1 bt136.2.2).bind fun t139 => (some t139)) else ((wide_shift.f bt136.1 bt136.2.1 (mx 0 a2)).bind fun bt140 => ((wide_shift.f bt136.1 bt136.2.1 (wrap64 ((mx 0 a2) - 1))).bind fun bt142 => (if (Go.bits .and .u64 bt142.2 1) = 0 then (wide_MulShift.j0 k bt136.2.2 bt140.1 bt140.2 true) else (if bt136.2.2 = true then ((wide_exact.f bt136.1 bt136.2.1 (wrap64 ((mx 0 a2) - 1))).bind fun t144 => (wide_MulShift.j0 k bt136.2.2 bt140.1 bt140.2 t144)) else (wide_MulShift.j0 k bt136.2.2 bt140.1 bt140.2 false)))))))
theorem wide_MulShift.mono_l : ∀ k, (∀ y0 y1 y2 y3, LeO (wide_MulShift.j0 k y0 y1 y2 y3) (wide_MulShift.j0 (k + 1) y0 y1 y2 y3))
 | 0 => fun _ _ _ _ r h => by simp [wide_MulShift.j0] at h
 | k + 1 => by
  have ih0 := wide_MulShift.mono_l k
  ·intro y0 y1 y2 y3
   unfold wide_MulShift.j0
   repeat' first
   | (with_reducible exact ih0 _ _ _ _)
   | (with_reducible exact wide_signed.mono _ _ _ _)
   | (with_reducible exact LeO.refl _)
   | (with_reducible exact LeO.none _)
   | (with_reducible refine LeO.ite ?_ ?_)
   | (with_reducible refine LeO.bind ?_ (fun _ => ?_))
   | exact ih0 _ _ _ _
   | exact wide_signed.mono _ _ _ _
   | exact LeO.none _
   | refine LeO.ite ?_ ?_
   | refine LeO.bind ?_ (fun _ => ?_)
theorem wide_MulShift.mono : ∀ a0 a1 a2 k, LeO (wide_MulShift.f k a0 a1 a2) (wide_MulShift.f (k + 1) a0 a1 a2) := by
 intro a0 a1 a2 k
 have ih0 := wide_MulShift.mono_l k
 unfold wide_MulShift.f
 repeat' first
   | (with_reducible exact ih0 _ _ _ _)
   | (with_reducible exact wide_signed.mono _ _ _ _)
   | (with_reducible exact LeO.refl _)
   | (with_reducible exact LeO.none _)
   | (with_reducible refine LeO.ite ?_ ?_)
   | (with_reducible refine LeO.bind ?_ (fun _ => ?_))
   | exact ih0 _ _ _ _
   | exact wide_signed.mono _ _ _ _
   | exact LeO.none _
   | refine LeO.ite ?_ ?_
   | refine LeO.bind ?_ (fun _ => ?_)
set_option maxHeartbeats 8000000 in
set_option maxRecDepth 100000 in
theorem wide_MulShift.calls (k : Nat) (a0 : Int) (a1 : Int) (a2 : Int) (r : Int) (w : World) (h : wide_MulShift.f k a0 a1 a2 = some r) :
  Calls Tryd.prog 85 #[.int .i64 a0, .int .i64 a1, .int .i64 a2] w fun e w' => e = .returned (.int .i64 r) ∧ Below w.heap.size w w' := by
 have HB := Aside0.mk (Below.refl w.heap.size w)
 have H : (if (mx 0 a2) ≥ 128 then (some 0) else ((wide_product.f a0 a1).bind fun bt136 => (if (mx 0 a2) = 0 then ((wide_signed.f k bt136.1 bt136.2.1 bt136.2.2).bind fun t139 => (some t139)) else ((wide_shift.f bt136.1 bt136.2.1 (mx 0 a2)).bind fun bt140 => ((wide_shift.f bt136.1 bt136.2.1 (wrap64 ((mx 0 a2) - 1))).bind fun bt142 => (if (Go.bits .and .u64 bt142.2 1) = 0 then (wide_MulShift.j0 k bt136.2.2 bt140.1 bt140.2 true) else (if bt136.2.2 = true then ((wide_exact.f bt136.1 bt136.2.1 (wrap64 ((mx 0 a2) - 1))).bind fun t144 => (wide_MulShift.j0 k bt136.2.2 bt140.1 bt140.2 t144)) else (wide_MulShift.j0 k bt136.2.2 bt140.1 bt140.2 false)))))))) = some r := h
 clear h
 obtain ⟨ji4, hji4⟩ : ∃ j_ : Int, (mx 0 a2) = j_ := ⟨_, rfl⟩
 replace H : (if (ji4) ≥ 128 then (some 0) else ((wide_product.f a0 a1).bind fun bt136 => (if (ji4) = 0 then ((wide_signed.f k bt136.1 bt136.2.1 bt136.2.2).bind fun t139 => (some t139)) else ((wide_shift.f bt136.1 bt136.2.1 (ji4)).bind fun bt140 => ((wide_shift.f bt136.1 bt136.2.1 (wrap64 ((ji4) - 1))).bind fun bt142 => (if (Go.bits .and .u64 bt142.2 1) = 0 then (wide_MulShift.j0 k bt136.2.2 bt140.1 bt140.2 true) else (if bt136.2.2 = true then ((wide_exact.f bt136.1 bt136.2.1 (wrap64 ((ji4) - 1))).bind fun t144 => (wide_MulShift.j0 k bt136.2.2 bt140.1 bt140.2 t144)) else (wide_MulShift.j0 k bt136.2.2 bt140.1 bt140.2 false)))))))) = some r := by first | (rw [hji4] at H; exact H) | (simp only [hji4] at H ⊢; exact H)
 (try (have hji4l : 0 ≤ ji4 := by (rw [← hji4]; unfold mx; (repeat' split) <;> omega)))
 (try (have hji4m : 0 ≤ ji4 := by omega))
 have hji4_ : (if 0 < a2 then a2 else 0) = ji4 := hji4
 by_cases c5 : (ji4) ≥ 128
 ·rw [if_pos c5] at H
  have c5b0 : decide (128 ≤ (ji4)) = true := decide_eq_true c5
  clear c5
  obtain rfl := Option.some.inj H
  go_enter Tryd.func85, Tryd.ntmps85
  go_wp2
  go_ret
  exact ⟨by first | rfl | (simp [errW_none, errW_some] <;> rfl) | (simp only [← hji4]; first | rfl | (simp [errW_none, errW_some] <;> rfl)) | (simp [*, errW_none, errW_some] <;> rfl), by repeat (first | (with_reducible first | exact HB.out | apply below_alloc | apply pw_below_drewN | apply below_drew1) | exact HB.out)⟩
 ·rw [if_neg c5] at H
  have c5b0 : decide (128 ≤ (ji4)) = false := decide_eq_false c5
  clear c5
  replace H := Option.bind_eq_some_iff.mp H
  obtain ⟨⟨t136, t137, t138⟩, A60, H⟩ := H
  replace H : (if (ji4) = 0 then ((wide_signed.f k t136 t137 t138).bind fun t139 => (some t139)) else ((wide_shift.f t136 t137 (ji4)).bind fun bt140 => ((wide_shift.f t136 t137 (wrap64 ((ji4) - 1))).bind fun bt142 => (if (Go.bits .and .u64 bt142.2 1) = 0 then (wide_MulShift.j0 k t138 bt140.1 bt140.2 true) else (if t138 = true then ((wide_exact.f t136 t137 (wrap64 ((ji4) - 1))).bind fun t144 => (wide_MulShift.j0 k t138 bt140.1 bt140.2 t144)) else (wide_MulShift.j0 k t138 bt140.1 bt140.2 false)))))) = some r := H
  have A6 := Aside0.mk A60
  clear A60
  by_cases c7 : (ji4) = 0
  ·rw [if_pos c7] at H
   have c7b0 : ((ji4) == 0) = true := beq_iff_eq.mpr c7
   have c7b1 : ((ji4) != 0) = false := bne_eq_false_iff_eq.mpr c7
   clear c7
   replace H := Option.bind_eq_some_iff.mp H
   obtain ⟨t139, A80, H⟩ := H
   replace H : (some t139) = some r := H
   have A8 := Aside0.mk A80
   clear A80
   obtain rfl := Option.some.inj H
   go_enter Tryd.func85, Tryd.ntmps85
   go_wp2_with (first | ((with_reducible refine gate_callee (f := 75) rfl ?_); refine goesL_ (some 22) rfl rfl Tryd.func75 (by kernel_rfl) rfl #[.int .i64 a0, .int .i64 a1] rfl (by (try simp only [List.map_toArray, List.map_cons, List.map_nil]); first | done | rfl | (simp only [List.length_drop, List.length_take]; rfl)) ?_; (with_reducible refine (wide_product.calls a0 a1 t136 t137 t138 _ A6.out).mono ?_); rintro e w' ⟨rfl, ⟨nd, rfl⟩⟩; refine ⟨_, rfl, ?_⟩) | ((with_reducible refine gate_callee (f := 77) rfl ?_); refine goesL_ (some 31) rfl rfl Tryd.func77 (by kernel_rfl) rfl #[.int .u64 t136, .int .u64 t137, .bool t138] rfl (by (try simp only [List.map_toArray, List.map_cons, List.map_nil]); first | done | rfl | (simp only [List.length_drop, List.length_take]; rfl)) ?_; (with_reducible refine (wide_signed.calls k t136 t137 t138 t139 _ A8.out).mono ?_); rintro e w' ⟨rfl, ⟨nd, rfl⟩⟩; refine ⟨_, rfl, ?_⟩))
   go_ret
   exact ⟨by first | rfl | (simp [errW_none, errW_some] <;> rfl) | (simp only [← hji4]; first | rfl | (simp [errW_none, errW_some] <;> rfl)) | (simp [*, errW_none, errW_some] <;> rfl), by repeat (first | (with_reducible first | exact HB.out | apply below_alloc | apply pw_below_drewN | apply below_drew1) | exact HB.out)⟩
  ·rw [if_neg c7] at H
   have c7b0 : ((ji4) == 0) = false := beq_eq_false_iff_ne.mpr c7
   have c7b1 : ((ji4) != 0) = true := bne_iff_ne.mpr c7
   replace H := Option.bind_eq_some_iff.mp H
   obtain ⟨⟨t140, t141⟩, A90, H⟩ := H
   replace H : ((wide_shift.f t136 t137 (wrap64 ((ji4) - 1))).bind fun bt142 => (if (Go.bits .and .u64 bt142.2 1) = 0 then (wide_MulShift.j0 k t138 t140 t141 true) else (if t138 = true then ((wide_exact.f t136 t137 (wrap64 ((ji4) - 1))).bind fun t144 => (wide_MulShift.j0 k t138 t140 t141 t144)) else (wide_MulShift.j0 k t138 t140 t141 false)))) = some r := H
   have A9 := Aside0.mk A90
   clear A90
   replace H := Option.bind_eq_some_iff.mp H
   obtain ⟨⟨t142, t143⟩, A100, H⟩ := H
   replace H : (if (Go.bits .and .u64 t143 1) = 0 then (wide_MulShift.j0 k t138 t140 t141 true) else (if t138 = true then ((wide_exact.f t136 t137 (wrap64 ((ji4) - 1))).bind fun t144 => (wide_MulShift.j0 k t138 t140 t141 t144)) else (wide_MulShift.j0 k t138 t140 t141 false))) = some r := H
   have A10 := Aside0.mk A100
   clear A100
   have HC11 := Aside0.mk H
   clear H
   go_enter Tryd.func85, Tryd.ntmps85
   go_upto_region 9 with (first | ((with_reducible refine gate_callee (f := 75) rfl ?_); refine goesL_ (some 22) rfl rfl Tryd.func75 (by kernel_rfl) rfl #[.int .i64 a0, .int .i64 a1] rfl (by (try simp only [List.map_toArray, List.map_cons, List.map_nil]); first | done | rfl | (simp only [List.length_drop, List.length_take]; rfl)) ?_; (with_reducible refine (wide_product.calls a0 a1 t136 t137 t138 _ A6.out).mono ?_); rintro e w' ⟨rfl, ⟨nd, rfl⟩⟩; refine ⟨_, rfl, ?_⟩) | ((with_reducible refine gate_callee (f := 103) rfl ?_); refine goesL_ (some 36) rfl rfl Tryd.func103 (by kernel_rfl) rfl #[.int .u64 t136, .int .u64 t137, .int .i64 ji4] rfl (by (try simp only [List.map_toArray, List.map_cons, List.map_nil]); first | done | (simp only [hji4]; rfl) | (simp only [Int.tdiv_eq_ediv_of_nonneg hji4l]; rfl) | rfl | (simp only [List.length_drop, List.length_take]; rfl)) ?_; (with_reducible refine (wide_shift.calls t136 t137 ji4 t140 t141 _ A9.out).mono ?_); rintro e w' ⟨rfl, ⟨nd, rfl⟩⟩; refine ⟨_, rfl, ?_⟩) | ((with_reducible refine gate_callee (f := 103) rfl ?_); refine goesL_ (some 44) rfl rfl Tryd.func103 (by kernel_rfl) rfl #[.int .u64 t136, .int .u64 t137, .int .i64 (wrap64 ((ji4) - 1))] rfl (by (try simp only [List.map_toArray, List.map_cons, List.map_nil]); first | done | (simp only [hji4]; rfl) | (simp only [Int.tdiv_eq_ediv_of_nonneg hji4l]; rfl) | rfl | (simp only [List.length_drop, List.length_take]; rfl)) ?_; (with_reducible refine (wide_shift.calls t136 t137 (wrap64 ((ji4) - 1)) t142 t143 _ A10.out).mono ?_); rintro e w' ⟨rfl, ⟨nd, rfl⟩⟩; refine ⟨_, rfl, ?_⟩))
   (try simp only [Act.put, List.setIfInBounds_toArray, List.set_cons_zero, List.set_cons_succ])
   go_cut [59] (fun v59 wc => ∃ (kq : Nat) (x59_10 : Bool), v59 = .bool x59_10 ∧ Aside0 (wide_MulShift.j0 kq t138 t140 t141 x59_10 = some r) ∧ Aside0 (kq ≤ k) ∧ Aside0 (Below w.heap.size w wc))
   case first =>
    have H := HC11.out
    clear HC11
    by_cases c12 : (Go.bits .and .u64 t143 1) = 0
    ·rw [if_pos c12] at H
     have c12b0 : ((Go.bits .and .u64 t143 1) == 0) = true := beq_iff_eq.mpr c12
     have c12b1 : ((Go.bits .and .u64 t143 1) != 0) = false := bne_eq_false_iff_eq.mpr c12
     clear c12
     (first | rw [c12b0] | (simp only [i64_w, i32_w]; rw [c12b0]) | skip)
     have H' := Aside0.mk H
     clear H
     go_wp2
     go_meet
     case rel => exact ⟨_, (true), (by first | rfl | (simp; done) | (simp [*]; done)), H', ⟨by first | omega | exact Nat.le_refl _⟩, ⟨by repeat (first | (with_reducible first | exact HB.out | apply below_alloc | apply pw_below_drewN | apply below_drew1) | exact HB.out)⟩⟩
    ·rw [if_neg c12] at H
     have c12b0 : ((Go.bits .and .u64 t143 1) == 0) = false := beq_eq_false_iff_ne.mpr c12
     have c12b1 : ((Go.bits .and .u64 t143 1) != 0) = true := bne_iff_ne.mpr c12
     (first | rw [c12b0] | (simp only [i64_w, i32_w]; rw [c12b0]) | skip)
     by_cases c13 : t138 = true
     ·subst c13
      have H1 : ((wide_exact.f t136 t137 (wrap64 ((ji4) - 1))).bind fun t144 => (wide_MulShift.j0 k true t140 t141 t144)) = some r := by rw [if_pos rfl] at H; exact H
      clear H
      have H := H1
      clear H1
      replace H := Option.bind_eq_some_iff.mp H
      obtain ⟨t144, A140, H⟩ := H
      replace H : (wide_MulShift.j0 k true t140 t141 t144) = some r := H
      have A14 := Aside0.mk A140
      clear A140
      have H' := Aside0.mk H
      clear H
      go_wp2_with (first | (go_at_call 104; (with_reducible refine (wide_exact.calls t136 t137 (wrap64 ((ji4) - 1)) t144 _ A14.out).mono ?_); rintro e w' ⟨rfl, ⟨nd, rfl⟩⟩))
      go_meet
      case rel => exact ⟨_, (t144), (by first | rfl | (simp; done) | (simp [*]; done)), H', ⟨by first | omega | exact Nat.le_refl _⟩, ⟨by repeat (first | (with_reducible first | exact HB.out | apply below_alloc | apply pw_below_drewN | apply below_drew1) | exact HB.out)⟩⟩
     ·replace c13 := Bool.eq_false_iff.mpr c13
      subst c13
      have H1 : (wide_MulShift.j0 k false t140 t141 false) = some r := by rw [if_neg (show ¬ (false = true) by decide)] at H; exact H
      clear H
      have H := H1
      clear H1
      have H' := Aside0.mk H
      clear H
      go_wp2
      go_meet
      case rel => exact ⟨_, (false), (by first | rfl | (simp; done) | (simp [*]; done)), H', ⟨by first | omega | exact Nat.le_refl _⟩, ⟨by repeat (first | (with_reducible first | exact HB.out | apply below_alloc | apply pw_below_drewN | apply below_drew1) | exact HB.out)⟩⟩
   case rest =>
    clear HC11
    try clear c1
    try clear p2
    try clear c5
    try clear c5b0
    try clear p6
    try clear c7
    try clear c7b0
    try clear c7b1
    try clear c8
    try clear c10
    try clear c12
    try clear c12b0
    try clear c12b1
    try clear c13
    obtain ⟨kq, x59_10, rfl, HA, HJ10, HB⟩ := hcut
    cases kq with
    | zero => exact absurd HA.out (by simp [wide_MulShift.j0])
    | succ kj10 =>
     have H := HA.out
     clear HA
     simp only [wide_MulShift.j0] at H
     by_cases c15 : x59_10 = true
     ·subst c15
      have H1 : ((wide_signed.f kj10 t140 t141 t138).bind fun t145 => (some t145)) = some r := by rw [if_pos rfl] at H; exact H
      clear H
      have H := H1
      clear H1
      replace H := Option.bind_eq_some_iff.mp H
      obtain ⟨t145, A160, H⟩ := H
      replace H : (some t145) = some r := H
      have A16 := Aside0.mk A160
      clear A160
      obtain rfl := Option.some.inj H
      go_wp2_with (first | ((with_reducible refine gate_callee (f := 77) rfl ?_); refine goesL_ (some 63) rfl rfl Tryd.func77 (by kernel_rfl) rfl #[.int .u64 t140, .int .u64 t141, .bool t138] rfl (by (try simp only [List.map_toArray, List.map_cons, List.map_nil]); first | done | rfl | (simp only [List.length_drop, List.length_take]; rfl)) ?_; (with_reducible refine (wide_signed.calls kj10 t140 t141 t138 t145 _ A16.out).mono ?_); rintro e w' ⟨rfl, ⟨nd, rfl⟩⟩; refine ⟨_, rfl, ?_⟩))
      go_ret
      exact ⟨by first | rfl | (simp [errW_none, errW_some] <;> rfl) | (simp only [← hji4]; first | rfl | (simp [errW_none, errW_some] <;> rfl)) | (simp [*, errW_none, errW_some] <;> rfl), by repeat (first | (with_reducible first | exact HB.out | apply below_alloc | apply pw_below_drewN | apply below_drew1) | exact HB.out)⟩
     ·replace c15 := Bool.eq_false_iff.mpr c15
      subst c15
      have H1 : ((wide_signed.f kj10 (IntKind.u64.wrap (t140 + (add64c t141 1 0))) (add64s t141 1 0) t138).bind fun t146 => (some t146)) = some r := by rw [if_neg (show ¬ (false = true) by decide)] at H; exact H
      clear H
      have H := H1
      clear H1
      replace H := Option.bind_eq_some_iff.mp H
      obtain ⟨t146, A170, H⟩ := H
      replace H : (some t146) = some r := H
      have A17 := Aside0.mk A170
      clear A170
      obtain rfl := Option.some.inj H
      go_wp2_with (first | ((with_reducible refine gate_callee (f := 77) rfl ?_); refine goesL_ (some 74) rfl rfl Tryd.func77 (by kernel_rfl) rfl #[.int .u64 (IntKind.u64.wrap (t140 + (add64c t141 1 0))), .int .u64 (add64s t141 1 0), .bool t138] rfl (by (try simp only [List.map_toArray, List.map_cons, List.map_nil]); first | done | rfl | (simp only [List.length_drop, List.length_take]; rfl)) ?_; (with_reducible refine (wide_signed.calls kj10 (IntKind.u64.wrap (t140 + (add64c t141 1 0))) (add64s t141 1 0) t138 t146 _ A17.out).mono ?_); rintro e w' ⟨rfl, ⟨nd, rfl⟩⟩; refine ⟨_, rfl, ?_⟩))
      go_ret
      exact ⟨by first | rfl | (simp [errW_none, errW_some] <;> rfl) | (simp only [← hji4]; first | rfl | (simp [errW_none, errW_some] <;> rfl)) | (simp [*, errW_none, errW_some] <;> rfl), by repeat (first | (with_reducible first | exact HB.out | apply below_alloc | apply pw_below_drewN | apply below_drew1) | exact HB.out)⟩

/-! ### sinc_series: function 86 -/
def sinc_series.l0 : Nat → Int → Int → Int → Int → Int → Option (Int)
 | 0, _, _, _, _, _ => none
 | k + 1, x5, x6, x7, x8, x9 => if x9 ≤ 30 then ((wide_MulDiv.f k x7 x5 (wrap64 ((wrap64 ((wrap64 (2 * x9)) * (wrap64 ((wrap64 (2 * x9)) + 1)))) * 1099511627776))).bind fun t150 => (sinc_series.l0 k x5 (wrap64 (x6 + (wrap64 ((wrap64 (-x8)) * t150)))) t150 (wrap64 (-x8)) (wrap64 (x9 + 1)))) else (some x6)
def sinc_series.f (k : Nat) (a0 : Int) (a1 : Int) : Option (Int) := (sinc_size.f a0).bind fun t147 => ((wide_MulDiv.f k 10851744800547 t147 a1).bind fun t148 => ((wide_MulDiv.f k t148 t147 a1).bind fun t149 => (sinc_series.l0 k t149 1099511627776 1099511627776 1 1)))
theorem sinc_series.mono_l : ∀ k, (∀ y0 y1 y2 y3 y4, LeO (sinc_series.l0 k y0 y1 y2 y3 y4) (sinc_series.l0 (k + 1) y0 y1 y2 y3 y4))
 | 0 => fun _ _ _ _ _ r h => by simp [sinc_series.l0] at h
 | k + 1 => by
  have ih0 := sinc_series.mono_l k
  ·intro y0 y1 y2 y3 y4
   unfold sinc_series.l0
   repeat' first
   | (with_reducible exact ih0 _ _ _ _ _)
   | (with_reducible exact wide_MulDiv.mono _ _ _ _)
   | (with_reducible exact LeO.refl _)
   | (with_reducible exact LeO.none _)
   | (with_reducible refine LeO.ite ?_ ?_)
   | (with_reducible refine LeO.bind ?_ (fun _ => ?_))
   | exact ih0 _ _ _ _ _
   | exact wide_MulDiv.mono _ _ _ _
   | exact LeO.none _
   | refine LeO.ite ?_ ?_
   | refine LeO.bind ?_ (fun _ => ?_)
theorem sinc_series.mono : ∀ a0 a1 k, LeO (sinc_series.f k a0 a1) (sinc_series.f (k + 1) a0 a1) := by
 intro a0 a1 k
 have ih0 := sinc_series.mono_l k
 unfold sinc_series.f
 repeat' first
   | (with_reducible exact ih0 _ _ _ _ _)
   | (with_reducible exact wide_MulDiv.mono _ _ _ _)
   | (with_reducible exact LeO.refl _)
   | (with_reducible exact LeO.none _)
   | (with_reducible refine LeO.ite ?_ ?_)
   | (with_reducible refine LeO.bind ?_ (fun _ => ?_))
   | exact ih0 _ _ _ _ _
   | exact wide_MulDiv.mono _ _ _ _
   | exact LeO.none _
   | refine LeO.ite ?_ ?_
   | refine LeO.bind ?_ (fun _ => ?_)
set_option maxHeartbeats 8000000 in
set_option maxRecDepth 100000 in
theorem sinc_series.calls (k : Nat) (a0 : Int) (a1 : Int) (r : Int) (w : World) (h : sinc_series.f k a0 a1 = some r) :
  Calls Tryd.prog 86 #[.int .i64 a0, .int .i64 a1] w fun e w' => e = .returned (.int .i64 r) ∧ Below w.heap.size w w' := by
 have HB := Aside0.mk (Below.refl w.heap.size w)
 have H : ((sinc_size.f a0).bind fun t147 => ((wide_MulDiv.f k 10851744800547 t147 a1).bind fun t148 => ((wide_MulDiv.f k t148 t147 a1).bind fun t149 => (sinc_series.l0 k t149 1099511627776 1099511627776 1 1)))) = some r := h
 clear h
 replace H := Option.bind_eq_some_iff.mp H
 obtain ⟨t147, A30, H⟩ := H
 replace H : ((wide_MulDiv.f k 10851744800547 t147 a1).bind fun t148 => ((wide_MulDiv.f k t148 t147 a1).bind fun t149 => (sinc_series.l0 k t149 1099511627776 1099511627776 1 1))) = some r := H
 have A3 := Aside0.mk A30
 clear A30
 replace H := Option.bind_eq_some_iff.mp H
 obtain ⟨t148, A40, H⟩ := H
 replace H : ((wide_MulDiv.f k t148 t147 a1).bind fun t149 => (sinc_series.l0 k t149 1099511627776 1099511627776 1 1)) = some r := H
 have A4 := Aside0.mk A40
 clear A40
 replace H := Option.bind_eq_some_iff.mp H
 obtain ⟨t149, A50, H⟩ := H
 replace H : (sinc_series.l0 k t149 1099511627776 1099511627776 1 1) = some r := H
 have A5 := Aside0.mk A50
 clear A50
 have H' := Aside0.mk H
 clear H
 go_enter Tryd.func86, Tryd.ntmps86
 go_wp2_with (first | ((with_reducible refine gate_callee (f := 84) rfl ?_); refine goesL_ (some 11) rfl rfl Tryd.func84 (by kernel_rfl) rfl #[.int .i64 a0] rfl (by (try simp only [List.map_toArray, List.map_cons, List.map_nil]); first | done | rfl | (simp only [List.length_drop, List.length_take]; rfl)) ?_; (with_reducible refine (sinc_size.calls a0 t147 _ A3.out).mono ?_); rintro e w6 ⟨rfl, hb⟩; refine ⟨_, rfl, ?_⟩; have n0_ := Aside0.mk (below_step (by repeat (first | (with_reducible first | exact HB.out | apply below_alloc | apply pw_below_drewN | apply below_drew1) | exact HB.out)) hb); clear HB; have HB := n0_; clear n0_; (try clear hb); (try clear hb2); (try clear hk); (try clear hi)) | ((with_reducible refine gate_callee (f := 54) rfl ?_); refine goesL_ (some 14) rfl rfl Tryd.func54 (by kernel_rfl) rfl #[.int .i64 10851744800547, .int .i64 t147, .int .i64 a1] rfl (by (try simp only [List.map_toArray, List.map_cons, List.map_nil]); first | done | rfl | (simp only [List.length_drop, List.length_take]; rfl)) ?_; (with_reducible refine (wide_MulDiv.calls k 10851744800547 t147 a1 t148 _ A4.out).mono ?_); rintro e w' ⟨rfl, ⟨nd, rfl⟩⟩; refine ⟨_, rfl, ?_⟩) | ((with_reducible refine gate_callee (f := 54) rfl ?_); refine goesL_ (some 17) rfl rfl Tryd.func54 (by kernel_rfl) rfl #[.int .i64 t148, .int .i64 t147, .int .i64 a1] rfl (by (try simp only [List.map_toArray, List.map_cons, List.map_nil]); first | done | rfl | (simp only [List.length_drop, List.length_take]; rfl)) ?_; (with_reducible refine (wide_MulDiv.calls k t148 t147 a1 t149 _ A5.out).mono ?_); rintro e w' ⟨rfl, ⟨nd, rfl⟩⟩; refine ⟨_, rfl, ?_⟩))
 go_loopg [6, 7, 8, 9] k (fun kq v6 v7 v8 v9 w' => ∃ (x6_1 : Int) (x7_1 : Int) (x8_1 : Int) (x9_1 : Int), v6 = .int .i64 x6_1 ∧ v7 = .int .i64 x7_1 ∧ v8 = .int .i64 x8_1 ∧ v9 = .int .i64 x9_1 ∧ Aside0 (sinc_series.l0 kq t149 x6_1 x7_1 x8_1 x9_1 = some r) ∧ Aside0 (kq ≤ k) ∧ Aside0 (Below w.heap.size w w'))
 case atStart => exact ⟨(1099511627776), (1099511627776), (1), (1), (by first | rfl | (simp; done) | (simp [*]; done)), (by first | rfl | (simp; done) | (simp [*]; done)), (by first | rfl | (simp; done) | (simp [*]; done)), (by first | rfl | (simp; done) | (simp [*]; done)), H', ⟨Nat.le_refl _⟩, ⟨by repeat (first | (with_reducible first | exact HB.out | apply below_alloc | apply pw_below_drewN | apply below_drew1) | exact HB.out)⟩⟩
 case round =>
  clear H'
  try clear p2
  try clear c5
  obtain ⟨x6_1, x7_1, x8_1, x9_1, rfl, rfl, rfl, rfl, HA, HK1, HB⟩ := hrel
  cases gk with
  | zero => exact absurd HA.out (by simp [sinc_series.l0])
  | succ k1 =>
   have H := HA.out
   clear HA
   simp only [sinc_series.l0] at H
   by_cases c7 : x9_1 ≤ 30
   ·rw [if_pos c7] at H
    have c7b0 : decide (x9_1 ≤ 30) = true := decide_eq_true c7
    clear c7
    replace H := Option.bind_eq_some_iff.mp H
    obtain ⟨t150, A80, H⟩ := H
    replace H : (sinc_series.l0 k1 t149 (wrap64 (x6_1 + (wrap64 ((wrap64 (-x8_1)) * t150)))) t150 (wrap64 (-x8_1)) (wrap64 (x9_1 + 1))) = some r := H
    have A8 := Aside0.mk A80
    clear A80
    have H' := Aside0.mk H
    clear H
    go_wp2_with (first | ((with_reducible refine gate_callee (f := 54) rfl ?_); refine goesL_ (some 33) rfl rfl Tryd.func54 (by kernel_rfl) rfl #[.int .i64 x7_1, .int .i64 t149, .int .i64 (wrap64 ((wrap64 ((wrap64 (2 * x9_1)) * (wrap64 ((wrap64 (2 * x9_1)) + 1)))) * 1099511627776))] rfl (by (try simp only [List.map_toArray, List.map_cons, List.map_nil]); first | done | rfl | (simp only [List.length_drop, List.length_take]; rfl)) ?_; (with_reducible refine (wide_MulDiv.calls k1 x7_1 t149 (wrap64 ((wrap64 ((wrap64 (2 * x9_1)) * (wrap64 ((wrap64 (2 * x9_1)) + 1)))) * 1099511627776)) t150 _ A8.out).mono ?_); rintro e w' ⟨rfl, ⟨nd, rfl⟩⟩; refine ⟨_, rfl, ?_⟩))
    go_roundg k1
    case measure => have := HK1.out; omega
    case rel => exact ⟨(wrap64 (x6_1 + (wrap64 ((wrap64 (-x8_1)) * t150)))), (t150), (wrap64 (-x8_1)), (wrap64 (x9_1 + 1)), (by first | rfl | (simp; done) | (simp [*]; done)), (by first | rfl | (simp; done) | (simp [*]; done)), (by first | rfl | (simp; done) | (simp [*]; done)), (by first | rfl | (simp; done) | (simp [*]; done)), H', ⟨by have := HK1.out; omega⟩, ⟨by repeat (first | (with_reducible first | exact HB.out | apply below_alloc | apply pw_below_drewN | apply below_drew1) | exact HB.out)⟩⟩
   ·rw [if_neg c7] at H
    have c7b0 : decide (x9_1 ≤ 30) = false := decide_eq_false c7
    clear c7
    obtain rfl := Option.some.inj H
    go_wp2
    go_ret
    exact ⟨by first | rfl | (simp [errW_none, errW_some] <;> rfl) | (simp [*, errW_none, errW_some] <;> rfl), by repeat (first | (with_reducible first | exact HB.out | apply below_alloc | apply pw_below_drewN | apply below_drew1) | exact HB.out)⟩

end Go.Proofs.YthaajkpiknbdbaaDoor.QA
