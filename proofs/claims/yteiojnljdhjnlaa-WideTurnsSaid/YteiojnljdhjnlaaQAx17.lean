-- Written by wip/tools/pp.py over the kit's print.py; not trusted: Lean checks it.
import Derived.Test.YteiojnljdhjnlaaQAx0
import Derived.Test.YteiojnljdhjnlaaQAx1
import Derived.Test.YteiojnljdhjnlaaQAx3
import Derived.Test.YteiojnljdhjnlaaQAx5
import Derived.Test.YteiojnljdhjnlaaQAx16
namespace Go.Proofs.Yteiojnljdhjnlaa.QA
open Go.Proofs.Yteiojnljdhjnlaa.T
open Go.RowKit Go.Proofs.YteiojnljdhjnlaaW.PrintWords Go.Proofs.YteiojnljdhjnlaaW.PrintLast Go.Proofs.YteiojnljdhjnlaaW.PrintMore
attribute [local go_sem] ext_call max2_int min2_int max_two min_two max_three min_three max_four min_four   -- for this text's walks alone
set_option linter.unusedVariables false
set_option linter.unusedSimpArgs false

attribute [local go_sem high] eqA29
/-! ### wide_MulShift: function 34 -/
def wide_MulShift.j0 : Nat → Bool → Int → Int → Bool → Option (Int)
  | 0, _, _, _, _ => none
  | k + 1, x9, x10, x11, x59 => if x59 = true then ((wide_signed.f k x10 x11 x9).bind fun t256 => (some t256)) else ((wide_signed.f k (IntKind.u64.wrap (x10 + (add64c x11 1 0))) (add64s x11 1 0) x9).bind fun t257 => (some t257))
def wide_MulShift.f (k : Nat) (a0 : Int) (a1 : Int) (a2 : Int) : Option (Int) := if (mx 0 a2) ≥ 128 then (some 0) else ((wide_product.f a0 a1).bind fun bt247 => (if (mx 0 a2) = 0 then ((wide_signed.f k bt247.1 bt247.2.1 bt247.2.2).bind fun t250 => (some t250)) else ((wide_shift.f bt247.1 bt247.2.1 (mx 0 a2)).bind fun bt251 => ((wide_shift.f bt247.1 bt247.2.1 (wrap64 ((mx 0 a2) - 1))).bind fun bt253 => (if (Go.bits .and .u64 bt253.2 1) = 0 then (wide_MulShift.j0 k bt247.2.2 bt251.1 bt251.2 true) else (if bt247.2.2 = true then ((wide_exact.f bt247.1 bt247.2.1 (wrap64 ((mx 0 a2) - 1))).bind fun t255 => (wide_MulShift.j0 k bt247.2.2 bt251.1 bt251.2 t255)) else (wide_MulShift.j0 k bt247.2.2 bt251.1 bt251.2 false)))))))
theorem wide_MulShift.mono_l : ∀ k, (∀ y0 y1 y2 y3, LeO (wide_MulShift.j0 k y0 y1 y2 y3) (wide_MulShift.j0 (k + 1) y0 y1 y2 y3))
  | 0 => fun _ _ _ _ r h => by simp [wide_MulShift.j0] at h
  | k + 1 => by
    have ih0 := wide_MulShift.mono_l k
    · intro y0 y1 y2 y3
      unfold wide_MulShift.j0
      repeat' first
      | (with_reducible exact ih0 _ _ _ _)
      | (with_reducible exact wide_signed.mono _ _ _ _)
      | (with_reducible exact LeO.refl _)
      | (with_reducible exact LeO.none _)
      | (with_reducible refine LeO.ite ?_ ?_)
      | (with_reducible refine LeO.bind ?_ (fun _ => ?_))
      | exact ih0 _ _ _ _
      | exact wide_signed.mono _ _ _ _
      | exact LeO.none _
      | refine LeO.ite ?_ ?_
      | refine LeO.bind ?_ (fun _ => ?_)
theorem wide_MulShift.mono : ∀ a0 a1 a2 k, LeO (wide_MulShift.f k a0 a1 a2) (wide_MulShift.f (k + 1) a0 a1 a2) := by
  intro a0 a1 a2 k
  have ih0 := wide_MulShift.mono_l k
  unfold wide_MulShift.f
  repeat' first
      | (with_reducible exact ih0 _ _ _ _)
      | (with_reducible exact wide_signed.mono _ _ _ _)
      | (with_reducible exact LeO.refl _)
      | (with_reducible exact LeO.none _)
      | (with_reducible refine LeO.ite ?_ ?_)
      | (with_reducible refine LeO.bind ?_ (fun _ => ?_))
      | exact ih0 _ _ _ _
      | exact wide_signed.mono _ _ _ _
      | exact LeO.none _
      | refine LeO.ite ?_ ?_
      | refine LeO.bind ?_ (fun _ => ?_)
set_option maxHeartbeats 8000000 in
set_option maxRecDepth 100000 in
theorem wide_MulShift.calls (k : Nat) (a0 : Int) (a1 : Int) (a2 : Int) (r : Int) (w : World) (h : wide_MulShift.f k a0 a1 a2 = some r) :
    Calls Try.prog 34 #[.int .i64 a0, .int .i64 a1, .int .i64 a2] w fun e w' => e = .returned (.int .i64 r) ∧ Below w.heap.size w w' := by
  have HB := Aside0.mk (Below.refl w.heap.size w)
  have H : (if (mx 0 a2) ≥ 128 then (some 0) else ((wide_product.f a0 a1).bind fun bt247 => (if (mx 0 a2) = 0 then ((wide_signed.f k bt247.1 bt247.2.1 bt247.2.2).bind fun t250 => (some t250)) else ((wide_shift.f bt247.1 bt247.2.1 (mx 0 a2)).bind fun bt251 => ((wide_shift.f bt247.1 bt247.2.1 (wrap64 ((mx 0 a2) - 1))).bind fun bt253 => (if (Go.bits .and .u64 bt253.2 1) = 0 then (wide_MulShift.j0 k bt247.2.2 bt251.1 bt251.2 true) else (if bt247.2.2 = true then ((wide_exact.f bt247.1 bt247.2.1 (wrap64 ((mx 0 a2) - 1))).bind fun t255 => (wide_MulShift.j0 k bt247.2.2 bt251.1 bt251.2 t255)) else (wide_MulShift.j0 k bt247.2.2 bt251.1 bt251.2 false)))))))) = some r := h
  clear h
  obtain ⟨ji4, hji4⟩ : ∃ j_ : Int, (mx 0 a2) = j_ := ⟨_, rfl⟩
  replace H : (if (ji4) ≥ 128 then (some 0) else ((wide_product.f a0 a1).bind fun bt247 => (if (ji4) = 0 then ((wide_signed.f k bt247.1 bt247.2.1 bt247.2.2).bind fun t250 => (some t250)) else ((wide_shift.f bt247.1 bt247.2.1 (ji4)).bind fun bt251 => ((wide_shift.f bt247.1 bt247.2.1 (wrap64 ((ji4) - 1))).bind fun bt253 => (if (Go.bits .and .u64 bt253.2 1) = 0 then (wide_MulShift.j0 k bt247.2.2 bt251.1 bt251.2 true) else (if bt247.2.2 = true then ((wide_exact.f bt247.1 bt247.2.1 (wrap64 ((ji4) - 1))).bind fun t255 => (wide_MulShift.j0 k bt247.2.2 bt251.1 bt251.2 t255)) else (wide_MulShift.j0 k bt247.2.2 bt251.1 bt251.2 false)))))))) = some r := by first | (rw [hji4] at H; exact H) | (simp only [hji4] at H ⊢; exact H)
  (try (have hji4l : 0 ≤ ji4 := by (rw [← hji4]; unfold mx; (repeat' split) <;> omega)))
  (try (have hji4m : 0 ≤ ji4 := by omega))
  have hji4_ : (if 0 < a2 then a2 else 0) = ji4 := hji4
  by_cases c5 : (ji4) ≥ 128
  · rw [if_pos c5] at H
    have c5b0 : decide (128 ≤ (ji4)) = true := decide_eq_true c5
    clear c5
    obtain rfl := Option.some.inj H
    go_enter Try.func34, Try.ntmps34
    go_wp2
    go_ret
    exact ⟨by first | rfl | (simp [errW_none, errW_some] <;> rfl) | (simp only [← hji4]; first | rfl | (simp [errW_none, errW_some] <;> rfl)) | (simp [*, errW_none, errW_some] <;> rfl), by repeat (first | (with_reducible first | exact HB.out | apply below_alloc | apply pw_below_drewN | apply below_drew1) | exact HB.out)⟩
  · rw [if_neg c5] at H
    have c5b0 : decide (128 ≤ (ji4)) = false := decide_eq_false c5
    clear c5
    replace H := Option.bind_eq_some_iff.mp H
    obtain ⟨⟨t247, t248, t249⟩, A60, H⟩ := H
    replace H : (if (ji4) = 0 then ((wide_signed.f k t247 t248 t249).bind fun t250 => (some t250)) else ((wide_shift.f t247 t248 (ji4)).bind fun bt251 => ((wide_shift.f t247 t248 (wrap64 ((ji4) - 1))).bind fun bt253 => (if (Go.bits .and .u64 bt253.2 1) = 0 then (wide_MulShift.j0 k t249 bt251.1 bt251.2 true) else (if t249 = true then ((wide_exact.f t247 t248 (wrap64 ((ji4) - 1))).bind fun t255 => (wide_MulShift.j0 k t249 bt251.1 bt251.2 t255)) else (wide_MulShift.j0 k t249 bt251.1 bt251.2 false)))))) = some r := H
    have A6 := Aside0.mk A60
    clear A60
    by_cases c7 : (ji4) = 0
    · rw [if_pos c7] at H
      have c7b0 : ((ji4) == 0) = true := beq_iff_eq.mpr c7
      have c7b1 : ((ji4) != 0) = false := bne_eq_false_iff_eq.mpr c7
      clear c7
      replace H := Option.bind_eq_some_iff.mp H
      obtain ⟨t250, A80, H⟩ := H
      replace H : (some t250) = some r := H
      have A8 := Aside0.mk A80
      clear A80
      obtain rfl := Option.some.inj H
      go_enter Try.func34, Try.ntmps34
      go_wp2_with (first | ((with_reducible refine gate_callee (f := 40) rfl ?_); refine goesL_ (some 22) rfl rfl Try.func40 (by kernel_rfl) rfl #[.int .i64 a0, .int .i64 a1] rfl (by (try simp only [List.map_toArray, List.map_cons, List.map_nil]); first | done | rfl | (simp only [List.length_drop, List.length_take]; rfl)) ?_; (with_reducible refine (wide_product.calls a0 a1 t247 t248 t249 _ A6.out).mono ?_); rintro e w' ⟨rfl, ⟨nd, rfl⟩⟩; refine ⟨_, rfl, ?_⟩) | ((with_reducible refine gate_callee (f := 42) rfl ?_); refine goesL_ (some 31) rfl rfl Try.func42 (by kernel_rfl) rfl #[.int .u64 t247, .int .u64 t248, .bool t249] rfl (by (try simp only [List.map_toArray, List.map_cons, List.map_nil]); first | done | rfl | (simp only [List.length_drop, List.length_take]; rfl)) ?_; (with_reducible refine (wide_signed.calls k t247 t248 t249 t250 _ A8.out).mono ?_); rintro e w' ⟨rfl, ⟨nd, rfl⟩⟩; refine ⟨_, rfl, ?_⟩))
      go_ret
      exact ⟨by first | rfl | (simp [errW_none, errW_some] <;> rfl) | (simp only [← hji4]; first | rfl | (simp [errW_none, errW_some] <;> rfl)) | (simp [*, errW_none, errW_some] <;> rfl), by repeat (first | (with_reducible first | exact HB.out | apply below_alloc | apply pw_below_drewN | apply below_drew1) | exact HB.out)⟩
    · rw [if_neg c7] at H
      have c7b0 : ((ji4) == 0) = false := beq_eq_false_iff_ne.mpr c7
      have c7b1 : ((ji4) != 0) = true := bne_iff_ne.mpr c7
      replace H := Option.bind_eq_some_iff.mp H
      obtain ⟨⟨t251, t252⟩, A90, H⟩ := H
      replace H : ((wide_shift.f t247 t248 (wrap64 ((ji4) - 1))).bind fun bt253 => (if (Go.bits .and .u64 bt253.2 1) = 0 then (wide_MulShift.j0 k t249 t251 t252 true) else (if t249 = true then ((wide_exact.f t247 t248 (wrap64 ((ji4) - 1))).bind fun t255 => (wide_MulShift.j0 k t249 t251 t252 t255)) else (wide_MulShift.j0 k t249 t251 t252 false)))) = some r := H
      have A9 := Aside0.mk A90
      clear A90
      replace H := Option.bind_eq_some_iff.mp H
      obtain ⟨⟨t253, t254⟩, A100, H⟩ := H
      replace H : (if (Go.bits .and .u64 t254 1) = 0 then (wide_MulShift.j0 k t249 t251 t252 true) else (if t249 = true then ((wide_exact.f t247 t248 (wrap64 ((ji4) - 1))).bind fun t255 => (wide_MulShift.j0 k t249 t251 t252 t255)) else (wide_MulShift.j0 k t249 t251 t252 false))) = some r := H
      have A10 := Aside0.mk A100
      clear A100
      have HC11 := Aside0.mk H
      clear H
      go_enter Try.func34, Try.ntmps34
      go_upto_region 9 with (first | ((with_reducible refine gate_callee (f := 40) rfl ?_); refine goesL_ (some 22) rfl rfl Try.func40 (by kernel_rfl) rfl #[.int .i64 a0, .int .i64 a1] rfl (by (try simp only [List.map_toArray, List.map_cons, List.map_nil]); first | done | rfl | (simp only [List.length_drop, List.length_take]; rfl)) ?_; (with_reducible refine (wide_product.calls a0 a1 t247 t248 t249 _ A6.out).mono ?_); rintro e w' ⟨rfl, ⟨nd, rfl⟩⟩; refine ⟨_, rfl, ?_⟩) | ((with_reducible refine gate_callee (f := 51) rfl ?_); refine goesL_ (some 36) rfl rfl Try.func51 (by kernel_rfl) rfl #[.int .u64 t247, .int .u64 t248, .int .i64 ji4] rfl (by (try simp only [List.map_toArray, List.map_cons, List.map_nil]); first | done | (simp only [hji4]; rfl) | (simp only [Int.tdiv_eq_ediv_of_nonneg hji4l]; rfl) | rfl | (simp only [List.length_drop, List.length_take]; rfl)) ?_; (with_reducible refine (wide_shift.calls t247 t248 ji4 t251 t252 _ A9.out).mono ?_); rintro e w' ⟨rfl, ⟨nd, rfl⟩⟩; refine ⟨_, rfl, ?_⟩) | ((with_reducible refine gate_callee (f := 51) rfl ?_); refine goesL_ (some 44) rfl rfl Try.func51 (by kernel_rfl) rfl #[.int .u64 t247, .int .u64 t248, .int .i64 (wrap64 ((ji4) - 1))] rfl (by (try simp only [List.map_toArray, List.map_cons, List.map_nil]); first | done | (simp only [hji4]; rfl) | (simp only [Int.tdiv_eq_ediv_of_nonneg hji4l]; rfl) | rfl | (simp only [List.length_drop, List.length_take]; rfl)) ?_; (with_reducible refine (wide_shift.calls t247 t248 (wrap64 ((ji4) - 1)) t253 t254 _ A10.out).mono ?_); rintro e w' ⟨rfl, ⟨nd, rfl⟩⟩; refine ⟨_, rfl, ?_⟩))
      (try simp only [Act.put, List.setIfInBounds_toArray, List.set_cons_zero, List.set_cons_succ])
      go_cut [59] (fun v59 wc => ∃ (kq : Nat) (x59_10 : Bool), v59 = .bool x59_10 ∧ Aside0 (wide_MulShift.j0 kq t249 t251 t252 x59_10 = some r) ∧ Aside0 (kq ≤ k) ∧ Aside0 (Below w.heap.size w wc))
      case first =>
        have H := HC11.out
        clear HC11
        by_cases c12 : (Go.bits .and .u64 t254 1) = 0
        · rw [if_pos c12] at H
          have c12b0 : ((Go.bits .and .u64 t254 1) == 0) = true := beq_iff_eq.mpr c12
          have c12b1 : ((Go.bits .and .u64 t254 1) != 0) = false := bne_eq_false_iff_eq.mpr c12
          clear c12
          (first | rw [c12b0] | (simp only [i64_w, i32_w]; rw [c12b0]) | skip)
          have H' := Aside0.mk H
          clear H
          go_wp2
          go_meet
          case rel => exact ⟨_, (true), (by first | rfl | (simp; done) | (simp [*]; done)), H', ⟨by first | omega | exact Nat.le_refl _⟩, ⟨by repeat (first | (with_reducible first | exact HB.out | apply below_alloc | apply pw_below_drewN | apply below_drew1) | exact HB.out)⟩⟩
        · rw [if_neg c12] at H
          have c12b0 : ((Go.bits .and .u64 t254 1) == 0) = false := beq_eq_false_iff_ne.mpr c12
          have c12b1 : ((Go.bits .and .u64 t254 1) != 0) = true := bne_iff_ne.mpr c12
          (first | rw [c12b0] | (simp only [i64_w, i32_w]; rw [c12b0]) | skip)
          by_cases c13 : t249 = true
          · subst c13
            have H1 : ((wide_exact.f t247 t248 (wrap64 ((ji4) - 1))).bind fun t255 => (wide_MulShift.j0 k true t251 t252 t255)) = some r := by rw [if_pos rfl] at H; exact H
            clear H
            have H := H1
            clear H1
            replace H := Option.bind_eq_some_iff.mp H
            obtain ⟨t255, A140, H⟩ := H
            replace H : (wide_MulShift.j0 k true t251 t252 t255) = some r := H
            have A14 := Aside0.mk A140
            clear A140
            have H' := Aside0.mk H
            clear H
            go_wp2_with (first | (go_at_call 52; (with_reducible refine (wide_exact.calls t247 t248 (wrap64 ((ji4) - 1)) t255 _ A14.out).mono ?_); rintro e w' ⟨rfl, ⟨nd, rfl⟩⟩))
            go_meet
            case rel => exact ⟨_, (t255), (by first | rfl | (simp; done) | (simp [*]; done)), H', ⟨by first | omega | exact Nat.le_refl _⟩, ⟨by repeat (first | (with_reducible first | exact HB.out | apply below_alloc | apply pw_below_drewN | apply below_drew1) | exact HB.out)⟩⟩
          · replace c13 := Bool.eq_false_iff.mpr c13
            subst c13
            have H1 : (wide_MulShift.j0 k false t251 t252 false) = some r := by rw [if_neg (show ¬ (false = true) by decide)] at H; exact H
            clear H
            have H := H1
            clear H1
            have H' := Aside0.mk H
            clear H
            go_wp2
            go_meet
            case rel => exact ⟨_, (false), (by first | rfl | (simp; done) | (simp [*]; done)), H', ⟨by first | omega | exact Nat.le_refl _⟩, ⟨by repeat (first | (with_reducible first | exact HB.out | apply below_alloc | apply pw_below_drewN | apply below_drew1) | exact HB.out)⟩⟩
      case rest =>
        clear HC11
        try clear c1
        try clear p2
        try clear c3
        try clear c4
        try clear c5
        try clear c5b0
        try clear p6
        try clear c7
        try clear c7b0
        try clear c7b1
        try clear c12
        try clear c12b0
        try clear c12b1
        try clear c13
        obtain ⟨kq, x59_10, rfl, HA, HJ10, HB⟩ := hcut
        cases kq with
        | zero => exact absurd HA.out (by simp [wide_MulShift.j0])
        | succ kj10 =>
          have H := HA.out
          clear HA
          simp only [wide_MulShift.j0] at H
          by_cases c15 : x59_10 = true
          · subst c15
            have H1 : ((wide_signed.f kj10 t251 t252 t249).bind fun t256 => (some t256)) = some r := by rw [if_pos rfl] at H; exact H
            clear H
            have H := H1
            clear H1
            replace H := Option.bind_eq_some_iff.mp H
            obtain ⟨t256, A160, H⟩ := H
            replace H : (some t256) = some r := H
            have A16 := Aside0.mk A160
            clear A160
            obtain rfl := Option.some.inj H
            go_wp2_with (first | ((with_reducible refine gate_callee (f := 42) rfl ?_); refine goesL_ (some 63) rfl rfl Try.func42 (by kernel_rfl) rfl #[.int .u64 t251, .int .u64 t252, .bool t249] rfl (by (try simp only [List.map_toArray, List.map_cons, List.map_nil]); first | done | rfl | (simp only [List.length_drop, List.length_take]; rfl)) ?_; (with_reducible refine (wide_signed.calls kj10 t251 t252 t249 t256 _ A16.out).mono ?_); rintro e w' ⟨rfl, ⟨nd, rfl⟩⟩; refine ⟨_, rfl, ?_⟩))
            go_ret
            exact ⟨by first | rfl | (simp [errW_none, errW_some] <;> rfl) | (simp only [← hji4]; first | rfl | (simp [errW_none, errW_some] <;> rfl)) | (simp [*, errW_none, errW_some] <;> rfl), by repeat (first | (with_reducible first | exact HB.out | apply below_alloc | apply pw_below_drewN | apply below_drew1) | exact HB.out)⟩
          · replace c15 := Bool.eq_false_iff.mpr c15
            subst c15
            have H1 : ((wide_signed.f kj10 (IntKind.u64.wrap (t251 + (add64c t252 1 0))) (add64s t252 1 0) t249).bind fun t257 => (some t257)) = some r := by rw [if_neg (show ¬ (false = true) by decide)] at H; exact H
            clear H
            have H := H1
            clear H1
            replace H := Option.bind_eq_some_iff.mp H
            obtain ⟨t257, A170, H⟩ := H
            replace H : (some t257) = some r := H
            have A17 := Aside0.mk A170
            clear A170
            obtain rfl := Option.some.inj H
            go_wp2_with (first | ((with_reducible refine gate_callee (f := 42) rfl ?_); refine goesL_ (some 74) rfl rfl Try.func42 (by kernel_rfl) rfl #[.int .u64 (IntKind.u64.wrap (t251 + (add64c t252 1 0))), .int .u64 (add64s t252 1 0), .bool t249] rfl (by (try simp only [List.map_toArray, List.map_cons, List.map_nil]); first | done | rfl | (simp only [List.length_drop, List.length_take]; rfl)) ?_; (with_reducible refine (wide_signed.calls kj10 (IntKind.u64.wrap (t251 + (add64c t252 1 0))) (add64s t252 1 0) t249 t257 _ A17.out).mono ?_); rintro e w' ⟨rfl, ⟨nd, rfl⟩⟩; refine ⟨_, rfl, ?_⟩))
            go_ret
            exact ⟨by first | rfl | (simp [errW_none, errW_some] <;> rfl) | (simp only [← hji4]; first | rfl | (simp [errW_none, errW_some] <;> rfl)) | (simp [*, errW_none, errW_some] <;> rfl), by repeat (first | (with_reducible first | exact HB.out | apply below_alloc | apply pw_below_drewN | apply below_drew1) | exact HB.out)⟩

/-! ### smaltolaw02_lives: function 18 -/
def smaltolaw02_lives.f (k : Nat)  : Option (Bool) := (wide_Product.f (-1) 1).bind fun bt258 => (if (bt258.1 == (-1) && (bt258.2 == 18446744073709551615)) = true then ((wide_MulDiv.f k 7 3 (-2)).bind fun t260 => (if t260 = (-10) then ((wide_MulShift.f k 3 1 1).bind fun t261 => (some (t261 == 2))) else (some false))) else (some false))
theorem smaltolaw02_lives.mono : ∀ k, LeO (smaltolaw02_lives.f k ) (smaltolaw02_lives.f (k + 1) ) := by
  intro  k
  unfold smaltolaw02_lives.f
  repeat' first
      | (with_reducible exact wide_MulDiv.mono _ _ _ _)
      | (with_reducible exact wide_MulShift.mono _ _ _ _)
      | (with_reducible exact LeO.refl _)
      | (with_reducible exact LeO.none _)
      | (with_reducible refine LeO.ite ?_ ?_)
      | (with_reducible refine LeO.bind ?_ (fun _ => ?_))
      | exact wide_MulDiv.mono _ _ _ _
      | exact wide_MulShift.mono _ _ _ _
      | exact LeO.none _
      | refine LeO.ite ?_ ?_
      | refine LeO.bind ?_ (fun _ => ?_)
set_option maxHeartbeats 8000000 in
set_option maxRecDepth 100000 in
theorem smaltolaw02_lives.calls (k : Nat)  (r : Bool) (w : World) (h : smaltolaw02_lives.f k  = some r) :
    Calls Try.prog 18 #[] w fun e w' => e = .returned (.bool r) ∧ Below w.heap.size w w' := by
  have hu29 := Try.underlying29
  have HB := Aside0.mk (Below.refl w.heap.size w)
  have H : ((wide_Product.f (-1) 1).bind fun bt258 => (if (bt258.1 == (-1) && (bt258.2 == 18446744073709551615)) = true then ((wide_MulDiv.f k 7 3 (-2)).bind fun t260 => (if t260 = (-10) then ((wide_MulShift.f k 3 1 1).bind fun t261 => (some (t261 == 2))) else (some false))) else (some false))) = some r := h
  clear h
  replace H := Option.bind_eq_some_iff.mp H
  obtain ⟨⟨t258, t259⟩, A10, H⟩ := H
  replace H : (if (t258 == (-1) && (t259 == 18446744073709551615)) = true then ((wide_MulDiv.f k 7 3 (-2)).bind fun t260 => (if t260 = (-10) then ((wide_MulShift.f k 3 1 1).bind fun t261 => (some (t261 == 2))) else (some false))) else (some false)) = some r := H
  have A1 := Aside0.mk A10
  clear A10
  by_cases c2 : (t258 == (-1) && (t259 == 18446744073709551615)) = true
  · rw [if_pos c2] at H
    have c2b0 : (t258 == (-1) && (t259 == 18446744073709551615)) = true := c2
    (try (have c2b1 : decide (t258 = (-1) && (t259 == 18446744073709551615)) = true := by simpa using c2))
    (try (have c2b2 : (t258 == (-1) && (t259 == 18446744073709551615)) = true := by simpa using c2))
    clear c2
    replace H := Option.bind_eq_some_iff.mp H
    obtain ⟨t260, A30, H⟩ := H
    replace H : (if t260 = (-10) then ((wide_MulShift.f k 3 1 1).bind fun t261 => (some (t261 == 2))) else (some false)) = some r := H
    have A3 := Aside0.mk A30
    clear A30
    by_cases c4 : t260 = (-10)
    · rw [if_pos c4] at H
      have c4b0 : (t260 == (-10)) = true := beq_iff_eq.mpr c4
      have c4b1 : (t260 != (-10)) = false := bne_eq_false_iff_eq.mpr c4
      clear c4
      replace H := Option.bind_eq_some_iff.mp H
      obtain ⟨t261, A50, H⟩ := H
      replace H : (some (t261 == 2)) = some r := H
      have A5 := Aside0.mk A50
      clear A50
      obtain rfl := Option.some.inj H
      go_enter Try.func18, Try.ntmps18
      go_wp2_with (first | ((with_reducible refine gate_callee (f := 19) rfl ?_); refine goesL_ (some 1) rfl rfl Try.func19 (by kernel_rfl) rfl #[.int .i64 (-1), .int .i64 1] rfl (by (try simp only [List.map_toArray, List.map_cons, List.map_nil]); first | done | rfl | (simp only [List.length_drop, List.length_take]; rfl)) ?_; (with_reducible refine (wide_Product.calls (-1) 1 t258 t259 _ A1.out).mono ?_); rintro e w6 ⟨rfl, hb⟩; refine ⟨_, rfl, ?_⟩; have n0_ := Aside0.mk (below_step (by repeat (first | (with_reducible first | exact HB.out | apply below_alloc | apply pw_below_drewN | apply below_drew1) | exact HB.out)) hb); clear HB; have HB := n0_; clear n0_; (try clear hb); (try clear hb2); (try clear hk); (try clear hi)) | (go_at_call 21; (with_reducible refine (wide_MulDiv.calls k 7 3 (-2) t260 _ A3.out).mono ?_); rintro e w' ⟨rfl, ⟨nd, rfl⟩⟩) | (go_at_call 34; (with_reducible refine (wide_MulShift.calls k 3 1 1 t261 _ A5.out).mono ?_); rintro e w7 ⟨rfl, hb⟩; have n0_ := Aside0.mk (below_step (by repeat (first | (with_reducible first | exact HB.out | apply below_alloc | apply pw_below_drewN | apply below_drew1) | exact HB.out)) hb); clear HB; have HB := n0_; clear n0_; (try clear hb); (try clear hb2); (try clear hk); (try clear hi)))
      go_ret
      exact ⟨by first | rfl | (simp [errW_none, errW_some] <;> rfl) | (simp [*, errW_none, errW_some] <;> rfl), by repeat (first | (with_reducible first | exact HB.out | apply below_alloc | apply pw_below_drewN | apply below_drew1) | exact HB.out)⟩
    · rw [if_neg c4] at H
      have c4b0 : (t260 == (-10)) = false := beq_eq_false_iff_ne.mpr c4
      have c4b1 : (t260 != (-10)) = true := bne_iff_ne.mpr c4
      obtain rfl := Option.some.inj H
      go_enter Try.func18, Try.ntmps18
      go_wp2_with (first | ((with_reducible refine gate_callee (f := 19) rfl ?_); refine goesL_ (some 1) rfl rfl Try.func19 (by kernel_rfl) rfl #[.int .i64 (-1), .int .i64 1] rfl (by (try simp only [List.map_toArray, List.map_cons, List.map_nil]); first | done | rfl | (simp only [List.length_drop, List.length_take]; rfl)) ?_; (with_reducible refine (wide_Product.calls (-1) 1 t258 t259 _ A1.out).mono ?_); rintro e w8 ⟨rfl, hb⟩; refine ⟨_, rfl, ?_⟩; have n0_ := Aside0.mk (below_step (by repeat (first | (with_reducible first | exact HB.out | apply below_alloc | apply pw_below_drewN | apply below_drew1) | exact HB.out)) hb); clear HB; have HB := n0_; clear n0_; (try clear hb); (try clear hb2); (try clear hk); (try clear hi)) | (go_at_call 21; (with_reducible refine (wide_MulDiv.calls k 7 3 (-2) t260 _ A3.out).mono ?_); rintro e w' ⟨rfl, ⟨nd, rfl⟩⟩))
      go_ret
      exact ⟨by first | rfl | (simp [errW_none, errW_some] <;> rfl) | (simp [*, errW_none, errW_some] <;> rfl), by repeat (first | (with_reducible first | exact HB.out | apply below_alloc | apply pw_below_drewN | apply below_drew1) | exact HB.out)⟩
  · rw [if_neg c2] at H
    have c2b0 : (t258 == (-1) && (t259 == 18446744073709551615)) = false := by simpa using c2
    (try (have c2b1 : decide (t258 = (-1) && (t259 == 18446744073709551615)) = false := by simpa using c2))
    (try (have c2b2 : (t258 == (-1) && (t259 == 18446744073709551615)) = false := by simpa using c2))
    (try (have c2b3 : ¬ (t258 = (-1) && (t259 == 18446744073709551615)) := by simpa using c2))
    clear c2
    obtain rfl := Option.some.inj H
    go_enter Try.func18, Try.ntmps18
    go_wp2_with (first | ((with_reducible refine gate_callee (f := 19) rfl ?_); refine goesL_ (some 1) rfl rfl Try.func19 (by kernel_rfl) rfl #[.int .i64 (-1), .int .i64 1] rfl (by (try simp only [List.map_toArray, List.map_cons, List.map_nil]); first | done | rfl | (simp only [List.length_drop, List.length_take]; rfl)) ?_; (with_reducible refine (wide_Product.calls (-1) 1 t258 t259 _ A1.out).mono ?_); rintro e w9 ⟨rfl, hb⟩; refine ⟨_, rfl, ?_⟩; have n0_ := Aside0.mk (below_step (by repeat (first | (with_reducible first | exact HB.out | apply below_alloc | apply pw_below_drewN | apply below_drew1) | exact HB.out)) hb); clear HB; have HB := n0_; clear n0_; (try clear hb); (try clear hb2); (try clear hk); (try clear hi)))
    go_ret
    exact ⟨by first | rfl | (simp [errW_none, errW_some] <;> rfl) | (simp [*, errW_none, errW_some] <;> rfl), by repeat (first | (with_reducible first | exact HB.out | apply below_alloc | apply pw_below_drewN | apply below_drew1) | exact HB.out)⟩

end Go.Proofs.Yteiojnljdhjnlaa.QA
