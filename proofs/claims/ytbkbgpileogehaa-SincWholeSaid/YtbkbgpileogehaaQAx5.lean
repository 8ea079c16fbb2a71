-- Written by wip/tools/pp.py over the kit's print.py; not trusted: Lean checks it.
import Derived.Test.YtbkbgpileogehaaQAx0
import Derived.Test.YtbkbgpileogehaaQAx1
import Derived.Test.YtbkbgpileogehaaQAx3
import Derived.Test.YtbkbgpileogehaaQAx4
namespace Go.Proofs.Ytbkbgpileogehaa.QA
open Go.Proofs.Ytbkbgpileogehaa.T
open Go.RowKit Go.Proofs.YtbkbgpileogehaaW.PrintWords Go.Proofs.YtbkbgpileogehaaW.PrintLast Go.Proofs.YtbkbgpileogehaaW.PrintMore
attribute [local go_sem] ext_call max2_int min2_int max_two min_two max_three min_three max_four min_four   -- for this text's walks alone
set_option linter.unusedVariables false
set_option linter.unusedSimpArgs false

/-! ### wide_MulShift: function 17 -/
def wide_MulShift.j0 : Nat → Bool → Int → Int → Bool → Option (Int)
  | 0, _, _, _, _ => none
  | k + 1, x9, x10, x11, x59 => if x59 = true then ((wide_signed.f k x10 x11 x9).bind fun t130 => (some t130)) else ((wide_signed.f k (IntKind.u64.wrap (x10 + (add64c x11 1 0))) (add64s x11 1 0) x9).bind fun t131 => (some t131))
def wide_MulShift.f (k : Nat) (a0 : Int) (a1 : Int) (a2 : Int) : Option (Int) := if (mx 0 a2) ≥ 128 then (some 0) else ((wide_product.f a0 a1).bind fun bt121 => (if (mx 0 a2) = 0 then ((wide_signed.f k bt121.1 bt121.2.1 bt121.2.2).bind fun t124 => (some t124)) else ((wide_shift.f bt121.1 bt121.2.1 (mx 0 a2)).bind fun bt125 => ((wide_shift.f bt121.1 bt121.2.1 (wrap64 ((mx 0 a2) - 1))).bind fun bt127 => (if (Go.bits .and .u64 bt127.2 1) = 0 then (wide_MulShift.j0 k bt121.2.2 bt125.1 bt125.2 true) else (if bt121.2.2 = true then ((wide_exact.f bt121.1 bt121.2.1 (wrap64 ((mx 0 a2) - 1))).bind fun t129 => (wide_MulShift.j0 k bt121.2.2 bt125.1 bt125.2 t129)) else (wide_MulShift.j0 k bt121.2.2 bt125.1 bt125.2 false)))))))
theorem wide_MulShift.mono_l : ∀ k, (∀ y0 y1 y2 y3, LeO (wide_MulShift.j0 k y0 y1 y2 y3) (wide_MulShift.j0 (k + 1) y0 y1 y2 y3))
  | 0 => fun _ _ _ _ r h => by simp [wide_MulShift.j0] at h
  | k + 1 => by
    have ih0 := wide_MulShift.mono_l k
    · intro y0 y1 y2 y3
      unfold wide_MulShift.j0
      repeat' first
      | (with_reducible exact ih0 _ _ _ _)
      | (with_reducible exact wide_signed.mono _ _ _ _)
      | (with_reducible exact LeO.refl _)
      | (with_reducible exact LeO.none _)
      | (with_reducible refine LeO.ite ?_ ?_)
      | (with_reducible refine LeO.bind ?_ (fun _ => ?_))
      | exact ih0 _ _ _ _
      | exact wide_signed.mono _ _ _ _
      | exact LeO.none _
      | refine LeO.ite ?_ ?_
      | refine LeO.bind ?_ (fun _ => ?_)
theorem wide_MulShift.mono : ∀ a0 a1 a2 k, LeO (wide_MulShift.f k a0 a1 a2) (wide_MulShift.f (k + 1) a0 a1 a2) := by
  intro a0 a1 a2 k
  have ih0 := wide_MulShift.mono_l k
  unfold wide_MulShift.f
  repeat' first
      | (with_reducible exact ih0 _ _ _ _)
      | (with_reducible exact wide_signed.mono _ _ _ _)
      | (with_reducible exact LeO.refl _)
      | (with_reducible exact LeO.none _)
      | (with_reducible refine LeO.ite ?_ ?_)
      | (with_reducible refine LeO.bind ?_ (fun _ => ?_))
      | exact ih0 _ _ _ _
      | exact wide_signed.mono _ _ _ _
      | exact LeO.none _
      | refine LeO.ite ?_ ?_
      | refine LeO.bind ?_ (fun _ => ?_)
set_option maxHeartbeats 8000000 in
set_option maxRecDepth 100000 in
theorem wide_MulShift.calls (k : Nat) (a0 : Int) (a1 : Int) (a2 : Int) (r : Int) (w : World) (h : wide_MulShift.f k a0 a1 a2 = some r) :
    Calls Try.prog 17 #[.int .i64 a0, .int .i64 a1, .int .i64 a2] w fun e w' => e = .returned (.int .i64 r) ∧ Below w.heap.size w w' := by
  have HB := Aside0.mk (Below.refl w.heap.size w)
  have H : (if (mx 0 a2) ≥ 128 then (some 0) else ((wide_product.f a0 a1).bind fun bt121 => (if (mx 0 a2) = 0 then ((wide_signed.f k bt121.1 bt121.2.1 bt121.2.2).bind fun t124 => (some t124)) else ((wide_shift.f bt121.1 bt121.2.1 (mx 0 a2)).bind fun bt125 => ((wide_shift.f bt121.1 bt121.2.1 (wrap64 ((mx 0 a2) - 1))).bind fun bt127 => (if (Go.bits .and .u64 bt127.2 1) = 0 then (wide_MulShift.j0 k bt121.2.2 bt125.1 bt125.2 true) else (if bt121.2.2 = true then ((wide_exact.f bt121.1 bt121.2.1 (wrap64 ((mx 0 a2) - 1))).bind fun t129 => (wide_MulShift.j0 k bt121.2.2 bt125.1 bt125.2 t129)) else (wide_MulShift.j0 k bt121.2.2 bt125.1 bt125.2 false)))))))) = some r := h
  clear h
  obtain ⟨ji4, hji4⟩ : ∃ j_ : Int, (mx 0 a2) = j_ := ⟨_, rfl⟩
  replace H : (if (ji4) ≥ 128 then (some 0) else ((wide_product.f a0 a1).bind fun bt121 => (if (ji4) = 0 then ((wide_signed.f k bt121.1 bt121.2.1 bt121.2.2).bind fun t124 => (some t124)) else ((wide_shift.f bt121.1 bt121.2.1 (ji4)).bind fun bt125 => ((wide_shift.f bt121.1 bt121.2.1 (wrap64 ((ji4) - 1))).bind fun bt127 => (if (Go.bits .and .u64 bt127.2 1) = 0 then (wide_MulShift.j0 k bt121.2.2 bt125.1 bt125.2 true) else (if bt121.2.2 = true then ((wide_exact.f bt121.1 bt121.2.1 (wrap64 ((ji4) - 1))).bind fun t129 => (wide_MulShift.j0 k bt121.2.2 bt125.1 bt125.2 t129)) else (wide_MulShift.j0 k bt121.2.2 bt125.1 bt125.2 false)))))))) = some r := by first | (rw [hji4] at H; exact H) | (simp only [hji4] at H ⊢; exact H)
  (try (have hji4l : 0 ≤ ji4 := by (rw [← hji4]; unfold mx; (repeat' split) <;> omega)))
  (try (have hji4m : 0 ≤ ji4 := by omega))
  have hji4_ : (if 0 < a2 then a2 else 0) = ji4 := hji4
  by_cases c5 : (ji4) ≥ 128
  · rw [if_pos c5] at H
    have c5b0 : decide (128 ≤ (ji4)) = true := decide_eq_true c5
    clear c5
    obtain rfl := Option.some.inj H
    go_enter Try.func17, Try.ntmps17
    go_wp2
    go_ret
    exact ⟨by first | rfl | (simp [errW_none, errW_some] <;> rfl) | (simp only [← hji4]; first | rfl | (simp [errW_none, errW_some] <;> rfl)) | (simp [*, errW_none, errW_some] <;> rfl), by repeat (first | (with_reducible first | exact HB.out | apply below_alloc | apply pw_below_drewN | apply below_drew1) | exact HB.out)⟩
  · rw [if_neg c5] at H
    have c5b0 : decide (128 ≤ (ji4)) = false := decide_eq_false c5
    clear c5
    replace H := Option.bind_eq_some_iff.mp H
    obtain ⟨⟨t121, t122, t123⟩, A60, H⟩ := H
    replace H : (if (ji4) = 0 then ((wide_signed.f k t121 t122 t123).bind fun t124 => (some t124)) else ((wide_shift.f t121 t122 (ji4)).bind fun bt125 => ((wide_shift.f t121 t122 (wrap64 ((ji4) - 1))).bind fun bt127 => (if (Go.bits .and .u64 bt127.2 1) = 0 then (wide_MulShift.j0 k t123 bt125.1 bt125.2 true) else (if t123 = true then ((wide_exact.f t121 t122 (wrap64 ((ji4) - 1))).bind fun t129 => (wide_MulShift.j0 k t123 bt125.1 bt125.2 t129)) else (wide_MulShift.j0 k t123 bt125.1 bt125.2 false)))))) = some r := H
    have A6 := Aside0.mk A60
    clear A60
    by_cases c7 : (ji4) = 0
    · rw [if_pos c7] at H
      have c7b0 : ((ji4) == 0) = true := beq_iff_eq.mpr c7
      have c7b1 : ((ji4) != 0) = false := bne_eq_false_iff_eq.mpr c7
      clear c7
      replace H := Option.bind_eq_some_iff.mp H
      obtain ⟨t124, A80, H⟩ := H
      replace H : (some t124) = some r := H
      have A8 := Aside0.mk A80
      clear A80
      obtain rfl := Option.some.inj H
      go_enter Try.func17, Try.ntmps17
      go_wp2_with (first | ((with_reducible refine gate_callee (f := 22) rfl ?_); refine goesL_ (some 22) rfl rfl Try.func22 (by kernel_rfl) rfl #[.int .i64 a0, .int .i64 a1] rfl (by (try simp only [List.map_toArray, List.map_cons, List.map_nil]); first | done | rfl | (simp only [List.length_drop, List.length_take]; rfl)) ?_; (with_reducible refine (wide_product.calls a0 a1 t121 t122 t123 _ A6.out).mono ?_); rintro e w' ⟨rfl, ⟨nd, rfl⟩⟩; refine ⟨_, rfl, ?_⟩) | ((with_reducible refine gate_callee (f := 23) rfl ?_); refine goesL_ (some 31) rfl rfl Try.func23 (by kernel_rfl) rfl #[.int .u64 t121, .int .u64 t122, .bool t123] rfl (by (try simp only [List.map_toArray, List.map_cons, List.map_nil]); first | done | rfl | (simp only [List.length_drop, List.length_take]; rfl)) ?_; (with_reducible refine (wide_signed.calls k t121 t122 t123 t124 _ A8.out).mono ?_); rintro e w' ⟨rfl, ⟨nd, rfl⟩⟩; refine ⟨_, rfl, ?_⟩))
      go_ret
      exact ⟨by first | rfl | (simp [errW_none, errW_some] <;> rfl) | (simp only [← hji4]; first | rfl | (simp [errW_none, errW_some] <;> rfl)) | (simp [*, errW_none, errW_some] <;> rfl), by repeat (first | (with_reducible first | exact HB.out | apply below_alloc | apply pw_below_drewN | apply below_drew1) | exact HB.out)⟩
    · rw [if_neg c7] at H
      have c7b0 : ((ji4) == 0) = false := beq_eq_false_iff_ne.mpr c7
      have c7b1 : ((ji4) != 0) = true := bne_iff_ne.mpr c7
      replace H := Option.bind_eq_some_iff.mp H
      obtain ⟨⟨t125, t126⟩, A90, H⟩ := H
      replace H : ((wide_shift.f t121 t122 (wrap64 ((ji4) - 1))).bind fun bt127 => (if (Go.bits .and .u64 bt127.2 1) = 0 then (wide_MulShift.j0 k t123 t125 t126 true) else (if t123 = true then ((wide_exact.f t121 t122 (wrap64 ((ji4) - 1))).bind fun t129 => (wide_MulShift.j0 k t123 t125 t126 t129)) else (wide_MulShift.j0 k t123 t125 t126 false)))) = some r := H
      have A9 := Aside0.mk A90
      clear A90
      replace H := Option.bind_eq_some_iff.mp H
      obtain ⟨⟨t127, t128⟩, A100, H⟩ := H
      replace H : (if (Go.bits .and .u64 t128 1) = 0 then (wide_MulShift.j0 k t123 t125 t126 true) else (if t123 = true then ((wide_exact.f t121 t122 (wrap64 ((ji4) - 1))).bind fun t129 => (wide_MulShift.j0 k t123 t125 t126 t129)) else (wide_MulShift.j0 k t123 t125 t126 false))) = some r := H
      have A10 := Aside0.mk A100
      clear A100
      have HC11 := Aside0.mk H
      clear H
      go_enter Try.func17, Try.ntmps17
      go_upto_region 9 with (first | ((with_reducible refine gate_callee (f := 22) rfl ?_); refine goesL_ (some 22) rfl rfl Try.func22 (by kernel_rfl) rfl #[.int .i64 a0, .int .i64 a1] rfl (by (try simp only [List.map_toArray, List.map_cons, List.map_nil]); first | done | rfl | (simp only [List.length_drop, List.length_take]; rfl)) ?_; (with_reducible refine (wide_product.calls a0 a1 t121 t122 t123 _ A6.out).mono ?_); rintro e w' ⟨rfl, ⟨nd, rfl⟩⟩; refine ⟨_, rfl, ?_⟩) | ((with_reducible refine gate_callee (f := 24) rfl ?_); refine goesL_ (some 36) rfl rfl Try.func24 (by kernel_rfl) rfl #[.int .u64 t121, .int .u64 t122, .int .i64 ji4] rfl (by (try simp only [List.map_toArray, List.map_cons, List.map_nil]); first | done | (simp only [hji4]; rfl) | (simp only [Int.tdiv_eq_ediv_of_nonneg hji4l]; rfl) | rfl | (simp only [List.length_drop, List.length_take]; rfl)) ?_; (with_reducible refine (wide_shift.calls t121 t122 ji4 t125 t126 _ A9.out).mono ?_); rintro e w' ⟨rfl, ⟨nd, rfl⟩⟩; refine ⟨_, rfl, ?_⟩) | ((with_reducible refine gate_callee (f := 24) rfl ?_); refine goesL_ (some 44) rfl rfl Try.func24 (by kernel_rfl) rfl #[.int .u64 t121, .int .u64 t122, .int .i64 (wrap64 ((ji4) - 1))] rfl (by (try simp only [List.map_toArray, List.map_cons, List.map_nil]); first | done | (simp only [hji4]; rfl) | (simp only [Int.tdiv_eq_ediv_of_nonneg hji4l]; rfl) | rfl | (simp only [List.length_drop, List.length_take]; rfl)) ?_; (with_reducible refine (wide_shift.calls t121 t122 (wrap64 ((ji4) - 1)) t127 t128 _ A10.out).mono ?_); rintro e w' ⟨rfl, ⟨nd, rfl⟩⟩; refine ⟨_, rfl, ?_⟩))
      (try simp only [Act.put, List.setIfInBounds_toArray, List.set_cons_zero, List.set_cons_succ])
      go_cut [59] (fun v59 wc => ∃ (kq : Nat) (x59_10 : Bool), v59 = .bool x59_10 ∧ Aside0 (wide_MulShift.j0 kq t123 t125 t126 x59_10 = some r) ∧ Aside0 (kq ≤ k) ∧ Aside0 (Below w.heap.size w wc))
      case first =>
        have H := HC11.out
        clear HC11
        by_cases c12 : (Go.bits .and .u64 t128 1) = 0
        · rw [if_pos c12] at H
          have c12b0 : ((Go.bits .and .u64 t128 1) == 0) = true := beq_iff_eq.mpr c12
          have c12b1 : ((Go.bits .and .u64 t128 1) != 0) = false := bne_eq_false_iff_eq.mpr c12
          clear c12
          (first | rw [c12b0] | (simp only [i64_w, i32_w]; rw [c12b0]) | skip)
          have H' := Aside0.mk H
          clear H
          go_wp2
          go_meet
          case rel => exact ⟨_, (true), (by first | rfl | (simp; done) | (simp [*]; done)), H', ⟨by first | omega | exact Nat.le_refl _⟩, ⟨by repeat (first | (with_reducible first | exact HB.out | apply below_alloc | apply pw_below_drewN | apply below_drew1) | exact HB.out)⟩⟩
        · rw [if_neg c12] at H
          have c12b0 : ((Go.bits .and .u64 t128 1) == 0) = false := beq_eq_false_iff_ne.mpr c12
          have c12b1 : ((Go.bits .and .u64 t128 1) != 0) = true := bne_iff_ne.mpr c12
          (first | rw [c12b0] | (simp only [i64_w, i32_w]; rw [c12b0]) | skip)
          by_cases c13 : t123 = true
          · subst c13
            have H1 : ((wide_exact.f t121 t122 (wrap64 ((ji4) - 1))).bind fun t129 => (wide_MulShift.j0 k true t125 t126 t129)) = some r := by rw [if_pos rfl] at H; exact H
            clear H
            have H := H1
            clear H1
            replace H := Option.bind_eq_some_iff.mp H
            obtain ⟨t129, A140, H⟩ := H
            replace H : (wide_MulShift.j0 k true t125 t126 t129) = some r := H
            have A14 := Aside0.mk A140
            clear A140
            have H' := Aside0.mk H
            clear H
            go_wp2_with (first | (go_at_call 25; (with_reducible refine (wide_exact.calls t121 t122 (wrap64 ((ji4) - 1)) t129 _ A14.out).mono ?_); rintro e w' ⟨rfl, ⟨nd, rfl⟩⟩))
            go_meet
            case rel => exact ⟨_, (t129), (by first | rfl | (simp; done) | (simp [*]; done)), H', ⟨by first | omega | exact Nat.le_refl _⟩, ⟨by repeat (first | (with_reducible first | exact HB.out | apply below_alloc | apply pw_below_drewN | apply below_drew1) | exact HB.out)⟩⟩
          · replace c13 := Bool.eq_false_iff.mpr c13
            subst c13
            have H1 : (wide_MulShift.j0 k false t125 t126 false) = some r := by rw [if_neg (show ¬ (false = true) by decide)] at H; exact H
            clear H
            have H := H1
            clear H1
            have H' := Aside0.mk H
            clear H
            go_wp2
            go_meet
            case rel => exact ⟨_, (false), (by first | rfl | (simp; done) | (simp [*]; done)), H', ⟨by first | omega | exact Nat.le_refl _⟩, ⟨by repeat (first | (with_reducible first | exact HB.out | apply below_alloc | apply pw_below_drewN | apply below_drew1) | exact HB.out)⟩⟩
      case rest =>
        clear HC11
        try clear c1
        try clear c2
        try clear p2
        try clear c5
        try clear c5b0
        try clear p6
        try clear c7
        try clear c7b0
        try clear c7b1
        try clear c12
        try clear c12b0
        try clear c12b1
        try clear c13
        obtain ⟨kq, x59_10, rfl, HA, HJ10, HB⟩ := hcut
        cases kq with
        | zero => exact absurd HA.out (by simp [wide_MulShift.j0])
        | succ kj10 =>
          have H := HA.out
          clear HA
          simp only [wide_MulShift.j0] at H
          by_cases c15 : x59_10 = true
          · subst c15
            have H1 : ((wide_signed.f kj10 t125 t126 t123).bind fun t130 => (some t130)) = some r := by rw [if_pos rfl] at H; exact H
            clear H
            have H := H1
            clear H1
            replace H := Option.bind_eq_some_iff.mp H
            obtain ⟨t130, A160, H⟩ := H
            replace H : (some t130) = some r := H
            have A16 := Aside0.mk A160
            clear A160
            obtain rfl := Option.some.inj H
            go_wp2_with (first | ((with_reducible refine gate_callee (f := 23) rfl ?_); refine goesL_ (some 63) rfl rfl Try.func23 (by kernel_rfl) rfl #[.int .u64 t125, .int .u64 t126, .bool t123] rfl (by (try simp only [List.map_toArray, List.map_cons, List.map_nil]); first | done | rfl | (simp only [List.length_drop, List.length_take]; rfl)) ?_; (with_reducible refine (wide_signed.calls kj10 t125 t126 t123 t130 _ A16.out).mono ?_); rintro e w' ⟨rfl, ⟨nd, rfl⟩⟩; refine ⟨_, rfl, ?_⟩))
            go_ret
            exact ⟨by first | rfl | (simp [errW_none, errW_some] <;> rfl) | (simp only [← hji4]; first | rfl | (simp [errW_none, errW_some] <;> rfl)) | (simp [*, errW_none, errW_some] <;> rfl), by repeat (first | (with_reducible first | exact HB.out | apply below_alloc | apply pw_below_drewN | apply below_drew1) | exact HB.out)⟩
          · replace c15 := Bool.eq_false_iff.mpr c15
            subst c15
            have H1 : ((wide_signed.f kj10 (IntKind.u64.wrap (t125 + (add64c t126 1 0))) (add64s t126 1 0) t123).bind fun t131 => (some t131)) = some r := by rw [if_neg (show ¬ (false = true) by decide)] at H; exact H
            clear H
            have H := H1
            clear H1
            replace H := Option.bind_eq_some_iff.mp H
            obtain ⟨t131, A170, H⟩ := H
            replace H : (some t131) = some r := H
            have A17 := Aside0.mk A170
            clear A170
            obtain rfl := Option.some.inj H
            go_wp2_with (first | ((with_reducible refine gate_callee (f := 23) rfl ?_); refine goesL_ (some 74) rfl rfl Try.func23 (by kernel_rfl) rfl #[.int .u64 (IntKind.u64.wrap (t125 + (add64c t126 1 0))), .int .u64 (add64s t126 1 0), .bool t123] rfl (by (try simp only [List.map_toArray, List.map_cons, List.map_nil]); first | done | rfl | (simp only [List.length_drop, List.length_take]; rfl)) ?_; (with_reducible refine (wide_signed.calls kj10 (IntKind.u64.wrap (t125 + (add64c t126 1 0))) (add64s t126 1 0) t123 t131 _ A17.out).mono ?_); rintro e w' ⟨rfl, ⟨nd, rfl⟩⟩; refine ⟨_, rfl, ?_⟩))
            go_ret
            exact ⟨by first | rfl | (simp [errW_none, errW_some] <;> rfl) | (simp only [← hji4]; first | rfl | (simp [errW_none, errW_some] <;> rfl)) | (simp [*, errW_none, errW_some] <;> rfl), by repeat (first | (with_reducible first | exact HB.out | apply below_alloc | apply pw_below_drewN | apply below_drew1) | exact HB.out)⟩

/-! ### sinc_Lanczos: function 11 -/
def sinc_Lanczos.j0 : Nat → Int → Int → Bool → Option (Int)
  | 0, _, _, _ => none
  | k + 1, x0, x1, x15 => if x15 = true then (some 0) else ((sinc_series.f k x0 x1).bind fun t134 => ((sinc_series.f k x0 (wrap64 (3 * x1))).bind fun t135 => ((wide_MulShift.f k t134 t135 40).bind fun t136 => ((fixed_Shift.f t136 10).bind fun t137 => (some t137)))))
def sinc_Lanczos.f (k : Nat) (a0 : Int) (a1 : Int) : Option (Int) := (sinc_May.f a0 a1).bind fun t132 => (if t132 = true then ((sinc_size.f a0).bind fun t133 => (sinc_Lanczos.j0 k a0 a1 (decide (t133 ≥ (wrap64 (3 * a1)))))) else (sinc_Lanczos.j0 k a0 a1 true))
theorem sinc_Lanczos.mono_l : ∀ k, (∀ y0 y1 y2, LeO (sinc_Lanczos.j0 k y0 y1 y2) (sinc_Lanczos.j0 (k + 1) y0 y1 y2))
  | 0 => fun _ _ _ r h => by simp [sinc_Lanczos.j0] at h
  | k + 1 => by
    have ih0 := sinc_Lanczos.mono_l k
    · intro y0 y1 y2
      unfold sinc_Lanczos.j0
      repeat' first
      | (with_reducible exact ih0 _ _ _)
      | (with_reducible exact sinc_series.mono _ _ _)
      | (with_reducible exact wide_MulShift.mono _ _ _ _)
      | (with_reducible exact LeO.refl _)
      | (with_reducible exact LeO.none _)
      | (with_reducible refine LeO.ite ?_ ?_)
      | (with_reducible refine LeO.bind ?_ (fun _ => ?_))
      | exact ih0 _ _ _
      | exact sinc_series.mono _ _ _
      | exact wide_MulShift.mono _ _ _ _
      | exact LeO.none _
      | refine LeO.ite ?_ ?_
      | refine LeO.bind ?_ (fun _ => ?_)
theorem sinc_Lanczos.mono : ∀ a0 a1 k, LeO (sinc_Lanczos.f k a0 a1) (sinc_Lanczos.f (k + 1) a0 a1) := by
  intro a0 a1 k
  have ih0 := sinc_Lanczos.mono_l k
  unfold sinc_Lanczos.f
  repeat' first
      | (with_reducible exact ih0 _ _ _)
      | (with_reducible exact sinc_series.mono _ _ _)
      | (with_reducible exact wide_MulShift.mono _ _ _ _)
      | (with_reducible exact LeO.refl _)
      | (with_reducible exact LeO.none _)
      | (with_reducible refine LeO.ite ?_ ?_)
      | (with_reducible refine LeO.bind ?_ (fun _ => ?_))
      | exact ih0 _ _ _
      | exact sinc_series.mono _ _ _
      | exact wide_MulShift.mono _ _ _ _
      | exact LeO.none _
      | refine LeO.ite ?_ ?_
      | refine LeO.bind ?_ (fun _ => ?_)
set_option maxHeartbeats 8000000 in
set_option maxRecDepth 100000 in
theorem sinc_Lanczos.calls (k : Nat) (a0 : Int) (a1 : Int) (r : Int) (w : World) (h : sinc_Lanczos.f k a0 a1 = some r) :
    Calls Try.prog 11 #[.int .i64 a0, .int .i64 a1] w fun e w' => e = .returned (.int .i64 r) ∧ Below w.heap.size w w' := by
  have HB := Aside0.mk (Below.refl w.heap.size w)
  have H : ((sinc_May.f a0 a1).bind fun t132 => (if t132 = true then ((sinc_size.f a0).bind fun t133 => (sinc_Lanczos.j0 k a0 a1 (decide (t133 ≥ (wrap64 (3 * a1)))))) else (sinc_Lanczos.j0 k a0 a1 true))) = some r := h
  clear h
  have HC3 := Aside0.mk H
  clear H
  go_enter Try.func11, Try.ntmps11
  go_upto_region 1 with (fail)
  go_cut [15] (fun v15 wc => ∃ (kq : Nat) (x15_2 : Bool), v15 = .bool x15_2 ∧ Aside0 (sinc_Lanczos.j0 kq a0 a1 x15_2 = some r) ∧ Aside0 (kq ≤ k) ∧ Aside0 (Below w.heap.size w wc))
  case first =>
    have H := HC3.out
    clear HC3
    replace H := Option.bind_eq_some_iff.mp H
    obtain ⟨t132, A40, H⟩ := H
    replace H : (if t132 = true then ((sinc_size.f a0).bind fun t133 => (sinc_Lanczos.j0 k a0 a1 (decide (t133 ≥ (wrap64 (3 * a1)))))) else (sinc_Lanczos.j0 k a0 a1 true)) = some r := H
    have A4 := Aside0.mk A40
    clear A40
    by_cases c5 : t132 = true
    · subst c5
      have H1 : ((sinc_size.f a0).bind fun t133 => (sinc_Lanczos.j0 k a0 a1 (decide (t133 ≥ (wrap64 (3 * a1)))))) = some r := by rw [if_pos rfl] at H; exact H
      clear H
      have H := H1
      clear H1
      replace H := Option.bind_eq_some_iff.mp H
      obtain ⟨t133, A60, H⟩ := H
      replace H : (sinc_Lanczos.j0 k a0 a1 (decide (t133 ≥ (wrap64 (3 * a1))))) = some r := H
      have A6 := Aside0.mk A60
      clear A60
      have H' := Aside0.mk H
      clear H
      go_wp2_with (first | ((with_reducible refine gate_callee (f := 7) rfl ?_); refine goesL_ (some 7) rfl rfl Try.func7 (by kernel_rfl) rfl #[.int .i64 a0, .int .i64 a1] rfl (by (try simp only [List.map_toArray, List.map_cons, List.map_nil]); first | done | rfl | (simp only [List.length_drop, List.length_take]; rfl)) ?_; (with_reducible refine (sinc_May.calls a0 a1 true _ A4.out).mono ?_); rintro e w' ⟨rfl, ⟨nd, rfl⟩⟩; refine ⟨_, rfl, ?_⟩) | (go_at_call 15; (with_reducible refine (sinc_size.calls a0 t133 _ A6.out).mono ?_); rintro e w7 ⟨rfl, hb⟩; have n0_ := Aside0.mk (below_step (by repeat (first | (with_reducible first | exact HB.out | apply below_alloc | apply pw_below_drewN | apply below_drew1) | exact HB.out)) hb); clear HB; have HB := n0_; clear n0_; (try clear hb); (try clear hb2); (try clear hk); (try clear hi)))
      go_meet
      case rel => exact ⟨_, (decide (t133 ≥ (wrap64 (3 * a1)))), (by first | rfl | (simp; done) | (simp [*]; done)), H', ⟨by first | omega | exact Nat.le_refl _⟩, ⟨by repeat (first | (with_reducible first | exact HB.out | apply below_alloc | apply pw_below_drewN | apply below_drew1) | exact HB.out)⟩⟩
    · replace c5 := Bool.eq_false_iff.mpr c5
      subst c5
      have H1 : (sinc_Lanczos.j0 k a0 a1 true) = some r := by rw [if_neg (show ¬ (false = true) by decide)] at H; exact H
      clear H
      have H := H1
      clear H1
      have H' := Aside0.mk H
      clear H
      go_wp2_with (first | ((with_reducible refine gate_callee (f := 7) rfl ?_); refine goesL_ (some 7) rfl rfl Try.func7 (by kernel_rfl) rfl #[.int .i64 a0, .int .i64 a1] rfl (by (try simp only [List.map_toArray, List.map_cons, List.map_nil]); first | done | rfl | (simp only [List.length_drop, List.length_take]; rfl)) ?_; (with_reducible refine (sinc_May.calls a0 a1 false _ A4.out).mono ?_); rintro e w' ⟨rfl, ⟨nd, rfl⟩⟩; refine ⟨_, rfl, ?_⟩))
      go_meet
      case rel => exact ⟨_, (true), (by first | rfl | (simp; done) | (simp [*]; done)), H', ⟨by first | omega | exact Nat.le_refl _⟩, ⟨by repeat (first | (with_reducible first | exact HB.out | apply below_alloc | apply pw_below_drewN | apply below_drew1) | exact HB.out)⟩⟩
  case rest =>
    clear HC3
    try clear c1
    try clear p2
    try clear c5
    try clear p6
    try clear c7
    obtain ⟨kq, x15_2, rfl, HA, HJ2, HB⟩ := hcut
    cases kq with
    | zero => exact absurd HA.out (by simp [sinc_Lanczos.j0])
    | succ kj2 =>
      have H := HA.out
      clear HA
      simp only [sinc_Lanczos.j0] at H
      by_cases c8 : x15_2 = true
      · subst c8
        have H1 : (some 0) = some r := by rw [if_pos rfl] at H; exact H
        clear H
        have H := H1
        clear H1
        obtain rfl := Option.some.inj H
        go_wp2
        go_ret
        exact ⟨by first | rfl | (simp [errW_none, errW_some] <;> rfl) | (simp [*, errW_none, errW_some] <;> rfl), by repeat (first | (with_reducible first | exact HB.out | apply below_alloc | apply pw_below_drewN | apply below_drew1) | exact HB.out)⟩
      · replace c8 := Bool.eq_false_iff.mpr c8
        subst c8
        have H1 : ((sinc_series.f kj2 a0 a1).bind fun t134 => ((sinc_series.f kj2 a0 (wrap64 (3 * a1))).bind fun t135 => ((wide_MulShift.f kj2 t134 t135 40).bind fun t136 => ((fixed_Shift.f t136 10).bind fun t137 => (some t137))))) = some r := by rw [if_neg (show ¬ (false = true) by decide)] at H; exact H
        clear H
        have H := H1
        clear H1
        replace H := Option.bind_eq_some_iff.mp H
        obtain ⟨t134, A90, H⟩ := H
        replace H : ((sinc_series.f kj2 a0 (wrap64 (3 * a1))).bind fun t135 => ((wide_MulShift.f kj2 t134 t135 40).bind fun t136 => ((fixed_Shift.f t136 10).bind fun t137 => (some t137)))) = some r := H
        have A9 := Aside0.mk A90
        clear A90
        replace H := Option.bind_eq_some_iff.mp H
        obtain ⟨t135, A100, H⟩ := H
        replace H : ((wide_MulShift.f kj2 t134 t135 40).bind fun t136 => ((fixed_Shift.f t136 10).bind fun t137 => (some t137))) = some r := H
        have A10 := Aside0.mk A100
        clear A100
        replace H := Option.bind_eq_some_iff.mp H
        obtain ⟨t136, A110, H⟩ := H
        replace H : ((fixed_Shift.f t136 10).bind fun t137 => (some t137)) = some r := H
        have A11 := Aside0.mk A110
        clear A110
        replace H := Option.bind_eq_some_iff.mp H
        obtain ⟨t137, A120, H⟩ := H
        replace H : (some t137) = some r := H
        have A12 := Aside0.mk A120
        clear A120
        obtain rfl := Option.some.inj H
        go_wp2_with (first | ((with_reducible refine gate_callee (f := 13) rfl ?_); refine goesL_ (some 18) rfl rfl Try.func13 (by kernel_rfl) rfl #[.int .i64 a0, .int .i64 a1] rfl (by (try simp only [List.map_toArray, List.map_cons, List.map_nil]); first | done | rfl | (simp only [List.length_drop, List.length_take]; rfl)) ?_; (with_reducible refine (sinc_series.calls kj2 a0 a1 t134 _ A9.out).mono ?_); rintro e w13 ⟨rfl, hb⟩; refine ⟨_, rfl, ?_⟩; have n0_ := Aside0.mk (below_step (by repeat (first | (with_reducible first | exact HB.out | apply below_alloc | apply pw_below_drewN | apply below_drew1) | exact HB.out)) hb); clear HB; have HB := n0_; clear n0_; (try clear hb); (try clear hb2); (try clear hk); (try clear hi)) | ((with_reducible refine gate_callee (f := 13) rfl ?_); refine goesL_ (some 22) rfl rfl Try.func13 (by kernel_rfl) rfl #[.int .i64 a0, .int .i64 (wrap64 (3 * a1))] rfl (by (try simp only [List.map_toArray, List.map_cons, List.map_nil]); first | done | rfl | (simp only [List.length_drop, List.length_take]; rfl)) ?_; (with_reducible refine (sinc_series.calls kj2 a0 (wrap64 (3 * a1)) t135 _ A10.out).mono ?_); rintro e w14 ⟨rfl, hb⟩; refine ⟨_, rfl, ?_⟩; have n0_ := Aside0.mk (below_step (by repeat (first | (with_reducible first | exact HB.out | apply below_alloc | apply pw_below_drewN | apply below_drew1) | exact HB.out)) hb); clear HB; have HB := n0_; clear n0_; (try clear hb); (try clear hb2); (try clear hk); (try clear hi)) | ((with_reducible refine gate_callee (f := 17) rfl ?_); refine goesL_ (some 23) rfl rfl Try.func17 (by kernel_rfl) rfl #[.int .i64 t134, .int .i64 t135, .int .i64 40] rfl (by (try simp only [List.map_toArray, List.map_cons, List.map_nil]); first | done | rfl | (simp only [List.length_drop, List.length_take]; rfl)) ?_; (with_reducible refine (wide_MulShift.calls kj2 t134 t135 40 t136 _ A11.out).mono ?_); rintro e w15 ⟨rfl, hb⟩; refine ⟨_, rfl, ?_⟩; have n0_ := Aside0.mk (below_step (by repeat (first | (with_reducible first | exact HB.out | apply below_alloc | apply pw_below_drewN | apply below_drew1) | exact HB.out)) hb); clear HB; have HB := n0_; clear n0_; (try clear hb); (try clear hb2); (try clear hk); (try clear hi)) | ((with_reducible refine gate_callee (f := 16) rfl ?_); refine goesL_ (some 24) rfl rfl Try.func16 (by kernel_rfl) rfl #[.int .i64 t136, .int .i64 10] rfl (by (try simp only [List.map_toArray, List.map_cons, List.map_nil]); first | done | rfl | (simp only [List.length_drop, List.length_take]; rfl)) ?_; (with_reducible refine (fixed_Shift.calls t136 10 t137 _ A12.out).mono ?_); rintro e w' ⟨rfl, ⟨nd, rfl⟩⟩; refine ⟨_, rfl, ?_⟩))
        go_ret
        exact ⟨by first | rfl | (simp [errW_none, errW_some] <;> rfl) | (simp [*, errW_none, errW_some] <;> rfl), by repeat (first | (with_reducible first | exact HB.out | apply below_alloc | apply pw_below_drewN | apply below_drew1) | exact HB.out)⟩

end Go.Proofs.Ytbkbgpileogehaa.QA
