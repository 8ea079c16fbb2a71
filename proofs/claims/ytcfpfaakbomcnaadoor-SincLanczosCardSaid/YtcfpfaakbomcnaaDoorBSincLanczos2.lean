/- Joined by wip/tools/bundle.py out of: QAx5 QAx6 TCore FlFl FlTy FlTs FlTv FlTw FlTx FlTi. -/
import Derived.Test.YtcfpfaakbomcnaaDoorBSincLanczos0
import Derived.Test.YtcfpfaakbomcnaaDoorBSincLanczos1
import Derived.RowKit
import Derived.Laws.BitsLemmas
import Ieee.Arith
namespace Go.Proofs.YtcfpfaakbomcnaaDoor.QA
open Go.Proofs.YtcfpfaakbomcnaaDoor.T
open Go.RowKit Go.Proofs.YtcfpfaakbomcnaaDoorW.PrintWords Go.Proofs.YtcfpfaakbomcnaaDoorW.PrintLast Go.Proofs.YtcfpfaakbomcnaaDoorW.PrintMore
attribute [local go_sem] ext_call max2_int min2_int max_two min_two max_three min_three max_four min_four   -- for this text's walks alone
set_option linter.unusedVariables false
set_option linter.unusedSimpArgs false
def wide_MulShift.j0 : Nat → Bool → Int → Int → Bool → Option (Int)
 | 0, _, _, _, _ => none
 | k + 1, x9, x10, x11, x59 => if x59 = true then ((wide_signed.f k x10 x11 x9).bind fun t130 => (some t130)) else ((wide_signed.f k (IntKind.u64.wrap (x10 + (add64c x11 1 0))) (add64s x11 1 0) x9).bind fun t131 => (some t131))
def wide_MulShift.f (k : Nat) (a0 : Int) (a1 : Int) (a2 : Int) : Option (Int) := if (mx 0 a2) ≥ 128 then (some 0) else ((wide_product.f a0 a1).bind fun bt121 => (if (mx 0 a2) = 0 then ((wide_signed.f k bt121.1 bt121.2.1 bt121.2.2).bind fun t124 => (some t124)) else ((wide_shift.f bt121.1 bt121.2.1 (mx 0 a2)).bind fun bt125 => ((wide_shift.f bt121.1 bt121.2.1 (wrap64 ((mx 0 a2) - 1))).bind fun bt127 => (if (Go.bits .and .u64 bt127.2 1) = 0 then (wide_MulShift.j0 k bt121.2.2 bt125.1 bt125.2 true) else (if bt121.2.2 = true then ((wide_exact.f bt121.1 bt121.2.1 (wrap64 ((mx 0 a2) - 1))).bind fun t129 => (wide_MulShift.j0 k bt121.2.2 bt125.1 bt125.2 t129)) else (wide_MulShift.j0 k bt121.2.2 bt125.1 bt125.2 false)))))))
theorem wide_MulShift.mono_l : ∀ k, (∀ y0 y1 y2 y3, LeO (wide_MulShift.j0 k y0 y1 y2 y3) (wide_MulShift.j0 (k + 1) y0 y1 y2 y3))
 | 0 => fun _ _ _ _ r h => by simp [wide_MulShift.j0] at h
 | k + 1 => by
  have ih0 := wide_MulShift.mono_l k
  ·intro y0 y1 y2 y3
   unfold wide_MulShift.j0
   repeat' first
   | (with_reducible exact ih0 _ _ _ _)
   | (with_reducible exact wide_signed.mono _ _ _ _)
   | (with_reducible exact LeO.refl _)
   | (with_reducible exact LeO.none _)
   | (with_reducible refine LeO.ite ?_ ?_)
   | (with_reducible refine LeO.bind ?_ (fun _ => ?_))
   | exact ih0 _ _ _ _
   | exact wide_signed.mono _ _ _ _
   | exact LeO.none _
   | refine LeO.ite ?_ ?_
   | refine LeO.bind ?_ (fun _ => ?_)
theorem wide_MulShift.mono : ∀ a0 a1 a2 k, LeO (wide_MulShift.f k a0 a1 a2) (wide_MulShift.f (k + 1) a0 a1 a2) := by
 intro a0 a1 a2 k
 have ih0 := wide_MulShift.mono_l k
 unfold wide_MulShift.f
 repeat' first
   | (with_reducible exact ih0 _ _ _ _)
   | (with_reducible exact wide_signed.mono _ _ _ _)
   | (with_reducible exact LeO.refl _)
   | (with_reducible exact LeO.none _)
   | (with_reducible refine LeO.ite ?_ ?_)
   | (with_reducible refine LeO.bind ?_ (fun _ => ?_))
   | exact ih0 _ _ _ _
   | exact wide_signed.mono _ _ _ _
   | exact LeO.none _
   | refine LeO.ite ?_ ?_
   | refine LeO.bind ?_ (fun _ => ?_)
set_option maxHeartbeats 8000000 in
set_option maxRecDepth 100000 in
theorem wide_MulShift.calls (k : Nat) (a0 : Int) (a1 : Int) (a2 : Int) (r : Int) (w : World) (h : wide_MulShift.f k a0 a1 a2 = some r) :
  Calls Tryd.prog 18 #[.int .i64 a0, .int .i64 a1, .int .i64 a2] w fun e w' => e = .returned (.int .i64 r) ∧ Below w.heap.size w w' := by
 have HB := Aside0.mk (Below.refl w.heap.size w)
 have H : (if (mx 0 a2) ≥ 128 then (some 0) else ((wide_product.f a0 a1).bind fun bt121 => (if (mx 0 a2) = 0 then ((wide_signed.f k bt121.1 bt121.2.1 bt121.2.2).bind fun t124 => (some t124)) else ((wide_shift.f bt121.1 bt121.2.1 (mx 0 a2)).bind fun bt125 => ((wide_shift.f bt121.1 bt121.2.1 (wrap64 ((mx 0 a2) - 1))).bind fun bt127 => (if (Go.bits .and .u64 bt127.2 1) = 0 then (wide_MulShift.j0 k bt121.2.2 bt125.1 bt125.2 true) else (if bt121.2.2 = true then ((wide_exact.f bt121.1 bt121.2.1 (wrap64 ((mx 0 a2) - 1))).bind fun t129 => (wide_MulShift.j0 k bt121.2.2 bt125.1 bt125.2 t129)) else (wide_MulShift.j0 k bt121.2.2 bt125.1 bt125.2 false)))))))) = some r := h
 clear h
 obtain ⟨ji4, hji4⟩ : ∃ j_ : Int, (mx 0 a2) = j_ := ⟨_, rfl⟩
 replace H : (if (ji4) ≥ 128 then (some 0) else ((wide_product.f a0 a1).bind fun bt121 => (if (ji4) = 0 then ((wide_signed.f k bt121.1 bt121.2.1 bt121.2.2).bind fun t124 => (some t124)) else ((wide_shift.f bt121.1 bt121.2.1 (ji4)).bind fun bt125 => ((wide_shift.f bt121.1 bt121.2.1 (wrap64 ((ji4) - 1))).bind fun bt127 => (if (Go.bits .and .u64 bt127.2 1) = 0 then (wide_MulShift.j0 k bt121.2.2 bt125.1 bt125.2 true) else (if bt121.2.2 = true then ((wide_exact.f bt121.1 bt121.2.1 (wrap64 ((ji4) - 1))).bind fun t129 => (wide_MulShift.j0 k bt121.2.2 bt125.1 bt125.2 t129)) else (wide_MulShift.j0 k bt121.2.2 bt125.1 bt125.2 false)))))))) = some r := by first | (rw [hji4] at H; exact H) | (simp only [hji4] at H ⊢; exact H)
 (try (have hji4l : 0 ≤ ji4 := by (rw [← hji4]; unfold mx; (repeat' split) <;> omega)))
 (try (have hji4m : 0 ≤ ji4 := by omega))
 have hji4_ : (if 0 < a2 then a2 else 0) = ji4 := hji4
 by_cases c5 : (ji4) ≥ 128
 ·rw [if_pos c5] at H
  have c5b0 : decide (128 ≤ (ji4)) = true := decide_eq_true c5
  clear c5
  obtain rfl := Option.some.inj H
  go_enter Tryd.func18, Tryd.ntmps18
  go_wp2
  go_ret
  exact ⟨by first | rfl | (simp [errW_none, errW_some] <;> rfl) | (simp only [← hji4]; first | rfl | (simp [errW_none, errW_some] <;> rfl)) | (simp [*, errW_none, errW_some] <;> rfl), by repeat (first | (with_reducible first | exact HB.out | apply below_alloc | apply pw_below_drewN | apply below_drew1) | exact HB.out)⟩
 ·rw [if_neg c5] at H
  have c5b0 : decide (128 ≤ (ji4)) = false := decide_eq_false c5
  clear c5
  replace H := Option.bind_eq_some_iff.mp H
  obtain ⟨⟨t121, t122, t123⟩, A60, H⟩ := H
  replace H : (if (ji4) = 0 then ((wide_signed.f k t121 t122 t123).bind fun t124 => (some t124)) else ((wide_shift.f t121 t122 (ji4)).bind fun bt125 => ((wide_shift.f t121 t122 (wrap64 ((ji4) - 1))).bind fun bt127 => (if (Go.bits .and .u64 bt127.2 1) = 0 then (wide_MulShift.j0 k t123 bt125.1 bt125.2 true) else (if t123 = true then ((wide_exact.f t121 t122 (wrap64 ((ji4) - 1))).bind fun t129 => (wide_MulShift.j0 k t123 bt125.1 bt125.2 t129)) else (wide_MulShift.j0 k t123 bt125.1 bt125.2 false)))))) = some r := H
  have A6 := Aside0.mk A60
  clear A60
  by_cases c7 : (ji4) = 0
  ·rw [if_pos c7] at H
   have c7b0 : ((ji4) == 0) = true := beq_iff_eq.mpr c7
   have c7b1 : ((ji4) != 0) = false := bne_eq_false_iff_eq.mpr c7
   clear c7
   replace H := Option.bind_eq_some_iff.mp H
   obtain ⟨t124, A80, H⟩ := H
   replace H : (some t124) = some r := H
   have A8 := Aside0.mk A80
   clear A80
   obtain rfl := Option.some.inj H
   go_enter Tryd.func18, Tryd.ntmps18
   go_wp2_with (first | ((with_reducible refine gate_callee (f := 22) rfl ?_); refine goesL_ (some 22) rfl rfl Tryd.func22 (by kernel_rfl) rfl #[.int .i64 a0, .int .i64 a1] rfl (by (try simp only [List.map_toArray, List.map_cons, List.map_nil]); first | done | rfl | (simp only [List.length_drop, List.length_take]; rfl)) ?_; (with_reducible refine (wide_product.calls a0 a1 t121 t122 t123 _ A6.out).mono ?_); rintro e w' ⟨rfl, ⟨nd, rfl⟩⟩; refine ⟨_, rfl, ?_⟩) | ((with_reducible refine gate_callee (f := 23) rfl ?_); refine goesL_ (some 31) rfl rfl Tryd.func23 (by kernel_rfl) rfl #[.int .u64 t121, .int .u64 t122, .bool t123] rfl (by (try simp only [List.map_toArray, List.map_cons, List.map_nil]); first | done | rfl | (simp only [List.length_drop, List.length_take]; rfl)) ?_; (with_reducible refine (wide_signed.calls k t121 t122 t123 t124 _ A8.out).mono ?_); rintro e w' ⟨rfl, ⟨nd, rfl⟩⟩; refine ⟨_, rfl, ?_⟩))
   go_ret
   exact ⟨by first | rfl | (simp [errW_none, errW_some] <;> rfl) | (simp only [← hji4]; first | rfl | (simp [errW_none, errW_some] <;> rfl)) | (simp [*, errW_none, errW_some] <;> rfl), by repeat (first | (with_reducible first | exact HB.out | apply below_alloc | apply pw_below_drewN | apply below_drew1) | exact HB.out)⟩
  ·rw [if_neg c7] at H
   have c7b0 : ((ji4) == 0) = false := beq_eq_false_iff_ne.mpr c7
   have c7b1 : ((ji4) != 0) = true := bne_iff_ne.mpr c7
   replace H := Option.bind_eq_some_iff.mp H
   obtain ⟨⟨t125, t126⟩, A90, H⟩ := H
   replace H : ((wide_shift.f t121 t122 (wrap64 ((ji4) - 1))).bind fun bt127 => (if (Go.bits .and .u64 bt127.2 1) = 0 then (wide_MulShift.j0 k t123 t125 t126 true) else (if t123 = true then ((wide_exact.f t121 t122 (wrap64 ((ji4) - 1))).bind fun t129 => (wide_MulShift.j0 k t123 t125 t126 t129)) else (wide_MulShift.j0 k t123 t125 t126 false)))) = some r := H
   have A9 := Aside0.mk A90
   clear A90
   replace H := Option.bind_eq_some_iff.mp H
   obtain ⟨⟨t127, t128⟩, A100, H⟩ := H
   replace H : (if (Go.bits .and .u64 t128 1) = 0 then (wide_MulShift.j0 k t123 t125 t126 true) else (if t123 = true then ((wide_exact.f t121 t122 (wrap64 ((ji4) - 1))).bind fun t129 => (wide_MulShift.j0 k t123 t125 t126 t129)) else (wide_MulShift.j0 k t123 t125 t126 false))) = some r := H
   have A10 := Aside0.mk A100
   clear A100
   have HC11 := Aside0.mk H
   clear H
   go_enter Tryd.func18, Tryd.ntmps18
   go_upto_region 9 with (first | ((with_reducible refine gate_callee (f := 22) rfl ?_); refine goesL_ (some 22) rfl rfl Tryd.func22 (by kernel_rfl) rfl #[.int .i64 a0, .int .i64 a1] rfl (by (try simp only [List.map_toArray, List.map_cons, List.map_nil]); first | done | rfl | (simp only [List.length_drop, List.length_take]; rfl)) ?_; (with_reducible refine (wide_product.calls a0 a1 t121 t122 t123 _ A6.out).mono ?_); rintro e w' ⟨rfl, ⟨nd, rfl⟩⟩; refine ⟨_, rfl, ?_⟩) | ((with_reducible refine gate_callee (f := 24) rfl ?_); refine goesL_ (some 36) rfl rfl Tryd.func24 (by kernel_rfl) rfl #[.int .u64 t121, .int .u64 t122, .int .i64 ji4] rfl (by (try simp only [List.map_toArray, List.map_cons, List.map_nil]); first | done | (simp only [hji4]; rfl) | (simp only [Int.tdiv_eq_ediv_of_nonneg hji4l]; rfl) | rfl | (simp only [List.length_drop, List.length_take]; rfl)) ?_; (with_reducible refine (wide_shift.calls t121 t122 ji4 t125 t126 _ A9.out).mono ?_); rintro e w' ⟨rfl, ⟨nd, rfl⟩⟩; refine ⟨_, rfl, ?_⟩) | ((with_reducible refine gate_callee (f := 24) rfl ?_); refine goesL_ (some 44) rfl rfl Tryd.func24 (by kernel_rfl) rfl #[.int .u64 t121, .int .u64 t122, .int .i64 (wrap64 ((ji4) - 1))] rfl (by (try simp only [List.map_toArray, List.map_cons, List.map_nil]); first | done | (simp only [hji4]; rfl) | (simp only [Int.tdiv_eq_ediv_of_nonneg hji4l]; rfl) | rfl | (simp only [List.length_drop, List.length_take]; rfl)) ?_; (with_reducible refine (wide_shift.calls t121 t122 (wrap64 ((ji4) - 1)) t127 t128 _ A10.out).mono ?_); rintro e w' ⟨rfl, ⟨nd, rfl⟩⟩; refine ⟨_, rfl, ?_⟩))
   (try simp only [Act.put, List.setIfInBounds_toArray, List.set_cons_zero, List.set_cons_succ])
   go_cut [59] (fun v59 wc => ∃ (kq : Nat) (x59_10 : Bool), v59 = .bool x59_10 ∧ Aside0 (wide_MulShift.j0 kq t123 t125 t126 x59_10 = some r) ∧ Aside0 (kq ≤ k) ∧ Aside0 (Below w.heap.size w wc))
   case first =>
    have H := HC11.out
    clear HC11
    by_cases c12 : (Go.bits .and .u64 t128 1) = 0
    ·rw [if_pos c12] at H
     have c12b0 : ((Go.bits .and .u64 t128 1) == 0) = true := beq_iff_eq.mpr c12
     have c12b1 : ((Go.bits .and .u64 t128 1) != 0) = false := bne_eq_false_iff_eq.mpr c12
     clear c12
     (first | rw [c12b0] | (simp only [i64_w, i32_w]; rw [c12b0]) | skip)
     have H' := Aside0.mk H
     clear H
     go_wp2
     go_meet
     case rel => exact ⟨_, (true), (by first | rfl | (simp; done) | (simp [*]; done)), H', ⟨by first | omega | exact Nat.le_refl _⟩, ⟨by repeat (first | (with_reducible first | exact HB.out | apply below_alloc | apply pw_below_drewN | apply below_drew1) | exact HB.out)⟩⟩
    ·rw [if_neg c12] at H
     have c12b0 : ((Go.bits .and .u64 t128 1) == 0) = false := beq_eq_false_iff_ne.mpr c12
     have c12b1 : ((Go.bits .and .u64 t128 1) != 0) = true := bne_iff_ne.mpr c12
     (first | rw [c12b0] | (simp only [i64_w, i32_w]; rw [c12b0]) | skip)
     by_cases c13 : t123 = true
     ·subst c13
      have H1 : ((wide_exact.f t121 t122 (wrap64 ((ji4) - 1))).bind fun t129 => (wide_MulShift.j0 k true t125 t126 t129)) = some r := by rw [if_pos rfl] at H; exact H
      clear H
      have H := H1
      clear H1
      replace H := Option.bind_eq_some_iff.mp H
      obtain ⟨t129, A140, H⟩ := H
      replace H : (wide_MulShift.j0 k true t125 t126 t129) = some r := H
      have A14 := Aside0.mk A140
      clear A140
      have H' := Aside0.mk H
      clear H
      go_wp2_with (first | (go_at_call 25; (with_reducible refine (wide_exact.calls t121 t122 (wrap64 ((ji4) - 1)) t129 _ A14.out).mono ?_); rintro e w' ⟨rfl, ⟨nd, rfl⟩⟩))
      go_meet
      case rel => exact ⟨_, (t129), (by first | rfl | (simp; done) | (simp [*]; done)), H', ⟨by first | omega | exact Nat.le_refl _⟩, ⟨by repeat (first | (with_reducible first | exact HB.out | apply below_alloc | apply pw_below_drewN | apply below_drew1) | exact HB.out)⟩⟩
     ·replace c13 := Bool.eq_false_iff.mpr c13
      subst c13
      have H1 : (wide_MulShift.j0 k false t125 t126 false) = some r := by rw [if_neg (show ¬ (false = true) by decide)] at H; exact H
      clear H
      have H := H1
      clear H1
      have H' := Aside0.mk H
      clear H
      go_wp2
      go_meet
      case rel => exact ⟨_, (false), (by first | rfl | (simp; done) | (simp [*]; done)), H', ⟨by first | omega | exact Nat.le_refl _⟩, ⟨by repeat (first | (with_reducible first | exact HB.out | apply below_alloc | apply pw_below_drewN | apply below_drew1) | exact HB.out)⟩⟩
   case rest =>
    clear HC11
    try clear c1
    try clear c2
    try clear p2
    try clear c5
    try clear c5b0
    try clear p6
    try clear c7
    try clear c7b0
    try clear c7b1
    try clear c12
    try clear c12b0
    try clear c12b1
    try clear c13
    obtain ⟨kq, x59_10, rfl, HA, HJ10, HB⟩ := hcut
    cases kq with
    | zero => exact absurd HA.out (by simp [wide_MulShift.j0])
    | succ kj10 =>
     have H := HA.out
     clear HA
     simp only [wide_MulShift.j0] at H
     by_cases c15 : x59_10 = true
     ·subst c15
      have H1 : ((wide_signed.f kj10 t125 t126 t123).bind fun t130 => (some t130)) = some r := by rw [if_pos rfl] at H; exact H
      clear H
      have H := H1
      clear H1
      replace H := Option.bind_eq_some_iff.mp H
      obtain ⟨t130, A160, H⟩ := H
      replace H : (some t130) = some r := H
      have A16 := Aside0.mk A160
      clear A160
      obtain rfl := Option.some.inj H
      go_wp2_with (first | ((with_reducible refine gate_callee (f := 23) rfl ?_); refine goesL_ (some 63) rfl rfl Tryd.func23 (by kernel_rfl) rfl #[.int .u64 t125, .int .u64 t126, .bool t123] rfl (by (try simp only [List.map_toArray, List.map_cons, List.map_nil]); first | done | rfl | (simp only [List.length_drop, List.length_take]; rfl)) ?_; (with_reducible refine (wide_signed.calls kj10 t125 t126 t123 t130 _ A16.out).mono ?_); rintro e w' ⟨rfl, ⟨nd, rfl⟩⟩; refine ⟨_, rfl, ?_⟩))
      go_ret
      exact ⟨by first | rfl | (simp [errW_none, errW_some] <;> rfl) | (simp only [← hji4]; first | rfl | (simp [errW_none, errW_some] <;> rfl)) | (simp [*, errW_none, errW_some] <;> rfl), by repeat (first | (with_reducible first | exact HB.out | apply below_alloc | apply pw_below_drewN | apply below_drew1) | exact HB.out)⟩
     ·replace c15 := Bool.eq_false_iff.mpr c15
      subst c15
      have H1 : ((wide_signed.f kj10 (IntKind.u64.wrap (t125 + (add64c t126 1 0))) (add64s t126 1 0) t123).bind fun t131 => (some t131)) = some r := by rw [if_neg (show ¬ (false = true) by decide)] at H; exact H
      clear H
      have H := H1
      clear H1
      replace H := Option.bind_eq_some_iff.mp H
      obtain ⟨t131, A170, H⟩ := H
      replace H : (some t131) = some r := H
      have A17 := Aside0.mk A170
      clear A170
      obtain rfl := Option.some.inj H
      go_wp2_with (first | ((with_reducible refine gate_callee (f := 23) rfl ?_); refine goesL_ (some 74) rfl rfl Tryd.func23 (by kernel_rfl) rfl #[.int .u64 (IntKind.u64.wrap (t125 + (add64c t126 1 0))), .int .u64 (add64s t126 1 0), .bool t123] rfl (by (try simp only [List.map_toArray, List.map_cons, List.map_nil]); first | done | rfl | (simp only [List.length_drop, List.length_take]; rfl)) ?_; (with_reducible refine (wide_signed.calls kj10 (IntKind.u64.wrap (t125 + (add64c t126 1 0))) (add64s t126 1 0) t123 t131 _ A17.out).mono ?_); rintro e w' ⟨rfl, ⟨nd, rfl⟩⟩; refine ⟨_, rfl, ?_⟩))
      go_ret
      exact ⟨by first | rfl | (simp [errW_none, errW_some] <;> rfl) | (simp only [← hji4]; first | rfl | (simp [errW_none, errW_some] <;> rfl)) | (simp [*, errW_none, errW_some] <;> rfl), by repeat (first | (with_reducible first | exact HB.out | apply below_alloc | apply pw_below_drewN | apply below_drew1) | exact HB.out)⟩
def sinc_Lanczos.j0 : Nat → Int → Int → Bool → Option (Int)
 | 0, _, _, _ => none
 | k + 1, x0, x1, x15 => if x15 = true then (some 0) else ((sinc_series.f k x0 x1).bind fun t134 => ((sinc_series.f k x0 (wrap64 (3 * x1))).bind fun t135 => ((wide_MulShift.f k t134 t135 40).bind fun t136 => ((fixed_Shift.f t136 10).bind fun t137 => (some t137)))))
def sinc_Lanczos.f (k : Nat) (a0 : Int) (a1 : Int) : Option (Int) := (sinc_May.f a0 a1).bind fun t132 => (if t132 = true then ((sinc_size.f a0).bind fun t133 => (sinc_Lanczos.j0 k a0 a1 (decide (t133 ≥ (wrap64 (3 * a1)))))) else (sinc_Lanczos.j0 k a0 a1 true))
theorem sinc_Lanczos.mono_l : ∀ k, (∀ y0 y1 y2, LeO (sinc_Lanczos.j0 k y0 y1 y2) (sinc_Lanczos.j0 (k + 1) y0 y1 y2))
 | 0 => fun _ _ _ r h => by simp [sinc_Lanczos.j0] at h
 | k + 1 => by
  have ih0 := sinc_Lanczos.mono_l k
  ·intro y0 y1 y2
   unfold sinc_Lanczos.j0
   repeat' first
   | (with_reducible exact ih0 _ _ _)
   | (with_reducible exact sinc_series.mono _ _ _)
   | (with_reducible exact wide_MulShift.mono _ _ _ _)
   | (with_reducible exact LeO.refl _)
   | (with_reducible exact LeO.none _)
   | (with_reducible refine LeO.ite ?_ ?_)
   | (with_reducible refine LeO.bind ?_ (fun _ => ?_))
   | exact ih0 _ _ _
   | exact sinc_series.mono _ _ _
   | exact wide_MulShift.mono _ _ _ _
   | exact LeO.none _
   | refine LeO.ite ?_ ?_
   | refine LeO.bind ?_ (fun _ => ?_)
theorem sinc_Lanczos.mono : ∀ a0 a1 k, LeO (sinc_Lanczos.f k a0 a1) (sinc_Lanczos.f (k + 1) a0 a1) := by
 intro a0 a1 k
 have ih0 := sinc_Lanczos.mono_l k
 unfold sinc_Lanczos.f
 repeat' first
   | (with_reducible exact ih0 _ _ _)
   | (with_reducible exact sinc_series.mono _ _ _)
   | (with_reducible exact wide_MulShift.mono _ _ _ _)
   | (with_reducible exact LeO.refl _)
   | (with_reducible exact LeO.none _)
   | (with_reducible refine LeO.ite ?_ ?_)
   | (with_reducible refine LeO.bind ?_ (fun _ => ?_))
   | exact ih0 _ _ _
   | exact sinc_series.mono _ _ _
   | exact wide_MulShift.mono _ _ _ _
   | exact LeO.none _
   | refine LeO.ite ?_ ?_
   | refine LeO.bind ?_ (fun _ => ?_)
set_option maxHeartbeats 8000000 in
set_option maxRecDepth 100000 in
theorem sinc_Lanczos.calls (k : Nat) (a0 : Int) (a1 : Int) (r : Int) (w : World) (h : sinc_Lanczos.f k a0 a1 = some r) :
  Calls Tryd.prog 10 #[.int .i64 a0, .int .i64 a1] w fun e w' => e = .returned (.int .i64 r) ∧ Below w.heap.size w w' := by
 have HB := Aside0.mk (Below.refl w.heap.size w)
 have H : ((sinc_May.f a0 a1).bind fun t132 => (if t132 = true then ((sinc_size.f a0).bind fun t133 => (sinc_Lanczos.j0 k a0 a1 (decide (t133 ≥ (wrap64 (3 * a1)))))) else (sinc_Lanczos.j0 k a0 a1 true))) = some r := h
 clear h
 have HC3 := Aside0.mk H
 clear H
 go_enter Tryd.func10, Tryd.ntmps10
 go_upto_region 1 with (fail)
 go_cut [15] (fun v15 wc => ∃ (kq : Nat) (x15_2 : Bool), v15 = .bool x15_2 ∧ Aside0 (sinc_Lanczos.j0 kq a0 a1 x15_2 = some r) ∧ Aside0 (kq ≤ k) ∧ Aside0 (Below w.heap.size w wc))
 case first =>
  have H := HC3.out
  clear HC3
  replace H := Option.bind_eq_some_iff.mp H
  obtain ⟨t132, A40, H⟩ := H
  replace H : (if t132 = true then ((sinc_size.f a0).bind fun t133 => (sinc_Lanczos.j0 k a0 a1 (decide (t133 ≥ (wrap64 (3 * a1)))))) else (sinc_Lanczos.j0 k a0 a1 true)) = some r := H
  have A4 := Aside0.mk A40
  clear A40
  by_cases c5 : t132 = true
  ·subst c5
   have H1 : ((sinc_size.f a0).bind fun t133 => (sinc_Lanczos.j0 k a0 a1 (decide (t133 ≥ (wrap64 (3 * a1)))))) = some r := by rw [if_pos rfl] at H; exact H
   clear H
   have H := H1
   clear H1
   replace H := Option.bind_eq_some_iff.mp H
   obtain ⟨t133, A60, H⟩ := H
   replace H : (sinc_Lanczos.j0 k a0 a1 (decide (t133 ≥ (wrap64 (3 * a1))))) = some r := H
   have A6 := Aside0.mk A60
   clear A60
   have H' := Aside0.mk H
   clear H
   go_wp2_with (first | ((with_reducible refine gate_callee (f := 11) rfl ?_); refine goesL_ (some 7) rfl rfl Tryd.func11 (by kernel_rfl) rfl #[.int .i64 a0, .int .i64 a1] rfl (by (try simp only [List.map_toArray, List.map_cons, List.map_nil]); first | done | rfl | (simp only [List.length_drop, List.length_take]; rfl)) ?_; (with_reducible refine (sinc_May.calls a0 a1 true _ A4.out).mono ?_); rintro e w' ⟨rfl, ⟨nd, rfl⟩⟩; refine ⟨_, rfl, ?_⟩) | (go_at_call 16; (with_reducible refine (sinc_size.calls a0 t133 _ A6.out).mono ?_); rintro e w7 ⟨rfl, hb⟩; have n0_ := Aside0.mk (below_step (by repeat (first | (with_reducible first | exact HB.out | apply below_alloc | apply pw_below_drewN | apply below_drew1) | exact HB.out)) hb); clear HB; have HB := n0_; clear n0_; (try clear hb); (try clear hb2); (try clear hk); (try clear hi)))
   go_meet
   case rel => exact ⟨_, (decide (t133 ≥ (wrap64 (3 * a1)))), (by first | rfl | (simp; done) | (simp [*]; done)), H', ⟨by first | omega | exact Nat.le_refl _⟩, ⟨by repeat (first | (with_reducible first | exact HB.out | apply below_alloc | apply pw_below_drewN | apply below_drew1) | exact HB.out)⟩⟩
  ·replace c5 := Bool.eq_false_iff.mpr c5
   subst c5
   have H1 : (sinc_Lanczos.j0 k a0 a1 true) = some r := by rw [if_neg (show ¬ (false = true) by decide)] at H; exact H
   clear H
   have H := H1
   clear H1
   have H' := Aside0.mk H
   clear H
   go_wp2_with (first | ((with_reducible refine gate_callee (f := 11) rfl ?_); refine goesL_ (some 7) rfl rfl Tryd.func11 (by kernel_rfl) rfl #[.int .i64 a0, .int .i64 a1] rfl (by (try simp only [List.map_toArray, List.map_cons, List.map_nil]); first | done | rfl | (simp only [List.length_drop, List.length_take]; rfl)) ?_; (with_reducible refine (sinc_May.calls a0 a1 false _ A4.out).mono ?_); rintro e w' ⟨rfl, ⟨nd, rfl⟩⟩; refine ⟨_, rfl, ?_⟩))
   go_meet
   case rel => exact ⟨_, (true), (by first | rfl | (simp; done) | (simp [*]; done)), H', ⟨by first | omega | exact Nat.le_refl _⟩, ⟨by repeat (first | (with_reducible first | exact HB.out | apply below_alloc | apply pw_below_drewN | apply below_drew1) | exact HB.out)⟩⟩
 case rest =>
  clear HC3
  try clear c1
  try clear p2
  try clear c5
  try clear p6
  obtain ⟨kq, x15_2, rfl, HA, HJ2, HB⟩ := hcut
  cases kq with
  | zero => exact absurd HA.out (by simp [sinc_Lanczos.j0])
  | succ kj2 =>
   have H := HA.out
   clear HA
   simp only [sinc_Lanczos.j0] at H
   by_cases c8 : x15_2 = true
   ·subst c8
    have H1 : (some 0) = some r := by rw [if_pos rfl] at H; exact H
    clear H
    have H := H1
    clear H1
    obtain rfl := Option.some.inj H
    go_wp2
    go_ret
    exact ⟨by first | rfl | (simp [errW_none, errW_some] <;> rfl) | (simp [*, errW_none, errW_some] <;> rfl), by repeat (first | (with_reducible first | exact HB.out | apply below_alloc | apply pw_below_drewN | apply below_drew1) | exact HB.out)⟩
   ·replace c8 := Bool.eq_false_iff.mpr c8
    subst c8
    have H1 : ((sinc_series.f kj2 a0 a1).bind fun t134 => ((sinc_series.f kj2 a0 (wrap64 (3 * a1))).bind fun t135 => ((wide_MulShift.f kj2 t134 t135 40).bind fun t136 => ((fixed_Shift.f t136 10).bind fun t137 => (some t137))))) = some r := by rw [if_neg (show ¬ (false = true) by decide)] at H; exact H
    clear H
    have H := H1
    clear H1
    replace H := Option.bind_eq_some_iff.mp H
    obtain ⟨t134, A90, H⟩ := H
    replace H : ((sinc_series.f kj2 a0 (wrap64 (3 * a1))).bind fun t135 => ((wide_MulShift.f kj2 t134 t135 40).bind fun t136 => ((fixed_Shift.f t136 10).bind fun t137 => (some t137)))) = some r := H
    have A9 := Aside0.mk A90
    clear A90
    replace H := Option.bind_eq_some_iff.mp H
    obtain ⟨t135, A100, H⟩ := H
    replace H : ((wide_MulShift.f kj2 t134 t135 40).bind fun t136 => ((fixed_Shift.f t136 10).bind fun t137 => (some t137))) = some r := H
    have A10 := Aside0.mk A100
    clear A100
    replace H := Option.bind_eq_some_iff.mp H
    obtain ⟨t136, A110, H⟩ := H
    replace H : ((fixed_Shift.f t136 10).bind fun t137 => (some t137)) = some r := H
    have A11 := Aside0.mk A110
    clear A110
    replace H := Option.bind_eq_some_iff.mp H
    obtain ⟨t137, A120, H⟩ := H
    replace H : (some t137) = some r := H
    have A12 := Aside0.mk A120
    clear A120
    obtain rfl := Option.some.inj H
    go_wp2_with (first | ((with_reducible refine gate_callee (f := 12) rfl ?_); refine goesL_ (some 18) rfl rfl Tryd.func12 (by kernel_rfl) rfl #[.int .i64 a0, .int .i64 a1] rfl (by (try simp only [List.map_toArray, List.map_cons, List.map_nil]); first | done | rfl | (simp only [List.length_drop, List.length_take]; rfl)) ?_; (with_reducible refine (sinc_series.calls kj2 a0 a1 t134 _ A9.out).mono ?_); rintro e w13 ⟨rfl, hb⟩; refine ⟨_, rfl, ?_⟩; have n0_ := Aside0.mk (below_step (by repeat (first | (with_reducible first | exact HB.out | apply below_alloc | apply pw_below_drewN | apply below_drew1) | exact HB.out)) hb); clear HB; have HB := n0_; clear n0_; (try clear hb); (try clear hb2); (try clear hk); (try clear hi)) | ((with_reducible refine gate_callee (f := 12) rfl ?_); refine goesL_ (some 22) rfl rfl Tryd.func12 (by kernel_rfl) rfl #[.int .i64 a0, .int .i64 (wrap64 (3 * a1))] rfl (by (try simp only [List.map_toArray, List.map_cons, List.map_nil]); first | done | rfl | (simp only [List.length_drop, List.length_take]; rfl)) ?_; (with_reducible refine (sinc_series.calls kj2 a0 (wrap64 (3 * a1)) t135 _ A10.out).mono ?_); rintro e w14 ⟨rfl, hb⟩; refine ⟨_, rfl, ?_⟩; have n0_ := Aside0.mk (below_step (by repeat (first | (with_reducible first | exact HB.out | apply below_alloc | apply pw_below_drewN | apply below_drew1) | exact HB.out)) hb); clear HB; have HB := n0_; clear n0_; (try clear hb); (try clear hb2); (try clear hk); (try clear hi)) | ((with_reducible refine gate_callee (f := 18) rfl ?_); refine goesL_ (some 23) rfl rfl Tryd.func18 (by kernel_rfl) rfl #[.int .i64 t134, .int .i64 t135, .int .i64 40] rfl (by (try simp only [List.map_toArray, List.map_cons, List.map_nil]); first | done | rfl | (simp only [List.length_drop, List.length_take]; rfl)) ?_; (with_reducible refine (wide_MulShift.calls kj2 t134 t135 40 t136 _ A11.out).mono ?_); rintro e w15 ⟨rfl, hb⟩; refine ⟨_, rfl, ?_⟩; have n0_ := Aside0.mk (below_step (by repeat (first | (with_reducible first | exact HB.out | apply below_alloc | apply pw_below_drewN | apply below_drew1) | exact HB.out)) hb); clear HB; have HB := n0_; clear n0_; (try clear hb); (try clear hb2); (try clear hk); (try clear hi)) | ((with_reducible refine gate_callee (f := 17) rfl ?_); refine goesL_ (some 24) rfl rfl Tryd.func17 (by kernel_rfl) rfl #[.int .i64 t136, .int .i64 10] rfl (by (try simp only [List.map_toArray, List.map_cons, List.map_nil]); first | done | rfl | (simp only [List.length_drop, List.length_take]; rfl)) ?_; (with_reducible refine (fixed_Shift.calls t136 10 t137 _ A12.out).mono ?_); rintro e w' ⟨rfl, ⟨nd, rfl⟩⟩; refine ⟨_, rfl, ?_⟩))
    go_ret
    exact ⟨by first | rfl | (simp [errW_none, errW_some] <;> rfl) | (simp [*, errW_none, errW_some] <;> rfl), by repeat (first | (with_reducible first | exact HB.out | apply below_alloc | apply pw_below_drewN | apply below_drew1) | exact HB.out)⟩
end Go.Proofs.YtcfpfaakbomcnaaDoor.QA

namespace Go.Proofs.YtcfpfaakbomcnaaDoor.QA
open Go.Proofs.YtcfpfaakbomcnaaDoor.T
open Go.RowKit Go.Proofs.YtcfpfaakbomcnaaDoorW.PrintWords Go.Proofs.YtcfpfaakbomcnaaDoorW.PrintLast Go.Proofs.YtcfpfaakbomcnaaDoorW.PrintMore
attribute [local go_sem] ext_call max2_int min2_int max_two min_two max_three min_three max_four min_four   -- for this text's walks alone
set_option linter.unusedVariables false
set_option linter.unusedSimpArgs false
def smaltolaw04_lives.f (k : Nat)  : Option (Bool) := (sinc_Sinc.f k 0 5).bind fun t138 => (if t138 = 1099511627776 then ((sinc_Lanczos.f k 0 1).bind fun t139 => (if t139 = 1073741824 then ((sinc_Lanczos.f k 3 1).bind fun t140 => (some (t140 == 0))) else (some false))) else (some false))
theorem smaltolaw04_lives.mono : ∀ k, LeO (smaltolaw04_lives.f k ) (smaltolaw04_lives.f (k + 1) ) := by
 intro  k
 unfold smaltolaw04_lives.f
 repeat' first
   | (with_reducible exact sinc_Lanczos.mono _ _ _)
   | (with_reducible exact sinc_Sinc.mono _ _ _)
   | (with_reducible exact LeO.refl _)
   | (with_reducible exact LeO.none _)
   | (with_reducible refine LeO.ite ?_ ?_)
   | (with_reducible refine LeO.bind ?_ (fun _ => ?_))
   | exact sinc_Lanczos.mono _ _ _
   | exact sinc_Sinc.mono _ _ _
   | exact LeO.none _
   | refine LeO.ite ?_ ?_
   | refine LeO.bind ?_ (fun _ => ?_)
set_option maxHeartbeats 8000000 in
set_option maxRecDepth 100000 in
theorem smaltolaw04_lives.calls (k : Nat)  (r : Bool) (w : World) (h : smaltolaw04_lives.f k  = some r) :
  Calls Tryd.prog 5 #[] w fun e w' => e = .returned (.bool r) ∧ Below w.heap.size w w' := by
 have HB := Aside0.mk (Below.refl w.heap.size w)
 have H : ((sinc_Sinc.f k 0 5).bind fun t138 => (if t138 = 1099511627776 then ((sinc_Lanczos.f k 0 1).bind fun t139 => (if t139 = 1073741824 then ((sinc_Lanczos.f k 3 1).bind fun t140 => (some (t140 == 0))) else (some false))) else (some false))) = some r := h
 clear h
 replace H := Option.bind_eq_some_iff.mp H
 obtain ⟨t138, A10, H⟩ := H
 replace H : (if t138 = 1099511627776 then ((sinc_Lanczos.f k 0 1).bind fun t139 => (if t139 = 1073741824 then ((sinc_Lanczos.f k 3 1).bind fun t140 => (some (t140 == 0))) else (some false))) else (some false)) = some r := H
 have A1 := Aside0.mk A10
 clear A10
 by_cases c2 : t138 = 1099511627776
 ·rw [if_pos c2] at H
  have c2b0 : (t138 == 1099511627776) = true := beq_iff_eq.mpr c2
  have c2b1 : (t138 != 1099511627776) = false := bne_eq_false_iff_eq.mpr c2
  clear c2
  replace H := Option.bind_eq_some_iff.mp H
  obtain ⟨t139, A30, H⟩ := H
  replace H : (if t139 = 1073741824 then ((sinc_Lanczos.f k 3 1).bind fun t140 => (some (t140 == 0))) else (some false)) = some r := H
  have A3 := Aside0.mk A30
  clear A30
  by_cases c4 : t139 = 1073741824
  ·rw [if_pos c4] at H
   have c4b0 : (t139 == 1073741824) = true := beq_iff_eq.mpr c4
   have c4b1 : (t139 != 1073741824) = false := bne_eq_false_iff_eq.mpr c4
   clear c4
   replace H := Option.bind_eq_some_iff.mp H
   obtain ⟨t140, A50, H⟩ := H
   replace H : (some (t140 == 0)) = some r := H
   have A5 := Aside0.mk A50
   clear A50
   obtain rfl := Option.some.inj H
   go_enter Tryd.func5, Tryd.ntmps5
   go_wp2_with (first | ((with_reducible refine gate_callee (f := 7) rfl ?_); refine goesL_ (some 1) rfl rfl Tryd.func7 (by kernel_rfl) rfl #[.int .i64 0, .int .i64 5] rfl (by (try simp only [List.map_toArray, List.map_cons, List.map_nil]); first | done | rfl | (simp only [List.length_drop, List.length_take]; rfl)) ?_; (with_reducible refine (sinc_Sinc.calls k 0 5 t138 _ A1.out).mono ?_); rintro e w6 ⟨rfl, hb⟩; refine ⟨_, rfl, ?_⟩; have n0_ := Aside0.mk (below_step (by repeat (first | (with_reducible first | exact HB.out | apply below_alloc | apply pw_below_drewN | apply below_drew1) | exact HB.out)) hb); clear HB; have HB := n0_; clear n0_; (try clear hb); (try clear hb2); (try clear hk); (try clear hi)) | (go_at_call 10; (with_reducible refine (sinc_Lanczos.calls k 0 1 t139 _ A3.out).mono ?_); rintro e w7 ⟨rfl, hb⟩; have n0_ := Aside0.mk (below_step (by repeat (first | (with_reducible first | exact HB.out | apply below_alloc | apply pw_below_drewN | apply below_drew1) | exact HB.out)) hb); clear HB; have HB := n0_; clear n0_; (try clear hb); (try clear hb2); (try clear hk); (try clear hi)) | (go_at_call 10; (with_reducible refine (sinc_Lanczos.calls k 3 1 t140 _ A5.out).mono ?_); rintro e w8 ⟨rfl, hb⟩; have n0_ := Aside0.mk (below_step (by repeat (first | (with_reducible first | exact HB.out | apply below_alloc | apply pw_below_drewN | apply below_drew1) | exact HB.out)) hb); clear HB; have HB := n0_; clear n0_; (try clear hb); (try clear hb2); (try clear hk); (try clear hi)))
   go_ret
   exact ⟨by first | rfl | (simp [errW_none, errW_some] <;> rfl) | (simp [*, errW_none, errW_some] <;> rfl), by repeat (first | (with_reducible first | exact HB.out | apply below_alloc | apply pw_below_drewN | apply below_drew1) | exact HB.out)⟩
  ·rw [if_neg c4] at H
   have c4b0 : (t139 == 1073741824) = false := beq_eq_false_iff_ne.mpr c4
   have c4b1 : (t139 != 1073741824) = true := bne_iff_ne.mpr c4
   obtain rfl := Option.some.inj H
   go_enter Tryd.func5, Tryd.ntmps5
   go_wp2_with (first | ((with_reducible refine gate_callee (f := 7) rfl ?_); refine goesL_ (some 1) rfl rfl Tryd.func7 (by kernel_rfl) rfl #[.int .i64 0, .int .i64 5] rfl (by (try simp only [List.map_toArray, List.map_cons, List.map_nil]); first | done | rfl | (simp only [List.length_drop, List.length_take]; rfl)) ?_; (with_reducible refine (sinc_Sinc.calls k 0 5 t138 _ A1.out).mono ?_); rintro e w9 ⟨rfl, hb⟩; refine ⟨_, rfl, ?_⟩; have n0_ := Aside0.mk (below_step (by repeat (first | (with_reducible first | exact HB.out | apply below_alloc | apply pw_below_drewN | apply below_drew1) | exact HB.out)) hb); clear HB; have HB := n0_; clear n0_; (try clear hb); (try clear hb2); (try clear hk); (try clear hi)) | (go_at_call 10; (with_reducible refine (sinc_Lanczos.calls k 0 1 t139 _ A3.out).mono ?_); rintro e w10 ⟨rfl, hb⟩; have n0_ := Aside0.mk (below_step (by repeat (first | (with_reducible first | exact HB.out | apply below_alloc | apply pw_below_drewN | apply below_drew1) | exact HB.out)) hb); clear HB; have HB := n0_; clear n0_; (try clear hb); (try clear hb2); (try clear hk); (try clear hi)))
   go_ret
   exact ⟨by first | rfl | (simp [errW_none, errW_some] <;> rfl) | (simp [*, errW_none, errW_some] <;> rfl), by repeat (first | (with_reducible first | exact HB.out | apply below_alloc | apply pw_below_drewN | apply below_drew1) | exact HB.out)⟩
 ·rw [if_neg c2] at H
  have c2b0 : (t138 == 1099511627776) = false := beq_eq_false_iff_ne.mpr c2
  have c2b1 : (t138 != 1099511627776) = true := bne_iff_ne.mpr c2
  obtain rfl := Option.some.inj H
  go_enter Tryd.func5, Tryd.ntmps5
  go_wp2_with (first | ((with_reducible refine gate_callee (f := 7) rfl ?_); refine goesL_ (some 1) rfl rfl Tryd.func7 (by kernel_rfl) rfl #[.int .i64 0, .int .i64 5] rfl (by (try simp only [List.map_toArray, List.map_cons, List.map_nil]); first | done | rfl | (simp only [List.length_drop, List.length_take]; rfl)) ?_; (with_reducible refine (sinc_Sinc.calls k 0 5 t138 _ A1.out).mono ?_); rintro e w11 ⟨rfl, hb⟩; refine ⟨_, rfl, ?_⟩; have n0_ := Aside0.mk (below_step (by repeat (first | (with_reducible first | exact HB.out | apply below_alloc | apply pw_below_drewN | apply below_drew1) | exact HB.out)) hb); clear HB; have HB := n0_; clear n0_; (try clear hb); (try clear hb2); (try clear hk); (try clear hi)))
  go_ret
  exact ⟨by first | rfl | (simp [errW_none, errW_some] <;> rfl) | (simp [*, errW_none, errW_some] <;> rfl), by repeat (first | (with_reducible first | exact HB.out | apply below_alloc | apply pw_below_drewN | apply below_drew1) | exact HB.out)⟩
def smaltolaw04_fraction.f (a0 : Int) (a1 : Int) : Option (Int × Int) := if (wrap64 ((wrap64 (4 * (wrap64 (1 + (Go.bits .and .i64 a1 1048575))))) + 1)) = 0 then (none) else (some (Int.tmod a0 (wrap64 ((wrap64 (4 * (wrap64 (1 + (Go.bits .and .i64 a1 1048575))))) + 1)), wrap64 (1 + (Go.bits .and .i64 a1 1048575))))
set_option maxHeartbeats 8000000 in
set_option maxRecDepth 100000 in
theorem smaltolaw04_fraction.calls (a0 : Int) (a1 : Int) (r1 : Int) (r2 : Int) (w : World) (h : smaltolaw04_fraction.f a0 a1 = some (r1, r2)) :
  Calls Tryd.prog 6 #[.int .i64 a0, .int .i64 a1] w fun e w' => e = .returned (.tuple #[.int .i64 r1, .int .i64 r2]) ∧ Drawn0 w w' := by
 have H : (if (wrap64 ((wrap64 (4 * (wrap64 (1 + (Go.bits .and .i64 a1 1048575))))) + 1)) = 0 then (none) else (some (Int.tmod a0 (wrap64 ((wrap64 (4 * (wrap64 (1 + (Go.bits .and .i64 a1 1048575))))) + 1)), wrap64 (1 + (Go.bits .and .i64 a1 1048575))))) = some (r1, r2) := h
 clear h
 by_cases c3 : (wrap64 ((wrap64 (4 * (wrap64 (1 + (Go.bits .and .i64 a1 1048575))))) + 1)) = 0
 ·rw [if_pos c3] at H
  exact absurd H (by simp)
 ·rw [if_neg c3] at H
  have c3b0 : ((wrap64 ((wrap64 (4 * (wrap64 (1 + (Go.bits .and .i64 a1 1048575))))) + 1)) == 0) = false := beq_eq_false_iff_ne.mpr c3
  have c3b1 : ((wrap64 ((wrap64 (4 * (wrap64 (1 + (Go.bits .and .i64 a1 1048575))))) + 1)) != 0) = true := bne_iff_ne.mpr c3
  simp only [Option.some.injEq, Prod.mk.injEq] at H
  obtain ⟨rfl, rfl⟩ := H
  go_enter Tryd.func6, Tryd.ntmps6
  go_wp2
  go_ret2
  exact ⟨by first | rfl | (simp; done) | (simp [*]; done), by repeat (first | exact Drawn0.refl _ | apply Drawn0.step)⟩
end Go.Proofs.YtcfpfaakbomcnaaDoor.QA

namespace Go.Proofs.YtcfpfaakbomcnaaDoor.T
open Go.RowKit Go.Proofs.YtcfpfaakbomcnaaDoorW.PrintWords Go.Proofs.YtcfpfaakbomcnaaDoorW.PrintLast Go.Proofs.YtcfpfaakbomcnaaDoorW.PrintMore
theorem u64w (n : Int) : IntKind.u64.wrap n = n % 18446744073709551616 := by simp [IntKind.wrap, IntKind.bits, IntKind.signed]
theorem i64w (n : Int) : IntKind.i64.wrap n = wrap64 n := by rw [IntKind.wrap_i64]; unfold wrap64; omega
theorem wf64 {x : Int} (h : (Lit.int .i64 x).wf = true) : -9223372036854775808 ≤ x ∧ x ≤ 9223372036854775807 := by
  simp [Lit.wf, IntKind.min, IntKind.max, IntKind.bits, IntKind.signed] at h; exact h
theorem w64_id {x : Int} (h0 : -9223372036854775808 ≤ x) (h1 : x ≤ 9223372036854775807) : wrap64 x = x := by unfold wrap64; omega
/-- Masks of low bits, of any sign. -/
theorem and_mask (k : IntKind) (x : Int) (i : Nat) (hi : i ≤ k.bits) (hw : k.wrap (x % 2 ^ i) = x % 2 ^ i) : bits .and k x (2 ^ i - 1) = x % 2 ^ i := by
  have hc : ((2 : Int) ^ i - 1) = ((2 ^ i - 1 : Nat) : Int) := by
    rw [Int.natCast_sub (Nat.two_pow_pos i)]; simp
  have h1 : (BitVec.ofInt k.bits (2 ^ i - 1)).toNat = 2 ^ i - 1 := by
    rw [hc, BitVec.ofInt_natCast, BitVec.toNat_ofNat, Nat.mod_eq_of_lt]
    exact Nat.lt_of_lt_of_le (Nat.sub_lt (Nat.two_pow_pos i) (by decide)) (Nat.pow_le_pow_right (by decide) hi)
  have h2 : (((BitVec.ofInt k.bits x).toNat : Nat) : Int) = x % 2 ^ k.bits := by
    rw [BitVec.toNat_ofInt, Int.toNat_of_nonneg (Int.emod_nonneg _ (by have := Nat.two_pow_pos k.bits; omega))]
    simp
  have h3 : ((((BitVec.ofInt k.bits x) &&& (BitVec.ofInt k.bits (2 ^ i - 1))).toNat : Nat) : Int) = x % 2 ^ i := by
    rw [BitVec.toNat_and, h1, Nat.and_two_pow_sub_one_eq_mod]
    rw [Int.natCast_emod, h2]
    simp only [Int.natCast_pow, Int.cast_ofNat_Int]
    exact Int.emod_emod_of_dvd x ⟨2 ^ (k.bits - i), by rw [← Int.pow_add]; congr 1; omega⟩
  simp only [bits]
  rw [h3, hw]
theorem u64and1 (x : Int) : bits .and .u64 x 1 = x % 2 := by
  have := and_mask .u64 x 1 (by decide) (by rw [u64w]; omega)
  simpa using this
theorem i64and1 (x : Int) : bits .and .i64 x 1 = x % 2 := by
  have := and_mask .i64 x 1 (by decide) (by rw [i64w]; unfold wrap64; omega)
  simpa using this
theorem u64and32 (x : Int) : bits .and .u64 x 4294967295 = x % 4294967296 := by
  have := and_mask .u64 x 32 (by decide) (by rw [u64w]; omega)
  simpa using this
/-- Held within 64 bits. -/
def hold (m : Int) : Int := if m < -9223372036854775808 then -9223372036854775808 else if m > 9223372036854775807 then 9223372036854775807 else m
theorem hold_ge (m : Int) : -9223372036854775808 ≤ hold m := by unfold hold; split <;> (try split) <;> omega
theorem hold_le (m : Int) : hold m ≤ 9223372036854775807 := by unfold hold; split <;> (try split) <;> omega
theorem hold_id {m : Int} (h0 : -9223372036854775808 ≤ m) (h1 : m ≤ 9223372036854775807) : hold m = m := by unfold hold; rw [if_neg (by omega), if_neg (by omega)]
/-- The quotient downwards, of any signs. -/
def flo (a b : Int) : Int := if 0 < b then a / b else (-a) / (-b)
/-- The nearest number to a quotient; of two the greater one. -/
def rdiv (a b : Int) : Int := if 0 < b then (2 * a + b) / (2 * b) else (2 * (-a) + (-b)) / (2 * (-b))
/-- Without sign. -/
def siz (x : Int) : Int := if x < 0 then -x else x
/-- Rounded, without sign: the half goes up (of a number that isn't below), or down (of one that is). -/
theorem near_up {p d : Int} (_hp : 0 ≤ p) (hd : 0 < d) : (2 * p + d) / (2 * d) = if p % d ≥ d - p % d then p / d + 1 else p / d := by
  have e := Int.mul_ediv_add_emod p d
  have r0 := Int.emod_nonneg p (Int.ne_of_gt hd)
  have r1 := Int.emod_lt_of_pos p hd
  have e2 : 2 * p + d = (2 * d) * (p / d) + (2 * (p % d) + d) := by rw [Int.mul_assoc]; omega
  rw [e2, Int.add_comm, Int.add_mul_ediv_left _ _ (by omega)]
  split
  · have : (2 * (p % d) + d) / (2 * d) = 1 := by
      rw [show 2 * (p % d) + d = (2 * (p % d) - d) + (2 * d) * 1 from by omega, Int.add_mul_ediv_left _ _ (by omega), Int.ediv_eq_zero_of_lt (by omega) (by omega)]; omega
    omega
  · have : (2 * (p % d) + d) / (2 * d) = 0 := Int.ediv_eq_zero_of_lt (by omega) (by omega)
    omega
theorem near_dn {p d : Int} (_hp : 0 ≤ p) (hd : 0 < d) : (2 * (-p) + d) / (2 * d) = if p % d > d - p % d then -(p / d + 1) else -(p / d) := by
  have e := Int.mul_ediv_add_emod p d
  have r0 := Int.emod_nonneg p (Int.ne_of_gt hd)
  have r1 := Int.emod_lt_of_pos p hd
  have e2 : 2 * (-p) + d = (2 * d) * (-(p / d)) + (d - 2 * (p % d)) := by rw [Int.mul_assoc, Int.mul_neg, Int.mul_neg]; omega
  rw [e2, Int.add_comm, Int.add_mul_ediv_left _ _ (by omega)]
  split
  · have : (d - 2 * (p % d)) / (2 * d) = -1 := by
      rw [show d - 2 * (p % d) = (3 * d - 2 * (p % d)) + (2 * d) * (-1) from by omega, Int.add_mul_ediv_left _ _ (by omega), Int.ediv_eq_zero_of_lt (by omega) (by omega)]; omega
    omega
  · have : (d - 2 * (p % d)) / (2 * d) = 0 := Int.ediv_eq_zero_of_lt (by omega) (by omega)
    omega
/-- A product's or a number's sign. -/
def sgn (below : Bool) (m : Int) : Int := if below = true then -m else m
theorem sgn_siz2 (a b : Int) : sgn ((decide (a < 0)) != (decide (b < 0))) (siz a * siz b) = a * b := by
  unfold sgn siz
  by_cases h : a < 0 <;> by_cases k : b < 0 <;> simp [h, k, Int.neg_mul, Int.mul_neg]
theorem sgn_xor (x : Bool) (d p : Int) (_hd : d ≠ 0) : rdiv (sgn (x != decide (d < 0)) p) (siz d) = rdiv (sgn x p) d := by
  unfold sgn siz rdiv
  by_cases k : d < 0
  · rw [if_pos k]
    rw [if_pos (show 0 < -d from by omega), if_neg (show ¬ 0 < d from by omega)]
    cases x <;> simp [k]
  · simp [k]
theorem rdiv_sgn (below : Bool) {p d : Int} (hp : 0 ≤ p) (hd : 0 < d) :
    rdiv (sgn below p) d = sgn below (if below = true then (if p % d > d - p % d then p / d + 1 else p / d) else (if p % d ≥ d - p % d then p / d + 1 else p / d)) := by
  unfold rdiv sgn
  rw [if_pos hd]
  cases below
  · simp only [Bool.false_eq_true, if_false]; exact near_up hp hd
  · simp only [if_true]; rw [near_dn hp hd]; split <;> rfl
/-- Within 64 bits; without sign. -/
abbrev I64 (x : Int) : Prop := -9223372036854775808 ≤ x ∧ x ≤ 9223372036854775807
abbrev U64 (x : Int) : Prop := 0 ≤ x ∧ x < 18446744073709551616
theorem siz_u {a : Int} (h : I64 a) : 0 ≤ siz a ∧ siz a ≤ 9223372036854775808 := by unfold siz; split <;> omega
theorem siz_zero {a : Int} : siz a = 0 ↔ a = 0 := by unfold siz; split <;> omega
theorem hold_i (m : Int) : I64 (hold m) := ⟨hold_ge m, hold_le m⟩
/-- What is left. -/
def md (a b : Int) : Int := if b = 0 then 0 else if 0 < b then a % b else -((-a) % (-b))
/-- By bits, rounded. -/
def sh (x n : Int) : Int := if n ≤ 0 then x else rdiv x (2 ^ n.toNat)
theorem pow_pos (n : Nat) : (0 : Int) < 2 ^ n := Int.pow_pos (by decide)
theorem pow_succ2 (n : Nat) : (2 : Int) ^ (n + 1) = 2 * 2 ^ n := by rw [Int.pow_succ, Int.mul_comm]
theorem pow_le {m n : Nat} (h : m ≤ n) : (2 : Int) ^ m ≤ 2 ^ n := by
  obtain ⟨d, rfl⟩ := Nat.exists_eq_add_of_le h
  rw [Int.pow_add]
  have h1 := pow_pos m
  have h2 := pow_pos d
  calc (2 : Int) ^ m = 2 ^ m * 1 := by rw [Int.mul_one]
    _ ≤ 2 ^ m * 2 ^ d := Int.mul_le_mul_of_nonneg_left (by omega) (by omega)
/-- Rounded by a power of two: the part below and its highest bit. -/
theorem rdiv_pow (x : Int) (n : Nat) (hn : 1 ≤ n) : rdiv x (2 ^ n) = x / 2 ^ n + x / 2 ^ (n - 1) % 2 := by
  obtain ⟨m, rfl⟩ : ∃ m, n = m + 1 := ⟨n - 1, by omega⟩
  rw [Nat.add_sub_cancel]
  have hp := pow_pos m
  unfold rdiv
  rw [if_pos (pow_pos _), pow_succ2]
  have e1 : (2 * x + 2 * 2 ^ m) / (2 * (2 * 2 ^ m)) = (x + 2 ^ m) / (2 * 2 ^ m) := by
    rw [← Int.mul_add]; exact Int.mul_ediv_mul_of_pos _ _ (by omega)
  have e2 : (x + 2 ^ m) / (2 * 2 ^ m) = (x / 2 ^ m + 1) / 2 := by
    rw [Int.mul_comm, ← Int.ediv_ediv_of_nonneg (by omega)]
    congr 1
    have := Int.add_mul_ediv_right x 1 (show (2 : Int) ^ m ≠ 0 from by omega)
    rw [Int.one_mul] at this; exact this
  have e3 : x / (2 * 2 ^ m) = x / 2 ^ m / 2 := by rw [Int.mul_comm, ← Int.ediv_ediv_of_nonneg (by omega)]
  rw [e1, e2, e3]
  omega
theorem rdiv_far {x d : Int} (hd : 18446744073709551616 ≤ d) (hx : I64 x) : rdiv x d = 0 := by
  unfold rdiv
  rw [if_pos (by omega)]
  exact Int.ediv_eq_zero_of_lt (by omega) (by omega)
theorem rdiv_one (x : Int) : rdiv x 1 = x := by unfold rdiv; rw [if_pos (by decide)]; omega
theorem div_unique {a d q r : Int} (h : q * d + r = a) (h0 : 0 ≤ r) (h1 : r < d) : a / d = q ∧ a % d = r := by
  subst h
  constructor
  · rw [Int.add_comm, Int.add_mul_ediv_right _ _ (by omega), Int.ediv_eq_zero_of_lt h0 h1]; omega
  · rw [Int.add_comm, Int.add_mul_emod_self_right, Int.emod_eq_of_lt h0 h1]
theorem half_pow (a : Int) (n : Nat) : a / 2 ^ n = 2 * (a / 2 ^ (n + 1)) + a / 2 ^ n % 2 := by
  have e : a / 2 ^ (n + 1) = a / 2 ^ n / 2 := by rw [pow_succ2, Int.mul_comm, ← Int.ediv_ediv_of_nonneg (by have := pow_pos n; omega)]
  rw [e]; omega
end Go.Proofs.YtcfpfaakbomcnaaDoor.T

namespace Go.Proofs.YtcfpfaakbomcnaaDoor.Fl
open Ieee
/-- Two numbers are at most e apart. -/
def Near (a b e : Rat) : Prop := a ≤ b + e ∧ b ≤ a + e
def p2 (e : Int) : Rat := (2 : Rat) ^ e
theorem p2_pos (e : Int) : 0 < p2 e := Rat.zpow_pos (by decide)
theorem p2_add (a b : Int) : p2 (a + b) = p2 a * p2 b := Rat.zpow_add (by decide) a b
theorem p2_succ (a : Int) : p2 (a + 1) = 2 * p2 a := by rw [p2_add, Rat.mul_comm]; rfl
theorem p2_nat (n : Nat) : p2 (n : Int) = ((2 ^ n : Nat) : Rat) := by
  unfold p2; rw [Rat.zpow_natCast]; induction n with
  | zero => rfl
  | succ n ih => rw [Rat.pow_succ, ih, Nat.pow_succ, Rat.natCast_mul]; rfl
theorem p2_one_le {n : Int} (h : 0 ≤ n) : 1 ≤ p2 n := by
  obtain ⟨k, rfl⟩ := Int.eq_ofNat_of_zero_le h
  rw [p2_nat]
  have h2 : 1 ≤ 2 ^ k := Nat.one_le_two_pow
  exact Rat.natCast_le_natCast.2 h2
theorem p2_mono {a b : Int} (h : a ≤ b) : p2 a ≤ p2 b := by
  have e : p2 b = p2 a * p2 (b - a) := by rw [← p2_add]; congr 1; omega
  have h1 := p2_one_le (n := b - a) (by omega)
  have h0 := p2_pos a
  rw [e]
  have := Rat.mul_le_mul_of_nonneg_left h1 (Rat.le_of_lt h0)
  rwa [Rat.mul_one] at this
theorem p2_lt {a b : Int} (h : p2 a < p2 b) : a < b := by
  rcases Int.lt_or_le a b with h1 | h1
  · exact h1
  · exact absurd (p2_mono h1) (by grind)
/-- A word is a number. -/
def Fin (x : Nat) : Prop := ∃ s m p, double.read x = .number s m p ∧ m < 9007199254740992
def sg (s : Bool) : Rat := if s then -1 else 1
def val : Datum → Rat
  | .number s m p => sg s * (m * p2 p)
  | _ => 0
/-- What a word stands for. -/
def V (x : Nat) : Rat := val (double.read x)
theorem cut_near (s : Bool) (n d : Nat) : 2 * (Toward.even.cut s n d * 2 ^ d) ≤ 2 * n + 2 ^ d ∧ 2 * n ≤ 2 * (Toward.even.cut s n d * 2 ^ d) + 2 ^ d ∧ Toward.even.cut s n d ≤ n / 2 ^ d + 1 ∧ n / 2 ^ d ≤ Toward.even.cut s n d := by
  unfold Toward.cut
  simp only []
  rw [Nat.shiftLeft_eq, Nat.one_mul]
  by_cases h : d ≤ n.log2 + 2
  · rw [Nat.min_eq_left h]
    have hp : 0 < 2 ^ d := Nat.two_pow_pos d
    generalize 2 ^ d = g at *
    have e := Nat.div_add_mod n g
    have lt := Nat.mod_lt n hp
    generalize n / g = q at *
    generalize n % g = r at *
    subst e
    by_cases c : g < 2 * r
    · simp [c, Nat.add_mul]; rw [Nat.mul_comm q g]; omega
    · by_cases c2 : g = 2 * r ∧ q % 2 = 1
      · simp [c2.1, c2.2, Nat.add_mul]; rw [Nat.mul_comm q (2 * r)]; omega
      · have : (decide (g < 2 * r) || (g == 2 * r && q % 2 == 1)) = false := by
          simp [c]; intro h1; have : q % 2 ≠ 1 := fun h2 => c2 ⟨h1, h2⟩; omega
        rw [this]; simp; rw [Nat.mul_comm q g]; omega
  · rw [Nat.min_eq_right (by omega)]
    have h1 : n < 2 ^ (n.log2 + 1) := Nat.lt_log2_self
    have h2 : 2 ^ (n.log2 + 2) = 2 * 2 ^ (n.log2 + 1) := by rw [Nat.pow_succ]; omega
    have h3 : 2 ^ (n.log2 + 2) ≤ 2 ^ d := Nat.pow_le_pow_right (by decide) (by omega)
    rw [Nat.div_eq_of_lt (by omega), Nat.mod_eq_of_lt (by omega), Nat.div_eq_of_lt (by omega)]
    have : (decide (2 ^ (n.log2 + 2) < 2 * n) || (2 ^ (n.log2 + 2) == 2 * n && 0 % 2 == 1)) = false := by simp; omega
    rw [this]; simp; omega
theorem read_rung (s : Bool) (L k : Nat) (h1 : k ≤ 9007199254740992) (h2 : L = 0 ∨ 4503599627370496 ≤ k) (h3 : L ≤ 2040) :
    ∃ m p, double.read (double.word s (min (L * double.binade + k) double.infRung)) = .number s m p ∧ m < 9007199254740992 ∧ (m : Rat) * p2 p = k * p2 (L - 1074) := by
  have hb : double.binade = 4503599627370496 := by decide
  have hi : double.infRung = 9218868437227405312 := by decide
  have hw : double.signWeight = 9223372036854775808 := by decide
  have hl : double.leastPlace = -1074 := by decide
  rw [Nat.min_eq_left (by rw [hb, hi]; omega)]
  unfold Format.read Format.word
  rw [hb, hi, hw, hl]
  have e1 : ∀ r, r < 9223372036854775808 → (((if s then 9223372036854775808 + r else r) / 9223372036854775808 % 2 == 1) = s ∧ (if s then 9223372036854775808 + r else r) % 9223372036854775808 = r) := by
    intro r hr; cases s <;> simp <;> omega
  obtain ⟨e2, e3⟩ := e1 (L * 4503599627370496 + k) (by omega)
  simp only [e2, e3]
  by_cases c : L * 4503599627370496 + k < 4503599627370496
  · rw [if_pos c]
    have : L = 0 := by omega
    subst this
    exact ⟨_, _, rfl, by omega, by simp⟩
  · rw [if_neg c, if_pos (by omega)]
    by_cases c2 : k = 9007199254740992
    · subst c2
      refine ⟨_, _, rfl, by omega, ?_⟩
      rw [show (L * 4503599627370496 + 9007199254740992) % 4503599627370496 = 0 by omega, show (L * 4503599627370496 + 9007199254740992) / 4503599627370496 - 1 = L + 1 by omega]
      rw [show (-1074 + ((L + 1 : Nat) : Int)) = ((L : Int) - 1074) + 1 by omega, p2_succ]
      simp; grind
    · have q : (L * 4503599627370496 + k) / 4503599627370496 - 1 = L ∧ 4503599627370496 + (L * 4503599627370496 + k) % 4503599627370496 = k := by
        rcases h2 with h2 | h2 <;> omega
      rw [q.1, q.2, show (-1074 + (L : Int)) = (L : Int) - 1074 by omega]
      exact ⟨_, _, rfl, by omega, rfl⟩
theorem nat_p2 (n : Nat) : (((2 ^ n : Nat)) : Rat) = p2 (n : Int) := (p2_nat n).symm
theorem nearest_near (s : Bool) (mag : Nat) (place : Int) (B : Int) (h0 : -1000 ≤ B) (h1 : B ≤ 960) (hv : (mag : Rat) * p2 place < p2 B) :
    Fin (double.nearest s mag place) ∧ Near (V (double.nearest s mag place)) (sg s * (mag * p2 place)) (p2 (B - 53)) ∧ (mag < 9007199254740992 → -1074 ≤ place → V (double.nearest s mag place) = sg s * (mag * p2 place)) := by
  have pb := p2_pos (B - 53)
  unfold Format.nearest
  by_cases z : mag = 0
  · subst z
    rw [if_pos rfl]
    obtain ⟨m, p, e1, e2, e3⟩ := read_rung s 0 0 (by decide) (.inl rfl) (by decide)
    rw [Nat.min_eq_left (by decide)] at e1
    refine ⟨⟨s, m, p, e1, e2⟩, ?_⟩
    have : V (double.word s 0) = 0 := by
      unfold V; rw [show double.word s 0 = double.word s (0 * double.binade + 0) from rfl, e1, val, e3]; simp
    rw [this]; unfold Near; simp; grind
  rw [if_neg z]
  have l0 : 2 ^ mag.log2 ≤ mag := Nat.log2_self_le z
  have l1 : mag < 2 ^ (mag.log2 + 1) := Nat.lt_log2_self
  generalize mag.log2 = l at *
  have hf : double.fractionBits = 52 := rfl
  have hl : double.leastPlace = -1074 := by decide
  have hb : double.binade = 4503599627370496 := by decide
  rw [hf, hl]
  have lB : place + l < B := by
    refine p2_lt ?_
    have : ((2 ^ l : Nat) : Rat) ≤ mag := Rat.natCast_le_natCast.2 l0
    rw [nat_p2] at this
    have := Rat.mul_le_mul_of_nonneg_right this (Rat.le_of_lt (p2_pos place))
    rw [← p2_add] at this
    rw [Int.add_comm]; grind
  obtain ⟨last, hlast⟩ : ∃ x : Int, x = max (place + (l : Int) - ((52 : Nat) : Int)) (-1074) := ⟨_, rfl⟩
  rw [← hlast]
  dsimp only
  have hla : -1074 ≤ last ∧ last ≤ max (B - 53) (-1074) ∧ place + l - 52 ≤ last ∧ (last = -1074 ∨ last = place + l - 52) := by omega
  clear hlast
  obtain ⟨c1, c2, c3, c4⟩ := cut_near s (mag <<< (place - last).toNat) (last - place).toNat
  generalize Toward.even.cut s (mag <<< (place - last).toNat) (last - place).toNat = kept at *
  rw [Nat.shiftLeft_eq] at c1 c2 c3 c4
  have key : kept ≤ 9007199254740992 ∧ (last = -1074 ∨ 4503599627370496 ≤ kept) ∧ Near (kept * p2 last) (mag * p2 place) (p2 (last - 1)) ∧ (last ≤ place → kept * p2 last = mag * p2 place) := by
    have hs : p2 last = 2 * p2 (last - 1) := by rw [← p2_succ]; congr 1; omega
    have pp := p2_pos (last - 1)
    rcases Int.le_total last place with hh | hh
    · obtain ⟨u, rfl⟩ : ∃ u : Nat, place = last + u := ⟨(place - last).toNat, by omega⟩
      rw [show (last + (u : Int) - last).toNat = u by omega, show (last - (last + (u : Int))).toNat = 0 by omega] at c1 c2 c3 c4
      have e : kept = mag * 2 ^ u := by simp only [Nat.pow_zero, Nat.mul_one] at c1 c2; omega
      have b1 : mag * 2 ^ u < 2 ^ 53 := by
        calc mag * 2 ^ u < 2 ^ (l + 1) * 2 ^ u := Nat.mul_lt_mul_of_pos_right l1 (Nat.two_pow_pos u)
          _ = 2 ^ (l + 1 + u) := (Nat.pow_add ..).symm
          _ ≤ 2 ^ 53 := Nat.pow_le_pow_right (by decide) (by omega)
      refine ⟨by omega, ?_, ?_, ?_⟩
      · rcases hla.2.2.2 with h | h
        · exact .inl h
        · refine .inr ?_
          rw [e]
          calc 4503599627370496 = 2 ^ 52 := by decide
            _ = 2 ^ (l + u) := by congr 1; omega
            _ = 2 ^ l * 2 ^ u := Nat.pow_add ..
            _ ≤ _ := Nat.mul_le_mul_right _ l0
      · have : (kept : Rat) * p2 last = mag * p2 (last + u) := by
          rw [e, p2_add, p2_nat, Rat.natCast_mul]; grind
        rw [this]; unfold Near; grind
      · intro _; rw [e, p2_add, p2_nat, Rat.natCast_mul]; grind
    · obtain ⟨u, rfl⟩ : ∃ u : Nat, last = place + u := ⟨(last - place).toNat, by omega⟩
      rw [show (place + (u : Int) - place).toNat = u by omega, show (place - (place + (u : Int))).toNat = 0 by omega] at c1 c2 c3 c4
      rw [Nat.pow_zero, Nat.mul_one] at c1 c2 c3 c4
      have b1 : mag / 2 ^ u < 2 ^ 53 := by
        rw [Nat.div_lt_iff_lt_mul (Nat.two_pow_pos u), ← Nat.pow_add]
        exact Nat.lt_of_lt_of_le l1 (Nat.pow_le_pow_right (by decide) (by omega))
      refine ⟨by omega, ?_, ?_, ?_⟩
      · rcases hla.2.2.2 with h | h
        · exact .inl h
        · refine .inr (Nat.le_trans ?_ c4)
          rw [Nat.le_div_iff_mul_le (Nat.two_pow_pos u)]
          calc 4503599627370496 * 2 ^ u = 2 ^ 52 * 2 ^ u := by congr 1
            _ = 2 ^ (52 + u) := (Nat.pow_add ..).symm
            _ ≤ 2 ^ l := Nat.pow_le_pow_right (by decide) (by omega)
            _ ≤ _ := l0
      · have e1 := Rat.natCast_le_natCast.2 c1
        have e2 := Rat.natCast_le_natCast.2 c2
        simp only [Rat.natCast_add, Rat.natCast_mul, nat_p2] at e1 e2
        have q := Rat.le_of_lt (p2_pos place)
        have f1 := Rat.mul_le_mul_of_nonneg_right e1 q
        have f2 := Rat.mul_le_mul_of_nonneg_right e2 q
        rw [p2_add] at hs ⊢
        have t2 : ((2 : Nat) : Rat) = 2 := rfl
        rw [t2] at f1 f2
        unfold Near
        generalize p2 (place + u - 1) = z1 at *
        generalize p2 place = z2 at *
        generalize p2 u = z3 at *
        clear e1 e2 c1 c2 c3 c4
        constructor <;> grind
      · intro h
        obtain rfl : u = 0 := by omega
        have e : kept = mag := by simp only [Nat.pow_zero, Nat.mul_one] at c1 c2; omega
        rw [e]; simp
  obtain ⟨k1, k2, k3, k4⟩ := key
  obtain ⟨m, p, e1, e2, e3⟩ := read_rung s (last - -1074).toNat kept k1 (by omega) (by omega)
  refine ⟨⟨s, m, p, e1, e2⟩, ?_⟩
  unfold V
  rw [e1, val, e3, show ((last - -1074).toNat : Int) - 1074 = last by omega]
  have : p2 (last - 1) ≤ p2 (B - 53) := p2_mono (by omega)
  refine ⟨?_, fun hm hp => ?_⟩
  rotate_left
  · have : l < 53 := by
      have : 2 ^ l < 2 ^ 53 := Nat.lt_of_le_of_lt l0 hm
      exact (Nat.pow_lt_pow_iff_right (by decide)).1 this
    rw [k4 (by omega)]
  clear e1 e2 e3 k4
  generalize p2 (last - 1) = z1 at *
  generalize (kept : Rat) * p2 last = z2 at *
  generalize (mag : Rat) * p2 place = z3 at *
  generalize p2 (B - 53) = z4 at *
  unfold Near sg at *
  cases s <;> simp <;> grind
theorem signed_val (s : Bool) (m u : Nat) (b : Int) : ((signed s m u : Int) : Rat) * p2 b = sg s * (m * p2 (b + u)) := by
  rw [p2_add, p2_nat]
  unfold signed sg
  rw [Nat.shiftLeft_eq]
  cases s <;> simp [Rat.intCast_natCast] <;> grind
/-- Rounded once: a datum that is a number below 2^B. -/
theorem write_near (d : Datum) (s : Bool) (m : Nat) (p : Int) (hd : d = .number s m p) (B : Int) (h0 : -1000 ≤ B) (h1 : B ≤ 960) (hv : Near (val d) 0 (p2 B)) (hs : val d < p2 B ∧ -p2 B < val d) :
    Fin (double.write d) ∧ Near (V (double.write d)) (val d) (p2 (B - 53)) := by
  subst hd
  refine (fun h => ⟨h.1, h.2.1⟩) (nearest_near s m p B h0 h1 ?_)
  have : 0 ≤ (m : Rat) * p2 p := Rat.mul_nonneg Rat.natCast_nonneg (Rat.le_of_lt (p2_pos p))
  unfold val sg at hs
  cases s <;> simp at hs <;> grind
theorem sg_mul (s t : Bool) : sg (s ^^ t) = sg s * sg t := by cases s <;> cases t <;> simp [sg] <;> grind
theorem mul_near {x y : Nat} (hx : Fin x) (hy : Fin y) (B : Int) (h0 : -1000 ≤ B) (h1 : B ≤ 960) (hs : V x * V y < p2 B ∧ -p2 B < V x * V y) :
    ∃ r, double.mul x y = some r ∧ Fin r ∧ Near (V r) (V x * V y) (p2 (B - 53)) := by
  obtain ⟨s, m, i, e, _⟩ := hx
  obtain ⟨t, n, j, f, _⟩ := hy
  have ev : V x * V y = val (.number (s ^^ t) (m * n) (i + j)) := by
    unfold V; rw [e, f]; simp only [val]; rw [sg_mul, p2_add]; simp; grind
  rw [ev] at hs ⊢
  unfold Format.mul
  rw [e, f]
  obtain ⟨a, b⟩ := write_near (.number (s ^^ t) (m * n) (i + j)) _ _ _ rfl B h0 h1 (by unfold Near; grind) hs
  exact ⟨_, rfl, a, b⟩
theorem sum_num {x y : Datum} {s t : Bool} {m n : Nat} {i j : Int} (e : x = .number s m i) (f : y = .number t n j) (B : Int) (h0 : -1000 ≤ B) (h1 : B ≤ 960) (hs : val x + val y < p2 B ∧ -p2 B < val x + val y) :
    ∃ r, (x.sum y).map double.write = some r ∧ Fin r ∧ Near (V r) (val x + val y) (p2 (B - 53)) := by
  subst e; subst f
  obtain ⟨b, hb⟩ : ∃ b, b = min i j := ⟨_, rfl⟩
  obtain ⟨T, hT⟩ : ∃ T, T = signed s m (i - b).toNat + signed t n (j - b).toNat := ⟨_, rfl⟩
  have ev : val (.number s m i) + val (.number t n j) = T * p2 b := by
    rw [hT, Rat.intCast_add, Rat.add_mul, signed_val, signed_val]
    rw [show b + ((i - b).toNat : Int) = i by omega, show b + ((j - b).toNat : Int) = j by omega]; rfl
  obtain ⟨g, hg⟩ : ∃ g, g = (if T = 0 then s && t else decide (T < 0)) := ⟨_, rfl⟩
  have ed : Datum.sum (.number s m i) (.number t n j) = some (.number g T.natAbs b) := by
    unfold Datum.sum; dsimp only; rw [← hb, ← hT, hg]
  have eg : (T : Rat) * p2 b = val (.number g T.natAbs b) := by
    simp only [val]
    have : (T : Rat) = sg g * ((T.natAbs : Nat) : Rat) := by
      rw [hg]
      by_cases z : T = 0
      · subst z; simp
      · rw [if_neg z]
        by_cases c : T < 0
        · rw [decide_eq_true c]; unfold sg; rw [if_pos rfl, show (T : Rat) = ((-((T.natAbs : Nat) : Int) : Int) : Rat) from congrArg (fun z : Int => (z : Rat)) (by omega)]
          rw [Rat.intCast_neg, Rat.intCast_natCast]; grind
        · rw [decide_eq_false c]; unfold sg; simp
          have : T = ((T.natAbs : Nat) : Int) := by omega
          exact congrArg (fun z : Int => (z : Rat)) this
    rw [this]; grind
  rw [ev, eg] at hs ⊢
  rw [ed]
  obtain ⟨a, c⟩ := write_near (.number g T.natAbs b) _ _ _ rfl B h0 h1 (by unfold Near; grind) hs
  exact ⟨_, rfl, a, c⟩
theorem add_near {x y : Nat} (hx : Fin x) (hy : Fin y) (B : Int) (h0 : -1000 ≤ B) (h1 : B ≤ 960) (hs : V x + V y < p2 B ∧ -p2 B < V x + V y) :
    ∃ r, double.add x y = some r ∧ Fin r ∧ Near (V r) (V x + V y) (p2 (B - 53)) := by
  obtain ⟨s, m, i, e, _⟩ := hx
  obtain ⟨t, n, j, f, _⟩ := hy
  exact sum_num e f B h0 h1 hs
theorem opp_val (d : Datum) : val d.opposite = -val d := by
  cases d with
  | number s m e => unfold Datum.opposite; simp only [val, sg]; cases s <;> simp <;> grind
  | _ => unfold Datum.opposite; simp [val]
theorem sub_near {x y : Nat} (hx : Fin x) (hy : Fin y) (B : Int) (h0 : -1000 ≤ B) (h1 : B ≤ 960) (hs : V x - V y < p2 B ∧ -p2 B < V x - V y) :
    ∃ r, double.sub x y = some r ∧ Fin r ∧ Near (V r) (V x - V y) (p2 (B - 53)) := by
  obtain ⟨s, m, i, e, _⟩ := hx
  obtain ⟨t, n, j, f, _⟩ := hy
  have := sum_num (y := (double.read y).opposite) e (by rw [f]; rfl) B h0 h1 (by rw [opp_val]; unfold V at hs; grind)
  rw [opp_val] at this
  rw [show V x - V y = val (double.read x) + -val (double.read y) by unfold V; grind]
  exact this
theorem order_num {x y : Nat} (hx : Fin x) (hy : Fin y) : ∃ o, double.order x y = some o ∧ (o = .lt ↔ V x < V y) ∧ (o = .eq ↔ V x = V y) ∧ (o = .gt ↔ V y < V x) := by
  obtain ⟨s, m, i, e, _⟩ := hx
  obtain ⟨t, n, j, f, _⟩ := hy
  obtain ⟨b, hb⟩ : ∃ b, b = min i j := ⟨_, rfl⟩
  have e1 : V x = (signed s m (i - b).toNat : Int) * p2 b := by
    unfold V; rw [e, signed_val, show b + ((i - b).toNat : Int) = i by omega]; rfl
  have e2 : V y = (signed t n (j - b).toNat : Int) * p2 b := by
    unfold V; rw [f, signed_val, show b + ((j - b).toNat : Int) = j by omega]; rfl
  refine ⟨compare (signed s m (i - b).toNat) (signed t n (j - b).toNat), ?_, ?_⟩
  · unfold Format.order Datum.order; rw [e, f]; dsimp only; rw [← hb]
  rw [e1, e2]
  generalize signed s m (i - b).toNat = S
  generalize signed t n (j - b).toNat = T
  have pb := p2_pos b
  have q1 : ∀ A C : Int, (A : Rat) * p2 b < C * p2 b ↔ A < C := by
    intro A C
    rw [Rat.mul_lt_mul_right pb, Rat.intCast_lt_intCast]
  have q2 : (S : Rat) * p2 b = T * p2 b ↔ S = T := by
    have a1 := q1 S T
    have a2 := q1 T S
    constructor
    · intro h; rw [h] at a1 a2
      have b1 : ¬ S < T := fun k => absurd (a1.2 k) (by grind)
      have b2 : ¬ T < S := fun k => absurd (a2.2 k) (by grind)
      omega
    · rintro rfl; rfl
  rw [q1, q1, q2, compare, instOrdInt]
  simp only [compareOfLessAndEq]
  split
  · simp; omega
  · split
    · simp; omega
    · simp; omega
theorem ofInt (n : Int) (h : n.natAbs < 9007199254740992) :
    Fin (double.write (.number (n < 0) n.natAbs 0)) ∧ V (double.write (.number (n < 0) n.natAbs 0)) = n := by
  have e : (n : Rat) = sg (decide (n < 0)) * (n.natAbs * p2 0) := by
    rw [show p2 0 = 1 from rfl]
    by_cases c : n < 0
    · rw [decide_eq_true c]; unfold sg; rw [if_pos rfl]
      have : n = -((n.natAbs : Nat) : Int) := by omega
      have h2 := congrArg (fun z : Int => (z : Rat)) this
      rw [Rat.intCast_neg, Rat.intCast_natCast] at h2
      rw [h2]; simp; grind
    · rw [decide_eq_false c]; unfold sg; simp
      have : n = ((n.natAbs : Nat) : Int) := by omega
      exact congrArg (fun z : Int => (z : Rat)) this
  rw [e]
  have := nearest_near (decide (n < 0)) n.natAbs 0 53 (by decide) (by decide) (by
    rw [show p2 0 = 1 from rfl, Rat.mul_one, show (53 : Int) = ((53 : Nat) : Int) from rfl, p2_nat]
    exact Rat.natCast_lt_natCast.2 h)
  exact ⟨this.1, this.2.2 h (by decide)⟩
theorem quo_nat (D n : Nat) (hn : 0 < n) : (2 * (D / n) + (D % n != 0).toNat) * n ≤ 2 * D + n ∧ 2 * D ≤ (2 * (D / n) + (D % n != 0).toNat) * n + n := by
  have e := Nat.div_add_mod D n
  have lt := Nat.mod_lt D hn
  have h : (2 * (D / n) + (D % n != 0).toNat) * n = 2 * (n * (D / n)) + (D % n != 0).toNat * n := by rw [Nat.add_mul]; congr 1; rw [Nat.mul_assoc, Nat.mul_comm (D / n) n]
  rw [h]
  generalize n * (D / n) = z at *
  generalize D % n = r at *
  by_cases c : r = 0
  · subst c; simp; omega
  · have : (r != 0) = true := by simp [c]
    rw [this]; simp; omega
theorem sg_sq (s : Bool) : sg s * sg s = 1 := by cases s <;> simp [sg] <;> grind
theorem near_sg (s : Bool) {a b e : Rat} (h : Near a b e) : Near (sg s * a) (sg s * b) e := by
  unfold Near sg at *; cases s <;> simp <;> grind
theorem abs_sg (s : Bool) {a b : Rat} (h : a < b ∧ -b < a) : sg s * a < b ∧ -b < sg s * a := by
  unfold sg at *; cases s <;> simp <;> grind
theorem div_near {x y : Nat} (hx : Fin x) (hy : Fin y) (B : Int) (h0 : -900 ≤ B) (h1 : B ≤ 900) (Q : Rat) (hQ : V x = Q * V y) (hz : V y ≠ 0) (hs : Q < p2 B ∧ -p2 B < Q) :
    ∃ r, double.div x y = some r ∧ Fin r ∧ Near (V r) Q (p2 (B - 51)) := by
  obtain ⟨s, m, i, e, hm⟩ := hx
  obtain ⟨t, n, j, f, hn⟩ := hy
  have ex : V x = sg s * (m * p2 i) := by unfold V; rw [e]; rfl
  have ey : V y = sg t * (n * p2 j) := by unfold V; rw [f]; rfl
  have n0 : n ≠ 0 := by rintro rfl; rw [ey] at hz; simp at hz
  obtain ⟨M, hM⟩ : ∃ M, M = 54 + n.log2 - m.log2 := ⟨_, rfl⟩
  obtain ⟨q', hq'⟩ : ∃ q', q' = 2 * ((m <<< M) / n) + ((m <<< M) % n != 0).toNat := ⟨_, rfl⟩
  have ed : (double.read x).quotient (double.fractionBits + 2) (double.read y) = some (.number (s ^^ t) q' (i - j - M - 1)) := by
    rw [e, f]; unfold Datum.quotient; dsimp only; rw [if_neg n0]
    rw [show double.fractionBits + 2 + n.log2 - m.log2 = M from hM.symm, ← hq']
  unfold Format.div
  rw [ed]
  obtain ⟨q, hq⟩ : ∃ q, q = sg (s ^^ t) * Q := ⟨_, rfl⟩
  have eQ : Q = sg (s ^^ t) * q := by rw [hq]; have := sg_sq (s ^^ t); grind
  have hqs := abs_sg (s ^^ t) hs
  rw [← hq] at hqs
  have k1 : q * (n * p2 j) = m * p2 i := by
    rw [hq, sg_mul]; rw [ex, ey] at hQ
    have a1 := sg_sq s
    have a2 := sg_sq t
    grind
  have np : 0 < (n : Rat) := Rat.natCast_pos.2 (by omega)
  have pj := p2_pos j
  obtain ⟨P, hP⟩ : ∃ P, P = i - j - M - 1 := ⟨_, rfl⟩
  rw [← hP]
  have k2 : q * n = 2 * (m * p2 M * p2 P) := by
    have : p2 i = 2 * (p2 M * p2 P) * p2 j := by
      rw [← p2_add, ← p2_succ, ← p2_add]; congr 1; omega
    rw [this] at k1
    have : (q * n - 2 * (m * p2 M * p2 P)) * p2 j = 0 := by grind
    rcases Rat.mul_eq_zero.1 this with h | h <;> grind
  have pP := p2_pos P
  have pb := p2_pos (B - 55)
  have s1 : p2 (B - 54) = 2 * p2 (B - 55) := by rw [← p2_succ]; congr 1; omega
  have s2 : p2 (B - 53) = 2 * p2 (B - 54) := by rw [← p2_succ]; congr 1; omega
  have s3 : p2 (B - 52) = 2 * p2 (B - 53) := by rw [← p2_succ]; congr 1; omega
  have s4 : p2 (B - 51) = 2 * p2 (B - 52) := by rw [← p2_succ]; congr 1; omega
  have s5 : p2 (B + 1) = 2 * p2 B := by rw [← p2_succ]
  have s6 : p2 (B - 52) ≤ p2 B := p2_mono (by omega)
  have main : Near (q' * p2 P) q (p2 (B - 55)) := by
    by_cases m0 : m = 0
    · subst m0
      have : q' = 0 := by rw [hq']; simp
      subst this
      have : q * n = 0 := by rw [k2]; simp
      rcases Rat.mul_eq_zero.1 this with h | h
      · subst h; simp; unfold Near; grind
      · grind
    obtain ⟨c1, c2⟩ := quo_nat (m <<< M) n (by omega)
    rw [← hq', Nat.shiftLeft_eq] at c1 c2
    have e1 := Rat.natCast_le_natCast.2 c1
    have e2 := Rat.natCast_le_natCast.2 c2
    simp only [Rat.natCast_add, Rat.natCast_mul, nat_p2] at e1 e2
    rw [show ((2 : Nat) : Rat) = 2 from rfl] at e1 e2
    have f1 := Rat.mul_le_mul_of_nonneg_right e1 (Rat.le_of_lt pP)
    have f2 := Rat.mul_le_mul_of_nonneg_right e2 (Rat.le_of_lt pP)
    have g1 : (q' * p2 P - q - p2 P) * n ≤ 0 * n := by grind
    have g2 : (q - q' * p2 P - p2 P) * n ≤ 0 * n := by grind
    have h1 := Rat.le_of_mul_le_mul_right g1 np
    have h2 := Rat.le_of_mul_le_mul_right g2 np
    have hP2 : p2 (54 + P) < p2 B := by
      have l0 : 2 ^ m.log2 ≤ m := Nat.log2_self_le m0
      have l1 : n < 2 ^ (n.log2 + 1) := Nat.lt_log2_self
      have c : n * 2 ^ 54 ≤ 2 * (m * 2 ^ M) := by
        calc n * 2 ^ 54 ≤ 2 ^ (n.log2 + 1) * 2 ^ 54 := Nat.mul_le_mul_right _ (Nat.le_of_lt l1)
          _ = 2 ^ (n.log2 + 55) := by rw [← Nat.pow_add]
          _ ≤ 2 ^ (m.log2 + M + 1) := Nat.pow_le_pow_right (by decide) (by omega)
          _ = 2 * (2 ^ m.log2 * 2 ^ M) := by rw [← Nat.pow_add, Nat.pow_succ, Nat.mul_comm]
          _ ≤ _ := Nat.mul_le_mul_left _ (Nat.mul_le_mul_right _ l0)
      have d := Rat.natCast_le_natCast.2 c
      simp only [Rat.natCast_mul, nat_p2] at d
      rw [show ((2 : Nat) : Rat) = 2 from rfl] at d
      have d2 := Rat.mul_le_mul_of_nonneg_right d (Rat.le_of_lt pP)
      rw [p2_add]
      have : (p2 54 * p2 P) * n ≤ q * n := by rw [k2]; rw [show ((54 : Nat) : Int) = 54 from rfl] at d2; grind
      have := Rat.le_of_mul_le_mul_right this np
      grind
    have := p2_lt hP2
    have := p2_mono (a := P) (b := B - 55) (by omega)
    unfold Near; grind
  have ev : val (.number (s ^^ t) q' P) = sg (s ^^ t) * (q' * p2 P) := rfl
  have nr := near_sg (s ^^ t) main
  rw [← eQ] at nr
  obtain ⟨a, b⟩ := write_near (.number (s ^^ t) q' P) _ _ _ rfl (B + 1) (by omega) (by omega) (by rw [ev]; unfold Near at *; grind) (by rw [ev]; unfold Near at *; grind)
  refine ⟨_, rfl, a, ?_⟩
  rw [ev, show B + 1 - 53 = B - 52 by omega] at b
  unfold Near at *; grind
theorem abs_word {y : Nat} (hy : Fin y) : Fin (y % 9223372036854775808) ∧ 0 ≤ V (y % 9223372036854775808) ∧ (V (y % 9223372036854775808) = V y ∨ V (y % 9223372036854775808) = -V y) := by
  obtain ⟨s, m, p, e, hm⟩ := hy
  have hw : double.signWeight = 9223372036854775808 := by decide
  have r : double.read (y % 9223372036854775808) = .number false m p := by
    unfold Format.read at e ⊢
    rw [hw] at e ⊢
    dsimp only at e ⊢
    have e1 : y % 9223372036854775808 / 9223372036854775808 = 0 := Nat.div_eq_of_lt (Nat.mod_lt _ (by decide))
    rw [Nat.mod_mod, e1]
    split at e
    · cases e; rw [if_pos (by assumption)]; rfl
    · rw [if_neg (by assumption)]
      split at e
      · cases e; rw [if_pos (by assumption)]; rfl
      · split at e <;> cases e
  refine ⟨⟨_, _, _, r, hm⟩, ?_⟩
  have h1 : V (y % 9223372036854775808) = m * p2 p := by unfold V; rw [r]; simp [val, sg]
  have h2 : V y = sg s * (m * p2 p) := by unfold V; rw [e]; rfl
  have h3 : 0 ≤ (m : Rat) * p2 p := Rat.mul_nonneg Rat.natCast_nonneg (Rat.le_of_lt (p2_pos p))
  rw [h1, h2]
  refine ⟨h3, ?_⟩
  unfold sg; cases s <;> simp <;> grind
theorem const_val {x m n : Nat} {r : Rat} (s : Bool) (h : double.read x = .number s m (-(n : Int))) (hm : m < 9007199254740992) (hv : sg s * (m : Rat) = r * ((2 ^ n : Nat) : Rat)) : Fin x ∧ V x = r := by
  refine ⟨⟨_, _, _, h, hm⟩, ?_⟩
  unfold V; rw [h]; simp only [val]
  have e1 : p2 (-(n : Int)) * p2 n = 1 := by rw [← p2_add, Int.add_left_neg]; rfl
  rw [nat_p2] at hv
  have : sg s * (m * p2 (-(n : Int))) = r * (p2 (-(n : Int)) * p2 n) := by grind
  rw [this, e1, Rat.mul_one]
theorem c15 : Fin 4609434218613702656 ∧ V 4609434218613702656 = 3 / 2 := const_val (m := 6755399441055744) (n := 52) false (by decide) (by decide) (by simp [sg] <;> grind)
theorem c25 : Fin 4612811918334230528 ∧ V 4612811918334230528 = 5 / 2 := const_val (m := 5629499534213120) (n := 51) false (by decide) (by decide) (by simp [sg] <;> grind)
theorem c1 : Fin 4607182418800017408 ∧ V 4607182418800017408 = 1 := const_val (m := 4503599627370496) (n := 52) false (by decide) (by decide) (by simp [sg] <;> grind)
theorem cm05 : Fin 13826050856027422720 ∧ V 13826050856027422720 = -1 / 2 := const_val (m := 4503599627370496) (n := 53) true (by decide) (by decide) (by simp [sg] <;> grind)
theorem c4 : Fin 4616189618054758400 ∧ V 4616189618054758400 = 4 := const_val (m := 4503599627370496) (n := 50) false (by decide) (by decide) (by simp [sg] <;> grind)
theorem c2 : Fin 4611686018427387904 ∧ V 4611686018427387904 = 2 := const_val (m := 4503599627370496) (n := 51) false (by decide) (by decide) (by simp [sg] <;> grind)
theorem c30 : Fin 4742290407621132288 ∧ V 4742290407621132288 = 1073741824 := const_val (m := 4503599627370496) (n := 22) false (by decide) (by decide) (by simp [sg] <;> grind)
theorem p2_num (n m : Nat) (h : 2 ^ n = m) : p2 (n : Int) = (m : Rat) := by rw [p2_nat, h]
theorem p2_inv (n m : Nat) (h : 2 ^ n = m) : p2 (-(n : Int)) * (m : Rat) = 1 := by rw [← h, nat_p2, ← p2_add, Int.add_left_neg]; rfl
/-- A product of two that are bounded. -/
theorem mulb {a b α β : Rat} (ha : -α ≤ a ∧ a ≤ α) (hb : -β ≤ b ∧ b ≤ β) : -(α * β) ≤ a * b ∧ a * b ≤ α * β := by
  have h1 := Rat.mul_nonneg (show 0 ≤ α - a by grind) (show 0 ≤ β + b by grind)
  have h2 := Rat.mul_nonneg (show 0 ≤ α + a by grind) (show 0 ≤ β - b by grind)
  have h3 := Rat.mul_nonneg (show 0 ≤ α - a by grind) (show 0 ≤ β - b by grind)
  have h4 := Rat.mul_nonneg (show 0 ≤ α + a by grind) (show 0 ≤ β + b by grind)
  constructor <;> grind
/-- One operation among small numbers. -/
theorem mul6 {x y : Nat} (hx : Fin x) (hy : Fin y) (hs : -60 ≤ V x * V y ∧ V x * V y ≤ 60) : ∃ r, double.mul x y = some r ∧ Fin r ∧ ∃ e, V r = V x * V y + e ∧ -(1 / 140737488355328) ≤ e ∧ e ≤ 1 / 140737488355328 := by
  have q : p2 6 = 64 := p2_num 6 64 (by decide)
  have q2 : p2 (-47) * 140737488355328 = 1 := p2_inv 47 140737488355328 (by decide)
  obtain ⟨r, h1, h2, h3⟩ := mul_near hx hy 6 (by decide) (by decide) (by grind)
  rw [show (6 : Int) - 53 = -47 by decide] at h3
  unfold Near at h3
  exact ⟨r, h1, h2, V r - V x * V y, by grind, by grind, by grind⟩
theorem add6 {x y : Nat} (hx : Fin x) (hy : Fin y) (hs : -60 ≤ V x + V y ∧ V x + V y ≤ 60) : ∃ r, double.add x y = some r ∧ Fin r ∧ ∃ e, V r = V x + V y + e ∧ -(1 / 140737488355328) ≤ e ∧ e ≤ 1 / 140737488355328 := by
  have q : p2 6 = 64 := p2_num 6 64 (by decide)
  have q2 : p2 (-47) * 140737488355328 = 1 := p2_inv 47 140737488355328 (by decide)
  obtain ⟨r, h1, h2, h3⟩ := add_near hx hy 6 (by decide) (by decide) (by grind)
  rw [show (6 : Int) - 53 = -47 by decide] at h3
  unfold Near at h3
  exact ⟨r, h1, h2, V r - (V x + V y), by grind, by grind, by grind⟩
theorem sub6 {x y : Nat} (hx : Fin x) (hy : Fin y) (hs : -60 ≤ V x - V y ∧ V x - V y ≤ 60) : ∃ r, double.sub x y = some r ∧ Fin r ∧ ∃ e, V r = V x - V y + e ∧ -(1 / 140737488355328) ≤ e ∧ e ≤ 1 / 140737488355328 := by
  have q : p2 6 = 64 := p2_num 6 64 (by decide)
  have q2 : p2 (-47) * 140737488355328 = 1 := p2_inv 47 140737488355328 (by decide)
  obtain ⟨r, h1, h2, h3⟩ := sub_near hx hy 6 (by decide) (by decide) (by grind)
  rw [show (6 : Int) - 53 = -47 by decide] at h3
  unfold Near at h3
  exact ⟨r, h1, h2, V r - (V x - V y), by grind, by grind, by grind⟩
/-- float64 of a whole number. -/
def flo (n : Int) : Nat := double.write (.number (n < 0) n.natAbs 0)
/-- The nearest whole number k lies by the polynomial's value v. -/
def Tail (v : Nat) (k : Int) : Prop := ∃ z y o, double.mul v 4742290407621132288 = some z ∧ double.sub (flo k) z = some y ∧ double.order (y % 9223372036854775808) 4611686018427387904 = some o ∧ o ≠ .gt
theorem tail (v : Nat) (k : Int) (P : Rat) (hv : Fin v) (h1 : V v - P ≤ 1 / 274877906944 ∧ P - V v ≤ 1 / 274877906944) (h2 : (k : Rat) - P * 1073741824 ≤ 1 / 2 ∧ P * 1073741824 - k ≤ 1 / 2) (h3 : -50 ≤ P ∧ P ≤ 50) : Tail v k := by
  have hk : k.natAbs < 9007199254740992 := by
    have a1 : (k : Rat) ≤ ((1099511627776 : Int) : Rat) := by rw [show ((1099511627776 : Int) : Rat) = 1099511627776 from rfl]; grind
    have a2 : ((-1099511627776 : Int) : Rat) ≤ (k : Rat) := by rw [show ((-1099511627776 : Int) : Rat) = -1099511627776 from rfl]; grind
    have := Rat.intCast_le_intCast.1 a1
    have := Rat.intCast_le_intCast.1 a2
    omega
  obtain ⟨f1, f2⟩ := ofInt k hk
  obtain ⟨g1, g2⟩ := c30
  have q : p2 36 = 68719476736 := p2_num 36 68719476736 (by decide)
  have q2 : p2 (-17) * 131072 = 1 := p2_inv 17 131072 (by decide)
  obtain ⟨z, e1, e2, e3⟩ := mul_near hv g1 36 (by decide) (by decide) (by rw [g2, q]; grind)
  rw [show (36 : Int) - 53 = -17 by decide, g2] at e3
  have q3 : p2 2 = 4 := p2_num 2 4 (by decide)
  have q4 : p2 (-51) * 2251799813685248 = 1 := p2_inv 51 2251799813685248 (by decide)
  unfold Near at e3
  obtain ⟨y, e4, e5, e6⟩ := sub_near f1 e2 2 (by decide) (by decide) (by rw [f2, q3]; grind)
  rw [show (2 : Int) - 53 = -51 by decide, f2] at e6
  unfold Near at e6
  obtain ⟨w1, w2, w3⟩ := abs_word e5
  obtain ⟨i1, i2⟩ := c2
  obtain ⟨o, o1, o2, o3, o4⟩ := order_num w1 i1
  refine ⟨z, y, o, e1, e4, o1, fun h => ?_⟩
  have := o4.1 h
  rw [i2] at this
  rcases w3 with w3 | w3 <;> rw [w3] at this <;> grind
/-- The walk's chain of operations. -/
def Chain (a d k : Int) : Prop := ∃ q, double.div (flo a) (flo d) = some q ∧ ∃ x, x = q % 9223372036854775808 ∧ ∃ t1 t2 t3 u1 u2 v1 v, double.mul 4609434218613702656 x = some t1 ∧ double.mul t1 x = some t2 ∧ double.mul t2 x = some t3 ∧ double.mul 4612811918334230528 x = some u1 ∧ double.mul u1 x = some u2 ∧ double.sub t3 u2 = some v1 ∧ double.add v1 4607182418800017408 = some v ∧ ∃ o, double.order x 4607182418800017408 = some o ∧ (o = .lt → Tail v k) ∧ (o ≠ .lt → ∃ s1 s2 s3 v2 w v3 v4, double.mul 13826050856027422720 x = some s1 ∧ double.mul s1 x = some s2 ∧ double.mul s2 x = some s3 ∧ double.add s3 u2 = some v2 ∧ double.mul 4616189618054758400 x = some w ∧ double.sub v2 w = some v3 ∧ double.add v3 4611686018427387904 = some v4 ∧ Tail v4 k)
theorem half_near {v P : Rat} (h : v - P ≤ 1 / 549755813888 ∧ P - v ≤ 1 / 549755813888) : v - P ≤ 1 / 274877906944 ∧ P - v ≤ 1 / 274877906944 := by grind
theorem near_one {v X : Rat} (h : v - (-1 / 2 * X * X * X + 5 / 2 * X * X - 4 * X + 2) ≤ 1 / 549755813888 ∧ (-1 / 2 * X * X * X + 5 / 2 * X * X - 4 * X + 2) - v ≤ 1 / 549755813888)
    (bD : -(1 / 1125899906842624) ≤ X - 1 ∧ X - 1 ≤ 1 / 1125899906842624) : v - (3 / 2 * X * X * X - 5 / 2 * X * X + 1) ≤ 1 / 274877906944 ∧ (3 / 2 * X * X * X - 5 / 2 * X * X + 1) - v ≤ 1 / 274877906944 := by
  have bD2 := mulb bD bD
  have bD3 := mulb bD2 bD
  constructor <;> grind
theorem chain (a d k A : Int) (hd : 1 ≤ d ∧ d ≤ 262144) (ha : -(2 * d) < a ∧ a < 2 * d) (hA : 0 ≤ A ∧ (A = a ∨ A = -a)) (abv : Int)
    (hab : abv = if A ≥ d then -(A * A * A) + 5 * (A * A * d) - 8 * (A * d * d) + 4 * (d * d * d) else 3 * (A * A * A) - 5 * (A * A * d) + 2 * (d * d * d))
    (hk1 : k * (2 * (d * d * d)) ≤ abv * 1073741824 + d * d * d) (hk2 : abv * 1073741824 ≤ k * (2 * (d * d * d)) + d * d * d) : Chain a d k := by
  obtain ⟨fa, va⟩ := ofInt a (by omega)
  obtain ⟨fd, vd⟩ := ofInt d (by omega)
  have dp : 0 < (d : Rat) := Rat.intCast_pos.2 (by omega)
  have dz : (d : Rat) ≠ 0 := by grind
  obtain ⟨Q, hQ⟩ : ∃ Q : Rat, Q = a * (d : Rat)⁻¹ := ⟨_, rfl⟩
  have hQd : (a : Rat) = Q * d := by rw [hQ, Rat.mul_assoc, Rat.inv_mul_cancel _ dz, Rat.mul_one]
  have hl : (a : Rat) < 2 * d := by
    have := Rat.intCast_lt_intCast.2 ha.2
    rwa [Rat.intCast_mul] at this
  have hg : -(2 * d) < (a : Rat) := by
    have := Rat.intCast_lt_intCast.2 ha.1
    rwa [Rat.intCast_neg, Rat.intCast_mul] at this
  have Q2 : Q < 2 := Rat.lt_of_mul_lt_mul_right (show Q * d < 2 * d by grind) (Rat.le_of_lt dp)
  have Q1 : -2 < Q := Rat.lt_of_mul_lt_mul_right (show -2 * d < Q * d by grind) (Rat.le_of_lt dp)
  have r1 : p2 1 = 2 := p2_num 1 2 (by decide)
  have r2 : p2 (-50) * 1125899906842624 = 1 := p2_inv 50 1125899906842624 (by decide)
  obtain ⟨q, e1, e2, e3⟩ := div_near fa fd 1 (by decide) (by decide) Q (by rw [va, vd]; exact hQd) (by rw [vd]; exact dz) (by rw [r1]; grind)
  rw [show (1 : Int) - 51 = -50 by decide] at e3
  refine ⟨q, e1, _, rfl, ?_⟩
  obtain ⟨x1, x2, x3⟩ := abs_word e2
  obtain ⟨x, hx⟩ : ∃ x, x = q % 9223372036854775808 := ⟨_, rfl⟩
  rw [← hx] at x1 x2 x3 ⊢
  obtain ⟨X, hX⟩ : ∃ X : Rat, X = A * (d : Rat)⁻¹ := ⟨_, rfl⟩
  have hXd : (A : Rat) = X * d := by rw [hX, Rat.mul_assoc, Rat.inv_mul_cancel _ dz, Rat.mul_one]
  have X0 : 0 ≤ X := by
    have := Rat.intCast_nonneg.2 hA.1
    refine Rat.le_of_mul_le_mul_right (show 0 * (d : Rat) ≤ X * d by grind) dp
  have XQ : X = Q ∨ X = -Q := by
    rcases hA.2 with h | h
    · left; rw [hX, hQ, h]
    · right; rw [hX, hQ, h, Rat.intCast_neg]; grind
  have X2 : X < 2 := by rcases XQ with h | h <;> grind
  obtain ⟨δ, hδ⟩ : ∃ δ, δ = V x - X := ⟨_, rfl⟩
  have dl : -(1 / 1125899906842624) ≤ δ ∧ δ ≤ 1 / 1125899906842624 := by
    unfold Near at e3
    rcases XQ with h | h <;> rcases x3 with g | g <;> rw [hδ] <;> grind
  have hVx : V x = X + δ := by grind
  obtain ⟨P, hP⟩ : ∃ P : Rat, P = if A ≥ d then -1 / 2 * X * X * X + 5 / 2 * X * X - 4 * X + 2 else 3 / 2 * X * X * X - 5 / 2 * X * X + 1 := ⟨_, rfl⟩
  have d3 : 0 < (d : Rat) * d * d := Rat.mul_pos (Rat.mul_pos dp dp) dp
  have hPa : (abv : Rat) = P * (2 * (d * d * d)) := by
    rw [hab, hP]
    split
    · simp only [Rat.intCast_add, Rat.intCast_sub, Rat.intCast_mul, Rat.intCast_neg, hXd]
      rw [show ((5 : Int) : Rat) = 5 from rfl, show ((8 : Int) : Rat) = 8 from rfl, show ((4 : Int) : Rat) = 4 from rfl]; grind
    · simp only [Rat.intCast_add, Rat.intCast_sub, Rat.intCast_mul, hXd]
      rw [show ((5 : Int) : Rat) = 5 from rfl, show ((3 : Int) : Rat) = 3 from rfl, show ((2 : Int) : Rat) = 2 from rfl]; grind
  have k1 := Rat.intCast_le_intCast.2 hk1
  have k2 := Rat.intCast_le_intCast.2 hk2
  simp only [Rat.intCast_add, Rat.intCast_mul, hPa] at k1 k2
  rw [show ((1073741824 : Int) : Rat) = 1073741824 from rfl, show ((2 : Int) : Rat) = 2 from rfl] at k1 k2
  have K1 : (k : Rat) - P * 1073741824 ≤ 1 / 2 := Rat.le_of_mul_le_mul_right (show ((k : Rat) - P * 1073741824) * (d * d * d) ≤ 1 / 2 * (d * d * d) by grind) d3
  have K2 : P * 1073741824 - (k : Rat) ≤ 1 / 2 := Rat.le_of_mul_le_mul_right (show (P * 1073741824 - (k : Rat)) * (d * d * d) ≤ 1 / 2 * (d * d * d) by grind) d3
  have cA : A ≥ d → 1 ≤ X := fun h => by
    have := Rat.intCast_le_intCast.2 h
    exact Rat.le_of_mul_le_mul_right (show 1 * (d : Rat) ≤ X * d by grind) dp
  have cB : ¬ A ≥ d → X < 1 := fun h => by
    have := Rat.intCast_lt_intCast.2 (show A < d by omega)
    exact Rat.lt_of_mul_lt_mul_right (show X * (d : Rat) < 1 * d by grind) (Rat.le_of_lt dp)
  clear hab hk1 hk2 k1 k2 hPa d3 e3 x3 hXd hX hQ hQd hl hg Q2 Q1 r1 r2 dz dp va vd fa fd XQ hδ e1 e2 hx
  have bX : -2 ≤ X ∧ X ≤ 2 := by grind
  have bx : -(5 / 2) ≤ V x ∧ V x ≤ 5 / 2 := by grind
  have bXX := mulb bX bX
  have bXXX := mulb bXX bX
  have bδX := mulb dl bX
  have bδXX := mulb bδX bX
  have bδδ := mulb dl dl
  have bδδX := mulb bδδ bX
  have bδδδ := mulb bδδ dl
  have bxx := mulb bx bx
  obtain ⟨a1, a2⟩ := c15
  obtain ⟨t1, g1, f1, w1, h1, q1⟩ := mul6 a1 x1 (by rw [a2]; grind)
  rw [a2] at h1
  have b1 := mulb q1 bx
  have b1' := mulb b1 bx
  obtain ⟨t2, g2, f2, w2, h2, q2⟩ := mul6 f1 x1 (by rw [h1]; constructor <;> grind)
  have b2 := mulb q2 bx
  have bxxx := mulb bxx bx
  obtain ⟨t3, g3, f3, w3, h3, q3⟩ := mul6 f2 x1 (by rw [h2, h1]; constructor <;> grind)
  obtain ⟨a3, a4⟩ := c25
  obtain ⟨u1, g4, f4, w4, h4, q4⟩ := mul6 a3 x1 (by rw [a4]; grind)
  rw [a4] at h4
  have b4 := mulb q4 bx
  obtain ⟨u2, g5, f5, w5, h5, q5⟩ := mul6 f4 x1 (by rw [h4]; constructor <;> grind)
  rw [h1] at h2
  rw [h2] at h3
  rw [h4] at h5
  obtain ⟨v1, g6, f6, w6, h6, q6⟩ := sub6 f3 f5 (by rw [h3, h5]; constructor <;> grind)
  obtain ⟨a5, a6⟩ := c1
  rw [h3, h5] at h6
  obtain ⟨v, g7, f7, w7, h7, q7⟩ := add6 f6 a5 (by rw [h6, a6]; constructor <;> grind)
  rw [h6, a6] at h7
  refine ⟨t1, t2, t3, u1, u2, v1, v, g1, g2, g3, g4, g5, g6, g7, ?_⟩
  obtain ⟨o, o1, o2, o3, o4⟩ := order_num x1 a5
  rw [a6] at o2 o3 o4
  refine ⟨o, o1, fun ho => ?_, fun ho => ?_⟩
  · have lt := o2.1 ho
    refine tail v k P f7 ?_ ⟨K1, K2⟩ (by rw [hP]; split <;> constructor <;> grind)
    have m1 : V v - (3 / 2 * X * X * X - 5 / 2 * X * X + 1) ≤ 1 / 549755813888 ∧ (3 / 2 * X * X * X - 5 / 2 * X * X + 1) - V v ≤ 1 / 549755813888 := by
      rw [h7]
      clear h1 h2 h3 h4 h5 h6 h7 o2 o3 o4 K1 K2 hP
      rw [hVx] at b1 b1' b2 b4 ⊢
      constructor <;> grind
    rw [hP]
    split
    · rename_i c
      have := cA c
      have bD : -(1 / 1125899906842624) ≤ X - 1 ∧ X - 1 ≤ 1 / 1125899906842624 := by grind
      have bD2 := mulb bD bD
      have bD3 := mulb bD2 bD
      clear h1 h2 h3 h4 h5 h6 h7 o2 o3 o4 K1 K2 hP b1 b1' b2 b4 bδX bδXX bδδ bδδX bδδδ bxx bxxx
      constructor <;> grind
    · grind
  · have ge : 1 ≤ V x := by
      rcases Rat.le_total (a := 1) (b := V x) with h | h
      · exact h
      · by_cases e : V x = 1
        · grind
        · exact absurd (o2.2 (by grind)) ho
    obtain ⟨a7, a8⟩ := cm05
    obtain ⟨s1, g8, f8, w8, h8, q8⟩ := mul6 a7 x1 (by rw [a8]; grind)
    rw [a8] at h8
    have b8 := mulb q8 bx
    have b8' := mulb b8 bx
    obtain ⟨s2, g9, f9, w9, h9, q9⟩ := mul6 f8 x1 (by rw [h8]; constructor <;> grind)
    have b9 := mulb q9 bx
    rw [h8] at h9
    obtain ⟨s3, g10, f10, w10, h10, q10⟩ := mul6 f9 x1 (by rw [h9]; constructor <;> grind)
    rw [h9] at h10
    clear h6 h7 h3 h2 h1
    obtain ⟨v2, g11, f11, w11, h11, q11⟩ := add6 f10 f5 (by rw [h10, h5]; constructor <;> grind)
    rw [h10, h5] at h11
    obtain ⟨a9, a10⟩ := c4
    obtain ⟨w, g12, f12, w12, h12, q12⟩ := mul6 a9 x1 (by rw [a10]; constructor <;> grind)
    rw [a10] at h12
    obtain ⟨v3, g13, f13, w13, h13, q13⟩ := sub6 f11 f12 (by rw [h11, h12]; constructor <;> grind)
    rw [h11, h12] at h13
    obtain ⟨a11, a12⟩ := c2
    obtain ⟨v4, g14, f14, w14, h14, q14⟩ := add6 f13 a11 (by rw [h13, a12]; constructor <;> grind)
    rw [h13, a12] at h14
    refine ⟨s1, s2, s3, v2, w, v3, v4, g8, g9, g10, g11, g12, g13, g14, ?_⟩
    refine tail v4 k P f14 ?_ ⟨K1, K2⟩ (by rw [hP]; split <;> constructor <;> grind)
    have m1 : V v4 - (-1 / 2 * X * X * X + 5 / 2 * X * X - 4 * X + 2) ≤ 1 / 549755813888 ∧ (-1 / 2 * X * X * X + 5 / 2 * X * X - 4 * X + 2) - V v4 ≤ 1 / 549755813888 := by
      rw [h14]
      clear h4 h5 h8 h9 h10 h11 h12 h13 h14 o2 o3 o4 K1 K2 hP b1 b1' b2
      rw [hVx] at b8 b8' b9 b4 ⊢
      constructor <;> grind
    rw [hP]
    split
    · exact half_near m1
    · rename_i c
      have c := cB c
      have bD : -(1 / 1125899906842624) ≤ X - 1 ∧ X - 1 ≤ 1 / 1125899906842624 := by
        rw [hVx] at ge
        clear m1 h4 h5 h8 h9 h10 h11 h12 h13 h14 o2 o3 o4 K1 K2 hP b1 b1' b2 b4 b8 b8' b9 bδX bδXX bδδ bδδX bδδδ bxx bxxx bXX bXXX bX bx
        constructor <;> grind
      exact near_one m1 bD
end Go.Proofs.YtcfpfaakbomcnaaDoor.Fl

namespace Go.Proofs.YtcfpfaakbomcnaaDoor.Fl
/-- A polynomial's value, by its coefficients. -/
def ev : List Int → Rat → Rat
  | [], _ => 0
  | c :: p, t => c + t * ev p t
def addP : List Int → List Int → List Int
  | [], q => q
  | p, [] => p
  | a :: p, b :: q => (a + b) :: addP p q
def scl (a : Int) (p : List Int) : List Int := p.map (a * ·)
theorem ev_add : ∀ (p q : List Int) (t : Rat), ev (addP p q) t = ev p t + ev q t
  | [], q, t => by simp [addP, ev]; grind
  | a :: p, [], t => by simp [addP, ev]; grind
  | a :: p, b :: q, t => by simp only [addP, ev, ev_add p q t, Rat.intCast_add]; grind
theorem ev_scl (a : Int) : ∀ (p : List Int) (t : Rat), ev (scl a p) t = a * ev p t
  | [], t => by simp [scl, ev]
  | b :: p, t => by
    have := ev_scl a p t
    simp only [scl, List.map_cons, ev, Rat.intCast_mul] at this ⊢
    rw [this]; grind
/-- (t + a) p(t). -/
def mulX (a : Int) (p : List Int) : List Int := addP (scl a p) (0 :: p)
theorem ev_mulX (a : Int) (p : List Int) (t : Rat) : ev (mulX a p) t = (t + a) * ev p t := by
  unfold mulX; rw [ev_add, ev_scl]; simp only [ev]; simp; grind
/-- p(t + a). -/
def shf (a : Int) : List Int → List Int
  | [] => []
  | c :: p => addP [c] (mulX a (shf a p))
theorem ev_shf (a : Int) : ∀ (p : List Int) (t : Rat), ev (shf a p) t = ev p (t + a)
  | [], t => rfl
  | c :: p, t => by simp only [shf, ev_add, ev_mulX, ev, ev_shf a p t]; simp; grind
/-- A bound on p within -b .. b. -/
def evA : List Int → Nat → Nat
  | [], _ => 0
  | c :: p, b => c.natAbs + b * evA p b
theorem ev_le : ∀ (p : List Int) (b : Nat) (t : Rat), -(b : Rat) ≤ t → t ≤ b → -(evA p b : Rat) ≤ ev p t ∧ ev p t ≤ (evA p b : Rat)
  | [], b, t, _, _ => by simp [ev, evA]
  | c :: p, b, t, h1, h2 => by
    have ih := ev_le p b t h1 h2
    have m := mulb (a := t) (b := ev p t) (α := b) (β := evA p b) ⟨h1, h2⟩ ih
    have hc : -((c.natAbs : Nat) : Rat) ≤ c ∧ (c : Rat) ≤ ((c.natAbs : Nat) : Rat) := by
      have a1 := Rat.intCast_le_intCast.2 (show c ≤ ((c.natAbs : Nat) : Int) by omega)
      have a2 := Rat.intCast_le_intCast.2 (show -((c.natAbs : Nat) : Int) ≤ c by omega)
      rw [Rat.intCast_neg, Rat.intCast_natCast] at a2
      rw [Rat.intCast_natCast] at a1
      exact ⟨a2, a1⟩
    simp only [ev, evA, Rat.natCast_add, Rat.natCast_mul]
    constructor <;> grind
end Go.Proofs.YtcfpfaakbomcnaaDoor.Fl

namespace Go.Proofs.YtcfpfaakbomcnaaDoor.Fl
def fact : Nat → Nat
  | 0 => 1
  | n + 1 => (n + 1) * fact n
/-- Taylor's sine, up to the 61st power, times 61! and 2^(97 61), of 2^97 z. -/
def tayL : List Int := (List.range 62).map fun i => if i % 2 = 0 then 0 else (if i % 4 = 1 then 1 else -1) * (((fact 61 / fact i : Nat) : Int) * 2 ^ (97 * (61 - i)))
/-- A coefficient m / 2^e of the k-th power, likewise. -/
def co (k : Nat) (m : Int) (e : Nat) : Int := m * (fact 61 : Int) * 2 ^ (97 * (61 - k) - e)
def sinP : List Int := [0, co 1 1 0, 0, co 3 (-750599937895081) 52, 0, co 5 300239975157629 55, 0, co 7 (-7320136532877059) 65, 0, co 9 6506786710177953 71, 0, co 11 (-7571123942793053) 78, 0, co 13 6149556183080141 85]
def cosP : List Int := [co 0 1 0, 0, co 2 (-1) 1, 0, co 4 6004799503160651 57, 0, co 6 (-6405119470030737) 62, 0, co 8 7320136533427445 68, 0, co 10 (-2602714736764387) 73, 0, co 12 5047434750082821 81, 0, co 14 (-7030593573755547) 89]
def piM : Int := 124451306656115542615260972311
def tau : Nat := 124546891187733432229806571520
def dif (y : Nat) : List Int := addP (shf ((y : Int) * piM) tayL) (scl (if y % 8 < 4 then -1 else 1) (if y % 4 = 0 then sinP else cosP))
def bigK : Nat := fact 61 * 2 ^ (97 * 61)
theorem dif2 : evA (dif 2) tau * 2 ^ 41 ≤ bigK := by decide +kernel
theorem dif4 : evA (dif 4) tau * 2 ^ 41 ≤ bigK := by decide +kernel
theorem dif6 : evA (dif 6) tau * 2 ^ 41 ≤ bigK := by decide +kernel
theorem dif8 : evA (dif 8) tau * 2 ^ 41 ≤ bigK := by decide +kernel
theorem dif10 : evA (dif 10) tau * 2 ^ 41 ≤ bigK := by decide +kernel
theorem dif12 : evA (dif 12) tau * 2 ^ 41 ≤ bigK := by decide +kernel
theorem dif14 : evA (dif 14) tau * 2 ^ 41 ≤ bigK := by decide +kernel
theorem dif16 : evA (dif 16) tau * 2 ^ 41 ≤ bigK := by decide +kernel
theorem dif0 : (dif 0).head? = some 0 ∧ evA (dif 0).tail tau * tau * 2 ^ 41 ≤ bigK := by decide +kernel
end Go.Proofs.YtcfpfaakbomcnaaDoor.Fl

namespace Go.Proofs.YtcfpfaakbomcnaaDoor.Fl
/-- f 0 + .. + f (n - 1). -/
def sm (f : Nat → Rat) : Nat → Rat
  | 0 => 0
  | n + 1 => sm f n + f n
theorem ev_app : ∀ (p : List Int) (c : Int) (t : Rat), ev (p ++ [c]) t = ev p t + c * t ^ p.length
  | [], c, t => by simp [ev]; grind
  | a :: p, c, t => by
    simp only [List.cons_append, ev, ev_app p c t, List.length_cons, Rat.pow_succ]; grind
theorem ev_range (f : Nat → Int) (t : Rat) : ∀ n, ev ((List.range n).map f) t = sm (fun i => f i * t ^ i) n
  | 0 => rfl
  | n + 1 => by rw [List.range_succ, List.map_append, List.map_cons, List.map_nil, ev_app, ev_range f t n]; simp [sm]
theorem sm_pair (f : Nat → Rat) : ∀ n, sm f (2 * n) = sm (fun k => f (2 * k) + f (2 * k + 1)) n
  | 0 => rfl
  | n + 1 => by
    rw [show 2 * (n + 1) = 2 * n + 1 + 1 by omega, sm, sm, sm_pair f n, sm]; grind
theorem sm_congr {f g : Nat → Rat} : ∀ n, (∀ i, i < n → f i = g i) → sm f n = sm g n
  | 0, _ => rfl
  | n + 1, h => by rw [sm, sm, sm_congr n (fun i hi => h i (by omega)), h n (by omega)]
theorem sm_mul (a : Rat) (f : Nat → Rat) : ∀ n, sm (fun i => a * f i) n = a * sm f n
  | 0 => by simp [sm]
  | n + 1 => by rw [sm, sm, sm_mul a f n]; grind
def Q : Rat := ((2 ^ 97 : Nat) : Rat)
def KK : Rat := ((bigK : Nat) : Rat)
theorem Q_pow (n : Nat) : Q ^ n = ((2 ^ (97 * n) : Nat) : Rat) := by
  unfold Q
  rw [← Rat.natCast_pow, ← Nat.pow_mul]
theorem KK_pos : 0 < KK := Rat.natCast_pos.2 (by decide +kernel)
theorem Q_pos : 0 < Q := Rat.natCast_pos.2 (by decide +kernel)
/-- u^n / (2n+1)!, with its sign. -/
def trm (u : Rat) (n : Nat) : Rat := (if n % 2 = 0 then 1 else -1) * (u ^ n * ((fact (2 * n + 1) : Nat) : Rat)⁻¹)
/-- Taylor's sine over its number, of the number's square. -/
def TT (u : Rat) : Rat := sm (trm u) 31
theorem fact_pos : ∀ n, 0 < fact n
  | 0 => by decide
  | n + 1 => Nat.mul_pos (by omega) (fact_pos n)
theorem fact_dvd {m : Nat} : ∀ n, m ≤ n → fact m ∣ fact n
  | 0, h => by obtain rfl : m = 0 := by omega
               exact Nat.dvd_refl _
  | n + 1, h => by
    rcases Nat.lt_or_ge n m with c | c
    · obtain rfl : m = n + 1 := by omega
      exact Nat.dvd_refl _
    · exact Nat.dvd_trans (fact_dvd n c) (Nat.dvd_mul_left _ _)
theorem rmul_pow (a b : Rat) : ∀ n : Nat, (a * b) ^ n = a ^ n * b ^ n
  | 0 => by simp
  | n + 1 => by rw [Rat.pow_succ, Rat.pow_succ, Rat.pow_succ, rmul_pow a b n]; grind
theorem rsq_pow (z : Rat) : ∀ n : Nat, z ^ (2 * n) = (z * z) ^ n
  | 0 => by simp
  | n + 1 => by rw [show 2 * (n + 1) = 2 * n + 1 + 1 by omega, Rat.pow_succ, Rat.pow_succ, rsq_pow z n, Rat.pow_succ]; grind
theorem nat4 {a b c d f g : Nat} (h1 : a * c = d) (h2 : b * f = g) : a * b * f * c = d * g := by subst h1 h2; grind
theorem tay_val (z : Rat) : ev tayL (Q * z) = KK * (z * TT (z * z)) := by
  unfold tayL TT
  rw [ev_range, show 62 = 2 * 31 from rfl, sm_pair, ← sm_mul, ← sm_mul]
  refine sm_congr 31 (fun n hn => ?_)
  have e0 : (2 * n) % 2 = 0 := by omega
  have e1 : (2 * n + 1) % 2 ≠ 0 := by omega
  rw [if_pos e0, if_neg e1]
  obtain ⟨m, hm⟩ : ∃ m, m = 2 * n + 1 := ⟨_, rfl⟩
  have hsg : (((if (2 * n + 1) % 4 = 1 then 1 else -1 : Int)) : Rat) = if n % 2 = 0 then 1 else -1 := by
    by_cases c : n % 2 = 0
    · rw [if_pos c, if_pos (by omega)]; rfl
    · rw [if_neg c, if_neg (by omega)]; rfl
  unfold trm
  rw [Rat.intCast_mul, hsg, ← hm]
  generalize (if n % 2 = 0 then (1 : Rat) else -1) = sgn
  have hd : fact 61 / fact m * fact m = fact 61 := Nat.div_mul_cancel (fact_dvd 61 (by omega))
  have hp : 2 ^ (97 * (61 - m)) * 2 ^ (97 * m) = 2 ^ (97 * 61) := by rw [← Nat.pow_add]; congr 1; omega
  have hf : ((fact m : Nat) : Rat) ≠ 0 := by have := Rat.natCast_pos.2 (fact_pos m); grind
  have e2 : (((((fact 61 / fact m : Nat) : Int) * 2 ^ (97 * (61 - m)) : Int)) : Rat) = ((fact 61 / fact m * 2 ^ (97 * (61 - m)) : Nat) : Rat) := by
    rw [← Rat.intCast_natCast]; congr 1
  have hK : ((fact 61 / fact m * 2 ^ (97 * (61 - m)) : Nat) : Rat) * ((2 ^ (97 * m) : Nat) : Rat) * ((fact m : Nat) : Rat) = KK := by
    unfold KK bigK
    rw [← Rat.natCast_mul, ← Rat.natCast_mul]
    exact congrArg (fun x : Nat => (x : Rat)) (nat4 hd hp)
  have hz : z ^ m = z * (z * z) ^ n := by rw [hm, Rat.pow_succ, Rat.mul_comm, rsq_pow]
  rw [e2, rmul_pow Q z m, Q_pow m, hz]
  have hi : ((fact m : Nat) : Rat) * ((fact m : Nat) : Rat)⁻¹ = 1 := Rat.mul_inv_cancel _ hf
  rw [← hK]
  generalize ((fact m : Nat) : Rat)⁻¹ = fi at hi ⊢
  generalize ((fact m : Nat) : Rat) = fm at hi ⊢
  generalize ((fact 61 / fact m * 2 ^ (97 * (61 - m)) : Nat) : Rat) = aa
  generalize ((2 ^ (97 * m) : Nat) : Rat) = bb
  generalize (z * z) ^ n = zz
  have : aa * bb * fm * (z * (sgn * (zz * fi))) = aa * bb * z * sgn * zz * (fm * fi) := by grind
  rw [this, hi]
  simp
  grind
end Go.Proofs.YtcfpfaakbomcnaaDoor.Fl

namespace Go.Proofs.YtcfpfaakbomcnaaDoor.Fl
def sinM (i : Nat) : Int := ([0, 1, 0, -750599937895081, 0, 300239975157629, 0, -7320136532877059, 0, 6506786710177953, 0, -7571123942793053, 0, 6149556183080141] : List Int).getD i 0
def sinE (i : Nat) : Nat := ([0, 0, 0, 52, 0, 55, 0, 65, 0, 71, 0, 78, 0, 85] : List Nat).getD i 0
def cosM (i : Nat) : Int := ([1, 0, -1, 0, 6004799503160651, 0, -6405119470030737, 0, 7320136533427445, 0, -2602714736764387, 0, 5047434750082821, 0, -7030593573755547] : List Int).getD i 0
def cosE (i : Nat) : Nat := ([0, 0, 1, 0, 57, 0, 62, 0, 68, 0, 73, 0, 81, 0, 89] : List Nat).getD i 0
theorem sinP_is : sinP = (List.range 14).map fun i => co i (sinM i) (sinE i) := by decide +kernel
theorem cosP_is : cosP = (List.range 15).map fun i => co i (cosM i) (cosE i) := by decide +kernel
/-- A coefficient. -/
def cf (m : Int) (e : Nat) : Rat := (m : Rat) * ((2 ^ e : Nat) : Rat)⁻¹
theorem nat5 {f a b e g : Nat} (h : a * b * e = g) : f * a * b * e = f * g := by subst h; grind
theorem co_val (k : Nat) (m : Int) (e : Nat) (hk : k ≤ 61) (he : e ≤ 97 * (61 - k)) : ((co k m e : Int) : Rat) * Q ^ k = KK * cf m e := by
  unfold co cf
  have hp : 2 ^ (97 * (61 - k) - e) * 2 ^ (97 * k) * 2 ^ e = 2 ^ (97 * 61) := by rw [← Nat.pow_add, ← Nat.pow_add]; congr 1; omega
  have e2 : ((m * (fact 61 : Int) * 2 ^ (97 * (61 - k) - e) : Int) : Rat) = m * (((fact 61 * 2 ^ (97 * (61 - k) - e) : Nat)) : Rat) := by
    rw [Int.mul_assoc, Rat.intCast_mul]
    congr 1
  have hf : ((2 ^ e : Nat) : Rat) ≠ 0 := by have := Rat.natCast_pos.2 (Nat.two_pow_pos e); grind
  have hK : (((fact 61 * 2 ^ (97 * (61 - k) - e) : Nat)) : Rat) * ((2 ^ (97 * k) : Nat) : Rat) * ((2 ^ e : Nat) : Rat) = KK := by
    unfold KK bigK
    rw [← Rat.natCast_mul, ← Rat.natCast_mul]
    exact congrArg (fun x : Nat => (x : Rat)) (nat5 hp)
  rw [e2, Q_pow k]
  have hi : ((2 ^ e : Nat) : Rat) * ((2 ^ e : Nat) : Rat)⁻¹ = 1 := Rat.mul_inv_cancel _ hf
  rw [← hK]
  generalize ((2 ^ e : Nat) : Rat)⁻¹ = fi at hi ⊢
  generalize ((2 ^ e : Nat) : Rat) = fm at hi ⊢
  generalize (((fact 61 * 2 ^ (97 * (61 - k) - e) : Nat)) : Rat) = aa
  generalize ((2 ^ (97 * k) : Nat) : Rat) = bb
  generalize (m : Rat) = mm
  have : aa * bb * fm * (mm * fi) = mm * aa * bb * (fm * fi) := by grind
  rw [this, hi, Rat.mul_one]
theorem ev_co (M : Nat → Int) (E : Nat → Nat) (n : Nat) (hn : n ≤ 20) (hE : ∀ i, i < n → E i ≤ 1000) (t : Rat) : ev ((List.range n).map fun i => co i (M i) (E i)) (Q * t) = KK * sm (fun i => cf (M i) (E i) * t ^ i) n := by
  rw [ev_range, ← sm_mul]
  refine sm_congr n (fun i hi => ?_)
  have h := co_val i (M i) (E i) (by omega) (by have := hE i hi; omega)
  rw [rmul_pow, ← Rat.mul_assoc, h, Rat.mul_assoc]
def s0 : Rat := cf 6149556183080141 85
def s1 : Rat := cf (-7571123942793053) 78
def s2 : Rat := cf 6506786710177953 71
def s3 : Rat := cf (-7320136532877059) 65
def s4 : Rat := cf 300239975157629 55
def s5 : Rat := cf (-750599937895081) 52
def k0 : Rat := cf (-7030593573755547) 89
def k1 : Rat := cf 5047434750082821 81
def k2 : Rat := cf (-2602714736764387) 73
def k3 : Rat := cf 7320136533427445 68
def k4 : Rat := cf (-6405119470030737) 62
def k5 : Rat := cf 6004799503160651 57
/-- Cephes' sine near nought, and cosine, without rounding. -/
def sinR (t : Rat) : Rat := t + t * (t * t) * (((((s0 * (t * t) + s1) * (t * t) + s2) * (t * t) + s3) * (t * t) + s4) * (t * t) + s5)
def cosR (t : Rat) : Rat := 1 - 1 / 2 * (t * t) + t * t * (t * t) * (((((k0 * (t * t) + k1) * (t * t) + k2) * (t * t) + k3) * (t * t) + k4) * (t * t) + k5)
theorem cf0 (e : Nat) : cf 0 e = 0 := by unfold cf; simp
theorem cf1 : cf 1 0 = 1 := by unfold cf; simp; grind
theorem cfh : cf (-1) 1 = -(1 / 2) := by unfold cf; simp; grind
theorem sin_val (t : Rat) : ev sinP (Q * t) = KK * sinR t := by
  rw [sinP_is, ev_co sinM sinE 14 (by decide) (by decide)]
  congr 1
  simp only [sm]
  simp only [show cf (sinM 0) (sinE 0) = 0 from cf0 _, show cf (sinM 1) (sinE 1) = 1 from cf1, show cf (sinM 2) (sinE 2) = 0 from cf0 _, show cf (sinM 3) (sinE 3) = s5 from rfl, show cf (sinM 4) (sinE 4) = 0 from cf0 _, show cf (sinM 5) (sinE 5) = s4 from rfl, show cf (sinM 6) (sinE 6) = 0 from cf0 _, show cf (sinM 7) (sinE 7) = s3 from rfl, show cf (sinM 8) (sinE 8) = 0 from cf0 _, show cf (sinM 9) (sinE 9) = s2 from rfl, show cf (sinM 10) (sinE 10) = 0 from cf0 _, show cf (sinM 11) (sinE 11) = s1 from rfl, show cf (sinM 12) (sinE 12) = 0 from cf0 _, show cf (sinM 13) (sinE 13) = s0 from rfl]
  unfold sinR
  grind
theorem cos_val (t : Rat) : ev cosP (Q * t) = KK * cosR t := by
  rw [cosP_is, ev_co cosM cosE 15 (by decide) (by decide)]
  congr 1
  simp only [sm]
  simp only [show cf (cosM 0) (cosE 0) = 1 from cf1, show cf (cosM 1) (cosE 1) = 0 from cf0 _, show cf (cosM 2) (cosE 2) = -(1 / 2) from cfh, show cf (cosM 3) (cosE 3) = 0 from cf0 _, show cf (cosM 4) (cosE 4) = k5 from rfl, show cf (cosM 5) (cosE 5) = 0 from cf0 _, show cf (cosM 6) (cosE 6) = k4 from rfl, show cf (cosM 7) (cosE 7) = 0 from cf0 _, show cf (cosM 8) (cosE 8) = k3 from rfl, show cf (cosM 9) (cosE 9) = 0 from cf0 _, show cf (cosM 10) (cosE 10) = k2 from rfl, show cf (cosM 11) (cosE 11) = 0 from cf0 _, show cf (cosM 12) (cosE 12) = k1 from rfl, show cf (cosM 13) (cosE 13) = 0 from cf0 _, show cf (cosM 14) (cosE 14) = k0 from rfl]
  unfold cosR
  grind
end Go.Proofs.YtcfpfaakbomcnaaDoor.Fl

namespace Go.Proofs.YtcfpfaakbomcnaaDoor.Fl
/-- A quarter of pi, as it is taken off. -/
def cc : Rat := (piM : Rat) * Q⁻¹
def sgy (y : Nat) : Rat := if y % 8 < 4 then 1 else -1
def poly (y : Nat) (t : Rat) : Rat := if y % 4 = 0 then sinR t else cosR t
theorem Q_inv : Q * Q⁻¹ = 1 := Rat.mul_inv_cancel _ (by have := Q_pos; grind)
theorem dif_val (y : Nat) (z : Rat) : ev (dif y) (Q * (z - y * cc)) = KK * (z * TT (z * z) - sgy y * poly y (z - y * cc)) := by
  unfold dif
  rw [ev_add, ev_shf, ev_scl]
  have e : Q * (z - y * cc) + (((y : Int) * piM : Int) : Rat) = Q * z := by
    unfold cc
    rw [Rat.intCast_mul, Rat.intCast_natCast]
    have := Q_inv
    grind
  rw [e, tay_val]
  have es : (((if y % 8 < 4 then -1 else 1 : Int)) : Rat) = -sgy y := by
    unfold sgy
    by_cases c : y % 8 < 4
    · rw [if_pos c, if_pos c]; rfl
    · rw [if_neg c, if_neg c]; simp
  rw [es]
  unfold poly
  by_cases c : y % 4 = 0
  · rw [if_pos c, if_pos c, sin_val]; grind
  · rw [if_neg c, if_neg c, cos_val]; grind
theorem t41 : ((2 ^ 41 : Nat) : Rat) = 2199023255552 := rfl
theorem oct_bnd {y : Nat} (h : evA (dif y) tau * 2 ^ 41 ≤ bigK) {z : Rat} (h0 : -(tau : Rat) ≤ Q * (z - y * cc)) (h1 : Q * (z - y * cc) ≤ tau) :
    -(1 / 2199023255552) ≤ z * TT (z * z) - sgy y * poly y (z - y * cc) ∧ z * TT (z * z) - sgy y * poly y (z - y * cc) ≤ 1 / 2199023255552 := by
  have b := ev_le (dif y) tau _ h0 h1
  rw [dif_val] at b
  have hk : (evA (dif y) tau : Rat) * 2199023255552 ≤ KK := by
    have := Rat.natCast_le_natCast.2 h
    rw [Rat.natCast_mul, t41] at this
    exact this
  have kp := KK_pos
  generalize z * TT (z * z) - sgy y * poly y (z - y * cc) = d at b ⊢
  generalize (evA (dif y) tau : Rat) = e at b hk
  constructor
  · exact Rat.le_of_mul_le_mul_left (show KK * -(1 / 2199023255552) ≤ KK * d by grind) kp
  · exact Rat.le_of_mul_le_mul_left (show KK * d ≤ KK * (1 / 2199023255552) by grind) kp
theorem oct_even {y : Nat} (hy : y % 2 = 0) (h2 : 2 ≤ y) (h16 : y ≤ 16) {z : Rat} (h0 : -(tau : Rat) ≤ Q * (z - y * cc)) (h1 : Q * (z - y * cc) ≤ tau) :
    -(1 / 2199023255552) ≤ z * TT (z * z) - sgy y * poly y (z - y * cc) ∧ z * TT (z * z) - sgy y * poly y (z - y * cc) ≤ 1 / 2199023255552 := by
  refine oct_bnd ?_ h0 h1
  have : y = 2 ∨ y = 4 ∨ y = 6 ∨ y = 8 ∨ y = 10 ∨ y = 12 ∨ y = 14 ∨ y = 16 := by omega
  rcases this with rfl | rfl | rfl | rfl | rfl | rfl | rfl | rfl
  · exact dif2
  · exact dif4
  · exact dif6
  · exact dif8
  · exact dif10
  · exact dif12
  · exact dif14
  · exact dif16
theorem tau_pos : 0 < ((tau : Nat) : Rat) := Rat.natCast_pos.2 (by decide)
theorem tau_Q : Q ≤ 2 * (tau : Rat) := by
  have : (2 ^ 97 : Nat) ≤ 2 * tau := by decide +kernel
  have := Rat.natCast_le_natCast.2 this
  rw [Rat.natCast_mul] at this
  exact this
theorem oct_zero {z : Rat} (h0 : 0 ≤ z) (h1 : Q * z ≤ tau) :
    -(z * (1 / 1099511627776)) ≤ z * TT (z * z) - sinR z ∧ z * TT (z * z) - sinR z ≤ z * (1 / 1099511627776) := by
  obtain ⟨hd, hb⟩ := dif0
  have qp := Q_pos
  have qz : 0 ≤ Q * z := Rat.mul_nonneg (Rat.le_of_lt qp) h0
  have tp := tau_pos
  have b := ev_le (dif 0).tail tau (Q * z) (by grind) h1
  have v := dif_val 0 z
  have ez : z - ((0 : Nat) : Rat) * cc = z := by simp; grind
  have es : sgy 0 = 1 := rfl
  have ep : poly 0 z = sinR z := rfl
  rw [ez, es, ep] at v
  have ed : dif 0 = 0 :: (dif 0).tail := by
    cases hx : dif 0 with
    | nil => rw [hx] at hd; simp at hd
    | cons a l => rw [hx] at hd; simp at hd; subst hd; rfl
  rw [ed] at v
  simp only [ev] at v
  have hk : (evA (dif 0).tail tau : Rat) * tau * 2199023255552 ≤ KK := by
    have := Rat.natCast_le_natCast.2 hb
    rw [Rat.natCast_mul, Rat.natCast_mul, t41] at this
    exact this
  have kp := KK_pos
  have tq := tau_Q
  generalize (evA (dif 0).tail tau : Rat) = e at b hk
  generalize ev (dif 0).tail (Q * z) = w at b v
  generalize z * TT (z * z) = d at v ⊢
  generalize sinR z = s at v ⊢
  have m := mulb (a := Q * z) (b := w) (α := Q * z) (β := e) ⟨by grind, Rat.le_refl⟩ b
  have e0 : 0 ≤ e := by grind
  have m1 : Q * z * e ≤ 2 * tau * z * e := by
    have := Rat.mul_le_mul_of_nonneg_right tq (Rat.mul_nonneg h0 e0)
    grind
  have m2 : 2 * tau * z * e * 2199023255552 ≤ 2 * KK * z := by
    have := Rat.mul_le_mul_of_nonneg_right hk h0
    grind
  have v2 : Q * z * w = KK * (d - s) := by
    have : ((0 : Int) : Rat) = 0 := rfl
    rw [this] at v
    grind
  rw [v2] at m
  constructor
  · exact Rat.le_of_mul_le_mul_left (show KK * -(z * (1 / 1099511627776)) ≤ KK * (d - s) by grind) kp
  · exact Rat.le_of_mul_le_mul_left (show KK * (d - s) ≤ KK * (z * (1 / 1099511627776)) by grind) kp
end Go.Proofs.YtcfpfaakbomcnaaDoor.Fl

namespace Go.Proofs.YtcfpfaakbomcnaaDoor.Fl
def hold (m : Int) : Int := if m < -9223372036854775808 then -9223372036854775808 else if m > 9223372036854775807 then 9223372036854775807 else m
def rdiv (a b : Int) : Int := if 0 < b then (2 * a + b) / (2 * b) else (2 * (-a) + (-b)) / (2 * (-b))
def wrap64 (x : Int) : Int := (x + 9223372036854775808) % 18446744073709551616 - 9223372036854775808
def serU (p q : Int) : Int := hold (rdiv (hold (rdiv (10851744800547 * p) q) * p) q)
def serT (u : Int) : Nat → Int
  | 0 => 1099511627776
  | n + 1 => hold (rdiv (serT u n * u) ((2 * ((n : Int) + 1)) * (2 * ((n : Int) + 1) + 1) * 1099511627776))
def serS (u : Int) : Nat → Int
  | 0 => 1099511627776
  | n + 1 => if n % 2 = 0 then wrap64 (serS u n - serT u (n + 1)) else wrap64 (serS u n + serT u (n + 1))
theorem rdiv_near {a b : Int} (hb : 0 < b) : 2 * (rdiv a b * b) ≤ 2 * a + b ∧ 2 * a ≤ 2 * (rdiv a b * b) + b := by
  unfold rdiv
  rw [if_pos hb]
  have e := Int.mul_ediv_add_emod (2 * a + b) (2 * b)
  have r0 := Int.emod_nonneg (2 * a + b) (show 2 * b ≠ 0 by omega)
  have r1 := Int.emod_lt_of_pos (2 * a + b) (show 0 < 2 * b by omega)
  generalize (2 * a + b) / (2 * b) = z at *
  generalize (2 * a + b) % (2 * b) = r at *
  have e2 : 2 * b * z = 2 * (z * b) := by rw [Int.mul_assoc, Int.mul_comm b z]
  rw [e2] at e
  omega
theorem hold_in {m : Int} (h0 : -9223372036854775808 ≤ m) (h1 : m ≤ 9223372036854775807) : hold m = m := by unfold hold; omega
theorem w64_in {x : Int} (h0 : -9223372036854775808 ≤ x) (h1 : x ≤ 9223372036854775807) : wrap64 x = x := by unfold wrap64; omega
theorem cast_le {a b : Int} (h : a ≤ b) : (a : Rat) ≤ (b : Rat) := Rat.intCast_le_intCast.2 h
theorem le_cast {a b : Int} (h : (a : Rat) ≤ (b : Rat)) : a ≤ b := Rat.intCast_le_intCast.1 h
/-- A rounded quotient is within a half. -/
theorem rdiv_rat {a b : Int} (hb : 0 < b) : (rdiv a b : Rat) - a * (b : Rat)⁻¹ ≤ 1 / 2 ∧ a * (b : Rat)⁻¹ - (rdiv a b : Rat) ≤ 1 / 2 := by
  obtain ⟨h1, h2⟩ := rdiv_near (a := a) hb
  have k1 := cast_le h1
  have k2 := cast_le h2
  simp only [Rat.intCast_add, Rat.intCast_mul] at k1 k2
  rw [show ((2 : Int) : Rat) = 2 from rfl] at k1 k2
  have bp : 0 < (b : Rat) := Rat.intCast_pos.2 hb
  have bi : (b : Rat) * (b : Rat)⁻¹ = 1 := Rat.mul_inv_cancel _ (by grind)
  generalize (b : Rat)⁻¹ = i at bi ⊢
  generalize (rdiv a b : Rat) = r at k1 k2 ⊢
  generalize (a : Rat) = x at k1 k2 ⊢
  generalize (b : Rat) = y at k1 k2 bp bi ⊢
  have e : x * i * y = x := by rw [Rat.mul_assoc, Rat.mul_comm i y, bi, Rat.mul_one]
  constructor
  · exact Rat.le_of_mul_le_mul_right (show (r - x * i) * y ≤ 1 / 2 * y by grind) bp
  · exact Rat.le_of_mul_le_mul_right (show (x * i - r) * y ≤ 1 / 2 * y by grind) bp
/-- How far a term may be from the real one, in parts of 2^40; its greatest. -/
def eB : Nat → Rat
  | 0 => 0
  | n + 1 => eB n * (158 / (((2 * (n + 1)) * (2 * (n + 1) + 1) : Nat) : Rat)) + 1 / 2
def gB : Nat → Rat
  | 0 => 1
  | n + 1 => gB n * (158 / (((2 * (n + 1)) * (2 * (n + 1) + 1) : Nat) : Rat))
theorem eB_le : ∀ n : Nat, n < 31 → 0 ≤ eB n ∧ eB n ≤ 60 ∧ 0 ≤ gB n ∧ gB n ≤ 3000 := by decide +kernel
def W (U : Rat) (n : Nat) : Rat := U ^ n * ((fact (2 * n + 1) : Nat) : Rat)⁻¹
theorem W_succ (U : Rat) (n : Nat) : W U (n + 1) = W U n * (U * ((((2 * (n + 1)) * (2 * (n + 1) + 1) : Nat)) : Rat)⁻¹) := by
  unfold W
  have e : fact (2 * (n + 1) + 1) = (2 * (n + 1)) * (2 * (n + 1) + 1) * fact (2 * n + 1) := by
    rw [show 2 * (n + 1) + 1 = (2 * n + 1) + 1 + 1 by omega, fact, fact]
    generalize fact (2 * n + 1) = f
    grind
  rw [e, Rat.natCast_mul, Rat.inv_mul_rev, Rat.pow_succ]
  grind
theorem term_near {u : Int} (h0 : 0 ≤ u) (h1 : (u : Rat) ≤ 158 * 1099511627776) : ∀ n : Nat, n ≤ 30 →
    0 ≤ serT u n ∧ (serT u n : Rat) - 1099511627776 * W (u * (1099511627776 : Rat)⁻¹) n ≤ eB n ∧ 1099511627776 * W (u * (1099511627776 : Rat)⁻¹) n - (serT u n : Rat) ≤ eB n ∧ 0 ≤ W (u * (1099511627776 : Rat)⁻¹) n ∧ W (u * (1099511627776 : Rat)⁻¹) n ≤ gB n := by
  obtain ⟨U, hU⟩ : ∃ U, U = u * (1099511627776 : Rat)⁻¹ := ⟨_, rfl⟩
  rw [← hU]
  have hu : (u : Rat) = U * 1099511627776 := by rw [hU]; grind
  have u0 : 0 ≤ (u : Rat) := Rat.intCast_nonneg.2 h0
  have U0 : 0 ≤ U := by grind
  have U1 : U ≤ 158 := by grind
  intro n
  induction n with
  | zero =>
    intro _
    have w0 : W U 0 = 1 := by unfold W; simp [fact]; grind
    have t0 : serT u 0 = 1099511627776 := rfl
    rw [w0, t0]
    refine ⟨by decide, ?_, ?_, by decide, by decide⟩ <;> (rw [show ((1099511627776 : Int) : Rat) = 1099511627776 from rfl]; simp [eB]; grind)
  | succ n ih =>
    intro hn
    obtain ⟨t0, t1, t2, w0, w1⟩ := ih (by omega)
    obtain ⟨e0, e1, g0, g1⟩ := eB_le n (by omega)
    obtain ⟨_, _, g2, g3⟩ := eB_le (n + 1) (by omega)
    obtain ⟨D, hD⟩ : ∃ D : Nat, D = (2 * (n + 1)) * (2 * (n + 1) + 1) := ⟨_, rfl⟩
    have D1 : 1 ≤ D := by rw [hD]; exact Nat.mul_pos (by omega) (by omega)
    have Dp : 0 < (D : Rat) := Rat.natCast_pos.2 (by omega)
    have Di : (D : Rat) * (D : Rat)⁻¹ = 1 := Rat.mul_inv_cancel _ (by grind)
    have Dn : 0 ≤ (D : Rat)⁻¹ := Rat.le_of_lt (Rat.inv_pos.2 Dp)
    rw [W_succ, ← hD]
    have hb : (0 : Int) < D * 1099511627776 := by omega
    have hr := rdiv_rat (a := serT u n * u) hb
    have hDc : (2 * ((n : Int) + 1)) * (2 * ((n : Int) + 1) + 1) = (D : Int) := by rw [hD]; simp
    have eT : serT u (n + 1) = hold (rdiv (serT u n * u) (D * 1099511627776)) := by
      show hold (rdiv (serT u n * u) ((2 * ((n : Int) + 1)) * (2 * ((n : Int) + 1) + 1) * 1099511627776)) = _
      rw [hDc]
    have ex : ((serT u n * u : Int) : Rat) * (((D : Int) * 1099511627776 : Int) : Rat)⁻¹ = serT u n * U * (D : Rat)⁻¹ := by
      rw [Rat.intCast_mul, Rat.intCast_mul, Rat.inv_mul_rev, hu, Rat.intCast_natCast, show ((1099511627776 : Int) : Rat) = 1099511627776 from rfl]
      grind
    rw [ex] at hr
    have eE : eB (n + 1) = eB n * (158 * (D : Rat)⁻¹) + 1 / 2 := by rw [eB, ← hD, Rat.div_def]
    have eG : gB (n + 1) = gB n * (158 * (D : Rat)⁻¹) := by rw [gB, ← hD, Rat.div_def]
    obtain ⟨r, hr0⟩ : ∃ r, r = rdiv (serT u n * u) (D * 1099511627776) := ⟨_, rfl⟩
    rw [← hr0] at hr eT
    obtain ⟨I, hI⟩ : ∃ I, I = (D : Rat)⁻¹ := ⟨_, rfl⟩
    rw [← hI] at hr eE eG Dn ⊢
    obtain ⟨k, hk⟩ : ∃ k : Rat, k = U * I := ⟨_, rfl⟩
    have k0 : 0 ≤ k := by rw [hk]; exact Rat.mul_nonneg U0 Dn
    have k1 : k ≤ 158 * I := by rw [hk]; exact Rat.mul_le_mul_of_nonneg_right U1 Dn
    have kI : 158 * I ≤ 158 := by
      have : 1 ≤ (D : Rat) := Rat.natCast_le_natCast.2 D1
      have h1 : (D : Rat) * I = 1 := by rw [hI]; exact Di
      have := Rat.mul_le_mul_of_nonneg_right this Dn
      grind
    rw [← hk]
    generalize W U n = w at *
    generalize (serT u n : Rat) = t at *
    have ek : t * U * I = t * k := by rw [hk]; grind
    rw [ek] at hr
    have p1 : w * k ≤ w * (158 * I) := Rat.mul_le_mul_of_nonneg_left k1 w0
    have p2 : w * (158 * I) ≤ gB n * (158 * I) := Rat.mul_le_mul_of_nonneg_right w1 (by grind)
    have p3 : 0 ≤ w * k := Rat.mul_nonneg w0 k0
    have p4 := Rat.mul_le_mul_of_nonneg_right t1 k0
    have p5 := Rat.mul_le_mul_of_nonneg_right t2 k0
    have p6 : eB n * k ≤ eB n * (158 * I) := Rat.mul_le_mul_of_nonneg_left k1 e0
    have b1 : (r : Rat) - 1099511627776 * (w * k) ≤ eB (n + 1) := by rw [eE]; grind
    have b2 : 1099511627776 * (w * k) - (r : Rat) ≤ eB (n + 1) := by rw [eE]; grind
    have q1 : w * k ≤ gB (n + 1) := by rw [eG]; grind
    have r0 : 0 ≤ r := by
      rw [hr0]
      unfold rdiv
      rw [if_pos hb]
      exact Int.ediv_nonneg (by have := Int.mul_nonneg t0 h0; omega) (by omega)
    have e3 := (eB_le (n + 1) (by omega)).2.1
    have r1 : r ≤ 9223372036854775807 := by
      refine le_cast ?_
      rw [show ((9223372036854775807 : Int) : Rat) = 9223372036854775807 from rfl]
      grind
    rw [eT, hold_in (by omega) r1]
    exact ⟨r0, b1, b2, p3, q1⟩
end Go.Proofs.YtcfpfaakbomcnaaDoor.Fl
