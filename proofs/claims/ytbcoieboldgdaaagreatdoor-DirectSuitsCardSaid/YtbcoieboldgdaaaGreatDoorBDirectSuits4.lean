/- Joined by wip/tools/bundle.py out of: QAx14 QAx15 QAx16 QAx17 QAx18 TCore. -/
import Derived.Test.YtbcoieboldgdaaaGreatDoorBDirectSuits1
import Derived.Test.YtbcoieboldgdaaaGreatDoorBDirectSuits2
import Derived.Test.YtbcoieboldgdaaaGreatDoorBDirectSuits3
import Derived.RowKit
import Derived.Laws.BitsLemmas
namespace Go.Proofs.YtbcoieboldgdaaaGreatDoor.QA
open Go.Proofs.YtbcoieboldgdaaaGreatDoor.T
open Go.RowKit Go.Proofs.YtbcoieboldgdaaaGreatDoorW.PrintWords Go.Proofs.YtbcoieboldgdaaaGreatDoorW.PrintLast Go.Proofs.YtbcoieboldgdaaaGreatDoorW.PrintMore
attribute [local go_sem] ext_call max2_int min2_int max_two min_two max_three min_three max_four min_four   -- for this text's walks alone
set_option linter.unusedVariables false
set_option linter.unusedSimpArgs false
def wide_MulShift.j0 : Nat → Bool → Int → Int → Bool → Option (Int)
 | 0, _, _, _, _ => none
 | k + 1, x9, x10, x11, x59 => if x59 = true then ((wide_signed.f k x10 x11 x9).bind fun t183 => (some t183)) else ((wide_signed.f k (IntKind.u64.wrap (x10 + (add64c x11 1 0))) (add64s x11 1 0) x9).bind fun t184 => (some t184))
def wide_MulShift.f (k : Nat) (a0 : Int) (a1 : Int) (a2 : Int) : Option (Int) := if (mx 0 a2) ≥ 128 then (some 0) else ((wide_product.f a0 a1).bind fun bt174 => (if (mx 0 a2) = 0 then ((wide_signed.f k bt174.1 bt174.2.1 bt174.2.2).bind fun t177 => (some t177)) else ((wide_shift.f bt174.1 bt174.2.1 (mx 0 a2)).bind fun bt178 => ((wide_shift.f bt174.1 bt174.2.1 (wrap64 ((mx 0 a2) - 1))).bind fun bt180 => (if (Go.bits .and .u64 bt180.2 1) = 0 then (wide_MulShift.j0 k bt174.2.2 bt178.1 bt178.2 true) else (if bt174.2.2 = true then ((wide_exact.f bt174.1 bt174.2.1 (wrap64 ((mx 0 a2) - 1))).bind fun t182 => (wide_MulShift.j0 k bt174.2.2 bt178.1 bt178.2 t182)) else (wide_MulShift.j0 k bt174.2.2 bt178.1 bt178.2 false)))))))
theorem wide_MulShift.mono_l : ∀ k, (∀ y0 y1 y2 y3, LeO (wide_MulShift.j0 k y0 y1 y2 y3) (wide_MulShift.j0 (k + 1) y0 y1 y2 y3))
 | 0 => fun _ _ _ _ r h => by simp [wide_MulShift.j0] at h
 | k + 1 => by
  have ih0 := wide_MulShift.mono_l k
  ·intro y0 y1 y2 y3
   unfold wide_MulShift.j0
   repeat' first
   | (with_reducible exact ih0 _ _ _ _)
   | (with_reducible exact wide_signed.mono _ _ _ _)
   | (with_reducible exact LeO.refl _)
   | (with_reducible exact LeO.none _)
   | (with_reducible refine LeO.ite ?_ ?_)
   | (with_reducible refine LeO.bind ?_ (fun _ => ?_))
   | exact ih0 _ _ _ _
   | exact wide_signed.mono _ _ _ _
   | exact LeO.none _
   | refine LeO.ite ?_ ?_
   | refine LeO.bind ?_ (fun _ => ?_)
theorem wide_MulShift.mono : ∀ a0 a1 a2 k, LeO (wide_MulShift.f k a0 a1 a2) (wide_MulShift.f (k + 1) a0 a1 a2) := by
 intro a0 a1 a2 k
 have ih0 := wide_MulShift.mono_l k
 unfold wide_MulShift.f
 repeat' first
   | (with_reducible exact ih0 _ _ _ _)
   | (with_reducible exact wide_signed.mono _ _ _ _)
   | (with_reducible exact LeO.refl _)
   | (with_reducible exact LeO.none _)
   | (with_reducible refine LeO.ite ?_ ?_)
   | (with_reducible refine LeO.bind ?_ (fun _ => ?_))
   | exact ih0 _ _ _ _
   | exact wide_signed.mono _ _ _ _
   | exact LeO.none _
   | refine LeO.ite ?_ ?_
   | refine LeO.bind ?_ (fun _ => ?_)
set_option maxHeartbeats 8000000 in
set_option maxRecDepth 100000 in
theorem wide_MulShift.calls (k : Nat) (a0 : Int) (a1 : Int) (a2 : Int) (r : Int) (w : World) (h : wide_MulShift.f k a0 a1 a2 = some r) :
  Calls Tryz.prog 101 #[.int .i64 a0, .int .i64 a1, .int .i64 a2] w fun e w' => e = .returned (.int .i64 r) ∧ Below w.heap.size w w' := by
 have HB := Aside0.mk (Below.refl w.heap.size w)
 have H : (if (mx 0 a2) ≥ 128 then (some 0) else ((wide_product.f a0 a1).bind fun bt174 => (if (mx 0 a2) = 0 then ((wide_signed.f k bt174.1 bt174.2.1 bt174.2.2).bind fun t177 => (some t177)) else ((wide_shift.f bt174.1 bt174.2.1 (mx 0 a2)).bind fun bt178 => ((wide_shift.f bt174.1 bt174.2.1 (wrap64 ((mx 0 a2) - 1))).bind fun bt180 => (if (Go.bits .and .u64 bt180.2 1) = 0 then (wide_MulShift.j0 k bt174.2.2 bt178.1 bt178.2 true) else (if bt174.2.2 = true then ((wide_exact.f bt174.1 bt174.2.1 (wrap64 ((mx 0 a2) - 1))).bind fun t182 => (wide_MulShift.j0 k bt174.2.2 bt178.1 bt178.2 t182)) else (wide_MulShift.j0 k bt174.2.2 bt178.1 bt178.2 false)))))))) = some r := h
 clear h
 obtain ⟨ji4, hji4⟩ : ∃ j_ : Int, (mx 0 a2) = j_ := ⟨_, rfl⟩
 replace H : (if (ji4) ≥ 128 then (some 0) else ((wide_product.f a0 a1).bind fun bt174 => (if (ji4) = 0 then ((wide_signed.f k bt174.1 bt174.2.1 bt174.2.2).bind fun t177 => (some t177)) else ((wide_shift.f bt174.1 bt174.2.1 (ji4)).bind fun bt178 => ((wide_shift.f bt174.1 bt174.2.1 (wrap64 ((ji4) - 1))).bind fun bt180 => (if (Go.bits .and .u64 bt180.2 1) = 0 then (wide_MulShift.j0 k bt174.2.2 bt178.1 bt178.2 true) else (if bt174.2.2 = true then ((wide_exact.f bt174.1 bt174.2.1 (wrap64 ((ji4) - 1))).bind fun t182 => (wide_MulShift.j0 k bt174.2.2 bt178.1 bt178.2 t182)) else (wide_MulShift.j0 k bt174.2.2 bt178.1 bt178.2 false)))))))) = some r := by first | (rw [hji4] at H; exact H) | (simp only [hji4] at H ⊢; exact H)
 (try (have hji4l : 0 ≤ ji4 := by (rw [← hji4]; unfold mx; (repeat' split) <;> omega)))
 (try (have hji4m : 0 ≤ ji4 := by omega))
 have hji4_ : (if 0 < a2 then a2 else 0) = ji4 := hji4
 by_cases c5 : (ji4) ≥ 128
 ·rw [if_pos c5] at H
  have c5b0 : decide (128 ≤ (ji4)) = true := decide_eq_true c5
  clear c5
  obtain rfl := Option.some.inj H
  go_enter Tryz.func101, Tryz.ntmps101
  go_wp2
  go_ret
  exact ⟨by first | rfl | (simp [errW_none, errW_some] <;> rfl) | (simp only [← hji4]; first | rfl | (simp [errW_none, errW_some] <;> rfl)) | (simp [*, errW_none, errW_some] <;> rfl), by repeat (first | (with_reducible first | exact HB.out | apply below_alloc | apply pw_below_drewN | apply below_drew1) | exact HB.out)⟩
 ·rw [if_neg c5] at H
  have c5b0 : decide (128 ≤ (ji4)) = false := decide_eq_false c5
  clear c5
  replace H := Option.bind_eq_some_iff.mp H
  obtain ⟨⟨t174, t175, t176⟩, A60, H⟩ := H
  replace H : (if (ji4) = 0 then ((wide_signed.f k t174 t175 t176).bind fun t177 => (some t177)) else ((wide_shift.f t174 t175 (ji4)).bind fun bt178 => ((wide_shift.f t174 t175 (wrap64 ((ji4) - 1))).bind fun bt180 => (if (Go.bits .and .u64 bt180.2 1) = 0 then (wide_MulShift.j0 k t176 bt178.1 bt178.2 true) else (if t176 = true then ((wide_exact.f t174 t175 (wrap64 ((ji4) - 1))).bind fun t182 => (wide_MulShift.j0 k t176 bt178.1 bt178.2 t182)) else (wide_MulShift.j0 k t176 bt178.1 bt178.2 false)))))) = some r := H
  have A6 := Aside0.mk A60
  clear A60
  by_cases c7 : (ji4) = 0
  ·rw [if_pos c7] at H
   have c7b0 : ((ji4) == 0) = true := beq_iff_eq.mpr c7
   have c7b1 : ((ji4) != 0) = false := bne_eq_false_iff_eq.mpr c7
   clear c7
   replace H := Option.bind_eq_some_iff.mp H
   obtain ⟨t177, A80, H⟩ := H
   replace H : (some t177) = some r := H
   have A8 := Aside0.mk A80
   clear A80
   obtain rfl := Option.some.inj H
   go_enter Tryz.func101, Tryz.ntmps101
   go_wp2_with (first | ((with_reducible refine gate_callee (f := 92) rfl ?_); refine goesL_ (some 22) rfl rfl Tryz.func92 (by kernel_rfl) rfl #[.int .i64 a0, .int .i64 a1] rfl (by (try simp only [List.map_toArray, List.map_cons, List.map_nil]); first | done | rfl | (simp only [List.length_drop, List.length_take]; rfl)) ?_; (with_reducible refine (wide_product.calls a0 a1 t174 t175 t176 _ A6.out).mono ?_); rintro e w' ⟨rfl, ⟨nd, rfl⟩⟩; refine ⟨_, rfl, ?_⟩) | ((with_reducible refine gate_callee (f := 94) rfl ?_); refine goesL_ (some 31) rfl rfl Tryz.func94 (by kernel_rfl) rfl #[.int .u64 t174, .int .u64 t175, .bool t176] rfl (by (try simp only [List.map_toArray, List.map_cons, List.map_nil]); first | done | rfl | (simp only [List.length_drop, List.length_take]; rfl)) ?_; (with_reducible refine (wide_signed.calls k t174 t175 t176 t177 _ A8.out).mono ?_); rintro e w' ⟨rfl, ⟨nd, rfl⟩⟩; refine ⟨_, rfl, ?_⟩))
   go_ret
   exact ⟨by first | rfl | (simp [errW_none, errW_some] <;> rfl) | (simp only [← hji4]; first | rfl | (simp [errW_none, errW_some] <;> rfl)) | (simp [*, errW_none, errW_some] <;> rfl), by repeat (first | (with_reducible first | exact HB.out | apply below_alloc | apply pw_below_drewN | apply below_drew1) | exact HB.out)⟩
  ·rw [if_neg c7] at H
   have c7b0 : ((ji4) == 0) = false := beq_eq_false_iff_ne.mpr c7
   have c7b1 : ((ji4) != 0) = true := bne_iff_ne.mpr c7
   replace H := Option.bind_eq_some_iff.mp H
   obtain ⟨⟨t178, t179⟩, A90, H⟩ := H
   replace H : ((wide_shift.f t174 t175 (wrap64 ((ji4) - 1))).bind fun bt180 => (if (Go.bits .and .u64 bt180.2 1) = 0 then (wide_MulShift.j0 k t176 t178 t179 true) else (if t176 = true then ((wide_exact.f t174 t175 (wrap64 ((ji4) - 1))).bind fun t182 => (wide_MulShift.j0 k t176 t178 t179 t182)) else (wide_MulShift.j0 k t176 t178 t179 false)))) = some r := H
   have A9 := Aside0.mk A90
   clear A90
   replace H := Option.bind_eq_some_iff.mp H
   obtain ⟨⟨t180, t181⟩, A100, H⟩ := H
   replace H : (if (Go.bits .and .u64 t181 1) = 0 then (wide_MulShift.j0 k t176 t178 t179 true) else (if t176 = true then ((wide_exact.f t174 t175 (wrap64 ((ji4) - 1))).bind fun t182 => (wide_MulShift.j0 k t176 t178 t179 t182)) else (wide_MulShift.j0 k t176 t178 t179 false))) = some r := H
   have A10 := Aside0.mk A100
   clear A100
   have HC11 := Aside0.mk H
   clear H
   go_enter Tryz.func101, Tryz.ntmps101
   go_upto_region 9 with (first | ((with_reducible refine gate_callee (f := 92) rfl ?_); refine goesL_ (some 22) rfl rfl Tryz.func92 (by kernel_rfl) rfl #[.int .i64 a0, .int .i64 a1] rfl (by (try simp only [List.map_toArray, List.map_cons, List.map_nil]); first | done | rfl | (simp only [List.length_drop, List.length_take]; rfl)) ?_; (with_reducible refine (wide_product.calls a0 a1 t174 t175 t176 _ A6.out).mono ?_); rintro e w' ⟨rfl, ⟨nd, rfl⟩⟩; refine ⟨_, rfl, ?_⟩) | ((with_reducible refine gate_callee (f := 106) rfl ?_); refine goesL_ (some 36) rfl rfl Tryz.func106 (by kernel_rfl) rfl #[.int .u64 t174, .int .u64 t175, .int .i64 ji4] rfl (by (try simp only [List.map_toArray, List.map_cons, List.map_nil]); first | done | (simp only [hji4]; rfl) | (simp only [Int.tdiv_eq_ediv_of_nonneg hji4l]; rfl) | rfl | (simp only [List.length_drop, List.length_take]; rfl)) ?_; (with_reducible refine (wide_shift.calls t174 t175 ji4 t178 t179 _ A9.out).mono ?_); rintro e w' ⟨rfl, ⟨nd, rfl⟩⟩; refine ⟨_, rfl, ?_⟩) | ((with_reducible refine gate_callee (f := 106) rfl ?_); refine goesL_ (some 44) rfl rfl Tryz.func106 (by kernel_rfl) rfl #[.int .u64 t174, .int .u64 t175, .int .i64 (wrap64 ((ji4) - 1))] rfl (by (try simp only [List.map_toArray, List.map_cons, List.map_nil]); first | done | (simp only [hji4]; rfl) | (simp only [Int.tdiv_eq_ediv_of_nonneg hji4l]; rfl) | rfl | (simp only [List.length_drop, List.length_take]; rfl)) ?_; (with_reducible refine (wide_shift.calls t174 t175 (wrap64 ((ji4) - 1)) t180 t181 _ A10.out).mono ?_); rintro e w' ⟨rfl, ⟨nd, rfl⟩⟩; refine ⟨_, rfl, ?_⟩))
   (try simp only [Act.put, List.setIfInBounds_toArray, List.set_cons_zero, List.set_cons_succ])
   go_cut [59] (fun v59 wc => ∃ (kq : Nat) (x59_10 : Bool), v59 = .bool x59_10 ∧ Aside0 (wide_MulShift.j0 kq t176 t178 t179 x59_10 = some r) ∧ Aside0 (kq ≤ k) ∧ Aside0 (Below w.heap.size w wc))
   case first =>
    have H := HC11.out
    clear HC11
    by_cases c12 : (Go.bits .and .u64 t181 1) = 0
    ·rw [if_pos c12] at H
     have c12b0 : ((Go.bits .and .u64 t181 1) == 0) = true := beq_iff_eq.mpr c12
     have c12b1 : ((Go.bits .and .u64 t181 1) != 0) = false := bne_eq_false_iff_eq.mpr c12
     clear c12
     (first | rw [c12b0] | (simp only [i64_w, i32_w]; rw [c12b0]) | skip)
     have H' := Aside0.mk H
     clear H
     go_wp2
     go_meet
     case rel => exact ⟨_, (true), (by first | rfl | (simp; done) | (simp [*]; done)), H', ⟨by first | omega | exact Nat.le_refl _⟩, ⟨by repeat (first | (with_reducible first | exact HB.out | apply below_alloc | apply pw_below_drewN | apply below_drew1) | exact HB.out)⟩⟩
    ·rw [if_neg c12] at H
     have c12b0 : ((Go.bits .and .u64 t181 1) == 0) = false := beq_eq_false_iff_ne.mpr c12
     have c12b1 : ((Go.bits .and .u64 t181 1) != 0) = true := bne_iff_ne.mpr c12
     (first | rw [c12b0] | (simp only [i64_w, i32_w]; rw [c12b0]) | skip)
     by_cases c13 : t176 = true
     ·subst c13
      have H1 : ((wide_exact.f t174 t175 (wrap64 ((ji4) - 1))).bind fun t182 => (wide_MulShift.j0 k true t178 t179 t182)) = some r := by rw [if_pos rfl] at H; exact H
      clear H
      have H := H1
      clear H1
      replace H := Option.bind_eq_some_iff.mp H
      obtain ⟨t182, A140, H⟩ := H
      replace H : (wide_MulShift.j0 k true t178 t179 t182) = some r := H
      have A14 := Aside0.mk A140
      clear A140
      have H' := Aside0.mk H
      clear H
      go_wp2_with (first | (go_at_call 107; (with_reducible refine (wide_exact.calls t174 t175 (wrap64 ((ji4) - 1)) t182 _ A14.out).mono ?_); rintro e w' ⟨rfl, ⟨nd, rfl⟩⟩))
      go_meet
      case rel => exact ⟨_, (t182), (by first | rfl | (simp; done) | (simp [*]; done)), H', ⟨by first | omega | exact Nat.le_refl _⟩, ⟨by repeat (first | (with_reducible first | exact HB.out | apply below_alloc | apply pw_below_drewN | apply below_drew1) | exact HB.out)⟩⟩
     ·replace c13 := Bool.eq_false_iff.mpr c13
      subst c13
      have H1 : (wide_MulShift.j0 k false t178 t179 false) = some r := by rw [if_neg (show ¬ (false = true) by decide)] at H; exact H
      clear H
      have H := H1
      clear H1
      have H' := Aside0.mk H
      clear H
      go_wp2
      go_meet
      case rel => exact ⟨_, (false), (by first | rfl | (simp; done) | (simp [*]; done)), H', ⟨by first | omega | exact Nat.le_refl _⟩, ⟨by repeat (first | (with_reducible first | exact HB.out | apply below_alloc | apply pw_below_drewN | apply below_drew1) | exact HB.out)⟩⟩
   case rest =>
    clear HC11
    try clear c1
    try clear p2
    try clear c5
    try clear c5b0
    try clear p6
    try clear c7
    try clear c7b0
    try clear c7b1
    try clear c9
    try clear c10
    try clear c12
    try clear c12b0
    try clear c12b1
    try clear c13
    obtain ⟨kq, x59_10, rfl, HA, HJ10, HB⟩ := hcut
    cases kq with
    | zero => exact absurd HA.out (by simp [wide_MulShift.j0])
    | succ kj10 =>
     have H := HA.out
     clear HA
     simp only [wide_MulShift.j0] at H
     by_cases c15 : x59_10 = true
     ·subst c15
      have H1 : ((wide_signed.f kj10 t178 t179 t176).bind fun t183 => (some t183)) = some r := by rw [if_pos rfl] at H; exact H
      clear H
      have H := H1
      clear H1
      replace H := Option.bind_eq_some_iff.mp H
      obtain ⟨t183, A160, H⟩ := H
      replace H : (some t183) = some r := H
      have A16 := Aside0.mk A160
      clear A160
      obtain rfl := Option.some.inj H
      go_wp2_with (first | ((with_reducible refine gate_callee (f := 94) rfl ?_); refine goesL_ (some 63) rfl rfl Tryz.func94 (by kernel_rfl) rfl #[.int .u64 t178, .int .u64 t179, .bool t176] rfl (by (try simp only [List.map_toArray, List.map_cons, List.map_nil]); first | done | rfl | (simp only [List.length_drop, List.length_take]; rfl)) ?_; (with_reducible refine (wide_signed.calls kj10 t178 t179 t176 t183 _ A16.out).mono ?_); rintro e w' ⟨rfl, ⟨nd, rfl⟩⟩; refine ⟨_, rfl, ?_⟩))
      go_ret
      exact ⟨by first | rfl | (simp [errW_none, errW_some] <;> rfl) | (simp only [← hji4]; first | rfl | (simp [errW_none, errW_some] <;> rfl)) | (simp [*, errW_none, errW_some] <;> rfl), by repeat (first | (with_reducible first | exact HB.out | apply below_alloc | apply pw_below_drewN | apply below_drew1) | exact HB.out)⟩
     ·replace c15 := Bool.eq_false_iff.mpr c15
      subst c15
      have H1 : ((wide_signed.f kj10 (IntKind.u64.wrap (t178 + (add64c t179 1 0))) (add64s t179 1 0) t176).bind fun t184 => (some t184)) = some r := by rw [if_neg (show ¬ (false = true) by decide)] at H; exact H
      clear H
      have H := H1
      clear H1
      replace H := Option.bind_eq_some_iff.mp H
      obtain ⟨t184, A170, H⟩ := H
      replace H : (some t184) = some r := H
      have A17 := Aside0.mk A170
      clear A170
      obtain rfl := Option.some.inj H
      go_wp2_with (first | ((with_reducible refine gate_callee (f := 94) rfl ?_); refine goesL_ (some 74) rfl rfl Tryz.func94 (by kernel_rfl) rfl #[.int .u64 (IntKind.u64.wrap (t178 + (add64c t179 1 0))), .int .u64 (add64s t179 1 0), .bool t176] rfl (by (try simp only [List.map_toArray, List.map_cons, List.map_nil]); first | done | rfl | (simp only [List.length_drop, List.length_take]; rfl)) ?_; (with_reducible refine (wide_signed.calls kj10 (IntKind.u64.wrap (t178 + (add64c t179 1 0))) (add64s t179 1 0) t176 t184 _ A17.out).mono ?_); rintro e w' ⟨rfl, ⟨nd, rfl⟩⟩; refine ⟨_, rfl, ?_⟩))
      go_ret
      exact ⟨by first | rfl | (simp [errW_none, errW_some] <;> rfl) | (simp only [← hji4]; first | rfl | (simp [errW_none, errW_some] <;> rfl)) | (simp [*, errW_none, errW_some] <;> rfl), by repeat (first | (with_reducible first | exact HB.out | apply below_alloc | apply pw_below_drewN | apply below_drew1) | exact HB.out)⟩
def sinc_series.l0 : Nat → Int → Int → Int → Int → Int → Option (Int)
 | 0, _, _, _, _, _ => none
 | k + 1, x5, x6, x7, x8, x9 => if x9 ≤ 30 then ((wide_MulDiv.f k x7 x5 (wrap64 ((wrap64 ((wrap64 (2 * x9)) * (wrap64 ((wrap64 (2 * x9)) + 1)))) * 1099511627776))).bind fun t188 => (sinc_series.l0 k x5 (wrap64 (x6 + (wrap64 ((wrap64 (-x8)) * t188)))) t188 (wrap64 (-x8)) (wrap64 (x9 + 1)))) else (some x6)
def sinc_series.f (k : Nat) (a0 : Int) (a1 : Int) : Option (Int) := (sinc_size.f a0).bind fun t185 => ((wide_MulDiv.f k 10851744800547 t185 a1).bind fun t186 => ((wide_MulDiv.f k t186 t185 a1).bind fun t187 => (sinc_series.l0 k t187 1099511627776 1099511627776 1 1)))
theorem sinc_series.mono_l : ∀ k, (∀ y0 y1 y2 y3 y4, LeO (sinc_series.l0 k y0 y1 y2 y3 y4) (sinc_series.l0 (k + 1) y0 y1 y2 y3 y4))
 | 0 => fun _ _ _ _ _ r h => by simp [sinc_series.l0] at h
 | k + 1 => by
  have ih0 := sinc_series.mono_l k
  ·intro y0 y1 y2 y3 y4
   unfold sinc_series.l0
   repeat' first
   | (with_reducible exact ih0 _ _ _ _ _)
   | (with_reducible exact wide_MulDiv.mono _ _ _ _)
   | (with_reducible exact LeO.refl _)
   | (with_reducible exact LeO.none _)
   | (with_reducible refine LeO.ite ?_ ?_)
   | (with_reducible refine LeO.bind ?_ (fun _ => ?_))
   | exact ih0 _ _ _ _ _
   | exact wide_MulDiv.mono _ _ _ _
   | exact LeO.none _
   | refine LeO.ite ?_ ?_
   | refine LeO.bind ?_ (fun _ => ?_)
theorem sinc_series.mono : ∀ a0 a1 k, LeO (sinc_series.f k a0 a1) (sinc_series.f (k + 1) a0 a1) := by
 intro a0 a1 k
 have ih0 := sinc_series.mono_l k
 unfold sinc_series.f
 repeat' first
   | (with_reducible exact ih0 _ _ _ _ _)
   | (with_reducible exact wide_MulDiv.mono _ _ _ _)
   | (with_reducible exact LeO.refl _)
   | (with_reducible exact LeO.none _)
   | (with_reducible refine LeO.ite ?_ ?_)
   | (with_reducible refine LeO.bind ?_ (fun _ => ?_))
   | exact ih0 _ _ _ _ _
   | exact wide_MulDiv.mono _ _ _ _
   | exact LeO.none _
   | refine LeO.ite ?_ ?_
   | refine LeO.bind ?_ (fun _ => ?_)
set_option maxHeartbeats 8000000 in
set_option maxRecDepth 100000 in
theorem sinc_series.calls (k : Nat) (a0 : Int) (a1 : Int) (r : Int) (w : World) (h : sinc_series.f k a0 a1 = some r) :
  Calls Tryz.prog 102 #[.int .i64 a0, .int .i64 a1] w fun e w' => e = .returned (.int .i64 r) ∧ Below w.heap.size w w' := by
 have HB := Aside0.mk (Below.refl w.heap.size w)
 have H : ((sinc_size.f a0).bind fun t185 => ((wide_MulDiv.f k 10851744800547 t185 a1).bind fun t186 => ((wide_MulDiv.f k t186 t185 a1).bind fun t187 => (sinc_series.l0 k t187 1099511627776 1099511627776 1 1)))) = some r := h
 clear h
 replace H := Option.bind_eq_some_iff.mp H
 obtain ⟨t185, A30, H⟩ := H
 replace H : ((wide_MulDiv.f k 10851744800547 t185 a1).bind fun t186 => ((wide_MulDiv.f k t186 t185 a1).bind fun t187 => (sinc_series.l0 k t187 1099511627776 1099511627776 1 1))) = some r := H
 have A3 := Aside0.mk A30
 clear A30
 replace H := Option.bind_eq_some_iff.mp H
 obtain ⟨t186, A40, H⟩ := H
 replace H : ((wide_MulDiv.f k t186 t185 a1).bind fun t187 => (sinc_series.l0 k t187 1099511627776 1099511627776 1 1)) = some r := H
 have A4 := Aside0.mk A40
 clear A40
 replace H := Option.bind_eq_some_iff.mp H
 obtain ⟨t187, A50, H⟩ := H
 replace H : (sinc_series.l0 k t187 1099511627776 1099511627776 1 1) = some r := H
 have A5 := Aside0.mk A50
 clear A50
 have H' := Aside0.mk H
 clear H
 go_enter Tryz.func102, Tryz.ntmps102
 go_wp2_with (first | ((with_reducible refine gate_callee (f := 100) rfl ?_); refine goesL_ (some 11) rfl rfl Tryz.func100 (by kernel_rfl) rfl #[.int .i64 a0] rfl (by (try simp only [List.map_toArray, List.map_cons, List.map_nil]); first | done | rfl | (simp only [List.length_drop, List.length_take]; rfl)) ?_; (with_reducible refine (sinc_size.calls a0 t185 _ A3.out).mono ?_); rintro e w6 ⟨rfl, hb⟩; refine ⟨_, rfl, ?_⟩; have n0_ := Aside0.mk (below_step (by repeat (first | (with_reducible first | exact HB.out | apply below_alloc | apply pw_below_drewN | apply below_drew1) | exact HB.out)) hb); clear HB; have HB := n0_; clear n0_; (try clear hb); (try clear hb2); (try clear hk); (try clear hi)) | ((with_reducible refine gate_callee (f := 81) rfl ?_); refine goesL_ (some 14) rfl rfl Tryz.func81 (by kernel_rfl) rfl #[.int .i64 10851744800547, .int .i64 t185, .int .i64 a1] rfl (by (try simp only [List.map_toArray, List.map_cons, List.map_nil]); first | done | rfl | (simp only [List.length_drop, List.length_take]; rfl)) ?_; (with_reducible refine (wide_MulDiv.calls k 10851744800547 t185 a1 t186 _ A4.out).mono ?_); rintro e w' ⟨rfl, ⟨nd, rfl⟩⟩; refine ⟨_, rfl, ?_⟩) | ((with_reducible refine gate_callee (f := 81) rfl ?_); refine goesL_ (some 17) rfl rfl Tryz.func81 (by kernel_rfl) rfl #[.int .i64 t186, .int .i64 t185, .int .i64 a1] rfl (by (try simp only [List.map_toArray, List.map_cons, List.map_nil]); first | done | rfl | (simp only [List.length_drop, List.length_take]; rfl)) ?_; (with_reducible refine (wide_MulDiv.calls k t186 t185 a1 t187 _ A5.out).mono ?_); rintro e w' ⟨rfl, ⟨nd, rfl⟩⟩; refine ⟨_, rfl, ?_⟩))
 go_loopg [6, 7, 8, 9] k (fun kq v6 v7 v8 v9 w' => ∃ (x6_1 : Int) (x7_1 : Int) (x8_1 : Int) (x9_1 : Int), v6 = .int .i64 x6_1 ∧ v7 = .int .i64 x7_1 ∧ v8 = .int .i64 x8_1 ∧ v9 = .int .i64 x9_1 ∧ Aside0 (sinc_series.l0 kq t187 x6_1 x7_1 x8_1 x9_1 = some r) ∧ Aside0 (kq ≤ k) ∧ Aside0 (Below w.heap.size w w'))
 case atStart => exact ⟨(1099511627776), (1099511627776), (1), (1), (by first | rfl | (simp; done) | (simp [*]; done)), (by first | rfl | (simp; done) | (simp [*]; done)), (by first | rfl | (simp; done) | (simp [*]; done)), (by first | rfl | (simp; done) | (simp [*]; done)), H', ⟨Nat.le_refl _⟩, ⟨by repeat (first | (with_reducible first | exact HB.out | apply below_alloc | apply pw_below_drewN | apply below_drew1) | exact HB.out)⟩⟩
 case round =>
  clear H'
  try clear c1
  try clear p2
  obtain ⟨x6_1, x7_1, x8_1, x9_1, rfl, rfl, rfl, rfl, HA, HK1, HB⟩ := hrel
  cases gk with
  | zero => exact absurd HA.out (by simp [sinc_series.l0])
  | succ k1 =>
   have H := HA.out
   clear HA
   simp only [sinc_series.l0] at H
   by_cases c7 : x9_1 ≤ 30
   ·rw [if_pos c7] at H
    have c7b0 : decide (x9_1 ≤ 30) = true := decide_eq_true c7
    clear c7
    replace H := Option.bind_eq_some_iff.mp H
    obtain ⟨t188, A80, H⟩ := H
    replace H : (sinc_series.l0 k1 t187 (wrap64 (x6_1 + (wrap64 ((wrap64 (-x8_1)) * t188)))) t188 (wrap64 (-x8_1)) (wrap64 (x9_1 + 1))) = some r := H
    have A8 := Aside0.mk A80
    clear A80
    have H' := Aside0.mk H
    clear H
    go_wp2_with (first | ((with_reducible refine gate_callee (f := 81) rfl ?_); refine goesL_ (some 33) rfl rfl Tryz.func81 (by kernel_rfl) rfl #[.int .i64 x7_1, .int .i64 t187, .int .i64 (wrap64 ((wrap64 ((wrap64 (2 * x9_1)) * (wrap64 ((wrap64 (2 * x9_1)) + 1)))) * 1099511627776))] rfl (by (try simp only [List.map_toArray, List.map_cons, List.map_nil]); first | done | rfl | (simp only [List.length_drop, List.length_take]; rfl)) ?_; (with_reducible refine (wide_MulDiv.calls k1 x7_1 t187 (wrap64 ((wrap64 ((wrap64 (2 * x9_1)) * (wrap64 ((wrap64 (2 * x9_1)) + 1)))) * 1099511627776)) t188 _ A8.out).mono ?_); rintro e w' ⟨rfl, ⟨nd, rfl⟩⟩; refine ⟨_, rfl, ?_⟩))
    go_roundg k1
    case measure => have := HK1.out; omega
    case rel => exact ⟨(wrap64 (x6_1 + (wrap64 ((wrap64 (-x8_1)) * t188)))), (t188), (wrap64 (-x8_1)), (wrap64 (x9_1 + 1)), (by first | rfl | (simp; done) | (simp [*]; done)), (by first | rfl | (simp; done) | (simp [*]; done)), (by first | rfl | (simp; done) | (simp [*]; done)), (by first | rfl | (simp; done) | (simp [*]; done)), H', ⟨by have := HK1.out; omega⟩, ⟨by repeat (first | (with_reducible first | exact HB.out | apply below_alloc | apply pw_below_drewN | apply below_drew1) | exact HB.out)⟩⟩
   ·rw [if_neg c7] at H
    have c7b0 : decide (x9_1 ≤ 30) = false := decide_eq_false c7
    clear c7
    obtain rfl := Option.some.inj H
    go_wp2
    go_ret
    exact ⟨by first | rfl | (simp [errW_none, errW_some] <;> rfl) | (simp [*, errW_none, errW_some] <;> rfl), by repeat (first | (with_reducible first | exact HB.out | apply below_alloc | apply pw_below_drewN | apply below_drew1) | exact HB.out)⟩
end Go.Proofs.YtbcoieboldgdaaaGreatDoor.QA

namespace Go.Proofs.YtbcoieboldgdaaaGreatDoor.QA
open Go.Proofs.YtbcoieboldgdaaaGreatDoor.T
open Go.RowKit Go.Proofs.YtbcoieboldgdaaaGreatDoorW.PrintWords Go.Proofs.YtbcoieboldgdaaaGreatDoorW.PrintLast Go.Proofs.YtbcoieboldgdaaaGreatDoorW.PrintMore
attribute [local go_sem] ext_call max2_int min2_int max_two min_two max_three min_three max_four min_four   -- for this text's walks alone
set_option linter.unusedVariables false
set_option linter.unusedSimpArgs false
def sinc_Lanczos.j0 : Nat → Int → Int → Bool → Option (Int)
 | 0, _, _, _ => none
 | k + 1, x0, x1, x15 => if x15 = true then (some 0) else ((sinc_series.f k x0 x1).bind fun t191 => ((sinc_series.f k x0 (wrap64 (3 * x1))).bind fun t192 => ((wide_MulShift.f k t191 t192 40).bind fun t193 => ((fixed_Shift.f t193 10).bind fun t194 => (some t194)))))
def sinc_Lanczos.f (k : Nat) (a0 : Int) (a1 : Int) : Option (Int) := (sinc_May.f a0 a1).bind fun t189 => (if t189 = true then ((sinc_size.f a0).bind fun t190 => (sinc_Lanczos.j0 k a0 a1 (decide (t190 ≥ (wrap64 (3 * a1)))))) else (sinc_Lanczos.j0 k a0 a1 true))
theorem sinc_Lanczos.mono_l : ∀ k, (∀ y0 y1 y2, LeO (sinc_Lanczos.j0 k y0 y1 y2) (sinc_Lanczos.j0 (k + 1) y0 y1 y2))
 | 0 => fun _ _ _ r h => by simp [sinc_Lanczos.j0] at h
 | k + 1 => by
  have ih0 := sinc_Lanczos.mono_l k
  ·intro y0 y1 y2
   unfold sinc_Lanczos.j0
   repeat' first
   | (with_reducible exact ih0 _ _ _)
   | (with_reducible exact sinc_series.mono _ _ _)
   | (with_reducible exact wide_MulShift.mono _ _ _ _)
   | (with_reducible exact LeO.refl _)
   | (with_reducible exact LeO.none _)
   | (with_reducible refine LeO.ite ?_ ?_)
   | (with_reducible refine LeO.bind ?_ (fun _ => ?_))
   | exact ih0 _ _ _
   | exact sinc_series.mono _ _ _
   | exact wide_MulShift.mono _ _ _ _
   | exact LeO.none _
   | refine LeO.ite ?_ ?_
   | refine LeO.bind ?_ (fun _ => ?_)
theorem sinc_Lanczos.mono : ∀ a0 a1 k, LeO (sinc_Lanczos.f k a0 a1) (sinc_Lanczos.f (k + 1) a0 a1) := by
 intro a0 a1 k
 have ih0 := sinc_Lanczos.mono_l k
 unfold sinc_Lanczos.f
 repeat' first
   | (with_reducible exact ih0 _ _ _)
   | (with_reducible exact sinc_series.mono _ _ _)
   | (with_reducible exact wide_MulShift.mono _ _ _ _)
   | (with_reducible exact LeO.refl _)
   | (with_reducible exact LeO.none _)
   | (with_reducible refine LeO.ite ?_ ?_)
   | (with_reducible refine LeO.bind ?_ (fun _ => ?_))
   | exact ih0 _ _ _
   | exact sinc_series.mono _ _ _
   | exact wide_MulShift.mono _ _ _ _
   | exact LeO.none _
   | refine LeO.ite ?_ ?_
   | refine LeO.bind ?_ (fun _ => ?_)
set_option maxHeartbeats 8000000 in
set_option maxRecDepth 100000 in
theorem sinc_Lanczos.calls (k : Nat) (a0 : Int) (a1 : Int) (r : Int) (w : World) (h : sinc_Lanczos.f k a0 a1 = some r) :
  Calls Tryz.prog 88 #[.int .i64 a0, .int .i64 a1] w fun e w' => e = .returned (.int .i64 r) ∧ Below w.heap.size w w' := by
 have HB := Aside0.mk (Below.refl w.heap.size w)
 have H : ((sinc_May.f a0 a1).bind fun t189 => (if t189 = true then ((sinc_size.f a0).bind fun t190 => (sinc_Lanczos.j0 k a0 a1 (decide (t190 ≥ (wrap64 (3 * a1)))))) else (sinc_Lanczos.j0 k a0 a1 true))) = some r := h
 clear h
 have HC3 := Aside0.mk H
 clear H
 go_enter Tryz.func88, Tryz.ntmps88
 go_upto_region 1 with (fail)
 go_cut [15] (fun v15 wc => ∃ (kq : Nat) (x15_2 : Bool), v15 = .bool x15_2 ∧ Aside0 (sinc_Lanczos.j0 kq a0 a1 x15_2 = some r) ∧ Aside0 (kq ≤ k) ∧ Aside0 (Below w.heap.size w wc))
 case first =>
  have H := HC3.out
  clear HC3
  replace H := Option.bind_eq_some_iff.mp H
  obtain ⟨t189, A40, H⟩ := H
  replace H : (if t189 = true then ((sinc_size.f a0).bind fun t190 => (sinc_Lanczos.j0 k a0 a1 (decide (t190 ≥ (wrap64 (3 * a1)))))) else (sinc_Lanczos.j0 k a0 a1 true)) = some r := H
  have A4 := Aside0.mk A40
  clear A40
  by_cases c5 : t189 = true
  ·subst c5
   have H1 : ((sinc_size.f a0).bind fun t190 => (sinc_Lanczos.j0 k a0 a1 (decide (t190 ≥ (wrap64 (3 * a1)))))) = some r := by rw [if_pos rfl] at H; exact H
   clear H
   have H := H1
   clear H1
   replace H := Option.bind_eq_some_iff.mp H
   obtain ⟨t190, A60, H⟩ := H
   replace H : (sinc_Lanczos.j0 k a0 a1 (decide (t190 ≥ (wrap64 (3 * a1))))) = some r := H
   have A6 := Aside0.mk A60
   clear A60
   have H' := Aside0.mk H
   clear H
   go_wp2_with (first | ((with_reducible refine gate_callee (f := 99) rfl ?_); refine goesL_ (some 7) rfl rfl Tryz.func99 (by kernel_rfl) rfl #[.int .i64 a0, .int .i64 a1] rfl (by (try simp only [List.map_toArray, List.map_cons, List.map_nil]); first | done | rfl | (simp only [List.length_drop, List.length_take]; rfl)) ?_; (with_reducible refine (sinc_May.calls a0 a1 true _ A4.out).mono ?_); rintro e w' ⟨rfl, ⟨nd, rfl⟩⟩; refine ⟨_, rfl, ?_⟩) | (go_at_call 100; (with_reducible refine (sinc_size.calls a0 t190 _ A6.out).mono ?_); rintro e w7 ⟨rfl, hb⟩; have n0_ := Aside0.mk (below_step (by repeat (first | (with_reducible first | exact HB.out | apply below_alloc | apply pw_below_drewN | apply below_drew1) | exact HB.out)) hb); clear HB; have HB := n0_; clear n0_; (try clear hb); (try clear hb2); (try clear hk); (try clear hi)))
   go_meet
   case rel => exact ⟨_, (decide (t190 ≥ (wrap64 (3 * a1)))), (by first | rfl | (simp; done) | (simp [*]; done)), H', ⟨by first | omega | exact Nat.le_refl _⟩, ⟨by repeat (first | (with_reducible first | exact HB.out | apply below_alloc | apply pw_below_drewN | apply below_drew1) | exact HB.out)⟩⟩
  ·replace c5 := Bool.eq_false_iff.mpr c5
   subst c5
   have H1 : (sinc_Lanczos.j0 k a0 a1 true) = some r := by rw [if_neg (show ¬ (false = true) by decide)] at H; exact H
   clear H
   have H := H1
   clear H1
   have H' := Aside0.mk H
   clear H
   go_wp2_with (first | ((with_reducible refine gate_callee (f := 99) rfl ?_); refine goesL_ (some 7) rfl rfl Tryz.func99 (by kernel_rfl) rfl #[.int .i64 a0, .int .i64 a1] rfl (by (try simp only [List.map_toArray, List.map_cons, List.map_nil]); first | done | rfl | (simp only [List.length_drop, List.length_take]; rfl)) ?_; (with_reducible refine (sinc_May.calls a0 a1 false _ A4.out).mono ?_); rintro e w' ⟨rfl, ⟨nd, rfl⟩⟩; refine ⟨_, rfl, ?_⟩))
   go_meet
   case rel => exact ⟨_, (true), (by first | rfl | (simp; done) | (simp [*]; done)), H', ⟨by first | omega | exact Nat.le_refl _⟩, ⟨by repeat (first | (with_reducible first | exact HB.out | apply below_alloc | apply pw_below_drewN | apply below_drew1) | exact HB.out)⟩⟩
 case rest =>
  clear HC3
  try clear p2
  try clear c5
  try clear p6
  obtain ⟨kq, x15_2, rfl, HA, HJ2, HB⟩ := hcut
  cases kq with
  | zero => exact absurd HA.out (by simp [sinc_Lanczos.j0])
  | succ kj2 =>
   have H := HA.out
   clear HA
   simp only [sinc_Lanczos.j0] at H
   by_cases c8 : x15_2 = true
   ·subst c8
    have H1 : (some 0) = some r := by rw [if_pos rfl] at H; exact H
    clear H
    have H := H1
    clear H1
    obtain rfl := Option.some.inj H
    go_wp2
    go_ret
    exact ⟨by first | rfl | (simp [errW_none, errW_some] <;> rfl) | (simp [*, errW_none, errW_some] <;> rfl), by repeat (first | (with_reducible first | exact HB.out | apply below_alloc | apply pw_below_drewN | apply below_drew1) | exact HB.out)⟩
   ·replace c8 := Bool.eq_false_iff.mpr c8
    subst c8
    have H1 : ((sinc_series.f kj2 a0 a1).bind fun t191 => ((sinc_series.f kj2 a0 (wrap64 (3 * a1))).bind fun t192 => ((wide_MulShift.f kj2 t191 t192 40).bind fun t193 => ((fixed_Shift.f t193 10).bind fun t194 => (some t194))))) = some r := by rw [if_neg (show ¬ (false = true) by decide)] at H; exact H
    clear H
    have H := H1
    clear H1
    replace H := Option.bind_eq_some_iff.mp H
    obtain ⟨t191, A90, H⟩ := H
    replace H : ((sinc_series.f kj2 a0 (wrap64 (3 * a1))).bind fun t192 => ((wide_MulShift.f kj2 t191 t192 40).bind fun t193 => ((fixed_Shift.f t193 10).bind fun t194 => (some t194)))) = some r := H
    have A9 := Aside0.mk A90
    clear A90
    replace H := Option.bind_eq_some_iff.mp H
    obtain ⟨t192, A100, H⟩ := H
    replace H : ((wide_MulShift.f kj2 t191 t192 40).bind fun t193 => ((fixed_Shift.f t193 10).bind fun t194 => (some t194))) = some r := H
    have A10 := Aside0.mk A100
    clear A100
    replace H := Option.bind_eq_some_iff.mp H
    obtain ⟨t193, A110, H⟩ := H
    replace H : ((fixed_Shift.f t193 10).bind fun t194 => (some t194)) = some r := H
    have A11 := Aside0.mk A110
    clear A110
    replace H := Option.bind_eq_some_iff.mp H
    obtain ⟨t194, A120, H⟩ := H
    replace H : (some t194) = some r := H
    have A12 := Aside0.mk A120
    clear A120
    obtain rfl := Option.some.inj H
    go_wp2_with (first | ((with_reducible refine gate_callee (f := 102) rfl ?_); refine goesL_ (some 18) rfl rfl Tryz.func102 (by kernel_rfl) rfl #[.int .i64 a0, .int .i64 a1] rfl (by (try simp only [List.map_toArray, List.map_cons, List.map_nil]); first | done | rfl | (simp only [List.length_drop, List.length_take]; rfl)) ?_; (with_reducible refine (sinc_series.calls kj2 a0 a1 t191 _ A9.out).mono ?_); rintro e w13 ⟨rfl, hb⟩; refine ⟨_, rfl, ?_⟩; have n0_ := Aside0.mk (below_step (by repeat (first | (with_reducible first | exact HB.out | apply below_alloc | apply pw_below_drewN | apply below_drew1) | exact HB.out)) hb); clear HB; have HB := n0_; clear n0_; (try clear hb); (try clear hb2); (try clear hk); (try clear hi)) | ((with_reducible refine gate_callee (f := 102) rfl ?_); refine goesL_ (some 22) rfl rfl Tryz.func102 (by kernel_rfl) rfl #[.int .i64 a0, .int .i64 (wrap64 (3 * a1))] rfl (by (try simp only [List.map_toArray, List.map_cons, List.map_nil]); first | done | rfl | (simp only [List.length_drop, List.length_take]; rfl)) ?_; (with_reducible refine (sinc_series.calls kj2 a0 (wrap64 (3 * a1)) t192 _ A10.out).mono ?_); rintro e w14 ⟨rfl, hb⟩; refine ⟨_, rfl, ?_⟩; have n0_ := Aside0.mk (below_step (by repeat (first | (with_reducible first | exact HB.out | apply below_alloc | apply pw_below_drewN | apply below_drew1) | exact HB.out)) hb); clear HB; have HB := n0_; clear n0_; (try clear hb); (try clear hb2); (try clear hk); (try clear hi)) | ((with_reducible refine gate_callee (f := 101) rfl ?_); refine goesL_ (some 23) rfl rfl Tryz.func101 (by kernel_rfl) rfl #[.int .i64 t191, .int .i64 t192, .int .i64 40] rfl (by (try simp only [List.map_toArray, List.map_cons, List.map_nil]); first | done | rfl | (simp only [List.length_drop, List.length_take]; rfl)) ?_; (with_reducible refine (wide_MulShift.calls kj2 t191 t192 40 t193 _ A11.out).mono ?_); rintro e w15 ⟨rfl, hb⟩; refine ⟨_, rfl, ?_⟩; have n0_ := Aside0.mk (below_step (by repeat (first | (with_reducible first | exact HB.out | apply below_alloc | apply pw_below_drewN | apply below_drew1) | exact HB.out)) hb); clear HB; have HB := n0_; clear n0_; (try clear hb); (try clear hb2); (try clear hk); (try clear hi)) | ((with_reducible refine gate_callee (f := 46) rfl ?_); refine goesL_ (some 24) rfl rfl Tryz.func46 (by kernel_rfl) rfl #[.int .i64 t193, .int .i64 10] rfl (by (try simp only [List.map_toArray, List.map_cons, List.map_nil]); first | done | rfl | (simp only [List.length_drop, List.length_take]; rfl)) ?_; (with_reducible refine (fixed_Shift.calls t193 10 t194 _ A12.out).mono ?_); rintro e w' ⟨rfl, ⟨nd, rfl⟩⟩; refine ⟨_, rfl, ?_⟩))
    go_ret
    exact ⟨by first | rfl | (simp [errW_none, errW_some] <;> rfl) | (simp [*, errW_none, errW_some] <;> rfl), by repeat (first | (with_reducible first | exact HB.out | apply below_alloc | apply pw_below_drewN | apply below_drew1) | exact HB.out)⟩
def raw_weigh.f (k : Nat) (a0 : Int) (a1 : Int) (a2 : Int) (a3 : Int) (a4 : Int) : Option (Int) := if a0 = 0 then ((wide_MulDiv.f k (wrap64 ((mn (wrap64 ((wrap64 (a3 + 1)) * a1)) (wrap64 ((wrap64 (a4 + 1)) * a2))) - (mx (wrap64 (a3 * a1)) (wrap64 (a4 * a2))))) 1073741824 a1).bind fun t195 => (some t195)) else (if a0 = 1 then ((raw_Keys.f k (wrap64 ((wrap64 ((wrap64 ((wrap64 (2 * a2)) * a4)) - (wrap64 ((wrap64 ((wrap64 (2 * a3)) + 1)) * a1)))) + a2)) (wrap64 (2 * (mx a1 a2)))).bind fun t196 => (some t196)) else ((sinc_Lanczos.f k (wrap64 ((wrap64 ((wrap64 ((wrap64 (2 * a2)) * a4)) - (wrap64 ((wrap64 ((wrap64 (2 * a3)) + 1)) * a1)))) + a2)) (wrap64 (2 * (mx a1 a2)))).bind fun t197 => (some t197)))
theorem raw_weigh.mono : ∀ a0 a1 a2 a3 a4 k, LeO (raw_weigh.f k a0 a1 a2 a3 a4) (raw_weigh.f (k + 1) a0 a1 a2 a3 a4) := by
 intro a0 a1 a2 a3 a4 k
 unfold raw_weigh.f
 repeat' first
   | (with_reducible exact raw_Keys.mono _ _ _)
   | (with_reducible exact sinc_Lanczos.mono _ _ _)
   | (with_reducible exact wide_MulDiv.mono _ _ _ _)
   | (with_reducible exact LeO.refl _)
   | (with_reducible exact LeO.none _)
   | (with_reducible refine LeO.ite ?_ ?_)
   | (with_reducible refine LeO.bind ?_ (fun _ => ?_))
   | exact raw_Keys.mono _ _ _
   | exact sinc_Lanczos.mono _ _ _
   | exact wide_MulDiv.mono _ _ _ _
   | exact LeO.none _
   | refine LeO.ite ?_ ?_
   | refine LeO.bind ?_ (fun _ => ?_)
set_option maxHeartbeats 8000000 in
set_option maxRecDepth 100000 in
theorem raw_weigh.calls (k : Nat) (a0 : Int) (a1 : Int) (a2 : Int) (a3 : Int) (a4 : Int) (r : Int) (w : World) (h : raw_weigh.f k a0 a1 a2 a3 a4 = some r) :
  Calls Tryz.prog 78 #[.int .i64 a0, .int .i64 a1, .int .i64 a2, .int .i64 a3, .int .i64 a4] w fun e w' => e = .returned (.int .i64 r) ∧ Below w.heap.size w w' := by
 have HB := Aside0.mk (Below.refl w.heap.size w)
 have H : (if a0 = 0 then ((wide_MulDiv.f k (wrap64 ((mn (wrap64 ((wrap64 (a3 + 1)) * a1)) (wrap64 ((wrap64 (a4 + 1)) * a2))) - (mx (wrap64 (a3 * a1)) (wrap64 (a4 * a2))))) 1073741824 a1).bind fun t195 => (some t195)) else (if a0 = 1 then ((raw_Keys.f k (wrap64 ((wrap64 ((wrap64 ((wrap64 (2 * a2)) * a4)) - (wrap64 ((wrap64 ((wrap64 (2 * a3)) + 1)) * a1)))) + a2)) (wrap64 (2 * (mx a1 a2)))).bind fun t196 => (some t196)) else ((sinc_Lanczos.f k (wrap64 ((wrap64 ((wrap64 ((wrap64 (2 * a2)) * a4)) - (wrap64 ((wrap64 ((wrap64 (2 * a3)) + 1)) * a1)))) + a2)) (wrap64 (2 * (mx a1 a2)))).bind fun t197 => (some t197)))) = some r := h
 clear h
 by_cases c6 : a0 = 0
 ·rw [if_pos c6] at H
  have c6b0 : (a0 == 0) = true := beq_iff_eq.mpr c6
  have c6b1 : (a0 != 0) = false := bne_eq_false_iff_eq.mpr c6
  clear c6
  obtain ⟨ji7, hji7⟩ : ∃ j_ : Int, (mn (wrap64 ((wrap64 (a3 + 1)) * a1)) (wrap64 ((wrap64 (a4 + 1)) * a2))) = j_ := ⟨_, rfl⟩
  replace H : ((wide_MulDiv.f k (wrap64 ((ji7) - (mx (wrap64 (a3 * a1)) (wrap64 (a4 * a2))))) 1073741824 a1).bind fun t195 => (some t195)) = some r := by first | (rw [hji7] at H; exact H) | (simp only [hji7] at H ⊢; exact H)
  have hji7_ : (if (wrap64 ((wrap64 (a4 + 1)) * a2)) < (wrap64 ((wrap64 (a3 + 1)) * a1)) then (wrap64 ((wrap64 (a4 + 1)) * a2)) else (wrap64 ((wrap64 (a3 + 1)) * a1))) = ji7 := hji7
  obtain ⟨ji8, hji8⟩ : ∃ j_ : Int, (mx (wrap64 (a3 * a1)) (wrap64 (a4 * a2))) = j_ := ⟨_, rfl⟩
  replace H : ((wide_MulDiv.f k (wrap64 ((ji7) - (ji8))) 1073741824 a1).bind fun t195 => (some t195)) = some r := by first | (rw [hji8] at H; exact H) | (simp only [hji8] at H ⊢; exact H)
  have hji8_ : (if (wrap64 (a3 * a1)) < (wrap64 (a4 * a2)) then (wrap64 (a4 * a2)) else (wrap64 (a3 * a1))) = ji8 := hji8
  replace H := Option.bind_eq_some_iff.mp H
  obtain ⟨t195, A90, H⟩ := H
  replace H : (some t195) = some r := H
  have A9 := Aside0.mk A90
  clear A90
  obtain rfl := Option.some.inj H
  go_enter Tryz.func78, Tryz.ntmps78
  go_wp2_with (first | ((with_reducible refine gate_callee (f := 81) rfl ?_); refine goesL_ (some 35) rfl rfl Tryz.func81 (by kernel_rfl) rfl #[.int .i64 (wrap64 ((ji7) - (ji8))), .int .i64 1073741824, .int .i64 a1] rfl (by (try simp only [List.map_toArray, List.map_cons, List.map_nil]); first | done | (simp only [hji7, hji8]; rfl) | rfl | (simp only [List.length_drop, List.length_take]; rfl)) ?_; (with_reducible refine (wide_MulDiv.calls k (wrap64 ((ji7) - (ji8))) 1073741824 a1 t195 _ A9.out).mono ?_); rintro e w' ⟨rfl, ⟨nd, rfl⟩⟩; refine ⟨_, rfl, ?_⟩))
  go_ret
  exact ⟨by first | rfl | (simp [errW_none, errW_some] <;> rfl) | (simp only [← hji7, ← hji8]; first | rfl | (simp [errW_none, errW_some] <;> rfl)) | (simp [*, errW_none, errW_some] <;> rfl), by repeat (first | (with_reducible first | exact HB.out | apply below_alloc | apply pw_below_drewN | apply below_drew1) | exact HB.out)⟩
 ·rw [if_neg c6] at H
  have c6b0 : (a0 == 0) = false := beq_eq_false_iff_ne.mpr c6
  have c6b1 : (a0 != 0) = true := bne_iff_ne.mpr c6
  obtain ⟨ji10, hji10⟩ : ∃ j_ : Int, (mx a1 a2) = j_ := ⟨_, rfl⟩
  replace H : (if a0 = 1 then ((raw_Keys.f k (wrap64 ((wrap64 ((wrap64 ((wrap64 (2 * a2)) * a4)) - (wrap64 ((wrap64 ((wrap64 (2 * a3)) + 1)) * a1)))) + a2)) (wrap64 (2 * (ji10)))).bind fun t196 => (some t196)) else ((sinc_Lanczos.f k (wrap64 ((wrap64 ((wrap64 ((wrap64 (2 * a2)) * a4)) - (wrap64 ((wrap64 ((wrap64 (2 * a3)) + 1)) * a1)))) + a2)) (wrap64 (2 * (ji10)))).bind fun t197 => (some t197))) = some r := by first | (rw [hji10] at H; exact H) | (simp only [hji10] at H ⊢; exact H)
  have hji10_ : (if a1 < a2 then a2 else a1) = ji10 := hji10
  by_cases c11 : a0 = 1
  ·rw [if_pos c11] at H
   have c11b0 : (a0 == 1) = true := beq_iff_eq.mpr c11
   have c11b1 : (a0 != 1) = false := bne_eq_false_iff_eq.mpr c11
   clear c11
   replace H := Option.bind_eq_some_iff.mp H
   obtain ⟨t196, A120, H⟩ := H
   replace H : (some t196) = some r := H
   have A12 := Aside0.mk A120
   clear A120
   obtain rfl := Option.some.inj H
   go_enter Tryz.func78, Tryz.ntmps78
   go_wp2_with (first | ((with_reducible refine gate_callee (f := 68) rfl ?_); refine goesL_ (some 56) rfl rfl Tryz.func68 (by kernel_rfl) rfl #[.int .i64 (wrap64 ((wrap64 ((wrap64 ((wrap64 (2 * a2)) * a4)) - (wrap64 ((wrap64 ((wrap64 (2 * a3)) + 1)) * a1)))) + a2)), .int .i64 (wrap64 (2 * (ji10)))] rfl (by (try simp only [List.map_toArray, List.map_cons, List.map_nil]); first | done | (simp only [hji10]; rfl) | (simp only [Int.tdiv_eq_ediv_of_nonneg hji10l]; rfl) | rfl | (simp only [List.length_drop, List.length_take]; rfl)) ?_; (with_reducible refine (raw_Keys.calls k (wrap64 ((wrap64 ((wrap64 ((wrap64 (2 * a2)) * a4)) - (wrap64 ((wrap64 ((wrap64 (2 * a3)) + 1)) * a1)))) + a2)) (wrap64 (2 * (ji10))) t196 _ A12.out).mono ?_); rintro e w13 ⟨rfl, hb⟩; refine ⟨_, rfl, ?_⟩; have n0_ := Aside0.mk (below_step (by repeat (first | (with_reducible first | exact HB.out | apply below_alloc | apply pw_below_drewN | apply below_drew1) | exact HB.out)) hb); clear HB; have HB := n0_; clear n0_; (try clear hb); (try clear hb2); (try clear hk); (try clear hi)))
   go_ret
   exact ⟨by first | rfl | (simp [errW_none, errW_some] <;> rfl) | (simp only [← hji10]; first | rfl | (simp [errW_none, errW_some] <;> rfl)) | (simp [*, errW_none, errW_some] <;> rfl), by repeat (first | (with_reducible first | exact HB.out | apply below_alloc | apply pw_below_drewN | apply below_drew1) | exact HB.out)⟩
  ·rw [if_neg c11] at H
   have c11b0 : (a0 == 1) = false := beq_eq_false_iff_ne.mpr c11
   have c11b1 : (a0 != 1) = true := bne_iff_ne.mpr c11
   replace H := Option.bind_eq_some_iff.mp H
   obtain ⟨t197, A140, H⟩ := H
   replace H : (some t197) = some r := H
   have A14 := Aside0.mk A140
   clear A140
   obtain rfl := Option.some.inj H
   go_enter Tryz.func78, Tryz.ntmps78
   go_wp2_with (first | ((with_reducible refine gate_callee (f := 88) rfl ?_); refine goesL_ (some 59) rfl rfl Tryz.func88 (by kernel_rfl) rfl #[.int .i64 (wrap64 ((wrap64 ((wrap64 ((wrap64 (2 * a2)) * a4)) - (wrap64 ((wrap64 ((wrap64 (2 * a3)) + 1)) * a1)))) + a2)), .int .i64 (wrap64 (2 * (ji10)))] rfl (by (try simp only [List.map_toArray, List.map_cons, List.map_nil]); first | done | (simp only [hji10]; rfl) | (simp only [Int.tdiv_eq_ediv_of_nonneg hji10l]; rfl) | rfl | (simp only [List.length_drop, List.length_take]; rfl)) ?_; (with_reducible refine (sinc_Lanczos.calls k (wrap64 ((wrap64 ((wrap64 ((wrap64 (2 * a2)) * a4)) - (wrap64 ((wrap64 ((wrap64 (2 * a3)) + 1)) * a1)))) + a2)) (wrap64 (2 * (ji10))) t197 _ A14.out).mono ?_); rintro e w15 ⟨rfl, hb⟩; refine ⟨_, rfl, ?_⟩; have n0_ := Aside0.mk (below_step (by repeat (first | (with_reducible first | exact HB.out | apply below_alloc | apply pw_below_drewN | apply below_drew1) | exact HB.out)) hb); clear HB; have HB := n0_; clear n0_; (try clear hb); (try clear hb2); (try clear hk); (try clear hi)))
   go_ret
   exact ⟨by first | rfl | (simp [errW_none, errW_some] <;> rfl) | (simp only [← hji10]; first | rfl | (simp [errW_none, errW_some] <;> rfl)) | (simp [*, errW_none, errW_some] <;> rfl), by repeat (first | (with_reducible first | exact HB.out | apply below_alloc | apply pw_below_drewN | apply below_drew1) | exact HB.out)⟩
def raw_Row.l0 : Nat → Int → Int → Int → Int → Int → List Int → Int → Int → Option (Int × List Int)
 | 0, _, _, _, _, _, _, _, _ => none
 | k + 1, x0, x1, x2, x3, x8, x9, x20, x21 => if x21 < x20 then ((raw_weigh.f k x0 x1 x2 x3 (wrap64 (x8 + x21))).bind fun t200 => (if x9.length < 17592186044416 then (raw_Row.l0 k x0 x1 x2 x3 x8 (x9 ++ [t200]) x20 (wrap64 (x21 + 1))) else (none))) else (some (x8, x9))
def raw_Row.f (k : Nat) (a0 : Int) (a1 : Int) (a2 : Int) (a3 : Int) : Option (Int × List Int) := (raw_Window.f k a0 a1 a2 a3).bind fun bt198 => (raw_Row.l0 k a0 a1 a2 a3 bt198.1 ([] : List Int) bt198.2 0)
theorem raw_Row.mono_l : ∀ k, (∀ y0 y1 y2 y3 y4 y5 y6 y7, LeO (raw_Row.l0 k y0 y1 y2 y3 y4 y5 y6 y7) (raw_Row.l0 (k + 1) y0 y1 y2 y3 y4 y5 y6 y7))
 | 0 => fun _ _ _ _ _ _ _ _ r h => by simp [raw_Row.l0] at h
 | k + 1 => by
  have ih0 := raw_Row.mono_l k
  ·intro y0 y1 y2 y3 y4 y5 y6 y7
   unfold raw_Row.l0
   repeat' first
   | (with_reducible exact ih0 _ _ _ _ _ _ _ _)
   | (with_reducible exact raw_Window.mono _ _ _ _ _)
   | (with_reducible exact raw_weigh.mono _ _ _ _ _ _)
   | (with_reducible exact LeO.refl _)
   | (with_reducible exact LeO.none _)
   | (with_reducible refine LeO.ite ?_ ?_)
   | (with_reducible refine LeO.bind ?_ (fun _ => ?_))
   | exact ih0 _ _ _ _ _ _ _ _
   | exact raw_Window.mono _ _ _ _ _
   | exact raw_weigh.mono _ _ _ _ _ _
   | exact LeO.none _
   | refine LeO.ite ?_ ?_
   | refine LeO.bind ?_ (fun _ => ?_)
theorem raw_Row.mono : ∀ a0 a1 a2 a3 k, LeO (raw_Row.f k a0 a1 a2 a3) (raw_Row.f (k + 1) a0 a1 a2 a3) := by
 intro a0 a1 a2 a3 k
 have ih0 := raw_Row.mono_l k
 unfold raw_Row.f
 repeat' first
   | (with_reducible exact ih0 _ _ _ _ _ _ _ _)
   | (with_reducible exact raw_Window.mono _ _ _ _ _)
   | (with_reducible exact raw_weigh.mono _ _ _ _ _ _)
   | (with_reducible exact LeO.refl _)
   | (with_reducible exact LeO.none _)
   | (with_reducible refine LeO.ite ?_ ?_)
   | (with_reducible refine LeO.bind ?_ (fun _ => ?_))
   | exact ih0 _ _ _ _ _ _ _ _
   | exact raw_Window.mono _ _ _ _ _
   | exact raw_weigh.mono _ _ _ _ _ _
   | exact LeO.none _
   | refine LeO.ite ?_ ?_
   | refine LeO.bind ?_ (fun _ => ?_)
set_option maxHeartbeats 8000000 in
set_option maxRecDepth 100000 in
theorem raw_Row.calls (k : Nat) (a0 : Int) (a1 : Int) (a2 : Int) (a3 : Int) (r1 : Int) (r2 : List Int) (w : World) (hG : GL w) (h : raw_Row.f k a0 a1 a2 a3 = some (r1, r2)) :
  Calls Tryz.prog 64 #[.int .i64 a0, .int .i64 a1, .int .i64 a2, .int .i64 a3] w fun e w' => ∃ v1_ : Value, e = .returned (.tuple #[.int .i64 r1, v1_]) ∧ Kd.R (Kd.int .i64) 2 w' w.heap.size (fun _ => True) v1_ r2 ∧ Below w.heap.size w w' := by
 have HB := Aside0.mk (Below.refl w.heap.size w)
 have H : ((raw_Window.f k a0 a1 a2 a3).bind fun bt198 => (raw_Row.l0 k a0 a1 a2 a3 bt198.1 ([] : List Int) bt198.2 0)) = some (r1, r2) := h
 clear h
 replace H := Option.bind_eq_some_iff.mp H
 obtain ⟨⟨t198, t199⟩, A50, H⟩ := H
 replace H : (raw_Row.l0 k a0 a1 a2 a3 t198 ([] : List Int) t199 0) = some (r1, r2) := H
 have A5 := Aside0.mk A50
 clear A50
 have H' := Aside0.mk H
 clear H
 go_enter Tryz.func64, Tryz.ntmps64
 go_wp2_with (first | ((with_reducible refine gate_callee (f := 77) rfl ?_); refine goesL_ (some 17) rfl rfl Tryz.func77 (by kernel_rfl) rfl #[.int .i64 a0, .int .i64 a1, .int .i64 a2, .int .i64 a3] rfl (by (try simp only [List.map_toArray, List.map_cons, List.map_nil]); first | done | rfl | (simp only [List.length_drop, List.length_take]; rfl)) ?_; (with_reducible refine (raw_Window.calls k a0 a1 a2 a3 t198 t199 _ (by exact GL.below hG (by repeat (first | (with_reducible first | exact HB.out | apply below_alloc | apply pw_below_drewN | apply below_drew1) | exact HB.out | exact Below.refl _ _))) A5.out).mono ?_); rintro e w6 ⟨rfl, hb⟩; refine ⟨_, rfl, ?_⟩; have n0_ := Aside0.mk (below_step (by repeat (first | (with_reducible first | exact HB.out | apply below_alloc | apply pw_below_drewN | apply below_drew1) | exact HB.out)) hb); clear HB; have HB := n0_; clear n0_; (try clear hb); (try clear hb2); (try clear hk); (try clear hi)))
 go_loopg [9, 21] k (fun kq v9 v21 w' => ∃ (x9_1 : List Int) (x21_1 : Int), v21 = .int .i64 x21_1 ∧ Aside0 (raw_Row.l0 kq a0 a1 a2 a3 t198 x9_1 t199 x21_1 = some (r1, r2)) ∧ Aside0 (kq ≤ k) ∧ Aside0 (Kd.R (Kd.int .i64) 2 w' w.heap.size (fun _ => True) v9 x9_1) ∧ Aside0 (Below w.heap.size w w'))
 case atStart => exact ⟨(([] : List Int)), (0), (by first | rfl | (simp; done) | (simp [*]; done)), H', ⟨Nat.le_refl _⟩, ⟨by first | exact Kd.R_nil _ _ _ _ _ | exact Kd.N_nil _ _ _ _ _ | exact Kd.V_nil _ _ _ _ _ | exact Kd.Q_nil _ _ _ _ _ | exact Kd.S_nil _ _ _ _ _⟩, ⟨by repeat (first | (with_reducible first | exact HB.out | apply below_alloc | apply pw_below_drewN | apply below_drew1) | exact HB.out)⟩⟩
 case round =>
  clear H'
  try clear p2
  try clear c6
  obtain ⟨x9_1, x21_1, rfl, HA, HK1, HO_9, HB⟩ := hrel
  cases gk with
  | zero => exact absurd HA.out (by simp [raw_Row.l0])
  | succ k1 =>
   have H := HA.out
   clear HA
   simp only [raw_Row.l0] at H
   by_cases c7 : x21_1 < t199
   ·rw [if_pos c7] at H
    have c7b0 : decide (x21_1 < t199) = true := decide_eq_true c7
    clear c7
    replace H := Option.bind_eq_some_iff.mp H
    obtain ⟨t200, A80, H⟩ := H
    replace H : (if x9_1.length < 17592186044416 then (raw_Row.l0 k1 a0 a1 a2 a3 t198 (x9_1 ++ [t200]) t199 (wrap64 (x21_1 + 1))) else (none)) = some (r1, r2) := H
    have A8 := Aside0.mk A80
    clear A80
    by_cases c9 : x9_1.length < 17592186044416
    ·rw [if_pos c9] at H
     have LMc9 := Aside0.mk c9
     clear c9
     obtain ⟨y201, hy201⟩ : ∃ y_ : List Int, y_ = (x9_1 ++ [t200]) := ⟨_, rfl⟩
     replace H : (raw_Row.l0 k1 a0 a1 a2 a3 t198 y201 t199 (wrap64 (x21_1 + 1))) = some (r1, r2) := by first | (rw [hy201]; with_reducible exact H) | (have H2_ := (Option.bind_some _ _).symm.trans H; rw [hy201]; with_reducible exact H2_) | (have H2_ := (Option.bind_some _ _).symm.trans H; with_reducible exact H2_) | with_reducible exact H | (rw [hy201]; exact H) | exact H
     have Ny201 := Aside0.mk hy201
     clear hy201
     have H' := Aside0.mk H
     clear H
     go_wp2_with (first | ((with_reducible refine gate_callee (f := 78) rfl ?_); refine goesL_ (some 32) rfl rfl Tryz.func78 (by kernel_rfl) rfl #[.int .i64 a0, .int .i64 a1, .int .i64 a2, .int .i64 a3, .int .i64 (wrap64 (t198 + x21_1))] rfl (by (try simp only [List.map_toArray, List.map_cons, List.map_nil]); first | done | rfl | (simp only [List.length_drop, List.length_take]; rfl)) ?_; (with_reducible refine (raw_weigh.calls k1 a0 a1 a2 a3 (wrap64 (t198 + x21_1)) t200 _ A8.out).mono ?_); rintro e w10 ⟨rfl, hb⟩; refine ⟨_, rfl, ?_⟩; have n0_ := Aside0.mk (Kd.R_below (by (with_reducible repeat (first | apply Kd.R_alloc | apply Kd.R_drewN | apply Kd.R_drew)); exact HO_9.out) hb); have n1_ := Aside0.mk (below_step (by repeat (first | (with_reducible first | exact HB.out | apply below_alloc | apply pw_below_drewN | apply below_drew1) | exact HB.out)) hb); clear HO_9; clear HB; have HO_9 := n0_; have HB := n1_; clear n0_ n1_; (try clear hb); (try clear hb2); (try clear hk); (try clear hi)) | ((with_reducible refine gate_builtin (b := .append) (xs := #[.tmp 24, .tmp 33]) rfl ?_); at_builtin; refine Kd.R_append (Kd.int .i64) (w0 := w) w.heap.size rfl (.tmp 24) (.tmp 33) 49 2 (.int .i64 0) 8 rfl Tryz.underlying49 info2 rfl (by decide) (by omega) u9 x9_1 t200 [.int .i64 t200] (fun _ => True) (fun _ => False) rfl rfl ?aP (fun _ hk => hk.elim) ?aF ?aO ?aB ?aS ?aL ?_; (case aP => exact rfl); (case aB => exact (by repeat (first | (with_reducible first | exact HB.out | apply below_alloc | apply pw_below_drewN | apply below_drew1) | exact HB.out))); (case aF => exact (fun _ _ => trivial)); (case aO => exact (by (with_reducible repeat (first | apply Kd.R_alloc | apply Kd.R_drewN | apply Kd.R_drew)); exact HO_9.out)); (case aS => exact (below_size (by repeat (first | (with_reducible first | exact HB.out | apply below_alloc | apply pw_below_drewN | apply below_drew1) | exact HB.out)))); (case aL => have := LMc9.out; omega); intro v202 w11 ho hb hg hat; rw [← Ny201.out] at ho; have n0_ := Aside0.mk (hb); have n1_ := Aside0.mk (ho); clear HB; clear HO_9; have HB := n0_; have HO203 := n1_; clear n0_ n1_; clear ho hb hg hat))
     go_roundg k1
     case measure => have := HK1.out; omega
     case rel => exact ⟨(y201), (wrap64 (x21_1 + 1)), (by first | rfl | (simp; done) | (simp [*]; done)), H', ⟨by have := HK1.out; omega⟩, ⟨by (with_reducible repeat (first | apply Kd.R_alloc | apply Kd.R_drewN | apply Kd.R_drew)); exact HO203.out⟩, ⟨by repeat (first | (with_reducible first | exact HB.out | apply below_alloc | apply pw_below_drewN | apply below_drew1) | exact HB.out)⟩⟩
    ·rw [if_neg c9] at H
     exact absurd H (by simp)
   ·rw [if_neg c7] at H
    have c7b0 : decide (x21_1 < t199) = false := decide_eq_false c7
    clear c7
    simp only [Option.some.injEq, Prod.mk.injEq] at H
    obtain ⟨rfl, rfl⟩ := H
    go_wp2
    go_ret2
    exact ⟨_, by first | rfl | (simp [errW_none, errW_some] <;> rfl) | (simp [*, errW_none, errW_some] <;> rfl), by (with_reducible repeat (first | apply Kd.R_alloc | apply Kd.R_drewN | apply Kd.R_drew)); exact HO_9.out, by repeat (first | (with_reducible first | exact HB.out | apply below_alloc | apply pw_below_drewN | apply below_drew1) | exact HB.out)⟩
end Go.Proofs.YtbcoieboldgdaaaGreatDoor.QA

namespace Go.Proofs.YtbcoieboldgdaaaGreatDoor.QA
open Go.Proofs.YtbcoieboldgdaaaGreatDoor.T
open Go.RowKit Go.Proofs.YtbcoieboldgdaaaGreatDoorW.PrintWords Go.Proofs.YtbcoieboldgdaaaGreatDoorW.PrintLast Go.Proofs.YtbcoieboldgdaaaGreatDoorW.PrintMore
attribute [local go_sem] ext_call max2_int min2_int max_two min_two max_three min_three max_four min_four   -- for this text's walks alone
set_option linter.unusedVariables false
set_option linter.unusedSimpArgs false
def expo_Exp.l0 : Nat → Int → Int → Int → Int → Int → Option (Int)
 | 0, _, _, _, _, _ => none
 | k + 1, x3, x4, x5, x6, x14 => if x14 < 16 then ((wide_MulDiv.f k x6 x4 (wrap64 ((wrap64 (x14 + 1)) * 1099511627776))).bind fun t204 => (if (Int.tmod x14 2) = 0 then (expo_Exp.l0 k x3 x4 (wrap64 (x5 - t204)) t204 (wrap64 (x14 + 1))) else (expo_Exp.l0 k x3 x4 (wrap64 (x5 + t204)) t204 (wrap64 (x14 + 1))))) else ((fixed_Shift.f x5 x3).bind fun t205 => (some t205))
def expo_Exp.f (k : Nat) (a0 : Int) : Option (Int) := expo_Exp.l0 k (wrap64 ((mx 0 a0) / 762123384786)) ((mx 0 a0) % 762123384786) 1099511627776 1099511627776 0
theorem expo_Exp.mono_l : ∀ k, (∀ y0 y1 y2 y3 y4, LeO (expo_Exp.l0 k y0 y1 y2 y3 y4) (expo_Exp.l0 (k + 1) y0 y1 y2 y3 y4))
 | 0 => fun _ _ _ _ _ r h => by simp [expo_Exp.l0] at h
 | k + 1 => by
  have ih0 := expo_Exp.mono_l k
  ·intro y0 y1 y2 y3 y4
   unfold expo_Exp.l0
   repeat' first
   | (with_reducible exact ih0 _ _ _ _ _)
   | (with_reducible exact wide_MulDiv.mono _ _ _ _)
   | (with_reducible exact LeO.refl _)
   | (with_reducible exact LeO.none _)
   | (with_reducible refine LeO.ite ?_ ?_)
   | (with_reducible refine LeO.bind ?_ (fun _ => ?_))
   | exact ih0 _ _ _ _ _
   | exact wide_MulDiv.mono _ _ _ _
   | exact LeO.none _
   | refine LeO.ite ?_ ?_
   | refine LeO.bind ?_ (fun _ => ?_)
theorem expo_Exp.mono : ∀ a0 k, LeO (expo_Exp.f k a0) (expo_Exp.f (k + 1) a0) := by
 intro a0 k
 have ih0 := expo_Exp.mono_l k
 unfold expo_Exp.f
 repeat' first
   | (with_reducible exact ih0 _ _ _ _ _)
   | (with_reducible exact wide_MulDiv.mono _ _ _ _)
   | (with_reducible exact LeO.refl _)
   | (with_reducible exact LeO.none _)
   | (with_reducible refine LeO.ite ?_ ?_)
   | (with_reducible refine LeO.bind ?_ (fun _ => ?_))
   | exact ih0 _ _ _ _ _
   | exact wide_MulDiv.mono _ _ _ _
   | exact LeO.none _
   | refine LeO.ite ?_ ?_
   | refine LeO.bind ?_ (fun _ => ?_)
set_option maxHeartbeats 8000000 in
set_option maxRecDepth 100000 in
theorem expo_Exp.calls (k : Nat) (a0 : Int) (r : Int) (w : World) (h : expo_Exp.f k a0 = some r) :
  Calls Tryz.prog 89 #[.int .i64 a0] w fun e w' => e = .returned (.int .i64 r) ∧ Below w.heap.size w w' := by
 have HB := Aside0.mk (Below.refl w.heap.size w)
 have H : (expo_Exp.l0 k (wrap64 ((mx 0 a0) / 762123384786)) ((mx 0 a0) % 762123384786) 1099511627776 1099511627776 0) = some r := h
 clear h
 obtain ⟨ji2, hji2⟩ : ∃ j_ : Int, (mx 0 a0) = j_ := ⟨_, rfl⟩
 replace H : (expo_Exp.l0 k (wrap64 ((ji2) / 762123384786)) ((ji2) % 762123384786) 1099511627776 1099511627776 0) = some r := by first | (rw [hji2] at H; exact H) | (simp only [hji2] at H ⊢; exact H)
 (try (have hji2l : 0 ≤ ji2 := by (rw [← hji2]; unfold mx; (repeat' split) <;> omega)))
 (try (have hji2m : 0 ≤ ji2 := by omega))
 have hji2_ : (if 0 < a0 then a0 else 0) = ji2 := hji2
 have H' := Aside0.mk H
 clear H
 go_enter Tryz.func89, Tryz.ntmps89
 go_wp2
 go_loopg [5, 6, 14] k (fun kq v5 v6 v14 w' => ∃ (x5_1 : Int) (x6_1 : Int) (x14_1 : Int), v5 = .int .i64 x5_1 ∧ v6 = .int .i64 x6_1 ∧ v14 = .int .i64 x14_1 ∧ Aside0 (expo_Exp.l0 kq (wrap64 ((ji2) / 762123384786)) ((ji2) % 762123384786) x5_1 x6_1 x14_1 = some r) ∧ Aside0 (kq ≤ k) ∧ Aside0 (Below w.heap.size w w'))
 case atStart => exact ⟨(1099511627776), (1099511627776), (0), (by first | rfl | (simp; done) | (simp [*]; done)), (by first | rfl | (simp; done) | (simp [*]; done)), (by first | rfl | (simp; done) | (simp [*]; done)), H', ⟨Nat.le_refl _⟩, ⟨by repeat (first | (with_reducible first | exact HB.out | apply below_alloc | apply pw_below_drewN | apply below_drew1) | exact HB.out)⟩⟩
 case round =>
  clear H'
  try clear p2
  obtain ⟨x5_1, x6_1, x14_1, rfl, rfl, rfl, HA, HK1, HB⟩ := hrel
  cases gk with
  | zero => exact absurd HA.out (by simp [expo_Exp.l0])
  | succ k1 =>
   have H := HA.out
   clear HA
   simp only [expo_Exp.l0] at H
   by_cases c3 : x14_1 < 16
   ·rw [if_pos c3] at H
    have c3b0 : decide (x14_1 < 16) = true := decide_eq_true c3
    clear c3
    replace H := Option.bind_eq_some_iff.mp H
    obtain ⟨t204, A40, H⟩ := H
    replace H : (if (Int.tmod x14_1 2) = 0 then (expo_Exp.l0 k1 (wrap64 ((ji2) / 762123384786)) ((ji2) % 762123384786) (wrap64 (x5_1 - t204)) t204 (wrap64 (x14_1 + 1))) else (expo_Exp.l0 k1 (wrap64 ((ji2) / 762123384786)) ((ji2) % 762123384786) (wrap64 (x5_1 + t204)) t204 (wrap64 (x14_1 + 1)))) = some r := H
    have A4 := Aside0.mk A40
    clear A40
    by_cases c5 : (Int.tmod x14_1 2) = 0
    ·rw [if_pos c5] at H
     have c5b0 : ((Int.tmod x14_1 2) == 0) = true := beq_iff_eq.mpr c5
     have c5b1 : ((Int.tmod x14_1 2) != 0) = false := bne_eq_false_iff_eq.mpr c5
     clear c5
     have H' := Aside0.mk H
     clear H
     go_wp2_with (first | ((with_reducible refine gate_callee (f := 81) rfl ?_); refine goesL_ (some 22) rfl rfl Tryz.func81 (by kernel_rfl) rfl #[.int .i64 x6_1, .int .i64 ((ji2) % 762123384786), .int .i64 (wrap64 ((wrap64 (x14_1 + 1)) * 1099511627776))] rfl (by (try simp only [List.map_toArray, List.map_cons, List.map_nil]); first | done | (simp only [hji2]; rfl) | (simp only [Int.tdiv_eq_ediv_of_nonneg hji2l]; rfl) | rfl | (simp only [List.length_drop, List.length_take]; rfl)) ?_; (with_reducible refine (wide_MulDiv.calls k1 x6_1 ((ji2) % 762123384786) (wrap64 ((wrap64 (x14_1 + 1)) * 1099511627776)) t204 _ A4.out).mono ?_); rintro e w' ⟨rfl, ⟨nd, rfl⟩⟩; refine ⟨_, rfl, ?_⟩))
     go_roundg k1
     case measure => have := HK1.out; omega
     case rel => exact ⟨(wrap64 (x5_1 - t204)), (t204), (wrap64 (x14_1 + 1)), (by first | rfl | (simp; done) | (simp [*]; done)), (by first | rfl | (simp; done) | (simp [*]; done)), (by first | rfl | (simp; done) | (simp [*]; done)), H', ⟨by have := HK1.out; omega⟩, ⟨by repeat (first | (with_reducible first | exact HB.out | apply below_alloc | apply pw_below_drewN | apply below_drew1) | exact HB.out)⟩⟩
    ·rw [if_neg c5] at H
     have c5b0 : ((Int.tmod x14_1 2) == 0) = false := beq_eq_false_iff_ne.mpr c5
     have c5b1 : ((Int.tmod x14_1 2) != 0) = true := bne_iff_ne.mpr c5
     have H' := Aside0.mk H
     clear H
     go_wp2_with (first | ((with_reducible refine gate_callee (f := 81) rfl ?_); refine goesL_ (some 22) rfl rfl Tryz.func81 (by kernel_rfl) rfl #[.int .i64 x6_1, .int .i64 ((ji2) % 762123384786), .int .i64 (wrap64 ((wrap64 (x14_1 + 1)) * 1099511627776))] rfl (by (try simp only [List.map_toArray, List.map_cons, List.map_nil]); first | done | (simp only [hji2]; rfl) | (simp only [Int.tdiv_eq_ediv_of_nonneg hji2l]; rfl) | rfl | (simp only [List.length_drop, List.length_take]; rfl)) ?_; (with_reducible refine (wide_MulDiv.calls k1 x6_1 ((ji2) % 762123384786) (wrap64 ((wrap64 (x14_1 + 1)) * 1099511627776)) t204 _ A4.out).mono ?_); rintro e w' ⟨rfl, ⟨nd, rfl⟩⟩; refine ⟨_, rfl, ?_⟩))
     go_roundg k1
     case measure => have := HK1.out; omega
     case rel => exact ⟨(wrap64 (x5_1 + t204)), (t204), (wrap64 (x14_1 + 1)), (by first | rfl | (simp; done) | (simp [*]; done)), (by first | rfl | (simp; done) | (simp [*]; done)), (by first | rfl | (simp; done) | (simp [*]; done)), H', ⟨by have := HK1.out; omega⟩, ⟨by repeat (first | (with_reducible first | exact HB.out | apply below_alloc | apply pw_below_drewN | apply below_drew1) | exact HB.out)⟩⟩
   ·rw [if_neg c3] at H
    have c3b0 : decide (x14_1 < 16) = false := decide_eq_false c3
    clear c3
    replace H := Option.bind_eq_some_iff.mp H
    obtain ⟨t205, A60, H⟩ := H
    replace H : (some t205) = some r := H
    have A6 := Aside0.mk A60
    clear A60
    obtain rfl := Option.some.inj H
    go_wp2_with (first | ((with_reducible refine gate_callee (f := 46) rfl ?_); refine goesL_ (some 35) rfl rfl Tryz.func46 (by kernel_rfl) rfl #[.int .i64 x5_1, .int .i64 (wrap64 ((ji2) / 762123384786))] rfl (by (try simp only [List.map_toArray, List.map_cons, List.map_nil]); first | done | (simp only [hji2]; rfl) | (simp only [Int.tdiv_eq_ediv_of_nonneg hji2l]; rfl) | rfl | (simp only [List.length_drop, List.length_take]; rfl)) ?_; (with_reducible refine (fixed_Shift.calls x5_1 (wrap64 ((ji2) / 762123384786)) t205 _ A6.out).mono ?_); rintro e w' ⟨rfl, ⟨nd, rfl⟩⟩; refine ⟨_, rfl, ?_⟩))
    go_ret
    exact ⟨by first | rfl | (simp [errW_none, errW_some] <;> rfl) | (simp only [← hji2]; first | rfl | (simp [errW_none, errW_some] <;> rfl)) | (simp [*, errW_none, errW_some] <;> rfl), by repeat (first | (with_reducible first | exact HB.out | apply below_alloc | apply pw_below_drewN | apply below_drew1) | exact HB.out)⟩
def expo_Ratio.f (k : Nat) (a0 : Int) (a1 : Int) : Option (Int) := if a1 < 1 then (some 9223372036854775807) else (if a1 > 4194304 then (some 9223372036854775807) else (if a0 < (-16384) then (some 9223372036854775807) else (if a0 > 16384 then (some 9223372036854775807) else ((wide_MulDiv.f k (wrap64 ((wrap64 (a0 * a0)) * 2147483648)) 1099511627776 (wrap64 (a1 * a1))).bind fun t206 => (some t206)))))
theorem expo_Ratio.mono : ∀ a0 a1 k, LeO (expo_Ratio.f k a0 a1) (expo_Ratio.f (k + 1) a0 a1) := by
 intro a0 a1 k
 unfold expo_Ratio.f
 repeat' first
   | (with_reducible exact wide_MulDiv.mono _ _ _ _)
   | (with_reducible exact LeO.refl _)
   | (with_reducible exact LeO.none _)
   | (with_reducible refine LeO.ite ?_ ?_)
   | (with_reducible refine LeO.bind ?_ (fun _ => ?_))
   | exact wide_MulDiv.mono _ _ _ _
   | exact LeO.none _
   | refine LeO.ite ?_ ?_
   | refine LeO.bind ?_ (fun _ => ?_)
set_option maxHeartbeats 8000000 in
set_option maxRecDepth 100000 in
theorem expo_Ratio.calls (k : Nat) (a0 : Int) (a1 : Int) (r : Int) (w : World) (h : expo_Ratio.f k a0 a1 = some r) :
  Calls Tryz.prog 90 #[.int .i64 a0, .int .i64 a1] w fun e w' => e = .returned (.int .i64 r) ∧ Drawn0 w w' := by
 have H : (if a1 < 1 then (some 9223372036854775807) else (if a1 > 4194304 then (some 9223372036854775807) else (if a0 < (-16384) then (some 9223372036854775807) else (if a0 > 16384 then (some 9223372036854775807) else ((wide_MulDiv.f k (wrap64 ((wrap64 (a0 * a0)) * 2147483648)) 1099511627776 (wrap64 (a1 * a1))).bind fun t206 => (some t206)))))) = some r := h
 clear h
 by_cases c3 : a1 < 1
 ·rw [if_pos c3] at H
  have c3b0 : decide (a1 < 1) = true := decide_eq_true c3
  clear c3
  obtain rfl := Option.some.inj H
  go_enter Tryz.func90, Tryz.ntmps90
  go_wp2
  go_ret
  exact ⟨by first | rfl | (simp; done) | (simp [*]; done), by repeat (first | exact Drawn0.refl _ | apply Drawn0.step)⟩
 ·rw [if_neg c3] at H
  have c3b0 : decide (a1 < 1) = false := decide_eq_false c3
  clear c3
  by_cases c4 : a1 > 4194304
  ·rw [if_pos c4] at H
   have c4b0 : decide (4194304 < a1) = true := decide_eq_true c4
   clear c4
   obtain rfl := Option.some.inj H
   go_enter Tryz.func90, Tryz.ntmps90
   go_wp2
   go_ret
   exact ⟨by first | rfl | (simp; done) | (simp [*]; done), by repeat (first | exact Drawn0.refl _ | apply Drawn0.step)⟩
  ·rw [if_neg c4] at H
   have c4b0 : decide (4194304 < a1) = false := decide_eq_false c4
   clear c4
   by_cases c5 : a0 < (-16384)
   ·rw [if_pos c5] at H
    have c5b0 : decide (a0 < (-16384)) = true := decide_eq_true c5
    clear c5
    obtain rfl := Option.some.inj H
    go_enter Tryz.func90, Tryz.ntmps90
    go_wp2
    go_ret
    exact ⟨by first | rfl | (simp; done) | (simp [*]; done), by repeat (first | exact Drawn0.refl _ | apply Drawn0.step)⟩
   ·rw [if_neg c5] at H
    have c5b0 : decide (a0 < (-16384)) = false := decide_eq_false c5
    clear c5
    by_cases c6 : a0 > 16384
    ·rw [if_pos c6] at H
     have c6b0 : decide (16384 < a0) = true := decide_eq_true c6
     clear c6
     obtain rfl := Option.some.inj H
     go_enter Tryz.func90, Tryz.ntmps90
     go_wp2
     go_ret
     exact ⟨by first | rfl | (simp; done) | (simp [*]; done), by repeat (first | exact Drawn0.refl _ | apply Drawn0.step)⟩
    ·rw [if_neg c6] at H
     have c6b0 : decide (16384 < a0) = false := decide_eq_false c6
     clear c6
     replace H := Option.bind_eq_some_iff.mp H
     obtain ⟨t206, A70, H⟩ := H
     replace H : (some t206) = some r := H
     have A7 := Aside0.mk A70
     clear A70
     obtain rfl := Option.some.inj H
     go_enter Tryz.func90, Tryz.ntmps90
     go_wp2_with (first | ((with_reducible refine gate_callee (f := 81) rfl ?_); refine goesL_ (some 26) rfl rfl Tryz.func81 (by kernel_rfl) rfl #[.int .i64 (wrap64 ((wrap64 (a0 * a0)) * 2147483648)), .int .i64 1099511627776, .int .i64 (wrap64 (a1 * a1))] rfl (by (try simp only [List.map_toArray, List.map_cons, List.map_nil]); first | done | rfl | (simp only [List.length_drop, List.length_take]; rfl)) ?_; (with_reducible refine (wide_MulDiv.calls k (wrap64 ((wrap64 (a0 * a0)) * 2147483648)) 1099511627776 (wrap64 (a1 * a1)) t206 _ A7.out).mono ?_); rintro e w' ⟨rfl, ⟨nd, rfl⟩⟩; refine ⟨_, rfl, ?_⟩))
     go_ret
     exact ⟨by first | rfl | (simp; done) | (simp [*]; done), by repeat (first | exact Drawn0.refl _ | apply Drawn0.step)⟩
def expo_Gauss.f (k : Nat) (a0 : Int) (a1 : Int) : Option (Int) := (expo_Ratio.f k a0 a1).bind fun t207 => ((expo_Exp.f k t207).bind fun t208 => ((fixed_Shift.f t208 10).bind fun t209 => (some t209)))
theorem expo_Gauss.mono : ∀ a0 a1 k, LeO (expo_Gauss.f k a0 a1) (expo_Gauss.f (k + 1) a0 a1) := by
 intro a0 a1 k
 unfold expo_Gauss.f
 repeat' first
   | (with_reducible exact expo_Exp.mono _ _)
   | (with_reducible exact expo_Ratio.mono _ _ _)
   | (with_reducible exact LeO.refl _)
   | (with_reducible exact LeO.none _)
   | (with_reducible refine LeO.ite ?_ ?_)
   | (with_reducible refine LeO.bind ?_ (fun _ => ?_))
   | exact expo_Exp.mono _ _
   | exact expo_Ratio.mono _ _ _
   | exact LeO.none _
   | refine LeO.ite ?_ ?_
   | refine LeO.bind ?_ (fun _ => ?_)
set_option maxHeartbeats 8000000 in
set_option maxRecDepth 100000 in
theorem expo_Gauss.calls (k : Nat) (a0 : Int) (a1 : Int) (r : Int) (w : World) (h : expo_Gauss.f k a0 a1 = some r) :
  Calls Tryz.prog 79 #[.int .i64 a0, .int .i64 a1] w fun e w' => e = .returned (.int .i64 r) ∧ Below w.heap.size w w' := by
 have HB := Aside0.mk (Below.refl w.heap.size w)
 have H : ((expo_Ratio.f k a0 a1).bind fun t207 => ((expo_Exp.f k t207).bind fun t208 => ((fixed_Shift.f t208 10).bind fun t209 => (some t209)))) = some r := h
 clear h
 replace H := Option.bind_eq_some_iff.mp H
 obtain ⟨t207, A30, H⟩ := H
 replace H : ((expo_Exp.f k t207).bind fun t208 => ((fixed_Shift.f t208 10).bind fun t209 => (some t209))) = some r := H
 have A3 := Aside0.mk A30
 clear A30
 replace H := Option.bind_eq_some_iff.mp H
 obtain ⟨t208, A40, H⟩ := H
 replace H : ((fixed_Shift.f t208 10).bind fun t209 => (some t209)) = some r := H
 have A4 := Aside0.mk A40
 clear A40
 replace H := Option.bind_eq_some_iff.mp H
 obtain ⟨t209, A50, H⟩ := H
 replace H : (some t209) = some r := H
 have A5 := Aside0.mk A50
 clear A50
 obtain rfl := Option.some.inj H
 go_enter Tryz.func79, Tryz.ntmps79
 go_wp2_with (first | ((with_reducible refine gate_callee (f := 90) rfl ?_); refine goesL_ (some 7) rfl rfl Tryz.func90 (by kernel_rfl) rfl #[.int .i64 a0, .int .i64 a1] rfl (by (try simp only [List.map_toArray, List.map_cons, List.map_nil]); first | done | rfl | (simp only [List.length_drop, List.length_take]; rfl)) ?_; (with_reducible refine (expo_Ratio.calls k a0 a1 t207 _ A3.out).mono ?_); rintro e w' ⟨rfl, ⟨nd, rfl⟩⟩; refine ⟨_, rfl, ?_⟩) | ((with_reducible refine gate_callee (f := 89) rfl ?_); refine goesL_ (some 8) rfl rfl Tryz.func89 (by kernel_rfl) rfl #[.int .i64 t207] rfl (by (try simp only [List.map_toArray, List.map_cons, List.map_nil]); first | done | rfl | (simp only [List.length_drop, List.length_take]; rfl)) ?_; (with_reducible refine (expo_Exp.calls k t207 t208 _ A4.out).mono ?_); rintro e w6 ⟨rfl, hb⟩; refine ⟨_, rfl, ?_⟩; have n0_ := Aside0.mk (below_step (by repeat (first | (with_reducible first | exact HB.out | apply below_alloc | apply pw_below_drewN | apply below_drew1) | exact HB.out)) hb); clear HB; have HB := n0_; clear n0_; (try clear hb); (try clear hb2); (try clear hk); (try clear hi)) | ((with_reducible refine gate_callee (f := 46) rfl ?_); refine goesL_ (some 9) rfl rfl Tryz.func46 (by kernel_rfl) rfl #[.int .i64 t208, .int .i64 10] rfl (by (try simp only [List.map_toArray, List.map_cons, List.map_nil]); first | done | rfl | (simp only [List.length_drop, List.length_take]; rfl)) ?_; (with_reducible refine (fixed_Shift.calls t208 10 t209 _ A5.out).mono ?_); rintro e w' ⟨rfl, ⟨nd, rfl⟩⟩; refine ⟨_, rfl, ?_⟩))
 go_ret
 exact ⟨by first | rfl | (simp [errW_none, errW_some] <;> rfl) | (simp [*, errW_none, errW_some] <;> rfl), by repeat (first | (with_reducible first | exact HB.out | apply below_alloc | apply pw_below_drewN | apply below_drew1) | exact HB.out)⟩
end Go.Proofs.YtbcoieboldgdaaaGreatDoor.QA

namespace Go.Proofs.YtbcoieboldgdaaaGreatDoor.QA
open Go.Proofs.YtbcoieboldgdaaaGreatDoor.T
open Go.RowKit Go.Proofs.YtbcoieboldgdaaaGreatDoorW.PrintWords Go.Proofs.YtbcoieboldgdaaaGreatDoorW.PrintLast Go.Proofs.YtbcoieboldgdaaaGreatDoorW.PrintMore
attribute [local go_sem] ext_call max2_int min2_int max_two min_two max_three min_three max_four min_four   -- for this text's walks alone
set_option linter.unusedVariables false
set_option linter.unusedSimpArgs false
mutual
def taps_Gaussian.j0 : Nat → Int → Bool → Option (List Int × Int)
 | 0, _, _ => none
 | k + 1, x0, x12 => if x12 = true then (some (([] : List Int), 7)) else (taps_Gaussian.l0 k x0 ((wrap64 ((wrap64 ((wrap64 (3 * x0)) + 65536)) - 1)) / 65536) ([] : List Int) (wrap64 (-((wrap64 ((wrap64 ((wrap64 (3 * x0)) + 65536)) - 1)) / 65536))))
def taps_Gaussian.l0 : Nat → Int → Int → List Int → Int → Option (List Int × Int)
 | 0, _, _, _, _ => none
 | k + 1, x0, x4, x5, x6 => if x6 ≤ x4 then ((expo_Gauss.f k x6 x0).bind fun t210 => (if x5.length < 17592186044416 then (taps_Gaussian.l0 k x0 x4 (x5 ++ [t210]) (wrap64 (x6 + 1))) else (none))) else (some (x5, 0))
end
def taps_Gaussian.f (k : Nat) (a0 : Int) : Option (List Int × Int) := if a0 < 1 then (taps_Gaussian.j0 k a0 true) else (taps_Gaussian.j0 k a0 (decide (a0 > 4194304)))
theorem taps_Gaussian.mono_l : ∀ k, (∀ y0 y1, LeO (taps_Gaussian.j0 k y0 y1) (taps_Gaussian.j0 (k + 1) y0 y1)) ∧ (∀ y0 y1 y2 y3, LeO (taps_Gaussian.l0 k y0 y1 y2 y3) (taps_Gaussian.l0 (k + 1) y0 y1 y2 y3))
 | 0 => ⟨fun _ _ r h => by simp [taps_Gaussian.j0] at h, fun _ _ _ _ r h => by simp [taps_Gaussian.l0] at h⟩
 | k + 1 => by
  obtain ⟨ih0, ih1⟩ := taps_Gaussian.mono_l k
  refine ⟨?_, ?_⟩
  ·intro y0 y1
   unfold taps_Gaussian.j0
   repeat' first
   | (with_reducible exact ih0 _ _)
   | (with_reducible exact ih1 _ _ _ _)
   | (with_reducible exact expo_Gauss.mono _ _ _)
   | (with_reducible exact LeO.refl _)
   | (with_reducible exact LeO.none _)
   | (with_reducible refine LeO.ite ?_ ?_)
   | (with_reducible refine LeO.bind ?_ (fun _ => ?_))
   | exact ih0 _ _
   | exact ih1 _ _ _ _
   | exact expo_Gauss.mono _ _ _
   | exact LeO.none _
   | refine LeO.ite ?_ ?_
   | refine LeO.bind ?_ (fun _ => ?_)
  ·intro y0 y1 y2 y3
   unfold taps_Gaussian.l0
   repeat' first
   | (with_reducible exact ih0 _ _)
   | (with_reducible exact ih1 _ _ _ _)
   | (with_reducible exact expo_Gauss.mono _ _ _)
   | (with_reducible exact LeO.refl _)
   | (with_reducible exact LeO.none _)
   | (with_reducible refine LeO.ite ?_ ?_)
   | (with_reducible refine LeO.bind ?_ (fun _ => ?_))
   | exact ih0 _ _
   | exact ih1 _ _ _ _
   | exact expo_Gauss.mono _ _ _
   | exact LeO.none _
   | refine LeO.ite ?_ ?_
   | refine LeO.bind ?_ (fun _ => ?_)
theorem taps_Gaussian.mono : ∀ a0 k, LeO (taps_Gaussian.f k a0) (taps_Gaussian.f (k + 1) a0) := by
 intro a0 k
 obtain ⟨ih0, ih1⟩ := taps_Gaussian.mono_l k
 unfold taps_Gaussian.f
 repeat' first
   | (with_reducible exact ih0 _ _)
   | (with_reducible exact ih1 _ _ _ _)
   | (with_reducible exact expo_Gauss.mono _ _ _)
   | (with_reducible exact LeO.refl _)
   | (with_reducible exact LeO.none _)
   | (with_reducible refine LeO.ite ?_ ?_)
   | (with_reducible refine LeO.bind ?_ (fun _ => ?_))
   | exact ih0 _ _
   | exact ih1 _ _ _ _
   | exact expo_Gauss.mono _ _ _
   | exact LeO.none _
   | refine LeO.ite ?_ ?_
   | refine LeO.bind ?_ (fun _ => ?_)
set_option maxHeartbeats 8000000 in
set_option maxRecDepth 100000 in
theorem taps_Gaussian.calls (k : Nat) (a0 : Int) (r1 : List Int) (r2 : Int) (w : World) (h : taps_Gaussian.f k a0 = some (r1, r2)) :
  Calls Tryz.prog 65 #[.int .i64 a0] w fun e w' => ∃ v0_ : Value, e = .returned (.tuple #[v0_, .int .i64 r2]) ∧ Kd.R (Kd.int .i64) 2 w' w.heap.size (fun _ => True) v0_ r1 ∧ Below w.heap.size w w' := by
 have HB := Aside0.mk (Below.refl w.heap.size w)
 have H : (if a0 < 1 then (taps_Gaussian.j0 k a0 true) else (taps_Gaussian.j0 k a0 (decide (a0 > 4194304)))) = some (r1, r2) := h
 clear h
 have HC2 := Aside0.mk H
 clear H
 go_enter Tryz.func65, Tryz.ntmps65
 go_upto_region 1 with (fail)
 go_cut [12] (fun v12 wc => ∃ (kq : Nat) (x12_1 : Bool), v12 = .bool x12_1 ∧ Aside0 (taps_Gaussian.j0 kq a0 x12_1 = some (r1, r2)) ∧ Aside0 (kq ≤ k) ∧ Aside0 (Below w.heap.size w wc))
 case first =>
  have H := HC2.out
  clear HC2
  by_cases c3 : a0 < 1
  ·rw [if_pos c3] at H
   have c3b0 : decide (a0 < 1) = true := decide_eq_true c3
   clear c3
   (first | rw [c3b0] | (simp only [i64_w, i32_w]; rw [c3b0]) | skip)
   have H' := Aside0.mk H
   clear H
   go_wp2
   go_meet
   case rel => exact ⟨_, (true), (by first | rfl | (simp; done) | (simp [*]; done)), H', ⟨by first | omega | exact Nat.le_refl _⟩, ⟨by repeat (first | (with_reducible first | exact HB.out | apply below_alloc | apply pw_below_drewN | apply below_drew1) | exact HB.out)⟩⟩
  ·rw [if_neg c3] at H
   have c3b0 : decide (a0 < 1) = false := decide_eq_false c3
   clear c3
   (first | rw [c3b0] | (simp only [i64_w, i32_w]; rw [c3b0]) | skip)
   have H' := Aside0.mk H
   clear H
   go_wp2
   go_meet
   case rel => exact ⟨_, (decide (a0 > 4194304)), (by first | rfl | (simp; done) | (simp [*]; done)), H', ⟨by first | omega | exact Nat.le_refl _⟩, ⟨by repeat (first | (with_reducible first | exact HB.out | apply below_alloc | apply pw_below_drewN | apply below_drew1) | exact HB.out)⟩⟩
 case rest =>
  clear HC2
  try clear p2
  try clear c3
  try clear c3b0
  obtain ⟨kq, x12_1, rfl, HA, HJ1, HB⟩ := hcut
  cases kq with
  | zero => exact absurd HA.out (by simp [taps_Gaussian.j0])
  | succ kj1 =>
   have H := HA.out
   clear HA
   simp only [taps_Gaussian.j0] at H
   by_cases c4 : x12_1 = true
   ·subst c4
    have H1 : (some (([] : List Int), 7)) = some (r1, r2) := by rw [if_pos rfl] at H; exact H
    clear H
    have H := H1
    clear H1
    simp only [Option.some.injEq, Prod.mk.injEq] at H
    obtain ⟨rfl, rfl⟩ := H
    go_wp2
    go_ret2
    exact ⟨_, by first | rfl | (simp [errW_none, errW_some] <;> rfl) | (simp [*, errW_none, errW_some] <;> rfl), by first | exact Kd.R_nil _ _ _ _ _ | exact Kd.N_nil _ _ _ _ _ | exact Kd.V_nil _ _ _ _ _ | exact Kd.Q_nil _ _ _ _ _ | exact Kd.S_nil _ _ _ _ _, by repeat (first | (with_reducible first | exact HB.out | apply below_alloc | apply pw_below_drewN | apply below_drew1) | exact HB.out)⟩
   ·replace c4 := Bool.eq_false_iff.mpr c4
    subst c4
    have H1 : (taps_Gaussian.l0 kj1 a0 ((wrap64 ((wrap64 ((wrap64 (3 * a0)) + 65536)) - 1)) / 65536) ([] : List Int) (wrap64 (-((wrap64 ((wrap64 ((wrap64 (3 * a0)) + 65536)) - 1)) / 65536)))) = some (r1, r2) := by rw [if_neg (show ¬ (false = true) by decide)] at H; exact H
    clear H
    have H := H1
    clear H1
    have H' := Aside0.mk H
    clear H
    go_wp2
    go_loopg [5, 6] kj1 (fun kq v5 v6 w' => ∃ (x5_2 : List Int) (x6_2 : Int), v6 = .int .i64 x6_2 ∧ Aside0 (taps_Gaussian.l0 kq a0 ((wrap64 ((wrap64 ((wrap64 (3 * a0)) + 65536)) - 1)) / 65536) x5_2 x6_2 = some (r1, r2)) ∧ Aside0 (kq ≤ kj1) ∧ Aside0 (Kd.R (Kd.int .i64) 2 w' w.heap.size (fun _ => True) v5 x5_2) ∧ Aside0 (Below w.heap.size w w'))
    case atStart => exact ⟨(([] : List Int)), (wrap64 (-((wrap64 ((wrap64 ((wrap64 (3 * a0)) + 65536)) - 1)) / 65536))), (by first | rfl | (simp; done) | (simp [*]; done)), H', ⟨Nat.le_refl _⟩, ⟨by first | exact Kd.R_nil _ _ _ _ _ | exact Kd.N_nil _ _ _ _ _ | exact Kd.V_nil _ _ _ _ _ | exact Kd.Q_nil _ _ _ _ _ | exact Kd.S_nil _ _ _ _ _⟩, ⟨by repeat (first | (with_reducible first | exact HB.out | apply below_alloc | apply pw_below_drewN | apply below_drew1) | exact HB.out)⟩⟩
    case round =>
     clear H'
     try clear p2
     try clear c3
     try clear c3b0
     try clear c4
     try clear p2
     obtain ⟨x5_2, x6_2, rfl, HA, HK2, HO_5, HB⟩ := hrel
     cases gk with
     | zero => exact absurd HA.out (by simp [taps_Gaussian.l0])
     | succ k2 =>
      have H := HA.out
      clear HA
      simp only [taps_Gaussian.l0] at H
      by_cases c5 : x6_2 ≤ ((wrap64 ((wrap64 ((wrap64 (3 * a0)) + 65536)) - 1)) / 65536)
      ·rw [if_pos c5] at H
       have c5b0 : decide (x6_2 ≤ ((wrap64 ((wrap64 ((wrap64 (3 * a0)) + 65536)) - 1)) / 65536)) = true := decide_eq_true c5
       clear c5
       replace H := Option.bind_eq_some_iff.mp H
       obtain ⟨t210, A60, H⟩ := H
       replace H : (if x5_2.length < 17592186044416 then (taps_Gaussian.l0 k2 a0 ((wrap64 ((wrap64 ((wrap64 (3 * a0)) + 65536)) - 1)) / 65536) (x5_2 ++ [t210]) (wrap64 (x6_2 + 1))) else (none)) = some (r1, r2) := H
       have A6 := Aside0.mk A60
       clear A60
       by_cases c7 : x5_2.length < 17592186044416
       ·rw [if_pos c7] at H
        have LMc7 := Aside0.mk c7
        clear c7
        obtain ⟨y211, hy211⟩ : ∃ y_ : List Int, y_ = (x5_2 ++ [t210]) := ⟨_, rfl⟩
        replace H : (taps_Gaussian.l0 k2 a0 ((wrap64 ((wrap64 ((wrap64 (3 * a0)) + 65536)) - 1)) / 65536) y211 (wrap64 (x6_2 + 1))) = some (r1, r2) := by first | (rw [hy211]; with_reducible exact H) | (have H2_ := (Option.bind_some _ _).symm.trans H; rw [hy211]; with_reducible exact H2_) | (have H2_ := (Option.bind_some _ _).symm.trans H; with_reducible exact H2_) | with_reducible exact H | (rw [hy211]; exact H) | exact H
        have Ny211 := Aside0.mk hy211
        clear hy211
        have H' := Aside0.mk H
        clear H
        go_wp2_with (first | ((with_reducible refine gate_callee (f := 79) rfl ?_); refine goesL_ (some 28) rfl rfl Tryz.func79 (by kernel_rfl) rfl #[.int .i64 x6_2, .int .i64 a0] rfl (by (try simp only [List.map_toArray, List.map_cons, List.map_nil]); first | done | rfl | (simp only [List.length_drop, List.length_take]; rfl)) ?_; (with_reducible refine (expo_Gauss.calls k2 x6_2 a0 t210 _ A6.out).mono ?_); rintro e w8 ⟨rfl, hb⟩; refine ⟨_, rfl, ?_⟩; have n0_ := Aside0.mk (Kd.R_below (by (with_reducible repeat (first | apply Kd.R_alloc | apply Kd.R_drewN | apply Kd.R_drew)); exact HO_5.out) hb); have n1_ := Aside0.mk (below_step (by repeat (first | (with_reducible first | exact HB.out | apply below_alloc | apply pw_below_drewN | apply below_drew1) | exact HB.out)) hb); clear HO_5; clear HB; have HO_5 := n0_; have HB := n1_; clear n0_ n1_; (try clear hb); (try clear hb2); (try clear hk); (try clear hi)) | ((with_reducible refine gate_builtin (b := .append) (xs := #[.tmp 25, .tmp 29]) rfl ?_); at_builtin; refine Kd.R_append (Kd.int .i64) (w0 := w) w.heap.size rfl (.tmp 25) (.tmp 29) 49 2 (.int .i64 0) 8 rfl Tryz.underlying49 info2 rfl (by decide) (by omega) u5 x5_2 t210 [.int .i64 t210] (fun _ => True) (fun _ => False) rfl rfl ?aP (fun _ hk => hk.elim) ?aF ?aO ?aB ?aS ?aL ?_; (case aP => exact rfl); (case aB => exact (by repeat (first | (with_reducible first | exact HB.out | apply below_alloc | apply pw_below_drewN | apply below_drew1) | exact HB.out))); (case aF => exact (fun _ _ => trivial)); (case aO => exact (by (with_reducible repeat (first | apply Kd.R_alloc | apply Kd.R_drewN | apply Kd.R_drew)); exact HO_5.out)); (case aS => exact (below_size (by repeat (first | (with_reducible first | exact HB.out | apply below_alloc | apply pw_below_drewN | apply below_drew1) | exact HB.out)))); (case aL => have := LMc7.out; omega); intro v212 w9 ho hb hg hat; rw [← Ny211.out] at ho; have n0_ := Aside0.mk (hb); have n1_ := Aside0.mk (ho); clear HB; clear HO_5; have HB := n0_; have HO213 := n1_; clear n0_ n1_; clear ho hb hg hat))
        go_roundg k2
        case measure => have := HJ1.out; have := HK2.out; omega
        case rel => exact ⟨(y211), (wrap64 (x6_2 + 1)), (by first | rfl | (simp; done) | (simp [*]; done)), H', ⟨by have := HJ1.out; have := HK2.out; omega⟩, ⟨by (with_reducible repeat (first | apply Kd.R_alloc | apply Kd.R_drewN | apply Kd.R_drew)); exact HO213.out⟩, ⟨by repeat (first | (with_reducible first | exact HB.out | apply below_alloc | apply pw_below_drewN | apply below_drew1) | exact HB.out)⟩⟩
       ·rw [if_neg c7] at H
        exact absurd H (by simp)
      ·rw [if_neg c5] at H
       have c5b0 : decide (x6_2 ≤ ((wrap64 ((wrap64 ((wrap64 (3 * a0)) + 65536)) - 1)) / 65536)) = false := decide_eq_false c5
       clear c5
       simp only [Option.some.injEq, Prod.mk.injEq] at H
       obtain ⟨rfl, rfl⟩ := H
       go_wp2
       go_ret2
       exact ⟨_, by first | rfl | (simp [errW_none, errW_some] <;> rfl) | (simp [*, errW_none, errW_some] <;> rfl), by (with_reducible repeat (first | apply Kd.R_alloc | apply Kd.R_drewN | apply Kd.R_drew)); exact HO_5.out, by repeat (first | (with_reducible first | exact HB.out | apply below_alloc | apply pw_below_drewN | apply below_drew1) | exact HB.out)⟩
end Go.Proofs.YtbcoieboldgdaaaGreatDoor.QA

namespace Go.Proofs.YtbcoieboldgdaaaGreatDoor.QA
open Go.Proofs.YtbcoieboldgdaaaGreatDoor.T
open Go.RowKit Go.Proofs.YtbcoieboldgdaaaGreatDoorW.PrintWords Go.Proofs.YtbcoieboldgdaaaGreatDoorW.PrintLast Go.Proofs.YtbcoieboldgdaaaGreatDoorW.PrintMore
attribute [local go_sem] ext_call max2_int min2_int max_two min_two max_three min_three max_four min_four   -- for this text's walks alone
set_option linter.unusedVariables false
set_option linter.unusedSimpArgs false
mutual
def taps_User.j0 : Nat → List Int → Int → Bool → Option (List Int × Int)
 | 0, _, _, _ => none
 | k + 1, x0, x4, x26 => if x26 = true then (some (([] : List Int), 7)) else (taps_User.l0 k x4 ([] : List Int) x0 (x0.length : Int) 0)
def taps_User.l0 : Nat → Int → List Int → List Int → Int → Int → Option (List Int × Int)
 | 0, _, _, _, _, _ => none
 | k + 1, x4, x5, x27, x28, x29 => if x29 < x28 then (if 0 ≤ x29 then (if x29 < (x27.length : Int) then ((wide_MulDiv.f k (rd x27 x29) 1073741824 x4).bind fun t216 => (if x5.length < 17592186044416 then (taps_User.l0 k x4 (x5 ++ [t216]) x27 x28 (wrap64 (x29 + 1))) else (none))) else (none)) else (none)) else (some (x5, 0))
end
def taps_User.f (k : Nat) (l0 : List Int) : Option (List Int × Int) := (taps_Size.f k l0).bind fun t214 => (if ((l0.length : Int) % 2) = 0 then (taps_User.j0 k l0 t214 true) else (if (l0.length : Int) > 1024 then (taps_User.j0 k l0 t214 true) else (if t214 < 1 then (taps_User.j0 k l0 t214 true) else (taps_User.j0 k l0 t214 (decide (t214 > 1048576))))))
set_option maxHeartbeats 8000000 in
set_option maxRecDepth 100000 in
theorem taps_User.calls (k : Nat) (A0 : Option Addr) (c0 : Nat) (l0 : List Int) (r1 : List Int) (r2 : Int) (w : World) (hr0 : Kd.C (Kd.int .i64) w A0 l0.length l0) (hc0 : l0.length ≤ c0) (h : taps_User.f k l0 = some (r1, r2)) :
  Calls Tryz.prog 67 #[.slice A0 l0.length c0] w fun e w' => ∃ v0_ : Value, e = .returned (.tuple #[v0_, .int .i64 r2]) ∧ Kd.R (Kd.int .i64) 2 w' w.heap.size (fun _ => True) v0_ r1 ∧ Below w.heap.size w w' := by
 have HR0 := Aside0.mk hr0
 have HC0 := Aside0.mk hc0
 clear hr0 hc0
 have HB := Aside0.mk (Below.refl w.heap.size w)
 have H : ((taps_Size.f k l0).bind fun t214 => (if ((l0.length : Int) % 2) = 0 then (taps_User.j0 k l0 t214 true) else (if (l0.length : Int) > 1024 then (taps_User.j0 k l0 t214 true) else (if t214 < 1 then (taps_User.j0 k l0 t214 true) else (taps_User.j0 k l0 t214 (decide (t214 > 1048576))))))) = some (r1, r2) := h
 clear h
 replace H := Option.bind_eq_some_iff.mp H
 obtain ⟨t214, A20, H⟩ := H
 replace H : (if ((l0.length : Int) % 2) = 0 then (taps_User.j0 k l0 t214 true) else (if (l0.length : Int) > 1024 then (taps_User.j0 k l0 t214 true) else (if t214 < 1 then (taps_User.j0 k l0 t214 true) else (taps_User.j0 k l0 t214 (decide (t214 > 1048576)))))) = some (r1, r2) := H
 have A2 := Aside0.mk A20
 clear A20
 have HC3 := Aside0.mk H
 clear H
 go_enter Tryz.func67, Tryz.ntmps67
 go_upto_region 2 with (first | ((with_reducible refine gate_callee (f := 63) rfl ?_); refine goesL_ (some 9) rfl rfl Tryz.func63 (by kernel_rfl) rfl #[.slice A0 l0.length c0] rfl (by (try simp only [List.map_toArray, List.map_cons, List.map_nil]); first | done | rfl | (simp only [List.length_drop, List.length_take]; rfl)) ?_; (with_reducible refine (taps_Size.calls k _ _ l0 t214 _ ?side1 ?side2 A2.out).mono ?_); (case side1 => repeat (first | exact HR0.out | (with_reducible refine Kd.C_alloc ?_ _) | (with_reducible refine Kd.C_drewN ?_ _) | (with_reducible refine Kd.C_drew ?_))); (case side2 => exact HC0.out); rintro e w4 ⟨rfl, hb⟩; refine ⟨_, rfl, ?_⟩; have n0_ := Aside0.mk (below_step (by repeat (first | (with_reducible first | exact HB.out | apply below_alloc | apply pw_below_drewN | apply below_drew1) | exact HB.out)) hb); clear HB; have HB := n0_; clear n0_; (try clear hb); (try clear hb2); (try clear hk); (try clear hi)))
 (try simp only [Act.put, List.setIfInBounds_toArray, List.set_cons_zero, List.set_cons_succ])
 go_cut [26] (fun v26 wc => ∃ (kq : Nat) (x26_2 : Bool), v26 = .bool x26_2 ∧ Aside0 (taps_User.j0 kq l0 t214 x26_2 = some (r1, r2)) ∧ Aside0 (kq ≤ k) ∧ Aside0 (Below w.heap.size w wc))
 case first =>
  have H := HC3.out
  clear HC3
  by_cases c5 : ((l0.length : Int) % 2) = 0
  ·rw [if_pos c5] at H
   have c5b0 : (((l0.length : Int) % 2) == 0) = true := beq_iff_eq.mpr c5
   have c5b1 : (((l0.length : Int) % 2) != 0) = false := bne_eq_false_iff_eq.mpr c5
   clear c5
   (first | rw [c5b0] | (simp only [i64_w, i32_w]; rw [c5b0]) | skip)
   have H' := Aside0.mk H
   clear H
   go_wp2
   go_meet
   case rel => exact ⟨_, (true), (by first | rfl | (simp; done) | (simp [*]; done)), H', ⟨by first | omega | exact Nat.le_refl _⟩, ⟨by repeat (first | (with_reducible first | exact HB.out | apply below_alloc | apply pw_below_drewN | apply below_drew1) | exact HB.out)⟩⟩
  ·rw [if_neg c5] at H
   have c5b0 : (((l0.length : Int) % 2) == 0) = false := beq_eq_false_iff_ne.mpr c5
   have c5b1 : (((l0.length : Int) % 2) != 0) = true := bne_iff_ne.mpr c5
   (first | rw [c5b0] | (simp only [i64_w, i32_w]; rw [c5b0]) | skip)
   by_cases c6 : (l0.length : Int) > 1024
   ·rw [if_pos c6] at H
    have c6b0 : decide (1024 < (l0.length : Int)) = true := decide_eq_true c6
    have c6b1 : decide (1024 < l0.length) = true := decide_eq_true (by omega)
    clear c6
    have H' := Aside0.mk H
    clear H
    go_wp2
    go_meet
    case rel => exact ⟨_, (true), (by first | rfl | (simp; done) | (simp [*]; done)), H', ⟨by first | omega | exact Nat.le_refl _⟩, ⟨by repeat (first | (with_reducible first | exact HB.out | apply below_alloc | apply pw_below_drewN | apply below_drew1) | exact HB.out)⟩⟩
   ·rw [if_neg c6] at H
    have c6b0 : decide (1024 < (l0.length : Int)) = false := decide_eq_false c6
    have c6b1 : decide (1024 < l0.length) = false := decide_eq_false (by omega)
    clear c6
    by_cases c7 : t214 < 1
    ·rw [if_pos c7] at H
     have c7b0 : decide (t214 < 1) = true := decide_eq_true c7
     clear c7
     have H' := Aside0.mk H
     clear H
     go_wp2
     go_meet
     case rel => exact ⟨_, (true), (by first | rfl | (simp; done) | (simp [*]; done)), H', ⟨by first | omega | exact Nat.le_refl _⟩, ⟨by repeat (first | (with_reducible first | exact HB.out | apply below_alloc | apply pw_below_drewN | apply below_drew1) | exact HB.out)⟩⟩
    ·rw [if_neg c7] at H
     have c7b0 : decide (t214 < 1) = false := decide_eq_false c7
     clear c7
     have H' := Aside0.mk H
     clear H
     go_wp2
     go_meet
     case rel => exact ⟨_, (decide (t214 > 1048576)), (by first | rfl | (simp; done) | (simp [*]; done)), H', ⟨by first | omega | exact Nat.le_refl _⟩, ⟨by repeat (first | (with_reducible first | exact HB.out | apply below_alloc | apply pw_below_drewN | apply below_drew1) | exact HB.out)⟩⟩
 case rest =>
  clear HC3
  try clear p2
  try clear c5
  try clear c5b0
  try clear c5b1
  try clear c6
  try clear c6b0
  try clear c6b1
  try clear c7
  try clear c7b0
  obtain ⟨kq, x26_2, rfl, HA, HJ2, HB⟩ := hcut
  cases kq with
  | zero => exact absurd HA.out (by simp [taps_User.j0])
  | succ kj2 =>
   have H := HA.out
   clear HA
   simp only [taps_User.j0] at H
   by_cases c8 : x26_2 = true
   ·subst c8
    have H1 : (some (([] : List Int), 7)) = some (r1, r2) := by rw [if_pos rfl] at H; exact H
    clear H
    have H := H1
    clear H1
    simp only [Option.some.injEq, Prod.mk.injEq] at H
    obtain ⟨rfl, rfl⟩ := H
    go_wp2
    go_ret2
    exact ⟨_, by first | rfl | (simp [errW_none, errW_some] <;> rfl) | (simp [*, errW_none, errW_some] <;> rfl), by first | exact Kd.R_nil _ _ _ _ _ | exact Kd.N_nil _ _ _ _ _ | exact Kd.V_nil _ _ _ _ _ | exact Kd.Q_nil _ _ _ _ _ | exact Kd.S_nil _ _ _ _ _, by repeat (first | (with_reducible first | exact HB.out | apply below_alloc | apply pw_below_drewN | apply below_drew1) | exact HB.out)⟩
   ·replace c8 := Bool.eq_false_iff.mpr c8
    subst c8
    have H1 : (taps_User.l0 kj2 t214 ([] : List Int) l0 (l0.length : Int) 0) = some (r1, r2) := by rw [if_neg (show ¬ (false = true) by decide)] at H; exact H
    clear H
    have H := H1
    clear H1
    have H' := Aside0.mk H
    clear H
    go_wp2
    go_loopg [5, 29] kj2 (fun kq v5 v29 w' => ∃ (x5_2 : List Int) (x29_2 : Int), v29 = .int .i64 x29_2 ∧ Aside0 (taps_User.l0 kq t214 x5_2 l0 (l0.length : Int) x29_2 = some (r1, r2)) ∧ Aside0 (kq ≤ kj2) ∧ Aside0 (Kd.R (Kd.int .i64) 2 w' w.heap.size (fun _ => True) v5 x5_2) ∧ Aside0 (Below w.heap.size w w'))
    case atStart => exact ⟨(([] : List Int)), (0), (by first | rfl | (simp; done) | (simp [*]; done)), H', ⟨Nat.le_refl _⟩, ⟨by first | exact Kd.R_nil _ _ _ _ _ | exact Kd.N_nil _ _ _ _ _ | exact Kd.V_nil _ _ _ _ _ | exact Kd.Q_nil _ _ _ _ _ | exact Kd.S_nil _ _ _ _ _⟩, ⟨by repeat (first | (with_reducible first | exact HB.out | apply below_alloc | apply pw_below_drewN | apply below_drew1) | exact HB.out)⟩⟩
    case round =>
     clear H'
     try clear p2
     try clear c5
     try clear c5b0
     try clear c5b1
     try clear c6
     try clear c6b0
     try clear c6b1
     try clear c7
     try clear c7b0
     try clear c8
     try clear p2
     obtain ⟨x5_2, x29_2, rfl, HA, HK2, HO_5, HB⟩ := hrel
     cases gk with
     | zero => exact absurd HA.out (by simp [taps_User.l0])
     | succ k2 =>
      have H := HA.out
      clear HA
      simp only [taps_User.l0] at H
      by_cases c9 : x29_2 < (l0.length : Int)
      ·rw [if_pos c9] at H
       have c9b0 : decide (x29_2 < (l0.length : Int)) = true := decide_eq_true c9
       clear c9
       by_cases c10 : 0 ≤ x29_2
       ·rw [if_pos c10] at H
        have c10b0 : decide (0 ≤ x29_2) = true := decide_eq_true c10
        clear c10
        by_cases c11 : x29_2 < (l0.length : Int)
        ·rw [if_pos c11] at H
         have c11b0 : decide (x29_2 < (l0.length : Int)) = true := decide_eq_true c11
         clear c11
         replace H := Option.bind_eq_some_iff.mp H
         obtain ⟨t216, A120, H⟩ := H
         replace H : (if x5_2.length < 17592186044416 then (taps_User.l0 k2 t214 (x5_2 ++ [t216]) l0 (l0.length : Int) (wrap64 (x29_2 + 1))) else (none)) = some (r1, r2) := H
         have A12 := Aside0.mk A120
         clear A120
         by_cases c13 : x5_2.length < 17592186044416
         ·rw [if_pos c13] at H
          have LMc13 := Aside0.mk c13
          clear c13
          obtain ⟨y217, hy217⟩ : ∃ y_ : List Int, y_ = (x5_2 ++ [t216]) := ⟨_, rfl⟩
          replace H : (taps_User.l0 k2 t214 y217 l0 (l0.length : Int) (wrap64 (x29_2 + 1))) = some (r1, r2) := by first | (rw [hy217]; with_reducible exact H) | (have H2_ := (Option.bind_some _ _).symm.trans H; rw [hy217]; with_reducible exact H2_) | (have H2_ := (Option.bind_some _ _).symm.trans H; with_reducible exact H2_) | with_reducible exact H | (rw [hy217]; exact H) | exact H
          have Ny217 := Aside0.mk hy217
          clear hy217
          have H' := Aside0.mk H
          clear H
          have p215 : 0 ≤ (x29_2 : Int) := of_decide_eq_true (by first | (with_reducible assumption) | assumption)
          have q215 : x29_2 < (l0.length : Int) := of_decide_eq_true (by first | (with_reducible assumption) | assumption)
          obtain ⟨ad215, e215, hx215_0⟩ := Kd.at_int HR0.out x29_2 p215 q215
          cases e215
          replace hx215_0 := (HB.out.cell (World.block_lt_of_cell? w _ hx215_0)).trans hx215_0
          replace p215 := eq_true p215
          replace q215 := eq_true q215
          go_wp2_with (first | ((with_reducible refine gate_callee (f := 81) rfl ?_); refine goesL_ (some 36) rfl rfl Tryz.func81 (by kernel_rfl) rfl #[.int .i64 (rd l0 x29_2), .int .i64 1073741824, .int .i64 t214] rfl (by (try simp only [List.map_toArray, List.map_cons, List.map_nil]); first | done | rfl | (simp only [List.length_drop, List.length_take]; rfl)) ?_; (with_reducible refine (wide_MulDiv.calls k2 (rd l0 x29_2) 1073741824 t214 t216 _ A12.out).mono ?_); rintro e w' ⟨rfl, ⟨nd, rfl⟩⟩; refine ⟨_, rfl, ?_⟩) | ((with_reducible refine gate_builtin (b := .append) (xs := #[.tmp 33, .tmp 37]) rfl ?_); (try (refine gate_guard (by rfl) ?_; dsimp only)); at_builtin; refine Kd.R_append (Kd.int .i64) (w0 := w) w.heap.size rfl (.tmp 33) (.tmp 37) 49 2 (.int .i64 0) 8 rfl Tryz.underlying49 info2 rfl (by decide) (by omega) u5 x5_2 t216 [.int .i64 t216] (fun _ => True) (fun _ => False) rfl rfl ?aP (fun _ hk => hk.elim) ?aF ?aO ?aB ?aS ?aL ?_; (case aP => exact rfl); (case aB => exact (by repeat (first | (with_reducible first | exact HB.out | apply below_alloc | apply pw_below_drewN | apply below_drew1) | exact HB.out))); (case aF => exact (fun _ _ => trivial)); (case aO => exact (by (with_reducible repeat (first | apply Kd.R_alloc | apply Kd.R_drewN | apply Kd.R_drew)); exact HO_5.out)); (case aS => exact (below_size (by repeat (first | (with_reducible first | exact HB.out | apply below_alloc | apply pw_below_drewN | apply below_drew1) | exact HB.out)))); (case aL => have := LMc13.out; omega); intro v218 w14 ho hb hg hat; rw [← Ny217.out] at ho; have n0_ := Aside0.mk (hb); have n1_ := Aside0.mk (ho); clear HB; clear HO_5; have HB := n0_; have HO219 := n1_; clear n0_ n1_; clear ho hb hg hat))
          go_roundg k2
          case measure => have := HJ2.out; have := HK2.out; omega
          case rel => exact ⟨(y217), (wrap64 (x29_2 + 1)), (by first | rfl | (simp; done) | (simp [*]; done)), H', ⟨by have := HJ2.out; have := HK2.out; omega⟩, ⟨by (with_reducible repeat (first | apply Kd.R_alloc | apply Kd.R_drewN | apply Kd.R_drew)); exact HO219.out⟩, ⟨by repeat (first | (with_reducible first | exact HB.out | apply below_alloc | apply pw_below_drewN | apply below_drew1) | exact HB.out)⟩⟩
         ·rw [if_neg c13] at H
          exact absurd H (by simp)
        ·rw [if_neg c11] at H
         exact absurd H (by simp)
       ·rw [if_neg c10] at H
        exact absurd H (by simp)
      ·rw [if_neg c9] at H
       have c9b0 : decide (x29_2 < (l0.length : Int)) = false := decide_eq_false c9
       clear c9
       simp only [Option.some.injEq, Prod.mk.injEq] at H
       obtain ⟨rfl, rfl⟩ := H
       go_wp2
       go_ret2
       exact ⟨_, by first | rfl | (simp [errW_none, errW_some] <;> rfl) | (simp [*, errW_none, errW_some] <;> rfl), by (with_reducible repeat (first | apply Kd.R_alloc | apply Kd.R_drewN | apply Kd.R_drew)); exact HO_5.out, by repeat (first | (with_reducible first | exact HB.out | apply below_alloc | apply pw_below_drewN | apply below_drew1) | exact HB.out)⟩
end Go.Proofs.YtbcoieboldgdaaaGreatDoor.QA

namespace Go.Proofs.YtbcoieboldgdaaaGreatDoor.T
open Go.RowKit Go.Proofs.YtbcoieboldgdaaaGreatDoorW.PrintWords Go.Proofs.YtbcoieboldgdaaaGreatDoorW.PrintLast Go.Proofs.YtbcoieboldgdaaaGreatDoorW.PrintMore
theorem u64w (n : Int) : IntKind.u64.wrap n = n % 18446744073709551616 := by simp [IntKind.wrap, IntKind.bits, IntKind.signed]
theorem i64w (n : Int) : IntKind.i64.wrap n = wrap64 n := by rw [IntKind.wrap_i64]; unfold wrap64; omega
theorem wf64 {x : Int} (h : (Lit.int .i64 x).wf = true) : -9223372036854775808 ≤ x ∧ x ≤ 9223372036854775807 := by
  simp [Lit.wf, IntKind.min, IntKind.max, IntKind.bits, IntKind.signed] at h; exact h
theorem wfu8 {x : Int} (h : (Lit.int .u8 x).wf = true) : 0 ≤ x ∧ x ≤ 255 := by
  simp [Lit.wf, IntKind.min, IntKind.max, IntKind.bits, IntKind.signed] at h; exact h
theorem wfu16 {x : Int} (h : (Lit.int .u16 x).wf = true) : 0 ≤ x ∧ x ≤ 65535 := by
  simp [Lit.wf, IntKind.min, IntKind.max, IntKind.bits, IntKind.signed] at h; exact h
theorem w64_id {x : Int} (h0 : -9223372036854775808 ≤ x) (h1 : x ≤ 9223372036854775807) : wrap64 x = x := by unfold wrap64; omega
/-- Masks of low bits, of any sign. -/
theorem and_mask (k : IntKind) (x : Int) (i : Nat) (hi : i ≤ k.bits) (hw : k.wrap (x % 2 ^ i) = x % 2 ^ i) : bits .and k x (2 ^ i - 1) = x % 2 ^ i := by
  have hc : ((2 : Int) ^ i - 1) = ((2 ^ i - 1 : Nat) : Int) := by
    rw [Int.natCast_sub (Nat.two_pow_pos i)]; simp
  have h1 : (BitVec.ofInt k.bits (2 ^ i - 1)).toNat = 2 ^ i - 1 := by
    rw [hc, BitVec.ofInt_natCast, BitVec.toNat_ofNat, Nat.mod_eq_of_lt]
    exact Nat.lt_of_lt_of_le (Nat.sub_lt (Nat.two_pow_pos i) (by decide)) (Nat.pow_le_pow_right (by decide) hi)
  have h2 : (((BitVec.ofInt k.bits x).toNat : Nat) : Int) = x % 2 ^ k.bits := by
    rw [BitVec.toNat_ofInt, Int.toNat_of_nonneg (Int.emod_nonneg _ (by have := Nat.two_pow_pos k.bits; omega))]
    simp
  have h3 : ((((BitVec.ofInt k.bits x) &&& (BitVec.ofInt k.bits (2 ^ i - 1))).toNat : Nat) : Int) = x % 2 ^ i := by
    rw [BitVec.toNat_and, h1, Nat.and_two_pow_sub_one_eq_mod]
    rw [Int.natCast_emod, h2]
    simp only [Int.natCast_pow, Int.cast_ofNat_Int]
    exact Int.emod_emod_of_dvd x ⟨2 ^ (k.bits - i), by rw [← Int.pow_add]; congr 1; omega⟩
  simp only [bits]
  rw [h3, hw]
theorem u64and1 (x : Int) : bits .and .u64 x 1 = x % 2 := by
  have := and_mask .u64 x 1 (by decide) (by rw [u64w]; omega)
  simpa using this
theorem i64and1 (x : Int) : bits .and .i64 x 1 = x % 2 := by
  have := and_mask .i64 x 1 (by decide) (by rw [i64w]; unfold wrap64; omega)
  simpa using this
theorem u64and32 (x : Int) : bits .and .u64 x 4294967295 = x % 4294967296 := by
  have := and_mask .u64 x 32 (by decide) (by rw [u64w]; omega)
  simpa using this
/-- Held within 64 bits. -/
def hold (m : Int) : Int := if m < -9223372036854775808 then -9223372036854775808 else if m > 9223372036854775807 then 9223372036854775807 else m
theorem hold_ge (m : Int) : -9223372036854775808 ≤ hold m := by unfold hold; split <;> (try split) <;> omega
theorem hold_le (m : Int) : hold m ≤ 9223372036854775807 := by unfold hold; split <;> (try split) <;> omega
theorem hold_id {m : Int} (h0 : -9223372036854775808 ≤ m) (h1 : m ≤ 9223372036854775807) : hold m = m := by unfold hold; rw [if_neg (by omega), if_neg (by omega)]
/-- The quotient downwards, of any signs. -/
def flo (a b : Int) : Int := if 0 < b then a / b else (-a) / (-b)
/-- The nearest number to a quotient; of two the greater one. -/
def rdiv (a b : Int) : Int := if 0 < b then (2 * a + b) / (2 * b) else (2 * (-a) + (-b)) / (2 * (-b))
/-- Without sign. -/
def siz (x : Int) : Int := if x < 0 then -x else x
/-- Rounded, without sign: the half goes up (of a number that isn't below), or down (of one that is). -/
theorem near_up {p d : Int} (_hp : 0 ≤ p) (hd : 0 < d) : (2 * p + d) / (2 * d) = if p % d ≥ d - p % d then p / d + 1 else p / d := by
  have e := Int.mul_ediv_add_emod p d
  have r0 := Int.emod_nonneg p (Int.ne_of_gt hd)
  have r1 := Int.emod_lt_of_pos p hd
  have e2 : 2 * p + d = (2 * d) * (p / d) + (2 * (p % d) + d) := by rw [Int.mul_assoc]; omega
  rw [e2, Int.add_comm, Int.add_mul_ediv_left _ _ (by omega)]
  split
  · have : (2 * (p % d) + d) / (2 * d) = 1 := by
      rw [show 2 * (p % d) + d = (2 * (p % d) - d) + (2 * d) * 1 from by omega, Int.add_mul_ediv_left _ _ (by omega), Int.ediv_eq_zero_of_lt (by omega) (by omega)]; omega
    omega
  · have : (2 * (p % d) + d) / (2 * d) = 0 := Int.ediv_eq_zero_of_lt (by omega) (by omega)
    omega
theorem near_dn {p d : Int} (_hp : 0 ≤ p) (hd : 0 < d) : (2 * (-p) + d) / (2 * d) = if p % d > d - p % d then -(p / d + 1) else -(p / d) := by
  have e := Int.mul_ediv_add_emod p d
  have r0 := Int.emod_nonneg p (Int.ne_of_gt hd)
  have r1 := Int.emod_lt_of_pos p hd
  have e2 : 2 * (-p) + d = (2 * d) * (-(p / d)) + (d - 2 * (p % d)) := by rw [Int.mul_assoc, Int.mul_neg, Int.mul_neg]; omega
  rw [e2, Int.add_comm, Int.add_mul_ediv_left _ _ (by omega)]
  split
  · have : (d - 2 * (p % d)) / (2 * d) = -1 := by
      rw [show d - 2 * (p % d) = (3 * d - 2 * (p % d)) + (2 * d) * (-1) from by omega, Int.add_mul_ediv_left _ _ (by omega), Int.ediv_eq_zero_of_lt (by omega) (by omega)]; omega
    omega
  · have : (d - 2 * (p % d)) / (2 * d) = 0 := Int.ediv_eq_zero_of_lt (by omega) (by omega)
    omega
/-- A product's or a number's sign. -/
def sgn (below : Bool) (m : Int) : Int := if below = true then -m else m
theorem sgn_siz2 (a b : Int) : sgn ((decide (a < 0)) != (decide (b < 0))) (siz a * siz b) = a * b := by
  unfold sgn siz
  by_cases h : a < 0 <;> by_cases k : b < 0 <;> simp [h, k, Int.neg_mul, Int.mul_neg]
theorem sgn_siz (a : Int) : sgn (decide (a < 0)) (siz a) = a := by
  unfold sgn siz
  by_cases h : a < 0 <;> simp [h]
theorem sgn_xor (x : Bool) (d p : Int) (_hd : d ≠ 0) : rdiv (sgn (x != decide (d < 0)) p) (siz d) = rdiv (sgn x p) d := by
  unfold sgn siz rdiv
  by_cases k : d < 0
  · rw [if_pos k]
    rw [if_pos (show 0 < -d from by omega), if_neg (show ¬ 0 < d from by omega)]
    cases x <;> simp [k]
  · simp [k]
theorem flo_xor (x : Bool) (d p : Int) (_hd : d ≠ 0) : flo (sgn (x != decide (d < 0)) p) (siz d) = flo (sgn x p) d := by
  unfold sgn siz flo
  by_cases k : d < 0
  · rw [if_pos k]
    rw [if_pos (show 0 < -d from by omega), if_neg (show ¬ 0 < d from by omega)]
    cases x <;> simp [k]
  · simp [k]
theorem rdiv_sgn (below : Bool) {p d : Int} (hp : 0 ≤ p) (hd : 0 < d) :
    rdiv (sgn below p) d = sgn below (if below = true then (if p % d > d - p % d then p / d + 1 else p / d) else (if p % d ≥ d - p % d then p / d + 1 else p / d)) := by
  unfold rdiv sgn
  rw [if_pos hd]
  cases below
  · simp only [Bool.false_eq_true, if_false]; exact near_up hp hd
  · simp only [if_true]; rw [near_dn hp hd]; split <;> rfl
theorem neg_ediv {p d : Int} (hd : 0 < d) : (-p) / d = if p % d = 0 then -(p / d) else -(p / d + 1) := by
  have e := Int.mul_ediv_add_emod p d
  have r0 := Int.emod_nonneg p (Int.ne_of_gt hd)
  have r1 := Int.emod_lt_of_pos p hd
  rw [show -p = -(p % d) + d * (-(p / d)) from by rw [Int.mul_neg]; omega, Int.add_mul_ediv_left _ _ (by omega)]
  split
  · rename_i h; rw [h]; simp
  · have : (-(p % d)) / d = -1 := by
      rw [show -(p % d) = (d - p % d) + d * (-1) from by omega, Int.add_mul_ediv_left _ _ (by omega), Int.ediv_eq_zero_of_lt (by omega) (by omega)]; omega
    omega
theorem flo_sgn (below : Bool) {p d : Int} (hd : 0 < d) :
    flo (sgn below p) d = sgn below (if below = true ∧ p % d ≠ 0 then p / d + 1 else p / d) := by
  unfold flo sgn
  rw [if_pos hd]
  cases below
  · simp
  · simp only [if_true, true_and]; rw [neg_ediv hd]; by_cases h : p % d = 0 <;> simp [h]
/-- Within 64 bits; without sign. -/
abbrev I64 (x : Int) : Prop := -9223372036854775808 ≤ x ∧ x ≤ 9223372036854775807
abbrev U64 (x : Int) : Prop := 0 ≤ x ∧ x < 18446744073709551616
theorem siz_u {a : Int} (h : I64 a) : 0 ≤ siz a ∧ siz a ≤ 9223372036854775808 := by unfold siz; split <;> omega
theorem siz_zero {a : Int} : siz a = 0 ↔ a = 0 := by unfold siz; split <;> omega
theorem hold_i (m : Int) : I64 (hold m) := ⟨hold_ge m, hold_le m⟩
theorem tmod_pos (a : Int) {b : Int} (hb : 0 < b) : a.tmod b = if 0 ≤ a ∨ a % b = 0 then a % b else a % b - b := by
  have e := Int.tmod_eq_emod (a := a) (b := b)
  have hdv := Int.dvd_iff_emod_eq_zero (a := b) (b := a)
  rw [e]
  simp only [hdv]
  split
  · simp
  · rw [Int.natAbs_of_nonneg (by omega)]
/-- What is left. -/
def md (a b : Int) : Int := if b = 0 then 0 else if 0 < b then a % b else -((-a) % (-b))
/-- By bits, rounded. -/
def sh (x n : Int) : Int := if n ≤ 0 then x else rdiv x (2 ^ n.toNat)
theorem pow_pos (n : Nat) : (0 : Int) < 2 ^ n := Int.pow_pos (by decide)
theorem pow_succ2 (n : Nat) : (2 : Int) ^ (n + 1) = 2 * 2 ^ n := by rw [Int.pow_succ, Int.mul_comm]
theorem pow_le {m n : Nat} (h : m ≤ n) : (2 : Int) ^ m ≤ 2 ^ n := by
  obtain ⟨d, rfl⟩ := Nat.exists_eq_add_of_le h
  rw [Int.pow_add]
  have h1 := pow_pos m
  have h2 := pow_pos d
  calc (2 : Int) ^ m = 2 ^ m * 1 := by rw [Int.mul_one]
    _ ≤ 2 ^ m * 2 ^ d := Int.mul_le_mul_of_nonneg_left (by omega) (by omega)
/-- Rounded by a power of two: the part below and its highest bit. -/
theorem rdiv_pow (x : Int) (n : Nat) (hn : 1 ≤ n) : rdiv x (2 ^ n) = x / 2 ^ n + x / 2 ^ (n - 1) % 2 := by
  obtain ⟨m, rfl⟩ : ∃ m, n = m + 1 := ⟨n - 1, by omega⟩
  rw [Nat.add_sub_cancel]
  have hp := pow_pos m
  unfold rdiv
  rw [if_pos (pow_pos _), pow_succ2]
  have e1 : (2 * x + 2 * 2 ^ m) / (2 * (2 * 2 ^ m)) = (x + 2 ^ m) / (2 * 2 ^ m) := by
    rw [← Int.mul_add]; exact Int.mul_ediv_mul_of_pos _ _ (by omega)
  have e2 : (x + 2 ^ m) / (2 * 2 ^ m) = (x / 2 ^ m + 1) / 2 := by
    rw [Int.mul_comm, ← Int.ediv_ediv_of_nonneg (by omega)]
    congr 1
    have := Int.add_mul_ediv_right x 1 (show (2 : Int) ^ m ≠ 0 from by omega)
    rw [Int.one_mul] at this; exact this
  have e3 : x / (2 * 2 ^ m) = x / 2 ^ m / 2 := by rw [Int.mul_comm, ← Int.ediv_ediv_of_nonneg (by omega)]
  rw [e1, e2, e3]
  omega
theorem rdiv_far {x d : Int} (hd : 18446744073709551616 ≤ d) (hx : I64 x) : rdiv x d = 0 := by
  unfold rdiv
  rw [if_pos (by omega)]
  exact Int.ediv_eq_zero_of_lt (by omega) (by omega)
theorem rdiv_one (x : Int) : rdiv x 1 = x := by unfold rdiv; rw [if_pos (by decide)]; omega
theorem div_unique {a d q r : Int} (h : q * d + r = a) (h0 : 0 ≤ r) (h1 : r < d) : a / d = q ∧ a % d = r := by
  subst h
  constructor
  · rw [Int.add_comm, Int.add_mul_ediv_right _ _ (by omega), Int.ediv_eq_zero_of_lt h0 h1]; omega
  · rw [Int.add_comm, Int.add_mul_emod_self_right, Int.emod_eq_of_lt h0 h1]
theorem half_pow (a : Int) (n : Nat) : a / 2 ^ n = 2 * (a / 2 ^ (n + 1)) + a / 2 ^ n % 2 := by
  have e : a / 2 ^ (n + 1) = a / 2 ^ n / 2 := by rw [pow_succ2, Int.mul_comm, ← Int.ediv_ediv_of_nonneg (by have := pow_pos n; omega)]
  rw [e]; omega
theorem sh_range {x n : Int} (hx : I64 x) : I64 (sh x n) := by
  unfold sh
  split
  · exact hx
  · by_cases h : 64 ≤ n
    · rw [rdiv_far (x := x) _ hx]
      · constructor <;> omega
      · calc (18446744073709551616 : Int) = 2 ^ 64 := by decide
          _ ≤ 2 ^ n.toNat := pow_le (by omega)
    · rw [rdiv_pow x n.toNat (by omega)]
      have hp := pow_pos n.toNat
      have h2 : (2 : Int) ≤ 2 ^ n.toNat := by
        calc (2 : Int) = 2 ^ 1 := by decide
          _ ≤ 2 ^ n.toNat := pow_le (by omega)
      have a : -9223372036854775808 ≤ x / 2 ^ n.toNat := by
        rw [Int.le_ediv_iff_mul_le hp]
        have : -9223372036854775808 * 2 ^ n.toNat ≤ -9223372036854775808 * 1 := Int.mul_le_mul_of_nonpos_left (by decide) (by omega)
        omega
      have b : x / 2 ^ n.toNat < 4611686018427387904 := by
        rw [Int.ediv_lt_iff_lt_mul hp]
        calc x < 4611686018427387904 * 2 := by omega
          _ ≤ 4611686018427387904 * 2 ^ n.toNat := Int.mul_le_mul_of_nonneg_left h2 (by decide)
      constructor <;> omega
end Go.Proofs.YtbcoieboldgdaaaGreatDoor.T
