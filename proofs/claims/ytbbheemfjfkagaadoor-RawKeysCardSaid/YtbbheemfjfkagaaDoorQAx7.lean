-- Written by wip/tools/pp.py over the kit's print.py; not trusted: Lean checks it.
import Derived.Test.YtbbheemfjfkagaaDoorQAx0
import Derived.Test.YtbbheemfjfkagaaDoorQAx3
import Derived.Test.YtbbheemfjfkagaaDoorQAx5
import Derived.Test.YtbbheemfjfkagaaDoorQAx6
namespace Go.Proofs.YtbbheemfjfkagaaDoor.QA
open Go.Proofs.YtbbheemfjfkagaaDoor.T
open Go.RowKit Go.Proofs.YtbbheemfjfkagaaDoorW.PrintWords Go.Proofs.YtbbheemfjfkagaaDoorW.PrintLast Go.Proofs.YtbbheemfjfkagaaDoorW.PrintMore
attribute [local go_sem] ext_call max2_int min2_int max_two min_two max_three min_three max_four min_four   -- for this text's walks alone
set_option linter.unusedVariables false
set_option linter.unusedSimpArgs false

/-! ### sinc_series: function 40 -/
def sinc_series.l0 : Nat → Int → Int → Int → Int → Int → Option (Int)
 | 0, _, _, _, _, _ => none
 | k + 1, x5, x6, x7, x8, x9 => if x9 ≤ 30 then ((wide_MulDiv.f k x7 x5 (wrap64 ((wrap64 ((wrap64 (2 * x9)) * (wrap64 ((wrap64 (2 * x9)) + 1)))) * 1099511627776))).bind fun t150 => (sinc_series.l0 k x5 (wrap64 (x6 + (wrap64 ((wrap64 (-x8)) * t150)))) t150 (wrap64 (-x8)) (wrap64 (x9 + 1)))) else (some x6)
def sinc_series.f (k : Nat) (a0 : Int) (a1 : Int) : Option (Int) := (sinc_size.f a0).bind fun t147 => ((wide_MulDiv.f k 10851744800547 t147 a1).bind fun t148 => ((wide_MulDiv.f k t148 t147 a1).bind fun t149 => (sinc_series.l0 k t149 1099511627776 1099511627776 1 1)))
theorem sinc_series.mono_l : ∀ k, (∀ y0 y1 y2 y3 y4, LeO (sinc_series.l0 k y0 y1 y2 y3 y4) (sinc_series.l0 (k + 1) y0 y1 y2 y3 y4))
 | 0 => fun _ _ _ _ _ r h => by simp [sinc_series.l0] at h
 | k + 1 => by
  have ih0 := sinc_series.mono_l k
  ·intro y0 y1 y2 y3 y4
   unfold sinc_series.l0
   repeat' first
   | (with_reducible exact ih0 _ _ _ _ _)
   | (with_reducible exact wide_MulDiv.mono _ _ _ _)
   | (with_reducible exact LeO.refl _)
   | (with_reducible exact LeO.none _)
   | (with_reducible refine LeO.ite ?_ ?_)
   | (with_reducible refine LeO.bind ?_ (fun _ => ?_))
   | exact ih0 _ _ _ _ _
   | exact wide_MulDiv.mono _ _ _ _
   | exact LeO.none _
   | refine LeO.ite ?_ ?_
   | refine LeO.bind ?_ (fun _ => ?_)
theorem sinc_series.mono : ∀ a0 a1 k, LeO (sinc_series.f k a0 a1) (sinc_series.f (k + 1) a0 a1) := by
 intro a0 a1 k
 have ih0 := sinc_series.mono_l k
 unfold sinc_series.f
 repeat' first
   | (with_reducible exact ih0 _ _ _ _ _)
   | (with_reducible exact wide_MulDiv.mono _ _ _ _)
   | (with_reducible exact LeO.refl _)
   | (with_reducible exact LeO.none _)
   | (with_reducible refine LeO.ite ?_ ?_)
   | (with_reducible refine LeO.bind ?_ (fun _ => ?_))
   | exact ih0 _ _ _ _ _
   | exact wide_MulDiv.mono _ _ _ _
   | exact LeO.none _
   | refine LeO.ite ?_ ?_
   | refine LeO.bind ?_ (fun _ => ?_)
set_option maxHeartbeats 8000000 in
set_option maxRecDepth 100000 in
theorem sinc_series.calls (k : Nat) (a0 : Int) (a1 : Int) (r : Int) (w : World) (h : sinc_series.f k a0 a1 = some r) :
  Calls Tryd.prog 40 #[.int .i64 a0, .int .i64 a1] w fun e w' => e = .returned (.int .i64 r) ∧ Below w.heap.size w w' := by
 have HB := Aside0.mk (Below.refl w.heap.size w)
 have H : ((sinc_size.f a0).bind fun t147 => ((wide_MulDiv.f k 10851744800547 t147 a1).bind fun t148 => ((wide_MulDiv.f k t148 t147 a1).bind fun t149 => (sinc_series.l0 k t149 1099511627776 1099511627776 1 1)))) = some r := h
 clear h
 replace H := Option.bind_eq_some_iff.mp H
 obtain ⟨t147, A30, H⟩ := H
 replace H : ((wide_MulDiv.f k 10851744800547 t147 a1).bind fun t148 => ((wide_MulDiv.f k t148 t147 a1).bind fun t149 => (sinc_series.l0 k t149 1099511627776 1099511627776 1 1))) = some r := H
 have A3 := Aside0.mk A30
 clear A30
 replace H := Option.bind_eq_some_iff.mp H
 obtain ⟨t148, A40, H⟩ := H
 replace H : ((wide_MulDiv.f k t148 t147 a1).bind fun t149 => (sinc_series.l0 k t149 1099511627776 1099511627776 1 1)) = some r := H
 have A4 := Aside0.mk A40
 clear A40
 replace H := Option.bind_eq_some_iff.mp H
 obtain ⟨t149, A50, H⟩ := H
 replace H : (sinc_series.l0 k t149 1099511627776 1099511627776 1 1) = some r := H
 have A5 := Aside0.mk A50
 clear A50
 have H' := Aside0.mk H
 clear H
 go_enter Tryd.func40, Tryd.ntmps40
 go_wp2_with (first | ((with_reducible refine gate_callee (f := 37) rfl ?_); refine goesL_ (some 11) rfl rfl Tryd.func37 (by kernel_rfl) rfl #[.int .i64 a0] rfl (by (try simp only [List.map_toArray, List.map_cons, List.map_nil]); first | done | rfl | (simp only [List.length_drop, List.length_take]; rfl)) ?_; (with_reducible refine (sinc_size.calls a0 t147 _ A3.out).mono ?_); rintro e w6 ⟨rfl, hb⟩; refine ⟨_, rfl, ?_⟩; have n0_ := Aside0.mk (below_step (by repeat (first | (with_reducible first | exact HB.out | apply below_alloc | apply pw_below_drewN | apply below_drew1) | exact HB.out)) hb); clear HB; have HB := n0_; clear n0_; (try clear hb); (try clear hb2); (try clear hk); (try clear hi)) | ((with_reducible refine gate_callee (f := 9) rfl ?_); refine goesL_ (some 14) rfl rfl Tryd.func9 (by kernel_rfl) rfl #[.int .i64 10851744800547, .int .i64 t147, .int .i64 a1] rfl (by (try simp only [List.map_toArray, List.map_cons, List.map_nil]); first | done | rfl | (simp only [List.length_drop, List.length_take]; rfl)) ?_; (with_reducible refine (wide_MulDiv.calls k 10851744800547 t147 a1 t148 _ A4.out).mono ?_); rintro e w' ⟨rfl, ⟨nd, rfl⟩⟩; refine ⟨_, rfl, ?_⟩) | ((with_reducible refine gate_callee (f := 9) rfl ?_); refine goesL_ (some 17) rfl rfl Tryd.func9 (by kernel_rfl) rfl #[.int .i64 t148, .int .i64 t147, .int .i64 a1] rfl (by (try simp only [List.map_toArray, List.map_cons, List.map_nil]); first | done | rfl | (simp only [List.length_drop, List.length_take]; rfl)) ?_; (with_reducible refine (wide_MulDiv.calls k t148 t147 a1 t149 _ A5.out).mono ?_); rintro e w' ⟨rfl, ⟨nd, rfl⟩⟩; refine ⟨_, rfl, ?_⟩))
 go_loopg [6, 7, 8, 9] k (fun kq v6 v7 v8 v9 w' => ∃ (x6_1 : Int) (x7_1 : Int) (x8_1 : Int) (x9_1 : Int), v6 = .int .i64 x6_1 ∧ v7 = .int .i64 x7_1 ∧ v8 = .int .i64 x8_1 ∧ v9 = .int .i64 x9_1 ∧ Aside0 (sinc_series.l0 kq t149 x6_1 x7_1 x8_1 x9_1 = some r) ∧ Aside0 (kq ≤ k) ∧ Aside0 (Below w.heap.size w w'))
 case atStart => exact ⟨(1099511627776), (1099511627776), (1), (1), (by first | rfl | (simp; done) | (simp [*]; done)), (by first | rfl | (simp; done) | (simp [*]; done)), (by first | rfl | (simp; done) | (simp [*]; done)), (by first | rfl | (simp; done) | (simp [*]; done)), H', ⟨Nat.le_refl _⟩, ⟨by repeat (first | (with_reducible first | exact HB.out | apply below_alloc | apply pw_below_drewN | apply below_drew1) | exact HB.out)⟩⟩
 case round =>
  clear H'
  try clear p2
  try clear c3
  try clear c4
  obtain ⟨x6_1, x7_1, x8_1, x9_1, rfl, rfl, rfl, rfl, HA, HK1, HB⟩ := hrel
  cases gk with
  | zero => exact absurd HA.out (by simp [sinc_series.l0])
  | succ k1 =>
   have H := HA.out
   clear HA
   simp only [sinc_series.l0] at H
   by_cases c7 : x9_1 ≤ 30
   ·rw [if_pos c7] at H
    have c7b0 : decide (x9_1 ≤ 30) = true := decide_eq_true c7
    clear c7
    replace H := Option.bind_eq_some_iff.mp H
    obtain ⟨t150, A80, H⟩ := H
    replace H : (sinc_series.l0 k1 t149 (wrap64 (x6_1 + (wrap64 ((wrap64 (-x8_1)) * t150)))) t150 (wrap64 (-x8_1)) (wrap64 (x9_1 + 1))) = some r := H
    have A8 := Aside0.mk A80
    clear A80
    have H' := Aside0.mk H
    clear H
    go_wp2_with (first | ((with_reducible refine gate_callee (f := 9) rfl ?_); refine goesL_ (some 33) rfl rfl Tryd.func9 (by kernel_rfl) rfl #[.int .i64 x7_1, .int .i64 t149, .int .i64 (wrap64 ((wrap64 ((wrap64 (2 * x9_1)) * (wrap64 ((wrap64 (2 * x9_1)) + 1)))) * 1099511627776))] rfl (by (try simp only [List.map_toArray, List.map_cons, List.map_nil]); first | done | rfl | (simp only [List.length_drop, List.length_take]; rfl)) ?_; (with_reducible refine (wide_MulDiv.calls k1 x7_1 t149 (wrap64 ((wrap64 ((wrap64 (2 * x9_1)) * (wrap64 ((wrap64 (2 * x9_1)) + 1)))) * 1099511627776)) t150 _ A8.out).mono ?_); rintro e w' ⟨rfl, ⟨nd, rfl⟩⟩; refine ⟨_, rfl, ?_⟩))
    go_roundg k1
    case measure => have := HK1.out; omega
    case rel => exact ⟨(wrap64 (x6_1 + (wrap64 ((wrap64 (-x8_1)) * t150)))), (t150), (wrap64 (-x8_1)), (wrap64 (x9_1 + 1)), (by first | rfl | (simp; done) | (simp [*]; done)), (by first | rfl | (simp; done) | (simp [*]; done)), (by first | rfl | (simp; done) | (simp [*]; done)), (by first | rfl | (simp; done) | (simp [*]; done)), H', ⟨by have := HK1.out; omega⟩, ⟨by repeat (first | (with_reducible first | exact HB.out | apply below_alloc | apply pw_below_drewN | apply below_drew1) | exact HB.out)⟩⟩
   ·rw [if_neg c7] at H
    have c7b0 : decide (x9_1 ≤ 30) = false := decide_eq_false c7
    clear c7
    obtain rfl := Option.some.inj H
    go_wp2
    go_ret
    exact ⟨by first | rfl | (simp [errW_none, errW_some] <;> rfl) | (simp [*, errW_none, errW_some] <;> rfl), by repeat (first | (with_reducible first | exact HB.out | apply below_alloc | apply pw_below_drewN | apply below_drew1) | exact HB.out)⟩

/-! ### sinc_Lanczos: function 26 -/
def sinc_Lanczos.j0 : Nat → Int → Int → Bool → Option (Int)
 | 0, _, _, _ => none
 | k + 1, x0, x1, x15 => if x15 = true then (some 0) else ((sinc_series.f k x0 x1).bind fun t153 => ((sinc_series.f k x0 (wrap64 (3 * x1))).bind fun t154 => ((wide_MulShift.f k t153 t154 40).bind fun t155 => ((fixed_Shift.f t155 10).bind fun t156 => (some t156)))))
def sinc_Lanczos.f (k : Nat) (a0 : Int) (a1 : Int) : Option (Int) := (sinc_May.f a0 a1).bind fun t151 => (if t151 = true then ((sinc_size.f a0).bind fun t152 => (sinc_Lanczos.j0 k a0 a1 (decide (t152 ≥ (wrap64 (3 * a1)))))) else (sinc_Lanczos.j0 k a0 a1 true))
theorem sinc_Lanczos.mono_l : ∀ k, (∀ y0 y1 y2, LeO (sinc_Lanczos.j0 k y0 y1 y2) (sinc_Lanczos.j0 (k + 1) y0 y1 y2))
 | 0 => fun _ _ _ r h => by simp [sinc_Lanczos.j0] at h
 | k + 1 => by
  have ih0 := sinc_Lanczos.mono_l k
  ·intro y0 y1 y2
   unfold sinc_Lanczos.j0
   repeat' first
   | (with_reducible exact ih0 _ _ _)
   | (with_reducible exact sinc_series.mono _ _ _)
   | (with_reducible exact wide_MulShift.mono _ _ _ _)
   | (with_reducible exact LeO.refl _)
   | (with_reducible exact LeO.none _)
   | (with_reducible refine LeO.ite ?_ ?_)
   | (with_reducible refine LeO.bind ?_ (fun _ => ?_))
   | exact ih0 _ _ _
   | exact sinc_series.mono _ _ _
   | exact wide_MulShift.mono _ _ _ _
   | exact LeO.none _
   | refine LeO.ite ?_ ?_
   | refine LeO.bind ?_ (fun _ => ?_)
theorem sinc_Lanczos.mono : ∀ a0 a1 k, LeO (sinc_Lanczos.f k a0 a1) (sinc_Lanczos.f (k + 1) a0 a1) := by
 intro a0 a1 k
 have ih0 := sinc_Lanczos.mono_l k
 unfold sinc_Lanczos.f
 repeat' first
   | (with_reducible exact ih0 _ _ _)
   | (with_reducible exact sinc_series.mono _ _ _)
   | (with_reducible exact wide_MulShift.mono _ _ _ _)
   | (with_reducible exact LeO.refl _)
   | (with_reducible exact LeO.none _)
   | (with_reducible refine LeO.ite ?_ ?_)
   | (with_reducible refine LeO.bind ?_ (fun _ => ?_))
   | exact ih0 _ _ _
   | exact sinc_series.mono _ _ _
   | exact wide_MulShift.mono _ _ _ _
   | exact LeO.none _
   | refine LeO.ite ?_ ?_
   | refine LeO.bind ?_ (fun _ => ?_)
set_option maxHeartbeats 8000000 in
set_option maxRecDepth 100000 in
theorem sinc_Lanczos.calls (k : Nat) (a0 : Int) (a1 : Int) (r : Int) (w : World) (h : sinc_Lanczos.f k a0 a1 = some r) :
  Calls Tryd.prog 26 #[.int .i64 a0, .int .i64 a1] w fun e w' => e = .returned (.int .i64 r) ∧ Below w.heap.size w w' := by
 have HB := Aside0.mk (Below.refl w.heap.size w)
 have H : ((sinc_May.f a0 a1).bind fun t151 => (if t151 = true then ((sinc_size.f a0).bind fun t152 => (sinc_Lanczos.j0 k a0 a1 (decide (t152 ≥ (wrap64 (3 * a1)))))) else (sinc_Lanczos.j0 k a0 a1 true))) = some r := h
 clear h
 have HC3 := Aside0.mk H
 clear H
 go_enter Tryd.func26, Tryd.ntmps26
 go_upto_region 1 with (fail)
 go_cut [15] (fun v15 wc => ∃ (kq : Nat) (x15_2 : Bool), v15 = .bool x15_2 ∧ Aside0 (sinc_Lanczos.j0 kq a0 a1 x15_2 = some r) ∧ Aside0 (kq ≤ k) ∧ Aside0 (Below w.heap.size w wc))
 case first =>
  have H := HC3.out
  clear HC3
  replace H := Option.bind_eq_some_iff.mp H
  obtain ⟨t151, A40, H⟩ := H
  replace H : (if t151 = true then ((sinc_size.f a0).bind fun t152 => (sinc_Lanczos.j0 k a0 a1 (decide (t152 ≥ (wrap64 (3 * a1)))))) else (sinc_Lanczos.j0 k a0 a1 true)) = some r := H
  have A4 := Aside0.mk A40
  clear A40
  by_cases c5 : t151 = true
  ·subst c5
   have H1 : ((sinc_size.f a0).bind fun t152 => (sinc_Lanczos.j0 k a0 a1 (decide (t152 ≥ (wrap64 (3 * a1)))))) = some r := by rw [if_pos rfl] at H; exact H
   clear H
   have H := H1
   clear H1
   replace H := Option.bind_eq_some_iff.mp H
   obtain ⟨t152, A60, H⟩ := H
   replace H : (sinc_Lanczos.j0 k a0 a1 (decide (t152 ≥ (wrap64 (3 * a1))))) = some r := H
   have A6 := Aside0.mk A60
   clear A60
   have H' := Aside0.mk H
   clear H
   go_wp2_with (first | ((with_reducible refine gate_callee (f := 36) rfl ?_); refine goesL_ (some 7) rfl rfl Tryd.func36 (by kernel_rfl) rfl #[.int .i64 a0, .int .i64 a1] rfl (by (try simp only [List.map_toArray, List.map_cons, List.map_nil]); first | done | rfl | (simp only [List.length_drop, List.length_take]; rfl)) ?_; (with_reducible refine (sinc_May.calls a0 a1 true _ A4.out).mono ?_); rintro e w' ⟨rfl, ⟨nd, rfl⟩⟩; refine ⟨_, rfl, ?_⟩) | (go_at_call 37; (with_reducible refine (sinc_size.calls a0 t152 _ A6.out).mono ?_); rintro e w7 ⟨rfl, hb⟩; have n0_ := Aside0.mk (below_step (by repeat (first | (with_reducible first | exact HB.out | apply below_alloc | apply pw_below_drewN | apply below_drew1) | exact HB.out)) hb); clear HB; have HB := n0_; clear n0_; (try clear hb); (try clear hb2); (try clear hk); (try clear hi)))
   go_meet
   case rel => exact ⟨_, (decide (t152 ≥ (wrap64 (3 * a1)))), (by first | rfl | (simp; done) | (simp [*]; done)), H', ⟨by first | omega | exact Nat.le_refl _⟩, ⟨by repeat (first | (with_reducible first | exact HB.out | apply below_alloc | apply pw_below_drewN | apply below_drew1) | exact HB.out)⟩⟩
  ·replace c5 := Bool.eq_false_iff.mpr c5
   subst c5
   have H1 : (sinc_Lanczos.j0 k a0 a1 true) = some r := by rw [if_neg (show ¬ (false = true) by decide)] at H; exact H
   clear H
   have H := H1
   clear H1
   have H' := Aside0.mk H
   clear H
   go_wp2_with (first | ((with_reducible refine gate_callee (f := 36) rfl ?_); refine goesL_ (some 7) rfl rfl Tryd.func36 (by kernel_rfl) rfl #[.int .i64 a0, .int .i64 a1] rfl (by (try simp only [List.map_toArray, List.map_cons, List.map_nil]); first | done | rfl | (simp only [List.length_drop, List.length_take]; rfl)) ?_; (with_reducible refine (sinc_May.calls a0 a1 false _ A4.out).mono ?_); rintro e w' ⟨rfl, ⟨nd, rfl⟩⟩; refine ⟨_, rfl, ?_⟩))
   go_meet
   case rel => exact ⟨_, (true), (by first | rfl | (simp; done) | (simp [*]; done)), H', ⟨by first | omega | exact Nat.le_refl _⟩, ⟨by repeat (first | (with_reducible first | exact HB.out | apply below_alloc | apply pw_below_drewN | apply below_drew1) | exact HB.out)⟩⟩
 case rest =>
  clear HC3
  try clear c2
  try clear p2
  try clear c3
  try clear c5
  try clear p6
  obtain ⟨kq, x15_2, rfl, HA, HJ2, HB⟩ := hcut
  cases kq with
  | zero => exact absurd HA.out (by simp [sinc_Lanczos.j0])
  | succ kj2 =>
   have H := HA.out
   clear HA
   simp only [sinc_Lanczos.j0] at H
   by_cases c8 : x15_2 = true
   ·subst c8
    have H1 : (some 0) = some r := by rw [if_pos rfl] at H; exact H
    clear H
    have H := H1
    clear H1
    obtain rfl := Option.some.inj H
    go_wp2
    go_ret
    exact ⟨by first | rfl | (simp [errW_none, errW_some] <;> rfl) | (simp [*, errW_none, errW_some] <;> rfl), by repeat (first | (with_reducible first | exact HB.out | apply below_alloc | apply pw_below_drewN | apply below_drew1) | exact HB.out)⟩
   ·replace c8 := Bool.eq_false_iff.mpr c8
    subst c8
    have H1 : ((sinc_series.f kj2 a0 a1).bind fun t153 => ((sinc_series.f kj2 a0 (wrap64 (3 * a1))).bind fun t154 => ((wide_MulShift.f kj2 t153 t154 40).bind fun t155 => ((fixed_Shift.f t155 10).bind fun t156 => (some t156))))) = some r := by rw [if_neg (show ¬ (false = true) by decide)] at H; exact H
    clear H
    have H := H1
    clear H1
    replace H := Option.bind_eq_some_iff.mp H
    obtain ⟨t153, A90, H⟩ := H
    replace H : ((sinc_series.f kj2 a0 (wrap64 (3 * a1))).bind fun t154 => ((wide_MulShift.f kj2 t153 t154 40).bind fun t155 => ((fixed_Shift.f t155 10).bind fun t156 => (some t156)))) = some r := H
    have A9 := Aside0.mk A90
    clear A90
    replace H := Option.bind_eq_some_iff.mp H
    obtain ⟨t154, A100, H⟩ := H
    replace H : ((wide_MulShift.f kj2 t153 t154 40).bind fun t155 => ((fixed_Shift.f t155 10).bind fun t156 => (some t156))) = some r := H
    have A10 := Aside0.mk A100
    clear A100
    replace H := Option.bind_eq_some_iff.mp H
    obtain ⟨t155, A110, H⟩ := H
    replace H : ((fixed_Shift.f t155 10).bind fun t156 => (some t156)) = some r := H
    have A11 := Aside0.mk A110
    clear A110
    replace H := Option.bind_eq_some_iff.mp H
    obtain ⟨t156, A120, H⟩ := H
    replace H : (some t156) = some r := H
    have A12 := Aside0.mk A120
    clear A120
    obtain rfl := Option.some.inj H
    go_wp2_with (first | ((with_reducible refine gate_callee (f := 40) rfl ?_); refine goesL_ (some 18) rfl rfl Tryd.func40 (by kernel_rfl) rfl #[.int .i64 a0, .int .i64 a1] rfl (by (try simp only [List.map_toArray, List.map_cons, List.map_nil]); first | done | rfl | (simp only [List.length_drop, List.length_take]; rfl)) ?_; (with_reducible refine (sinc_series.calls kj2 a0 a1 t153 _ A9.out).mono ?_); rintro e w13 ⟨rfl, hb⟩; refine ⟨_, rfl, ?_⟩; have n0_ := Aside0.mk (below_step (by repeat (first | (with_reducible first | exact HB.out | apply below_alloc | apply pw_below_drewN | apply below_drew1) | exact HB.out)) hb); clear HB; have HB := n0_; clear n0_; (try clear hb); (try clear hb2); (try clear hk); (try clear hi)) | ((with_reducible refine gate_callee (f := 40) rfl ?_); refine goesL_ (some 22) rfl rfl Tryd.func40 (by kernel_rfl) rfl #[.int .i64 a0, .int .i64 (wrap64 (3 * a1))] rfl (by (try simp only [List.map_toArray, List.map_cons, List.map_nil]); first | done | rfl | (simp only [List.length_drop, List.length_take]; rfl)) ?_; (with_reducible refine (sinc_series.calls kj2 a0 (wrap64 (3 * a1)) t154 _ A10.out).mono ?_); rintro e w14 ⟨rfl, hb⟩; refine ⟨_, rfl, ?_⟩; have n0_ := Aside0.mk (below_step (by repeat (first | (with_reducible first | exact HB.out | apply below_alloc | apply pw_below_drewN | apply below_drew1) | exact HB.out)) hb); clear HB; have HB := n0_; clear n0_; (try clear hb); (try clear hb2); (try clear hk); (try clear hi)) | ((with_reducible refine gate_callee (f := 39) rfl ?_); refine goesL_ (some 23) rfl rfl Tryd.func39 (by kernel_rfl) rfl #[.int .i64 t153, .int .i64 t154, .int .i64 40] rfl (by (try simp only [List.map_toArray, List.map_cons, List.map_nil]); first | done | rfl | (simp only [List.length_drop, List.length_take]; rfl)) ?_; (with_reducible refine (wide_MulShift.calls kj2 t153 t154 40 t155 _ A11.out).mono ?_); rintro e w15 ⟨rfl, hb⟩; refine ⟨_, rfl, ?_⟩; have n0_ := Aside0.mk (below_step (by repeat (first | (with_reducible first | exact HB.out | apply below_alloc | apply pw_below_drewN | apply below_drew1) | exact HB.out)) hb); clear HB; have HB := n0_; clear n0_; (try clear hb); (try clear hb2); (try clear hk); (try clear hi)) | ((with_reducible refine gate_callee (f := 38) rfl ?_); refine goesL_ (some 24) rfl rfl Tryd.func38 (by kernel_rfl) rfl #[.int .i64 t155, .int .i64 10] rfl (by (try simp only [List.map_toArray, List.map_cons, List.map_nil]); first | done | rfl | (simp only [List.length_drop, List.length_take]; rfl)) ?_; (with_reducible refine (fixed_Shift.calls t155 10 t156 _ A12.out).mono ?_); rintro e w' ⟨rfl, ⟨nd, rfl⟩⟩; refine ⟨_, rfl, ?_⟩))
    go_ret
    exact ⟨by first | rfl | (simp [errW_none, errW_some] <;> rfl) | (simp [*, errW_none, errW_some] <;> rfl), by repeat (first | (with_reducible first | exact HB.out | apply below_alloc | apply pw_below_drewN | apply below_drew1) | exact HB.out)⟩

/-! ### raw_weigh: function 14 -/
def raw_weigh.f (k : Nat) (a0 : Int) (a1 : Int) (a2 : Int) (a3 : Int) (a4 : Int) : Option (Int) := if a0 = 0 then ((wide_MulDiv.f k (wrap64 ((mn (wrap64 ((wrap64 (a3 + 1)) * a1)) (wrap64 ((wrap64 (a4 + 1)) * a2))) - (mx (wrap64 (a3 * a1)) (wrap64 (a4 * a2))))) 1073741824 a1).bind fun t157 => (some t157)) else (if a0 = 1 then ((raw_Keys.f k (wrap64 ((wrap64 ((wrap64 ((wrap64 (2 * a2)) * a4)) - (wrap64 ((wrap64 ((wrap64 (2 * a3)) + 1)) * a1)))) + a2)) (wrap64 (2 * (mx a1 a2)))).bind fun t158 => (some t158)) else ((sinc_Lanczos.f k (wrap64 ((wrap64 ((wrap64 ((wrap64 (2 * a2)) * a4)) - (wrap64 ((wrap64 ((wrap64 (2 * a3)) + 1)) * a1)))) + a2)) (wrap64 (2 * (mx a1 a2)))).bind fun t159 => (some t159)))
theorem raw_weigh.mono : ∀ a0 a1 a2 a3 a4 k, LeO (raw_weigh.f k a0 a1 a2 a3 a4) (raw_weigh.f (k + 1) a0 a1 a2 a3 a4) := by
 intro a0 a1 a2 a3 a4 k
 unfold raw_weigh.f
 repeat' first
   | (with_reducible exact raw_Keys.mono _ _ _)
   | (with_reducible exact sinc_Lanczos.mono _ _ _)
   | (with_reducible exact wide_MulDiv.mono _ _ _ _)
   | (with_reducible exact LeO.refl _)
   | (with_reducible exact LeO.none _)
   | (with_reducible refine LeO.ite ?_ ?_)
   | (with_reducible refine LeO.bind ?_ (fun _ => ?_))
   | exact raw_Keys.mono _ _ _
   | exact sinc_Lanczos.mono _ _ _
   | exact wide_MulDiv.mono _ _ _ _
   | exact LeO.none _
   | refine LeO.ite ?_ ?_
   | refine LeO.bind ?_ (fun _ => ?_)
set_option maxHeartbeats 8000000 in
set_option maxRecDepth 100000 in
theorem raw_weigh.calls (k : Nat) (a0 : Int) (a1 : Int) (a2 : Int) (a3 : Int) (a4 : Int) (r : Int) (w : World) (h : raw_weigh.f k a0 a1 a2 a3 a4 = some r) :
  Calls Tryd.prog 14 #[.int .i64 a0, .int .i64 a1, .int .i64 a2, .int .i64 a3, .int .i64 a4] w fun e w' => e = .returned (.int .i64 r) ∧ Below w.heap.size w w' := by
 have HB := Aside0.mk (Below.refl w.heap.size w)
 have H : (if a0 = 0 then ((wide_MulDiv.f k (wrap64 ((mn (wrap64 ((wrap64 (a3 + 1)) * a1)) (wrap64 ((wrap64 (a4 + 1)) * a2))) - (mx (wrap64 (a3 * a1)) (wrap64 (a4 * a2))))) 1073741824 a1).bind fun t157 => (some t157)) else (if a0 = 1 then ((raw_Keys.f k (wrap64 ((wrap64 ((wrap64 ((wrap64 (2 * a2)) * a4)) - (wrap64 ((wrap64 ((wrap64 (2 * a3)) + 1)) * a1)))) + a2)) (wrap64 (2 * (mx a1 a2)))).bind fun t158 => (some t158)) else ((sinc_Lanczos.f k (wrap64 ((wrap64 ((wrap64 ((wrap64 (2 * a2)) * a4)) - (wrap64 ((wrap64 ((wrap64 (2 * a3)) + 1)) * a1)))) + a2)) (wrap64 (2 * (mx a1 a2)))).bind fun t159 => (some t159)))) = some r := h
 clear h
 by_cases c6 : a0 = 0
 ·rw [if_pos c6] at H
  have c6b0 : (a0 == 0) = true := beq_iff_eq.mpr c6
  have c6b1 : (a0 != 0) = false := bne_eq_false_iff_eq.mpr c6
  clear c6
  obtain ⟨ji7, hji7⟩ : ∃ j_ : Int, (mn (wrap64 ((wrap64 (a3 + 1)) * a1)) (wrap64 ((wrap64 (a4 + 1)) * a2))) = j_ := ⟨_, rfl⟩
  replace H : ((wide_MulDiv.f k (wrap64 ((ji7) - (mx (wrap64 (a3 * a1)) (wrap64 (a4 * a2))))) 1073741824 a1).bind fun t157 => (some t157)) = some r := by first | (rw [hji7] at H; exact H) | (simp only [hji7] at H ⊢; exact H)
  have hji7_ : (if (wrap64 ((wrap64 (a4 + 1)) * a2)) < (wrap64 ((wrap64 (a3 + 1)) * a1)) then (wrap64 ((wrap64 (a4 + 1)) * a2)) else (wrap64 ((wrap64 (a3 + 1)) * a1))) = ji7 := hji7
  obtain ⟨ji8, hji8⟩ : ∃ j_ : Int, (mx (wrap64 (a3 * a1)) (wrap64 (a4 * a2))) = j_ := ⟨_, rfl⟩
  replace H : ((wide_MulDiv.f k (wrap64 ((ji7) - (ji8))) 1073741824 a1).bind fun t157 => (some t157)) = some r := by first | (rw [hji8] at H; exact H) | (simp only [hji8] at H ⊢; exact H)
  have hji8_ : (if (wrap64 (a3 * a1)) < (wrap64 (a4 * a2)) then (wrap64 (a4 * a2)) else (wrap64 (a3 * a1))) = ji8 := hji8
  replace H := Option.bind_eq_some_iff.mp H
  obtain ⟨t157, A90, H⟩ := H
  replace H : (some t157) = some r := H
  have A9 := Aside0.mk A90
  clear A90
  obtain rfl := Option.some.inj H
  go_enter Tryd.func14, Tryd.ntmps14
  go_wp2_with (first | ((with_reducible refine gate_callee (f := 9) rfl ?_); refine goesL_ (some 35) rfl rfl Tryd.func9 (by kernel_rfl) rfl #[.int .i64 (wrap64 ((ji7) - (ji8))), .int .i64 1073741824, .int .i64 a1] rfl (by (try simp only [List.map_toArray, List.map_cons, List.map_nil]); first | done | (simp only [hji7, hji8]; rfl) | rfl | (simp only [List.length_drop, List.length_take]; rfl)) ?_; (with_reducible refine (wide_MulDiv.calls k (wrap64 ((ji7) - (ji8))) 1073741824 a1 t157 _ A9.out).mono ?_); rintro e w' ⟨rfl, ⟨nd, rfl⟩⟩; refine ⟨_, rfl, ?_⟩))
  go_ret
  exact ⟨by first | rfl | (simp [errW_none, errW_some] <;> rfl) | (simp only [← hji7, ← hji8]; first | rfl | (simp [errW_none, errW_some] <;> rfl)) | (simp [*, errW_none, errW_some] <;> rfl), by repeat (first | (with_reducible first | exact HB.out | apply below_alloc | apply pw_below_drewN | apply below_drew1) | exact HB.out)⟩
 ·rw [if_neg c6] at H
  have c6b0 : (a0 == 0) = false := beq_eq_false_iff_ne.mpr c6
  have c6b1 : (a0 != 0) = true := bne_iff_ne.mpr c6
  obtain ⟨ji10, hji10⟩ : ∃ j_ : Int, (mx a1 a2) = j_ := ⟨_, rfl⟩
  replace H : (if a0 = 1 then ((raw_Keys.f k (wrap64 ((wrap64 ((wrap64 ((wrap64 (2 * a2)) * a4)) - (wrap64 ((wrap64 ((wrap64 (2 * a3)) + 1)) * a1)))) + a2)) (wrap64 (2 * (ji10)))).bind fun t158 => (some t158)) else ((sinc_Lanczos.f k (wrap64 ((wrap64 ((wrap64 ((wrap64 (2 * a2)) * a4)) - (wrap64 ((wrap64 ((wrap64 (2 * a3)) + 1)) * a1)))) + a2)) (wrap64 (2 * (ji10)))).bind fun t159 => (some t159))) = some r := by first | (rw [hji10] at H; exact H) | (simp only [hji10] at H ⊢; exact H)
  have hji10_ : (if a1 < a2 then a2 else a1) = ji10 := hji10
  by_cases c11 : a0 = 1
  ·rw [if_pos c11] at H
   have c11b0 : (a0 == 1) = true := beq_iff_eq.mpr c11
   have c11b1 : (a0 != 1) = false := bne_eq_false_iff_eq.mpr c11
   clear c11
   replace H := Option.bind_eq_some_iff.mp H
   obtain ⟨t158, A120, H⟩ := H
   replace H : (some t158) = some r := H
   have A12 := Aside0.mk A120
   clear A120
   obtain rfl := Option.some.inj H
   go_enter Tryd.func14, Tryd.ntmps14
   go_wp2_with (first | ((with_reducible refine gate_callee (f := 5) rfl ?_); refine goesL_ (some 56) rfl rfl Tryd.func5 (by kernel_rfl) rfl #[.int .i64 (wrap64 ((wrap64 ((wrap64 ((wrap64 (2 * a2)) * a4)) - (wrap64 ((wrap64 ((wrap64 (2 * a3)) + 1)) * a1)))) + a2)), .int .i64 (wrap64 (2 * (ji10)))] rfl (by (try simp only [List.map_toArray, List.map_cons, List.map_nil]); first | done | (simp only [hji10]; rfl) | (simp only [Int.tdiv_eq_ediv_of_nonneg hji10l]; rfl) | rfl | (simp only [List.length_drop, List.length_take]; rfl)) ?_; (with_reducible refine (raw_Keys.calls k (wrap64 ((wrap64 ((wrap64 ((wrap64 (2 * a2)) * a4)) - (wrap64 ((wrap64 ((wrap64 (2 * a3)) + 1)) * a1)))) + a2)) (wrap64 (2 * (ji10))) t158 _ A12.out).mono ?_); rintro e w13 ⟨rfl, hb⟩; refine ⟨_, rfl, ?_⟩; have n0_ := Aside0.mk (below_step (by repeat (first | (with_reducible first | exact HB.out | apply below_alloc | apply pw_below_drewN | apply below_drew1) | exact HB.out)) hb); clear HB; have HB := n0_; clear n0_; (try clear hb); (try clear hb2); (try clear hk); (try clear hi)))
   go_ret
   exact ⟨by first | rfl | (simp [errW_none, errW_some] <;> rfl) | (simp only [← hji10]; first | rfl | (simp [errW_none, errW_some] <;> rfl)) | (simp [*, errW_none, errW_some] <;> rfl), by repeat (first | (with_reducible first | exact HB.out | apply below_alloc | apply pw_below_drewN | apply below_drew1) | exact HB.out)⟩
  ·rw [if_neg c11] at H
   have c11b0 : (a0 == 1) = false := beq_eq_false_iff_ne.mpr c11
   have c11b1 : (a0 != 1) = true := bne_iff_ne.mpr c11
   replace H := Option.bind_eq_some_iff.mp H
   obtain ⟨t159, A140, H⟩ := H
   replace H : (some t159) = some r := H
   have A14 := Aside0.mk A140
   clear A140
   obtain rfl := Option.some.inj H
   go_enter Tryd.func14, Tryd.ntmps14
   go_wp2_with (first | ((with_reducible refine gate_callee (f := 26) rfl ?_); refine goesL_ (some 59) rfl rfl Tryd.func26 (by kernel_rfl) rfl #[.int .i64 (wrap64 ((wrap64 ((wrap64 ((wrap64 (2 * a2)) * a4)) - (wrap64 ((wrap64 ((wrap64 (2 * a3)) + 1)) * a1)))) + a2)), .int .i64 (wrap64 (2 * (ji10)))] rfl (by (try simp only [List.map_toArray, List.map_cons, List.map_nil]); first | done | (simp only [hji10]; rfl) | (simp only [Int.tdiv_eq_ediv_of_nonneg hji10l]; rfl) | rfl | (simp only [List.length_drop, List.length_take]; rfl)) ?_; (with_reducible refine (sinc_Lanczos.calls k (wrap64 ((wrap64 ((wrap64 ((wrap64 (2 * a2)) * a4)) - (wrap64 ((wrap64 ((wrap64 (2 * a3)) + 1)) * a1)))) + a2)) (wrap64 (2 * (ji10))) t159 _ A14.out).mono ?_); rintro e w15 ⟨rfl, hb⟩; refine ⟨_, rfl, ?_⟩; have n0_ := Aside0.mk (below_step (by repeat (first | (with_reducible first | exact HB.out | apply below_alloc | apply pw_below_drewN | apply below_drew1) | exact HB.out)) hb); clear HB; have HB := n0_; clear n0_; (try clear hb); (try clear hb2); (try clear hk); (try clear hi)))
   go_ret
   exact ⟨by first | rfl | (simp [errW_none, errW_some] <;> rfl) | (simp only [← hji10]; first | rfl | (simp [errW_none, errW_some] <;> rfl)) | (simp [*, errW_none, errW_some] <;> rfl), by repeat (first | (with_reducible first | exact HB.out | apply below_alloc | apply pw_below_drewN | apply below_drew1) | exact HB.out)⟩

end Go.Proofs.YtbbheemfjfkagaaDoor.QA
