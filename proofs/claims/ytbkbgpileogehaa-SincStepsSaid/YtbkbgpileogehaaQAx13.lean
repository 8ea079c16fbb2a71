-- Written by wip/tools/pp.py over the kit's print.py; not trusted: Lean checks it.
import Derived.Test.YtbkbgpileogehaaQAx0
import Derived.Test.YtbkbgpileogehaaQAx1
import Derived.Test.YtbkbgpileogehaaQAx3
import Derived.Test.YtbkbgpileogehaaQAx5
import Derived.Test.YtbkbgpileogehaaQAx6
import Derived.Test.YtbkbgpileogehaaQAx10
import Derived.Test.YtbkbgpileogehaaQAx11
import Derived.Test.YtbkbgpileogehaaQAx12
namespace Go.Proofs.Ytbkbgpileogehaa.QA
open Go.Proofs.Ytbkbgpileogehaa.T
open Go.RowKit Go.Proofs.YtbkbgpileogehaaW.PrintWords Go.Proofs.YtbkbgpileogehaaW.PrintLast Go.Proofs.YtbkbgpileogehaaW.PrintMore
attribute [local go_sem] ext_call max2_int min2_int max_two min_two max_three min_three max_four min_four   -- for this text's walks alone
set_option linter.unusedVariables false
set_option linter.unusedSimpArgs false

/-! ### smaltoref04_Lanczos: function 12 -/
def smaltoref04_Lanczos.j0 : Nat → Int → Int → Bool → Option (Int)
  | 0, _, _, _ => none
  | k + 1, x0, x1, x21 => if x21 = true then (some 0) else ((smaltoref04_Series.f k x0 x1).bind fun t238 => ((smaltoref04_Series.f k x0 (wrap64 (3 * x1))).bind fun t239 => ((smaltoref02_MulShift.f k t238 t239 40).bind fun t240 => ((smaltoref01_Shift.f k t240 10).bind fun t241 => (some t241)))))
def smaltoref04_Lanczos.f (k : Nat) (a0 : Int) (a1 : Int) : Option (Int) := (smaltoref04_May.f a0 a1).bind fun t237 => (if t237 = true then (if a0 ≥ (wrap64 (3 * a1)) then (smaltoref04_Lanczos.j0 k a0 a1 true) else (smaltoref04_Lanczos.j0 k a0 a1 (decide (a0 ≤ (wrap64 ((-3) * a1)))))) else (smaltoref04_Lanczos.j0 k a0 a1 true))
theorem smaltoref04_Lanczos.mono_l : ∀ k, (∀ y0 y1 y2, LeO (smaltoref04_Lanczos.j0 k y0 y1 y2) (smaltoref04_Lanczos.j0 (k + 1) y0 y1 y2))
  | 0 => fun _ _ _ r h => by simp [smaltoref04_Lanczos.j0] at h
  | k + 1 => by
    have ih0 := smaltoref04_Lanczos.mono_l k
    · intro y0 y1 y2
      unfold smaltoref04_Lanczos.j0
      repeat' first
      | (with_reducible exact ih0 _ _ _)
      | (with_reducible exact smaltoref01_Shift.mono _ _ _)
      | (with_reducible exact smaltoref02_MulShift.mono _ _ _ _)
      | (with_reducible exact smaltoref04_Series.mono _ _ _)
      | (with_reducible exact LeO.refl _)
      | (with_reducible exact LeO.none _)
      | (with_reducible refine LeO.ite ?_ ?_)
      | (with_reducible refine LeO.bind ?_ (fun _ => ?_))
      | exact ih0 _ _ _
      | exact smaltoref01_Shift.mono _ _ _
      | exact smaltoref02_MulShift.mono _ _ _ _
      | exact smaltoref04_Series.mono _ _ _
      | exact LeO.none _
      | refine LeO.ite ?_ ?_
      | refine LeO.bind ?_ (fun _ => ?_)
theorem smaltoref04_Lanczos.mono : ∀ a0 a1 k, LeO (smaltoref04_Lanczos.f k a0 a1) (smaltoref04_Lanczos.f (k + 1) a0 a1) := by
  intro a0 a1 k
  have ih0 := smaltoref04_Lanczos.mono_l k
  unfold smaltoref04_Lanczos.f
  repeat' first
      | (with_reducible exact ih0 _ _ _)
      | (with_reducible exact smaltoref01_Shift.mono _ _ _)
      | (with_reducible exact smaltoref02_MulShift.mono _ _ _ _)
      | (with_reducible exact smaltoref04_Series.mono _ _ _)
      | (with_reducible exact LeO.refl _)
      | (with_reducible exact LeO.none _)
      | (with_reducible refine LeO.ite ?_ ?_)
      | (with_reducible refine LeO.bind ?_ (fun _ => ?_))
      | exact ih0 _ _ _
      | exact smaltoref01_Shift.mono _ _ _
      | exact smaltoref02_MulShift.mono _ _ _ _
      | exact smaltoref04_Series.mono _ _ _
      | exact LeO.none _
      | refine LeO.ite ?_ ?_
      | refine LeO.bind ?_ (fun _ => ?_)
set_option maxHeartbeats 8000000 in
set_option maxRecDepth 100000 in
theorem smaltoref04_Lanczos.calls (k : Nat) (a0 : Int) (a1 : Int) (r : Int) (w : World) (h : smaltoref04_Lanczos.f k a0 a1 = some r) :
    Calls Try.prog 12 #[.int .i64 a0, .int .i64 a1] w fun e w' => e = .returned (.int .i64 r) ∧ Below w.heap.size w w' := by
  have HB := Aside0.mk (Below.refl w.heap.size w)
  have H : ((smaltoref04_May.f a0 a1).bind fun t237 => (if t237 = true then (if a0 ≥ (wrap64 (3 * a1)) then (smaltoref04_Lanczos.j0 k a0 a1 true) else (smaltoref04_Lanczos.j0 k a0 a1 (decide (a0 ≤ (wrap64 ((-3) * a1)))))) else (smaltoref04_Lanczos.j0 k a0 a1 true))) = some r := h
  clear h
  have HC3 := Aside0.mk H
  clear H
  go_enter Try.func12, Try.ntmps12
  go_upto_region 1 with (fail)
  go_cut [21] (fun v21 wc => ∃ (kq : Nat) (x21_2 : Bool), v21 = .bool x21_2 ∧ Aside0 (smaltoref04_Lanczos.j0 kq a0 a1 x21_2 = some r) ∧ Aside0 (kq ≤ k) ∧ Aside0 (Below w.heap.size w wc))
  case first =>
    have H := HC3.out
    clear HC3
    replace H := Option.bind_eq_some_iff.mp H
    obtain ⟨t237, A40, H⟩ := H
    replace H : (if t237 = true then (if a0 ≥ (wrap64 (3 * a1)) then (smaltoref04_Lanczos.j0 k a0 a1 true) else (smaltoref04_Lanczos.j0 k a0 a1 (decide (a0 ≤ (wrap64 ((-3) * a1)))))) else (smaltoref04_Lanczos.j0 k a0 a1 true)) = some r := H
    have A4 := Aside0.mk A40
    clear A40
    by_cases c5 : t237 = true
    · subst c5
      have H1 : (if a0 ≥ (wrap64 (3 * a1)) then (smaltoref04_Lanczos.j0 k a0 a1 true) else (smaltoref04_Lanczos.j0 k a0 a1 (decide (a0 ≤ (wrap64 ((-3) * a1)))))) = some r := by rw [if_pos rfl] at H; exact H
      clear H
      have H := H1
      clear H1
      by_cases c6 : a0 ≥ (wrap64 (3 * a1))
      · rw [if_pos c6] at H
        have c6b0 : decide ((wrap64 (3 * a1)) ≤ a0) = true := decide_eq_true c6
        clear c6
        (first | rw [c6b0] | (simp only [i64_w, i32_w]; rw [c6b0]) | skip)
        have H' := Aside0.mk H
        clear H
        go_wp2_with (first | ((with_reducible refine gate_callee (f := 8) rfl ?_); refine goesL_ (some 8) rfl rfl Try.func8 (by kernel_rfl) rfl #[.int .i64 a0, .int .i64 a1] rfl (by (try simp only [List.map_toArray, List.map_cons, List.map_nil]); first | done | rfl | (simp only [List.length_drop, List.length_take]; rfl)) ?_; (with_reducible refine (smaltoref04_May.calls a0 a1 true _ A4.out).mono ?_); rintro e w' ⟨rfl, ⟨nd, rfl⟩⟩; refine ⟨_, rfl, ?_⟩))
        go_meet
        case rel => exact ⟨_, (true), (by first | rfl | (simp; done) | (simp [*]; done)), H', ⟨by first | omega | exact Nat.le_refl _⟩, ⟨by repeat (first | (with_reducible first | exact HB.out | apply below_alloc | apply pw_below_drewN | apply below_drew1) | exact HB.out)⟩⟩
      · rw [if_neg c6] at H
        have c6b0 : decide ((wrap64 (3 * a1)) ≤ a0) = false := decide_eq_false c6
        clear c6
        (first | rw [c6b0] | (simp only [i64_w, i32_w]; rw [c6b0]) | skip)
        have H' := Aside0.mk H
        clear H
        go_wp2_with (first | ((with_reducible refine gate_callee (f := 8) rfl ?_); refine goesL_ (some 8) rfl rfl Try.func8 (by kernel_rfl) rfl #[.int .i64 a0, .int .i64 a1] rfl (by (try simp only [List.map_toArray, List.map_cons, List.map_nil]); first | done | rfl | (simp only [List.length_drop, List.length_take]; rfl)) ?_; (with_reducible refine (smaltoref04_May.calls a0 a1 true _ A4.out).mono ?_); rintro e w' ⟨rfl, ⟨nd, rfl⟩⟩; refine ⟨_, rfl, ?_⟩))
        go_meet
        case rel => exact ⟨_, (decide (a0 ≤ (wrap64 ((-3) * a1)))), (by first | rfl | (simp; done) | (simp [*]; done)), H', ⟨by first | omega | exact Nat.le_refl _⟩, ⟨by repeat (first | (with_reducible first | exact HB.out | apply below_alloc | apply pw_below_drewN | apply below_drew1) | exact HB.out)⟩⟩
    · replace c5 := Bool.eq_false_iff.mpr c5
      subst c5
      have H1 : (smaltoref04_Lanczos.j0 k a0 a1 true) = some r := by rw [if_neg (show ¬ (false = true) by decide)] at H; exact H
      clear H
      have H := H1
      clear H1
      have H' := Aside0.mk H
      clear H
      go_wp2_with (first | ((with_reducible refine gate_callee (f := 8) rfl ?_); refine goesL_ (some 8) rfl rfl Try.func8 (by kernel_rfl) rfl #[.int .i64 a0, .int .i64 a1] rfl (by (try simp only [List.map_toArray, List.map_cons, List.map_nil]); first | done | rfl | (simp only [List.length_drop, List.length_take]; rfl)) ?_; (with_reducible refine (smaltoref04_May.calls a0 a1 false _ A4.out).mono ?_); rintro e w' ⟨rfl, ⟨nd, rfl⟩⟩; refine ⟨_, rfl, ?_⟩))
      go_meet
      case rel => exact ⟨_, (true), (by first | rfl | (simp; done) | (simp [*]; done)), H', ⟨by first | omega | exact Nat.le_refl _⟩, ⟨by repeat (first | (with_reducible first | exact HB.out | apply below_alloc | apply pw_below_drewN | apply below_drew1) | exact HB.out)⟩⟩
  case rest =>
    clear HC3
    try clear c1
    try clear p2
    try clear c5
    try clear c6
    try clear c6b0
    try clear p6
    obtain ⟨kq, x21_2, rfl, HA, HJ2, HB⟩ := hcut
    cases kq with
    | zero => exact absurd HA.out (by simp [smaltoref04_Lanczos.j0])
    | succ kj2 =>
      have H := HA.out
      clear HA
      simp only [smaltoref04_Lanczos.j0] at H
      by_cases c7 : x21_2 = true
      · subst c7
        have H1 : (some 0) = some r := by rw [if_pos rfl] at H; exact H
        clear H
        have H := H1
        clear H1
        obtain rfl := Option.some.inj H
        go_wp2
        go_ret
        exact ⟨by first | rfl | (simp [errW_none, errW_some] <;> rfl) | (simp [*, errW_none, errW_some] <;> rfl), by repeat (first | (with_reducible first | exact HB.out | apply below_alloc | apply pw_below_drewN | apply below_drew1) | exact HB.out)⟩
      · replace c7 := Bool.eq_false_iff.mpr c7
        subst c7
        have H1 : ((smaltoref04_Series.f kj2 a0 a1).bind fun t238 => ((smaltoref04_Series.f kj2 a0 (wrap64 (3 * a1))).bind fun t239 => ((smaltoref02_MulShift.f kj2 t238 t239 40).bind fun t240 => ((smaltoref01_Shift.f kj2 t240 10).bind fun t241 => (some t241))))) = some r := by rw [if_neg (show ¬ (false = true) by decide)] at H; exact H
        clear H
        have H := H1
        clear H1
        replace H := Option.bind_eq_some_iff.mp H
        obtain ⟨t238, A80, H⟩ := H
        replace H : ((smaltoref04_Series.f kj2 a0 (wrap64 (3 * a1))).bind fun t239 => ((smaltoref02_MulShift.f kj2 t238 t239 40).bind fun t240 => ((smaltoref01_Shift.f kj2 t240 10).bind fun t241 => (some t241)))) = some r := H
        have A8 := Aside0.mk A80
        clear A80
        replace H := Option.bind_eq_some_iff.mp H
        obtain ⟨t239, A90, H⟩ := H
        replace H : ((smaltoref02_MulShift.f kj2 t238 t239 40).bind fun t240 => ((smaltoref01_Shift.f kj2 t240 10).bind fun t241 => (some t241))) = some r := H
        have A9 := Aside0.mk A90
        clear A90
        replace H := Option.bind_eq_some_iff.mp H
        obtain ⟨t240, A100, H⟩ := H
        replace H : ((smaltoref01_Shift.f kj2 t240 10).bind fun t241 => (some t241)) = some r := H
        have A10 := Aside0.mk A100
        clear A100
        replace H := Option.bind_eq_some_iff.mp H
        obtain ⟨t241, A110, H⟩ := H
        replace H : (some t241) = some r := H
        have A11 := Aside0.mk A110
        clear A110
        obtain rfl := Option.some.inj H
        go_wp2_with (first | ((with_reducible refine gate_callee (f := 14) rfl ?_); refine goesL_ (some 24) rfl rfl Try.func14 (by kernel_rfl) rfl #[.int .i64 a0, .int .i64 a1] rfl (by (try simp only [List.map_toArray, List.map_cons, List.map_nil]); first | done | rfl | (simp only [List.length_drop, List.length_take]; rfl)) ?_; (with_reducible refine (smaltoref04_Series.calls kj2 a0 a1 t238 _ A8.out).mono ?_); rintro e w12 ⟨rfl, hb⟩; refine ⟨_, rfl, ?_⟩; have n0_ := Aside0.mk (below_step (by repeat (first | (with_reducible first | exact HB.out | apply below_alloc | apply pw_below_drewN | apply below_drew1) | exact HB.out)) hb); clear HB; have HB := n0_; clear n0_; (try clear hb); (try clear hb2); (try clear hk); (try clear hi)) | ((with_reducible refine gate_callee (f := 14) rfl ?_); refine goesL_ (some 28) rfl rfl Try.func14 (by kernel_rfl) rfl #[.int .i64 a0, .int .i64 (wrap64 (3 * a1))] rfl (by (try simp only [List.map_toArray, List.map_cons, List.map_nil]); first | done | rfl | (simp only [List.length_drop, List.length_take]; rfl)) ?_; (with_reducible refine (smaltoref04_Series.calls kj2 a0 (wrap64 (3 * a1)) t239 _ A9.out).mono ?_); rintro e w13 ⟨rfl, hb⟩; refine ⟨_, rfl, ?_⟩; have n0_ := Aside0.mk (below_step (by repeat (first | (with_reducible first | exact HB.out | apply below_alloc | apply pw_below_drewN | apply below_drew1) | exact HB.out)) hb); clear HB; have HB := n0_; clear n0_; (try clear hb); (try clear hb2); (try clear hk); (try clear hi)) | ((with_reducible refine gate_callee (f := 18) rfl ?_); refine goesL_ (some 29) rfl rfl Try.func18 (by kernel_rfl) rfl #[.int .i64 t238, .int .i64 t239, .int .i64 40] rfl (by (try simp only [List.map_toArray, List.map_cons, List.map_nil]); first | done | rfl | (simp only [List.length_drop, List.length_take]; rfl)) ?_; (with_reducible refine (smaltoref02_MulShift.calls kj2 t238 t239 40 t240 _ A10.out).mono ?_); rintro e w14 ⟨rfl, hb⟩; refine ⟨_, rfl, ?_⟩; have n0_ := Aside0.mk (below_step (by repeat (first | (with_reducible first | exact HB.out | apply below_alloc | apply pw_below_drewN | apply below_drew1) | exact HB.out)) hb); clear HB; have HB := n0_; clear n0_; (try clear hb); (try clear hb2); (try clear hk); (try clear hi)) | ((with_reducible refine gate_callee (f := 19) rfl ?_); refine goesL_ (some 31) rfl rfl Try.func19 (by kernel_rfl) rfl #[.int .i64 t240, .int .i64 10] rfl (by (try simp only [List.map_toArray, List.map_cons, List.map_nil]); first | done | rfl | (simp only [List.length_drop, List.length_take]; rfl)) ?_; (with_reducible refine (smaltoref01_Shift.calls kj2 t240 10 t241 _ A11.out).mono ?_); rintro e w15 ⟨rfl, hb⟩; refine ⟨_, rfl, ?_⟩; have n0_ := Aside0.mk (below_step (by repeat (first | (with_reducible first | exact HB.out | apply below_alloc | apply pw_below_drewN | apply below_drew1) | exact HB.out)) hb); clear HB; have HB := n0_; clear n0_; (try clear hb); (try clear hb2); (try clear hk); (try clear hi)))
        go_ret
        exact ⟨by first | rfl | (simp [errW_none, errW_some] <;> rfl) | (simp [*, errW_none, errW_some] <;> rfl), by repeat (first | (with_reducible first | exact HB.out | apply below_alloc | apply pw_below_drewN | apply below_drew1) | exact HB.out)⟩

/-! ### smaltolaw04_SincSteps: function 3 -/
def smaltolaw04_SincSteps.f (k : Nat) (a0 : Int) (a1 : Int) : Option (Bool) := (smaltolaw04_lives.f k).bind fun t242 => (if t242 = true then ((sinc_May.f a0 a1).bind fun t243 => ((smaltoref04_May.f a0 a1).bind fun t244 => (if (t243 == t244) = true then ((sinc_Sinc.f k a0 a1).bind fun t245 => ((smaltoref04_Sinc.f k a0 a1).bind fun t246 => (if t245 = t246 then ((sinc_Lanczos.f k a0 a1).bind fun t247 => ((smaltoref04_Lanczos.f k a0 a1).bind fun t248 => (some (t247 == t248)))) else (some false)))) else (some false)))) else (some false))
theorem smaltolaw04_SincSteps.mono : ∀ a0 a1 k, LeO (smaltolaw04_SincSteps.f k a0 a1) (smaltolaw04_SincSteps.f (k + 1) a0 a1) := by
  intro a0 a1 k
  unfold smaltolaw04_SincSteps.f
  repeat' first
      | (with_reducible exact sinc_Lanczos.mono _ _ _)
      | (with_reducible exact sinc_Sinc.mono _ _ _)
      | (with_reducible exact smaltolaw04_lives.mono _)
      | (with_reducible exact smaltoref04_Lanczos.mono _ _ _)
      | (with_reducible exact smaltoref04_Sinc.mono _ _ _)
      | (with_reducible exact LeO.refl _)
      | (with_reducible exact LeO.none _)
      | (with_reducible refine LeO.ite ?_ ?_)
      | (with_reducible refine LeO.bind ?_ (fun _ => ?_))
      | exact sinc_Lanczos.mono _ _ _
      | exact sinc_Sinc.mono _ _ _
      | exact smaltolaw04_lives.mono _
      | exact smaltoref04_Lanczos.mono _ _ _
      | exact smaltoref04_Sinc.mono _ _ _
      | exact LeO.none _
      | refine LeO.ite ?_ ?_
      | refine LeO.bind ?_ (fun _ => ?_)
set_option maxHeartbeats 8000000 in
set_option maxRecDepth 100000 in
theorem smaltolaw04_SincSteps.calls (k : Nat) (a0 : Int) (a1 : Int) (r : Bool) (w : World) (h : smaltolaw04_SincSteps.f k a0 a1 = some r) :
    Calls Try.prog 3 #[.int .i64 a0, .int .i64 a1] w fun e w' => e = .returned (.bool r) ∧ Below w.heap.size w w' := by
  have HB := Aside0.mk (Below.refl w.heap.size w)
  have H : ((smaltolaw04_lives.f k).bind fun t242 => (if t242 = true then ((sinc_May.f a0 a1).bind fun t243 => ((smaltoref04_May.f a0 a1).bind fun t244 => (if (t243 == t244) = true then ((sinc_Sinc.f k a0 a1).bind fun t245 => ((smaltoref04_Sinc.f k a0 a1).bind fun t246 => (if t245 = t246 then ((sinc_Lanczos.f k a0 a1).bind fun t247 => ((smaltoref04_Lanczos.f k a0 a1).bind fun t248 => (some (t247 == t248)))) else (some false)))) else (some false)))) else (some false))) = some r := h
  clear h
  replace H := Option.bind_eq_some_iff.mp H
  obtain ⟨t242, A30, H⟩ := H
  replace H : (if t242 = true then ((sinc_May.f a0 a1).bind fun t243 => ((smaltoref04_May.f a0 a1).bind fun t244 => (if (t243 == t244) = true then ((sinc_Sinc.f k a0 a1).bind fun t245 => ((smaltoref04_Sinc.f k a0 a1).bind fun t246 => (if t245 = t246 then ((sinc_Lanczos.f k a0 a1).bind fun t247 => ((smaltoref04_Lanczos.f k a0 a1).bind fun t248 => (some (t247 == t248)))) else (some false)))) else (some false)))) else (some false)) = some r := H
  have A3 := Aside0.mk A30
  clear A30
  by_cases c4 : t242 = true
  · subst c4
    have H1 : ((sinc_May.f a0 a1).bind fun t243 => ((smaltoref04_May.f a0 a1).bind fun t244 => (if (t243 == t244) = true then ((sinc_Sinc.f k a0 a1).bind fun t245 => ((smaltoref04_Sinc.f k a0 a1).bind fun t246 => (if t245 = t246 then ((sinc_Lanczos.f k a0 a1).bind fun t247 => ((smaltoref04_Lanczos.f k a0 a1).bind fun t248 => (some (t247 == t248)))) else (some false)))) else (some false)))) = some r := by rw [if_pos rfl] at H; exact H
    clear H
    have H := H1
    clear H1
    replace H := Option.bind_eq_some_iff.mp H
    obtain ⟨t243, A50, H⟩ := H
    replace H : ((smaltoref04_May.f a0 a1).bind fun t244 => (if (t243 == t244) = true then ((sinc_Sinc.f k a0 a1).bind fun t245 => ((smaltoref04_Sinc.f k a0 a1).bind fun t246 => (if t245 = t246 then ((sinc_Lanczos.f k a0 a1).bind fun t247 => ((smaltoref04_Lanczos.f k a0 a1).bind fun t248 => (some (t247 == t248)))) else (some false)))) else (some false))) = some r := H
    have A5 := Aside0.mk A50
    clear A50
    replace H := Option.bind_eq_some_iff.mp H
    obtain ⟨t244, A60, H⟩ := H
    replace H : (if (t243 == t244) = true then ((sinc_Sinc.f k a0 a1).bind fun t245 => ((smaltoref04_Sinc.f k a0 a1).bind fun t246 => (if t245 = t246 then ((sinc_Lanczos.f k a0 a1).bind fun t247 => ((smaltoref04_Lanczos.f k a0 a1).bind fun t248 => (some (t247 == t248)))) else (some false)))) else (some false)) = some r := H
    have A6 := Aside0.mk A60
    clear A60
    by_cases c7 : (t243 == t244) = true
    · rw [if_pos c7] at H
      have c7b0 : (t243 == t244) = true := c7
      (try (have c7b1 : decide (t243 = t244) = true := by simpa using c7))
      (try (have c7b2 : (t243 == t244) = true := by simpa using c7))
      clear c7
      replace H := Option.bind_eq_some_iff.mp H
      obtain ⟨t245, A80, H⟩ := H
      replace H : ((smaltoref04_Sinc.f k a0 a1).bind fun t246 => (if t245 = t246 then ((sinc_Lanczos.f k a0 a1).bind fun t247 => ((smaltoref04_Lanczos.f k a0 a1).bind fun t248 => (some (t247 == t248)))) else (some false))) = some r := H
      have A8 := Aside0.mk A80
      clear A80
      replace H := Option.bind_eq_some_iff.mp H
      obtain ⟨t246, A90, H⟩ := H
      replace H : (if t245 = t246 then ((sinc_Lanczos.f k a0 a1).bind fun t247 => ((smaltoref04_Lanczos.f k a0 a1).bind fun t248 => (some (t247 == t248)))) else (some false)) = some r := H
      have A9 := Aside0.mk A90
      clear A90
      by_cases c10 : t245 = t246
      · rw [if_pos c10] at H
        have c10b0 : (t245 == t246) = true := beq_iff_eq.mpr c10
        have c10b1 : (t245 != t246) = false := bne_eq_false_iff_eq.mpr c10
        clear c10
        replace H := Option.bind_eq_some_iff.mp H
        obtain ⟨t247, A110, H⟩ := H
        replace H : ((smaltoref04_Lanczos.f k a0 a1).bind fun t248 => (some (t247 == t248))) = some r := H
        have A11 := Aside0.mk A110
        clear A110
        replace H := Option.bind_eq_some_iff.mp H
        obtain ⟨t248, A120, H⟩ := H
        replace H : (some (t247 == t248)) = some r := H
        have A12 := Aside0.mk A120
        clear A120
        obtain rfl := Option.some.inj H
        go_enter Try.func3, Try.ntmps3
        go_wp2_with (first | ((with_reducible refine gate_callee (f := 6) rfl ?_); refine goesL_ (some 5) rfl rfl Try.func6 (by kernel_rfl) rfl #[] rfl (by (try simp only [List.map_toArray, List.map_cons, List.map_nil]); first | done | rfl | (simp only [List.length_drop, List.length_take]; rfl)) ?_; (with_reducible refine (smaltolaw04_lives.calls k  true _ A3.out).mono ?_); rintro e w13 ⟨rfl, hb⟩; refine ⟨_, rfl, ?_⟩; have n0_ := Aside0.mk (below_step (by repeat (first | (with_reducible first | exact HB.out | apply below_alloc | apply pw_below_drewN | apply below_drew1) | exact HB.out)) hb); clear HB; have HB := n0_; clear n0_; (try clear hb); (try clear hb2); (try clear hk); (try clear hi)) | ((with_reducible refine gate_callee (f := 7) rfl ?_); refine goesL_ (some 9) rfl rfl Try.func7 (by kernel_rfl) rfl #[.int .i64 a0, .int .i64 a1] rfl (by (try simp only [List.map_toArray, List.map_cons, List.map_nil]); first | done | rfl | (simp only [List.length_drop, List.length_take]; rfl)) ?_; (with_reducible refine (sinc_May.calls a0 a1 t243 _ A5.out).mono ?_); rintro e w' ⟨rfl, ⟨nd, rfl⟩⟩; refine ⟨_, rfl, ?_⟩) | ((with_reducible refine gate_callee (f := 8) rfl ?_); refine goesL_ (some 12) rfl rfl Try.func8 (by kernel_rfl) rfl #[.int .i64 a0, .int .i64 a1] rfl (by (try simp only [List.map_toArray, List.map_cons, List.map_nil]); first | done | rfl | (simp only [List.length_drop, List.length_take]; rfl)) ?_; (with_reducible refine (smaltoref04_May.calls a0 a1 t244 _ A6.out).mono ?_); rintro e w' ⟨rfl, ⟨nd, rfl⟩⟩; refine ⟨_, rfl, ?_⟩) | (go_at_call 9; (with_reducible refine (sinc_Sinc.calls k a0 a1 t245 _ A8.out).mono ?_); rintro e w14 ⟨rfl, hb⟩; have n0_ := Aside0.mk (below_step (by repeat (first | (with_reducible first | exact HB.out | apply below_alloc | apply pw_below_drewN | apply below_drew1) | exact HB.out)) hb); clear HB; have HB := n0_; clear n0_; (try clear hb); (try clear hb2); (try clear hk); (try clear hi)) | (go_at_call 10; (with_reducible refine (smaltoref04_Sinc.calls k a0 a1 t246 _ A9.out).mono ?_); rintro e w15 ⟨rfl, hb⟩; have n0_ := Aside0.mk (below_step (by repeat (first | (with_reducible first | exact HB.out | apply below_alloc | apply pw_below_drewN | apply below_drew1) | exact HB.out)) hb); clear HB; have HB := n0_; clear n0_; (try clear hb); (try clear hb2); (try clear hk); (try clear hi)) | (go_at_call 11; (with_reducible refine (sinc_Lanczos.calls k a0 a1 t247 _ A11.out).mono ?_); rintro e w16 ⟨rfl, hb⟩; have n0_ := Aside0.mk (below_step (by repeat (first | (with_reducible first | exact HB.out | apply below_alloc | apply pw_below_drewN | apply below_drew1) | exact HB.out)) hb); clear HB; have HB := n0_; clear n0_; (try clear hb); (try clear hb2); (try clear hk); (try clear hi)) | (go_at_call 12; (with_reducible refine (smaltoref04_Lanczos.calls k a0 a1 t248 _ A12.out).mono ?_); rintro e w17 ⟨rfl, hb⟩; have n0_ := Aside0.mk (below_step (by repeat (first | (with_reducible first | exact HB.out | apply below_alloc | apply pw_below_drewN | apply below_drew1) | exact HB.out)) hb); clear HB; have HB := n0_; clear n0_; (try clear hb); (try clear hb2); (try clear hk); (try clear hi)))
        go_ret
        exact ⟨by first | rfl | (simp [errW_none, errW_some] <;> rfl) | (simp [*, errW_none, errW_some] <;> rfl), by repeat (first | (with_reducible first | exact HB.out | apply below_alloc | apply pw_below_drewN | apply below_drew1) | exact HB.out)⟩
      · rw [if_neg c10] at H
        have c10b0 : (t245 == t246) = false := beq_eq_false_iff_ne.mpr c10
        have c10b1 : (t245 != t246) = true := bne_iff_ne.mpr c10
        obtain rfl := Option.some.inj H
        go_enter Try.func3, Try.ntmps3
        go_wp2_with (first | ((with_reducible refine gate_callee (f := 6) rfl ?_); refine goesL_ (some 5) rfl rfl Try.func6 (by kernel_rfl) rfl #[] rfl (by (try simp only [List.map_toArray, List.map_cons, List.map_nil]); first | done | rfl | (simp only [List.length_drop, List.length_take]; rfl)) ?_; (with_reducible refine (smaltolaw04_lives.calls k  true _ A3.out).mono ?_); rintro e w18 ⟨rfl, hb⟩; refine ⟨_, rfl, ?_⟩; have n0_ := Aside0.mk (below_step (by repeat (first | (with_reducible first | exact HB.out | apply below_alloc | apply pw_below_drewN | apply below_drew1) | exact HB.out)) hb); clear HB; have HB := n0_; clear n0_; (try clear hb); (try clear hb2); (try clear hk); (try clear hi)) | ((with_reducible refine gate_callee (f := 7) rfl ?_); refine goesL_ (some 9) rfl rfl Try.func7 (by kernel_rfl) rfl #[.int .i64 a0, .int .i64 a1] rfl (by (try simp only [List.map_toArray, List.map_cons, List.map_nil]); first | done | rfl | (simp only [List.length_drop, List.length_take]; rfl)) ?_; (with_reducible refine (sinc_May.calls a0 a1 t243 _ A5.out).mono ?_); rintro e w' ⟨rfl, ⟨nd, rfl⟩⟩; refine ⟨_, rfl, ?_⟩) | ((with_reducible refine gate_callee (f := 8) rfl ?_); refine goesL_ (some 12) rfl rfl Try.func8 (by kernel_rfl) rfl #[.int .i64 a0, .int .i64 a1] rfl (by (try simp only [List.map_toArray, List.map_cons, List.map_nil]); first | done | rfl | (simp only [List.length_drop, List.length_take]; rfl)) ?_; (with_reducible refine (smaltoref04_May.calls a0 a1 t244 _ A6.out).mono ?_); rintro e w' ⟨rfl, ⟨nd, rfl⟩⟩; refine ⟨_, rfl, ?_⟩) | (go_at_call 9; (with_reducible refine (sinc_Sinc.calls k a0 a1 t245 _ A8.out).mono ?_); rintro e w19 ⟨rfl, hb⟩; have n0_ := Aside0.mk (below_step (by repeat (first | (with_reducible first | exact HB.out | apply below_alloc | apply pw_below_drewN | apply below_drew1) | exact HB.out)) hb); clear HB; have HB := n0_; clear n0_; (try clear hb); (try clear hb2); (try clear hk); (try clear hi)) | (go_at_call 10; (with_reducible refine (smaltoref04_Sinc.calls k a0 a1 t246 _ A9.out).mono ?_); rintro e w20 ⟨rfl, hb⟩; have n0_ := Aside0.mk (below_step (by repeat (first | (with_reducible first | exact HB.out | apply below_alloc | apply pw_below_drewN | apply below_drew1) | exact HB.out)) hb); clear HB; have HB := n0_; clear n0_; (try clear hb); (try clear hb2); (try clear hk); (try clear hi)))
        go_ret
        exact ⟨by first | rfl | (simp [errW_none, errW_some] <;> rfl) | (simp [*, errW_none, errW_some] <;> rfl), by repeat (first | (with_reducible first | exact HB.out | apply below_alloc | apply pw_below_drewN | apply below_drew1) | exact HB.out)⟩
    · rw [if_neg c7] at H
      have c7b0 : (t243 == t244) = false := by simpa using c7
      (try (have c7b1 : decide (t243 = t244) = false := by simpa using c7))
      (try (have c7b2 : (t243 == t244) = false := by simpa using c7))
      (try (have c7b3 : ¬ (t243 = t244) := by simpa using c7))
      clear c7
      obtain rfl := Option.some.inj H
      go_enter Try.func3, Try.ntmps3
      go_wp2_with (first | ((with_reducible refine gate_callee (f := 6) rfl ?_); refine goesL_ (some 5) rfl rfl Try.func6 (by kernel_rfl) rfl #[] rfl (by (try simp only [List.map_toArray, List.map_cons, List.map_nil]); first | done | rfl | (simp only [List.length_drop, List.length_take]; rfl)) ?_; (with_reducible refine (smaltolaw04_lives.calls k  true _ A3.out).mono ?_); rintro e w21 ⟨rfl, hb⟩; refine ⟨_, rfl, ?_⟩; have n0_ := Aside0.mk (below_step (by repeat (first | (with_reducible first | exact HB.out | apply below_alloc | apply pw_below_drewN | apply below_drew1) | exact HB.out)) hb); clear HB; have HB := n0_; clear n0_; (try clear hb); (try clear hb2); (try clear hk); (try clear hi)) | ((with_reducible refine gate_callee (f := 7) rfl ?_); refine goesL_ (some 9) rfl rfl Try.func7 (by kernel_rfl) rfl #[.int .i64 a0, .int .i64 a1] rfl (by (try simp only [List.map_toArray, List.map_cons, List.map_nil]); first | done | rfl | (simp only [List.length_drop, List.length_take]; rfl)) ?_; (with_reducible refine (sinc_May.calls a0 a1 t243 _ A5.out).mono ?_); rintro e w' ⟨rfl, ⟨nd, rfl⟩⟩; refine ⟨_, rfl, ?_⟩) | ((with_reducible refine gate_callee (f := 8) rfl ?_); refine goesL_ (some 12) rfl rfl Try.func8 (by kernel_rfl) rfl #[.int .i64 a0, .int .i64 a1] rfl (by (try simp only [List.map_toArray, List.map_cons, List.map_nil]); first | done | rfl | (simp only [List.length_drop, List.length_take]; rfl)) ?_; (with_reducible refine (smaltoref04_May.calls a0 a1 t244 _ A6.out).mono ?_); rintro e w' ⟨rfl, ⟨nd, rfl⟩⟩; refine ⟨_, rfl, ?_⟩))
      go_ret
      exact ⟨by first | rfl | (simp [errW_none, errW_some] <;> rfl) | (simp [*, errW_none, errW_some] <;> rfl), by repeat (first | (with_reducible first | exact HB.out | apply below_alloc | apply pw_below_drewN | apply below_drew1) | exact HB.out)⟩
  · replace c4 := Bool.eq_false_iff.mpr c4
    subst c4
    have H1 : (some false) = some r := by rw [if_neg (show ¬ (false = true) by decide)] at H; exact H
    clear H
    have H := H1
    clear H1
    obtain rfl := Option.some.inj H
    go_enter Try.func3, Try.ntmps3
    go_wp2_with (first | ((with_reducible refine gate_callee (f := 6) rfl ?_); refine goesL_ (some 5) rfl rfl Try.func6 (by kernel_rfl) rfl #[] rfl (by (try simp only [List.map_toArray, List.map_cons, List.map_nil]); first | done | rfl | (simp only [List.length_drop, List.length_take]; rfl)) ?_; (with_reducible refine (smaltolaw04_lives.calls k  false _ A3.out).mono ?_); rintro e w22 ⟨rfl, hb⟩; refine ⟨_, rfl, ?_⟩; have n0_ := Aside0.mk (below_step (by repeat (first | (with_reducible first | exact HB.out | apply below_alloc | apply pw_below_drewN | apply below_drew1) | exact HB.out)) hb); clear HB; have HB := n0_; clear n0_; (try clear hb); (try clear hb2); (try clear hk); (try clear hi)))
    go_ret
    exact ⟨by first | rfl | (simp [errW_none, errW_some] <;> rfl) | (simp [*, errW_none, errW_some] <;> rfl), by repeat (first | (with_reducible first | exact HB.out | apply below_alloc | apply pw_below_drewN | apply below_drew1) | exact HB.out)⟩

/-- THE ONE PURE STATEMENT of smaltolaw04_SincSteps: yours. -/
def smaltolaw04_SincSteps.Pure : Prop := ∀ (a0 : Int) (a1 : Int), (Lit.int .i64 a0).wf = true → (Lit.int .i64 a1).wf = true → ∃ k, smaltolaw04_SincSteps.f k a0 a1 = some true
theorem smaltolaw04_SincSteps.walk (P : smaltolaw04_SincSteps.Pure) (a0 : Int) (a1 : Int) (w : World) (w0 : (Lit.int .i64 a0).wf = true) (w1 : (Lit.int .i64 a1).wf = true) :
    Calls Try.prog 3 #[.int .i64 a0, .int .i64 a1] w fun e w' => e = .returned (.bool true) ∧ Below w.heap.size w w' := by
  obtain ⟨k, h⟩ := P a0 a1 w0 w1
  refine (smaltolaw04_SincSteps.calls k a0 a1 true w h).mono ?_
  rintro e w' ⟨rfl, hd⟩
  exact ⟨rfl, hd⟩

end Go.Proofs.Ytbkbgpileogehaa.QA
