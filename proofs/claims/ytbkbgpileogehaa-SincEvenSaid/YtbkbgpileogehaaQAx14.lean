-- Written by wip/tools/pp.py over the kit's print.py; not trusted: Lean checks it.
import Derived.Test.YtbkbgpileogehaaQAx0
import Derived.Test.YtbkbgpileogehaaQAx1
import Derived.Test.YtbkbgpileogehaaQAx3
import Derived.Test.YtbkbgpileogehaaQAx5
import Derived.Test.YtbkbgpileogehaaQAx6
namespace Go.Proofs.Ytbkbgpileogehaa.QA
open Go.Proofs.Ytbkbgpileogehaa.T
open Go.RowKit Go.Proofs.YtbkbgpileogehaaW.PrintWords Go.Proofs.YtbkbgpileogehaaW.PrintLast Go.Proofs.YtbkbgpileogehaaW.PrintMore
attribute [local go_sem] ext_call max2_int min2_int max_two min_two max_three min_three max_four min_four   -- for this text's walks alone
set_option linter.unusedVariables false
set_option linter.unusedSimpArgs false

/-! ### smaltolaw04_SincEven: function 4 -/
def smaltolaw04_SincEven.j0 : Nat → Int → Int → Bool → Option (Bool)
  | 0, _, _, _ => none
  | k + 1, x0, x1, x10 => if x10 = true then ((smaltolaw04_lives.f k).bind fun t250 => (some t250)) else ((sinc_May.f x0 x1).bind fun t251 => ((sinc_May.f (wrap64 (-x0)) x1).bind fun t252 => (if (t251 == t252) = true then ((sinc_Sinc.f k x0 x1).bind fun t253 => ((sinc_Sinc.f k (wrap64 (-x0)) x1).bind fun t254 => (if t253 = t254 then ((sinc_Lanczos.f k x0 x1).bind fun t255 => ((sinc_Lanczos.f k (wrap64 (-x0)) x1).bind fun t256 => (some (t255 == t256)))) else (some false)))) else (some false))))
def smaltolaw04_SincEven.f (k : Nat) (a0 : Int) (a1 : Int) : Option (Bool) := (smaltolaw04_lives.f k).bind fun t249 => (if t249 = true then (smaltolaw04_SincEven.j0 k a0 a1 (a0 == (-9223372036854775808))) else (smaltolaw04_SincEven.j0 k a0 a1 true))
theorem smaltolaw04_SincEven.mono_l : ∀ k, (∀ y0 y1 y2, LeO (smaltolaw04_SincEven.j0 k y0 y1 y2) (smaltolaw04_SincEven.j0 (k + 1) y0 y1 y2))
  | 0 => fun _ _ _ r h => by simp [smaltolaw04_SincEven.j0] at h
  | k + 1 => by
    have ih0 := smaltolaw04_SincEven.mono_l k
    · intro y0 y1 y2
      unfold smaltolaw04_SincEven.j0
      repeat' first
      | (with_reducible exact ih0 _ _ _)
      | (with_reducible exact sinc_Lanczos.mono _ _ _)
      | (with_reducible exact sinc_Sinc.mono _ _ _)
      | (with_reducible exact smaltolaw04_lives.mono _)
      | (with_reducible exact LeO.refl _)
      | (with_reducible exact LeO.none _)
      | (with_reducible refine LeO.ite ?_ ?_)
      | (with_reducible refine LeO.bind ?_ (fun _ => ?_))
      | exact ih0 _ _ _
      | exact sinc_Lanczos.mono _ _ _
      | exact sinc_Sinc.mono _ _ _
      | exact smaltolaw04_lives.mono _
      | exact LeO.none _
      | refine LeO.ite ?_ ?_
      | refine LeO.bind ?_ (fun _ => ?_)
theorem smaltolaw04_SincEven.mono : ∀ a0 a1 k, LeO (smaltolaw04_SincEven.f k a0 a1) (smaltolaw04_SincEven.f (k + 1) a0 a1) := by
  intro a0 a1 k
  have ih0 := smaltolaw04_SincEven.mono_l k
  unfold smaltolaw04_SincEven.f
  repeat' first
      | (with_reducible exact ih0 _ _ _)
      | (with_reducible exact sinc_Lanczos.mono _ _ _)
      | (with_reducible exact sinc_Sinc.mono _ _ _)
      | (with_reducible exact smaltolaw04_lives.mono _)
      | (with_reducible exact LeO.refl _)
      | (with_reducible exact LeO.none _)
      | (with_reducible refine LeO.ite ?_ ?_)
      | (with_reducible refine LeO.bind ?_ (fun _ => ?_))
      | exact ih0 _ _ _
      | exact sinc_Lanczos.mono _ _ _
      | exact sinc_Sinc.mono _ _ _
      | exact smaltolaw04_lives.mono _
      | exact LeO.none _
      | refine LeO.ite ?_ ?_
      | refine LeO.bind ?_ (fun _ => ?_)
set_option maxHeartbeats 8000000 in
set_option maxRecDepth 100000 in
theorem smaltolaw04_SincEven.calls (k : Nat) (a0 : Int) (a1 : Int) (r : Bool) (w : World) (h : smaltolaw04_SincEven.f k a0 a1 = some r) :
    Calls Try.prog 4 #[.int .i64 a0, .int .i64 a1] w fun e w' => e = .returned (.bool r) ∧ Below w.heap.size w w' := by
  have HB := Aside0.mk (Below.refl w.heap.size w)
  have H : ((smaltolaw04_lives.f k).bind fun t249 => (if t249 = true then (smaltolaw04_SincEven.j0 k a0 a1 (a0 == (-9223372036854775808))) else (smaltolaw04_SincEven.j0 k a0 a1 true))) = some r := h
  clear h
  have HC3 := Aside0.mk H
  clear H
  go_enter Try.func4, Try.ntmps4
  go_upto_region 1 with (fail)
  go_cut [10] (fun v10 wc => ∃ (kq : Nat) (x10_2 : Bool), v10 = .bool x10_2 ∧ Aside0 (smaltolaw04_SincEven.j0 kq a0 a1 x10_2 = some r) ∧ Aside0 (kq ≤ k) ∧ Aside0 (Below w.heap.size w wc))
  case first =>
    have H := HC3.out
    clear HC3
    replace H := Option.bind_eq_some_iff.mp H
    obtain ⟨t249, A40, H⟩ := H
    replace H : (if t249 = true then (smaltolaw04_SincEven.j0 k a0 a1 (a0 == (-9223372036854775808))) else (smaltolaw04_SincEven.j0 k a0 a1 true)) = some r := H
    have A4 := Aside0.mk A40
    clear A40
    by_cases c5 : t249 = true
    · subst c5
      have H1 : (smaltolaw04_SincEven.j0 k a0 a1 (a0 == (-9223372036854775808))) = some r := by rw [if_pos rfl] at H; exact H
      clear H
      have H := H1
      clear H1
      have H' := Aside0.mk H
      clear H
      go_wp2_with (first | ((with_reducible refine gate_callee (f := 6) rfl ?_); refine goesL_ (some 5) rfl rfl Try.func6 (by kernel_rfl) rfl #[] rfl (by (try simp only [List.map_toArray, List.map_cons, List.map_nil]); first | done | rfl | (simp only [List.length_drop, List.length_take]; rfl)) ?_; (with_reducible refine (smaltolaw04_lives.calls k  true _ A4.out).mono ?_); rintro e w6 ⟨rfl, hb⟩; refine ⟨_, rfl, ?_⟩; have n0_ := Aside0.mk (below_step (by repeat (first | (with_reducible first | exact HB.out | apply below_alloc | apply pw_below_drewN | apply below_drew1) | exact HB.out)) hb); clear HB; have HB := n0_; clear n0_; (try clear hb); (try clear hb2); (try clear hk); (try clear hi)))
      go_meet
      case rel => exact ⟨_, ((a0 == (-9223372036854775808))), (by first | rfl | (simp; done) | (simp [*]; done)), H', ⟨by first | omega | exact Nat.le_refl _⟩, ⟨by repeat (first | (with_reducible first | exact HB.out | apply below_alloc | apply pw_below_drewN | apply below_drew1) | exact HB.out)⟩⟩
    · replace c5 := Bool.eq_false_iff.mpr c5
      subst c5
      have H1 : (smaltolaw04_SincEven.j0 k a0 a1 true) = some r := by rw [if_neg (show ¬ (false = true) by decide)] at H; exact H
      clear H
      have H := H1
      clear H1
      have H' := Aside0.mk H
      clear H
      go_wp2_with (first | ((with_reducible refine gate_callee (f := 6) rfl ?_); refine goesL_ (some 5) rfl rfl Try.func6 (by kernel_rfl) rfl #[] rfl (by (try simp only [List.map_toArray, List.map_cons, List.map_nil]); first | done | rfl | (simp only [List.length_drop, List.length_take]; rfl)) ?_; (with_reducible refine (smaltolaw04_lives.calls k  false _ A4.out).mono ?_); rintro e w7 ⟨rfl, hb⟩; refine ⟨_, rfl, ?_⟩; have n0_ := Aside0.mk (below_step (by repeat (first | (with_reducible first | exact HB.out | apply below_alloc | apply pw_below_drewN | apply below_drew1) | exact HB.out)) hb); clear HB; have HB := n0_; clear n0_; (try clear hb); (try clear hb2); (try clear hk); (try clear hi)))
      go_meet
      case rel => exact ⟨_, (true), (by first | rfl | (simp; done) | (simp [*]; done)), H', ⟨by first | omega | exact Nat.le_refl _⟩, ⟨by repeat (first | (with_reducible first | exact HB.out | apply below_alloc | apply pw_below_drewN | apply below_drew1) | exact HB.out)⟩⟩
  case rest =>
    clear HC3
    try clear p2
    try clear c4
    try clear c5
    try clear c6
    obtain ⟨kq, x10_2, rfl, HA, HJ2, HB⟩ := hcut
    cases kq with
    | zero => exact absurd HA.out (by simp [smaltolaw04_SincEven.j0])
    | succ kj2 =>
      have H := HA.out
      clear HA
      simp only [smaltolaw04_SincEven.j0] at H
      by_cases c8 : x10_2 = true
      · subst c8
        have H1 : ((smaltolaw04_lives.f kj2).bind fun t250 => (some t250)) = some r := by rw [if_pos rfl] at H; exact H
        clear H
        have H := H1
        clear H1
        replace H := Option.bind_eq_some_iff.mp H
        obtain ⟨t250, A90, H⟩ := H
        replace H : (some t250) = some r := H
        have A9 := Aside0.mk A90
        clear A90
        obtain rfl := Option.some.inj H
        go_wp2_with (first | ((with_reducible refine gate_callee (f := 6) rfl ?_); refine goesL_ (some 11) rfl rfl Try.func6 (by kernel_rfl) rfl #[] rfl (by (try simp only [List.map_toArray, List.map_cons, List.map_nil]); first | done | rfl | (simp only [List.length_drop, List.length_take]; rfl)) ?_; (with_reducible refine (smaltolaw04_lives.calls kj2  t250 _ A9.out).mono ?_); rintro e w10 ⟨rfl, hb⟩; refine ⟨_, rfl, ?_⟩; have n0_ := Aside0.mk (below_step (by repeat (first | (with_reducible first | exact HB.out | apply below_alloc | apply pw_below_drewN | apply below_drew1) | exact HB.out)) hb); clear HB; have HB := n0_; clear n0_; (try clear hb); (try clear hb2); (try clear hk); (try clear hi)))
        go_ret
        exact ⟨by first | rfl | (simp [errW_none, errW_some] <;> rfl) | (simp [*, errW_none, errW_some] <;> rfl), by repeat (first | (with_reducible first | exact HB.out | apply below_alloc | apply pw_below_drewN | apply below_drew1) | exact HB.out)⟩
      · replace c8 := Bool.eq_false_iff.mpr c8
        subst c8
        have H1 : ((sinc_May.f a0 a1).bind fun t251 => ((sinc_May.f (wrap64 (-a0)) a1).bind fun t252 => (if (t251 == t252) = true then ((sinc_Sinc.f kj2 a0 a1).bind fun t253 => ((sinc_Sinc.f kj2 (wrap64 (-a0)) a1).bind fun t254 => (if t253 = t254 then ((sinc_Lanczos.f kj2 a0 a1).bind fun t255 => ((sinc_Lanczos.f kj2 (wrap64 (-a0)) a1).bind fun t256 => (some (t255 == t256)))) else (some false)))) else (some false)))) = some r := by rw [if_neg (show ¬ (false = true) by decide)] at H; exact H
        clear H
        have H := H1
        clear H1
        replace H := Option.bind_eq_some_iff.mp H
        obtain ⟨t251, A110, H⟩ := H
        replace H : ((sinc_May.f (wrap64 (-a0)) a1).bind fun t252 => (if (t251 == t252) = true then ((sinc_Sinc.f kj2 a0 a1).bind fun t253 => ((sinc_Sinc.f kj2 (wrap64 (-a0)) a1).bind fun t254 => (if t253 = t254 then ((sinc_Lanczos.f kj2 a0 a1).bind fun t255 => ((sinc_Lanczos.f kj2 (wrap64 (-a0)) a1).bind fun t256 => (some (t255 == t256)))) else (some false)))) else (some false))) = some r := H
        have A11 := Aside0.mk A110
        clear A110
        replace H := Option.bind_eq_some_iff.mp H
        obtain ⟨t252, A120, H⟩ := H
        replace H : (if (t251 == t252) = true then ((sinc_Sinc.f kj2 a0 a1).bind fun t253 => ((sinc_Sinc.f kj2 (wrap64 (-a0)) a1).bind fun t254 => (if t253 = t254 then ((sinc_Lanczos.f kj2 a0 a1).bind fun t255 => ((sinc_Lanczos.f kj2 (wrap64 (-a0)) a1).bind fun t256 => (some (t255 == t256)))) else (some false)))) else (some false)) = some r := H
        have A12 := Aside0.mk A120
        clear A120
        by_cases c13 : (t251 == t252) = true
        · rw [if_pos c13] at H
          have c13b0 : (t251 == t252) = true := c13
          (try (have c13b1 : decide (t251 = t252) = true := by simpa using c13))
          (try (have c13b2 : (t251 == t252) = true := by simpa using c13))
          clear c13
          replace H := Option.bind_eq_some_iff.mp H
          obtain ⟨t253, A140, H⟩ := H
          replace H : ((sinc_Sinc.f kj2 (wrap64 (-a0)) a1).bind fun t254 => (if t253 = t254 then ((sinc_Lanczos.f kj2 a0 a1).bind fun t255 => ((sinc_Lanczos.f kj2 (wrap64 (-a0)) a1).bind fun t256 => (some (t255 == t256)))) else (some false))) = some r := H
          have A14 := Aside0.mk A140
          clear A140
          replace H := Option.bind_eq_some_iff.mp H
          obtain ⟨t254, A150, H⟩ := H
          replace H : (if t253 = t254 then ((sinc_Lanczos.f kj2 a0 a1).bind fun t255 => ((sinc_Lanczos.f kj2 (wrap64 (-a0)) a1).bind fun t256 => (some (t255 == t256)))) else (some false)) = some r := H
          have A15 := Aside0.mk A150
          clear A150
          by_cases c16 : t253 = t254
          · rw [if_pos c16] at H
            have c16b0 : (t253 == t254) = true := beq_iff_eq.mpr c16
            have c16b1 : (t253 != t254) = false := bne_eq_false_iff_eq.mpr c16
            clear c16
            replace H := Option.bind_eq_some_iff.mp H
            obtain ⟨t255, A170, H⟩ := H
            replace H : ((sinc_Lanczos.f kj2 (wrap64 (-a0)) a1).bind fun t256 => (some (t255 == t256))) = some r := H
            have A17 := Aside0.mk A170
            clear A170
            replace H := Option.bind_eq_some_iff.mp H
            obtain ⟨t256, A180, H⟩ := H
            replace H : (some (t255 == t256)) = some r := H
            have A18 := Aside0.mk A180
            clear A180
            obtain rfl := Option.some.inj H
            go_wp2_with (first | ((with_reducible refine gate_callee (f := 7) rfl ?_); refine goesL_ (some 14) rfl rfl Try.func7 (by kernel_rfl) rfl #[.int .i64 a0, .int .i64 a1] rfl (by (try simp only [List.map_toArray, List.map_cons, List.map_nil]); first | done | rfl | (simp only [List.length_drop, List.length_take]; rfl)) ?_; (with_reducible refine (sinc_May.calls a0 a1 t251 _ A11.out).mono ?_); rintro e w' ⟨rfl, ⟨nd, rfl⟩⟩; refine ⟨_, rfl, ?_⟩) | ((with_reducible refine gate_callee (f := 7) rfl ?_); refine goesL_ (some 18) rfl rfl Try.func7 (by kernel_rfl) rfl #[.int .i64 (wrap64 (-a0)), .int .i64 a1] rfl (by (try simp only [List.map_toArray, List.map_cons, List.map_nil]); first | done | rfl | (simp only [List.length_drop, List.length_take]; rfl)) ?_; (with_reducible refine (sinc_May.calls (wrap64 (-a0)) a1 t252 _ A12.out).mono ?_); rintro e w' ⟨rfl, ⟨nd, rfl⟩⟩; refine ⟨_, rfl, ?_⟩) | (go_at_call 9; (with_reducible refine (sinc_Sinc.calls kj2 a0 a1 t253 _ A14.out).mono ?_); rintro e w19 ⟨rfl, hb⟩; have n0_ := Aside0.mk (below_step (by repeat (first | (with_reducible first | exact HB.out | apply below_alloc | apply pw_below_drewN | apply below_drew1) | exact HB.out)) hb); clear HB; have HB := n0_; clear n0_; (try clear hb); (try clear hb2); (try clear hk); (try clear hi)) | (go_at_call 9; (with_reducible refine (sinc_Sinc.calls kj2 (wrap64 (-a0)) a1 t254 _ A15.out).mono ?_); rintro e w20 ⟨rfl, hb⟩; have n0_ := Aside0.mk (below_step (by repeat (first | (with_reducible first | exact HB.out | apply below_alloc | apply pw_below_drewN | apply below_drew1) | exact HB.out)) hb); clear HB; have HB := n0_; clear n0_; (try clear hb); (try clear hb2); (try clear hk); (try clear hi)) | (go_at_call 11; (with_reducible refine (sinc_Lanczos.calls kj2 a0 a1 t255 _ A17.out).mono ?_); rintro e w21 ⟨rfl, hb⟩; have n0_ := Aside0.mk (below_step (by repeat (first | (with_reducible first | exact HB.out | apply below_alloc | apply pw_below_drewN | apply below_drew1) | exact HB.out)) hb); clear HB; have HB := n0_; clear n0_; (try clear hb); (try clear hb2); (try clear hk); (try clear hi)) | (go_at_call 11; (with_reducible refine (sinc_Lanczos.calls kj2 (wrap64 (-a0)) a1 t256 _ A18.out).mono ?_); rintro e w22 ⟨rfl, hb⟩; have n0_ := Aside0.mk (below_step (by repeat (first | (with_reducible first | exact HB.out | apply below_alloc | apply pw_below_drewN | apply below_drew1) | exact HB.out)) hb); clear HB; have HB := n0_; clear n0_; (try clear hb); (try clear hb2); (try clear hk); (try clear hi)))
            go_ret
            exact ⟨by first | rfl | (simp [errW_none, errW_some] <;> rfl) | (simp [*, errW_none, errW_some] <;> rfl), by repeat (first | (with_reducible first | exact HB.out | apply below_alloc | apply pw_below_drewN | apply below_drew1) | exact HB.out)⟩
          · rw [if_neg c16] at H
            have c16b0 : (t253 == t254) = false := beq_eq_false_iff_ne.mpr c16
            have c16b1 : (t253 != t254) = true := bne_iff_ne.mpr c16
            obtain rfl := Option.some.inj H
            go_wp2_with (first | ((with_reducible refine gate_callee (f := 7) rfl ?_); refine goesL_ (some 14) rfl rfl Try.func7 (by kernel_rfl) rfl #[.int .i64 a0, .int .i64 a1] rfl (by (try simp only [List.map_toArray, List.map_cons, List.map_nil]); first | done | rfl | (simp only [List.length_drop, List.length_take]; rfl)) ?_; (with_reducible refine (sinc_May.calls a0 a1 t251 _ A11.out).mono ?_); rintro e w' ⟨rfl, ⟨nd, rfl⟩⟩; refine ⟨_, rfl, ?_⟩) | ((with_reducible refine gate_callee (f := 7) rfl ?_); refine goesL_ (some 18) rfl rfl Try.func7 (by kernel_rfl) rfl #[.int .i64 (wrap64 (-a0)), .int .i64 a1] rfl (by (try simp only [List.map_toArray, List.map_cons, List.map_nil]); first | done | rfl | (simp only [List.length_drop, List.length_take]; rfl)) ?_; (with_reducible refine (sinc_May.calls (wrap64 (-a0)) a1 t252 _ A12.out).mono ?_); rintro e w' ⟨rfl, ⟨nd, rfl⟩⟩; refine ⟨_, rfl, ?_⟩) | (go_at_call 9; (with_reducible refine (sinc_Sinc.calls kj2 a0 a1 t253 _ A14.out).mono ?_); rintro e w23 ⟨rfl, hb⟩; have n0_ := Aside0.mk (below_step (by repeat (first | (with_reducible first | exact HB.out | apply below_alloc | apply pw_below_drewN | apply below_drew1) | exact HB.out)) hb); clear HB; have HB := n0_; clear n0_; (try clear hb); (try clear hb2); (try clear hk); (try clear hi)) | (go_at_call 9; (with_reducible refine (sinc_Sinc.calls kj2 (wrap64 (-a0)) a1 t254 _ A15.out).mono ?_); rintro e w24 ⟨rfl, hb⟩; have n0_ := Aside0.mk (below_step (by repeat (first | (with_reducible first | exact HB.out | apply below_alloc | apply pw_below_drewN | apply below_drew1) | exact HB.out)) hb); clear HB; have HB := n0_; clear n0_; (try clear hb); (try clear hb2); (try clear hk); (try clear hi)))
            go_ret
            exact ⟨by first | rfl | (simp [errW_none, errW_some] <;> rfl) | (simp [*, errW_none, errW_some] <;> rfl), by repeat (first | (with_reducible first | exact HB.out | apply below_alloc | apply pw_below_drewN | apply below_drew1) | exact HB.out)⟩
        · rw [if_neg c13] at H
          have c13b0 : (t251 == t252) = false := by simpa using c13
          (try (have c13b1 : decide (t251 = t252) = false := by simpa using c13))
          (try (have c13b2 : (t251 == t252) = false := by simpa using c13))
          (try (have c13b3 : ¬ (t251 = t252) := by simpa using c13))
          clear c13
          obtain rfl := Option.some.inj H
          go_wp2_with (first | ((with_reducible refine gate_callee (f := 7) rfl ?_); refine goesL_ (some 14) rfl rfl Try.func7 (by kernel_rfl) rfl #[.int .i64 a0, .int .i64 a1] rfl (by (try simp only [List.map_toArray, List.map_cons, List.map_nil]); first | done | rfl | (simp only [List.length_drop, List.length_take]; rfl)) ?_; (with_reducible refine (sinc_May.calls a0 a1 t251 _ A11.out).mono ?_); rintro e w' ⟨rfl, ⟨nd, rfl⟩⟩; refine ⟨_, rfl, ?_⟩) | ((with_reducible refine gate_callee (f := 7) rfl ?_); refine goesL_ (some 18) rfl rfl Try.func7 (by kernel_rfl) rfl #[.int .i64 (wrap64 (-a0)), .int .i64 a1] rfl (by (try simp only [List.map_toArray, List.map_cons, List.map_nil]); first | done | rfl | (simp only [List.length_drop, List.length_take]; rfl)) ?_; (with_reducible refine (sinc_May.calls (wrap64 (-a0)) a1 t252 _ A12.out).mono ?_); rintro e w' ⟨rfl, ⟨nd, rfl⟩⟩; refine ⟨_, rfl, ?_⟩))
          go_ret
          exact ⟨by first | rfl | (simp [errW_none, errW_some] <;> rfl) | (simp [*, errW_none, errW_some] <;> rfl), by repeat (first | (with_reducible first | exact HB.out | apply below_alloc | apply pw_below_drewN | apply below_drew1) | exact HB.out)⟩

/-- THE ONE PURE STATEMENT of smaltolaw04_SincEven: yours. -/
def smaltolaw04_SincEven.Pure : Prop := ∀ (a0 : Int) (a1 : Int), (Lit.int .i64 a0).wf = true → (Lit.int .i64 a1).wf = true → ∃ k, smaltolaw04_SincEven.f k a0 a1 = some true
theorem smaltolaw04_SincEven.walk (P : smaltolaw04_SincEven.Pure) (a0 : Int) (a1 : Int) (w : World) (w0 : (Lit.int .i64 a0).wf = true) (w1 : (Lit.int .i64 a1).wf = true) :
    Calls Try.prog 4 #[.int .i64 a0, .int .i64 a1] w fun e w' => e = .returned (.bool true) ∧ Below w.heap.size w w' := by
  obtain ⟨k, h⟩ := P a0 a1 w0 w1
  refine (smaltolaw04_SincEven.calls k a0 a1 true w h).mono ?_
  rintro e w' ⟨rfl, hd⟩
  exact ⟨rfl, hd⟩

/-! ### smaltolaw04_SincWhole: function 5 -/
def smaltolaw04_SincWhole.f (k : Nat) (a0 : Int) (a1 : Int) : Option (Bool) := (smaltolaw04_lives.f k).bind fun t257 => (if t257 = true then ((sinc_Sinc.f k (wrap64 ((wrap64 (1 + (wrap64 (Int.tmod a0 4)))) * (wrap64 (1 + (Go.bits .and .i64 a1 1048575))))) (wrap64 (1 + (Go.bits .and .i64 a1 1048575)))).bind fun t258 => (if t258 ≤ 131072 then (if t258 ≥ (-131072) then (if (wrap64 (1 + (wrap64 (Int.tmod a0 4)))) > 2 then (some true) else ((sinc_Lanczos.f k (wrap64 ((wrap64 (1 + (wrap64 (Int.tmod a0 4)))) * (wrap64 (1 + (Go.bits .and .i64 a1 1048575))))) (wrap64 (1 + (Go.bits .and .i64 a1 1048575)))).bind fun t259 => (if t259 ≤ 2048 then ((sinc_Lanczos.f k (wrap64 ((wrap64 (1 + (wrap64 (Int.tmod a0 4)))) * (wrap64 (1 + (Go.bits .and .i64 a1 1048575))))) (wrap64 (1 + (Go.bits .and .i64 a1 1048575)))).bind fun t260 => (some (decide (t260 ≥ (-2048))))) else (some false)))) else (some false)) else (some false))) else (some false))
theorem smaltolaw04_SincWhole.mono : ∀ a0 a1 k, LeO (smaltolaw04_SincWhole.f k a0 a1) (smaltolaw04_SincWhole.f (k + 1) a0 a1) := by
  intro a0 a1 k
  unfold smaltolaw04_SincWhole.f
  repeat' first
      | (with_reducible exact sinc_Lanczos.mono _ _ _)
      | (with_reducible exact sinc_Sinc.mono _ _ _)
      | (with_reducible exact smaltolaw04_lives.mono _)
      | (with_reducible exact LeO.refl _)
      | (with_reducible exact LeO.none _)
      | (with_reducible refine LeO.ite ?_ ?_)
      | (with_reducible refine LeO.bind ?_ (fun _ => ?_))
      | exact sinc_Lanczos.mono _ _ _
      | exact sinc_Sinc.mono _ _ _
      | exact smaltolaw04_lives.mono _
      | exact LeO.none _
      | refine LeO.ite ?_ ?_
      | refine LeO.bind ?_ (fun _ => ?_)
set_option maxHeartbeats 8000000 in
set_option maxRecDepth 100000 in
theorem smaltolaw04_SincWhole.calls (k : Nat) (a0 : Int) (a1 : Int) (r : Bool) (w : World) (h : smaltolaw04_SincWhole.f k a0 a1 = some r) :
    Calls Try.prog 5 #[.int .u8 a0, .int .i64 a1] w fun e w' => e = .returned (.bool r) ∧ Below w.heap.size w w' := by
  have HB := Aside0.mk (Below.refl w.heap.size w)
  have H : ((smaltolaw04_lives.f k).bind fun t257 => (if t257 = true then ((sinc_Sinc.f k (wrap64 ((wrap64 (1 + (wrap64 (Int.tmod a0 4)))) * (wrap64 (1 + (Go.bits .and .i64 a1 1048575))))) (wrap64 (1 + (Go.bits .and .i64 a1 1048575)))).bind fun t258 => (if t258 ≤ 131072 then (if t258 ≥ (-131072) then (if (wrap64 (1 + (wrap64 (Int.tmod a0 4)))) > 2 then (some true) else ((sinc_Lanczos.f k (wrap64 ((wrap64 (1 + (wrap64 (Int.tmod a0 4)))) * (wrap64 (1 + (Go.bits .and .i64 a1 1048575))))) (wrap64 (1 + (Go.bits .and .i64 a1 1048575)))).bind fun t259 => (if t259 ≤ 2048 then ((sinc_Lanczos.f k (wrap64 ((wrap64 (1 + (wrap64 (Int.tmod a0 4)))) * (wrap64 (1 + (Go.bits .and .i64 a1 1048575))))) (wrap64 (1 + (Go.bits .and .i64 a1 1048575)))).bind fun t260 => (some (decide (t260 ≥ (-2048))))) else (some false)))) else (some false)) else (some false))) else (some false))) = some r := h
  clear h
  replace H := Option.bind_eq_some_iff.mp H
  obtain ⟨t257, A30, H⟩ := H
  replace H : (if t257 = true then ((sinc_Sinc.f k (wrap64 ((wrap64 (1 + (wrap64 (Int.tmod a0 4)))) * (wrap64 (1 + (Go.bits .and .i64 a1 1048575))))) (wrap64 (1 + (Go.bits .and .i64 a1 1048575)))).bind fun t258 => (if t258 ≤ 131072 then (if t258 ≥ (-131072) then (if (wrap64 (1 + (wrap64 (Int.tmod a0 4)))) > 2 then (some true) else ((sinc_Lanczos.f k (wrap64 ((wrap64 (1 + (wrap64 (Int.tmod a0 4)))) * (wrap64 (1 + (Go.bits .and .i64 a1 1048575))))) (wrap64 (1 + (Go.bits .and .i64 a1 1048575)))).bind fun t259 => (if t259 ≤ 2048 then ((sinc_Lanczos.f k (wrap64 ((wrap64 (1 + (wrap64 (Int.tmod a0 4)))) * (wrap64 (1 + (Go.bits .and .i64 a1 1048575))))) (wrap64 (1 + (Go.bits .and .i64 a1 1048575)))).bind fun t260 => (some (decide (t260 ≥ (-2048))))) else (some false)))) else (some false)) else (some false))) else (some false)) = some r := H
  have A3 := Aside0.mk A30
  clear A30
  by_cases c4 : t257 = true
  · subst c4
    have H1 : ((sinc_Sinc.f k (wrap64 ((wrap64 (1 + (wrap64 (Int.tmod a0 4)))) * (wrap64 (1 + (Go.bits .and .i64 a1 1048575))))) (wrap64 (1 + (Go.bits .and .i64 a1 1048575)))).bind fun t258 => (if t258 ≤ 131072 then (if t258 ≥ (-131072) then (if (wrap64 (1 + (wrap64 (Int.tmod a0 4)))) > 2 then (some true) else ((sinc_Lanczos.f k (wrap64 ((wrap64 (1 + (wrap64 (Int.tmod a0 4)))) * (wrap64 (1 + (Go.bits .and .i64 a1 1048575))))) (wrap64 (1 + (Go.bits .and .i64 a1 1048575)))).bind fun t259 => (if t259 ≤ 2048 then ((sinc_Lanczos.f k (wrap64 ((wrap64 (1 + (wrap64 (Int.tmod a0 4)))) * (wrap64 (1 + (Go.bits .and .i64 a1 1048575))))) (wrap64 (1 + (Go.bits .and .i64 a1 1048575)))).bind fun t260 => (some (decide (t260 ≥ (-2048))))) else (some false)))) else (some false)) else (some false))) = some r := by rw [if_pos rfl] at H; exact H
    clear H
    have H := H1
    clear H1
    replace H := Option.bind_eq_some_iff.mp H
    obtain ⟨t258, A50, H⟩ := H
    replace H : (if t258 ≤ 131072 then (if t258 ≥ (-131072) then (if (wrap64 (1 + (wrap64 (Int.tmod a0 4)))) > 2 then (some true) else ((sinc_Lanczos.f k (wrap64 ((wrap64 (1 + (wrap64 (Int.tmod a0 4)))) * (wrap64 (1 + (Go.bits .and .i64 a1 1048575))))) (wrap64 (1 + (Go.bits .and .i64 a1 1048575)))).bind fun t259 => (if t259 ≤ 2048 then ((sinc_Lanczos.f k (wrap64 ((wrap64 (1 + (wrap64 (Int.tmod a0 4)))) * (wrap64 (1 + (Go.bits .and .i64 a1 1048575))))) (wrap64 (1 + (Go.bits .and .i64 a1 1048575)))).bind fun t260 => (some (decide (t260 ≥ (-2048))))) else (some false)))) else (some false)) else (some false)) = some r := H
    have A5 := Aside0.mk A50
    clear A50
    by_cases c6 : t258 ≤ 131072
    · rw [if_pos c6] at H
      have c6b0 : decide (t258 ≤ 131072) = true := decide_eq_true c6
      clear c6
      by_cases c7 : t258 ≥ (-131072)
      · rw [if_pos c7] at H
        have c7b0 : decide ((-131072) ≤ t258) = true := decide_eq_true c7
        clear c7
        by_cases c8 : (wrap64 (1 + (wrap64 (Int.tmod a0 4)))) > 2
        · rw [if_pos c8] at H
          have c8b0 : decide (2 < (wrap64 (1 + (wrap64 (Int.tmod a0 4))))) = true := decide_eq_true c8
          clear c8
          obtain rfl := Option.some.inj H
          go_enter Try.func5, Try.ntmps5
          go_wp2_with (first | ((with_reducible refine gate_callee (f := 6) rfl ?_); refine goesL_ (some 8) rfl rfl Try.func6 (by kernel_rfl) rfl #[] rfl (by (try simp only [List.map_toArray, List.map_cons, List.map_nil]); first | done | rfl | (simp only [List.length_drop, List.length_take]; rfl)) ?_; (with_reducible refine (smaltolaw04_lives.calls k  true _ A3.out).mono ?_); rintro e w9 ⟨rfl, hb⟩; refine ⟨_, rfl, ?_⟩; have n0_ := Aside0.mk (below_step (by repeat (first | (with_reducible first | exact HB.out | apply below_alloc | apply pw_below_drewN | apply below_drew1) | exact HB.out)) hb); clear HB; have HB := n0_; clear n0_; (try clear hb); (try clear hb2); (try clear hk); (try clear hi)) | ((with_reducible refine gate_callee (f := 9) rfl ?_); refine goesL_ (some 21) rfl rfl Try.func9 (by kernel_rfl) rfl #[.int .i64 (wrap64 ((wrap64 (1 + (wrap64 (Int.tmod a0 4)))) * (wrap64 (1 + (Go.bits .and .i64 a1 1048575))))), .int .i64 (wrap64 (1 + (Go.bits .and .i64 a1 1048575)))] rfl (by (try simp only [List.map_toArray, List.map_cons, List.map_nil]); first | done | rfl | (simp only [List.length_drop, List.length_take]; rfl)) ?_; (with_reducible refine (sinc_Sinc.calls k (wrap64 ((wrap64 (1 + (wrap64 (Int.tmod a0 4)))) * (wrap64 (1 + (Go.bits .and .i64 a1 1048575))))) (wrap64 (1 + (Go.bits .and .i64 a1 1048575))) t258 _ A5.out).mono ?_); rintro e w10 ⟨rfl, hb⟩; refine ⟨_, rfl, ?_⟩; have n0_ := Aside0.mk (below_step (by repeat (first | (with_reducible first | exact HB.out | apply below_alloc | apply pw_below_drewN | apply below_drew1) | exact HB.out)) hb); clear HB; have HB := n0_; clear n0_; (try clear hb); (try clear hb2); (try clear hk); (try clear hi)))
          go_ret
          exact ⟨by first | rfl | (simp [errW_none, errW_some] <;> rfl) | (simp [*, errW_none, errW_some] <;> rfl), by repeat (first | (with_reducible first | exact HB.out | apply below_alloc | apply pw_below_drewN | apply below_drew1) | exact HB.out)⟩
        · rw [if_neg c8] at H
          have c8b0 : decide (2 < (wrap64 (1 + (wrap64 (Int.tmod a0 4))))) = false := decide_eq_false c8
          clear c8
          replace H := Option.bind_eq_some_iff.mp H
          obtain ⟨t259, A110, H⟩ := H
          replace H : (if t259 ≤ 2048 then ((sinc_Lanczos.f k (wrap64 ((wrap64 (1 + (wrap64 (Int.tmod a0 4)))) * (wrap64 (1 + (Go.bits .and .i64 a1 1048575))))) (wrap64 (1 + (Go.bits .and .i64 a1 1048575)))).bind fun t260 => (some (decide (t260 ≥ (-2048))))) else (some false)) = some r := H
          have A11 := Aside0.mk A110
          clear A110
          by_cases c12 : t259 ≤ 2048
          · rw [if_pos c12] at H
            have c12b0 : decide (t259 ≤ 2048) = true := decide_eq_true c12
            clear c12
            replace H := Option.bind_eq_some_iff.mp H
            obtain ⟨t260, A130, H⟩ := H
            replace H : (some (decide (t260 ≥ (-2048)))) = some r := H
            have A13 := Aside0.mk A130
            obtain rfl : t259 = t260 := Option.some.inj (A11.out.symm.trans A13.out)
            clear A130
            obtain rfl := Option.some.inj H
            go_enter Try.func5, Try.ntmps5
            go_wp2_with (first | ((with_reducible refine gate_callee (f := 6) rfl ?_); refine goesL_ (some 8) rfl rfl Try.func6 (by kernel_rfl) rfl #[] rfl (by (try simp only [List.map_toArray, List.map_cons, List.map_nil]); first | done | rfl | (simp only [List.length_drop, List.length_take]; rfl)) ?_; (with_reducible refine (smaltolaw04_lives.calls k  true _ A3.out).mono ?_); rintro e w14 ⟨rfl, hb⟩; refine ⟨_, rfl, ?_⟩; have n0_ := Aside0.mk (below_step (by repeat (first | (with_reducible first | exact HB.out | apply below_alloc | apply pw_below_drewN | apply below_drew1) | exact HB.out)) hb); clear HB; have HB := n0_; clear n0_; (try clear hb); (try clear hb2); (try clear hk); (try clear hi)) | ((with_reducible refine gate_callee (f := 9) rfl ?_); refine goesL_ (some 21) rfl rfl Try.func9 (by kernel_rfl) rfl #[.int .i64 (wrap64 ((wrap64 (1 + (wrap64 (Int.tmod a0 4)))) * (wrap64 (1 + (Go.bits .and .i64 a1 1048575))))), .int .i64 (wrap64 (1 + (Go.bits .and .i64 a1 1048575)))] rfl (by (try simp only [List.map_toArray, List.map_cons, List.map_nil]); first | done | rfl | (simp only [List.length_drop, List.length_take]; rfl)) ?_; (with_reducible refine (sinc_Sinc.calls k (wrap64 ((wrap64 (1 + (wrap64 (Int.tmod a0 4)))) * (wrap64 (1 + (Go.bits .and .i64 a1 1048575))))) (wrap64 (1 + (Go.bits .and .i64 a1 1048575))) t258 _ A5.out).mono ?_); rintro e w15 ⟨rfl, hb⟩; refine ⟨_, rfl, ?_⟩; have n0_ := Aside0.mk (below_step (by repeat (first | (with_reducible first | exact HB.out | apply below_alloc | apply pw_below_drewN | apply below_drew1) | exact HB.out)) hb); clear HB; have HB := n0_; clear n0_; (try clear hb); (try clear hb2); (try clear hk); (try clear hi)) | (go_at_call 11; (with_reducible refine (sinc_Lanczos.calls k (wrap64 ((wrap64 (1 + (wrap64 (Int.tmod a0 4)))) * (wrap64 (1 + (Go.bits .and .i64 a1 1048575))))) (wrap64 (1 + (Go.bits .and .i64 a1 1048575))) t259 _ A11.out).mono ?_); rintro e w16 ⟨rfl, hb⟩; have n0_ := Aside0.mk (below_step (by repeat (first | (with_reducible first | exact HB.out | apply below_alloc | apply pw_below_drewN | apply below_drew1) | exact HB.out)) hb); clear HB; have HB := n0_; clear n0_; (try clear hb); (try clear hb2); (try clear hk); (try clear hi)) | (go_at_call 11; (with_reducible refine (sinc_Lanczos.calls k (wrap64 ((wrap64 (1 + (wrap64 (Int.tmod a0 4)))) * (wrap64 (1 + (Go.bits .and .i64 a1 1048575))))) (wrap64 (1 + (Go.bits .and .i64 a1 1048575))) t259 _ A13.out).mono ?_); rintro e w17 ⟨rfl, hb⟩; have n0_ := Aside0.mk (below_step (by repeat (first | (with_reducible first | exact HB.out | apply below_alloc | apply pw_below_drewN | apply below_drew1) | exact HB.out)) hb); clear HB; have HB := n0_; clear n0_; (try clear hb); (try clear hb2); (try clear hk); (try clear hi)))
            go_ret
            exact ⟨by first | rfl | (simp [errW_none, errW_some] <;> rfl) | (simp [*, errW_none, errW_some] <;> rfl), by repeat (first | (with_reducible first | exact HB.out | apply below_alloc | apply pw_below_drewN | apply below_drew1) | exact HB.out)⟩
          · rw [if_neg c12] at H
            have c12b0 : decide (t259 ≤ 2048) = false := decide_eq_false c12
            clear c12
            obtain rfl := Option.some.inj H
            go_enter Try.func5, Try.ntmps5
            go_wp2_with (first | ((with_reducible refine gate_callee (f := 6) rfl ?_); refine goesL_ (some 8) rfl rfl Try.func6 (by kernel_rfl) rfl #[] rfl (by (try simp only [List.map_toArray, List.map_cons, List.map_nil]); first | done | rfl | (simp only [List.length_drop, List.length_take]; rfl)) ?_; (with_reducible refine (smaltolaw04_lives.calls k  true _ A3.out).mono ?_); rintro e w18 ⟨rfl, hb⟩; refine ⟨_, rfl, ?_⟩; have n0_ := Aside0.mk (below_step (by repeat (first | (with_reducible first | exact HB.out | apply below_alloc | apply pw_below_drewN | apply below_drew1) | exact HB.out)) hb); clear HB; have HB := n0_; clear n0_; (try clear hb); (try clear hb2); (try clear hk); (try clear hi)) | ((with_reducible refine gate_callee (f := 9) rfl ?_); refine goesL_ (some 21) rfl rfl Try.func9 (by kernel_rfl) rfl #[.int .i64 (wrap64 ((wrap64 (1 + (wrap64 (Int.tmod a0 4)))) * (wrap64 (1 + (Go.bits .and .i64 a1 1048575))))), .int .i64 (wrap64 (1 + (Go.bits .and .i64 a1 1048575)))] rfl (by (try simp only [List.map_toArray, List.map_cons, List.map_nil]); first | done | rfl | (simp only [List.length_drop, List.length_take]; rfl)) ?_; (with_reducible refine (sinc_Sinc.calls k (wrap64 ((wrap64 (1 + (wrap64 (Int.tmod a0 4)))) * (wrap64 (1 + (Go.bits .and .i64 a1 1048575))))) (wrap64 (1 + (Go.bits .and .i64 a1 1048575))) t258 _ A5.out).mono ?_); rintro e w19 ⟨rfl, hb⟩; refine ⟨_, rfl, ?_⟩; have n0_ := Aside0.mk (below_step (by repeat (first | (with_reducible first | exact HB.out | apply below_alloc | apply pw_below_drewN | apply below_drew1) | exact HB.out)) hb); clear HB; have HB := n0_; clear n0_; (try clear hb); (try clear hb2); (try clear hk); (try clear hi)) | (go_at_call 11; (with_reducible refine (sinc_Lanczos.calls k (wrap64 ((wrap64 (1 + (wrap64 (Int.tmod a0 4)))) * (wrap64 (1 + (Go.bits .and .i64 a1 1048575))))) (wrap64 (1 + (Go.bits .and .i64 a1 1048575))) t259 _ A11.out).mono ?_); rintro e w20 ⟨rfl, hb⟩; have n0_ := Aside0.mk (below_step (by repeat (first | (with_reducible first | exact HB.out | apply below_alloc | apply pw_below_drewN | apply below_drew1) | exact HB.out)) hb); clear HB; have HB := n0_; clear n0_; (try clear hb); (try clear hb2); (try clear hk); (try clear hi)))
            go_ret
            exact ⟨by first | rfl | (simp [errW_none, errW_some] <;> rfl) | (simp [*, errW_none, errW_some] <;> rfl), by repeat (first | (with_reducible first | exact HB.out | apply below_alloc | apply pw_below_drewN | apply below_drew1) | exact HB.out)⟩
      · rw [if_neg c7] at H
        have c7b0 : decide ((-131072) ≤ t258) = false := decide_eq_false c7
        clear c7
        obtain rfl := Option.some.inj H
        go_enter Try.func5, Try.ntmps5
        go_wp2_with (first | ((with_reducible refine gate_callee (f := 6) rfl ?_); refine goesL_ (some 8) rfl rfl Try.func6 (by kernel_rfl) rfl #[] rfl (by (try simp only [List.map_toArray, List.map_cons, List.map_nil]); first | done | rfl | (simp only [List.length_drop, List.length_take]; rfl)) ?_; (with_reducible refine (smaltolaw04_lives.calls k  true _ A3.out).mono ?_); rintro e w21 ⟨rfl, hb⟩; refine ⟨_, rfl, ?_⟩; have n0_ := Aside0.mk (below_step (by repeat (first | (with_reducible first | exact HB.out | apply below_alloc | apply pw_below_drewN | apply below_drew1) | exact HB.out)) hb); clear HB; have HB := n0_; clear n0_; (try clear hb); (try clear hb2); (try clear hk); (try clear hi)) | ((with_reducible refine gate_callee (f := 9) rfl ?_); refine goesL_ (some 21) rfl rfl Try.func9 (by kernel_rfl) rfl #[.int .i64 (wrap64 ((wrap64 (1 + (wrap64 (Int.tmod a0 4)))) * (wrap64 (1 + (Go.bits .and .i64 a1 1048575))))), .int .i64 (wrap64 (1 + (Go.bits .and .i64 a1 1048575)))] rfl (by (try simp only [List.map_toArray, List.map_cons, List.map_nil]); first | done | rfl | (simp only [List.length_drop, List.length_take]; rfl)) ?_; (with_reducible refine (sinc_Sinc.calls k (wrap64 ((wrap64 (1 + (wrap64 (Int.tmod a0 4)))) * (wrap64 (1 + (Go.bits .and .i64 a1 1048575))))) (wrap64 (1 + (Go.bits .and .i64 a1 1048575))) t258 _ A5.out).mono ?_); rintro e w22 ⟨rfl, hb⟩; refine ⟨_, rfl, ?_⟩; have n0_ := Aside0.mk (below_step (by repeat (first | (with_reducible first | exact HB.out | apply below_alloc | apply pw_below_drewN | apply below_drew1) | exact HB.out)) hb); clear HB; have HB := n0_; clear n0_; (try clear hb); (try clear hb2); (try clear hk); (try clear hi)))
        go_ret
        exact ⟨by first | rfl | (simp [errW_none, errW_some] <;> rfl) | (simp [*, errW_none, errW_some] <;> rfl), by repeat (first | (with_reducible first | exact HB.out | apply below_alloc | apply pw_below_drewN | apply below_drew1) | exact HB.out)⟩
    · rw [if_neg c6] at H
      have c6b0 : decide (t258 ≤ 131072) = false := decide_eq_false c6
      clear c6
      obtain rfl := Option.some.inj H
      go_enter Try.func5, Try.ntmps5
      go_wp2_with (first | ((with_reducible refine gate_callee (f := 6) rfl ?_); refine goesL_ (some 8) rfl rfl Try.func6 (by kernel_rfl) rfl #[] rfl (by (try simp only [List.map_toArray, List.map_cons, List.map_nil]); first | done | rfl | (simp only [List.length_drop, List.length_take]; rfl)) ?_; (with_reducible refine (smaltolaw04_lives.calls k  true _ A3.out).mono ?_); rintro e w23 ⟨rfl, hb⟩; refine ⟨_, rfl, ?_⟩; have n0_ := Aside0.mk (below_step (by repeat (first | (with_reducible first | exact HB.out | apply below_alloc | apply pw_below_drewN | apply below_drew1) | exact HB.out)) hb); clear HB; have HB := n0_; clear n0_; (try clear hb); (try clear hb2); (try clear hk); (try clear hi)) | ((with_reducible refine gate_callee (f := 9) rfl ?_); refine goesL_ (some 21) rfl rfl Try.func9 (by kernel_rfl) rfl #[.int .i64 (wrap64 ((wrap64 (1 + (wrap64 (Int.tmod a0 4)))) * (wrap64 (1 + (Go.bits .and .i64 a1 1048575))))), .int .i64 (wrap64 (1 + (Go.bits .and .i64 a1 1048575)))] rfl (by (try simp only [List.map_toArray, List.map_cons, List.map_nil]); first | done | rfl | (simp only [List.length_drop, List.length_take]; rfl)) ?_; (with_reducible refine (sinc_Sinc.calls k (wrap64 ((wrap64 (1 + (wrap64 (Int.tmod a0 4)))) * (wrap64 (1 + (Go.bits .and .i64 a1 1048575))))) (wrap64 (1 + (Go.bits .and .i64 a1 1048575))) t258 _ A5.out).mono ?_); rintro e w24 ⟨rfl, hb⟩; refine ⟨_, rfl, ?_⟩; have n0_ := Aside0.mk (below_step (by repeat (first | (with_reducible first | exact HB.out | apply below_alloc | apply pw_below_drewN | apply below_drew1) | exact HB.out)) hb); clear HB; have HB := n0_; clear n0_; (try clear hb); (try clear hb2); (try clear hk); (try clear hi)))
      go_ret
      exact ⟨by first | rfl | (simp [errW_none, errW_some] <;> rfl) | (simp [*, errW_none, errW_some] <;> rfl), by repeat (first | (with_reducible first | exact HB.out | apply below_alloc | apply pw_below_drewN | apply below_drew1) | exact HB.out)⟩
  · replace c4 := Bool.eq_false_iff.mpr c4
    subst c4
    have H1 : (some false) = some r := by rw [if_neg (show ¬ (false = true) by decide)] at H; exact H
    clear H
    have H := H1
    clear H1
    obtain rfl := Option.some.inj H
    go_enter Try.func5, Try.ntmps5
    go_wp2_with (first | ((with_reducible refine gate_callee (f := 6) rfl ?_); refine goesL_ (some 8) rfl rfl Try.func6 (by kernel_rfl) rfl #[] rfl (by (try simp only [List.map_toArray, List.map_cons, List.map_nil]); first | done | rfl | (simp only [List.length_drop, List.length_take]; rfl)) ?_; (with_reducible refine (smaltolaw04_lives.calls k  false _ A3.out).mono ?_); rintro e w25 ⟨rfl, hb⟩; refine ⟨_, rfl, ?_⟩; have n0_ := Aside0.mk (below_step (by repeat (first | (with_reducible first | exact HB.out | apply below_alloc | apply pw_below_drewN | apply below_drew1) | exact HB.out)) hb); clear HB; have HB := n0_; clear n0_; (try clear hb); (try clear hb2); (try clear hk); (try clear hi)))
    go_ret
    exact ⟨by first | rfl | (simp [errW_none, errW_some] <;> rfl) | (simp [*, errW_none, errW_some] <;> rfl), by repeat (first | (with_reducible first | exact HB.out | apply below_alloc | apply pw_below_drewN | apply below_drew1) | exact HB.out)⟩

/-- THE ONE PURE STATEMENT of smaltolaw04_SincWhole: yours. -/
def smaltolaw04_SincWhole.Pure : Prop := ∀ (a0 : Int) (a1 : Int), (Lit.int .u8 a0).wf = true → (Lit.int .i64 a1).wf = true → ∃ k, smaltolaw04_SincWhole.f k a0 a1 = some true
theorem smaltolaw04_SincWhole.walk (P : smaltolaw04_SincWhole.Pure) (a0 : Int) (a1 : Int) (w : World) (w0 : (Lit.int .u8 a0).wf = true) (w1 : (Lit.int .i64 a1).wf = true) :
    Calls Try.prog 5 #[.int .u8 a0, .int .i64 a1] w fun e w' => e = .returned (.bool true) ∧ Below w.heap.size w w' := by
  obtain ⟨k, h⟩ := P a0 a1 w0 w1
  refine (smaltolaw04_SincWhole.calls k a0 a1 true w h).mono ?_
  rintro e w' ⟨rfl, hd⟩
  exact ⟨rfl, hd⟩

end Go.Proofs.Ytbkbgpileogehaa.QA
