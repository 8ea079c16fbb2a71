-- Written by wip/tools/pp.py over the kit's print.py; not trusted: Lean checks it.
import Derived.Test.YtbkbgpileogehaaQAx0
import Derived.Test.YtbkbgpileogehaaQAx1
import Derived.Test.YtbkbgpileogehaaQAx2
namespace Go.Proofs.Ytbkbgpileogehaa.QA
open Go.Proofs.Ytbkbgpileogehaa.T
open Go.RowKit Go.Proofs.YtbkbgpileogehaaW.PrintWords Go.Proofs.YtbkbgpileogehaaW.PrintLast Go.Proofs.YtbkbgpileogehaaW.PrintMore
attribute [local go_sem] ext_call max2_int min2_int max_two min_two max_three min_three max_four min_four   -- for this text's walks alone
set_option linter.unusedVariables false
set_option linter.unusedSimpArgs false

/-! ### wide_MulDiv: function 20 -/
def wide_MulDiv.j0 : Nat → Bool → Int → Int → Bool → Option (Int)
  | 0, _, _, _, _ => none
  | k + 1, x9, x11, x14, x60 => if x60 = true then ((wide_signed.f k (add64c x11 1 0) (add64s x11 1 0) x9).bind fun t113 => (some t113)) else ((wide_signed.f k (add64c x11 x14 0) (add64s x11 x14 0) x9).bind fun t114 => (some t114))
def wide_MulDiv.f (k : Nat) (a0 : Int) (a1 : Int) (a2 : Int) : Option (Int) := if a2 = 0 then (some 0) else ((wide_product.f a0 a1).bind fun bt106 => ((wide_size.f a2).bind fun t109 => (if bt106.1 ≥ t109 then ((wide_signed.f k 1 0 (bt106.2.2 != (decide (a2 < 0)))).bind fun t110 => (some t110)) else ((bits_Div64.f k bt106.1 bt106.2.1 t109).bind fun bt111 => (if (bt106.2.2 != (decide (a2 < 0))) = true then (if bt111.2 > (IntKind.u64.wrap (t109 - bt111.2)) then (wide_MulDiv.j0 k (bt106.2.2 != (decide (a2 < 0))) bt111.1 0 true) else (if ((bt106.2.2 != (decide (a2 < 0))) = true) then (wide_MulDiv.j0 k (bt106.2.2 != (decide (a2 < 0))) bt111.1 0 false) else (wide_MulDiv.j0 k (bt106.2.2 != (decide (a2 < 0))) bt111.1 0 (decide (bt111.2 ≥ (IntKind.u64.wrap (t109 - bt111.2))))))) else (if ((bt106.2.2 != (decide (a2 < 0))) = true) then (wide_MulDiv.j0 k (bt106.2.2 != (decide (a2 < 0))) bt111.1 0 false) else (wide_MulDiv.j0 k (bt106.2.2 != (decide (a2 < 0))) bt111.1 0 (decide (bt111.2 ≥ (IntKind.u64.wrap (t109 - bt111.2)))))))))))
theorem wide_MulDiv.mono_l : ∀ k, (∀ y0 y1 y2 y3, LeO (wide_MulDiv.j0 k y0 y1 y2 y3) (wide_MulDiv.j0 (k + 1) y0 y1 y2 y3))
  | 0 => fun _ _ _ _ r h => by simp [wide_MulDiv.j0] at h
  | k + 1 => by
    have ih0 := wide_MulDiv.mono_l k
    · intro y0 y1 y2 y3
      unfold wide_MulDiv.j0
      repeat' first
      | (with_reducible exact ih0 _ _ _ _)
      | (with_reducible exact bits_Div64.mono _ _ _ _)
      | (with_reducible exact wide_signed.mono _ _ _ _)
      | (with_reducible exact LeO.refl _)
      | (with_reducible exact LeO.none _)
      | (with_reducible refine LeO.ite ?_ ?_)
      | (with_reducible refine LeO.bind ?_ (fun _ => ?_))
      | exact ih0 _ _ _ _
      | exact bits_Div64.mono _ _ _ _
      | exact wide_signed.mono _ _ _ _
      | exact LeO.none _
      | refine LeO.ite ?_ ?_
      | refine LeO.bind ?_ (fun _ => ?_)
theorem wide_MulDiv.mono : ∀ a0 a1 a2 k, LeO (wide_MulDiv.f k a0 a1 a2) (wide_MulDiv.f (k + 1) a0 a1 a2) := by
  intro a0 a1 a2 k
  have ih0 := wide_MulDiv.mono_l k
  unfold wide_MulDiv.f
  repeat' first
      | (with_reducible exact ih0 _ _ _ _)
      | (with_reducible exact bits_Div64.mono _ _ _ _)
      | (with_reducible exact wide_signed.mono _ _ _ _)
      | (with_reducible exact LeO.refl _)
      | (with_reducible exact LeO.none _)
      | (with_reducible refine LeO.ite ?_ ?_)
      | (with_reducible refine LeO.bind ?_ (fun _ => ?_))
      | exact ih0 _ _ _ _
      | exact bits_Div64.mono _ _ _ _
      | exact wide_signed.mono _ _ _ _
      | exact LeO.none _
      | refine LeO.ite ?_ ?_
      | refine LeO.bind ?_ (fun _ => ?_)
set_option maxHeartbeats 8000000 in
set_option maxRecDepth 100000 in
theorem wide_MulDiv.calls (k : Nat) (a0 : Int) (a1 : Int) (a2 : Int) (r : Int) (w : World) (h : wide_MulDiv.f k a0 a1 a2 = some r) :
    Calls Try.prog 20 #[.int .i64 a0, .int .i64 a1, .int .i64 a2] w fun e w' => e = .returned (.int .i64 r) ∧ Drawn0 w w' := by
  have H : (if a2 = 0 then (some 0) else ((wide_product.f a0 a1).bind fun bt106 => ((wide_size.f a2).bind fun t109 => (if bt106.1 ≥ t109 then ((wide_signed.f k 1 0 (bt106.2.2 != (decide (a2 < 0)))).bind fun t110 => (some t110)) else ((bits_Div64.f k bt106.1 bt106.2.1 t109).bind fun bt111 => (if (bt106.2.2 != (decide (a2 < 0))) = true then (if bt111.2 > (IntKind.u64.wrap (t109 - bt111.2)) then (wide_MulDiv.j0 k (bt106.2.2 != (decide (a2 < 0))) bt111.1 0 true) else (if ((bt106.2.2 != (decide (a2 < 0))) = true) then (wide_MulDiv.j0 k (bt106.2.2 != (decide (a2 < 0))) bt111.1 0 false) else (wide_MulDiv.j0 k (bt106.2.2 != (decide (a2 < 0))) bt111.1 0 (decide (bt111.2 ≥ (IntKind.u64.wrap (t109 - bt111.2))))))) else (if ((bt106.2.2 != (decide (a2 < 0))) = true) then (wide_MulDiv.j0 k (bt106.2.2 != (decide (a2 < 0))) bt111.1 0 false) else (wide_MulDiv.j0 k (bt106.2.2 != (decide (a2 < 0))) bt111.1 0 (decide (bt111.2 ≥ (IntKind.u64.wrap (t109 - bt111.2)))))))))))) = some r := h
  clear h
  by_cases c4 : a2 = 0
  · rw [if_pos c4] at H
    have c4b0 : (a2 == 0) = true := beq_iff_eq.mpr c4
    have c4b1 : (a2 != 0) = false := bne_eq_false_iff_eq.mpr c4
    clear c4
    obtain rfl := Option.some.inj H
    go_enter Try.func20, Try.ntmps20
    go_wp2
    go_ret
    exact ⟨by first | rfl | (simp; done) | (simp [*]; done), by repeat (first | exact Drawn0.refl _ | apply Drawn0.step)⟩
  · rw [if_neg c4] at H
    have c4b0 : (a2 == 0) = false := beq_eq_false_iff_ne.mpr c4
    have c4b1 : (a2 != 0) = true := bne_iff_ne.mpr c4
    replace H := Option.bind_eq_some_iff.mp H
    obtain ⟨⟨t106, t107, t108⟩, A50, H⟩ := H
    replace H : ((wide_size.f a2).bind fun t109 => (if t106 ≥ t109 then ((wide_signed.f k 1 0 (t108 != (decide (a2 < 0)))).bind fun t110 => (some t110)) else ((bits_Div64.f k t106 t107 t109).bind fun bt111 => (if (t108 != (decide (a2 < 0))) = true then (if bt111.2 > (IntKind.u64.wrap (t109 - bt111.2)) then (wide_MulDiv.j0 k (t108 != (decide (a2 < 0))) bt111.1 0 true) else (if ((t108 != (decide (a2 < 0))) = true) then (wide_MulDiv.j0 k (t108 != (decide (a2 < 0))) bt111.1 0 false) else (wide_MulDiv.j0 k (t108 != (decide (a2 < 0))) bt111.1 0 (decide (bt111.2 ≥ (IntKind.u64.wrap (t109 - bt111.2))))))) else (if ((t108 != (decide (a2 < 0))) = true) then (wide_MulDiv.j0 k (t108 != (decide (a2 < 0))) bt111.1 0 false) else (wide_MulDiv.j0 k (t108 != (decide (a2 < 0))) bt111.1 0 (decide (bt111.2 ≥ (IntKind.u64.wrap (t109 - bt111.2)))))))))) = some r := H
    have A5 := Aside0.mk A50
    clear A50
    replace H := Option.bind_eq_some_iff.mp H
    obtain ⟨t109, A60, H⟩ := H
    replace H : (if t106 ≥ t109 then ((wide_signed.f k 1 0 (t108 != (decide (a2 < 0)))).bind fun t110 => (some t110)) else ((bits_Div64.f k t106 t107 t109).bind fun bt111 => (if (t108 != (decide (a2 < 0))) = true then (if bt111.2 > (IntKind.u64.wrap (t109 - bt111.2)) then (wide_MulDiv.j0 k (t108 != (decide (a2 < 0))) bt111.1 0 true) else (if ((t108 != (decide (a2 < 0))) = true) then (wide_MulDiv.j0 k (t108 != (decide (a2 < 0))) bt111.1 0 false) else (wide_MulDiv.j0 k (t108 != (decide (a2 < 0))) bt111.1 0 (decide (bt111.2 ≥ (IntKind.u64.wrap (t109 - bt111.2))))))) else (if ((t108 != (decide (a2 < 0))) = true) then (wide_MulDiv.j0 k (t108 != (decide (a2 < 0))) bt111.1 0 false) else (wide_MulDiv.j0 k (t108 != (decide (a2 < 0))) bt111.1 0 (decide (bt111.2 ≥ (IntKind.u64.wrap (t109 - bt111.2))))))))) = some r := H
    have A6 := Aside0.mk A60
    clear A60
    by_cases c7 : t106 ≥ t109
    · rw [if_pos c7] at H
      have c7b0 : decide (t109 ≤ t106) = true := decide_eq_true c7
      clear c7
      replace H := Option.bind_eq_some_iff.mp H
      obtain ⟨t110, A80, H⟩ := H
      replace H : (some t110) = some r := H
      have A8 := Aside0.mk A80
      clear A80
      obtain rfl := Option.some.inj H
      go_enter Try.func20, Try.ntmps20
      go_wp2_with (first | ((with_reducible refine gate_callee (f := 22) rfl ?_); refine goesL_ (some 21) rfl rfl Try.func22 (by kernel_rfl) rfl #[.int .i64 a0, .int .i64 a1] rfl (by (try simp only [List.map_toArray, List.map_cons, List.map_nil]); first | done | rfl | (simp only [List.length_drop, List.length_take]; rfl)) ?_; (with_reducible refine (wide_product.calls a0 a1 t106 t107 t108 _ A5.out).mono ?_); rintro e w' ⟨rfl, ⟨nd, rfl⟩⟩; refine ⟨_, rfl, ?_⟩) | ((with_reducible refine gate_callee (f := 35) rfl ?_); refine goesL_ (some 26) rfl rfl Try.func35 (by kernel_rfl) rfl #[.int .i64 a2] rfl (by (try simp only [List.map_toArray, List.map_cons, List.map_nil]); first | done | rfl | (simp only [List.length_drop, List.length_take]; rfl)) ?_; (with_reducible refine (wide_size.calls a2 t109 _ A6.out).mono ?_); rintro e w' ⟨rfl, ⟨nd, rfl⟩⟩; refine ⟨_, rfl, ?_⟩) | ((with_reducible refine gate_callee (f := 23) rfl ?_); refine goesL_ (some 35) rfl rfl Try.func23 (by kernel_rfl) rfl #[.int .u64 1, .int .u64 0, .bool (t108 != (decide (a2 < 0)))] rfl (by (try simp only [List.map_toArray, List.map_cons, List.map_nil]); first | done | rfl | (simp only [List.length_drop, List.length_take]; rfl)) ?_; (with_reducible refine (wide_signed.calls k 1 0 (t108 != (decide (a2 < 0))) t110 _ A8.out).mono ?_); rintro e w' ⟨rfl, ⟨nd, rfl⟩⟩; refine ⟨_, rfl, ?_⟩))
      go_ret
      exact ⟨by first | rfl | (simp; done) | (simp [*]; done), by repeat (first | exact Drawn0.refl _ | apply Drawn0.step)⟩
    · rw [if_neg c7] at H
      have c7b0 : decide (t109 ≤ t106) = false := decide_eq_false c7
      clear c7
      replace H := Option.bind_eq_some_iff.mp H
      obtain ⟨⟨t111, t112⟩, A90, H⟩ := H
      replace H : (if (t108 != (decide (a2 < 0))) = true then (if t112 > (IntKind.u64.wrap (t109 - t112)) then (wide_MulDiv.j0 k (t108 != (decide (a2 < 0))) t111 0 true) else (if ((t108 != (decide (a2 < 0))) = true) then (wide_MulDiv.j0 k (t108 != (decide (a2 < 0))) t111 0 false) else (wide_MulDiv.j0 k (t108 != (decide (a2 < 0))) t111 0 (decide (t112 ≥ (IntKind.u64.wrap (t109 - t112))))))) else (if ((t108 != (decide (a2 < 0))) = true) then (wide_MulDiv.j0 k (t108 != (decide (a2 < 0))) t111 0 false) else (wide_MulDiv.j0 k (t108 != (decide (a2 < 0))) t111 0 (decide (t112 ≥ (IntKind.u64.wrap (t109 - t112))))))) = some r := H
      have A9 := Aside0.mk A90
      clear A90
      rcases Bool.eq_false_or_eq_true (t108 != (decide (a2 < 0))) with hsv | hsv
      · have hsvb0 : (t108 != (decide (a2 < 0))) = true := hsv
        have hsvb2 : (t108 == (decide (a2 < 0))) = false := by simpa using hsv
        have HC10 := Aside0.mk H
        clear H
        go_enter Try.func20, Try.ntmps20
        go_upto_region 11 with (first | ((with_reducible refine gate_callee (f := 22) rfl ?_); refine goesL_ (some 21) rfl rfl Try.func22 (by kernel_rfl) rfl #[.int .i64 a0, .int .i64 a1] rfl (by (try simp only [List.map_toArray, List.map_cons, List.map_nil]); first | done | rfl | (simp only [List.length_drop, List.length_take]; rfl)) ?_; (with_reducible refine (wide_product.calls a0 a1 t106 t107 t108 _ A5.out).mono ?_); rintro e w' ⟨rfl, ⟨nd, rfl⟩⟩; refine ⟨_, rfl, ?_⟩) | ((with_reducible refine gate_callee (f := 35) rfl ?_); refine goesL_ (some 26) rfl rfl Try.func35 (by kernel_rfl) rfl #[.int .i64 a2] rfl (by (try simp only [List.map_toArray, List.map_cons, List.map_nil]); first | done | rfl | (simp only [List.length_drop, List.length_take]; rfl)) ?_; (with_reducible refine (wide_size.calls a2 t109 _ A6.out).mono ?_); rintro e w' ⟨rfl, ⟨nd, rfl⟩⟩; refine ⟨_, rfl, ?_⟩) | ((with_reducible refine gate_callee (f := 36) rfl ?_); refine goesL_ (some 40) rfl rfl Try.func36 (by kernel_rfl) rfl #[.int .u64 t106, .int .u64 t107, .int .u64 t109] rfl (by (try simp only [List.map_toArray, List.map_cons, List.map_nil]); first | done | rfl | (simp only [List.length_drop, List.length_take]; rfl)) ?_; (with_reducible refine (bits_Div64.calls k t106 t107 t109 t111 t112 _ A9.out).mono ?_); rintro e w' ⟨rfl, ⟨nd, rfl⟩⟩; refine ⟨_, rfl, ?_⟩))
        (try simp only [Act.put, List.setIfInBounds_toArray, List.set_cons_zero, List.set_cons_succ])
        go_cut [60] (fun v60 wc => ∃ (kq : Nat) (x60_9 : Bool), v60 = .bool x60_9 ∧ Aside0 (wide_MulDiv.j0 kq (t108 != (decide (a2 < 0))) t111 0 x60_9 = some r) ∧ Aside0 (kq ≤ k) ∧ Drawn0 w wc)
        case first =>
          have H := HC10.out
          clear HC10
          by_cases c11 : (t108 != (decide (a2 < 0))) = true
          · rw [if_pos c11] at H
            have c11b0 : (t108 != (decide (a2 < 0))) = true := c11
            (try (have c11b1 : decide (t108 = (decide (a2 < 0))) = false := by simpa using c11))
            (try (have c11b2 : (t108 == (decide (a2 < 0))) = false := by simpa using c11))
            (try (have c11b3 : ¬ (t108 = (decide (a2 < 0))) := by simpa using c11))
            clear c11
            (first | rw [c11b0] | (simp only [i64_w, i32_w]; rw [c11b0]) | skip)
            by_cases c12 : t112 > (IntKind.u64.wrap (t109 - t112))
            · rw [if_pos c12] at H
              have c12b0 : decide ((IntKind.u64.wrap (t109 - t112)) < t112) = true := decide_eq_true c12
              clear c12
              have H' := Aside0.mk H
              clear H
              go_wp2
              go_meet
              case rel => exact ⟨_, (true), (by first | rfl | (simp; done) | (simp [*]; done)), H', ⟨by first | omega | exact Nat.le_refl _⟩, by repeat (first | exact Drawn0.refl _ | apply Drawn0.step)⟩
            · rw [if_neg c12] at H
              have c12b0 : decide ((IntKind.u64.wrap (t109 - t112)) < t112) = false := decide_eq_false c12
              clear c12
              by_cases c13 : ((t108 != (decide (a2 < 0))) = true)
              · rw [if_pos c13] at H
                have c13b0 : (t108 != (decide (a2 < 0))) = true := c13
                (try (have c13b1 : decide (t108 = (decide (a2 < 0))) = false := by simpa using c13))
                (try (have c13b2 : (t108 == (decide (a2 < 0))) = false := by simpa using c13))
                (try (have c13b3 : ¬ (t108 = (decide (a2 < 0))) := by simpa using c13))
                clear c13
                have H' := Aside0.mk H
                clear H
                go_wp2
                go_meet
                case rel => exact ⟨_, (false), (by first | rfl | (simp; done) | (simp [*]; done)), H', ⟨by first | omega | exact Nat.le_refl _⟩, by repeat (first | exact Drawn0.refl _ | apply Drawn0.step)⟩
              · rw [if_neg c13] at H
                have c13b0 : (t108 != (decide (a2 < 0))) = false := by simpa using c13
                exact absurd (hsvb0.symm.trans c13b0) (by decide)
          · rw [if_neg c11] at H
            have c11b0 : (t108 != (decide (a2 < 0))) = false := by simpa using c11
            exact absurd (hsvb0.symm.trans c11b0) (by decide)
        case rest =>
          clear HC10
          try clear c1
          try clear c2
          try clear p2
          try clear c3
          try clear c4
          try clear c4b0
          try clear c4b1
          try clear c7
          try clear c7b0
          try clear c11
          try clear c11b0
          try clear c11b1
          try clear c11b2
          try clear c12
          try clear c12b0
          try clear c13
          try clear c13b0
          try clear c13b1
          try clear c13b2
          try clear c14
          try clear c14b0
          try clear c14b1
          try clear c14b2
          obtain ⟨kq, x60_9, rfl, HA, HJ9, ⟨mc9, rfl⟩⟩ := hcut
          cases kq with
          | zero => exact absurd HA.out (by simp [wide_MulDiv.j0])
          | succ kj9 =>
            have H := HA.out
            clear HA
            simp only [wide_MulDiv.j0] at H
            by_cases c15 : x60_9 = true
            · subst c15
              have H1 : ((wide_signed.f kj9 (add64c t111 1 0) (add64s t111 1 0) (t108 != (decide (a2 < 0)))).bind fun t113 => (some t113)) = some r := by rw [if_pos rfl] at H; exact H
              clear H
              have H := H1
              clear H1
              replace H := Option.bind_eq_some_iff.mp H
              obtain ⟨t113, A160, H⟩ := H
              replace H : (some t113) = some r := H
              have A16 := Aside0.mk A160
              clear A160
              obtain rfl := Option.some.inj H
              go_wp2_with (first | ((with_reducible refine gate_callee (f := 23) rfl ?_); refine goesL_ (some 70) rfl rfl Try.func23 (by kernel_rfl) rfl #[.int .u64 (add64c t111 1 0), .int .u64 (add64s t111 1 0), .bool true] rfl (by (try simp only [List.map_toArray, List.map_cons, List.map_nil]); first | done | rfl | (simp only [List.length_drop, List.length_take]; rfl)) ?_; (with_reducible refine (wide_signed.calls kj9 (add64c t111 1 0) (add64s t111 1 0) true t113 _ (by have h := A16.out; rw [hsvb0] at h; exact h)).mono ?_); rintro e w' ⟨rfl, ⟨nd, rfl⟩⟩; refine ⟨_, rfl, ?_⟩))
              go_ret
              exact ⟨by first | rfl | (simp; done) | (simp [*]; done), by repeat (first | exact Drawn0.refl _ | apply Drawn0.step)⟩
            · replace c15 := Bool.eq_false_iff.mpr c15
              subst c15
              have H1 : ((wide_signed.f kj9 (add64c t111 0 0) (add64s t111 0 0) (t108 != (decide (a2 < 0)))).bind fun t114 => (some t114)) = some r := by rw [if_neg (show ¬ (false = true) by decide)] at H; exact H
              clear H
              have H := H1
              clear H1
              replace H := Option.bind_eq_some_iff.mp H
              obtain ⟨t114, A170, H⟩ := H
              replace H : (some t114) = some r := H
              have A17 := Aside0.mk A170
              clear A170
              obtain rfl := Option.some.inj H
              go_wp2_with (first | ((with_reducible refine gate_callee (f := 23) rfl ?_); refine goesL_ (some 70) rfl rfl Try.func23 (by kernel_rfl) rfl #[.int .u64 (add64c t111 0 0), .int .u64 (add64s t111 0 0), .bool true] rfl (by (try simp only [List.map_toArray, List.map_cons, List.map_nil]); first | done | rfl | (simp only [List.length_drop, List.length_take]; rfl)) ?_; (with_reducible refine (wide_signed.calls kj9 (add64c t111 0 0) (add64s t111 0 0) true t114 _ (by have h := A17.out; rw [hsvb0] at h; exact h)).mono ?_); rintro e w' ⟨rfl, ⟨nd, rfl⟩⟩; refine ⟨_, rfl, ?_⟩))
              go_ret
              exact ⟨by first | rfl | (simp; done) | (simp [*]; done), by repeat (first | exact Drawn0.refl _ | apply Drawn0.step)⟩
      · have hsvb0 : (t108 != (decide (a2 < 0))) = false := hsv
        have hsvb2 : (t108 == (decide (a2 < 0))) = true := by simpa using hsv
        have HC10 := Aside0.mk H
        clear H
        go_enter Try.func20, Try.ntmps20
        go_upto_region 11 with (first | ((with_reducible refine gate_callee (f := 22) rfl ?_); refine goesL_ (some 21) rfl rfl Try.func22 (by kernel_rfl) rfl #[.int .i64 a0, .int .i64 a1] rfl (by (try simp only [List.map_toArray, List.map_cons, List.map_nil]); first | done | rfl | (simp only [List.length_drop, List.length_take]; rfl)) ?_; (with_reducible refine (wide_product.calls a0 a1 t106 t107 t108 _ A5.out).mono ?_); rintro e w' ⟨rfl, ⟨nd, rfl⟩⟩; refine ⟨_, rfl, ?_⟩) | ((with_reducible refine gate_callee (f := 35) rfl ?_); refine goesL_ (some 26) rfl rfl Try.func35 (by kernel_rfl) rfl #[.int .i64 a2] rfl (by (try simp only [List.map_toArray, List.map_cons, List.map_nil]); first | done | rfl | (simp only [List.length_drop, List.length_take]; rfl)) ?_; (with_reducible refine (wide_size.calls a2 t109 _ A6.out).mono ?_); rintro e w' ⟨rfl, ⟨nd, rfl⟩⟩; refine ⟨_, rfl, ?_⟩) | ((with_reducible refine gate_callee (f := 36) rfl ?_); refine goesL_ (some 40) rfl rfl Try.func36 (by kernel_rfl) rfl #[.int .u64 t106, .int .u64 t107, .int .u64 t109] rfl (by (try simp only [List.map_toArray, List.map_cons, List.map_nil]); first | done | rfl | (simp only [List.length_drop, List.length_take]; rfl)) ?_; (with_reducible refine (bits_Div64.calls k t106 t107 t109 t111 t112 _ A9.out).mono ?_); rintro e w' ⟨rfl, ⟨nd, rfl⟩⟩; refine ⟨_, rfl, ?_⟩))
        (try simp only [Act.put, List.setIfInBounds_toArray, List.set_cons_zero, List.set_cons_succ])
        go_cut [60] (fun v60 wc => ∃ (kq : Nat) (x60_9 : Bool), v60 = .bool x60_9 ∧ Aside0 (wide_MulDiv.j0 kq (t108 != (decide (a2 < 0))) t111 0 x60_9 = some r) ∧ Aside0 (kq ≤ k) ∧ Drawn0 w wc)
        case first =>
          have H := HC10.out
          clear HC10
          by_cases c11 : (t108 != (decide (a2 < 0))) = true
          · rw [if_pos c11] at H
            have c11b0 : (t108 != (decide (a2 < 0))) = true := c11
            exact absurd (hsvb0.symm.trans c11b0) (by decide)
          · rw [if_neg c11] at H
            have c11b0 : (t108 != (decide (a2 < 0))) = false := by simpa using c11
            (try (have c11b1 : decide (t108 = (decide (a2 < 0))) = true := by simpa using c11))
            (try (have c11b2 : (t108 == (decide (a2 < 0))) = true := by simpa using c11))
            clear c11
            (first | rw [c11b0] | (simp only [i64_w, i32_w]; rw [c11b0]) | skip)
            by_cases c14 : ((t108 != (decide (a2 < 0))) = true)
            · rw [if_pos c14] at H
              have c14b0 : (t108 != (decide (a2 < 0))) = true := c14
              exact absurd (hsvb0.symm.trans c14b0) (by decide)
            · rw [if_neg c14] at H
              have c14b0 : (t108 != (decide (a2 < 0))) = false := by simpa using c14
              (try (have c14b1 : decide (t108 = (decide (a2 < 0))) = true := by simpa using c14))
              (try (have c14b2 : (t108 == (decide (a2 < 0))) = true := by simpa using c14))
              clear c14
              have H' := Aside0.mk H
              clear H
              go_wp2
              go_meet
              case rel => exact ⟨_, (decide (t112 ≥ (IntKind.u64.wrap (t109 - t112)))), (by first | rfl | (simp; done) | (simp [*]; done)), H', ⟨by first | omega | exact Nat.le_refl _⟩, by repeat (first | exact Drawn0.refl _ | apply Drawn0.step)⟩
        case rest =>
          clear HC10
          try clear c1
          try clear c2
          try clear p2
          try clear c3
          try clear c4
          try clear c4b0
          try clear c4b1
          try clear c7
          try clear c7b0
          try clear c11
          try clear c11b0
          try clear c11b1
          try clear c11b2
          try clear c12
          try clear c12b0
          try clear c13
          try clear c13b0
          try clear c13b1
          try clear c13b2
          try clear c14
          try clear c14b0
          try clear c14b1
          try clear c14b2
          obtain ⟨kq, x60_9, rfl, HA, HJ9, ⟨mc9, rfl⟩⟩ := hcut
          cases kq with
          | zero => exact absurd HA.out (by simp [wide_MulDiv.j0])
          | succ kj9 =>
            have H := HA.out
            clear HA
            simp only [wide_MulDiv.j0] at H
            by_cases c15 : x60_9 = true
            · subst c15
              have H1 : ((wide_signed.f kj9 (add64c t111 1 0) (add64s t111 1 0) (t108 != (decide (a2 < 0)))).bind fun t113 => (some t113)) = some r := by rw [if_pos rfl] at H; exact H
              clear H
              have H := H1
              clear H1
              replace H := Option.bind_eq_some_iff.mp H
              obtain ⟨t113, A160, H⟩ := H
              replace H : (some t113) = some r := H
              have A16 := Aside0.mk A160
              clear A160
              obtain rfl := Option.some.inj H
              go_wp2_with (first | ((with_reducible refine gate_callee (f := 23) rfl ?_); refine goesL_ (some 70) rfl rfl Try.func23 (by kernel_rfl) rfl #[.int .u64 (add64c t111 1 0), .int .u64 (add64s t111 1 0), .bool false] rfl (by (try simp only [List.map_toArray, List.map_cons, List.map_nil]); first | done | rfl | (simp only [List.length_drop, List.length_take]; rfl)) ?_; (with_reducible refine (wide_signed.calls kj9 (add64c t111 1 0) (add64s t111 1 0) false t113 _ (by have h := A16.out; rw [hsvb0] at h; exact h)).mono ?_); rintro e w' ⟨rfl, ⟨nd, rfl⟩⟩; refine ⟨_, rfl, ?_⟩))
              go_ret
              exact ⟨by first | rfl | (simp; done) | (simp [*]; done), by repeat (first | exact Drawn0.refl _ | apply Drawn0.step)⟩
            · replace c15 := Bool.eq_false_iff.mpr c15
              subst c15
              have H1 : ((wide_signed.f kj9 (add64c t111 0 0) (add64s t111 0 0) (t108 != (decide (a2 < 0)))).bind fun t114 => (some t114)) = some r := by rw [if_neg (show ¬ (false = true) by decide)] at H; exact H
              clear H
              have H := H1
              clear H1
              replace H := Option.bind_eq_some_iff.mp H
              obtain ⟨t114, A170, H⟩ := H
              replace H : (some t114) = some r := H
              have A17 := Aside0.mk A170
              clear A170
              obtain rfl := Option.some.inj H
              go_wp2_with (first | ((with_reducible refine gate_callee (f := 23) rfl ?_); refine goesL_ (some 70) rfl rfl Try.func23 (by kernel_rfl) rfl #[.int .u64 (add64c t111 0 0), .int .u64 (add64s t111 0 0), .bool false] rfl (by (try simp only [List.map_toArray, List.map_cons, List.map_nil]); first | done | rfl | (simp only [List.length_drop, List.length_take]; rfl)) ?_; (with_reducible refine (wide_signed.calls kj9 (add64c t111 0 0) (add64s t111 0 0) false t114 _ (by have h := A17.out; rw [hsvb0] at h; exact h)).mono ?_); rintro e w' ⟨rfl, ⟨nd, rfl⟩⟩; refine ⟨_, rfl, ?_⟩))
              go_ret
              exact ⟨by first | rfl | (simp; done) | (simp [*]; done), by repeat (first | exact Drawn0.refl _ | apply Drawn0.step)⟩

/-! ### sinc_series: function 13 -/
def sinc_series.l0 : Nat → Int → Int → Int → Int → Int → Option (Int)
  | 0, _, _, _, _, _ => none
  | k + 1, x5, x6, x7, x8, x9 => if x9 ≤ 30 then ((wide_MulDiv.f k x7 x5 (wrap64 ((wrap64 ((wrap64 (2 * x9)) * (wrap64 ((wrap64 (2 * x9)) + 1)))) * 1099511627776))).bind fun t118 => (sinc_series.l0 k x5 (wrap64 (x6 + (wrap64 ((wrap64 (-x8)) * t118)))) t118 (wrap64 (-x8)) (wrap64 (x9 + 1)))) else (some x6)
def sinc_series.f (k : Nat) (a0 : Int) (a1 : Int) : Option (Int) := (sinc_size.f a0).bind fun t115 => ((wide_MulDiv.f k 10851744800547 t115 a1).bind fun t116 => ((wide_MulDiv.f k t116 t115 a1).bind fun t117 => (sinc_series.l0 k t117 1099511627776 1099511627776 1 1)))
theorem sinc_series.mono_l : ∀ k, (∀ y0 y1 y2 y3 y4, LeO (sinc_series.l0 k y0 y1 y2 y3 y4) (sinc_series.l0 (k + 1) y0 y1 y2 y3 y4))
  | 0 => fun _ _ _ _ _ r h => by simp [sinc_series.l0] at h
  | k + 1 => by
    have ih0 := sinc_series.mono_l k
    · intro y0 y1 y2 y3 y4
      unfold sinc_series.l0
      repeat' first
      | (with_reducible exact ih0 _ _ _ _ _)
      | (with_reducible exact wide_MulDiv.mono _ _ _ _)
      | (with_reducible exact LeO.refl _)
      | (with_reducible exact LeO.none _)
      | (with_reducible refine LeO.ite ?_ ?_)
      | (with_reducible refine LeO.bind ?_ (fun _ => ?_))
      | exact ih0 _ _ _ _ _
      | exact wide_MulDiv.mono _ _ _ _
      | exact LeO.none _
      | refine LeO.ite ?_ ?_
      | refine LeO.bind ?_ (fun _ => ?_)
theorem sinc_series.mono : ∀ a0 a1 k, LeO (sinc_series.f k a0 a1) (sinc_series.f (k + 1) a0 a1) := by
  intro a0 a1 k
  have ih0 := sinc_series.mono_l k
  unfold sinc_series.f
  repeat' first
      | (with_reducible exact ih0 _ _ _ _ _)
      | (with_reducible exact wide_MulDiv.mono _ _ _ _)
      | (with_reducible exact LeO.refl _)
      | (with_reducible exact LeO.none _)
      | (with_reducible refine LeO.ite ?_ ?_)
      | (with_reducible refine LeO.bind ?_ (fun _ => ?_))
      | exact ih0 _ _ _ _ _
      | exact wide_MulDiv.mono _ _ _ _
      | exact LeO.none _
      | refine LeO.ite ?_ ?_
      | refine LeO.bind ?_ (fun _ => ?_)
set_option maxHeartbeats 8000000 in
set_option maxRecDepth 100000 in
theorem sinc_series.calls (k : Nat) (a0 : Int) (a1 : Int) (r : Int) (w : World) (h : sinc_series.f k a0 a1 = some r) :
    Calls Try.prog 13 #[.int .i64 a0, .int .i64 a1] w fun e w' => e = .returned (.int .i64 r) ∧ Below w.heap.size w w' := by
  have HB := Aside0.mk (Below.refl w.heap.size w)
  have H : ((sinc_size.f a0).bind fun t115 => ((wide_MulDiv.f k 10851744800547 t115 a1).bind fun t116 => ((wide_MulDiv.f k t116 t115 a1).bind fun t117 => (sinc_series.l0 k t117 1099511627776 1099511627776 1 1)))) = some r := h
  clear h
  replace H := Option.bind_eq_some_iff.mp H
  obtain ⟨t115, A30, H⟩ := H
  replace H : ((wide_MulDiv.f k 10851744800547 t115 a1).bind fun t116 => ((wide_MulDiv.f k t116 t115 a1).bind fun t117 => (sinc_series.l0 k t117 1099511627776 1099511627776 1 1))) = some r := H
  have A3 := Aside0.mk A30
  clear A30
  replace H := Option.bind_eq_some_iff.mp H
  obtain ⟨t116, A40, H⟩ := H
  replace H : ((wide_MulDiv.f k t116 t115 a1).bind fun t117 => (sinc_series.l0 k t117 1099511627776 1099511627776 1 1)) = some r := H
  have A4 := Aside0.mk A40
  clear A40
  replace H := Option.bind_eq_some_iff.mp H
  obtain ⟨t117, A50, H⟩ := H
  replace H : (sinc_series.l0 k t117 1099511627776 1099511627776 1 1) = some r := H
  have A5 := Aside0.mk A50
  clear A50
  have H' := Aside0.mk H
  clear H
  go_enter Try.func13, Try.ntmps13
  go_wp2_with (first | ((with_reducible refine gate_callee (f := 15) rfl ?_); refine goesL_ (some 11) rfl rfl Try.func15 (by kernel_rfl) rfl #[.int .i64 a0] rfl (by (try simp only [List.map_toArray, List.map_cons, List.map_nil]); first | done | rfl | (simp only [List.length_drop, List.length_take]; rfl)) ?_; (with_reducible refine (sinc_size.calls a0 t115 _ A3.out).mono ?_); rintro e w6 ⟨rfl, hb⟩; refine ⟨_, rfl, ?_⟩; have n0_ := Aside0.mk (below_step (by repeat (first | (with_reducible first | exact HB.out | apply below_alloc | apply pw_below_drewN | apply below_drew1) | exact HB.out)) hb); clear HB; have HB := n0_; clear n0_; (try clear hb); (try clear hb2); (try clear hk); (try clear hi)) | ((with_reducible refine gate_callee (f := 20) rfl ?_); refine goesL_ (some 14) rfl rfl Try.func20 (by kernel_rfl) rfl #[.int .i64 10851744800547, .int .i64 t115, .int .i64 a1] rfl (by (try simp only [List.map_toArray, List.map_cons, List.map_nil]); first | done | rfl | (simp only [List.length_drop, List.length_take]; rfl)) ?_; (with_reducible refine (wide_MulDiv.calls k 10851744800547 t115 a1 t116 _ A4.out).mono ?_); rintro e w' ⟨rfl, ⟨nd, rfl⟩⟩; refine ⟨_, rfl, ?_⟩) | ((with_reducible refine gate_callee (f := 20) rfl ?_); refine goesL_ (some 17) rfl rfl Try.func20 (by kernel_rfl) rfl #[.int .i64 t116, .int .i64 t115, .int .i64 a1] rfl (by (try simp only [List.map_toArray, List.map_cons, List.map_nil]); first | done | rfl | (simp only [List.length_drop, List.length_take]; rfl)) ?_; (with_reducible refine (wide_MulDiv.calls k t116 t115 a1 t117 _ A5.out).mono ?_); rintro e w' ⟨rfl, ⟨nd, rfl⟩⟩; refine ⟨_, rfl, ?_⟩))
  go_loopg [6, 7, 8, 9] k (fun kq v6 v7 v8 v9 w' => ∃ (x6_1 : Int) (x7_1 : Int) (x8_1 : Int) (x9_1 : Int), v6 = .int .i64 x6_1 ∧ v7 = .int .i64 x7_1 ∧ v8 = .int .i64 x8_1 ∧ v9 = .int .i64 x9_1 ∧ Aside0 (sinc_series.l0 kq t117 x6_1 x7_1 x8_1 x9_1 = some r) ∧ Aside0 (kq ≤ k) ∧ Aside0 (Below w.heap.size w w'))
  case atStart => exact ⟨(1099511627776), (1099511627776), (1), (1), (by first | rfl | (simp; done) | (simp [*]; done)), (by first | rfl | (simp; done) | (simp [*]; done)), (by first | rfl | (simp; done) | (simp [*]; done)), (by first | rfl | (simp; done) | (simp [*]; done)), H', ⟨Nat.le_refl _⟩, ⟨by repeat (first | (with_reducible first | exact HB.out | apply below_alloc | apply pw_below_drewN | apply below_drew1) | exact HB.out)⟩⟩
  case round =>
    clear H'
    try clear c1
    try clear c2
    try clear p2
    obtain ⟨x6_1, x7_1, x8_1, x9_1, rfl, rfl, rfl, rfl, HA, HK1, HB⟩ := hrel
    cases gk with
    | zero => exact absurd HA.out (by simp [sinc_series.l0])
    | succ k1 =>
      have H := HA.out
      clear HA
      simp only [sinc_series.l0] at H
      by_cases c7 : x9_1 ≤ 30
      · rw [if_pos c7] at H
        have c7b0 : decide (x9_1 ≤ 30) = true := decide_eq_true c7
        clear c7
        replace H := Option.bind_eq_some_iff.mp H
        obtain ⟨t118, A80, H⟩ := H
        replace H : (sinc_series.l0 k1 t117 (wrap64 (x6_1 + (wrap64 ((wrap64 (-x8_1)) * t118)))) t118 (wrap64 (-x8_1)) (wrap64 (x9_1 + 1))) = some r := H
        have A8 := Aside0.mk A80
        clear A80
        have H' := Aside0.mk H
        clear H
        go_wp2_with (first | ((with_reducible refine gate_callee (f := 20) rfl ?_); refine goesL_ (some 33) rfl rfl Try.func20 (by kernel_rfl) rfl #[.int .i64 x7_1, .int .i64 t117, .int .i64 (wrap64 ((wrap64 ((wrap64 (2 * x9_1)) * (wrap64 ((wrap64 (2 * x9_1)) + 1)))) * 1099511627776))] rfl (by (try simp only [List.map_toArray, List.map_cons, List.map_nil]); first | done | rfl | (simp only [List.length_drop, List.length_take]; rfl)) ?_; (with_reducible refine (wide_MulDiv.calls k1 x7_1 t117 (wrap64 ((wrap64 ((wrap64 (2 * x9_1)) * (wrap64 ((wrap64 (2 * x9_1)) + 1)))) * 1099511627776)) t118 _ A8.out).mono ?_); rintro e w' ⟨rfl, ⟨nd, rfl⟩⟩; refine ⟨_, rfl, ?_⟩))
        go_roundg k1
        case measure => have := HK1.out; omega
        case rel => exact ⟨(wrap64 (x6_1 + (wrap64 ((wrap64 (-x8_1)) * t118)))), (t118), (wrap64 (-x8_1)), (wrap64 (x9_1 + 1)), (by first | rfl | (simp; done) | (simp [*]; done)), (by first | rfl | (simp; done) | (simp [*]; done)), (by first | rfl | (simp; done) | (simp [*]; done)), (by first | rfl | (simp; done) | (simp [*]; done)), H', ⟨by have := HK1.out; omega⟩, ⟨by repeat (first | (with_reducible first | exact HB.out | apply below_alloc | apply pw_below_drewN | apply below_drew1) | exact HB.out)⟩⟩
      · rw [if_neg c7] at H
        have c7b0 : decide (x9_1 ≤ 30) = false := decide_eq_false c7
        clear c7
        obtain rfl := Option.some.inj H
        go_wp2
        go_ret
        exact ⟨by first | rfl | (simp [errW_none, errW_some] <;> rfl) | (simp [*, errW_none, errW_some] <;> rfl), by repeat (first | (with_reducible first | exact HB.out | apply below_alloc | apply pw_below_drewN | apply below_drew1) | exact HB.out)⟩

/-! ### sinc_Sinc: function 9 -/
def sinc_Sinc.f (k : Nat) (a0 : Int) (a1 : Int) : Option (Int) := (sinc_May.f a0 a1).bind fun t119 => (if t119 = true then ((sinc_series.f k a0 a1).bind fun t120 => (some t120)) else (some 0))
theorem sinc_Sinc.mono : ∀ a0 a1 k, LeO (sinc_Sinc.f k a0 a1) (sinc_Sinc.f (k + 1) a0 a1) := by
  intro a0 a1 k
  unfold sinc_Sinc.f
  repeat' first
      | (with_reducible exact sinc_series.mono _ _ _)
      | (with_reducible exact LeO.refl _)
      | (with_reducible exact LeO.none _)
      | (with_reducible refine LeO.ite ?_ ?_)
      | (with_reducible refine LeO.bind ?_ (fun _ => ?_))
      | exact sinc_series.mono _ _ _
      | exact LeO.none _
      | refine LeO.ite ?_ ?_
      | refine LeO.bind ?_ (fun _ => ?_)
set_option maxHeartbeats 8000000 in
set_option maxRecDepth 100000 in
theorem sinc_Sinc.calls (k : Nat) (a0 : Int) (a1 : Int) (r : Int) (w : World) (h : sinc_Sinc.f k a0 a1 = some r) :
    Calls Try.prog 9 #[.int .i64 a0, .int .i64 a1] w fun e w' => e = .returned (.int .i64 r) ∧ Below w.heap.size w w' := by
  have HB := Aside0.mk (Below.refl w.heap.size w)
  have H : ((sinc_May.f a0 a1).bind fun t119 => (if t119 = true then ((sinc_series.f k a0 a1).bind fun t120 => (some t120)) else (some 0))) = some r := h
  clear h
  replace H := Option.bind_eq_some_iff.mp H
  obtain ⟨t119, A30, H⟩ := H
  replace H : (if t119 = true then ((sinc_series.f k a0 a1).bind fun t120 => (some t120)) else (some 0)) = some r := H
  have A3 := Aside0.mk A30
  clear A30
  by_cases c4 : t119 = true
  · subst c4
    have H1 : ((sinc_series.f k a0 a1).bind fun t120 => (some t120)) = some r := by rw [if_pos rfl] at H; exact H
    clear H
    have H := H1
    clear H1
    replace H := Option.bind_eq_some_iff.mp H
    obtain ⟨t120, A50, H⟩ := H
    replace H : (some t120) = some r := H
    have A5 := Aside0.mk A50
    clear A50
    obtain rfl := Option.some.inj H
    go_enter Try.func9, Try.ntmps9
    go_wp2_with (first | ((with_reducible refine gate_callee (f := 7) rfl ?_); refine goesL_ (some 7) rfl rfl Try.func7 (by kernel_rfl) rfl #[.int .i64 a0, .int .i64 a1] rfl (by (try simp only [List.map_toArray, List.map_cons, List.map_nil]); first | done | rfl | (simp only [List.length_drop, List.length_take]; rfl)) ?_; (with_reducible refine (sinc_May.calls a0 a1 true _ A3.out).mono ?_); rintro e w' ⟨rfl, ⟨nd, rfl⟩⟩; refine ⟨_, rfl, ?_⟩) | ((with_reducible refine gate_callee (f := 13) rfl ?_); refine goesL_ (some 11) rfl rfl Try.func13 (by kernel_rfl) rfl #[.int .i64 a0, .int .i64 a1] rfl (by (try simp only [List.map_toArray, List.map_cons, List.map_nil]); first | done | rfl | (simp only [List.length_drop, List.length_take]; rfl)) ?_; (with_reducible refine (sinc_series.calls k a0 a1 t120 _ A5.out).mono ?_); rintro e w6 ⟨rfl, hb⟩; refine ⟨_, rfl, ?_⟩; have n0_ := Aside0.mk (below_step (by repeat (first | (with_reducible first | exact HB.out | apply below_alloc | apply pw_below_drewN | apply below_drew1) | exact HB.out)) hb); clear HB; have HB := n0_; clear n0_; (try clear hb); (try clear hb2); (try clear hk); (try clear hi)))
    go_ret
    exact ⟨by first | rfl | (simp [errW_none, errW_some] <;> rfl) | (simp [*, errW_none, errW_some] <;> rfl), by repeat (first | (with_reducible first | exact HB.out | apply below_alloc | apply pw_below_drewN | apply below_drew1) | exact HB.out)⟩
  · replace c4 := Bool.eq_false_iff.mpr c4
    subst c4
    have H1 : (some 0) = some r := by rw [if_neg (show ¬ (false = true) by decide)] at H; exact H
    clear H
    have H := H1
    clear H1
    obtain rfl := Option.some.inj H
    go_enter Try.func9, Try.ntmps9
    go_wp2_with (first | ((with_reducible refine gate_callee (f := 7) rfl ?_); refine goesL_ (some 7) rfl rfl Try.func7 (by kernel_rfl) rfl #[.int .i64 a0, .int .i64 a1] rfl (by (try simp only [List.map_toArray, List.map_cons, List.map_nil]); first | done | rfl | (simp only [List.length_drop, List.length_take]; rfl)) ?_; (with_reducible refine (sinc_May.calls a0 a1 false _ A3.out).mono ?_); rintro e w' ⟨rfl, ⟨nd, rfl⟩⟩; refine ⟨_, rfl, ?_⟩))
    go_ret
    exact ⟨by first | rfl | (simp [errW_none, errW_some] <;> rfl) | (simp [*, errW_none, errW_some] <;> rfl), by repeat (first | (with_reducible first | exact HB.out | apply below_alloc | apply pw_below_drewN | apply below_drew1) | exact HB.out)⟩

end Go.Proofs.Ytbkbgpileogehaa.QA
