-- Written by wip/tools/pp.py over the kit's print.py; not trusted: Lean checks it.
import Derived.Test.YteiojnljdhjnlaaQAx0
import Derived.Test.YteiojnljdhjnlaaQAx1
import Derived.Test.YteiojnljdhjnlaaQAx5
import Derived.Test.YteiojnljdhjnlaaQAx16
import Derived.Test.YteiojnljdhjnlaaQAx17
namespace Go.Proofs.Yteiojnljdhjnlaa.QA
open Go.Proofs.Yteiojnljdhjnlaa.T
open Go.RowKit Go.Proofs.YteiojnljdhjnlaaW.PrintWords Go.Proofs.YteiojnljdhjnlaaW.PrintLast Go.Proofs.YteiojnljdhjnlaaW.PrintMore
attribute [local go_sem] ext_call max2_int min2_int max_two min_two max_three min_three max_four min_four   -- for this text's walks alone
set_option linter.unusedVariables false
set_option linter.unusedSimpArgs false

attribute [local go_sem high] eqA29
/-! ### smaltolaw02_WideTurns: function 6 -/
mutual
def smaltolaw02_WideTurns.j0 : Nat → Int → Int → Int → Bool → Option (Bool)
  | 0, _, _, _, _ => none
  | k + 1, x0, x1, x2, x18 => if x18 = true then ((smaltolaw02_lives.f k).bind fun t263 => (some t263)) else ((wide_Product.f (wrap64 (-x0)) x1).bind fun bt264 => ((wide_Product.f x0 x1).bind fun bt266 => ((wide_Negative.f bt266.1 bt266.2).bind fun bt268 => (if (!(bt264.1 == bt268.1) || (!(bt264.2 == bt268.2))) = true then (smaltolaw02_WideTurns.j1 k x0 x1 x2 true) else ((wide_Product.f x0 x1).bind fun bt270 => ((wide_Product.f x1 x0).bind fun bt272 => (if (!(bt270.1 == bt272.1) || (!(bt270.2 == bt272.2))) = true then (smaltolaw02_WideTurns.j1 k x0 x1 x2 true) else ((wide_MulDiv.f k x0 x1 x2).bind fun t274 => ((wide_MulDiv.f k x1 x0 x2).bind fun t275 => (if t274 = t275 then ((wide_MulDiv.f k (wrap64 (-x0)) x1 (wrap64 (-x2))).bind fun t276 => (smaltolaw02_WideTurns.j1 k x0 x1 x2 (t276 != t274))) else (smaltolaw02_WideTurns.j1 k x0 x1 x2 true)))))))))))
def smaltolaw02_WideTurns.j1 : Nat → Int → Int → Int → Bool → Option (Bool)
  | 0, _, _, _, _ => none
  | k + 1, x0, x1, x2, x61 => if x61 = true then (some false) else ((wide_MulDiv.f k x0 x1 x2).bind fun t277 => ((wide_MulDiv.f k (wrap64 (-x0)) x1 x2).bind fun t278 => (if t277 = (wrap64 (-t278)) then (some true) else (if t277 = (wrap64 ((wrap64 (-t278)) + 1)) then (some true) else (if t277 = 9223372036854775807 then (if t278 = (-9223372036854775808) then (some true) else (if t277 = (-9223372036854775808) then (some (t278 == 9223372036854775807)) else (some false))) else (if t277 = (-9223372036854775808) then (some (t278 == 9223372036854775807)) else (some false)))))))
end
def smaltolaw02_WideTurns.f (k : Nat) (a0 : Int) (a1 : Int) (a2 : Int) : Option (Bool) := (smaltolaw02_lives.f k).bind fun t262 => (if t262 = true then (if a0 = (-9223372036854775808) then (smaltolaw02_WideTurns.j0 k a0 a1 a2 true) else (smaltolaw02_WideTurns.j0 k a0 a1 a2 (a2 == (-9223372036854775808)))) else (smaltolaw02_WideTurns.j0 k a0 a1 a2 true))
theorem smaltolaw02_WideTurns.mono_l : ∀ k, (∀ y0 y1 y2 y3, LeO (smaltolaw02_WideTurns.j0 k y0 y1 y2 y3) (smaltolaw02_WideTurns.j0 (k + 1) y0 y1 y2 y3)) ∧ (∀ y0 y1 y2 y3, LeO (smaltolaw02_WideTurns.j1 k y0 y1 y2 y3) (smaltolaw02_WideTurns.j1 (k + 1) y0 y1 y2 y3))
  | 0 => ⟨fun _ _ _ _ r h => by simp [smaltolaw02_WideTurns.j0] at h, fun _ _ _ _ r h => by simp [smaltolaw02_WideTurns.j1] at h⟩
  | k + 1 => by
    obtain ⟨ih0, ih1⟩ := smaltolaw02_WideTurns.mono_l k
    refine ⟨?_, ?_⟩
    · intro y0 y1 y2 y3
      unfold smaltolaw02_WideTurns.j0
      repeat' first
      | (with_reducible exact ih0 _ _ _ _)
      | (with_reducible exact ih1 _ _ _ _)
      | (with_reducible exact smaltolaw02_lives.mono _)
      | (with_reducible exact wide_MulDiv.mono _ _ _ _)
      | (with_reducible exact LeO.refl _)
      | (with_reducible exact LeO.none _)
      | (with_reducible refine LeO.ite ?_ ?_)
      | (with_reducible refine LeO.bind ?_ (fun _ => ?_))
      | exact ih0 _ _ _ _
      | exact ih1 _ _ _ _
      | exact smaltolaw02_lives.mono _
      | exact wide_MulDiv.mono _ _ _ _
      | exact LeO.none _
      | refine LeO.ite ?_ ?_
      | refine LeO.bind ?_ (fun _ => ?_)
    · intro y0 y1 y2 y3
      unfold smaltolaw02_WideTurns.j1
      repeat' first
      | (with_reducible exact ih0 _ _ _ _)
      | (with_reducible exact ih1 _ _ _ _)
      | (with_reducible exact smaltolaw02_lives.mono _)
      | (with_reducible exact wide_MulDiv.mono _ _ _ _)
      | (with_reducible exact LeO.refl _)
      | (with_reducible exact LeO.none _)
      | (with_reducible refine LeO.ite ?_ ?_)
      | (with_reducible refine LeO.bind ?_ (fun _ => ?_))
      | exact ih0 _ _ _ _
      | exact ih1 _ _ _ _
      | exact smaltolaw02_lives.mono _
      | exact wide_MulDiv.mono _ _ _ _
      | exact LeO.none _
      | refine LeO.ite ?_ ?_
      | refine LeO.bind ?_ (fun _ => ?_)
theorem smaltolaw02_WideTurns.mono : ∀ a0 a1 a2 k, LeO (smaltolaw02_WideTurns.f k a0 a1 a2) (smaltolaw02_WideTurns.f (k + 1) a0 a1 a2) := by
  intro a0 a1 a2 k
  obtain ⟨ih0, ih1⟩ := smaltolaw02_WideTurns.mono_l k
  unfold smaltolaw02_WideTurns.f
  repeat' first
      | (with_reducible exact ih0 _ _ _ _)
      | (with_reducible exact ih1 _ _ _ _)
      | (with_reducible exact smaltolaw02_lives.mono _)
      | (with_reducible exact wide_MulDiv.mono _ _ _ _)
      | (with_reducible exact LeO.refl _)
      | (with_reducible exact LeO.none _)
      | (with_reducible refine LeO.ite ?_ ?_)
      | (with_reducible refine LeO.bind ?_ (fun _ => ?_))
      | exact ih0 _ _ _ _
      | exact ih1 _ _ _ _
      | exact smaltolaw02_lives.mono _
      | exact wide_MulDiv.mono _ _ _ _
      | exact LeO.none _
      | refine LeO.ite ?_ ?_
      | refine LeO.bind ?_ (fun _ => ?_)
set_option maxHeartbeats 8000000 in
set_option maxRecDepth 100000 in
theorem smaltolaw02_WideTurns.calls (k : Nat) (a0 : Int) (a1 : Int) (a2 : Int) (r : Bool) (w : World) (h : smaltolaw02_WideTurns.f k a0 a1 a2 = some r) :
    Calls Try.prog 6 #[.int .i64 a0, .int .i64 a1, .int .i64 a2] w fun e w' => e = .returned (.bool r) ∧ Below w.heap.size w w' := by
  have HB := Aside0.mk (Below.refl w.heap.size w)
  have H : ((smaltolaw02_lives.f k).bind fun t262 => (if t262 = true then (if a0 = (-9223372036854775808) then (smaltolaw02_WideTurns.j0 k a0 a1 a2 true) else (smaltolaw02_WideTurns.j0 k a0 a1 a2 (a2 == (-9223372036854775808)))) else (smaltolaw02_WideTurns.j0 k a0 a1 a2 true))) = some r := h
  clear h
  have HC4 := Aside0.mk H
  clear H
  go_enter Try.func6, Try.ntmps6
  go_upto_region 1 with (fail)
  go_cut [18] (fun v18 wc => ∃ (kq : Nat) (x18_3 : Bool), v18 = .bool x18_3 ∧ Aside0 (smaltolaw02_WideTurns.j0 kq a0 a1 a2 x18_3 = some r) ∧ Aside0 (kq ≤ k) ∧ Aside0 (Below w.heap.size w wc))
  case first =>
    have H := HC4.out
    clear HC4
    replace H := Option.bind_eq_some_iff.mp H
    obtain ⟨t262, A50, H⟩ := H
    replace H : (if t262 = true then (if a0 = (-9223372036854775808) then (smaltolaw02_WideTurns.j0 k a0 a1 a2 true) else (smaltolaw02_WideTurns.j0 k a0 a1 a2 (a2 == (-9223372036854775808)))) else (smaltolaw02_WideTurns.j0 k a0 a1 a2 true)) = some r := H
    have A5 := Aside0.mk A50
    clear A50
    by_cases c6 : t262 = true
    · subst c6
      have H1 : (if a0 = (-9223372036854775808) then (smaltolaw02_WideTurns.j0 k a0 a1 a2 true) else (smaltolaw02_WideTurns.j0 k a0 a1 a2 (a2 == (-9223372036854775808)))) = some r := by rw [if_pos rfl] at H; exact H
      clear H
      have H := H1
      clear H1
      by_cases c7 : a0 = (-9223372036854775808)
      · rw [if_pos c7] at H
        have c7b0 : (a0 == (-9223372036854775808)) = true := beq_iff_eq.mpr c7
        have c7b1 : (a0 != (-9223372036854775808)) = false := bne_eq_false_iff_eq.mpr c7
        clear c7
        (first | rw [c7b0] | (simp only [i64_w, i32_w]; rw [c7b0]) | skip)
        have H' := Aside0.mk H
        clear H
        go_wp2_with (first | ((with_reducible refine gate_callee (f := 18) rfl ?_); refine goesL_ (some 9) rfl rfl Try.func18 (by kernel_rfl) rfl #[] rfl (by (try simp only [List.map_toArray, List.map_cons, List.map_nil]); first | done | rfl | (simp only [List.length_drop, List.length_take]; rfl)) ?_; (with_reducible refine (smaltolaw02_lives.calls k  true _ A5.out).mono ?_); rintro e w8 ⟨rfl, hb⟩; refine ⟨_, rfl, ?_⟩; have n0_ := Aside0.mk (below_step (by repeat (first | (with_reducible first | exact HB.out | apply below_alloc | apply pw_below_drewN | apply below_drew1) | exact HB.out)) hb); clear HB; have HB := n0_; clear n0_; (try clear hb); (try clear hb2); (try clear hk); (try clear hi)))
        go_meet
        case rel => exact ⟨_, (true), (by first | rfl | (simp; done) | (simp [*]; done)), H', ⟨by first | omega | exact Nat.le_refl _⟩, ⟨by repeat (first | (with_reducible first | exact HB.out | apply below_alloc | apply pw_below_drewN | apply below_drew1) | exact HB.out)⟩⟩
      · rw [if_neg c7] at H
        have c7b0 : (a0 == (-9223372036854775808)) = false := beq_eq_false_iff_ne.mpr c7
        have c7b1 : (a0 != (-9223372036854775808)) = true := bne_iff_ne.mpr c7
        (first | rw [c7b0] | (simp only [i64_w, i32_w]; rw [c7b0]) | skip)
        have H' := Aside0.mk H
        clear H
        go_wp2_with (first | ((with_reducible refine gate_callee (f := 18) rfl ?_); refine goesL_ (some 9) rfl rfl Try.func18 (by kernel_rfl) rfl #[] rfl (by (try simp only [List.map_toArray, List.map_cons, List.map_nil]); first | done | rfl | (simp only [List.length_drop, List.length_take]; rfl)) ?_; (with_reducible refine (smaltolaw02_lives.calls k  true _ A5.out).mono ?_); rintro e w9 ⟨rfl, hb⟩; refine ⟨_, rfl, ?_⟩; have n0_ := Aside0.mk (below_step (by repeat (first | (with_reducible first | exact HB.out | apply below_alloc | apply pw_below_drewN | apply below_drew1) | exact HB.out)) hb); clear HB; have HB := n0_; clear n0_; (try clear hb); (try clear hb2); (try clear hk); (try clear hi)))
        go_meet
        case rel => exact ⟨_, ((a2 == (-9223372036854775808))), (by first | rfl | (simp; done) | (simp [*]; done)), H', ⟨by first | omega | exact Nat.le_refl _⟩, ⟨by repeat (first | (with_reducible first | exact HB.out | apply below_alloc | apply pw_below_drewN | apply below_drew1) | exact HB.out)⟩⟩
    · replace c6 := Bool.eq_false_iff.mpr c6
      subst c6
      have H1 : (smaltolaw02_WideTurns.j0 k a0 a1 a2 true) = some r := by rw [if_neg (show ¬ (false = true) by decide)] at H; exact H
      clear H
      have H := H1
      clear H1
      have H' := Aside0.mk H
      clear H
      go_wp2_with (first | ((with_reducible refine gate_callee (f := 18) rfl ?_); refine goesL_ (some 9) rfl rfl Try.func18 (by kernel_rfl) rfl #[] rfl (by (try simp only [List.map_toArray, List.map_cons, List.map_nil]); first | done | rfl | (simp only [List.length_drop, List.length_take]; rfl)) ?_; (with_reducible refine (smaltolaw02_lives.calls k  false _ A5.out).mono ?_); rintro e w10 ⟨rfl, hb⟩; refine ⟨_, rfl, ?_⟩; have n0_ := Aside0.mk (below_step (by repeat (first | (with_reducible first | exact HB.out | apply below_alloc | apply pw_below_drewN | apply below_drew1) | exact HB.out)) hb); clear HB; have HB := n0_; clear n0_; (try clear hb); (try clear hb2); (try clear hk); (try clear hi)))
      go_meet
      case rel => exact ⟨_, (true), (by first | rfl | (simp; done) | (simp [*]; done)), H', ⟨by first | omega | exact Nat.le_refl _⟩, ⟨by repeat (first | (with_reducible first | exact HB.out | apply below_alloc | apply pw_below_drewN | apply below_drew1) | exact HB.out)⟩⟩
  case rest =>
    clear HC4
    try clear c1
    try clear p2
    try clear c6
    try clear c7
    try clear c7b0
    try clear c7b1
    obtain ⟨kq, x18_3, rfl, HA, HJ3, HB⟩ := hcut
    cases kq with
    | zero => exact absurd HA.out (by simp [smaltolaw02_WideTurns.j0])
    | succ kj3 =>
      have H := HA.out
      clear HA
      simp only [smaltolaw02_WideTurns.j0] at H
      by_cases c11 : x18_3 = true
      · subst c11
        have H1 : ((smaltolaw02_lives.f kj3).bind fun t263 => (some t263)) = some r := by rw [if_pos rfl] at H; exact H
        clear H
        have H := H1
        clear H1
        replace H := Option.bind_eq_some_iff.mp H
        obtain ⟨t263, A120, H⟩ := H
        replace H : (some t263) = some r := H
        have A12 := Aside0.mk A120
        clear A120
        obtain rfl := Option.some.inj H
        go_wp2_with (first | ((with_reducible refine gate_callee (f := 18) rfl ?_); refine goesL_ (some 19) rfl rfl Try.func18 (by kernel_rfl) rfl #[] rfl (by (try simp only [List.map_toArray, List.map_cons, List.map_nil]); first | done | rfl | (simp only [List.length_drop, List.length_take]; rfl)) ?_; (with_reducible refine (smaltolaw02_lives.calls kj3  t263 _ A12.out).mono ?_); rintro e w13 ⟨rfl, hb⟩; refine ⟨_, rfl, ?_⟩; have n0_ := Aside0.mk (below_step (by repeat (first | (with_reducible first | exact HB.out | apply below_alloc | apply pw_below_drewN | apply below_drew1) | exact HB.out)) hb); clear HB; have HB := n0_; clear n0_; (try clear hb); (try clear hb2); (try clear hk); (try clear hi)))
        go_ret
        exact ⟨by first | rfl | (simp [errW_none, errW_some] <;> rfl) | (simp [*, errW_none, errW_some] <;> rfl), by repeat (first | (with_reducible first | exact HB.out | apply below_alloc | apply pw_below_drewN | apply below_drew1) | exact HB.out)⟩
      · replace c11 := Bool.eq_false_iff.mpr c11
        subst c11
        have H1 : ((wide_Product.f (wrap64 (-a0)) a1).bind fun bt264 => ((wide_Product.f a0 a1).bind fun bt266 => ((wide_Negative.f bt266.1 bt266.2).bind fun bt268 => (if (!(bt264.1 == bt268.1) || (!(bt264.2 == bt268.2))) = true then (smaltolaw02_WideTurns.j1 kj3 a0 a1 a2 true) else ((wide_Product.f a0 a1).bind fun bt270 => ((wide_Product.f a1 a0).bind fun bt272 => (if (!(bt270.1 == bt272.1) || (!(bt270.2 == bt272.2))) = true then (smaltolaw02_WideTurns.j1 kj3 a0 a1 a2 true) else ((wide_MulDiv.f kj3 a0 a1 a2).bind fun t274 => ((wide_MulDiv.f kj3 a1 a0 a2).bind fun t275 => (if t274 = t275 then ((wide_MulDiv.f kj3 (wrap64 (-a0)) a1 (wrap64 (-a2))).bind fun t276 => (smaltolaw02_WideTurns.j1 kj3 a0 a1 a2 (t276 != t274))) else (smaltolaw02_WideTurns.j1 kj3 a0 a1 a2 true))))))))))) = some r := by rw [if_neg (show ¬ (false = true) by decide)] at H; exact H
        clear H
        have H := H1
        clear H1
        have HC14 := Aside0.mk H
        clear H
        go_upto_region 3 with (fail)
        go_cut [61] (fun v61 wc => ∃ (kq : Nat) (x61_13 : Bool), v61 = .bool x61_13 ∧ Aside0 (smaltolaw02_WideTurns.j1 kq a0 a1 a2 x61_13 = some r) ∧ Aside0 (kq ≤ kj3) ∧ Aside0 (Below w.heap.size w wc))
        case first =>
          have H := HC14.out
          clear HC14
          replace H := Option.bind_eq_some_iff.mp H
          obtain ⟨⟨t264, t265⟩, A150, H⟩ := H
          replace H : ((wide_Product.f a0 a1).bind fun bt266 => ((wide_Negative.f bt266.1 bt266.2).bind fun bt268 => (if (!(t264 == bt268.1) || (!(t265 == bt268.2))) = true then (smaltolaw02_WideTurns.j1 kj3 a0 a1 a2 true) else ((wide_Product.f a0 a1).bind fun bt270 => ((wide_Product.f a1 a0).bind fun bt272 => (if (!(bt270.1 == bt272.1) || (!(bt270.2 == bt272.2))) = true then (smaltolaw02_WideTurns.j1 kj3 a0 a1 a2 true) else ((wide_MulDiv.f kj3 a0 a1 a2).bind fun t274 => ((wide_MulDiv.f kj3 a1 a0 a2).bind fun t275 => (if t274 = t275 then ((wide_MulDiv.f kj3 (wrap64 (-a0)) a1 (wrap64 (-a2))).bind fun t276 => (smaltolaw02_WideTurns.j1 kj3 a0 a1 a2 (t276 != t274))) else (smaltolaw02_WideTurns.j1 kj3 a0 a1 a2 true)))))))))) = some r := H
          have A15 := Aside0.mk A150
          clear A150
          replace H := Option.bind_eq_some_iff.mp H
          obtain ⟨⟨t266, t267⟩, A160, H⟩ := H
          replace H : ((wide_Negative.f t266 t267).bind fun bt268 => (if (!(t264 == bt268.1) || (!(t265 == bt268.2))) = true then (smaltolaw02_WideTurns.j1 kj3 a0 a1 a2 true) else ((wide_Product.f a0 a1).bind fun bt270 => ((wide_Product.f a1 a0).bind fun bt272 => (if (!(bt270.1 == bt272.1) || (!(bt270.2 == bt272.2))) = true then (smaltolaw02_WideTurns.j1 kj3 a0 a1 a2 true) else ((wide_MulDiv.f kj3 a0 a1 a2).bind fun t274 => ((wide_MulDiv.f kj3 a1 a0 a2).bind fun t275 => (if t274 = t275 then ((wide_MulDiv.f kj3 (wrap64 (-a0)) a1 (wrap64 (-a2))).bind fun t276 => (smaltolaw02_WideTurns.j1 kj3 a0 a1 a2 (t276 != t274))) else (smaltolaw02_WideTurns.j1 kj3 a0 a1 a2 true))))))))) = some r := H
          have A16 := Aside0.mk A160
          clear A160
          replace H := Option.bind_eq_some_iff.mp H
          obtain ⟨⟨t268, t269⟩, A170, H⟩ := H
          replace H : (if (!(t264 == t268) || (!(t265 == t269))) = true then (smaltolaw02_WideTurns.j1 kj3 a0 a1 a2 true) else ((wide_Product.f a0 a1).bind fun bt270 => ((wide_Product.f a1 a0).bind fun bt272 => (if (!(bt270.1 == bt272.1) || (!(bt270.2 == bt272.2))) = true then (smaltolaw02_WideTurns.j1 kj3 a0 a1 a2 true) else ((wide_MulDiv.f kj3 a0 a1 a2).bind fun t274 => ((wide_MulDiv.f kj3 a1 a0 a2).bind fun t275 => (if t274 = t275 then ((wide_MulDiv.f kj3 (wrap64 (-a0)) a1 (wrap64 (-a2))).bind fun t276 => (smaltolaw02_WideTurns.j1 kj3 a0 a1 a2 (t276 != t274))) else (smaltolaw02_WideTurns.j1 kj3 a0 a1 a2 true)))))))) = some r := H
          have A17 := Aside0.mk A170
          clear A170
          by_cases c18 : (!(t264 == t268) || (!(t265 == t269))) = true
          · rw [if_pos c18] at H
            have c18b0 : (!(t264 == t268) || (!(t265 == t269))) = true := c18
            clear c18
            (first | rw [c18b0] | (simp only [i64_w, i32_w]; rw [c18b0]) | skip)
            have H' := Aside0.mk H
            clear H
            go_wp2_with (first | ((with_reducible refine gate_callee (f := 19) rfl ?_); refine goesL_ (some 23) rfl rfl Try.func19 (by kernel_rfl) rfl #[.int .i64 (wrap64 (-a0)), .int .i64 a1] rfl (by (try simp only [List.map_toArray, List.map_cons, List.map_nil]); first | done | rfl | (simp only [List.length_drop, List.length_take]; rfl)) ?_; (with_reducible refine (wide_Product.calls (wrap64 (-a0)) a1 t264 t265 _ A15.out).mono ?_); rintro e w19 ⟨rfl, hb⟩; refine ⟨_, rfl, ?_⟩; have n0_ := Aside0.mk (below_step (by repeat (first | (with_reducible first | exact HB.out | apply below_alloc | apply pw_below_drewN | apply below_drew1) | exact HB.out)) hb); clear HB; have HB := n0_; clear n0_; (try clear hb); (try clear hb2); (try clear hk); (try clear hi)) | ((with_reducible refine gate_callee (f := 19) rfl ?_); refine goesL_ (some 26) rfl rfl Try.func19 (by kernel_rfl) rfl #[.int .i64 a0, .int .i64 a1] rfl (by (try simp only [List.map_toArray, List.map_cons, List.map_nil]); first | done | rfl | (simp only [List.length_drop, List.length_take]; rfl)) ?_; (with_reducible refine (wide_Product.calls a0 a1 t266 t267 _ A16.out).mono ?_); rintro e w20 ⟨rfl, hb⟩; refine ⟨_, rfl, ?_⟩; have n0_ := Aside0.mk (below_step (by repeat (first | (with_reducible first | exact HB.out | apply below_alloc | apply pw_below_drewN | apply below_drew1) | exact HB.out)) hb); clear HB; have HB := n0_; clear n0_; (try clear hb); (try clear hb2); (try clear hk); (try clear hi)) | ((with_reducible refine gate_callee (f := 20) rfl ?_); refine goesL_ (some 27) rfl rfl Try.func20 (by kernel_rfl) rfl #[.agg #[.int .i64 t266, .int .u64 t267]] rfl (by (try simp only [List.map_toArray, List.map_cons, List.map_nil]); first | done | rfl | (simp only [List.length_drop, List.length_take]; rfl)) ?_; (with_reducible refine (wide_Negative.calls t266 t267 t268 t269 _ A17.out).mono ?_); rintro e w21 ⟨rfl, hb⟩; refine ⟨_, rfl, ?_⟩; have n0_ := Aside0.mk (below_step (by repeat (first | (with_reducible first | exact HB.out | apply below_alloc | apply pw_below_drewN | apply below_drew1) | exact HB.out)) hb); clear HB; have HB := n0_; clear n0_; (try clear hb); (try clear hb2); (try clear hk); (try clear hi)))
            go_meet
            case rel => exact ⟨_, (true), (by first | rfl | (simp; done) | (simp [*]; done)), H', ⟨by have := HJ3.out; first | omega | exact Nat.le_refl _⟩, ⟨by repeat (first | (with_reducible first | exact HB.out | apply below_alloc | apply pw_below_drewN | apply below_drew1) | exact HB.out)⟩⟩
          · rw [if_neg c18] at H
            have c18b0 : (!(t264 == t268) || (!(t265 == t269))) = false := by simpa using c18
            clear c18
            (first | rw [c18b0] | (simp only [i64_w, i32_w]; rw [c18b0]) | skip)
            replace H := Option.bind_eq_some_iff.mp H
            obtain ⟨⟨t270, t271⟩, A220, H⟩ := H
            replace H : ((wide_Product.f a1 a0).bind fun bt272 => (if (!(t270 == bt272.1) || (!(t271 == bt272.2))) = true then (smaltolaw02_WideTurns.j1 kj3 a0 a1 a2 true) else ((wide_MulDiv.f kj3 a0 a1 a2).bind fun t274 => ((wide_MulDiv.f kj3 a1 a0 a2).bind fun t275 => (if t274 = t275 then ((wide_MulDiv.f kj3 (wrap64 (-a0)) a1 (wrap64 (-a2))).bind fun t276 => (smaltolaw02_WideTurns.j1 kj3 a0 a1 a2 (t276 != t274))) else (smaltolaw02_WideTurns.j1 kj3 a0 a1 a2 true)))))) = some r := H
            have A22 := Aside0.mk A220
            clear A220
            replace H := Option.bind_eq_some_iff.mp H
            obtain ⟨⟨t272, t273⟩, A230, H⟩ := H
            replace H : (if (!(t270 == t272) || (!(t271 == t273))) = true then (smaltolaw02_WideTurns.j1 kj3 a0 a1 a2 true) else ((wide_MulDiv.f kj3 a0 a1 a2).bind fun t274 => ((wide_MulDiv.f kj3 a1 a0 a2).bind fun t275 => (if t274 = t275 then ((wide_MulDiv.f kj3 (wrap64 (-a0)) a1 (wrap64 (-a2))).bind fun t276 => (smaltolaw02_WideTurns.j1 kj3 a0 a1 a2 (t276 != t274))) else (smaltolaw02_WideTurns.j1 kj3 a0 a1 a2 true))))) = some r := H
            have A23 := Aside0.mk A230
            clear A230
            by_cases c24 : (!(t270 == t272) || (!(t271 == t273))) = true
            · rw [if_pos c24] at H
              have c24b0 : (!(t270 == t272) || (!(t271 == t273))) = true := c24
              clear c24
              have H' := Aside0.mk H
              clear H
              go_wp2_with (first | ((with_reducible refine gate_callee (f := 19) rfl ?_); refine goesL_ (some 23) rfl rfl Try.func19 (by kernel_rfl) rfl #[.int .i64 (wrap64 (-a0)), .int .i64 a1] rfl (by (try simp only [List.map_toArray, List.map_cons, List.map_nil]); first | done | rfl | (simp only [List.length_drop, List.length_take]; rfl)) ?_; (with_reducible refine (wide_Product.calls (wrap64 (-a0)) a1 t264 t265 _ A15.out).mono ?_); rintro e w25 ⟨rfl, hb⟩; refine ⟨_, rfl, ?_⟩; have n0_ := Aside0.mk (below_step (by repeat (first | (with_reducible first | exact HB.out | apply below_alloc | apply pw_below_drewN | apply below_drew1) | exact HB.out)) hb); clear HB; have HB := n0_; clear n0_; (try clear hb); (try clear hb2); (try clear hk); (try clear hi)) | ((with_reducible refine gate_callee (f := 19) rfl ?_); refine goesL_ (some 26) rfl rfl Try.func19 (by kernel_rfl) rfl #[.int .i64 a0, .int .i64 a1] rfl (by (try simp only [List.map_toArray, List.map_cons, List.map_nil]); first | done | rfl | (simp only [List.length_drop, List.length_take]; rfl)) ?_; (with_reducible refine (wide_Product.calls a0 a1 t266 t267 _ A16.out).mono ?_); rintro e w26 ⟨rfl, hb⟩; refine ⟨_, rfl, ?_⟩; have n0_ := Aside0.mk (below_step (by repeat (first | (with_reducible first | exact HB.out | apply below_alloc | apply pw_below_drewN | apply below_drew1) | exact HB.out)) hb); clear HB; have HB := n0_; clear n0_; (try clear hb); (try clear hb2); (try clear hk); (try clear hi)) | ((with_reducible refine gate_callee (f := 20) rfl ?_); refine goesL_ (some 27) rfl rfl Try.func20 (by kernel_rfl) rfl #[.agg #[.int .i64 t266, .int .u64 t267]] rfl (by (try simp only [List.map_toArray, List.map_cons, List.map_nil]); first | done | rfl | (simp only [List.length_drop, List.length_take]; rfl)) ?_; (with_reducible refine (wide_Negative.calls t266 t267 t268 t269 _ A17.out).mono ?_); rintro e w27 ⟨rfl, hb⟩; refine ⟨_, rfl, ?_⟩; have n0_ := Aside0.mk (below_step (by repeat (first | (with_reducible first | exact HB.out | apply below_alloc | apply pw_below_drewN | apply below_drew1) | exact HB.out)) hb); clear HB; have HB := n0_; clear n0_; (try clear hb); (try clear hb2); (try clear hk); (try clear hi)) | (go_at_call 19; (with_reducible refine (wide_Product.calls a0 a1 t270 t271 _ A22.out).mono ?_); rintro e w28 ⟨rfl, hb⟩; have n0_ := Aside0.mk (below_step (by repeat (first | (with_reducible first | exact HB.out | apply below_alloc | apply pw_below_drewN | apply below_drew1) | exact HB.out)) hb); clear HB; have HB := n0_; clear n0_; (try clear hb); (try clear hb2); (try clear hk); (try clear hi)) | (go_at_call 19; (with_reducible refine (wide_Product.calls a1 a0 t272 t273 _ A23.out).mono ?_); rintro e w29 ⟨rfl, hb⟩; have n0_ := Aside0.mk (below_step (by repeat (first | (with_reducible first | exact HB.out | apply below_alloc | apply pw_below_drewN | apply below_drew1) | exact HB.out)) hb); clear HB; have HB := n0_; clear n0_; (try clear hb); (try clear hb2); (try clear hk); (try clear hi)))
              go_meet
              case rel => exact ⟨_, (true), (by first | rfl | (simp; done) | (simp [*]; done)), H', ⟨by have := HJ3.out; first | omega | exact Nat.le_refl _⟩, ⟨by repeat (first | (with_reducible first | exact HB.out | apply below_alloc | apply pw_below_drewN | apply below_drew1) | exact HB.out)⟩⟩
            · rw [if_neg c24] at H
              have c24b0 : (!(t270 == t272) || (!(t271 == t273))) = false := by simpa using c24
              clear c24
              replace H := Option.bind_eq_some_iff.mp H
              obtain ⟨t274, A300, H⟩ := H
              replace H : ((wide_MulDiv.f kj3 a1 a0 a2).bind fun t275 => (if t274 = t275 then ((wide_MulDiv.f kj3 (wrap64 (-a0)) a1 (wrap64 (-a2))).bind fun t276 => (smaltolaw02_WideTurns.j1 kj3 a0 a1 a2 (t276 != t274))) else (smaltolaw02_WideTurns.j1 kj3 a0 a1 a2 true))) = some r := H
              have A30 := Aside0.mk A300
              clear A300
              replace H := Option.bind_eq_some_iff.mp H
              obtain ⟨t275, A310, H⟩ := H
              replace H : (if t274 = t275 then ((wide_MulDiv.f kj3 (wrap64 (-a0)) a1 (wrap64 (-a2))).bind fun t276 => (smaltolaw02_WideTurns.j1 kj3 a0 a1 a2 (t276 != t274))) else (smaltolaw02_WideTurns.j1 kj3 a0 a1 a2 true)) = some r := H
              have A31 := Aside0.mk A310
              clear A310
              by_cases c32 : t274 = t275
              · rw [if_pos c32] at H
                have c32b0 : (t274 == t275) = true := beq_iff_eq.mpr c32
                have c32b1 : (t274 != t275) = false := bne_eq_false_iff_eq.mpr c32
                clear c32
                replace H := Option.bind_eq_some_iff.mp H
                obtain ⟨t276, A330, H⟩ := H
                replace H : (smaltolaw02_WideTurns.j1 kj3 a0 a1 a2 (t276 != t274)) = some r := H
                have A33 := Aside0.mk A330
                clear A330
                have H' := Aside0.mk H
                clear H
                go_wp2_with (first | ((with_reducible refine gate_callee (f := 19) rfl ?_); refine goesL_ (some 23) rfl rfl Try.func19 (by kernel_rfl) rfl #[.int .i64 (wrap64 (-a0)), .int .i64 a1] rfl (by (try simp only [List.map_toArray, List.map_cons, List.map_nil]); first | done | rfl | (simp only [List.length_drop, List.length_take]; rfl)) ?_; (with_reducible refine (wide_Product.calls (wrap64 (-a0)) a1 t264 t265 _ A15.out).mono ?_); rintro e w34 ⟨rfl, hb⟩; refine ⟨_, rfl, ?_⟩; have n0_ := Aside0.mk (below_step (by repeat (first | (with_reducible first | exact HB.out | apply below_alloc | apply pw_below_drewN | apply below_drew1) | exact HB.out)) hb); clear HB; have HB := n0_; clear n0_; (try clear hb); (try clear hb2); (try clear hk); (try clear hi)) | ((with_reducible refine gate_callee (f := 19) rfl ?_); refine goesL_ (some 26) rfl rfl Try.func19 (by kernel_rfl) rfl #[.int .i64 a0, .int .i64 a1] rfl (by (try simp only [List.map_toArray, List.map_cons, List.map_nil]); first | done | rfl | (simp only [List.length_drop, List.length_take]; rfl)) ?_; (with_reducible refine (wide_Product.calls a0 a1 t266 t267 _ A16.out).mono ?_); rintro e w35 ⟨rfl, hb⟩; refine ⟨_, rfl, ?_⟩; have n0_ := Aside0.mk (below_step (by repeat (first | (with_reducible first | exact HB.out | apply below_alloc | apply pw_below_drewN | apply below_drew1) | exact HB.out)) hb); clear HB; have HB := n0_; clear n0_; (try clear hb); (try clear hb2); (try clear hk); (try clear hi)) | ((with_reducible refine gate_callee (f := 20) rfl ?_); refine goesL_ (some 27) rfl rfl Try.func20 (by kernel_rfl) rfl #[.agg #[.int .i64 t266, .int .u64 t267]] rfl (by (try simp only [List.map_toArray, List.map_cons, List.map_nil]); first | done | rfl | (simp only [List.length_drop, List.length_take]; rfl)) ?_; (with_reducible refine (wide_Negative.calls t266 t267 t268 t269 _ A17.out).mono ?_); rintro e w36 ⟨rfl, hb⟩; refine ⟨_, rfl, ?_⟩; have n0_ := Aside0.mk (below_step (by repeat (first | (with_reducible first | exact HB.out | apply below_alloc | apply pw_below_drewN | apply below_drew1) | exact HB.out)) hb); clear HB; have HB := n0_; clear n0_; (try clear hb); (try clear hb2); (try clear hk); (try clear hi)) | (go_at_call 19; (with_reducible refine (wide_Product.calls a0 a1 t270 t271 _ A22.out).mono ?_); rintro e w37 ⟨rfl, hb⟩; have n0_ := Aside0.mk (below_step (by repeat (first | (with_reducible first | exact HB.out | apply below_alloc | apply pw_below_drewN | apply below_drew1) | exact HB.out)) hb); clear HB; have HB := n0_; clear n0_; (try clear hb); (try clear hb2); (try clear hk); (try clear hi)) | (go_at_call 19; (with_reducible refine (wide_Product.calls a1 a0 t272 t273 _ A23.out).mono ?_); rintro e w38 ⟨rfl, hb⟩; have n0_ := Aside0.mk (below_step (by repeat (first | (with_reducible first | exact HB.out | apply below_alloc | apply pw_below_drewN | apply below_drew1) | exact HB.out)) hb); clear HB; have HB := n0_; clear n0_; (try clear hb); (try clear hb2); (try clear hk); (try clear hi)) | (go_at_call 21; (with_reducible refine (wide_MulDiv.calls kj3 a0 a1 a2 t274 _ A30.out).mono ?_); rintro e w' ⟨rfl, ⟨nd, rfl⟩⟩) | (go_at_call 21; (with_reducible refine (wide_MulDiv.calls kj3 a1 a0 a2 t275 _ A31.out).mono ?_); rintro e w' ⟨rfl, ⟨nd, rfl⟩⟩) | (go_at_call 21; (with_reducible refine (wide_MulDiv.calls kj3 (wrap64 (-a0)) a1 (wrap64 (-a2)) t276 _ A33.out).mono ?_); rintro e w' ⟨rfl, ⟨nd, rfl⟩⟩))
                go_meet
                case rel => exact ⟨_, ((t276 != t274)), (by first | rfl | (simp; done) | (simp [*]; done)), H', ⟨by have := HJ3.out; first | omega | exact Nat.le_refl _⟩, ⟨by repeat (first | (with_reducible first | exact HB.out | apply below_alloc | apply pw_below_drewN | apply below_drew1) | exact HB.out)⟩⟩
              · rw [if_neg c32] at H
                have c32b0 : (t274 == t275) = false := beq_eq_false_iff_ne.mpr c32
                have c32b1 : (t274 != t275) = true := bne_iff_ne.mpr c32
                have H' := Aside0.mk H
                clear H
                go_wp2_with (first | ((with_reducible refine gate_callee (f := 19) rfl ?_); refine goesL_ (some 23) rfl rfl Try.func19 (by kernel_rfl) rfl #[.int .i64 (wrap64 (-a0)), .int .i64 a1] rfl (by (try simp only [List.map_toArray, List.map_cons, List.map_nil]); first | done | rfl | (simp only [List.length_drop, List.length_take]; rfl)) ?_; (with_reducible refine (wide_Product.calls (wrap64 (-a0)) a1 t264 t265 _ A15.out).mono ?_); rintro e w39 ⟨rfl, hb⟩; refine ⟨_, rfl, ?_⟩; have n0_ := Aside0.mk (below_step (by repeat (first | (with_reducible first | exact HB.out | apply below_alloc | apply pw_below_drewN | apply below_drew1) | exact HB.out)) hb); clear HB; have HB := n0_; clear n0_; (try clear hb); (try clear hb2); (try clear hk); (try clear hi)) | ((with_reducible refine gate_callee (f := 19) rfl ?_); refine goesL_ (some 26) rfl rfl Try.func19 (by kernel_rfl) rfl #[.int .i64 a0, .int .i64 a1] rfl (by (try simp only [List.map_toArray, List.map_cons, List.map_nil]); first | done | rfl | (simp only [List.length_drop, List.length_take]; rfl)) ?_; (with_reducible refine (wide_Product.calls a0 a1 t266 t267 _ A16.out).mono ?_); rintro e w40 ⟨rfl, hb⟩; refine ⟨_, rfl, ?_⟩; have n0_ := Aside0.mk (below_step (by repeat (first | (with_reducible first | exact HB.out | apply below_alloc | apply pw_below_drewN | apply below_drew1) | exact HB.out)) hb); clear HB; have HB := n0_; clear n0_; (try clear hb); (try clear hb2); (try clear hk); (try clear hi)) | ((with_reducible refine gate_callee (f := 20) rfl ?_); refine goesL_ (some 27) rfl rfl Try.func20 (by kernel_rfl) rfl #[.agg #[.int .i64 t266, .int .u64 t267]] rfl (by (try simp only [List.map_toArray, List.map_cons, List.map_nil]); first | done | rfl | (simp only [List.length_drop, List.length_take]; rfl)) ?_; (with_reducible refine (wide_Negative.calls t266 t267 t268 t269 _ A17.out).mono ?_); rintro e w41 ⟨rfl, hb⟩; refine ⟨_, rfl, ?_⟩; have n0_ := Aside0.mk (below_step (by repeat (first | (with_reducible first | exact HB.out | apply below_alloc | apply pw_below_drewN | apply below_drew1) | exact HB.out)) hb); clear HB; have HB := n0_; clear n0_; (try clear hb); (try clear hb2); (try clear hk); (try clear hi)) | (go_at_call 19; (with_reducible refine (wide_Product.calls a0 a1 t270 t271 _ A22.out).mono ?_); rintro e w42 ⟨rfl, hb⟩; have n0_ := Aside0.mk (below_step (by repeat (first | (with_reducible first | exact HB.out | apply below_alloc | apply pw_below_drewN | apply below_drew1) | exact HB.out)) hb); clear HB; have HB := n0_; clear n0_; (try clear hb); (try clear hb2); (try clear hk); (try clear hi)) | (go_at_call 19; (with_reducible refine (wide_Product.calls a1 a0 t272 t273 _ A23.out).mono ?_); rintro e w43 ⟨rfl, hb⟩; have n0_ := Aside0.mk (below_step (by repeat (first | (with_reducible first | exact HB.out | apply below_alloc | apply pw_below_drewN | apply below_drew1) | exact HB.out)) hb); clear HB; have HB := n0_; clear n0_; (try clear hb); (try clear hb2); (try clear hk); (try clear hi)) | (go_at_call 21; (with_reducible refine (wide_MulDiv.calls kj3 a0 a1 a2 t274 _ A30.out).mono ?_); rintro e w' ⟨rfl, ⟨nd, rfl⟩⟩) | (go_at_call 21; (with_reducible refine (wide_MulDiv.calls kj3 a1 a0 a2 t275 _ A31.out).mono ?_); rintro e w' ⟨rfl, ⟨nd, rfl⟩⟩))
                go_meet
                case rel => exact ⟨_, (true), (by first | rfl | (simp; done) | (simp [*]; done)), H', ⟨by have := HJ3.out; first | omega | exact Nat.le_refl _⟩, ⟨by repeat (first | (with_reducible first | exact HB.out | apply below_alloc | apply pw_below_drewN | apply below_drew1) | exact HB.out)⟩⟩
        case rest =>
          clear HC14
          try clear c1
          try clear c2
          try clear p2
          try clear c3
          try clear c6
          try clear p6
          try clear c7
          try clear c7b0
          try clear c7b1
          try clear c11
          try clear c18
          try clear c18b0
          try clear c19
          try clear c20
          try clear c24
          try clear c24b0
          try clear c32
          try clear c32b0
          try clear c32b1
          try clear p2
          obtain ⟨kq, x61_13, rfl, HA, HJ13, HB⟩ := hcut
          cases kq with
          | zero => exact absurd HA.out (by simp [smaltolaw02_WideTurns.j1])
          | succ kj13 =>
            have H := HA.out
            clear HA
            simp only [smaltolaw02_WideTurns.j1] at H
            by_cases c44 : x61_13 = true
            · subst c44
              have H1 : (some false) = some r := by rw [if_pos rfl] at H; exact H
              clear H
              have H := H1
              clear H1
              obtain rfl := Option.some.inj H
              go_wp2
              go_ret
              exact ⟨by first | rfl | (simp [errW_none, errW_some] <;> rfl) | (simp [*, errW_none, errW_some] <;> rfl), by repeat (first | (with_reducible first | exact HB.out | apply below_alloc | apply pw_below_drewN | apply below_drew1) | exact HB.out)⟩
            · replace c44 := Bool.eq_false_iff.mpr c44
              subst c44
              have H1 : ((wide_MulDiv.f kj13 a0 a1 a2).bind fun t277 => ((wide_MulDiv.f kj13 (wrap64 (-a0)) a1 a2).bind fun t278 => (if t277 = (wrap64 (-t278)) then (some true) else (if t277 = (wrap64 ((wrap64 (-t278)) + 1)) then (some true) else (if t277 = 9223372036854775807 then (if t278 = (-9223372036854775808) then (some true) else (if t277 = (-9223372036854775808) then (some (t278 == 9223372036854775807)) else (some false))) else (if t277 = (-9223372036854775808) then (some (t278 == 9223372036854775807)) else (some false))))))) = some r := by rw [if_neg (show ¬ (false = true) by decide)] at H; exact H
              clear H
              have H := H1
              clear H1
              replace H := Option.bind_eq_some_iff.mp H
              obtain ⟨t277, A450, H⟩ := H
              replace H : ((wide_MulDiv.f kj13 (wrap64 (-a0)) a1 a2).bind fun t278 => (if t277 = (wrap64 (-t278)) then (some true) else (if t277 = (wrap64 ((wrap64 (-t278)) + 1)) then (some true) else (if t277 = 9223372036854775807 then (if t278 = (-9223372036854775808) then (some true) else (if t277 = (-9223372036854775808) then (some (t278 == 9223372036854775807)) else (some false))) else (if t277 = (-9223372036854775808) then (some (t278 == 9223372036854775807)) else (some false)))))) = some r := H
              have A45 := Aside0.mk A450
              clear A450
              replace H := Option.bind_eq_some_iff.mp H
              obtain ⟨t278, A460, H⟩ := H
              replace H : (if t277 = (wrap64 (-t278)) then (some true) else (if t277 = (wrap64 ((wrap64 (-t278)) + 1)) then (some true) else (if t277 = 9223372036854775807 then (if t278 = (-9223372036854775808) then (some true) else (if t277 = (-9223372036854775808) then (some (t278 == 9223372036854775807)) else (some false))) else (if t277 = (-9223372036854775808) then (some (t278 == 9223372036854775807)) else (some false))))) = some r := H
              have A46 := Aside0.mk A460
              clear A460
              by_cases c47 : t277 = (wrap64 (-t278))
              · rw [if_pos c47] at H
                have c47b0 : (t277 == (wrap64 (-t278))) = true := beq_iff_eq.mpr c47
                have c47b1 : (t277 != (wrap64 (-t278))) = false := bne_eq_false_iff_eq.mpr c47
                clear c47
                obtain rfl := Option.some.inj H
                go_wp2_with (first | ((with_reducible refine gate_callee (f := 21) rfl ?_); refine goesL_ (some 65) rfl rfl Try.func21 (by kernel_rfl) rfl #[.int .i64 a0, .int .i64 a1, .int .i64 a2] rfl (by (try simp only [List.map_toArray, List.map_cons, List.map_nil]); first | done | rfl | (simp only [List.length_drop, List.length_take]; rfl)) ?_; (with_reducible refine (wide_MulDiv.calls kj13 a0 a1 a2 t277 _ A45.out).mono ?_); rintro e w' ⟨rfl, ⟨nd, rfl⟩⟩; refine ⟨_, rfl, ?_⟩) | ((with_reducible refine gate_callee (f := 21) rfl ?_); refine goesL_ (some 70) rfl rfl Try.func21 (by kernel_rfl) rfl #[.int .i64 (wrap64 (-a0)), .int .i64 a1, .int .i64 a2] rfl (by (try simp only [List.map_toArray, List.map_cons, List.map_nil]); first | done | rfl | (simp only [List.length_drop, List.length_take]; rfl)) ?_; (with_reducible refine (wide_MulDiv.calls kj13 (wrap64 (-a0)) a1 a2 t278 _ A46.out).mono ?_); rintro e w' ⟨rfl, ⟨nd, rfl⟩⟩; refine ⟨_, rfl, ?_⟩))
                go_ret
                exact ⟨by first | rfl | (simp [errW_none, errW_some] <;> rfl) | (simp [*, errW_none, errW_some] <;> rfl), by repeat (first | (with_reducible first | exact HB.out | apply below_alloc | apply pw_below_drewN | apply below_drew1) | exact HB.out)⟩
              · rw [if_neg c47] at H
                have c47b0 : (t277 == (wrap64 (-t278))) = false := beq_eq_false_iff_ne.mpr c47
                have c47b1 : (t277 != (wrap64 (-t278))) = true := bne_iff_ne.mpr c47
                by_cases c48 : t277 = (wrap64 ((wrap64 (-t278)) + 1))
                · rw [if_pos c48] at H
                  have c48b0 : (t277 == (wrap64 ((wrap64 (-t278)) + 1))) = true := beq_iff_eq.mpr c48
                  have c48b1 : (t277 != (wrap64 ((wrap64 (-t278)) + 1))) = false := bne_eq_false_iff_eq.mpr c48
                  clear c48
                  obtain rfl := Option.some.inj H
                  go_wp2_with (first | ((with_reducible refine gate_callee (f := 21) rfl ?_); refine goesL_ (some 65) rfl rfl Try.func21 (by kernel_rfl) rfl #[.int .i64 a0, .int .i64 a1, .int .i64 a2] rfl (by (try simp only [List.map_toArray, List.map_cons, List.map_nil]); first | done | rfl | (simp only [List.length_drop, List.length_take]; rfl)) ?_; (with_reducible refine (wide_MulDiv.calls kj13 a0 a1 a2 t277 _ A45.out).mono ?_); rintro e w' ⟨rfl, ⟨nd, rfl⟩⟩; refine ⟨_, rfl, ?_⟩) | ((with_reducible refine gate_callee (f := 21) rfl ?_); refine goesL_ (some 70) rfl rfl Try.func21 (by kernel_rfl) rfl #[.int .i64 (wrap64 (-a0)), .int .i64 a1, .int .i64 a2] rfl (by (try simp only [List.map_toArray, List.map_cons, List.map_nil]); first | done | rfl | (simp only [List.length_drop, List.length_take]; rfl)) ?_; (with_reducible refine (wide_MulDiv.calls kj13 (wrap64 (-a0)) a1 a2 t278 _ A46.out).mono ?_); rintro e w' ⟨rfl, ⟨nd, rfl⟩⟩; refine ⟨_, rfl, ?_⟩))
                  go_ret
                  exact ⟨by first | rfl | (simp [errW_none, errW_some] <;> rfl) | (simp [*, errW_none, errW_some] <;> rfl), by repeat (first | (with_reducible first | exact HB.out | apply below_alloc | apply pw_below_drewN | apply below_drew1) | exact HB.out)⟩
                · rw [if_neg c48] at H
                  have c48b0 : (t277 == (wrap64 ((wrap64 (-t278)) + 1))) = false := beq_eq_false_iff_ne.mpr c48
                  have c48b1 : (t277 != (wrap64 ((wrap64 (-t278)) + 1))) = true := bne_iff_ne.mpr c48
                  by_cases c49 : t277 = 9223372036854775807
                  · rw [if_pos c49] at H
                    have c49b0 : (t277 == 9223372036854775807) = true := beq_iff_eq.mpr c49
                    have c49b1 : (t277 != 9223372036854775807) = false := bne_eq_false_iff_eq.mpr c49
                    clear c49
                    by_cases c50 : t278 = (-9223372036854775808)
                    · rw [if_pos c50] at H
                      have c50b0 : (t278 == (-9223372036854775808)) = true := beq_iff_eq.mpr c50
                      have c50b1 : (t278 != (-9223372036854775808)) = false := bne_eq_false_iff_eq.mpr c50
                      clear c50
                      obtain rfl := Option.some.inj H
                      go_wp2_with (first | ((with_reducible refine gate_callee (f := 21) rfl ?_); refine goesL_ (some 65) rfl rfl Try.func21 (by kernel_rfl) rfl #[.int .i64 a0, .int .i64 a1, .int .i64 a2] rfl (by (try simp only [List.map_toArray, List.map_cons, List.map_nil]); first | done | rfl | (simp only [List.length_drop, List.length_take]; rfl)) ?_; (with_reducible refine (wide_MulDiv.calls kj13 a0 a1 a2 t277 _ A45.out).mono ?_); rintro e w' ⟨rfl, ⟨nd, rfl⟩⟩; refine ⟨_, rfl, ?_⟩) | ((with_reducible refine gate_callee (f := 21) rfl ?_); refine goesL_ (some 70) rfl rfl Try.func21 (by kernel_rfl) rfl #[.int .i64 (wrap64 (-a0)), .int .i64 a1, .int .i64 a2] rfl (by (try simp only [List.map_toArray, List.map_cons, List.map_nil]); first | done | rfl | (simp only [List.length_drop, List.length_take]; rfl)) ?_; (with_reducible refine (wide_MulDiv.calls kj13 (wrap64 (-a0)) a1 a2 t278 _ A46.out).mono ?_); rintro e w' ⟨rfl, ⟨nd, rfl⟩⟩; refine ⟨_, rfl, ?_⟩))
                      go_ret
                      exact ⟨by first | rfl | (simp [errW_none, errW_some] <;> rfl) | (simp [*, errW_none, errW_some] <;> rfl), by repeat (first | (with_reducible first | exact HB.out | apply below_alloc | apply pw_below_drewN | apply below_drew1) | exact HB.out)⟩
                    · rw [if_neg c50] at H
                      have c50b0 : (t278 == (-9223372036854775808)) = false := beq_eq_false_iff_ne.mpr c50
                      have c50b1 : (t278 != (-9223372036854775808)) = true := bne_iff_ne.mpr c50
                      by_cases c51 : t277 = (-9223372036854775808)
                      · rw [if_pos c51] at H
                        have c51b0 : (t277 == (-9223372036854775808)) = true := beq_iff_eq.mpr c51
                        have c51b1 : (t277 != (-9223372036854775808)) = false := bne_eq_false_iff_eq.mpr c51
                        clear c51
                        obtain rfl := Option.some.inj H
                        go_wp2_with (first | ((with_reducible refine gate_callee (f := 21) rfl ?_); refine goesL_ (some 65) rfl rfl Try.func21 (by kernel_rfl) rfl #[.int .i64 a0, .int .i64 a1, .int .i64 a2] rfl (by (try simp only [List.map_toArray, List.map_cons, List.map_nil]); first | done | rfl | (simp only [List.length_drop, List.length_take]; rfl)) ?_; (with_reducible refine (wide_MulDiv.calls kj13 a0 a1 a2 t277 _ A45.out).mono ?_); rintro e w' ⟨rfl, ⟨nd, rfl⟩⟩; refine ⟨_, rfl, ?_⟩) | ((with_reducible refine gate_callee (f := 21) rfl ?_); refine goesL_ (some 70) rfl rfl Try.func21 (by kernel_rfl) rfl #[.int .i64 (wrap64 (-a0)), .int .i64 a1, .int .i64 a2] rfl (by (try simp only [List.map_toArray, List.map_cons, List.map_nil]); first | done | rfl | (simp only [List.length_drop, List.length_take]; rfl)) ?_; (with_reducible refine (wide_MulDiv.calls kj13 (wrap64 (-a0)) a1 a2 t278 _ A46.out).mono ?_); rintro e w' ⟨rfl, ⟨nd, rfl⟩⟩; refine ⟨_, rfl, ?_⟩))
                        go_ret
                        exact ⟨by first | rfl | (simp [errW_none, errW_some] <;> rfl) | (simp [*, errW_none, errW_some] <;> rfl), by repeat (first | (with_reducible first | exact HB.out | apply below_alloc | apply pw_below_drewN | apply below_drew1) | exact HB.out)⟩
                      · rw [if_neg c51] at H
                        have c51b0 : (t277 == (-9223372036854775808)) = false := beq_eq_false_iff_ne.mpr c51
                        have c51b1 : (t277 != (-9223372036854775808)) = true := bne_iff_ne.mpr c51
                        obtain rfl := Option.some.inj H
                        go_wp2_with (first | ((with_reducible refine gate_callee (f := 21) rfl ?_); refine goesL_ (some 65) rfl rfl Try.func21 (by kernel_rfl) rfl #[.int .i64 a0, .int .i64 a1, .int .i64 a2] rfl (by (try simp only [List.map_toArray, List.map_cons, List.map_nil]); first | done | rfl | (simp only [List.length_drop, List.length_take]; rfl)) ?_; (with_reducible refine (wide_MulDiv.calls kj13 a0 a1 a2 t277 _ A45.out).mono ?_); rintro e w' ⟨rfl, ⟨nd, rfl⟩⟩; refine ⟨_, rfl, ?_⟩) | ((with_reducible refine gate_callee (f := 21) rfl ?_); refine goesL_ (some 70) rfl rfl Try.func21 (by kernel_rfl) rfl #[.int .i64 (wrap64 (-a0)), .int .i64 a1, .int .i64 a2] rfl (by (try simp only [List.map_toArray, List.map_cons, List.map_nil]); first | done | rfl | (simp only [List.length_drop, List.length_take]; rfl)) ?_; (with_reducible refine (wide_MulDiv.calls kj13 (wrap64 (-a0)) a1 a2 t278 _ A46.out).mono ?_); rintro e w' ⟨rfl, ⟨nd, rfl⟩⟩; refine ⟨_, rfl, ?_⟩))
                        go_ret
                        exact ⟨by first | rfl | (simp [errW_none, errW_some] <;> rfl) | (simp [*, errW_none, errW_some] <;> rfl), by repeat (first | (with_reducible first | exact HB.out | apply below_alloc | apply pw_below_drewN | apply below_drew1) | exact HB.out)⟩
                  · rw [if_neg c49] at H
                    have c49b0 : (t277 == 9223372036854775807) = false := beq_eq_false_iff_ne.mpr c49
                    have c49b1 : (t277 != 9223372036854775807) = true := bne_iff_ne.mpr c49
                    by_cases c52 : t277 = (-9223372036854775808)
                    · rw [if_pos c52] at H
                      have c52b0 : (t277 == (-9223372036854775808)) = true := beq_iff_eq.mpr c52
                      have c52b1 : (t277 != (-9223372036854775808)) = false := bne_eq_false_iff_eq.mpr c52
                      clear c52
                      obtain rfl := Option.some.inj H
                      go_wp2_with (first | ((with_reducible refine gate_callee (f := 21) rfl ?_); refine goesL_ (some 65) rfl rfl Try.func21 (by kernel_rfl) rfl #[.int .i64 a0, .int .i64 a1, .int .i64 a2] rfl (by (try simp only [List.map_toArray, List.map_cons, List.map_nil]); first | done | rfl | (simp only [List.length_drop, List.length_take]; rfl)) ?_; (with_reducible refine (wide_MulDiv.calls kj13 a0 a1 a2 t277 _ A45.out).mono ?_); rintro e w' ⟨rfl, ⟨nd, rfl⟩⟩; refine ⟨_, rfl, ?_⟩) | ((with_reducible refine gate_callee (f := 21) rfl ?_); refine goesL_ (some 70) rfl rfl Try.func21 (by kernel_rfl) rfl #[.int .i64 (wrap64 (-a0)), .int .i64 a1, .int .i64 a2] rfl (by (try simp only [List.map_toArray, List.map_cons, List.map_nil]); first | done | rfl | (simp only [List.length_drop, List.length_take]; rfl)) ?_; (with_reducible refine (wide_MulDiv.calls kj13 (wrap64 (-a0)) a1 a2 t278 _ A46.out).mono ?_); rintro e w' ⟨rfl, ⟨nd, rfl⟩⟩; refine ⟨_, rfl, ?_⟩))
                      go_ret
                      exact ⟨by first | rfl | (simp [errW_none, errW_some] <;> rfl) | (simp [*, errW_none, errW_some] <;> rfl), by repeat (first | (with_reducible first | exact HB.out | apply below_alloc | apply pw_below_drewN | apply below_drew1) | exact HB.out)⟩
                    · rw [if_neg c52] at H
                      have c52b0 : (t277 == (-9223372036854775808)) = false := beq_eq_false_iff_ne.mpr c52
                      have c52b1 : (t277 != (-9223372036854775808)) = true := bne_iff_ne.mpr c52
                      obtain rfl := Option.some.inj H
                      go_wp2_with (first | ((with_reducible refine gate_callee (f := 21) rfl ?_); refine goesL_ (some 65) rfl rfl Try.func21 (by kernel_rfl) rfl #[.int .i64 a0, .int .i64 a1, .int .i64 a2] rfl (by (try simp only [List.map_toArray, List.map_cons, List.map_nil]); first | done | rfl | (simp only [List.length_drop, List.length_take]; rfl)) ?_; (with_reducible refine (wide_MulDiv.calls kj13 a0 a1 a2 t277 _ A45.out).mono ?_); rintro e w' ⟨rfl, ⟨nd, rfl⟩⟩; refine ⟨_, rfl, ?_⟩) | ((with_reducible refine gate_callee (f := 21) rfl ?_); refine goesL_ (some 70) rfl rfl Try.func21 (by kernel_rfl) rfl #[.int .i64 (wrap64 (-a0)), .int .i64 a1, .int .i64 a2] rfl (by (try simp only [List.map_toArray, List.map_cons, List.map_nil]); first | done | rfl | (simp only [List.length_drop, List.length_take]; rfl)) ?_; (with_reducible refine (wide_MulDiv.calls kj13 (wrap64 (-a0)) a1 a2 t278 _ A46.out).mono ?_); rintro e w' ⟨rfl, ⟨nd, rfl⟩⟩; refine ⟨_, rfl, ?_⟩))
                      go_ret
                      exact ⟨by first | rfl | (simp [errW_none, errW_some] <;> rfl) | (simp [*, errW_none, errW_some] <;> rfl), by repeat (first | (with_reducible first | exact HB.out | apply below_alloc | apply pw_below_drewN | apply below_drew1) | exact HB.out)⟩

/-- THE ONE PURE STATEMENT of smaltolaw02_WideTurns: yours. -/
def smaltolaw02_WideTurns.Pure : Prop := ∀ (a0 : Int) (a1 : Int) (a2 : Int), (Lit.int .i64 a0).wf = true → (Lit.int .i64 a1).wf = true → (Lit.int .i64 a2).wf = true → ∃ k, smaltolaw02_WideTurns.f k a0 a1 a2 = some true
theorem smaltolaw02_WideTurns.walk (P : smaltolaw02_WideTurns.Pure) (a0 : Int) (a1 : Int) (a2 : Int) (w : World) (w0 : (Lit.int .i64 a0).wf = true) (w1 : (Lit.int .i64 a1).wf = true) (w2 : (Lit.int .i64 a2).wf = true) :
    Calls Try.prog 6 #[.int .i64 a0, .int .i64 a1, .int .i64 a2] w fun e w' => e = .returned (.bool true) ∧ Below w.heap.size w w' := by
  obtain ⟨k, h⟩ := P a0 a1 a2 w0 w1 w2
  refine (smaltolaw02_WideTurns.calls k a0 a1 a2 true w h).mono ?_
  rintro e w' ⟨rfl, hd⟩
  exact ⟨rfl, hd⟩

end Go.Proofs.Yteiojnljdhjnlaa.QA
