-- Written by wip/tools/pp.py over the kit's print.py; not trusted: Lean checks it.
import Derived.Test.YtofmgoihoaookaaQAx0
import Derived.Test.YtofmgoihoaookaaQAx1
namespace Go.Proofs.Ytofmgoihoaookaa.QA
open Go.Proofs.Ytofmgoihoaookaa.T
open Go.RowKit Go.Proofs.YtofmgoihoaookaaW.PrintWords Go.Proofs.YtofmgoihoaookaaW.PrintLast Go.Proofs.YtofmgoihoaookaaW.PrintMore
attribute [local go_sem] max2_int min2_int max_two min_two max_three min_three max_four min_four   -- for this text's walks alone
set_option linter.unusedVariables false
set_option linter.unusedSimpArgs false

/-! ### smaltolaw07_lives: function 12 -/
def smaltolaw07_lives.f (k : Nat)  : Option (Bool) := (border_At.f k 1 (-1) 3).bind fun t104 => (if t104 = 0 then ((border_At.f k 1 (-4) 3).bind fun t105 => (if t105 = 2 then ((border_At.f k 1 3 3).bind fun t106 => (if t106 = 2 then ((border_At.f k 2 (-1) 3).bind fun t107 => (if t107 = 2 then ((border_At.f k 0 9 3).bind fun t108 => (some (t108 == 2))) else (some false))) else (some false))) else (some false))) else (some false))
theorem smaltolaw07_lives.mono : ∀ k, LeO (smaltolaw07_lives.f k ) (smaltolaw07_lives.f (k + 1) ) := by
  intro  k
  unfold smaltolaw07_lives.f
  repeat' first
      | (with_reducible exact border_At.mono _ _ _ _)
      | (with_reducible exact LeO.refl _)
      | (with_reducible exact LeO.none _)
      | (with_reducible refine LeO.ite ?_ ?_)
      | (with_reducible refine LeO.bind ?_ (fun _ => ?_))
      | exact border_At.mono _ _ _ _
      | exact LeO.none _
      | refine LeO.ite ?_ ?_
      | refine LeO.bind ?_ (fun _ => ?_)
set_option maxHeartbeats 8000000 in
set_option maxRecDepth 100000 in
theorem smaltolaw07_lives.calls (k : Nat)  (r : Bool) (w : World) (h : smaltolaw07_lives.f k  = some r) :
    Calls Try.prog 12 #[] w fun e w' => e = .returned (.bool r) ∧ Below w.heap.size w w' := by
  have HB := Aside0.mk (Below.refl w.heap.size w)
  have H : ((border_At.f k 1 (-1) 3).bind fun t104 => (if t104 = 0 then ((border_At.f k 1 (-4) 3).bind fun t105 => (if t105 = 2 then ((border_At.f k 1 3 3).bind fun t106 => (if t106 = 2 then ((border_At.f k 2 (-1) 3).bind fun t107 => (if t107 = 2 then ((border_At.f k 0 9 3).bind fun t108 => (some (t108 == 2))) else (some false))) else (some false))) else (some false))) else (some false))) = some r := h
  clear h
  replace H := Option.bind_eq_some_iff.mp H
  obtain ⟨t104, A10, H⟩ := H
  replace H : (if t104 = 0 then ((border_At.f k 1 (-4) 3).bind fun t105 => (if t105 = 2 then ((border_At.f k 1 3 3).bind fun t106 => (if t106 = 2 then ((border_At.f k 2 (-1) 3).bind fun t107 => (if t107 = 2 then ((border_At.f k 0 9 3).bind fun t108 => (some (t108 == 2))) else (some false))) else (some false))) else (some false))) else (some false)) = some r := H
  have A1 := Aside0.mk A10
  clear A10
  by_cases c2 : t104 = 0
  · rw [if_pos c2] at H
    have c2b0 : (t104 == 0) = true := beq_iff_eq.mpr c2
    have c2b1 : (t104 != 0) = false := bne_eq_false_iff_eq.mpr c2
    clear c2
    replace H := Option.bind_eq_some_iff.mp H
    obtain ⟨t105, A30, H⟩ := H
    replace H : (if t105 = 2 then ((border_At.f k 1 3 3).bind fun t106 => (if t106 = 2 then ((border_At.f k 2 (-1) 3).bind fun t107 => (if t107 = 2 then ((border_At.f k 0 9 3).bind fun t108 => (some (t108 == 2))) else (some false))) else (some false))) else (some false)) = some r := H
    have A3 := Aside0.mk A30
    clear A30
    by_cases c4 : t105 = 2
    · rw [if_pos c4] at H
      have c4b0 : (t105 == 2) = true := beq_iff_eq.mpr c4
      have c4b1 : (t105 != 2) = false := bne_eq_false_iff_eq.mpr c4
      clear c4
      replace H := Option.bind_eq_some_iff.mp H
      obtain ⟨t106, A50, H⟩ := H
      replace H : (if t106 = 2 then ((border_At.f k 2 (-1) 3).bind fun t107 => (if t107 = 2 then ((border_At.f k 0 9 3).bind fun t108 => (some (t108 == 2))) else (some false))) else (some false)) = some r := H
      have A5 := Aside0.mk A50
      clear A50
      by_cases c6 : t106 = 2
      · rw [if_pos c6] at H
        have c6b0 : (t106 == 2) = true := beq_iff_eq.mpr c6
        have c6b1 : (t106 != 2) = false := bne_eq_false_iff_eq.mpr c6
        clear c6
        replace H := Option.bind_eq_some_iff.mp H
        obtain ⟨t107, A70, H⟩ := H
        replace H : (if t107 = 2 then ((border_At.f k 0 9 3).bind fun t108 => (some (t108 == 2))) else (some false)) = some r := H
        have A7 := Aside0.mk A70
        clear A70
        by_cases c8 : t107 = 2
        · rw [if_pos c8] at H
          have c8b0 : (t107 == 2) = true := beq_iff_eq.mpr c8
          have c8b1 : (t107 != 2) = false := bne_eq_false_iff_eq.mpr c8
          clear c8
          replace H := Option.bind_eq_some_iff.mp H
          obtain ⟨t108, A90, H⟩ := H
          replace H : (some (t108 == 2)) = some r := H
          have A9 := Aside0.mk A90
          clear A90
          obtain rfl := Option.some.inj H
          go_enter Try.func12, Try.ntmps12
          go_wp2_with (first | ((with_reducible refine gate_callee (f := 13) rfl ?_); refine goesL_ (some 1) rfl rfl Try.func13 (by kernel_rfl) rfl #[.int .i64 1, .int .i64 (-1), .int .i64 3] rfl (by (try simp only [List.map_toArray, List.map_cons, List.map_nil]); first | done | rfl | (simp only [List.length_drop, List.length_take]; rfl)) ?_; (with_reducible refine (border_At.calls k 1 (-1) 3 t104 _ A1.out).mono ?_); rintro e w10 ⟨rfl, hb⟩; refine ⟨_, rfl, ?_⟩; have n0_ := Aside0.mk (below_step (by repeat (first | (with_reducible first | exact HB.out | apply below_alloc | apply pw_below_drewN | apply below_drew1) | exact HB.out)) hb); clear HB; have HB := n0_; clear n0_; (try clear hb); (try clear hb2); (try clear hk); (try clear hi)) | (go_at_call 13; (with_reducible refine (border_At.calls k 1 (-4) 3 t105 _ A3.out).mono ?_); rintro e w11 ⟨rfl, hb⟩; have n0_ := Aside0.mk (below_step (by repeat (first | (with_reducible first | exact HB.out | apply below_alloc | apply pw_below_drewN | apply below_drew1) | exact HB.out)) hb); clear HB; have HB := n0_; clear n0_; (try clear hb); (try clear hb2); (try clear hk); (try clear hi)) | (go_at_call 13; (with_reducible refine (border_At.calls k 1 3 3 t106 _ A5.out).mono ?_); rintro e w12 ⟨rfl, hb⟩; have n0_ := Aside0.mk (below_step (by repeat (first | (with_reducible first | exact HB.out | apply below_alloc | apply pw_below_drewN | apply below_drew1) | exact HB.out)) hb); clear HB; have HB := n0_; clear n0_; (try clear hb); (try clear hb2); (try clear hk); (try clear hi)) | (go_at_call 13; (with_reducible refine (border_At.calls k 2 (-1) 3 t107 _ A7.out).mono ?_); rintro e w13 ⟨rfl, hb⟩; have n0_ := Aside0.mk (below_step (by repeat (first | (with_reducible first | exact HB.out | apply below_alloc | apply pw_below_drewN | apply below_drew1) | exact HB.out)) hb); clear HB; have HB := n0_; clear n0_; (try clear hb); (try clear hb2); (try clear hk); (try clear hi)) | (go_at_call 13; (with_reducible refine (border_At.calls k 0 9 3 t108 _ A9.out).mono ?_); rintro e w14 ⟨rfl, hb⟩; have n0_ := Aside0.mk (below_step (by repeat (first | (with_reducible first | exact HB.out | apply below_alloc | apply pw_below_drewN | apply below_drew1) | exact HB.out)) hb); clear HB; have HB := n0_; clear n0_; (try clear hb); (try clear hb2); (try clear hk); (try clear hi)))
          go_ret
          exact ⟨by first | rfl | (simp [errW_none, errW_some] <;> rfl) | (simp [*, errW_none, errW_some] <;> rfl), by repeat (first | (with_reducible first | exact HB.out | apply below_alloc | apply pw_below_drewN | apply below_drew1) | exact HB.out)⟩
        · rw [if_neg c8] at H
          have c8b0 : (t107 == 2) = false := beq_eq_false_iff_ne.mpr c8
          have c8b1 : (t107 != 2) = true := bne_iff_ne.mpr c8
          obtain rfl := Option.some.inj H
          go_enter Try.func12, Try.ntmps12
          go_wp2_with (first | ((with_reducible refine gate_callee (f := 13) rfl ?_); refine goesL_ (some 1) rfl rfl Try.func13 (by kernel_rfl) rfl #[.int .i64 1, .int .i64 (-1), .int .i64 3] rfl (by (try simp only [List.map_toArray, List.map_cons, List.map_nil]); first | done | rfl | (simp only [List.length_drop, List.length_take]; rfl)) ?_; (with_reducible refine (border_At.calls k 1 (-1) 3 t104 _ A1.out).mono ?_); rintro e w15 ⟨rfl, hb⟩; refine ⟨_, rfl, ?_⟩; have n0_ := Aside0.mk (below_step (by repeat (first | (with_reducible first | exact HB.out | apply below_alloc | apply pw_below_drewN | apply below_drew1) | exact HB.out)) hb); clear HB; have HB := n0_; clear n0_; (try clear hb); (try clear hb2); (try clear hk); (try clear hi)) | (go_at_call 13; (with_reducible refine (border_At.calls k 1 (-4) 3 t105 _ A3.out).mono ?_); rintro e w16 ⟨rfl, hb⟩; have n0_ := Aside0.mk (below_step (by repeat (first | (with_reducible first | exact HB.out | apply below_alloc | apply pw_below_drewN | apply below_drew1) | exact HB.out)) hb); clear HB; have HB := n0_; clear n0_; (try clear hb); (try clear hb2); (try clear hk); (try clear hi)) | (go_at_call 13; (with_reducible refine (border_At.calls k 1 3 3 t106 _ A5.out).mono ?_); rintro e w17 ⟨rfl, hb⟩; have n0_ := Aside0.mk (below_step (by repeat (first | (with_reducible first | exact HB.out | apply below_alloc | apply pw_below_drewN | apply below_drew1) | exact HB.out)) hb); clear HB; have HB := n0_; clear n0_; (try clear hb); (try clear hb2); (try clear hk); (try clear hi)) | (go_at_call 13; (with_reducible refine (border_At.calls k 2 (-1) 3 t107 _ A7.out).mono ?_); rintro e w18 ⟨rfl, hb⟩; have n0_ := Aside0.mk (below_step (by repeat (first | (with_reducible first | exact HB.out | apply below_alloc | apply pw_below_drewN | apply below_drew1) | exact HB.out)) hb); clear HB; have HB := n0_; clear n0_; (try clear hb); (try clear hb2); (try clear hk); (try clear hi)))
          go_ret
          exact ⟨by first | rfl | (simp [errW_none, errW_some] <;> rfl) | (simp [*, errW_none, errW_some] <;> rfl), by repeat (first | (with_reducible first | exact HB.out | apply below_alloc | apply pw_below_drewN | apply below_drew1) | exact HB.out)⟩
      · rw [if_neg c6] at H
        have c6b0 : (t106 == 2) = false := beq_eq_false_iff_ne.mpr c6
        have c6b1 : (t106 != 2) = true := bne_iff_ne.mpr c6
        obtain rfl := Option.some.inj H
        go_enter Try.func12, Try.ntmps12
        go_wp2_with (first | ((with_reducible refine gate_callee (f := 13) rfl ?_); refine goesL_ (some 1) rfl rfl Try.func13 (by kernel_rfl) rfl #[.int .i64 1, .int .i64 (-1), .int .i64 3] rfl (by (try simp only [List.map_toArray, List.map_cons, List.map_nil]); first | done | rfl | (simp only [List.length_drop, List.length_take]; rfl)) ?_; (with_reducible refine (border_At.calls k 1 (-1) 3 t104 _ A1.out).mono ?_); rintro e w19 ⟨rfl, hb⟩; refine ⟨_, rfl, ?_⟩; have n0_ := Aside0.mk (below_step (by repeat (first | (with_reducible first | exact HB.out | apply below_alloc | apply pw_below_drewN | apply below_drew1) | exact HB.out)) hb); clear HB; have HB := n0_; clear n0_; (try clear hb); (try clear hb2); (try clear hk); (try clear hi)) | (go_at_call 13; (with_reducible refine (border_At.calls k 1 (-4) 3 t105 _ A3.out).mono ?_); rintro e w20 ⟨rfl, hb⟩; have n0_ := Aside0.mk (below_step (by repeat (first | (with_reducible first | exact HB.out | apply below_alloc | apply pw_below_drewN | apply below_drew1) | exact HB.out)) hb); clear HB; have HB := n0_; clear n0_; (try clear hb); (try clear hb2); (try clear hk); (try clear hi)) | (go_at_call 13; (with_reducible refine (border_At.calls k 1 3 3 t106 _ A5.out).mono ?_); rintro e w21 ⟨rfl, hb⟩; have n0_ := Aside0.mk (below_step (by repeat (first | (with_reducible first | exact HB.out | apply below_alloc | apply pw_below_drewN | apply below_drew1) | exact HB.out)) hb); clear HB; have HB := n0_; clear n0_; (try clear hb); (try clear hb2); (try clear hk); (try clear hi)))
        go_ret
        exact ⟨by first | rfl | (simp [errW_none, errW_some] <;> rfl) | (simp [*, errW_none, errW_some] <;> rfl), by repeat (first | (with_reducible first | exact HB.out | apply below_alloc | apply pw_below_drewN | apply below_drew1) | exact HB.out)⟩
    · rw [if_neg c4] at H
      have c4b0 : (t105 == 2) = false := beq_eq_false_iff_ne.mpr c4
      have c4b1 : (t105 != 2) = true := bne_iff_ne.mpr c4
      obtain rfl := Option.some.inj H
      go_enter Try.func12, Try.ntmps12
      go_wp2_with (first | ((with_reducible refine gate_callee (f := 13) rfl ?_); refine goesL_ (some 1) rfl rfl Try.func13 (by kernel_rfl) rfl #[.int .i64 1, .int .i64 (-1), .int .i64 3] rfl (by (try simp only [List.map_toArray, List.map_cons, List.map_nil]); first | done | rfl | (simp only [List.length_drop, List.length_take]; rfl)) ?_; (with_reducible refine (border_At.calls k 1 (-1) 3 t104 _ A1.out).mono ?_); rintro e w22 ⟨rfl, hb⟩; refine ⟨_, rfl, ?_⟩; have n0_ := Aside0.mk (below_step (by repeat (first | (with_reducible first | exact HB.out | apply below_alloc | apply pw_below_drewN | apply below_drew1) | exact HB.out)) hb); clear HB; have HB := n0_; clear n0_; (try clear hb); (try clear hb2); (try clear hk); (try clear hi)) | (go_at_call 13; (with_reducible refine (border_At.calls k 1 (-4) 3 t105 _ A3.out).mono ?_); rintro e w23 ⟨rfl, hb⟩; have n0_ := Aside0.mk (below_step (by repeat (first | (with_reducible first | exact HB.out | apply below_alloc | apply pw_below_drewN | apply below_drew1) | exact HB.out)) hb); clear HB; have HB := n0_; clear n0_; (try clear hb); (try clear hb2); (try clear hk); (try clear hi)))
      go_ret
      exact ⟨by first | rfl | (simp [errW_none, errW_some] <;> rfl) | (simp [*, errW_none, errW_some] <;> rfl), by repeat (first | (with_reducible first | exact HB.out | apply below_alloc | apply pw_below_drewN | apply below_drew1) | exact HB.out)⟩
  · rw [if_neg c2] at H
    have c2b0 : (t104 == 0) = false := beq_eq_false_iff_ne.mpr c2
    have c2b1 : (t104 != 0) = true := bne_iff_ne.mpr c2
    obtain rfl := Option.some.inj H
    go_enter Try.func12, Try.ntmps12
    go_wp2_with (first | ((with_reducible refine gate_callee (f := 13) rfl ?_); refine goesL_ (some 1) rfl rfl Try.func13 (by kernel_rfl) rfl #[.int .i64 1, .int .i64 (-1), .int .i64 3] rfl (by (try simp only [List.map_toArray, List.map_cons, List.map_nil]); first | done | rfl | (simp only [List.length_drop, List.length_take]; rfl)) ?_; (with_reducible refine (border_At.calls k 1 (-1) 3 t104 _ A1.out).mono ?_); rintro e w24 ⟨rfl, hb⟩; refine ⟨_, rfl, ?_⟩; have n0_ := Aside0.mk (below_step (by repeat (first | (with_reducible first | exact HB.out | apply below_alloc | apply pw_below_drewN | apply below_drew1) | exact HB.out)) hb); clear HB; have HB := n0_; clear n0_; (try clear hb); (try clear hb2); (try clear hk); (try clear hi)))
    go_ret
    exact ⟨by first | rfl | (simp [errW_none, errW_some] <;> rfl) | (simp [*, errW_none, errW_some] <;> rfl), by repeat (first | (with_reducible first | exact HB.out | apply below_alloc | apply pw_below_drewN | apply below_drew1) | exact HB.out)⟩

/-! ### smaltolaw07_BorderWalks: function 3 -/
def smaltolaw07_BorderWalks.j0 : Nat → Int → Int → Int → Bool → Option (Bool)
  | 0, _, _, _, _ => none
  | k + 1, x0, x1, x2, x16 => if x16 = true then ((smaltolaw07_lives.f k).bind fun t110 => (some t110)) else ((border_At.f k (wrap64 (Int.tmod x0 3)) x1 (wrap64 (1 + (wrap64 (x2))))).bind fun t111 => ((border_At.f k (wrap64 (Int.tmod x0 3)) (wrap64 (x1 + 1)) (wrap64 (1 + (wrap64 (x2))))).bind fun t112 => (if (wrap64 (Int.tmod x0 3)) = 2 then (if t112 = (wrap64 (t111 + 1)) then (some true) else (if t111 = (wrap64 ((wrap64 (1 + (wrap64 (x2)))) - 1)) then (some (t112 == 0)) else (some false))) else (if (wrap64 (t112 - t111)) ≤ 1 then (some (decide ((wrap64 (t111 - t112)) ≤ 1))) else (some false)))))
def smaltolaw07_BorderWalks.f (k : Nat) (a0 : Int) (a1 : Int) (a2 : Int) : Option (Bool) := (smaltolaw07_lives.f k).bind fun t109 => (if t109 = true then (smaltolaw07_BorderWalks.j0 k a0 a1 a2 (a1 == 9223372036854775807)) else (smaltolaw07_BorderWalks.j0 k a0 a1 a2 true))
theorem smaltolaw07_BorderWalks.mono_l : ∀ k, (∀ y0 y1 y2 y3, LeO (smaltolaw07_BorderWalks.j0 k y0 y1 y2 y3) (smaltolaw07_BorderWalks.j0 (k + 1) y0 y1 y2 y3))
  | 0 => fun _ _ _ _ r h => by simp [smaltolaw07_BorderWalks.j0] at h
  | k + 1 => by
    have ih0 := smaltolaw07_BorderWalks.mono_l k
    · intro y0 y1 y2 y3
      unfold smaltolaw07_BorderWalks.j0
      repeat' first
      | (with_reducible exact ih0 _ _ _ _)
      | (with_reducible exact border_At.mono _ _ _ _)
      | (with_reducible exact smaltolaw07_lives.mono _)
      | (with_reducible exact LeO.refl _)
      | (with_reducible exact LeO.none _)
      | (with_reducible refine LeO.ite ?_ ?_)
      | (with_reducible refine LeO.bind ?_ (fun _ => ?_))
      | exact ih0 _ _ _ _
      | exact border_At.mono _ _ _ _
      | exact smaltolaw07_lives.mono _
      | exact LeO.none _
      | refine LeO.ite ?_ ?_
      | refine LeO.bind ?_ (fun _ => ?_)
theorem smaltolaw07_BorderWalks.mono : ∀ a0 a1 a2 k, LeO (smaltolaw07_BorderWalks.f k a0 a1 a2) (smaltolaw07_BorderWalks.f (k + 1) a0 a1 a2) := by
  intro a0 a1 a2 k
  have ih0 := smaltolaw07_BorderWalks.mono_l k
  unfold smaltolaw07_BorderWalks.f
  repeat' first
      | (with_reducible exact ih0 _ _ _ _)
      | (with_reducible exact border_At.mono _ _ _ _)
      | (with_reducible exact smaltolaw07_lives.mono _)
      | (with_reducible exact LeO.refl _)
      | (with_reducible exact LeO.none _)
      | (with_reducible refine LeO.ite ?_ ?_)
      | (with_reducible refine LeO.bind ?_ (fun _ => ?_))
      | exact ih0 _ _ _ _
      | exact border_At.mono _ _ _ _
      | exact smaltolaw07_lives.mono _
      | exact LeO.none _
      | refine LeO.ite ?_ ?_
      | refine LeO.bind ?_ (fun _ => ?_)
set_option maxHeartbeats 8000000 in
set_option maxRecDepth 100000 in
theorem smaltolaw07_BorderWalks.calls (k : Nat) (a0 : Int) (a1 : Int) (a2 : Int) (r : Bool) (w : World) (h : smaltolaw07_BorderWalks.f k a0 a1 a2 = some r) :
    Calls Try.prog 3 #[.int .u8 a0, .int .i64 a1, .int .u16 a2] w fun e w' => e = .returned (.bool r) ∧ Below w.heap.size w w' := by
  have HB := Aside0.mk (Below.refl w.heap.size w)
  have H : ((smaltolaw07_lives.f k).bind fun t109 => (if t109 = true then (smaltolaw07_BorderWalks.j0 k a0 a1 a2 (a1 == 9223372036854775807)) else (smaltolaw07_BorderWalks.j0 k a0 a1 a2 true))) = some r := h
  clear h
  have HC4 := Aside0.mk H
  clear H
  go_enter Try.func3, Try.ntmps3
  go_upto_region 1 with (fail)
  go_cut [16] (fun v16 wc => ∃ (kq : Nat) (x16_3 : Bool), v16 = .bool x16_3 ∧ Aside0 (smaltolaw07_BorderWalks.j0 kq a0 a1 a2 x16_3 = some r) ∧ Aside0 (kq ≤ k) ∧ Aside0 (Below w.heap.size w wc))
  case first =>
    have H := HC4.out
    clear HC4
    replace H := Option.bind_eq_some_iff.mp H
    obtain ⟨t109, A50, H⟩ := H
    replace H : (if t109 = true then (smaltolaw07_BorderWalks.j0 k a0 a1 a2 (a1 == 9223372036854775807)) else (smaltolaw07_BorderWalks.j0 k a0 a1 a2 true)) = some r := H
    have A5 := Aside0.mk A50
    clear A50
    by_cases c6 : t109 = true
    · subst c6
      have H1 : (smaltolaw07_BorderWalks.j0 k a0 a1 a2 (a1 == 9223372036854775807)) = some r := by rw [if_pos rfl] at H; exact H
      clear H
      have H := H1
      clear H1
      have H' := Aside0.mk H
      clear H
      go_wp2_with (first | ((with_reducible refine gate_callee (f := 12) rfl ?_); refine goesL_ (some 11) rfl rfl Try.func12 (by kernel_rfl) rfl #[] rfl (by (try simp only [List.map_toArray, List.map_cons, List.map_nil]); first | done | rfl | (simp only [List.length_drop, List.length_take]; rfl)) ?_; (with_reducible refine (smaltolaw07_lives.calls k  true _ A5.out).mono ?_); rintro e w7 ⟨rfl, hb⟩; refine ⟨_, rfl, ?_⟩; have n0_ := Aside0.mk (below_step (by repeat (first | (with_reducible first | exact HB.out | apply below_alloc | apply pw_below_drewN | apply below_drew1) | exact HB.out)) hb); clear HB; have HB := n0_; clear n0_; (try clear hb); (try clear hb2); (try clear hk); (try clear hi)))
      go_meet
      case rel => exact ⟨_, ((a1 == 9223372036854775807)), (by first | rfl | (simp; done) | (simp [*]; done)), H', ⟨by first | omega | exact Nat.le_refl _⟩, ⟨by repeat (first | (with_reducible first | exact HB.out | apply below_alloc | apply pw_below_drewN | apply below_drew1) | exact HB.out)⟩⟩
    · replace c6 := Bool.eq_false_iff.mpr c6
      subst c6
      have H1 : (smaltolaw07_BorderWalks.j0 k a0 a1 a2 true) = some r := by rw [if_neg (show ¬ (false = true) by decide)] at H; exact H
      clear H
      have H := H1
      clear H1
      have H' := Aside0.mk H
      clear H
      go_wp2_with (first | ((with_reducible refine gate_callee (f := 12) rfl ?_); refine goesL_ (some 11) rfl rfl Try.func12 (by kernel_rfl) rfl #[] rfl (by (try simp only [List.map_toArray, List.map_cons, List.map_nil]); first | done | rfl | (simp only [List.length_drop, List.length_take]; rfl)) ?_; (with_reducible refine (smaltolaw07_lives.calls k  false _ A5.out).mono ?_); rintro e w8 ⟨rfl, hb⟩; refine ⟨_, rfl, ?_⟩; have n0_ := Aside0.mk (below_step (by repeat (first | (with_reducible first | exact HB.out | apply below_alloc | apply pw_below_drewN | apply below_drew1) | exact HB.out)) hb); clear HB; have HB := n0_; clear n0_; (try clear hb); (try clear hb2); (try clear hk); (try clear hi)))
      go_meet
      case rel => exact ⟨_, (true), (by first | rfl | (simp; done) | (simp [*]; done)), H', ⟨by first | omega | exact Nat.le_refl _⟩, ⟨by repeat (first | (with_reducible first | exact HB.out | apply below_alloc | apply pw_below_drewN | apply below_drew1) | exact HB.out)⟩⟩
  case rest =>
    clear HC4
    try clear c1
    try clear p2
    try clear c3
    try clear c6
    obtain ⟨kq, x16_3, rfl, HA, HJ3, HB⟩ := hcut
    cases kq with
    | zero => exact absurd HA.out (by simp [smaltolaw07_BorderWalks.j0])
    | succ kj3 =>
      have H := HA.out
      clear HA
      simp only [smaltolaw07_BorderWalks.j0] at H
      by_cases c9 : x16_3 = true
      · subst c9
        have H1 : ((smaltolaw07_lives.f kj3).bind fun t110 => (some t110)) = some r := by rw [if_pos rfl] at H; exact H
        clear H
        have H := H1
        clear H1
        replace H := Option.bind_eq_some_iff.mp H
        obtain ⟨t110, A100, H⟩ := H
        replace H : (some t110) = some r := H
        have A10 := Aside0.mk A100
        clear A100
        obtain rfl := Option.some.inj H
        go_wp2_with (first | ((with_reducible refine gate_callee (f := 12) rfl ?_); refine goesL_ (some 17) rfl rfl Try.func12 (by kernel_rfl) rfl #[] rfl (by (try simp only [List.map_toArray, List.map_cons, List.map_nil]); first | done | rfl | (simp only [List.length_drop, List.length_take]; rfl)) ?_; (with_reducible refine (smaltolaw07_lives.calls kj3  t110 _ A10.out).mono ?_); rintro e w11 ⟨rfl, hb⟩; refine ⟨_, rfl, ?_⟩; have n0_ := Aside0.mk (below_step (by repeat (first | (with_reducible first | exact HB.out | apply below_alloc | apply pw_below_drewN | apply below_drew1) | exact HB.out)) hb); clear HB; have HB := n0_; clear n0_; (try clear hb); (try clear hb2); (try clear hk); (try clear hi)))
        go_ret
        exact ⟨by first | rfl | (simp [errW_none, errW_some] <;> rfl) | (simp [*, errW_none, errW_some] <;> rfl), by repeat (first | (with_reducible first | exact HB.out | apply below_alloc | apply pw_below_drewN | apply below_drew1) | exact HB.out)⟩
      · replace c9 := Bool.eq_false_iff.mpr c9
        subst c9
        have H1 : ((border_At.f kj3 (wrap64 (Int.tmod a0 3)) a1 (wrap64 (1 + (wrap64 (a2))))).bind fun t111 => ((border_At.f kj3 (wrap64 (Int.tmod a0 3)) (wrap64 (a1 + 1)) (wrap64 (1 + (wrap64 (a2))))).bind fun t112 => (if (wrap64 (Int.tmod a0 3)) = 2 then (if t112 = (wrap64 (t111 + 1)) then (some true) else (if t111 = (wrap64 ((wrap64 (1 + (wrap64 (a2)))) - 1)) then (some (t112 == 0)) else (some false))) else (if (wrap64 (t112 - t111)) ≤ 1 then (some (decide ((wrap64 (t111 - t112)) ≤ 1))) else (some false))))) = some r := by rw [if_neg (show ¬ (false = true) by decide)] at H; exact H
        clear H
        have H := H1
        clear H1
        replace H := Option.bind_eq_some_iff.mp H
        obtain ⟨t111, A120, H⟩ := H
        replace H : ((border_At.f kj3 (wrap64 (Int.tmod a0 3)) (wrap64 (a1 + 1)) (wrap64 (1 + (wrap64 (a2))))).bind fun t112 => (if (wrap64 (Int.tmod a0 3)) = 2 then (if t112 = (wrap64 (t111 + 1)) then (some true) else (if t111 = (wrap64 ((wrap64 (1 + (wrap64 (a2)))) - 1)) then (some (t112 == 0)) else (some false))) else (if (wrap64 (t112 - t111)) ≤ 1 then (some (decide ((wrap64 (t111 - t112)) ≤ 1))) else (some false)))) = some r := H
        have A12 := Aside0.mk A120
        clear A120
        replace H := Option.bind_eq_some_iff.mp H
        obtain ⟨t112, A130, H⟩ := H
        replace H : (if (wrap64 (Int.tmod a0 3)) = 2 then (if t112 = (wrap64 (t111 + 1)) then (some true) else (if t111 = (wrap64 ((wrap64 (1 + (wrap64 (a2)))) - 1)) then (some (t112 == 0)) else (some false))) else (if (wrap64 (t112 - t111)) ≤ 1 then (some (decide ((wrap64 (t111 - t112)) ≤ 1))) else (some false))) = some r := H
        have A13 := Aside0.mk A130
        clear A130
        by_cases c14 : (wrap64 (Int.tmod a0 3)) = 2
        · rw [if_pos c14] at H
          have c14b0 : ((wrap64 (Int.tmod a0 3)) == 2) = true := beq_iff_eq.mpr c14
          have c14b1 : ((wrap64 (Int.tmod a0 3)) != 2) = false := bne_eq_false_iff_eq.mpr c14
          clear c14
          by_cases c15 : t112 = (wrap64 (t111 + 1))
          · rw [if_pos c15] at H
            have c15b0 : (t112 == (wrap64 (t111 + 1))) = true := beq_iff_eq.mpr c15
            have c15b1 : (t112 != (wrap64 (t111 + 1))) = false := bne_eq_false_iff_eq.mpr c15
            clear c15
            obtain rfl := Option.some.inj H
            go_wp2_with (first | ((with_reducible refine gate_callee (f := 13) rfl ?_); refine goesL_ (some 27) rfl rfl Try.func13 (by kernel_rfl) rfl #[.int .i64 (wrap64 (Int.tmod a0 3)), .int .i64 a1, .int .i64 (wrap64 (1 + (wrap64 (a2))))] rfl (by (try simp only [List.map_toArray, List.map_cons, List.map_nil]); first | done | rfl | (simp only [List.length_drop, List.length_take]; rfl)) ?_; (with_reducible refine (border_At.calls kj3 (wrap64 (Int.tmod a0 3)) a1 (wrap64 (1 + (wrap64 (a2)))) t111 _ A12.out).mono ?_); rintro e w16 ⟨rfl, hb⟩; refine ⟨_, rfl, ?_⟩; have n0_ := Aside0.mk (below_step (by repeat (first | (with_reducible first | exact HB.out | apply below_alloc | apply pw_below_drewN | apply below_drew1) | exact HB.out)) hb); clear HB; have HB := n0_; clear n0_; (try clear hb); (try clear hb2); (try clear hk); (try clear hi)) | ((with_reducible refine gate_callee (f := 13) rfl ?_); refine goesL_ (some 32) rfl rfl Try.func13 (by kernel_rfl) rfl #[.int .i64 (wrap64 (Int.tmod a0 3)), .int .i64 (wrap64 (a1 + 1)), .int .i64 (wrap64 (1 + (wrap64 (a2))))] rfl (by (try simp only [List.map_toArray, List.map_cons, List.map_nil]); first | done | rfl | (simp only [List.length_drop, List.length_take]; rfl)) ?_; (with_reducible refine (border_At.calls kj3 (wrap64 (Int.tmod a0 3)) (wrap64 (a1 + 1)) (wrap64 (1 + (wrap64 (a2)))) t112 _ A13.out).mono ?_); rintro e w17 ⟨rfl, hb⟩; refine ⟨_, rfl, ?_⟩; have n0_ := Aside0.mk (below_step (by repeat (first | (with_reducible first | exact HB.out | apply below_alloc | apply pw_below_drewN | apply below_drew1) | exact HB.out)) hb); clear HB; have HB := n0_; clear n0_; (try clear hb); (try clear hb2); (try clear hk); (try clear hi)))
            go_ret
            exact ⟨by first | rfl | (simp [errW_none, errW_some] <;> rfl) | (simp [*, errW_none, errW_some] <;> rfl), by repeat (first | (with_reducible first | exact HB.out | apply below_alloc | apply pw_below_drewN | apply below_drew1) | exact HB.out)⟩
          · rw [if_neg c15] at H
            have c15b0 : (t112 == (wrap64 (t111 + 1))) = false := beq_eq_false_iff_ne.mpr c15
            have c15b1 : (t112 != (wrap64 (t111 + 1))) = true := bne_iff_ne.mpr c15
            by_cases c18 : t111 = (wrap64 ((wrap64 (1 + (wrap64 (a2)))) - 1))
            · rw [if_pos c18] at H
              have c18b0 : (t111 == (wrap64 ((wrap64 (1 + (wrap64 (a2)))) - 1))) = true := beq_iff_eq.mpr c18
              have c18b1 : (t111 != (wrap64 ((wrap64 (1 + (wrap64 (a2)))) - 1))) = false := bne_eq_false_iff_eq.mpr c18
              clear c18
              obtain rfl := Option.some.inj H
              go_wp2_with (first | ((with_reducible refine gate_callee (f := 13) rfl ?_); refine goesL_ (some 27) rfl rfl Try.func13 (by kernel_rfl) rfl #[.int .i64 (wrap64 (Int.tmod a0 3)), .int .i64 a1, .int .i64 (wrap64 (1 + (wrap64 (a2))))] rfl (by (try simp only [List.map_toArray, List.map_cons, List.map_nil]); first | done | rfl | (simp only [List.length_drop, List.length_take]; rfl)) ?_; (with_reducible refine (border_At.calls kj3 (wrap64 (Int.tmod a0 3)) a1 (wrap64 (1 + (wrap64 (a2)))) t111 _ A12.out).mono ?_); rintro e w19 ⟨rfl, hb⟩; refine ⟨_, rfl, ?_⟩; have n0_ := Aside0.mk (below_step (by repeat (first | (with_reducible first | exact HB.out | apply below_alloc | apply pw_below_drewN | apply below_drew1) | exact HB.out)) hb); clear HB; have HB := n0_; clear n0_; (try clear hb); (try clear hb2); (try clear hk); (try clear hi)) | ((with_reducible refine gate_callee (f := 13) rfl ?_); refine goesL_ (some 32) rfl rfl Try.func13 (by kernel_rfl) rfl #[.int .i64 (wrap64 (Int.tmod a0 3)), .int .i64 (wrap64 (a1 + 1)), .int .i64 (wrap64 (1 + (wrap64 (a2))))] rfl (by (try simp only [List.map_toArray, List.map_cons, List.map_nil]); first | done | rfl | (simp only [List.length_drop, List.length_take]; rfl)) ?_; (with_reducible refine (border_At.calls kj3 (wrap64 (Int.tmod a0 3)) (wrap64 (a1 + 1)) (wrap64 (1 + (wrap64 (a2)))) t112 _ A13.out).mono ?_); rintro e w20 ⟨rfl, hb⟩; refine ⟨_, rfl, ?_⟩; have n0_ := Aside0.mk (below_step (by repeat (first | (with_reducible first | exact HB.out | apply below_alloc | apply pw_below_drewN | apply below_drew1) | exact HB.out)) hb); clear HB; have HB := n0_; clear n0_; (try clear hb); (try clear hb2); (try clear hk); (try clear hi)))
              go_ret
              exact ⟨by first | rfl | (simp [errW_none, errW_some] <;> rfl) | (simp [*, errW_none, errW_some] <;> rfl), by repeat (first | (with_reducible first | exact HB.out | apply below_alloc | apply pw_below_drewN | apply below_drew1) | exact HB.out)⟩
            · rw [if_neg c18] at H
              have c18b0 : (t111 == (wrap64 ((wrap64 (1 + (wrap64 (a2)))) - 1))) = false := beq_eq_false_iff_ne.mpr c18
              have c18b1 : (t111 != (wrap64 ((wrap64 (1 + (wrap64 (a2)))) - 1))) = true := bne_iff_ne.mpr c18
              obtain rfl := Option.some.inj H
              go_wp2_with (first | ((with_reducible refine gate_callee (f := 13) rfl ?_); refine goesL_ (some 27) rfl rfl Try.func13 (by kernel_rfl) rfl #[.int .i64 (wrap64 (Int.tmod a0 3)), .int .i64 a1, .int .i64 (wrap64 (1 + (wrap64 (a2))))] rfl (by (try simp only [List.map_toArray, List.map_cons, List.map_nil]); first | done | rfl | (simp only [List.length_drop, List.length_take]; rfl)) ?_; (with_reducible refine (border_At.calls kj3 (wrap64 (Int.tmod a0 3)) a1 (wrap64 (1 + (wrap64 (a2)))) t111 _ A12.out).mono ?_); rintro e w21 ⟨rfl, hb⟩; refine ⟨_, rfl, ?_⟩; have n0_ := Aside0.mk (below_step (by repeat (first | (with_reducible first | exact HB.out | apply below_alloc | apply pw_below_drewN | apply below_drew1) | exact HB.out)) hb); clear HB; have HB := n0_; clear n0_; (try clear hb); (try clear hb2); (try clear hk); (try clear hi)) | ((with_reducible refine gate_callee (f := 13) rfl ?_); refine goesL_ (some 32) rfl rfl Try.func13 (by kernel_rfl) rfl #[.int .i64 (wrap64 (Int.tmod a0 3)), .int .i64 (wrap64 (a1 + 1)), .int .i64 (wrap64 (1 + (wrap64 (a2))))] rfl (by (try simp only [List.map_toArray, List.map_cons, List.map_nil]); first | done | rfl | (simp only [List.length_drop, List.length_take]; rfl)) ?_; (with_reducible refine (border_At.calls kj3 (wrap64 (Int.tmod a0 3)) (wrap64 (a1 + 1)) (wrap64 (1 + (wrap64 (a2)))) t112 _ A13.out).mono ?_); rintro e w22 ⟨rfl, hb⟩; refine ⟨_, rfl, ?_⟩; have n0_ := Aside0.mk (below_step (by repeat (first | (with_reducible first | exact HB.out | apply below_alloc | apply pw_below_drewN | apply below_drew1) | exact HB.out)) hb); clear HB; have HB := n0_; clear n0_; (try clear hb); (try clear hb2); (try clear hk); (try clear hi)))
              go_ret
              exact ⟨by first | rfl | (simp [errW_none, errW_some] <;> rfl) | (simp [*, errW_none, errW_some] <;> rfl), by repeat (first | (with_reducible first | exact HB.out | apply below_alloc | apply pw_below_drewN | apply below_drew1) | exact HB.out)⟩
        · rw [if_neg c14] at H
          have c14b0 : ((wrap64 (Int.tmod a0 3)) == 2) = false := beq_eq_false_iff_ne.mpr c14
          have c14b1 : ((wrap64 (Int.tmod a0 3)) != 2) = true := bne_iff_ne.mpr c14
          by_cases c23 : (wrap64 (t112 - t111)) ≤ 1
          · rw [if_pos c23] at H
            have c23b0 : decide ((wrap64 (t112 - t111)) ≤ 1) = true := decide_eq_true c23
            clear c23
            obtain rfl := Option.some.inj H
            go_wp2_with (first | ((with_reducible refine gate_callee (f := 13) rfl ?_); refine goesL_ (some 27) rfl rfl Try.func13 (by kernel_rfl) rfl #[.int .i64 (wrap64 (Int.tmod a0 3)), .int .i64 a1, .int .i64 (wrap64 (1 + (wrap64 (a2))))] rfl (by (try simp only [List.map_toArray, List.map_cons, List.map_nil]); first | done | rfl | (simp only [List.length_drop, List.length_take]; rfl)) ?_; (with_reducible refine (border_At.calls kj3 (wrap64 (Int.tmod a0 3)) a1 (wrap64 (1 + (wrap64 (a2)))) t111 _ A12.out).mono ?_); rintro e w24 ⟨rfl, hb⟩; refine ⟨_, rfl, ?_⟩; have n0_ := Aside0.mk (below_step (by repeat (first | (with_reducible first | exact HB.out | apply below_alloc | apply pw_below_drewN | apply below_drew1) | exact HB.out)) hb); clear HB; have HB := n0_; clear n0_; (try clear hb); (try clear hb2); (try clear hk); (try clear hi)) | ((with_reducible refine gate_callee (f := 13) rfl ?_); refine goesL_ (some 32) rfl rfl Try.func13 (by kernel_rfl) rfl #[.int .i64 (wrap64 (Int.tmod a0 3)), .int .i64 (wrap64 (a1 + 1)), .int .i64 (wrap64 (1 + (wrap64 (a2))))] rfl (by (try simp only [List.map_toArray, List.map_cons, List.map_nil]); first | done | rfl | (simp only [List.length_drop, List.length_take]; rfl)) ?_; (with_reducible refine (border_At.calls kj3 (wrap64 (Int.tmod a0 3)) (wrap64 (a1 + 1)) (wrap64 (1 + (wrap64 (a2)))) t112 _ A13.out).mono ?_); rintro e w25 ⟨rfl, hb⟩; refine ⟨_, rfl, ?_⟩; have n0_ := Aside0.mk (below_step (by repeat (first | (with_reducible first | exact HB.out | apply below_alloc | apply pw_below_drewN | apply below_drew1) | exact HB.out)) hb); clear HB; have HB := n0_; clear n0_; (try clear hb); (try clear hb2); (try clear hk); (try clear hi)))
            go_ret
            exact ⟨by first | rfl | (simp [errW_none, errW_some] <;> rfl) | (simp [*, errW_none, errW_some] <;> rfl), by repeat (first | (with_reducible first | exact HB.out | apply below_alloc | apply pw_below_drewN | apply below_drew1) | exact HB.out)⟩
          · rw [if_neg c23] at H
            have c23b0 : decide ((wrap64 (t112 - t111)) ≤ 1) = false := decide_eq_false c23
            clear c23
            obtain rfl := Option.some.inj H
            go_wp2_with (first | ((with_reducible refine gate_callee (f := 13) rfl ?_); refine goesL_ (some 27) rfl rfl Try.func13 (by kernel_rfl) rfl #[.int .i64 (wrap64 (Int.tmod a0 3)), .int .i64 a1, .int .i64 (wrap64 (1 + (wrap64 (a2))))] rfl (by (try simp only [List.map_toArray, List.map_cons, List.map_nil]); first | done | rfl | (simp only [List.length_drop, List.length_take]; rfl)) ?_; (with_reducible refine (border_At.calls kj3 (wrap64 (Int.tmod a0 3)) a1 (wrap64 (1 + (wrap64 (a2)))) t111 _ A12.out).mono ?_); rintro e w26 ⟨rfl, hb⟩; refine ⟨_, rfl, ?_⟩; have n0_ := Aside0.mk (below_step (by repeat (first | (with_reducible first | exact HB.out | apply below_alloc | apply pw_below_drewN | apply below_drew1) | exact HB.out)) hb); clear HB; have HB := n0_; clear n0_; (try clear hb); (try clear hb2); (try clear hk); (try clear hi)) | ((with_reducible refine gate_callee (f := 13) rfl ?_); refine goesL_ (some 32) rfl rfl Try.func13 (by kernel_rfl) rfl #[.int .i64 (wrap64 (Int.tmod a0 3)), .int .i64 (wrap64 (a1 + 1)), .int .i64 (wrap64 (1 + (wrap64 (a2))))] rfl (by (try simp only [List.map_toArray, List.map_cons, List.map_nil]); first | done | rfl | (simp only [List.length_drop, List.length_take]; rfl)) ?_; (with_reducible refine (border_At.calls kj3 (wrap64 (Int.tmod a0 3)) (wrap64 (a1 + 1)) (wrap64 (1 + (wrap64 (a2)))) t112 _ A13.out).mono ?_); rintro e w27 ⟨rfl, hb⟩; refine ⟨_, rfl, ?_⟩; have n0_ := Aside0.mk (below_step (by repeat (first | (with_reducible first | exact HB.out | apply below_alloc | apply pw_below_drewN | apply below_drew1) | exact HB.out)) hb); clear HB; have HB := n0_; clear n0_; (try clear hb); (try clear hb2); (try clear hk); (try clear hi)))
            go_ret
            exact ⟨by first | rfl | (simp [errW_none, errW_some] <;> rfl) | (simp [*, errW_none, errW_some] <;> rfl), by repeat (first | (with_reducible first | exact HB.out | apply below_alloc | apply pw_below_drewN | apply below_drew1) | exact HB.out)⟩

/-- THE ONE PURE STATEMENT of smaltolaw07_BorderWalks: yours. -/
def smaltolaw07_BorderWalks.Pure : Prop := ∀ (a0 : Int) (a1 : Int) (a2 : Int), (Lit.int .u8 a0).wf = true → (Lit.int .i64 a1).wf = true → (Lit.int .u16 a2).wf = true → ∃ k, smaltolaw07_BorderWalks.f k a0 a1 a2 = some true
theorem smaltolaw07_BorderWalks.walk (P : smaltolaw07_BorderWalks.Pure) (a0 : Int) (a1 : Int) (a2 : Int) (w : World) (w0 : (Lit.int .u8 a0).wf = true) (w1 : (Lit.int .i64 a1).wf = true) (w2 : (Lit.int .u16 a2).wf = true) :
    Calls Try.prog 3 #[.int .u8 a0, .int .i64 a1, .int .u16 a2] w fun e w' => e = .returned (.bool true) ∧ Below w.heap.size w w' := by
  obtain ⟨k, h⟩ := P a0 a1 a2 w0 w1 w2
  refine (smaltolaw07_BorderWalks.calls k a0 a1 a2 true w h).mono ?_
  rintro e w' ⟨rfl, hd⟩
  exact ⟨rfl, hd⟩

end Go.Proofs.Ytofmgoihoaookaa.QA
