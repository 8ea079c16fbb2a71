/- Joined by wip/tools/bundle.py out of: QAx18 QAx19. -/
import Derived.Test.YtebipmdopdogkaaGreatDoorBOpMakes0
import Derived.Test.YtebipmdopdogkaaGreatDoorBOpMakes1
import Derived.Test.YtebipmdopdogkaaGreatDoorBOpMakes4
namespace Go.Proofs.YtebipmdopdogkaaGreatDoor.QA
open Go.Proofs.YtebipmdopdogkaaGreatDoor.T
open Go.RowKit Go.Proofs.YtebipmdopdogkaaGreatDoorW.PrintWords Go.Proofs.YtebipmdopdogkaaGreatDoorW.PrintLast Go.Proofs.YtebipmdopdogkaaGreatDoorW.PrintMore
attribute [local go_sem] ext_call max2_int min2_int max_two min_two
set_option linter.unusedVariables false
set_option linter.unusedSimpArgs false
def taps_Blur.j0 : Nat → Int → Bool → Option (List Int × Int)
 | 0, _, _ => none
 | k + 1, x0, x9 => if x9 = true then (some (([] : List Int), 7)) else ((slices_Repeat_int64_int64.f (([1] : List Int)) (wrap64 ((wrap64 (2 * x0)) + 1))).bind fun t202 => ((taps_User.f k t202).bind fun bt205 => (some (bt205.1, bt205.2))))
def taps_Blur.f (k : Nat) (a0 : Int) : Option (List Int × Int) := if a0 < 0 then (taps_Blur.j0 k a0 true) else (taps_Blur.j0 k a0 (decide (a0 > 511)))
set_option maxHeartbeats 8000000 in
set_option maxRecDepth 100000 in
theorem taps_Blur.calls (k : Nat) (a0 : Int) (r1 : List Int) (r2 : Int) (w : World) (h : taps_Blur.f k a0 = some (r1, r2)) :
  Calls Tryz.prog 54 #[.int .i64 a0] w fun e w' => ∃ v0_ : Value, e = .returned (.tuple #[v0_, .int .i64 r2]) ∧ Kd.R (Kd.int .i64) 2 w' w.heap.size (fun _ => True) v0_ r1 ∧ Below w.heap.size w w' := by
 have HB := Aside0.mk (Below.refl w.heap.size w)
 have H := h
 clear h
 unfold taps_Blur.f at H
 have HC2 := Aside0.mk H
 clear H
 go_enter Tryz.func54, Tryz.ntmps54
 go_upto_region 1 with (fail)
 go_cut [9] (fun v9 wc => ∃ (kq : Nat) (x9_1 : Bool), v9 = .bool x9_1 ∧ Aside0 (taps_Blur.j0 kq a0 x9_1 = some (r1, r2)) ∧ Aside0 (kq ≤ k) ∧ Aside0 (Below w.heap.size w wc))
 case first =>
  have H := HC2.out
  clear HC2
  by_cases c3 : a0 < 0
  ·rw [if_pos c3] at H
   have c3b0 := decide_eq_true c3
   clear c3
   (first | rw [c3b0] | (simp only [i64_w, i32_w]; rw [c3b0]) | skip)
   have H' := Aside0.mk H
   clear H
   go_wp2
   go_meet
   case rel => exact ⟨_, (true), zT, H', ⟨by first | omega | exact Nat.le_refl _⟩, ⟨zB⟩⟩
  ·rw [if_neg c3] at H
   have c3b0 := decide_eq_false c3
   clear c3
   (first | rw [c3b0] | (simp only [i64_w, i32_w]; rw [c3b0]) | skip)
   have H' := Aside0.mk H
   clear H
   go_wp2
   go_meet
   case rel => exact ⟨_, (decide (a0 > 511)), zT, H', ⟨by first | omega | exact Nat.le_refl _⟩, ⟨zB⟩⟩
 case rest =>
  clear HC2
  obtain ⟨kq, x9_1, rfl, HA, HJ1, HB⟩ := hcut
  cases kq with
  | zero => exact absurd HA.out (by simp [taps_Blur.j0])
  | succ kj1 =>
   have H := HA.out
   clear HA
   simp only [taps_Blur.j0] at H
   by_cases c4 : x9_1 = true
   ·subst c4
    rw [if_pos rfl] at H; try dsimp only at H
    simp only [Option.some.injEq, Prod.mk.injEq] at H
    obtain ⟨rfl, rfl⟩ := H
    go_wp2
    go_ret2
    exact ⟨_, zS, by first | exact Kd.R_nil _ _ _ _ _ | exact Kd.N_nil _ _ _ _ _ | exact Kd.V_nil _ _ _ _ _ | exact Kd.Q_nil _ _ _ _ _ | exact Kd.S_nil _ _ _ _ _, zB⟩
   ·replace c4 := Bool.eq_false_iff.mpr c4
    subst c4
    rw [if_neg (show ¬ (false = true) by decide)] at H; try dsimp only at H
    obtain ⟨y199, hy199⟩ : ∃ y_ : List Int, y_ = (([1] : List Int)) := ⟨_, rfl⟩
    replace H : ((slices_Repeat_int64_int64.f y199 (wrap64 ((wrap64 (2 * a0)) + 1))).bind fun t202 => ((taps_User.f kj1 t202).bind fun bt205 => (some (bt205.1, bt205.2)))) = some (r1, r2) := by first | (rw [hy199]; with_reducible exact H) | (have H2_ := (Option.bind_some _ _).symm.trans H; rw [hy199]; with_reducible exact H2_) | (have H2_ := (Option.bind_some _ _).symm.trans H; with_reducible exact H2_) | with_reducible exact H | (rw [hy199]; exact H) | exact H
    have Ny199 := Aside0.mk hy199
    clear hy199
    replace H := zO H
    obtain ⟨t202, A5, H⟩ := H
    try dsimp only at H
    replace H := zO H
    obtain ⟨⟨t205, t206⟩, A6, H⟩ := H
    try dsimp only at H
    simp only [Option.some.injEq, Prod.mk.injEq] at H
    obtain ⟨rfl, rfl⟩ := H
    go_wp2_with (first | ((with_reducible refine gate_dst (N := 10) rfl ?_); refine Kd.R_lit (Kd.int .i64) _ 2 ?hg (N := 10) ?hd (xs := ([1] : List Int)) (inner := [.int .i64 1]) (ok := fun _ => True) (okp := fun _ => True) ?hr ?hp (fun _ hk => hk) trivial (Below.refl _ _) (Nat.le_refl _) (by simp) ?_; (case hd => rfl); (case hg => rfl); (case hr => first | (go_simp; done) | (go_simp; rfl)); (case hp => exact (Reps.one (show Kd.M (Kd.int .i64) _ _ _ 1 [.int .i64 1] from rfl) (Reps.none _ _))); intro v200 w7 ho8 hb hg_ hnew_; clear hg_ hnew_; (first | rw [← Ny199.out] at ho8 | (simp only [Int.reduceToNat] at ho8; rw [← Ny199.out] at ho8)); obtain ⟨HO201, HB⟩ := zA2 (Kd.R_lower ho8 (below_size zB)) (below_step zB hb); clear hb ho8; obtain ⟨Ao9, co9, eo9⟩ := Kd.R_slice HO201.out; subst eo9) | ((with_reducible refine gate_callee (f := 81) rfl ?_); refine goesL_ (some 14) rfl rfl Tryz.func81 (by kernel_rfl) rfl #[.slice Ao9 y199.length co9, .int .i64 (wrap64 ((wrap64 (2 * a0)) + 1))] rfl zL ?_; (with_reducible refine (slices_Repeat_int64_int64.calls _ _ y199 (wrap64 ((wrap64 (2 * a0)) + 1)) t202 _ ?side1 ?side2 A5.out).mono ?_); (case side1 => repeat (first | exact (Kd.R_reads' HO201.out).2.2 | (with_reducible refine Kd.C_alloc ?_ _) | (with_reducible refine Kd.C_drewN ?_ _) | (with_reducible refine Kd.C_drew ?_))); (case side2 => exact (Kd.R_reads' HO201.out).2.1); rintro e w10 ⟨v203, rfl, ho0, hb⟩; refine ⟨_, rfl, ?_⟩; obtain ⟨HO201, HO204, HB⟩ := zA3 (Kd.R_elder' (by (with_reducible repeat (first | apply Kd.R_alloc | apply Kd.R_drewN | apply Kd.R_drew)); exact HO201.out) (Kd.R_base ho0) hb) (Kd.R_lower (Kd.R_new' ho0 (Kd.R_lt (by (with_reducible repeat (first | apply Kd.R_alloc | apply Kd.R_drewN | apply Kd.R_drew)); exact HO201.out))) (below_size zB)) (below_step zB hb); (try clear hb); (try clear ho0); obtain ⟨Ao11, co11, eo11⟩ := Kd.R_slice HO204.out; subst eo11) | ((with_reducible refine gate_callee (f := 55) rfl ?_); refine goesL_ (some 15) rfl rfl Tryz.func55 (by kernel_rfl) rfl #[.slice Ao11 t202.length co11] rfl zL ?_; (with_reducible refine (taps_User.calls kj1 _ _ t202 t205 t206 _ ?side1 ?side2 A6.out).mono ?_); (case side1 => repeat (first | exact (Kd.R_reads' HO204.out).2.2 | (with_reducible refine Kd.C_alloc ?_ _) | (with_reducible refine Kd.C_drewN ?_ _) | (with_reducible refine Kd.C_drew ?_))); (case side2 => exact (Kd.R_reads' HO204.out).2.1); rintro e w12 ⟨v207, rfl, ho0, hb⟩; refine ⟨_, rfl, ?_⟩; obtain ⟨HO201, HO204, HO208, HB⟩ := zA4 (Kd.R_elder' (by (with_reducible repeat (first | apply Kd.R_alloc | apply Kd.R_drewN | apply Kd.R_drew)); exact HO201.out) (Kd.R_base ho0) hb) (Kd.R_elder' (by (with_reducible repeat (first | apply Kd.R_alloc | apply Kd.R_drewN | apply Kd.R_drew)); exact HO204.out) (Kd.R_base ho0) hb) (Kd.R_lower (Kd.R_new' (Kd.R_new' ho0 (Kd.R_lt (by (with_reducible repeat (first | apply Kd.R_alloc | apply Kd.R_drewN | apply Kd.R_drew)); exact HO201.out))) (Kd.R_lt (by (with_reducible repeat (first | apply Kd.R_alloc | apply Kd.R_drewN | apply Kd.R_drew)); exact HO204.out))) (below_size zB)) (below_step zB hb); (try clear hb); (try clear ho0)))
    go_ret2
    exact ⟨_, zS, by (with_reducible repeat (first | apply Kd.R_alloc | apply Kd.R_drewN | apply Kd.R_drew)); exact Kd.R_mono HO208.out (fun _ hk => trivial), zB⟩
def op_weights.f (k : Nat) (a0_0 a0_1 a0_2 a0_3 : Int) (l0_4 l0_5 : List Int) (a0_6 a0_7 a0_8 : Int) : Option (List Int × List Int × Int) := if a0_0 = 0 then ((taps_Gaussian.f k a0_2).bind fun bt210 => (some (bt210.1, bt210.1, bt210.2))) else (if a0_0 = 1 then ((taps_Blur.f k a0_3).bind fun bt214 => (some (bt214.1, bt214.1, bt214.2))) else ((taps_User.f k l0_4).bind fun bt218 => (if bt218.2 = 0 then ((taps_User.f k l0_5).bind fun bt222 => (some (bt218.1, bt222.1, bt222.2))) else (some (([] : List Int), ([] : List Int), bt218.2)))))
set_option maxHeartbeats 8000000 in
set_option maxRecDepth 100000 in
theorem op_weights.calls (k : Nat) (a0_0 a0_1 a0_2 a0_3 : Int) (A0_4 : Option Addr) (c0_4 : Nat) (l0_4 : List Int) (A0_5 : Option Addr) (c0_5 : Nat) (l0_5 : List Int) (a0_6 a0_7 a0_8 : Int) (r1 r2 : List Int) (r3 : Int) (w : World) (hr0_4 : Kd.C (Kd.int .i64) w A0_4 l0_4.length l0_4) (hc0_4 : l0_4.length ≤ c0_4) (hr0_5 : Kd.C (Kd.int .i64) w A0_5 l0_5.length l0_5) (hc0_5 : l0_5.length ≤ c0_5) (h : op_weights.f k a0_0 a0_1 a0_2 a0_3 l0_4 l0_5 a0_6 a0_7 a0_8 = some (r1, r2, r3)) :
  Calls Tryz.prog 39 #[.agg #[.int .i64 a0_0, .int .i64 a0_1, .int .i64 a0_2, .int .i64 a0_3, .slice A0_4 l0_4.length c0_4, .slice A0_5 l0_5.length c0_5, .int .i64 a0_6, .int .i64 a0_7, .int .i64 a0_8]] w fun e w' => ∃ v0_ v1_ : Value, e = .returned (.tuple #[v0_, v1_, .int .i64 r3]) ∧ Kd.V (Kd.int .i64) 2 w' w.heap.size (fun k_ => (w.heap.size ≤ k_)) v0_ r1 ∧ Kd.V (Kd.int .i64) 2 w' w.heap.size (fun k_ => (w.heap.size ≤ k_)) v1_ r2 ∧ Below w.heap.size w w' := by
 have hu27 := Tryz.underlying27
 have HR0_4 := Aside0.mk hr0_4
 have HC0_4 := Aside0.mk hc0_4
 clear hr0_4 hc0_4
 have HR0_5 := Aside0.mk hr0_5
 have HC0_5 := Aside0.mk hc0_5
 clear hr0_5 hc0_5
 have HB := Aside0.mk (Below.refl w.heap.size w)
 have H := h
 clear h
 unfold op_weights.f at H
 by_cases c2 : a0_0 = 0
 ·rw [if_pos c2] at H
  have c2b0 : (a0_0 == 0) = true := beq_iff_eq.mpr c2
  have c2b1 : (a0_0 != 0) = false := bne_eq_false_iff_eq.mpr c2
  clear c2
  replace H := zO H
  obtain ⟨⟨t210, t211⟩, A3, H⟩ := H
  try dsimp only at H
  simp only [Option.some.injEq, Prod.mk.injEq] at H
  obtain ⟨rfl, rfl, rfl⟩ := H
  go_enter Tryz.func39, Tryz.ntmps39
  go_wp2_with (first | ((with_reducible refine gate_dst (N := 1) rfl ?_); refine box_event zR (N := 1) zR (cs := #[.int .i64 a0_0, .int .i64 a0_1, .int .i64 a0_2, .int .i64 a0_3, .slice A0_4 l0_4.length c0_4, .slice A0_5 l0_5.length c0_5, .int .i64 a0_6, .int .i64 a0_7, .int .i64 a0_8]) (t := 27) zG ?_; intro gb209 hg w4 hbox hb; obtain ⟨HB, BK209, GW209, GE209⟩ := zA4 (below_step zB hb) hbox (zg hg zB) (zg hg zB); clear hb hbox hg; obtain ⟨_, _, _, _, _, _, _, _, _⟩ := zC9 BK209.out; obtain ⟨_, _, _, _, _, _, _, _, _⟩ := zF9 BK209.out) | ((with_reducible refine gate_callee (f := 50) rfl ?_); refine goesL_ (some 12) rfl rfl Tryz.func50 (by kernel_rfl) rfl #[.int .i64 a0_2] rfl zL ?_; (with_reducible refine (taps_Gaussian.calls k a0_2 t210 t211 _ A3.out).mono ?_); rintro e w6 ⟨v212, rfl, ho0, hb⟩; refine ⟨_, rfl, ?_⟩; obtain ⟨HO213, BK209, HB⟩ := zA3 (Kd.R_lower (Kd.R_newM (M := fun k_ => (w.heap.size ≤ k_)) ho0 (below_size zB) (fun k_ h_ => h_)) (below_size zB)) (blk_below (zK BK209) hb) (below_step zB hb); (try clear hb); (try clear ho0)))
  go_ret3
  exact ⟨_, _, zS, Kd.R_V (by (with_reducible repeat (first | apply Kd.R_alloc | apply Kd.R_drewN | apply Kd.R_drew)); exact Kd.R_mono HO213.out (fun _ hk => hk.1)), Kd.R_V (by (with_reducible repeat (first | apply Kd.R_alloc | apply Kd.R_drewN | apply Kd.R_drew)); exact Kd.R_mono HO213.out (fun _ hk => hk.1)), zB⟩
 ·rw [if_neg c2] at H
  have c2b0 : (a0_0 == 0) = false := beq_eq_false_iff_ne.mpr c2
  have c2b1 : (a0_0 != 0) = true := bne_iff_ne.mpr c2
  by_cases c7 : a0_0 = 1
  ·rw [if_pos c7] at H
   have c7b0 : (a0_0 == 1) = true := beq_iff_eq.mpr c7
   have c7b1 : (a0_0 != 1) = false := bne_eq_false_iff_eq.mpr c7
   clear c7
   replace H := zO H
   obtain ⟨⟨t214, t215⟩, A8, H⟩ := H
   try dsimp only at H
   simp only [Option.some.injEq, Prod.mk.injEq] at H
   obtain ⟨rfl, rfl, rfl⟩ := H
   go_enter Tryz.func39, Tryz.ntmps39
   go_wp2_with (first | ((with_reducible refine gate_dst (N := 1) rfl ?_); refine box_event zR (N := 1) zR (cs := #[.int .i64 a0_0, .int .i64 a0_1, .int .i64 a0_2, .int .i64 a0_3, .slice A0_4 l0_4.length c0_4, .slice A0_5 l0_5.length c0_5, .int .i64 a0_6, .int .i64 a0_7, .int .i64 a0_8]) (t := 27) zG ?_; intro gb209 hg w9 hbox hb; obtain ⟨HB, BK209, GW209, GE209⟩ := zA4 (below_step zB hb) hbox (zg hg zB) (zg hg zB); clear hb hbox hg; obtain ⟨_, _, _, _, _, _, _, _, _⟩ := zC9 BK209.out; obtain ⟨_, _, _, _, _, _, _, _, _⟩ := zF9 BK209.out) | ((with_reducible refine gate_callee (f := 54) rfl ?_); refine goesL_ (some 23) rfl rfl Tryz.func54 (by kernel_rfl) rfl #[.int .i64 a0_3] rfl zL ?_; (with_reducible refine (taps_Blur.calls k a0_3 t214 t215 _ A8.out).mono ?_); rintro e w11 ⟨v216, rfl, ho0, hb⟩; refine ⟨_, rfl, ?_⟩; obtain ⟨HO217, BK209, HB⟩ := zA3 (Kd.R_lower (Kd.R_newM (M := fun k_ => (w.heap.size ≤ k_)) ho0 (below_size zB) (fun k_ h_ => h_)) (below_size zB)) (blk_below (zK BK209) hb) (below_step zB hb); (try clear hb); (try clear ho0)))
   go_ret3
   exact ⟨_, _, zS, Kd.R_V (by (with_reducible repeat (first | apply Kd.R_alloc | apply Kd.R_drewN | apply Kd.R_drew)); exact Kd.R_mono HO217.out (fun _ hk => hk.1)), Kd.R_V (by (with_reducible repeat (first | apply Kd.R_alloc | apply Kd.R_drewN | apply Kd.R_drew)); exact Kd.R_mono HO217.out (fun _ hk => hk.1)), zB⟩
  ·rw [if_neg c7] at H
   have c7b0 : (a0_0 == 1) = false := beq_eq_false_iff_ne.mpr c7
   have c7b1 : (a0_0 != 1) = true := bne_iff_ne.mpr c7
   replace H := zO H
   obtain ⟨⟨t218, t219⟩, A12, H⟩ := H
   try dsimp only at H
   by_cases c13 : t219 = 0
   ·rw [if_pos c13] at H
    have c13b0 : (t219 == 0) = true := beq_iff_eq.mpr c13
    have c13b1 : (t219 != 0) = false := bne_eq_false_iff_eq.mpr c13
    clear c13
    replace H := zO H
    obtain ⟨⟨t222, t223⟩, A14, H⟩ := H
    try dsimp only at H
    simp only [Option.some.injEq, Prod.mk.injEq] at H
    obtain ⟨rfl, rfl, rfl⟩ := H
    go_enter Tryz.func39, Tryz.ntmps39
    go_wp2_with (first | ((with_reducible refine gate_dst (N := 1) rfl ?_); refine box_event zR (N := 1) zR (cs := #[.int .i64 a0_0, .int .i64 a0_1, .int .i64 a0_2, .int .i64 a0_3, .slice A0_4 l0_4.length c0_4, .slice A0_5 l0_5.length c0_5, .int .i64 a0_6, .int .i64 a0_7, .int .i64 a0_8]) (t := 27) zG ?_; intro gb209 hg w15 hbox hb; obtain ⟨HB, BK209, GW209, GE209⟩ := zA4 (below_step zB hb) hbox (zg hg zB) (zg hg zB); clear hb hbox hg; obtain ⟨_, _, _, _, _, _, _, _, _⟩ := zC9 BK209.out; obtain ⟨_, _, _, _, _, _, _, _, _⟩ := zF9 BK209.out) | ((with_reducible refine gate_callee (f := 55) rfl ?_); refine goesL_ (some 32) rfl rfl Tryz.func55 (by kernel_rfl) rfl #[.slice A0_4 l0_4.length c0_4] rfl zL ?_; (with_reducible refine (taps_User.calls k _ _ l0_4 t218 t219 _ ?side1 ?side2 A12.out).mono ?_); (case side1 => repeat (first | exact (Kd.C_below HR0_4.out HB.out) | (with_reducible refine Kd.C_alloc ?_ _) | (with_reducible refine Kd.C_drewN ?_ _) | (with_reducible refine Kd.C_drew ?_))); (case side2 => exact HC0_4.out); rintro e w17 ⟨v220, rfl, ho0, hb⟩; refine ⟨_, rfl, ?_⟩; obtain ⟨HO221, BK209, HB⟩ := zA3 (Kd.R_lower (Kd.R_newM (M := fun k_ => (w.heap.size ≤ k_)) ho0 (below_size zB) (fun k_ h_ => h_)) (below_size zB)) (blk_below (zK BK209) hb) (below_step zB hb); (try clear hb); (try clear ho0); obtain ⟨_, _, _, _, _, _, _, _, _⟩ := zC9 BK209.out; obtain ⟨_, _, _, _, _, _, _, _, _⟩ := zF9 BK209.out) | ((with_reducible refine gate_callee (f := 55) rfl ?_); refine goesL_ (some 41) rfl rfl Tryz.func55 (by kernel_rfl) rfl #[.slice A0_5 l0_5.length c0_5] rfl zL ?_; (with_reducible refine (taps_User.calls k _ _ l0_5 t222 t223 _ ?side1 ?side2 A14.out).mono ?_); (case side1 => repeat (first | exact (Kd.C_below HR0_5.out HB.out) | (with_reducible refine Kd.C_alloc ?_ _) | (with_reducible refine Kd.C_drewN ?_ _) | (with_reducible refine Kd.C_drew ?_))); (case side2 => exact HC0_5.out); rintro e w19 ⟨v224, rfl, ho0, hb⟩; refine ⟨_, rfl, ?_⟩; obtain ⟨HO221, HO225, BK209, HB⟩ := zA4 (Kd.R_elder' (by (with_reducible repeat (first | apply Kd.R_alloc | apply Kd.R_drewN | apply Kd.R_drew)); exact HO221.out) (Kd.R_base ho0) hb) (Kd.R_lower (Kd.R_new' (Kd.R_newM (M := fun k_ => (w.heap.size ≤ k_)) ho0 (below_size zB) (fun k_ h_ => h_)) (Kd.R_lt (by (with_reducible repeat (first | apply Kd.R_alloc | apply Kd.R_drewN | apply Kd.R_drew)); exact HO221.out))) (below_size zB)) (blk_below (zK BK209) hb) (below_step zB hb); (try clear hb); (try clear ho0)))
    go_ret3
    exact ⟨_, _, zS, Kd.R_V (by (with_reducible repeat (first | apply Kd.R_alloc | apply Kd.R_drewN | apply Kd.R_drew)); exact Kd.R_mono HO221.out (fun _ hk => hk.1.1)), Kd.R_V (by (with_reducible repeat (first | apply Kd.R_alloc | apply Kd.R_drewN | apply Kd.R_drew)); exact Kd.R_mono HO225.out (fun _ hk => hk.1.1)), zB⟩
   ·rw [if_neg c13] at H
    have c13b0 : (t219 == 0) = false := beq_eq_false_iff_ne.mpr c13
    have c13b1 : (t219 != 0) = true := bne_iff_ne.mpr c13
    simp only [Option.some.injEq, Prod.mk.injEq] at H
    obtain ⟨rfl, rfl, rfl⟩ := H
    go_enter Tryz.func39, Tryz.ntmps39
    go_wp2_with (first | ((with_reducible refine gate_dst (N := 1) rfl ?_); refine box_event zR (N := 1) zR (cs := #[.int .i64 a0_0, .int .i64 a0_1, .int .i64 a0_2, .int .i64 a0_3, .slice A0_4 l0_4.length c0_4, .slice A0_5 l0_5.length c0_5, .int .i64 a0_6, .int .i64 a0_7, .int .i64 a0_8]) (t := 27) zG ?_; intro gb209 hg w20 hbox hb; obtain ⟨HB, BK209, GW209, GE209⟩ := zA4 (below_step zB hb) hbox (zg hg zB) (zg hg zB); clear hb hbox hg; obtain ⟨_, _, _, _, _, _, _, _, _⟩ := zC9 BK209.out; obtain ⟨_, _, _, _, _, _, _, _, _⟩ := zF9 BK209.out) | ((with_reducible refine gate_callee (f := 55) rfl ?_); refine goesL_ (some 32) rfl rfl Tryz.func55 (by kernel_rfl) rfl #[.slice A0_4 l0_4.length c0_4] rfl zL ?_; (with_reducible refine (taps_User.calls k _ _ l0_4 t218 t219 _ ?side1 ?side2 A12.out).mono ?_); (case side1 => repeat (first | exact (Kd.C_below HR0_4.out HB.out) | (with_reducible refine Kd.C_alloc ?_ _) | (with_reducible refine Kd.C_drewN ?_ _) | (with_reducible refine Kd.C_drew ?_))); (case side2 => exact HC0_4.out); rintro e w22 ⟨v220, rfl, ho0, hb⟩; refine ⟨_, rfl, ?_⟩; obtain ⟨HO221, BK209, HB⟩ := zA3 (Kd.R_lower (Kd.R_newM (M := fun k_ => (w.heap.size ≤ k_)) ho0 (below_size zB) (fun k_ h_ => h_)) (below_size zB)) (blk_below (zK BK209) hb) (below_step zB hb); (try clear hb); (try clear ho0)))
    go_ret3
    exact ⟨_, _, zS, (by first | exact Kd.V_nil _ _ _ _ _ | exact Kd.R_V (Kd.R_nil _ _ _ 0 _)), (by first | exact Kd.V_nil _ _ _ _ _ | exact Kd.R_V (Kd.R_nil _ _ _ 0 _)), zB⟩
def smaltolaw05_Lives.f (k : Nat)  : Option (Bool) := (raw_Row.f k 0 4 2 1).bind fun bt226 => (if bt226.1 = 2 then (if (bt226.2.length : Int) = 2 then (if 0 < (bt226.2.length : Int) then (if (rd bt226.2 0) = 536870912 then (if 1 < (bt226.2.length : Int) then (if (rd bt226.2 1) = 536870912 then ((raw_Keys.f k 0 1).bind fun t232 => (if t232 = 1073741824 then ((raw_Keys.f k 1 2).bind fun t233 => (some (t233 == 603979776))) else (some false))) else (some false)) else (none)) else (some false)) else (none)) else (some false)) else (some false))
theorem smaltolaw05_Lives.mono : ∀ k, LeO (smaltolaw05_Lives.f k ) (smaltolaw05_Lives.f (k + 1) ) := by
 intro  k
 unfold smaltolaw05_Lives.f
 repeat' (with_reducible first | exact raw_Keys.mono _ _ _ | exact raw_Row.mono _ _ _ _ _ | exact zM | refine LeO.ite ?_ ?_ | refine LeO.bind ?_ (fun _ => ?_))
set_option maxHeartbeats 8000000 in
set_option maxRecDepth 100000 in
theorem smaltolaw05_Lives.calls (k : Nat)  (r : Bool) (w : World) (hG : GL w) (h : smaltolaw05_Lives.f k  = some r) :
  Calls Tryz.prog 31 #[] w fun e w' => e = .returned (.bool r) ∧ Below w.heap.size w w' := by
 have HB := Aside0.mk (Below.refl w.heap.size w)
 have H : ((raw_Row.f k 0 4 2 1).bind fun bt226 => (if bt226.1 = 2 then (if (bt226.2.length : Int) = 2 then (if 0 < (bt226.2.length : Int) then (if (rd bt226.2 0) = 536870912 then (if 1 < (bt226.2.length : Int) then (if (rd bt226.2 1) = 536870912 then ((raw_Keys.f k 0 1).bind fun t232 => (if t232 = 1073741824 then ((raw_Keys.f k 1 2).bind fun t233 => (some (t233 == 603979776))) else (some false))) else (some false)) else (none)) else (some false)) else (none)) else (some false)) else (some false))) = some r := h
 clear h
 replace H := zO H
 obtain ⟨⟨t226, t227⟩, A1, H⟩ := H
 try dsimp only at H
 by_cases c2 : t226 = 2
 ·rw [if_pos c2] at H
  have c2b0 : (t226 == 2) = true := beq_iff_eq.mpr c2
  have c2b1 : (t226 != 2) = false := bne_eq_false_iff_eq.mpr c2
  clear c2
  by_cases c3 : (t227.length : Int) = 2
  ·rw [if_pos c3] at H
   have c3b0 : ((t227.length : Int) == 2) = true := beq_iff_eq.mpr c3
   have c3b1 : ((t227.length : Int) != 2) = false := bne_eq_false_iff_eq.mpr c3
   clear c3
   by_cases c4 : 0 < (t227.length : Int)
   ·rw [if_pos c4] at H
    have c4b0 := decide_eq_true c4
    have c4b1 : decide (0 < t227.length) = true := decide_eq_true (by omega)
    clear c4
    by_cases c5 : (rd t227 0) = 536870912
    ·rw [if_pos c5] at H
     have c5b0 : ((rd t227 0) == 536870912) = true := beq_iff_eq.mpr c5
     have c5b1 : ((rd t227 0) != 536870912) = false := bne_eq_false_iff_eq.mpr c5
     clear c5
     by_cases c6 : 1 < (t227.length : Int)
     ·rw [if_pos c6] at H
      have c6b0 := decide_eq_true c6
      have c6b1 : decide (1 < t227.length) = true := decide_eq_true (by omega)
      clear c6
      by_cases c7 : (rd t227 1) = 536870912
      ·rw [if_pos c7] at H
       have c7b0 : ((rd t227 1) == 536870912) = true := beq_iff_eq.mpr c7
       have c7b1 : ((rd t227 1) != 536870912) = false := bne_eq_false_iff_eq.mpr c7
       clear c7
       replace H := zO H
       obtain ⟨t232, A8, H⟩ := H
       try dsimp only at H
       by_cases c9 : t232 = 1073741824
       ·rw [if_pos c9] at H
        have c9b0 : (t232 == 1073741824) = true := beq_iff_eq.mpr c9
        have c9b1 : (t232 != 1073741824) = false := bne_eq_false_iff_eq.mpr c9
        clear c9
        replace H := zO H
        obtain ⟨t233, A10, H⟩ := H
        try dsimp only at H
        obtain rfl := Option.some.inj H
        go_enter Tryz.func31, Tryz.ntmps31
        go_wp2_with (first | ((with_reducible refine gate_callee (f := 47) rfl ?_); refine goesL_ (some 4) rfl rfl Tryz.func47 (by kernel_rfl) rfl #[.int .i64 0, .int .i64 4, .int .i64 2, .int .i64 1] rfl zL ?_; (with_reducible refine (raw_Row.calls k 0 4 2 1 t226 t227 _ (by exact GL.below hG (by repeat (first | (with_reducible first | exact HB.out | apply below_alloc | apply pw_below_drewN | apply below_drew1) | exact HB.out | exact Below.refl _ _))) A1.out).mono ?_); rintro e w11 ⟨v228, rfl, ho0, hb⟩; refine ⟨_, rfl, ?_⟩; obtain ⟨HO229, HB⟩ := zA2 (Kd.R_lower ho0 (below_size zB)) (below_step zB hb); (try clear hb); (try clear ho0); obtain ⟨Ao12, co12, eo12⟩ := Kd.R_slice HO229.out; subst eo12; have p230 : 0 ≤ (0 : Int) := (by omega); have q230 : 0 < (t227.length : Int) := of_decide_eq_true (by first | (with_reducible assumption) | assumption); obtain ⟨ad230, e230, hx230_0⟩ := Kd.at_int (Kd.R_reads' HO229.out).2.2 0 p230 q230; cases e230; have qi230 : (0 < t227.length) = True := eq_true (by omega); (try rw [show ((0 : Int)).toNat = 0 from rfl] at hx230_0); (try rw [Addr.add_zero'] at hx230_0); replace p230 := eq_true p230; replace q230 := eq_true q230; have p231 : 0 ≤ (1 : Int) := (by omega); have q231 : 1 < (t227.length : Int) := of_decide_eq_true (by first | (with_reducible assumption) | assumption); obtain ⟨ad231, e231, hx231_0⟩ := Kd.at_int (Kd.R_reads' HO229.out).2.2 1 p231 q231; obtain rfl : ad230 = ad231 := (by injection e231); (try simp only [show (1 : Int).toNat = 1 from rfl, Nat.reduceMul, Nat.reduceEqDiff, Go.Addr.add, ↓reduceIte] at hx231_0); have qi231 : (1 < t227.length) = True := eq_true (by omega); (try rw [show ((1 : Int)).toNat = 1 from rfl] at hx231_0); replace p231 := eq_true p231; replace q231 := eq_true q231) | (go_at_call 48; (with_reducible refine (raw_Keys.calls k 0 1 t232 _ A8.out).mono ?_); rintro e w13 ⟨rfl, hb⟩; obtain ⟨HO229, HB⟩ := zA2 (Kd.R_below (by (with_reducible repeat (first | apply Kd.R_alloc | apply Kd.R_drewN | apply Kd.R_drew)); exact HO229.out) hb) (below_step zB hb); (try clear hb)) | (go_at_call 48; (with_reducible refine (raw_Keys.calls k 1 2 t233 _ A10.out).mono ?_); rintro e w14 ⟨rfl, hb⟩; obtain ⟨HO229, HB⟩ := zA2 (Kd.R_below (by (with_reducible repeat (first | apply Kd.R_alloc | apply Kd.R_drewN | apply Kd.R_drew)); exact HO229.out) hb) (below_step zB hb); (try clear hb)))
        go_ret
        exact ⟨zS, zB⟩
       ·rw [if_neg c9] at H
        have c9b0 : (t232 == 1073741824) = false := beq_eq_false_iff_ne.mpr c9
        have c9b1 : (t232 != 1073741824) = true := bne_iff_ne.mpr c9
        obtain rfl := Option.some.inj H
        go_enter Tryz.func31, Tryz.ntmps31
        go_wp2_with (first | ((with_reducible refine gate_callee (f := 47) rfl ?_); refine goesL_ (some 4) rfl rfl Tryz.func47 (by kernel_rfl) rfl #[.int .i64 0, .int .i64 4, .int .i64 2, .int .i64 1] rfl zL ?_; (with_reducible refine (raw_Row.calls k 0 4 2 1 t226 t227 _ (by exact GL.below hG (by repeat (first | (with_reducible first | exact HB.out | apply below_alloc | apply pw_below_drewN | apply below_drew1) | exact HB.out | exact Below.refl _ _))) A1.out).mono ?_); rintro e w15 ⟨v228, rfl, ho0, hb⟩; refine ⟨_, rfl, ?_⟩; obtain ⟨HO229, HB⟩ := zA2 (Kd.R_lower ho0 (below_size zB)) (below_step zB hb); (try clear hb); (try clear ho0); obtain ⟨Ao16, co16, eo16⟩ := Kd.R_slice HO229.out; subst eo16; have p230 : 0 ≤ (0 : Int) := (by omega); have q230 : 0 < (t227.length : Int) := of_decide_eq_true (by first | (with_reducible assumption) | assumption); obtain ⟨ad230, e230, hx230_0⟩ := Kd.at_int (Kd.R_reads' HO229.out).2.2 0 p230 q230; cases e230; have qi230 : (0 < t227.length) = True := eq_true (by omega); (try rw [show ((0 : Int)).toNat = 0 from rfl] at hx230_0); (try rw [Addr.add_zero'] at hx230_0); replace p230 := eq_true p230; replace q230 := eq_true q230; have p231 : 0 ≤ (1 : Int) := (by omega); have q231 : 1 < (t227.length : Int) := of_decide_eq_true (by first | (with_reducible assumption) | assumption); obtain ⟨ad231, e231, hx231_0⟩ := Kd.at_int (Kd.R_reads' HO229.out).2.2 1 p231 q231; obtain rfl : ad230 = ad231 := (by injection e231); (try simp only [show (1 : Int).toNat = 1 from rfl, Nat.reduceMul, Nat.reduceEqDiff, Go.Addr.add, ↓reduceIte] at hx231_0); have qi231 : (1 < t227.length) = True := eq_true (by omega); (try rw [show ((1 : Int)).toNat = 1 from rfl] at hx231_0); replace p231 := eq_true p231; replace q231 := eq_true q231) | (go_at_call 48; (with_reducible refine (raw_Keys.calls k 0 1 t232 _ A8.out).mono ?_); rintro e w17 ⟨rfl, hb⟩; obtain ⟨HO229, HB⟩ := zA2 (Kd.R_below (by (with_reducible repeat (first | apply Kd.R_alloc | apply Kd.R_drewN | apply Kd.R_drew)); exact HO229.out) hb) (below_step zB hb); (try clear hb)))
        go_ret
        exact ⟨zS, zB⟩
      ·rw [if_neg c7] at H
       have c7b0 : ((rd t227 1) == 536870912) = false := beq_eq_false_iff_ne.mpr c7
       have c7b1 : ((rd t227 1) != 536870912) = true := bne_iff_ne.mpr c7
       obtain rfl := Option.some.inj H
       go_enter Tryz.func31, Tryz.ntmps31
       go_wp2_with (first | ((with_reducible refine gate_callee (f := 47) rfl ?_); refine goesL_ (some 4) rfl rfl Tryz.func47 (by kernel_rfl) rfl #[.int .i64 0, .int .i64 4, .int .i64 2, .int .i64 1] rfl zL ?_; (with_reducible refine (raw_Row.calls k 0 4 2 1 t226 t227 _ (by exact GL.below hG (by repeat (first | (with_reducible first | exact HB.out | apply below_alloc | apply pw_below_drewN | apply below_drew1) | exact HB.out | exact Below.refl _ _))) A1.out).mono ?_); rintro e w18 ⟨v228, rfl, ho0, hb⟩; refine ⟨_, rfl, ?_⟩; obtain ⟨HO229, HB⟩ := zA2 (Kd.R_lower ho0 (below_size zB)) (below_step zB hb); (try clear hb); (try clear ho0); obtain ⟨Ao19, co19, eo19⟩ := Kd.R_slice HO229.out; subst eo19; have p230 : 0 ≤ (0 : Int) := (by omega); have q230 : 0 < (t227.length : Int) := of_decide_eq_true (by first | (with_reducible assumption) | assumption); obtain ⟨ad230, e230, hx230_0⟩ := Kd.at_int (Kd.R_reads' HO229.out).2.2 0 p230 q230; cases e230; have qi230 : (0 < t227.length) = True := eq_true (by omega); (try rw [show ((0 : Int)).toNat = 0 from rfl] at hx230_0); (try rw [Addr.add_zero'] at hx230_0); replace p230 := eq_true p230; replace q230 := eq_true q230; have p231 : 0 ≤ (1 : Int) := (by omega); have q231 : 1 < (t227.length : Int) := of_decide_eq_true (by first | (with_reducible assumption) | assumption); obtain ⟨ad231, e231, hx231_0⟩ := Kd.at_int (Kd.R_reads' HO229.out).2.2 1 p231 q231; obtain rfl : ad230 = ad231 := (by injection e231); (try simp only [show (1 : Int).toNat = 1 from rfl, Nat.reduceMul, Nat.reduceEqDiff, Go.Addr.add, ↓reduceIte] at hx231_0); have qi231 : (1 < t227.length) = True := eq_true (by omega); (try rw [show ((1 : Int)).toNat = 1 from rfl] at hx231_0); replace p231 := eq_true p231; replace q231 := eq_true q231))
       go_ret
       exact ⟨zS, zB⟩
     ·rw [if_neg c6] at H
      exact absurd H (by simp)
    ·rw [if_neg c5] at H
     have c5b0 : ((rd t227 0) == 536870912) = false := beq_eq_false_iff_ne.mpr c5
     have c5b1 : ((rd t227 0) != 536870912) = true := bne_iff_ne.mpr c5
     obtain rfl := Option.some.inj H
     go_enter Tryz.func31, Tryz.ntmps31
     go_wp2_with (first | ((with_reducible refine gate_callee (f := 47) rfl ?_); refine goesL_ (some 4) rfl rfl Tryz.func47 (by kernel_rfl) rfl #[.int .i64 0, .int .i64 4, .int .i64 2, .int .i64 1] rfl zL ?_; (with_reducible refine (raw_Row.calls k 0 4 2 1 t226 t227 _ (by exact GL.below hG (by repeat (first | (with_reducible first | exact HB.out | apply below_alloc | apply pw_below_drewN | apply below_drew1) | exact HB.out | exact Below.refl _ _))) A1.out).mono ?_); rintro e w20 ⟨v228, rfl, ho0, hb⟩; refine ⟨_, rfl, ?_⟩; obtain ⟨HO229, HB⟩ := zA2 (Kd.R_lower ho0 (below_size zB)) (below_step zB hb); (try clear hb); (try clear ho0); obtain ⟨Ao21, co21, eo21⟩ := Kd.R_slice HO229.out; subst eo21; have p230 : 0 ≤ (0 : Int) := (by omega); have q230 : 0 < (t227.length : Int) := of_decide_eq_true (by first | (with_reducible assumption) | assumption); obtain ⟨ad230, e230, hx230_0⟩ := Kd.at_int (Kd.R_reads' HO229.out).2.2 0 p230 q230; cases e230; have qi230 : (0 < t227.length) = True := eq_true (by omega); (try rw [show ((0 : Int)).toNat = 0 from rfl] at hx230_0); (try rw [Addr.add_zero'] at hx230_0); replace p230 := eq_true p230; replace q230 := eq_true q230))
     go_ret
     exact ⟨zS, zB⟩
   ·rw [if_neg c4] at H
    exact absurd H (by simp)
  ·rw [if_neg c3] at H
   have c3b0 : ((t227.length : Int) == 2) = false := beq_eq_false_iff_ne.mpr c3
   have c3b1 : ((t227.length : Int) != 2) = true := bne_iff_ne.mpr c3
   obtain rfl := Option.some.inj H
   go_enter Tryz.func31, Tryz.ntmps31
   go_wp2_with (first | ((with_reducible refine gate_callee (f := 47) rfl ?_); refine goesL_ (some 4) rfl rfl Tryz.func47 (by kernel_rfl) rfl #[.int .i64 0, .int .i64 4, .int .i64 2, .int .i64 1] rfl zL ?_; (with_reducible refine (raw_Row.calls k 0 4 2 1 t226 t227 _ (by exact GL.below hG (by repeat (first | (with_reducible first | exact HB.out | apply below_alloc | apply pw_below_drewN | apply below_drew1) | exact HB.out | exact Below.refl _ _))) A1.out).mono ?_); rintro e w22 ⟨v228, rfl, ho0, hb⟩; refine ⟨_, rfl, ?_⟩; obtain ⟨HO229, HB⟩ := zA2 (Kd.R_lower ho0 (below_size zB)) (below_step zB hb); (try clear hb); (try clear ho0); obtain ⟨Ao23, co23, eo23⟩ := Kd.R_slice HO229.out; subst eo23))
   go_ret
   exact ⟨zS, zB⟩
 ·rw [if_neg c2] at H
  have c2b0 : (t226 == 2) = false := beq_eq_false_iff_ne.mpr c2
  have c2b1 : (t226 != 2) = true := bne_iff_ne.mpr c2
  obtain rfl := Option.some.inj H
  go_enter Tryz.func31, Tryz.ntmps31
  go_wp2_with (first | ((with_reducible refine gate_callee (f := 47) rfl ?_); refine goesL_ (some 4) rfl rfl Tryz.func47 (by kernel_rfl) rfl #[.int .i64 0, .int .i64 4, .int .i64 2, .int .i64 1] rfl zL ?_; (with_reducible refine (raw_Row.calls k 0 4 2 1 t226 t227 _ (by exact GL.below hG (by repeat (first | (with_reducible first | exact HB.out | apply below_alloc | apply pw_below_drewN | apply below_drew1) | exact HB.out | exact Below.refl _ _))) A1.out).mono ?_); rintro e w24 ⟨v228, rfl, ho0, hb⟩; refine ⟨_, rfl, ?_⟩; obtain ⟨HO229, HB⟩ := zA2 (Kd.R_lower ho0 (below_size zB)) (below_step zB hb); (try clear hb); (try clear ho0)))
  go_ret
  exact ⟨zS, zB⟩
end Go.Proofs.YtebipmdopdogkaaGreatDoor.QA

namespace Go.Proofs.YtebipmdopdogkaaGreatDoor.QA
open Go.Proofs.YtebipmdopdogkaaGreatDoor.T
open Go.RowKit Go.Proofs.YtebipmdopdogkaaGreatDoorW.PrintWords Go.Proofs.YtebipmdopdogkaaGreatDoorW.PrintLast Go.Proofs.YtebipmdopdogkaaGreatDoorW.PrintMore
attribute [local go_sem] ext_call max2_int min2_int max_two min_two
set_option linter.unusedVariables false
set_option linter.unusedSimpArgs false
def smaltoref06_Same.l0 : Nat → List Int → List Int → Int → Int → Option (Bool)
 | 0, _, _, _, _ => none
 | k + 1, x0, x1, x12, x13 => if x13 < x12 then (if 0 ≤ x13 then (if x13 < (x0.length : Int) then (if x13 < (x1.length : Int) then (if (rd x0 x13) = (rd x1 x13) then (smaltoref06_Same.l0 k x0 x1 x12 (wrap64 (x13 + 1))) else (some false)) else (none)) else (none)) else (none)) else (some true)
def smaltoref06_Same.f (k : Nat) (l0 l1 : List Int) : Option (Bool) := if (l0.length : Int) = (l1.length : Int) then (smaltoref06_Same.l0 k l0 l1 (l0.length : Int) 0) else (some false)
theorem smaltoref06_Same.mono_l : ∀ k, (∀ y0 y1 y2 y3, LeO (smaltoref06_Same.l0 k y0 y1 y2 y3) (smaltoref06_Same.l0 (k + 1) y0 y1 y2 y3))
 | 0 => fun _ _ _ _ r h => by simp [smaltoref06_Same.l0] at h
 | k + 1 => by
  have ih0 := smaltoref06_Same.mono_l k
  ·intro y0 y1 y2 y3
   unfold smaltoref06_Same.l0
   repeat' (with_reducible first | exact ih0 _ _ _ _ | exact zM | refine LeO.ite ?_ ?_ | refine LeO.bind ?_ (fun _ => ?_))
theorem smaltoref06_Same.mono : ∀ a0 a1 k, LeO (smaltoref06_Same.f k a0 a1) (smaltoref06_Same.f (k + 1) a0 a1) := by
 intro a0 a1 k
 have ih0 := smaltoref06_Same.mono_l k
 unfold smaltoref06_Same.f
 repeat' (with_reducible first | exact ih0 _ _ _ _ | exact zM | refine LeO.ite ?_ ?_ | refine LeO.bind ?_ (fun _ => ?_))
set_option maxHeartbeats 8000000 in
set_option maxRecDepth 100000 in
theorem smaltoref06_Same.calls (k : Nat) (A0 : Option Addr) (c0 : Nat) (l0 : List Int) (A1 : Option Addr) (c1 : Nat) (l1 : List Int) (r : Bool) (w : World) (hr0 : Kd.C (Kd.int .i64) w A0 l0.length l0) (hc0 : l0.length ≤ c0) (hr1 : Kd.C (Kd.int .i64) w A1 l1.length l1) (hc1 : l1.length ≤ c1) (h : smaltoref06_Same.f k l0 l1 = some r) :
  Calls Tryz.prog 36 #[.slice A0 l0.length c0, .slice A1 l1.length c1] w fun e w' => e = .returned (.bool r) ∧ Drawn0 w w' := by
 have HR0 := Aside0.mk hr0
 have HC0 := Aside0.mk hc0
 clear hr0 hc0
 have HR1 := Aside0.mk hr1
 have HC1 := Aside0.mk hc1
 clear hr1 hc1
 have H := h
 clear h
 unfold smaltoref06_Same.f at H
 by_cases c3 : (l0.length : Int) = (l1.length : Int)
 ·rw [if_pos c3] at H
  have c3b0 : ((l0.length : Int) == (l1.length : Int)) = true := beq_iff_eq.mpr c3
  have c3b1 : ((l0.length : Int) != (l1.length : Int)) = false := bne_eq_false_iff_eq.mpr c3
  have c3b2 : (l0.length == l1.length) = true := by first | simpa using c3 | (simp at c3 ⊢; omega)
  clear c3
  have H' := Aside0.mk H
  clear H
  go_enter Tryz.func36, Tryz.ntmps36
  go_wp2
  repeat (go_quiet (fail); try go_wp2)
  go_loopg [13] k (fun kq v13 w' => ∃ (x13_1 : Int), v13 = .int .i64 x13_1 ∧ Aside0 (smaltoref06_Same.l0 kq l0 l1 (l0.length : Int) x13_1 = some r) ∧ Aside0 (kq ≤ k) ∧ Drawn0 w w')
  case atStart => exact ⟨(0), zT, H', ⟨Nat.le_refl _⟩, zW⟩
  case round =>
   clear H'
   obtain ⟨x13_1, rfl, HA, HK1, ⟨m1, rfl⟩⟩ := hrel
   cases gk with
   | zero => exact absurd HA.out (by simp [smaltoref06_Same.l0])
   | succ k1 =>
    have H := HA.out
    clear HA
    simp only [smaltoref06_Same.l0] at H
    by_cases c4 : x13_1 < (l0.length : Int)
    ·rw [if_pos c4] at H
     have c4b0 := decide_eq_true c4
     clear c4
     by_cases c5 : 0 ≤ x13_1
     ·rw [if_pos c5] at H
      have c5b0 := decide_eq_true c5
      clear c5
      by_cases c6 : x13_1 < (l0.length : Int)
      ·rw [if_pos c6] at H
       have c6b0 := decide_eq_true c6
       clear c6
       by_cases c7 : x13_1 < (l1.length : Int)
       ·rw [if_pos c7] at H
        have c7b0 := decide_eq_true c7
        clear c7
        by_cases c8 : (rd l0 x13_1) = (rd l1 x13_1)
        ·rw [if_pos c8] at H
         have c8b0 : ((rd l0 x13_1) == (rd l1 x13_1)) = true := beq_iff_eq.mpr c8
         have c8b1 : ((rd l0 x13_1) != (rd l1 x13_1)) = false := bne_eq_false_iff_eq.mpr c8
         clear c8
         have H' := Aside0.mk H
         clear H
         have p234 : 0 ≤ (x13_1 : Int) := of_decide_eq_true (by first | (with_reducible assumption) | assumption)
         have q234 : x13_1 < (l0.length : Int) := of_decide_eq_true (by first | (with_reducible assumption) | assumption)
         obtain ⟨ad234, e234, hx234_0⟩ := Kd.at_int HR0.out x13_1 p234 q234
         cases e234
         replace p234 := eq_true p234
         replace q234 := eq_true q234
         have p235 : 0 ≤ (x13_1 : Int) := of_decide_eq_true (by first | (with_reducible assumption) | assumption)
         have q235 : x13_1 < (l1.length : Int) := of_decide_eq_true (by first | (with_reducible assumption) | assumption)
         obtain ⟨ad235, e235, hx235_0⟩ := Kd.at_int HR1.out x13_1 p235 q235
         cases e235
         replace p235 := eq_true p235
         replace q235 := eq_true q235
         go_wp2
         repeat (go_quiet (fail); try go_wp2)
         go_roundg k1
         case measure => have := HK1.out; omega
         case rel => exact ⟨(wrap64 (x13_1 + 1)), zT, H', ⟨by have := HK1.out; omega⟩, zW⟩
        ·rw [if_neg c8] at H
         have c8b0 : ((rd l0 x13_1) == (rd l1 x13_1)) = false := beq_eq_false_iff_ne.mpr c8
         have c8b1 : ((rd l0 x13_1) != (rd l1 x13_1)) = true := bne_iff_ne.mpr c8
         obtain rfl := Option.some.inj H
         have p234 : 0 ≤ (x13_1 : Int) := of_decide_eq_true (by first | (with_reducible assumption) | assumption)
         have q234 : x13_1 < (l0.length : Int) := of_decide_eq_true (by first | (with_reducible assumption) | assumption)
         obtain ⟨ad234, e234, hx234_0⟩ := Kd.at_int HR0.out x13_1 p234 q234
         cases e234
         replace p234 := eq_true p234
         replace q234 := eq_true q234
         have p235 : 0 ≤ (x13_1 : Int) := of_decide_eq_true (by first | (with_reducible assumption) | assumption)
         have q235 : x13_1 < (l1.length : Int) := of_decide_eq_true (by first | (with_reducible assumption) | assumption)
         obtain ⟨ad235, e235, hx235_0⟩ := Kd.at_int HR1.out x13_1 p235 q235
         cases e235
         replace p235 := eq_true p235
         replace q235 := eq_true q235
         go_wp2
         repeat (go_quiet (fail); try go_wp2)
         go_ret
         exact ⟨zT, zW⟩
       ·rw [if_neg c7] at H
        exact absurd H (by simp)
      ·rw [if_neg c6] at H
       exact absurd H (by simp)
     ·rw [if_neg c5] at H
      exact absurd H (by simp)
    ·rw [if_neg c4] at H
     have c4b0 := decide_eq_false c4
     clear c4
     obtain rfl := Option.some.inj H
     go_wp2
     repeat (go_quiet (fail); try go_wp2)
     go_ret
     exact ⟨zT, zW⟩
 ·rw [if_neg c3] at H
  have c3b0 : ((l0.length : Int) == (l1.length : Int)) = false := beq_eq_false_iff_ne.mpr c3
  have c3b1 : ((l0.length : Int) != (l1.length : Int)) = true := bne_iff_ne.mpr c3
  have c3b2 : (l0.length == l1.length) = false := by first | simpa using c3 | (simp at c3 ⊢; omega)
  obtain rfl := Option.some.inj H
  go_enter Tryz.func36, Tryz.ntmps36
  go_wp2
  repeat (go_quiet (fail); try go_wp2)
  go_ret
  exact ⟨zT, zW⟩
def smaltolaw06_Lives.f (k : Nat)  : Option (Bool) := (taps_Apportion.f (([536870912, 536870912, 536870912] : List Int))).bind fun bt239 => ((taps_Gaussian.f k 65536).bind fun bt243 => (if bt239.2 = 0 then ((smaltoref06_Same.f k bt239.1 (([5462, 5461, 5461] : List Int))).bind fun t250 => (if t250 = true then (if bt243.2 = 0 then (some ((bt243.1.length : Int) == 7)) else (some false)) else (some false))) else (some false)))
theorem smaltolaw06_Lives.mono : ∀ k, LeO (smaltolaw06_Lives.f k ) (smaltolaw06_Lives.f (k + 1) ) := by
 intro  k
 unfold smaltolaw06_Lives.f
 repeat' (with_reducible first | exact smaltoref06_Same.mono _ _ _ | exact taps_Gaussian.mono _ _ | exact zM | refine LeO.ite ?_ ?_ | refine LeO.bind ?_ (fun _ => ?_))
set_option maxHeartbeats 8000000 in
set_option maxRecDepth 100000 in
theorem smaltolaw06_Lives.calls (k : Nat)  (r : Bool) (w : World) (h : smaltolaw06_Lives.f k  = some r) :
  Calls Tryz.prog 32 #[] w fun e w' => e = .returned (.bool r) ∧ Below w.heap.size w w' := by
 have HB := Aside0.mk (Below.refl w.heap.size w)
 have H : ((taps_Apportion.f (([536870912, 536870912, 536870912] : List Int))).bind fun bt239 => ((taps_Gaussian.f k 65536).bind fun bt243 => (if bt239.2 = 0 then ((smaltoref06_Same.f k bt239.1 (([5462, 5461, 5461] : List Int))).bind fun t250 => (if t250 = true then (if bt243.2 = 0 then (some ((bt243.1.length : Int) == 7)) else (some false)) else (some false))) else (some false)))) = some r := h
 clear h
 obtain ⟨y236, hy236⟩ : ∃ y_ : List Int, y_ = (([536870912, 536870912, 536870912] : List Int)) := ⟨_, rfl⟩
 replace H : ((taps_Apportion.f y236).bind fun bt239 => ((taps_Gaussian.f k 65536).bind fun bt243 => (if bt239.2 = 0 then ((smaltoref06_Same.f k bt239.1 (([5462, 5461, 5461] : List Int))).bind fun t250 => (if t250 = true then (if bt243.2 = 0 then (some ((bt243.1.length : Int) == 7)) else (some false)) else (some false))) else (some false)))) = some r := by first | (rw [hy236]; with_reducible exact H) | (have H2_ := (Option.bind_some _ _).symm.trans H; rw [hy236]; with_reducible exact H2_) | (have H2_ := (Option.bind_some _ _).symm.trans H; with_reducible exact H2_) | with_reducible exact H | (rw [hy236]; exact H) | exact H
 have Ny236 := Aside0.mk hy236
 clear hy236
 replace H := zO H
 obtain ⟨⟨t239, t240⟩, A1, H⟩ := H
 try dsimp only at H
 replace H := zO H
 obtain ⟨⟨t243, t244⟩, A2, H⟩ := H
 try dsimp only at H
 by_cases c3 : t240 = 0
 ·rw [if_pos c3] at H
  have c3b0 : (t240 == 0) = true := beq_iff_eq.mpr c3
  have c3b1 : (t240 != 0) = false := bne_eq_false_iff_eq.mpr c3
  clear c3
  obtain ⟨y247, hy247⟩ : ∃ y_ : List Int, y_ = (([5462, 5461, 5461] : List Int)) := ⟨_, rfl⟩
  replace H : ((smaltoref06_Same.f k t239 y247).bind fun t250 => (if t250 = true then (if t244 = 0 then (some ((t243.length : Int) == 7)) else (some false)) else (some false))) = some r := by first | (rw [hy247]; with_reducible exact H) | (have H2_ := (Option.bind_some _ _).symm.trans H; rw [hy247]; with_reducible exact H2_) | (have H2_ := (Option.bind_some _ _).symm.trans H; with_reducible exact H2_) | with_reducible exact H | (rw [hy247]; exact H) | exact H
  have Ny247 := Aside0.mk hy247
  clear hy247
  replace H := zO H
  obtain ⟨t250, A4, H⟩ := H
  try dsimp only at H
  by_cases c5 : t250 = true
  ·subst c5
   rw [if_pos rfl] at H; try dsimp only at H
   by_cases c6 : t244 = 0
   ·rw [if_pos c6] at H
    have c6b0 : (t244 == 0) = true := beq_iff_eq.mpr c6
    have c6b1 : (t244 != 0) = false := bne_eq_false_iff_eq.mpr c6
    clear c6
    obtain rfl := Option.some.inj H
    go_enter Tryz.func32, Tryz.ntmps32
    go_wp2_with (first | ((with_reducible refine gate_dst (N := 6) rfl ?_); (try (refine gate_guard (by rfl) ?_; dsimp only)); refine Kd.R_lit (Kd.int .i64) _ 2 ?hg (N := 6) ?hd (xs := ([536870912, 536870912, 536870912] : List Int)) (inner := [.int .i64 536870912, .int .i64 536870912, .int .i64 536870912]) (ok := fun _ => True) (okp := fun _ => True) ?hr ?hp (fun _ hk => hk) trivial (Below.refl _ _) (Nat.le_refl _) (by simp) ?_; (case hd => rfl); (case hg => rfl); (case hr => first | (go_simp; done) | (go_simp; rfl)); (case hp => exact (Reps.one (show Kd.M (Kd.int .i64) _ _ _ 536870912 [.int .i64 536870912] from rfl) (Reps.one (show Kd.M (Kd.int .i64) _ _ _ 536870912 [.int .i64 536870912] from rfl) (Reps.one (show Kd.M (Kd.int .i64) _ _ _ 536870912 [.int .i64 536870912] from rfl) (Reps.none _ _))))); intro v237 w7 ho8 hb hg_ hnew_; clear hg_ hnew_; (first | rw [← Ny236.out] at ho8 | (simp only [Int.reduceToNat] at ho8; rw [← Ny236.out] at ho8)); obtain ⟨HO238, HB⟩ := zA2 (Kd.R_lower ho8 (below_size zB)) (below_step zB hb); clear hb ho8; obtain ⟨Ao9, co9, eo9⟩ := Kd.R_slice HO238.out; subst eo9) | ((with_reducible refine gate_callee (f := 49) rfl ?_); refine goesL_ (some 7) rfl rfl Tryz.func49 (by kernel_rfl) rfl #[.slice Ao9 y236.length co9] rfl zL ?_; (with_reducible refine (taps_Apportion.calls _ _ y236 t239 t240 _ ?side1 ?side2 A1.out).mono ?_); (case side1 => repeat (first | exact (Kd.R_reads' HO238.out).2.2 | (with_reducible refine Kd.C_alloc ?_ _) | (with_reducible refine Kd.C_drewN ?_ _) | (with_reducible refine Kd.C_drew ?_))); (case side2 => exact (Kd.R_reads' HO238.out).2.1); rintro e w10 ⟨v241, rfl, ho0, hb⟩; refine ⟨_, rfl, ?_⟩; obtain ⟨HO238, HO242, HB⟩ := zA3 (Kd.R_elder' (by (with_reducible repeat (first | apply Kd.R_alloc | apply Kd.R_drewN | apply Kd.R_drew)); exact HO238.out) (Kd.R_base ho0) hb) (Kd.R_lower (Kd.R_new' ho0 (Kd.R_lt (by (with_reducible repeat (first | apply Kd.R_alloc | apply Kd.R_drewN | apply Kd.R_drew)); exact HO238.out))) (below_size zB)) (below_step zB hb); (try clear hb); (try clear ho0)) | ((with_reducible refine gate_callee (f := 50) rfl ?_); refine goesL_ (some 11) rfl rfl Tryz.func50 (by kernel_rfl) rfl #[.int .i64 65536] rfl zL ?_; (with_reducible refine (taps_Gaussian.calls k 65536 t243 t244 _ A2.out).mono ?_); rintro e w11 ⟨v245, rfl, ho0, hb⟩; refine ⟨_, rfl, ?_⟩; obtain ⟨HO238, HO242, HO246, HB⟩ := zA4 (Kd.R_elder' (by (with_reducible repeat (first | apply Kd.R_alloc | apply Kd.R_drewN | apply Kd.R_drew)); exact HO238.out) (Kd.R_base ho0) hb) (Kd.R_elder' (by (with_reducible repeat (first | apply Kd.R_alloc | apply Kd.R_drewN | apply Kd.R_drew)); exact HO242.out) (Kd.R_base ho0) hb) (Kd.R_lower (Kd.R_new' (Kd.R_new' ho0 (Kd.R_lt (by (with_reducible repeat (first | apply Kd.R_alloc | apply Kd.R_drewN | apply Kd.R_drew)); exact HO238.out))) (Kd.R_lt (by (with_reducible repeat (first | apply Kd.R_alloc | apply Kd.R_drewN | apply Kd.R_drew)); exact HO242.out))) (below_size zB)) (below_step zB hb); (try clear hb); (try clear ho0)) | ((with_reducible refine gate_dst (N := 18) rfl ?_); (try (refine gate_guard (by rfl) ?_; dsimp only)); refine Kd.R_lit (Kd.int .i64) _ 2 ?hg (N := 18) ?hd (xs := ([5462, 5461, 5461] : List Int)) (inner := [.int .i64 5462, .int .i64 5461, .int .i64 5461]) (ok := fun _ => True) (okp := fun _ => True) ?hr ?hp (fun _ hk => hk) trivial (Below.refl _ _) (Nat.le_refl _) (by simp) ?_; (case hd => rfl); (case hg => rfl); (case hr => first | (go_simp; done) | (go_simp; rfl)); (case hp => exact (Reps.one (show Kd.M (Kd.int .i64) _ _ _ 5462 [.int .i64 5462] from rfl) (Reps.one (show Kd.M (Kd.int .i64) _ _ _ 5461 [.int .i64 5461] from rfl) (Reps.one (show Kd.M (Kd.int .i64) _ _ _ 5461 [.int .i64 5461] from rfl) (Reps.none _ _))))); intro v248 w12 ho13 hb hg_ hnew_; clear hg_ hnew_; (first | rw [← Ny247.out] at ho13 | (simp only [Int.reduceToNat] at ho13; rw [← Ny247.out] at ho13)); obtain ⟨HO238, HO242, HO246, HO249, HB⟩ := zA5 (Kd.R_elder' (by (with_reducible repeat (first | apply Kd.R_alloc | apply Kd.R_drewN | apply Kd.R_drew)); exact HO238.out) (Kd.R_base ho13) hb) (Kd.R_elder' (by (with_reducible repeat (first | apply Kd.R_alloc | apply Kd.R_drewN | apply Kd.R_drew)); exact HO242.out) (Kd.R_base ho13) hb) (Kd.R_elder' (by (with_reducible repeat (first | apply Kd.R_alloc | apply Kd.R_drewN | apply Kd.R_drew)); exact HO246.out) (Kd.R_base ho13) hb) (Kd.R_lower (Kd.R_new' (Kd.R_new' (Kd.R_new' ho13 (Kd.R_lt (by (with_reducible repeat (first | apply Kd.R_alloc | apply Kd.R_drewN | apply Kd.R_drew)); exact HO238.out))) (Kd.R_lt (by (with_reducible repeat (first | apply Kd.R_alloc | apply Kd.R_drewN | apply Kd.R_drew)); exact HO242.out))) (Kd.R_lt (by (with_reducible repeat (first | apply Kd.R_alloc | apply Kd.R_drewN | apply Kd.R_drew)); exact HO246.out))) (below_size zB)) (below_step zB hb); clear hb ho13; obtain ⟨Ao14, co14, eo14⟩ := Kd.R_slice HO242.out; subst eo14; obtain ⟨Ao15, co15, eo15⟩ := Kd.R_slice HO249.out; subst eo15) | (go_at_call 36; (with_reducible refine (smaltoref06_Same.calls k _ _ t239 _ _ y247 true _ ?side1 ?side2 ?side3 ?side4 A4.out).mono ?_); (case side1 => repeat (first | exact (Kd.R_reads' HO242.out).2.2 | (with_reducible refine Kd.C_alloc ?_ _) | (with_reducible refine Kd.C_drewN ?_ _) | (with_reducible refine Kd.C_drew ?_))); (case side2 => exact (Kd.R_reads' HO242.out).2.1); (case side3 => repeat (first | exact (Kd.R_reads' HO249.out).2.2 | (with_reducible refine Kd.C_alloc ?_ _) | (with_reducible refine Kd.C_drewN ?_ _) | (with_reducible refine Kd.C_drew ?_))); (case side4 => exact (Kd.R_reads' HO249.out).2.1); rintro e w' ⟨rfl, ⟨nd, rfl⟩⟩; obtain ⟨Ao16, co16, eo16⟩ := Kd.R_slice HO246.out; subst eo16))
    go_ret
    exact ⟨zS, zB⟩
   ·rw [if_neg c6] at H
    have c6b0 : (t244 == 0) = false := beq_eq_false_iff_ne.mpr c6
    have c6b1 : (t244 != 0) = true := bne_iff_ne.mpr c6
    obtain rfl := Option.some.inj H
    go_enter Tryz.func32, Tryz.ntmps32
    go_wp2_with (first | ((with_reducible refine gate_dst (N := 6) rfl ?_); (try (refine gate_guard (by rfl) ?_; dsimp only)); refine Kd.R_lit (Kd.int .i64) _ 2 ?hg (N := 6) ?hd (xs := ([536870912, 536870912, 536870912] : List Int)) (inner := [.int .i64 536870912, .int .i64 536870912, .int .i64 536870912]) (ok := fun _ => True) (okp := fun _ => True) ?hr ?hp (fun _ hk => hk) trivial (Below.refl _ _) (Nat.le_refl _) (by simp) ?_; (case hd => rfl); (case hg => rfl); (case hr => first | (go_simp; done) | (go_simp; rfl)); (case hp => exact (Reps.one (show Kd.M (Kd.int .i64) _ _ _ 536870912 [.int .i64 536870912] from rfl) (Reps.one (show Kd.M (Kd.int .i64) _ _ _ 536870912 [.int .i64 536870912] from rfl) (Reps.one (show Kd.M (Kd.int .i64) _ _ _ 536870912 [.int .i64 536870912] from rfl) (Reps.none _ _))))); intro v237 w17 ho18 hb hg_ hnew_; clear hg_ hnew_; (first | rw [← Ny236.out] at ho18 | (simp only [Int.reduceToNat] at ho18; rw [← Ny236.out] at ho18)); obtain ⟨HO238, HB⟩ := zA2 (Kd.R_lower ho18 (below_size zB)) (below_step zB hb); clear hb ho18; obtain ⟨Ao19, co19, eo19⟩ := Kd.R_slice HO238.out; subst eo19) | ((with_reducible refine gate_callee (f := 49) rfl ?_); refine goesL_ (some 7) rfl rfl Tryz.func49 (by kernel_rfl) rfl #[.slice Ao19 y236.length co19] rfl zL ?_; (with_reducible refine (taps_Apportion.calls _ _ y236 t239 t240 _ ?side1 ?side2 A1.out).mono ?_); (case side1 => repeat (first | exact (Kd.R_reads' HO238.out).2.2 | (with_reducible refine Kd.C_alloc ?_ _) | (with_reducible refine Kd.C_drewN ?_ _) | (with_reducible refine Kd.C_drew ?_))); (case side2 => exact (Kd.R_reads' HO238.out).2.1); rintro e w20 ⟨v241, rfl, ho0, hb⟩; refine ⟨_, rfl, ?_⟩; obtain ⟨HO238, HO242, HB⟩ := zA3 (Kd.R_elder' (by (with_reducible repeat (first | apply Kd.R_alloc | apply Kd.R_drewN | apply Kd.R_drew)); exact HO238.out) (Kd.R_base ho0) hb) (Kd.R_lower (Kd.R_new' ho0 (Kd.R_lt (by (with_reducible repeat (first | apply Kd.R_alloc | apply Kd.R_drewN | apply Kd.R_drew)); exact HO238.out))) (below_size zB)) (below_step zB hb); (try clear hb); (try clear ho0)) | ((with_reducible refine gate_callee (f := 50) rfl ?_); refine goesL_ (some 11) rfl rfl Tryz.func50 (by kernel_rfl) rfl #[.int .i64 65536] rfl zL ?_; (with_reducible refine (taps_Gaussian.calls k 65536 t243 t244 _ A2.out).mono ?_); rintro e w21 ⟨v245, rfl, ho0, hb⟩; refine ⟨_, rfl, ?_⟩; obtain ⟨HO238, HO242, HO246, HB⟩ := zA4 (Kd.R_elder' (by (with_reducible repeat (first | apply Kd.R_alloc | apply Kd.R_drewN | apply Kd.R_drew)); exact HO238.out) (Kd.R_base ho0) hb) (Kd.R_elder' (by (with_reducible repeat (first | apply Kd.R_alloc | apply Kd.R_drewN | apply Kd.R_drew)); exact HO242.out) (Kd.R_base ho0) hb) (Kd.R_lower (Kd.R_new' (Kd.R_new' ho0 (Kd.R_lt (by (with_reducible repeat (first | apply Kd.R_alloc | apply Kd.R_drewN | apply Kd.R_drew)); exact HO238.out))) (Kd.R_lt (by (with_reducible repeat (first | apply Kd.R_alloc | apply Kd.R_drewN | apply Kd.R_drew)); exact HO242.out))) (below_size zB)) (below_step zB hb); (try clear hb); (try clear ho0)) | ((with_reducible refine gate_dst (N := 18) rfl ?_); (try (refine gate_guard (by rfl) ?_; dsimp only)); refine Kd.R_lit (Kd.int .i64) _ 2 ?hg (N := 18) ?hd (xs := ([5462, 5461, 5461] : List Int)) (inner := [.int .i64 5462, .int .i64 5461, .int .i64 5461]) (ok := fun _ => True) (okp := fun _ => True) ?hr ?hp (fun _ hk => hk) trivial (Below.refl _ _) (Nat.le_refl _) (by simp) ?_; (case hd => rfl); (case hg => rfl); (case hr => first | (go_simp; done) | (go_simp; rfl)); (case hp => exact (Reps.one (show Kd.M (Kd.int .i64) _ _ _ 5462 [.int .i64 5462] from rfl) (Reps.one (show Kd.M (Kd.int .i64) _ _ _ 5461 [.int .i64 5461] from rfl) (Reps.one (show Kd.M (Kd.int .i64) _ _ _ 5461 [.int .i64 5461] from rfl) (Reps.none _ _))))); intro v248 w22 ho23 hb hg_ hnew_; clear hg_ hnew_; (first | rw [← Ny247.out] at ho23 | (simp only [Int.reduceToNat] at ho23; rw [← Ny247.out] at ho23)); obtain ⟨HO238, HO242, HO246, HO249, HB⟩ := zA5 (Kd.R_elder' (by (with_reducible repeat (first | apply Kd.R_alloc | apply Kd.R_drewN | apply Kd.R_drew)); exact HO238.out) (Kd.R_base ho23) hb) (Kd.R_elder' (by (with_reducible repeat (first | apply Kd.R_alloc | apply Kd.R_drewN | apply Kd.R_drew)); exact HO242.out) (Kd.R_base ho23) hb) (Kd.R_elder' (by (with_reducible repeat (first | apply Kd.R_alloc | apply Kd.R_drewN | apply Kd.R_drew)); exact HO246.out) (Kd.R_base ho23) hb) (Kd.R_lower (Kd.R_new' (Kd.R_new' (Kd.R_new' ho23 (Kd.R_lt (by (with_reducible repeat (first | apply Kd.R_alloc | apply Kd.R_drewN | apply Kd.R_drew)); exact HO238.out))) (Kd.R_lt (by (with_reducible repeat (first | apply Kd.R_alloc | apply Kd.R_drewN | apply Kd.R_drew)); exact HO242.out))) (Kd.R_lt (by (with_reducible repeat (first | apply Kd.R_alloc | apply Kd.R_drewN | apply Kd.R_drew)); exact HO246.out))) (below_size zB)) (below_step zB hb); clear hb ho23; obtain ⟨Ao24, co24, eo24⟩ := Kd.R_slice HO242.out; subst eo24; obtain ⟨Ao25, co25, eo25⟩ := Kd.R_slice HO249.out; subst eo25) | (go_at_call 36; (with_reducible refine (smaltoref06_Same.calls k _ _ t239 _ _ y247 true _ ?side1 ?side2 ?side3 ?side4 A4.out).mono ?_); (case side1 => repeat (first | exact (Kd.R_reads' HO242.out).2.2 | (with_reducible refine Kd.C_alloc ?_ _) | (with_reducible refine Kd.C_drewN ?_ _) | (with_reducible refine Kd.C_drew ?_))); (case side2 => exact (Kd.R_reads' HO242.out).2.1); (case side3 => repeat (first | exact (Kd.R_reads' HO249.out).2.2 | (with_reducible refine Kd.C_alloc ?_ _) | (with_reducible refine Kd.C_drewN ?_ _) | (with_reducible refine Kd.C_drew ?_))); (case side4 => exact (Kd.R_reads' HO249.out).2.1); rintro e w' ⟨rfl, ⟨nd, rfl⟩⟩))
    go_ret
    exact ⟨zS, zB⟩
  ·replace c5 := Bool.eq_false_iff.mpr c5
   subst c5
   rw [if_neg (show ¬ (false = true) by decide)] at H; try dsimp only at H
   obtain rfl := Option.some.inj H
   go_enter Tryz.func32, Tryz.ntmps32
   go_wp2_with (first | ((with_reducible refine gate_dst (N := 6) rfl ?_); (try (refine gate_guard (by rfl) ?_; dsimp only)); refine Kd.R_lit (Kd.int .i64) _ 2 ?hg (N := 6) ?hd (xs := ([536870912, 536870912, 536870912] : List Int)) (inner := [.int .i64 536870912, .int .i64 536870912, .int .i64 536870912]) (ok := fun _ => True) (okp := fun _ => True) ?hr ?hp (fun _ hk => hk) trivial (Below.refl _ _) (Nat.le_refl _) (by simp) ?_; (case hd => rfl); (case hg => rfl); (case hr => first | (go_simp; done) | (go_simp; rfl)); (case hp => exact (Reps.one (show Kd.M (Kd.int .i64) _ _ _ 536870912 [.int .i64 536870912] from rfl) (Reps.one (show Kd.M (Kd.int .i64) _ _ _ 536870912 [.int .i64 536870912] from rfl) (Reps.one (show Kd.M (Kd.int .i64) _ _ _ 536870912 [.int .i64 536870912] from rfl) (Reps.none _ _))))); intro v237 w26 ho27 hb hg_ hnew_; clear hg_ hnew_; (first | rw [← Ny236.out] at ho27 | (simp only [Int.reduceToNat] at ho27; rw [← Ny236.out] at ho27)); obtain ⟨HO238, HB⟩ := zA2 (Kd.R_lower ho27 (below_size zB)) (below_step zB hb); clear hb ho27; obtain ⟨Ao28, co28, eo28⟩ := Kd.R_slice HO238.out; subst eo28) | ((with_reducible refine gate_callee (f := 49) rfl ?_); refine goesL_ (some 7) rfl rfl Tryz.func49 (by kernel_rfl) rfl #[.slice Ao28 y236.length co28] rfl zL ?_; (with_reducible refine (taps_Apportion.calls _ _ y236 t239 t240 _ ?side1 ?side2 A1.out).mono ?_); (case side1 => repeat (first | exact (Kd.R_reads' HO238.out).2.2 | (with_reducible refine Kd.C_alloc ?_ _) | (with_reducible refine Kd.C_drewN ?_ _) | (with_reducible refine Kd.C_drew ?_))); (case side2 => exact (Kd.R_reads' HO238.out).2.1); rintro e w29 ⟨v241, rfl, ho0, hb⟩; refine ⟨_, rfl, ?_⟩; obtain ⟨HO238, HO242, HB⟩ := zA3 (Kd.R_elder' (by (with_reducible repeat (first | apply Kd.R_alloc | apply Kd.R_drewN | apply Kd.R_drew)); exact HO238.out) (Kd.R_base ho0) hb) (Kd.R_lower (Kd.R_new' ho0 (Kd.R_lt (by (with_reducible repeat (first | apply Kd.R_alloc | apply Kd.R_drewN | apply Kd.R_drew)); exact HO238.out))) (below_size zB)) (below_step zB hb); (try clear hb); (try clear ho0)) | ((with_reducible refine gate_callee (f := 50) rfl ?_); refine goesL_ (some 11) rfl rfl Tryz.func50 (by kernel_rfl) rfl #[.int .i64 65536] rfl zL ?_; (with_reducible refine (taps_Gaussian.calls k 65536 t243 t244 _ A2.out).mono ?_); rintro e w30 ⟨v245, rfl, ho0, hb⟩; refine ⟨_, rfl, ?_⟩; obtain ⟨HO238, HO242, HO246, HB⟩ := zA4 (Kd.R_elder' (by (with_reducible repeat (first | apply Kd.R_alloc | apply Kd.R_drewN | apply Kd.R_drew)); exact HO238.out) (Kd.R_base ho0) hb) (Kd.R_elder' (by (with_reducible repeat (first | apply Kd.R_alloc | apply Kd.R_drewN | apply Kd.R_drew)); exact HO242.out) (Kd.R_base ho0) hb) (Kd.R_lower (Kd.R_new' (Kd.R_new' ho0 (Kd.R_lt (by (with_reducible repeat (first | apply Kd.R_alloc | apply Kd.R_drewN | apply Kd.R_drew)); exact HO238.out))) (Kd.R_lt (by (with_reducible repeat (first | apply Kd.R_alloc | apply Kd.R_drewN | apply Kd.R_drew)); exact HO242.out))) (below_size zB)) (below_step zB hb); (try clear hb); (try clear ho0)) | ((with_reducible refine gate_dst (N := 18) rfl ?_); (try (refine gate_guard (by rfl) ?_; dsimp only)); refine Kd.R_lit (Kd.int .i64) _ 2 ?hg (N := 18) ?hd (xs := ([5462, 5461, 5461] : List Int)) (inner := [.int .i64 5462, .int .i64 5461, .int .i64 5461]) (ok := fun _ => True) (okp := fun _ => True) ?hr ?hp (fun _ hk => hk) trivial (Below.refl _ _) (Nat.le_refl _) (by simp) ?_; (case hd => rfl); (case hg => rfl); (case hr => first | (go_simp; done) | (go_simp; rfl)); (case hp => exact (Reps.one (show Kd.M (Kd.int .i64) _ _ _ 5462 [.int .i64 5462] from rfl) (Reps.one (show Kd.M (Kd.int .i64) _ _ _ 5461 [.int .i64 5461] from rfl) (Reps.one (show Kd.M (Kd.int .i64) _ _ _ 5461 [.int .i64 5461] from rfl) (Reps.none _ _))))); intro v248 w31 ho32 hb hg_ hnew_; clear hg_ hnew_; (first | rw [← Ny247.out] at ho32 | (simp only [Int.reduceToNat] at ho32; rw [← Ny247.out] at ho32)); obtain ⟨HO238, HO242, HO246, HO249, HB⟩ := zA5 (Kd.R_elder' (by (with_reducible repeat (first | apply Kd.R_alloc | apply Kd.R_drewN | apply Kd.R_drew)); exact HO238.out) (Kd.R_base ho32) hb) (Kd.R_elder' (by (with_reducible repeat (first | apply Kd.R_alloc | apply Kd.R_drewN | apply Kd.R_drew)); exact HO242.out) (Kd.R_base ho32) hb) (Kd.R_elder' (by (with_reducible repeat (first | apply Kd.R_alloc | apply Kd.R_drewN | apply Kd.R_drew)); exact HO246.out) (Kd.R_base ho32) hb) (Kd.R_lower (Kd.R_new' (Kd.R_new' (Kd.R_new' ho32 (Kd.R_lt (by (with_reducible repeat (first | apply Kd.R_alloc | apply Kd.R_drewN | apply Kd.R_drew)); exact HO238.out))) (Kd.R_lt (by (with_reducible repeat (first | apply Kd.R_alloc | apply Kd.R_drewN | apply Kd.R_drew)); exact HO242.out))) (Kd.R_lt (by (with_reducible repeat (first | apply Kd.R_alloc | apply Kd.R_drewN | apply Kd.R_drew)); exact HO246.out))) (below_size zB)) (below_step zB hb); clear hb ho32; obtain ⟨Ao33, co33, eo33⟩ := Kd.R_slice HO242.out; subst eo33; obtain ⟨Ao34, co34, eo34⟩ := Kd.R_slice HO249.out; subst eo34) | (go_at_call 36; (with_reducible refine (smaltoref06_Same.calls k _ _ t239 _ _ y247 false _ ?side1 ?side2 ?side3 ?side4 A4.out).mono ?_); (case side1 => repeat (first | exact (Kd.R_reads' HO242.out).2.2 | (with_reducible refine Kd.C_alloc ?_ _) | (with_reducible refine Kd.C_drewN ?_ _) | (with_reducible refine Kd.C_drew ?_))); (case side2 => exact (Kd.R_reads' HO242.out).2.1); (case side3 => repeat (first | exact (Kd.R_reads' HO249.out).2.2 | (with_reducible refine Kd.C_alloc ?_ _) | (with_reducible refine Kd.C_drewN ?_ _) | (with_reducible refine Kd.C_drew ?_))); (case side4 => exact (Kd.R_reads' HO249.out).2.1); rintro e w' ⟨rfl, ⟨nd, rfl⟩⟩))
   go_ret
   exact ⟨zS, zB⟩
 ·rw [if_neg c3] at H
  have c3b0 : (t240 == 0) = false := beq_eq_false_iff_ne.mpr c3
  have c3b1 : (t240 != 0) = true := bne_iff_ne.mpr c3
  obtain rfl := Option.some.inj H
  go_enter Tryz.func32, Tryz.ntmps32
  go_wp2_with (first | ((with_reducible refine gate_dst (N := 6) rfl ?_); (try (refine gate_guard (by rfl) ?_; dsimp only)); refine Kd.R_lit (Kd.int .i64) _ 2 ?hg (N := 6) ?hd (xs := ([536870912, 536870912, 536870912] : List Int)) (inner := [.int .i64 536870912, .int .i64 536870912, .int .i64 536870912]) (ok := fun _ => True) (okp := fun _ => True) ?hr ?hp (fun _ hk => hk) trivial (Below.refl _ _) (Nat.le_refl _) (by simp) ?_; (case hd => rfl); (case hg => rfl); (case hr => first | (go_simp; done) | (go_simp; rfl)); (case hp => exact (Reps.one (show Kd.M (Kd.int .i64) _ _ _ 536870912 [.int .i64 536870912] from rfl) (Reps.one (show Kd.M (Kd.int .i64) _ _ _ 536870912 [.int .i64 536870912] from rfl) (Reps.one (show Kd.M (Kd.int .i64) _ _ _ 536870912 [.int .i64 536870912] from rfl) (Reps.none _ _))))); intro v237 w35 ho36 hb hg_ hnew_; clear hg_ hnew_; (first | rw [← Ny236.out] at ho36 | (simp only [Int.reduceToNat] at ho36; rw [← Ny236.out] at ho36)); obtain ⟨HO238, HB⟩ := zA2 (Kd.R_lower ho36 (below_size zB)) (below_step zB hb); clear hb ho36; obtain ⟨Ao37, co37, eo37⟩ := Kd.R_slice HO238.out; subst eo37) | ((with_reducible refine gate_callee (f := 49) rfl ?_); refine goesL_ (some 7) rfl rfl Tryz.func49 (by kernel_rfl) rfl #[.slice Ao37 y236.length co37] rfl zL ?_; (with_reducible refine (taps_Apportion.calls _ _ y236 t239 t240 _ ?side1 ?side2 A1.out).mono ?_); (case side1 => repeat (first | exact (Kd.R_reads' HO238.out).2.2 | (with_reducible refine Kd.C_alloc ?_ _) | (with_reducible refine Kd.C_drewN ?_ _) | (with_reducible refine Kd.C_drew ?_))); (case side2 => exact (Kd.R_reads' HO238.out).2.1); rintro e w38 ⟨v241, rfl, ho0, hb⟩; refine ⟨_, rfl, ?_⟩; obtain ⟨HO238, HO242, HB⟩ := zA3 (Kd.R_elder' (by (with_reducible repeat (first | apply Kd.R_alloc | apply Kd.R_drewN | apply Kd.R_drew)); exact HO238.out) (Kd.R_base ho0) hb) (Kd.R_lower (Kd.R_new' ho0 (Kd.R_lt (by (with_reducible repeat (first | apply Kd.R_alloc | apply Kd.R_drewN | apply Kd.R_drew)); exact HO238.out))) (below_size zB)) (below_step zB hb); (try clear hb); (try clear ho0)) | ((with_reducible refine gate_callee (f := 50) rfl ?_); refine goesL_ (some 11) rfl rfl Tryz.func50 (by kernel_rfl) rfl #[.int .i64 65536] rfl zL ?_; (with_reducible refine (taps_Gaussian.calls k 65536 t243 t244 _ A2.out).mono ?_); rintro e w39 ⟨v245, rfl, ho0, hb⟩; refine ⟨_, rfl, ?_⟩; obtain ⟨HO238, HO242, HO246, HB⟩ := zA4 (Kd.R_elder' (by (with_reducible repeat (first | apply Kd.R_alloc | apply Kd.R_drewN | apply Kd.R_drew)); exact HO238.out) (Kd.R_base ho0) hb) (Kd.R_elder' (by (with_reducible repeat (first | apply Kd.R_alloc | apply Kd.R_drewN | apply Kd.R_drew)); exact HO242.out) (Kd.R_base ho0) hb) (Kd.R_lower (Kd.R_new' (Kd.R_new' ho0 (Kd.R_lt (by (with_reducible repeat (first | apply Kd.R_alloc | apply Kd.R_drewN | apply Kd.R_drew)); exact HO238.out))) (Kd.R_lt (by (with_reducible repeat (first | apply Kd.R_alloc | apply Kd.R_drewN | apply Kd.R_drew)); exact HO242.out))) (below_size zB)) (below_step zB hb); (try clear hb); (try clear ho0)))
  go_ret
  exact ⟨zS, zB⟩
end Go.Proofs.YtebipmdopdogkaaGreatDoor.QA
