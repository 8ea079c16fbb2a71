-- Written by wip/tools/pp.py over the kit's print.py; not trusted: Lean checks it.
import Derived.Test.YtebipmdopdogkaaDoorQAx0
import Derived.Test.YtebipmdopdogkaaDoorQAx15
import Derived.Test.YtebipmdopdogkaaDoorQAx16
import Derived.Test.YtebipmdopdogkaaDoorQAx17
namespace Go.Proofs.YtebipmdopdogkaaDoor.QA
open Go.Proofs.YtebipmdopdogkaaDoor.T
open Go.RowKit Go.Proofs.YtebipmdopdogkaaDoorW.PrintWords Go.Proofs.YtebipmdopdogkaaDoorW.PrintLast Go.Proofs.YtebipmdopdogkaaDoorW.PrintMore
attribute [local go_sem] ext_call max2_int min2_int max_two min_two max_three min_three max_four min_four   -- for this text's walks alone
set_option linter.unusedVariables false
set_option linter.unusedSimpArgs false

/-! ### taps_Blur: function 37 -/
def taps_Blur.j0 : Nat → Int → Bool → Option (List Int × Int)
 | 0, _, _ => none
 | k + 1, x0, x9 => if x9 = true then (some (([] : List Int), 7)) else ((slices_Repeat_int64_int64.f (([1] : List Int)) (wrap64 ((wrap64 (2 * x0)) + 1))).bind fun t202 => ((taps_User.f k t202).bind fun bt205 => (some (bt205.1, bt205.2))))
def taps_Blur.f (k : Nat) (a0 : Int) : Option (List Int × Int) := if a0 < 0 then (taps_Blur.j0 k a0 true) else (taps_Blur.j0 k a0 (decide (a0 > 511)))
theorem taps_Blur.mono_l : ∀ k, (∀ y0 y1, LeO (taps_Blur.j0 k y0 y1) (taps_Blur.j0 (k + 1) y0 y1))
 | 0 => fun _ _ r h => by simp [taps_Blur.j0] at h
 | k + 1 => by
  have ih0 := taps_Blur.mono_l k
  ·intro y0 y1
   unfold taps_Blur.j0
   repeat' first
   | (with_reducible exact ih0 _ _)
   | (with_reducible exact taps_User.mono _ _)
   | (with_reducible exact LeO.refl _)
   | (with_reducible exact LeO.none _)
   | (with_reducible refine LeO.ite ?_ ?_)
   | (with_reducible refine LeO.bind ?_ (fun _ => ?_))
   | exact ih0 _ _
   | exact taps_User.mono _ _
   | exact LeO.none _
   | refine LeO.ite ?_ ?_
   | refine LeO.bind ?_ (fun _ => ?_)
theorem taps_Blur.mono : ∀ a0 k, LeO (taps_Blur.f k a0) (taps_Blur.f (k + 1) a0) := by
 intro a0 k
 have ih0 := taps_Blur.mono_l k
 unfold taps_Blur.f
 repeat' first
   | (with_reducible exact ih0 _ _)
   | (with_reducible exact taps_User.mono _ _)
   | (with_reducible exact LeO.refl _)
   | (with_reducible exact LeO.none _)
   | (with_reducible refine LeO.ite ?_ ?_)
   | (with_reducible refine LeO.bind ?_ (fun _ => ?_))
   | exact ih0 _ _
   | exact taps_User.mono _ _
   | exact LeO.none _
   | refine LeO.ite ?_ ?_
   | refine LeO.bind ?_ (fun _ => ?_)
set_option maxHeartbeats 8000000 in
set_option maxRecDepth 100000 in
theorem taps_Blur.calls (k : Nat) (a0 : Int) (r1 : List Int) (r2 : Int) (w : World) (h : taps_Blur.f k a0 = some (r1, r2)) :
  Calls Tryd.prog 37 #[.int .i64 a0] w fun e w' => ∃ v0_ : Value, e = .returned (.tuple #[v0_, .int .i64 r2]) ∧ Kd.R (Kd.int .i64) 2 w' w.heap.size (fun _ => True) v0_ r1 ∧ Below w.heap.size w w' := by
 have HB := Aside0.mk (Below.refl w.heap.size w)
 have H : (if a0 < 0 then (taps_Blur.j0 k a0 true) else (taps_Blur.j0 k a0 (decide (a0 > 511)))) = some (r1, r2) := h
 clear h
 have HC2 := Aside0.mk H
 clear H
 go_enter Tryd.func37, Tryd.ntmps37
 go_upto_region 1 with (fail)
 go_cut [9] (fun v9 wc => ∃ (kq : Nat) (x9_1 : Bool), v9 = .bool x9_1 ∧ Aside0 (taps_Blur.j0 kq a0 x9_1 = some (r1, r2)) ∧ Aside0 (kq ≤ k) ∧ Aside0 (Below w.heap.size w wc))
 case first =>
  have H := HC2.out
  clear HC2
  by_cases c3 : a0 < 0
  ·rw [if_pos c3] at H
   have c3b0 : decide (a0 < 0) = true := decide_eq_true c3
   clear c3
   (first | rw [c3b0] | (simp only [i64_w, i32_w]; rw [c3b0]) | skip)
   have H' := Aside0.mk H
   clear H
   go_wp2
   go_meet
   case rel => exact ⟨_, (true), (by first | rfl | (simp; done) | (simp [*]; done)), H', ⟨by first | omega | exact Nat.le_refl _⟩, ⟨by repeat (first | (with_reducible first | exact HB.out | apply below_alloc | apply pw_below_drewN | apply below_drew1) | exact HB.out)⟩⟩
  ·rw [if_neg c3] at H
   have c3b0 : decide (a0 < 0) = false := decide_eq_false c3
   clear c3
   (first | rw [c3b0] | (simp only [i64_w, i32_w]; rw [c3b0]) | skip)
   have H' := Aside0.mk H
   clear H
   go_wp2
   go_meet
   case rel => exact ⟨_, (decide (a0 > 511)), (by first | rfl | (simp; done) | (simp [*]; done)), H', ⟨by first | omega | exact Nat.le_refl _⟩, ⟨by repeat (first | (with_reducible first | exact HB.out | apply below_alloc | apply pw_below_drewN | apply below_drew1) | exact HB.out)⟩⟩
 case rest =>
  clear HC2
  try clear p2
  try clear c3
  try clear c3b0
  obtain ⟨kq, x9_1, rfl, HA, HJ1, HB⟩ := hcut
  cases kq with
  | zero => exact absurd HA.out (by simp [taps_Blur.j0])
  | succ kj1 =>
   have H := HA.out
   clear HA
   simp only [taps_Blur.j0] at H
   by_cases c4 : x9_1 = true
   ·subst c4
    have H1 : (some (([] : List Int), 7)) = some (r1, r2) := by rw [if_pos rfl] at H; exact H
    clear H
    have H := H1
    clear H1
    simp only [Option.some.injEq, Prod.mk.injEq] at H
    obtain ⟨rfl, rfl⟩ := H
    go_wp2
    go_ret2
    exact ⟨_, by first | rfl | (simp [errW_none, errW_some] <;> rfl) | (simp [*, errW_none, errW_some] <;> rfl), by first | exact Kd.R_nil _ _ _ _ _ | exact Kd.N_nil _ _ _ _ _ | exact Kd.V_nil _ _ _ _ _ | exact Kd.Q_nil _ _ _ _ _ | exact Kd.S_nil _ _ _ _ _, by repeat (first | (with_reducible first | exact HB.out | apply below_alloc | apply pw_below_drewN | apply below_drew1) | exact HB.out)⟩
   ·replace c4 := Bool.eq_false_iff.mpr c4
    subst c4
    have H1 : ((slices_Repeat_int64_int64.f (([1] : List Int)) (wrap64 ((wrap64 (2 * a0)) + 1))).bind fun t202 => ((taps_User.f kj1 t202).bind fun bt205 => (some (bt205.1, bt205.2)))) = some (r1, r2) := by rw [if_neg (show ¬ (false = true) by decide)] at H; exact H
    clear H
    have H := H1
    clear H1
    obtain ⟨y199, hy199⟩ : ∃ y_ : List Int, y_ = (([1] : List Int)) := ⟨_, rfl⟩
    replace H : ((slices_Repeat_int64_int64.f y199 (wrap64 ((wrap64 (2 * a0)) + 1))).bind fun t202 => ((taps_User.f kj1 t202).bind fun bt205 => (some (bt205.1, bt205.2)))) = some (r1, r2) := by first | (rw [hy199]; with_reducible exact H) | (have H2_ := (Option.bind_some _ _).symm.trans H; rw [hy199]; with_reducible exact H2_) | (have H2_ := (Option.bind_some _ _).symm.trans H; with_reducible exact H2_) | with_reducible exact H | (rw [hy199]; exact H) | exact H
    have Ny199 := Aside0.mk hy199
    clear hy199
    replace H := Option.bind_eq_some_iff.mp H
    obtain ⟨t202, A50, H⟩ := H
    replace H : ((taps_User.f kj1 t202).bind fun bt205 => (some (bt205.1, bt205.2))) = some (r1, r2) := H
    have A5 := Aside0.mk A50
    clear A50
    replace H := Option.bind_eq_some_iff.mp H
    obtain ⟨⟨t205, t206⟩, A60, H⟩ := H
    replace H : (some (t205, t206)) = some (r1, r2) := H
    have A6 := Aside0.mk A60
    clear A60
    simp only [Option.some.injEq, Prod.mk.injEq] at H
    obtain ⟨rfl, rfl⟩ := H
    go_wp2_with (first | ((with_reducible refine gate_dst (N := 10) rfl ?_); refine Kd.R_lit (Kd.int .i64) _ 2 ?hg (N := 10) ?hd (xs := ([1] : List Int)) (inner := [.int .i64 1]) (ok := fun _ => True) (okp := fun _ => True) ?hr ?hp (fun _ hk => hk) trivial (Below.refl _ _) (Nat.le_refl _) (by simp) ?_; (case hd => rfl); (case hg => rfl); (case hr => first | (go_simp; done) | (go_simp; rfl)); (case hp => exact (Reps.one (show Kd.M (Kd.int .i64) _ _ _ 1 [.int .i64 1] from rfl) (Reps.none _ _))); intro v200 w7 ho8 hb hg_ hnew_; clear hg_ hnew_; (first | rw [← Ny199.out] at ho8 | (simp only [Int.reduceToNat] at ho8; rw [← Ny199.out] at ho8)); have n0_ := Aside0.mk (Kd.R_lower ho8 (below_size (by repeat (first | (with_reducible first | exact HB.out | apply below_alloc | apply pw_below_drewN | apply below_drew1) | exact HB.out)))); have n1_ := Aside0.mk (below_step (by repeat (first | (with_reducible first | exact HB.out | apply below_alloc | apply pw_below_drewN | apply below_drew1) | exact HB.out)) hb); clear HB; have HO201 := n0_; have HB := n1_; clear n0_ n1_; clear hb ho8; obtain ⟨Ao9, co9, eo9⟩ := Kd.R_slice HO201.out; subst eo9) | ((with_reducible refine gate_callee (f := 51) rfl ?_); refine goesL_ (some 14) rfl rfl Tryd.func51 (by kernel_rfl) rfl #[.slice Ao9 y199.length co9, .int .i64 (wrap64 ((wrap64 (2 * a0)) + 1))] rfl (by (try simp only [List.map_toArray, List.map_cons, List.map_nil]); first | done | rfl | (simp only [List.length_drop, List.length_take]; rfl)) ?_; (with_reducible refine (slices_Repeat_int64_int64.calls _ _ y199 (wrap64 ((wrap64 (2 * a0)) + 1)) t202 _ ?side1 ?side2 A5.out).mono ?_); (case side1 => repeat (first | exact (Kd.R_reads' HO201.out).2.2 | (with_reducible refine Kd.C_alloc ?_ _) | (with_reducible refine Kd.C_drewN ?_ _) | (with_reducible refine Kd.C_drew ?_))); (case side2 => exact (Kd.R_reads' HO201.out).2.1); rintro e w10 ⟨v203, rfl, ho0, hb⟩; refine ⟨_, rfl, ?_⟩; have n0_ := Aside0.mk (Kd.R_elder' (by (with_reducible repeat (first | apply Kd.R_alloc | apply Kd.R_drewN | apply Kd.R_drew)); exact HO201.out) (Kd.R_base ho0) hb); have n1_ := Aside0.mk (Kd.R_lower (Kd.R_new' ho0 (Kd.R_lt (by (with_reducible repeat (first | apply Kd.R_alloc | apply Kd.R_drewN | apply Kd.R_drew)); exact HO201.out))) (below_size (by repeat (first | (with_reducible first | exact HB.out | apply below_alloc | apply pw_below_drewN | apply below_drew1) | exact HB.out)))); have n2_ := Aside0.mk (below_step (by repeat (first | (with_reducible first | exact HB.out | apply below_alloc | apply pw_below_drewN | apply below_drew1) | exact HB.out)) hb); clear HO201; clear HB; have HO201 := n0_; have HO204 := n1_; have HB := n2_; clear n0_ n1_ n2_; (try clear hb); (try clear hb2); (try clear hk); (try clear hi); (try clear ho0); obtain ⟨Ao11, co11, eo11⟩ := Kd.R_slice HO204.out; subst eo11) | ((with_reducible refine gate_callee (f := 38) rfl ?_); refine goesL_ (some 15) rfl rfl Tryd.func38 (by kernel_rfl) rfl #[.slice Ao11 t202.length co11] rfl (by (try simp only [List.map_toArray, List.map_cons, List.map_nil]); first | done | rfl | (simp only [List.length_drop, List.length_take]; rfl)) ?_; (with_reducible refine (taps_User.calls kj1 _ _ t202 t205 t206 _ ?side1 ?side2 A6.out).mono ?_); (case side1 => repeat (first | exact (Kd.R_reads' HO204.out).2.2 | (with_reducible refine Kd.C_alloc ?_ _) | (with_reducible refine Kd.C_drewN ?_ _) | (with_reducible refine Kd.C_drew ?_))); (case side2 => exact (Kd.R_reads' HO204.out).2.1); rintro e w12 ⟨v207, rfl, ho0, hb⟩; refine ⟨_, rfl, ?_⟩; have n0_ := Aside0.mk (Kd.R_elder' (by (with_reducible repeat (first | apply Kd.R_alloc | apply Kd.R_drewN | apply Kd.R_drew)); exact HO201.out) (Kd.R_base ho0) hb); have n1_ := Aside0.mk (Kd.R_elder' (by (with_reducible repeat (first | apply Kd.R_alloc | apply Kd.R_drewN | apply Kd.R_drew)); exact HO204.out) (Kd.R_base ho0) hb); have n2_ := Aside0.mk (Kd.R_lower (Kd.R_new' (Kd.R_new' ho0 (Kd.R_lt (by (with_reducible repeat (first | apply Kd.R_alloc | apply Kd.R_drewN | apply Kd.R_drew)); exact HO201.out))) (Kd.R_lt (by (with_reducible repeat (first | apply Kd.R_alloc | apply Kd.R_drewN | apply Kd.R_drew)); exact HO204.out))) (below_size (by repeat (first | (with_reducible first | exact HB.out | apply below_alloc | apply pw_below_drewN | apply below_drew1) | exact HB.out)))); have n3_ := Aside0.mk (below_step (by repeat (first | (with_reducible first | exact HB.out | apply below_alloc | apply pw_below_drewN | apply below_drew1) | exact HB.out)) hb); clear HO201; clear HO204; clear HB; have HO201 := n0_; have HO204 := n1_; have HO208 := n2_; have HB := n3_; clear n0_ n1_ n2_ n3_; (try clear hb); (try clear hb2); (try clear hk); (try clear hi); (try clear ho0)))
    go_ret2
    exact ⟨_, by first | rfl | (simp [errW_none, errW_some] <;> rfl) | (simp [*, errW_none, errW_some] <;> rfl), by (with_reducible repeat (first | apply Kd.R_alloc | apply Kd.R_drewN | apply Kd.R_drew)); exact Kd.R_mono HO208.out (fun _ hk => trivial), by repeat (first | (with_reducible first | exact HB.out | apply below_alloc | apply pw_below_drewN | apply below_drew1) | exact HB.out)⟩

/-! ### op_weights: function 29 -/
def op_weights.f (k : Nat) (a0_0 : Int) (a0_1 : Int) (a0_2 : Int) (a0_3 : Int) (l0_4 : List Int) (l0_5 : List Int) (a0_6 : Int) (a0_7 : Int) (a0_8 : Int) : Option (List Int × List Int × Int) := if a0_0 = 0 then ((taps_Gaussian.f k a0_2).bind fun bt210 => (some (bt210.1, bt210.1, bt210.2))) else (if a0_0 = 1 then ((taps_Blur.f k a0_3).bind fun bt214 => (some (bt214.1, bt214.1, bt214.2))) else ((taps_User.f k l0_4).bind fun bt218 => (if bt218.2 = 0 then ((taps_User.f k l0_5).bind fun bt222 => (some (bt218.1, bt222.1, bt222.2))) else (some (([] : List Int), ([] : List Int), bt218.2)))))
theorem op_weights.mono : ∀ a0 a1 a2 a3 a4 a5 a6 a7 a8 k, LeO (op_weights.f k a0 a1 a2 a3 a4 a5 a6 a7 a8) (op_weights.f (k + 1) a0 a1 a2 a3 a4 a5 a6 a7 a8) := by
 intro a0 a1 a2 a3 a4 a5 a6 a7 a8 k
 unfold op_weights.f
 repeat' first
   | (with_reducible exact taps_Blur.mono _ _)
   | (with_reducible exact taps_Gaussian.mono _ _)
   | (with_reducible exact taps_User.mono _ _)
   | (with_reducible exact LeO.refl _)
   | (with_reducible exact LeO.none _)
   | (with_reducible refine LeO.ite ?_ ?_)
   | (with_reducible refine LeO.bind ?_ (fun _ => ?_))
   | exact taps_Blur.mono _ _
   | exact taps_Gaussian.mono _ _
   | exact taps_User.mono _ _
   | exact LeO.none _
   | refine LeO.ite ?_ ?_
   | refine LeO.bind ?_ (fun _ => ?_)
set_option maxHeartbeats 8000000 in
set_option maxRecDepth 100000 in
theorem op_weights.calls (k : Nat) (a0_0 : Int) (a0_1 : Int) (a0_2 : Int) (a0_3 : Int) (A0_4 : Option Addr) (c0_4 : Nat) (l0_4 : List Int) (A0_5 : Option Addr) (c0_5 : Nat) (l0_5 : List Int) (a0_6 : Int) (a0_7 : Int) (a0_8 : Int) (r1 : List Int) (r2 : List Int) (r3 : Int) (w : World) (hr0_4 : Kd.C (Kd.int .i64) w A0_4 l0_4.length l0_4) (hc0_4 : l0_4.length ≤ c0_4) (hr0_5 : Kd.C (Kd.int .i64) w A0_5 l0_5.length l0_5) (hc0_5 : l0_5.length ≤ c0_5) (h : op_weights.f k a0_0 a0_1 a0_2 a0_3 l0_4 l0_5 a0_6 a0_7 a0_8 = some (r1, r2, r3)) :
  Calls Tryd.prog 29 #[.agg #[.int .i64 a0_0, .int .i64 a0_1, .int .i64 a0_2, .int .i64 a0_3, .slice A0_4 l0_4.length c0_4, .slice A0_5 l0_5.length c0_5, .int .i64 a0_6, .int .i64 a0_7, .int .i64 a0_8]] w fun e w' => ∃ v0_ v1_ : Value, e = .returned (.tuple #[v0_, v1_, .int .i64 r3]) ∧ Kd.V (Kd.int .i64) 2 w' w.heap.size (fun k_ => (w.heap.size ≤ k_)) v0_ r1 ∧ Kd.V (Kd.int .i64) 2 w' w.heap.size (fun k_ => (w.heap.size ≤ k_)) v1_ r2 ∧ Below w.heap.size w w' := by
 have hu28 := Tryd.underlying28
 have HR0_4 := Aside0.mk hr0_4
 have HC0_4 := Aside0.mk hc0_4
 clear hr0_4 hc0_4
 have HR0_5 := Aside0.mk hr0_5
 have HC0_5 := Aside0.mk hc0_5
 clear hr0_5 hc0_5
 have HB := Aside0.mk (Below.refl w.heap.size w)
 have H : (if a0_0 = 0 then ((taps_Gaussian.f k a0_2).bind fun bt210 => (some (bt210.1, bt210.1, bt210.2))) else (if a0_0 = 1 then ((taps_Blur.f k a0_3).bind fun bt214 => (some (bt214.1, bt214.1, bt214.2))) else ((taps_User.f k l0_4).bind fun bt218 => (if bt218.2 = 0 then ((taps_User.f k l0_5).bind fun bt222 => (some (bt218.1, bt222.1, bt222.2))) else (some (([] : List Int), ([] : List Int), bt218.2)))))) = some (r1, r2, r3) := h
 clear h
 by_cases c2 : a0_0 = 0
 ·rw [if_pos c2] at H
  have c2b0 : (a0_0 == 0) = true := beq_iff_eq.mpr c2
  have c2b1 : (a0_0 != 0) = false := bne_eq_false_iff_eq.mpr c2
  clear c2
  replace H := Option.bind_eq_some_iff.mp H
  obtain ⟨⟨t210, t211⟩, A30, H⟩ := H
  replace H : (some (t210, t210, t211)) = some (r1, r2, r3) := H
  have A3 := Aside0.mk A30
  clear A30
  simp only [Option.some.injEq, Prod.mk.injEq] at H
  obtain ⟨rfl, rfl, rfl⟩ := H
  go_enter Tryd.func29, Tryd.ntmps29
  go_wp2_with (first | ((with_reducible refine gate_dst (N := 1) rfl ?_); refine box_event ?hg (N := 1) ?hd (cs := #[.int .i64 a0_0, .int .i64 a0_1, .int .i64 a0_2, .int .i64 a0_3, .slice A0_4 l0_4.length c0_4, .slice A0_5 l0_5.length c0_5, .int .i64 a0_6, .int .i64 a0_7, .int .i64 a0_8]) (t := 28) ?hr ?_; (case hd => rfl); (case hg => rfl); (case hr => first | (go_simp; done) | (go_simp; rfl)); intro gb209 hg w4 hbox hb; have n0_ := Aside0.mk (below_step (by repeat (first | (with_reducible first | exact HB.out | apply below_alloc | apply pw_below_drewN | apply below_drew1) | exact HB.out)) hb); have n1_ := Aside0.mk (hbox); have n2_ := Aside0.mk ((by rw [hg]; exact (below_size (by repeat (first | (with_reducible first | exact HB.out | apply below_alloc | apply pw_below_drewN | apply below_drew1) | exact HB.out))) : w.heap.size ≤ gb209)); have n3_ := Aside0.mk ((by rw [hg]; exact (below_size (by repeat (first | (with_reducible first | exact HB.out | apply below_alloc | apply pw_below_drewN | apply below_drew1) | exact HB.out))) : w.heap.size ≤ gb209)); clear HB; have HB := n0_; have BK209 := n1_; have GW209 := n2_; have GE209 := n3_; clear n0_ n1_ n2_ n3_; clear hb hbox hg; have hcz5_0 : w4.cell? ⟨gb209, 0, none⟩ = some (.int .i64 a0_0) := (blk_cell BK209.out 0).trans rfl; have hcz5_1 : w4.cell? ⟨gb209, 1, none⟩ = some (.int .i64 a0_1) := (blk_cell BK209.out 1).trans rfl; have hcz5_2 : w4.cell? ⟨gb209, 2, none⟩ = some (.int .i64 a0_2) := (blk_cell BK209.out 2).trans rfl; have hcz5_3 : w4.cell? ⟨gb209, 3, none⟩ = some (.int .i64 a0_3) := (blk_cell BK209.out 3).trans rfl; have hcz5_4 : w4.cell? ⟨gb209, 4, none⟩ = some (.slice A0_4 l0_4.length c0_4) := (blk_cell BK209.out 4).trans rfl; have hcz5_5 : w4.cell? ⟨gb209, 5, none⟩ = some (.slice A0_5 l0_5.length c0_5) := (blk_cell BK209.out 5).trans rfl; have hcz5_6 : w4.cell? ⟨gb209, 6, none⟩ = some (.int .i64 a0_6) := (blk_cell BK209.out 6).trans rfl; have hcz5_7 : w4.cell? ⟨gb209, 7, none⟩ = some (.int .i64 a0_7) := (blk_cell BK209.out 7).trans rfl; have hcz5_8 : w4.cell? ⟨gb209, 8, none⟩ = some (.int .i64 a0_8) := (blk_cell BK209.out 8).trans rfl; have hfz5_0 := blk_frozen BK209.out 0; have hfz5_1 := blk_frozen BK209.out 1; have hfz5_2 := blk_frozen BK209.out 2; have hfz5_3 := blk_frozen BK209.out 3; have hfz5_4 := blk_frozen BK209.out 4; have hfz5_5 := blk_frozen BK209.out 5; have hfz5_6 := blk_frozen BK209.out 6; have hfz5_7 := blk_frozen BK209.out 7; have hfz5_8 := blk_frozen BK209.out 8) | ((with_reducible refine gate_callee (f := 34) rfl ?_); refine goesL_ (some 12) rfl rfl Tryd.func34 (by kernel_rfl) rfl #[.int .i64 a0_2] rfl (by (try simp only [List.map_toArray, List.map_cons, List.map_nil]); first | done | rfl | (simp only [List.length_drop, List.length_take]; rfl)) ?_; (with_reducible refine (taps_Gaussian.calls k a0_2 t210 t211 _ A3.out).mono ?_); rintro e w6 ⟨v212, rfl, ho0, hb⟩; refine ⟨_, rfl, ?_⟩; have n0_ := Aside0.mk (Kd.R_lower (Kd.R_newM (M := fun k_ => (w.heap.size ≤ k_)) ho0 (below_size (by repeat (first | (with_reducible first | exact HB.out | apply below_alloc | apply pw_below_drewN | apply below_drew1 | refine below_set ?_ GE209.out) | exact HB.out))) (fun k_ h_ => h_)) (below_size (by repeat (first | (with_reducible first | exact HB.out | apply below_alloc | apply pw_below_drewN | apply below_drew1 | refine below_set ?_ GE209.out) | exact HB.out)))); have n1_ := Aside0.mk (blk_below (g := gb209) (o := .cells #[.int .i64 a0_0, .int .i64 a0_1, .int .i64 a0_2, .int .i64 a0_3, .slice A0_4 l0_4.length c0_4, .slice A0_5 l0_5.length c0_5, .int .i64 a0_6, .int .i64 a0_7, .int .i64 a0_8] 28 (0, 0)) (by (with_reducible repeat (first | refine blk_drewN ?_ _ | refine blk_drew ?_ | refine blk_alloc ?_ _)); exact BK209.out) hb); have n2_ := Aside0.mk (below_step (by repeat (first | (with_reducible first | exact HB.out | apply below_alloc | apply pw_below_drewN | apply below_drew1 | refine below_set ?_ GE209.out) | exact HB.out)) hb); clear BK209; clear HB; have HO213 := n0_; have BK209 := n1_; have HB := n2_; clear n0_ n1_ n2_; (try clear hb); (try clear hb2); (try clear hk); (try clear hi); (try clear ho0)))
  go_ret3
  exact ⟨_, _, by first | rfl | (simp [errW_none, errW_some] <;> rfl) | (simp [*, errW_none, errW_some] <;> rfl), Kd.R_V (by (with_reducible repeat (first | apply Kd.R_alloc | apply Kd.R_drewN | apply Kd.R_drew)); exact Kd.R_mono HO213.out (fun _ hk => hk.1)), Kd.R_V (by (with_reducible repeat (first | apply Kd.R_alloc | apply Kd.R_drewN | apply Kd.R_drew)); exact Kd.R_mono HO213.out (fun _ hk => hk.1)), by repeat (first | (with_reducible first | exact HB.out | apply below_alloc | apply pw_below_drewN | apply below_drew1 | refine below_set ?_ GE209.out) | exact HB.out)⟩
 ·rw [if_neg c2] at H
  have c2b0 : (a0_0 == 0) = false := beq_eq_false_iff_ne.mpr c2
  have c2b1 : (a0_0 != 0) = true := bne_iff_ne.mpr c2
  by_cases c7 : a0_0 = 1
  ·rw [if_pos c7] at H
   have c7b0 : (a0_0 == 1) = true := beq_iff_eq.mpr c7
   have c7b1 : (a0_0 != 1) = false := bne_eq_false_iff_eq.mpr c7
   clear c7
   replace H := Option.bind_eq_some_iff.mp H
   obtain ⟨⟨t214, t215⟩, A80, H⟩ := H
   replace H : (some (t214, t214, t215)) = some (r1, r2, r3) := H
   have A8 := Aside0.mk A80
   clear A80
   simp only [Option.some.injEq, Prod.mk.injEq] at H
   obtain ⟨rfl, rfl, rfl⟩ := H
   go_enter Tryd.func29, Tryd.ntmps29
   go_wp2_with (first | ((with_reducible refine gate_dst (N := 1) rfl ?_); refine box_event ?hg (N := 1) ?hd (cs := #[.int .i64 a0_0, .int .i64 a0_1, .int .i64 a0_2, .int .i64 a0_3, .slice A0_4 l0_4.length c0_4, .slice A0_5 l0_5.length c0_5, .int .i64 a0_6, .int .i64 a0_7, .int .i64 a0_8]) (t := 28) ?hr ?_; (case hd => rfl); (case hg => rfl); (case hr => first | (go_simp; done) | (go_simp; rfl)); intro gb209 hg w9 hbox hb; have n0_ := Aside0.mk (below_step (by repeat (first | (with_reducible first | exact HB.out | apply below_alloc | apply pw_below_drewN | apply below_drew1) | exact HB.out)) hb); have n1_ := Aside0.mk (hbox); have n2_ := Aside0.mk ((by rw [hg]; exact (below_size (by repeat (first | (with_reducible first | exact HB.out | apply below_alloc | apply pw_below_drewN | apply below_drew1) | exact HB.out))) : w.heap.size ≤ gb209)); have n3_ := Aside0.mk ((by rw [hg]; exact (below_size (by repeat (first | (with_reducible first | exact HB.out | apply below_alloc | apply pw_below_drewN | apply below_drew1) | exact HB.out))) : w.heap.size ≤ gb209)); clear HB; have HB := n0_; have BK209 := n1_; have GW209 := n2_; have GE209 := n3_; clear n0_ n1_ n2_ n3_; clear hb hbox hg; have hcz10_0 : w9.cell? ⟨gb209, 0, none⟩ = some (.int .i64 a0_0) := (blk_cell BK209.out 0).trans rfl; have hcz10_1 : w9.cell? ⟨gb209, 1, none⟩ = some (.int .i64 a0_1) := (blk_cell BK209.out 1).trans rfl; have hcz10_2 : w9.cell? ⟨gb209, 2, none⟩ = some (.int .i64 a0_2) := (blk_cell BK209.out 2).trans rfl; have hcz10_3 : w9.cell? ⟨gb209, 3, none⟩ = some (.int .i64 a0_3) := (blk_cell BK209.out 3).trans rfl; have hcz10_4 : w9.cell? ⟨gb209, 4, none⟩ = some (.slice A0_4 l0_4.length c0_4) := (blk_cell BK209.out 4).trans rfl; have hcz10_5 : w9.cell? ⟨gb209, 5, none⟩ = some (.slice A0_5 l0_5.length c0_5) := (blk_cell BK209.out 5).trans rfl; have hcz10_6 : w9.cell? ⟨gb209, 6, none⟩ = some (.int .i64 a0_6) := (blk_cell BK209.out 6).trans rfl; have hcz10_7 : w9.cell? ⟨gb209, 7, none⟩ = some (.int .i64 a0_7) := (blk_cell BK209.out 7).trans rfl; have hcz10_8 : w9.cell? ⟨gb209, 8, none⟩ = some (.int .i64 a0_8) := (blk_cell BK209.out 8).trans rfl; have hfz10_0 := blk_frozen BK209.out 0; have hfz10_1 := blk_frozen BK209.out 1; have hfz10_2 := blk_frozen BK209.out 2; have hfz10_3 := blk_frozen BK209.out 3; have hfz10_4 := blk_frozen BK209.out 4; have hfz10_5 := blk_frozen BK209.out 5; have hfz10_6 := blk_frozen BK209.out 6; have hfz10_7 := blk_frozen BK209.out 7; have hfz10_8 := blk_frozen BK209.out 8) | ((with_reducible refine gate_callee (f := 37) rfl ?_); refine goesL_ (some 23) rfl rfl Tryd.func37 (by kernel_rfl) rfl #[.int .i64 a0_3] rfl (by (try simp only [List.map_toArray, List.map_cons, List.map_nil]); first | done | rfl | (simp only [List.length_drop, List.length_take]; rfl)) ?_; (with_reducible refine (taps_Blur.calls k a0_3 t214 t215 _ A8.out).mono ?_); rintro e w11 ⟨v216, rfl, ho0, hb⟩; refine ⟨_, rfl, ?_⟩; have n0_ := Aside0.mk (Kd.R_lower (Kd.R_newM (M := fun k_ => (w.heap.size ≤ k_)) ho0 (below_size (by repeat (first | (with_reducible first | exact HB.out | apply below_alloc | apply pw_below_drewN | apply below_drew1 | refine below_set ?_ GE209.out) | exact HB.out))) (fun k_ h_ => h_)) (below_size (by repeat (first | (with_reducible first | exact HB.out | apply below_alloc | apply pw_below_drewN | apply below_drew1 | refine below_set ?_ GE209.out) | exact HB.out)))); have n1_ := Aside0.mk (blk_below (g := gb209) (o := .cells #[.int .i64 a0_0, .int .i64 a0_1, .int .i64 a0_2, .int .i64 a0_3, .slice A0_4 l0_4.length c0_4, .slice A0_5 l0_5.length c0_5, .int .i64 a0_6, .int .i64 a0_7, .int .i64 a0_8] 28 (0, 0)) (by (with_reducible repeat (first | refine blk_drewN ?_ _ | refine blk_drew ?_ | refine blk_alloc ?_ _)); exact BK209.out) hb); have n2_ := Aside0.mk (below_step (by repeat (first | (with_reducible first | exact HB.out | apply below_alloc | apply pw_below_drewN | apply below_drew1 | refine below_set ?_ GE209.out) | exact HB.out)) hb); clear BK209; clear HB; have HO217 := n0_; have BK209 := n1_; have HB := n2_; clear n0_ n1_ n2_; (try clear hb); (try clear hb2); (try clear hk); (try clear hi); (try clear ho0)))
   go_ret3
   exact ⟨_, _, by first | rfl | (simp [errW_none, errW_some] <;> rfl) | (simp [*, errW_none, errW_some] <;> rfl), Kd.R_V (by (with_reducible repeat (first | apply Kd.R_alloc | apply Kd.R_drewN | apply Kd.R_drew)); exact Kd.R_mono HO217.out (fun _ hk => hk.1)), Kd.R_V (by (with_reducible repeat (first | apply Kd.R_alloc | apply Kd.R_drewN | apply Kd.R_drew)); exact Kd.R_mono HO217.out (fun _ hk => hk.1)), by repeat (first | (with_reducible first | exact HB.out | apply below_alloc | apply pw_below_drewN | apply below_drew1 | refine below_set ?_ GE209.out) | exact HB.out)⟩
  ·rw [if_neg c7] at H
   have c7b0 : (a0_0 == 1) = false := beq_eq_false_iff_ne.mpr c7
   have c7b1 : (a0_0 != 1) = true := bne_iff_ne.mpr c7
   replace H := Option.bind_eq_some_iff.mp H
   obtain ⟨⟨t218, t219⟩, A120, H⟩ := H
   replace H : (if t219 = 0 then ((taps_User.f k l0_5).bind fun bt222 => (some (t218, bt222.1, bt222.2))) else (some (([] : List Int), ([] : List Int), t219))) = some (r1, r2, r3) := H
   have A12 := Aside0.mk A120
   clear A120
   by_cases c13 : t219 = 0
   ·rw [if_pos c13] at H
    have c13b0 : (t219 == 0) = true := beq_iff_eq.mpr c13
    have c13b1 : (t219 != 0) = false := bne_eq_false_iff_eq.mpr c13
    clear c13
    replace H := Option.bind_eq_some_iff.mp H
    obtain ⟨⟨t222, t223⟩, A140, H⟩ := H
    replace H : (some (t218, t222, t223)) = some (r1, r2, r3) := H
    have A14 := Aside0.mk A140
    clear A140
    simp only [Option.some.injEq, Prod.mk.injEq] at H
    obtain ⟨rfl, rfl, rfl⟩ := H
    go_enter Tryd.func29, Tryd.ntmps29
    go_wp2_with (first | ((with_reducible refine gate_dst (N := 1) rfl ?_); refine box_event ?hg (N := 1) ?hd (cs := #[.int .i64 a0_0, .int .i64 a0_1, .int .i64 a0_2, .int .i64 a0_3, .slice A0_4 l0_4.length c0_4, .slice A0_5 l0_5.length c0_5, .int .i64 a0_6, .int .i64 a0_7, .int .i64 a0_8]) (t := 28) ?hr ?_; (case hd => rfl); (case hg => rfl); (case hr => first | (go_simp; done) | (go_simp; rfl)); intro gb209 hg w15 hbox hb; have n0_ := Aside0.mk (below_step (by repeat (first | (with_reducible first | exact HB.out | apply below_alloc | apply pw_below_drewN | apply below_drew1) | exact HB.out)) hb); have n1_ := Aside0.mk (hbox); have n2_ := Aside0.mk ((by rw [hg]; exact (below_size (by repeat (first | (with_reducible first | exact HB.out | apply below_alloc | apply pw_below_drewN | apply below_drew1) | exact HB.out))) : w.heap.size ≤ gb209)); have n3_ := Aside0.mk ((by rw [hg]; exact (below_size (by repeat (first | (with_reducible first | exact HB.out | apply below_alloc | apply pw_below_drewN | apply below_drew1) | exact HB.out))) : w.heap.size ≤ gb209)); clear HB; have HB := n0_; have BK209 := n1_; have GW209 := n2_; have GE209 := n3_; clear n0_ n1_ n2_ n3_; clear hb hbox hg; have hcz16_0 : w15.cell? ⟨gb209, 0, none⟩ = some (.int .i64 a0_0) := (blk_cell BK209.out 0).trans rfl; have hcz16_1 : w15.cell? ⟨gb209, 1, none⟩ = some (.int .i64 a0_1) := (blk_cell BK209.out 1).trans rfl; have hcz16_2 : w15.cell? ⟨gb209, 2, none⟩ = some (.int .i64 a0_2) := (blk_cell BK209.out 2).trans rfl; have hcz16_3 : w15.cell? ⟨gb209, 3, none⟩ = some (.int .i64 a0_3) := (blk_cell BK209.out 3).trans rfl; have hcz16_4 : w15.cell? ⟨gb209, 4, none⟩ = some (.slice A0_4 l0_4.length c0_4) := (blk_cell BK209.out 4).trans rfl; have hcz16_5 : w15.cell? ⟨gb209, 5, none⟩ = some (.slice A0_5 l0_5.length c0_5) := (blk_cell BK209.out 5).trans rfl; have hcz16_6 : w15.cell? ⟨gb209, 6, none⟩ = some (.int .i64 a0_6) := (blk_cell BK209.out 6).trans rfl; have hcz16_7 : w15.cell? ⟨gb209, 7, none⟩ = some (.int .i64 a0_7) := (blk_cell BK209.out 7).trans rfl; have hcz16_8 : w15.cell? ⟨gb209, 8, none⟩ = some (.int .i64 a0_8) := (blk_cell BK209.out 8).trans rfl; have hfz16_0 := blk_frozen BK209.out 0; have hfz16_1 := blk_frozen BK209.out 1; have hfz16_2 := blk_frozen BK209.out 2; have hfz16_3 := blk_frozen BK209.out 3; have hfz16_4 := blk_frozen BK209.out 4; have hfz16_5 := blk_frozen BK209.out 5; have hfz16_6 := blk_frozen BK209.out 6; have hfz16_7 := blk_frozen BK209.out 7; have hfz16_8 := blk_frozen BK209.out 8) | ((with_reducible refine gate_callee (f := 38) rfl ?_); refine goesL_ (some 32) rfl rfl Tryd.func38 (by kernel_rfl) rfl #[.slice A0_4 l0_4.length c0_4] rfl (by (try simp only [List.map_toArray, List.map_cons, List.map_nil]); first | done | rfl | (simp only [List.length_drop, List.length_take]; rfl)) ?_; (with_reducible refine (taps_User.calls k _ _ l0_4 t218 t219 _ ?side1 ?side2 A12.out).mono ?_); (case side1 => repeat (first | exact (Kd.C_below HR0_4.out HB.out) | (with_reducible refine Kd.C_alloc ?_ _) | (with_reducible refine Kd.C_drewN ?_ _) | (with_reducible refine Kd.C_drew ?_))); (case side2 => exact HC0_4.out); rintro e w17 ⟨v220, rfl, ho0, hb⟩; refine ⟨_, rfl, ?_⟩; have n0_ := Aside0.mk (Kd.R_lower (Kd.R_newM (M := fun k_ => (w.heap.size ≤ k_)) ho0 (below_size (by repeat (first | (with_reducible first | exact HB.out | apply below_alloc | apply pw_below_drewN | apply below_drew1 | refine below_set ?_ GE209.out) | exact HB.out))) (fun k_ h_ => h_)) (below_size (by repeat (first | (with_reducible first | exact HB.out | apply below_alloc | apply pw_below_drewN | apply below_drew1 | refine below_set ?_ GE209.out) | exact HB.out)))); have n1_ := Aside0.mk (blk_below (g := gb209) (o := .cells #[.int .i64 a0_0, .int .i64 a0_1, .int .i64 a0_2, .int .i64 a0_3, .slice A0_4 l0_4.length c0_4, .slice A0_5 l0_5.length c0_5, .int .i64 a0_6, .int .i64 a0_7, .int .i64 a0_8] 28 (0, 0)) (by (with_reducible repeat (first | refine blk_drewN ?_ _ | refine blk_drew ?_ | refine blk_alloc ?_ _)); exact BK209.out) hb); have n2_ := Aside0.mk (below_step (by repeat (first | (with_reducible first | exact HB.out | apply below_alloc | apply pw_below_drewN | apply below_drew1 | refine below_set ?_ GE209.out) | exact HB.out)) hb); clear BK209; clear HB; have HO221 := n0_; have BK209 := n1_; have HB := n2_; clear n0_ n1_ n2_; (try clear hb); (try clear hb2); (try clear hk); (try clear hi); (try clear ho0); have hcz18_0 : w17.cell? ⟨gb209, 0, none⟩ = some (.int .i64 a0_0) := (blk_cell BK209.out 0).trans rfl; have hcz18_1 : w17.cell? ⟨gb209, 1, none⟩ = some (.int .i64 a0_1) := (blk_cell BK209.out 1).trans rfl; have hcz18_2 : w17.cell? ⟨gb209, 2, none⟩ = some (.int .i64 a0_2) := (blk_cell BK209.out 2).trans rfl; have hcz18_3 : w17.cell? ⟨gb209, 3, none⟩ = some (.int .i64 a0_3) := (blk_cell BK209.out 3).trans rfl; have hcz18_4 : w17.cell? ⟨gb209, 4, none⟩ = some (.slice A0_4 l0_4.length c0_4) := (blk_cell BK209.out 4).trans rfl; have hcz18_5 : w17.cell? ⟨gb209, 5, none⟩ = some (.slice A0_5 l0_5.length c0_5) := (blk_cell BK209.out 5).trans rfl; have hcz18_6 : w17.cell? ⟨gb209, 6, none⟩ = some (.int .i64 a0_6) := (blk_cell BK209.out 6).trans rfl; have hcz18_7 : w17.cell? ⟨gb209, 7, none⟩ = some (.int .i64 a0_7) := (blk_cell BK209.out 7).trans rfl; have hcz18_8 : w17.cell? ⟨gb209, 8, none⟩ = some (.int .i64 a0_8) := (blk_cell BK209.out 8).trans rfl; have hfz18_0 := blk_frozen BK209.out 0; have hfz18_1 := blk_frozen BK209.out 1; have hfz18_2 := blk_frozen BK209.out 2; have hfz18_3 := blk_frozen BK209.out 3; have hfz18_4 := blk_frozen BK209.out 4; have hfz18_5 := blk_frozen BK209.out 5; have hfz18_6 := blk_frozen BK209.out 6; have hfz18_7 := blk_frozen BK209.out 7; have hfz18_8 := blk_frozen BK209.out 8) | ((with_reducible refine gate_callee (f := 38) rfl ?_); refine goesL_ (some 41) rfl rfl Tryd.func38 (by kernel_rfl) rfl #[.slice A0_5 l0_5.length c0_5] rfl (by (try simp only [List.map_toArray, List.map_cons, List.map_nil]); first | done | rfl | (simp only [List.length_drop, List.length_take]; rfl)) ?_; (with_reducible refine (taps_User.calls k _ _ l0_5 t222 t223 _ ?side1 ?side2 A14.out).mono ?_); (case side1 => repeat (first | exact (Kd.C_below HR0_5.out HB.out) | (with_reducible refine Kd.C_alloc ?_ _) | (with_reducible refine Kd.C_drewN ?_ _) | (with_reducible refine Kd.C_drew ?_))); (case side2 => exact HC0_5.out); rintro e w19 ⟨v224, rfl, ho0, hb⟩; refine ⟨_, rfl, ?_⟩; have n0_ := Aside0.mk (Kd.R_elder' (by (with_reducible repeat (first | apply Kd.R_alloc | apply Kd.R_drewN | apply Kd.R_drew)); exact HO221.out) (Kd.R_base ho0) hb); have n1_ := Aside0.mk (Kd.R_lower (Kd.R_new' (Kd.R_newM (M := fun k_ => (w.heap.size ≤ k_)) ho0 (below_size (by repeat (first | (with_reducible first | exact HB.out | apply below_alloc | apply pw_below_drewN | apply below_drew1 | refine below_set ?_ GE209.out) | exact HB.out))) (fun k_ h_ => h_)) (Kd.R_lt (by (with_reducible repeat (first | apply Kd.R_alloc | apply Kd.R_drewN | apply Kd.R_drew)); exact HO221.out))) (below_size (by repeat (first | (with_reducible first | exact HB.out | apply below_alloc | apply pw_below_drewN | apply below_drew1 | refine below_set ?_ GE209.out) | exact HB.out)))); have n2_ := Aside0.mk (blk_below (g := gb209) (o := .cells #[.int .i64 a0_0, .int .i64 a0_1, .int .i64 a0_2, .int .i64 a0_3, .slice A0_4 l0_4.length c0_4, .slice A0_5 l0_5.length c0_5, .int .i64 a0_6, .int .i64 a0_7, .int .i64 a0_8] 28 (0, 0)) (by (with_reducible repeat (first | refine blk_drewN ?_ _ | refine blk_drew ?_ | refine blk_alloc ?_ _)); exact BK209.out) hb); have n3_ := Aside0.mk (below_step (by repeat (first | (with_reducible first | exact HB.out | apply below_alloc | apply pw_below_drewN | apply below_drew1 | refine below_set ?_ GE209.out) | exact HB.out)) hb); clear HO221; clear BK209; clear HB; have HO221 := n0_; have HO225 := n1_; have BK209 := n2_; have HB := n3_; clear n0_ n1_ n2_ n3_; (try clear hb); (try clear hb2); (try clear hk); (try clear hi); (try clear ho0)))
    go_ret3
    exact ⟨_, _, by first | rfl | (simp [errW_none, errW_some] <;> rfl) | (simp [*, errW_none, errW_some] <;> rfl), Kd.R_V (by (with_reducible repeat (first | apply Kd.R_alloc | apply Kd.R_drewN | apply Kd.R_drew)); exact Kd.R_mono HO221.out (fun _ hk => hk.1.1)), Kd.R_V (by (with_reducible repeat (first | apply Kd.R_alloc | apply Kd.R_drewN | apply Kd.R_drew)); exact Kd.R_mono HO225.out (fun _ hk => hk.1.1)), by repeat (first | (with_reducible first | exact HB.out | apply below_alloc | apply pw_below_drewN | apply below_drew1 | refine below_set ?_ GE209.out) | exact HB.out)⟩
   ·rw [if_neg c13] at H
    have c13b0 : (t219 == 0) = false := beq_eq_false_iff_ne.mpr c13
    have c13b1 : (t219 != 0) = true := bne_iff_ne.mpr c13
    simp only [Option.some.injEq, Prod.mk.injEq] at H
    obtain ⟨rfl, rfl, rfl⟩ := H
    go_enter Tryd.func29, Tryd.ntmps29
    go_wp2_with (first | ((with_reducible refine gate_dst (N := 1) rfl ?_); refine box_event ?hg (N := 1) ?hd (cs := #[.int .i64 a0_0, .int .i64 a0_1, .int .i64 a0_2, .int .i64 a0_3, .slice A0_4 l0_4.length c0_4, .slice A0_5 l0_5.length c0_5, .int .i64 a0_6, .int .i64 a0_7, .int .i64 a0_8]) (t := 28) ?hr ?_; (case hd => rfl); (case hg => rfl); (case hr => first | (go_simp; done) | (go_simp; rfl)); intro gb209 hg w20 hbox hb; have n0_ := Aside0.mk (below_step (by repeat (first | (with_reducible first | exact HB.out | apply below_alloc | apply pw_below_drewN | apply below_drew1) | exact HB.out)) hb); have n1_ := Aside0.mk (hbox); have n2_ := Aside0.mk ((by rw [hg]; exact (below_size (by repeat (first | (with_reducible first | exact HB.out | apply below_alloc | apply pw_below_drewN | apply below_drew1) | exact HB.out))) : w.heap.size ≤ gb209)); have n3_ := Aside0.mk ((by rw [hg]; exact (below_size (by repeat (first | (with_reducible first | exact HB.out | apply below_alloc | apply pw_below_drewN | apply below_drew1) | exact HB.out))) : w.heap.size ≤ gb209)); clear HB; have HB := n0_; have BK209 := n1_; have GW209 := n2_; have GE209 := n3_; clear n0_ n1_ n2_ n3_; clear hb hbox hg; have hcz21_0 : w20.cell? ⟨gb209, 0, none⟩ = some (.int .i64 a0_0) := (blk_cell BK209.out 0).trans rfl; have hcz21_1 : w20.cell? ⟨gb209, 1, none⟩ = some (.int .i64 a0_1) := (blk_cell BK209.out 1).trans rfl; have hcz21_2 : w20.cell? ⟨gb209, 2, none⟩ = some (.int .i64 a0_2) := (blk_cell BK209.out 2).trans rfl; have hcz21_3 : w20.cell? ⟨gb209, 3, none⟩ = some (.int .i64 a0_3) := (blk_cell BK209.out 3).trans rfl; have hcz21_4 : w20.cell? ⟨gb209, 4, none⟩ = some (.slice A0_4 l0_4.length c0_4) := (blk_cell BK209.out 4).trans rfl; have hcz21_5 : w20.cell? ⟨gb209, 5, none⟩ = some (.slice A0_5 l0_5.length c0_5) := (blk_cell BK209.out 5).trans rfl; have hcz21_6 : w20.cell? ⟨gb209, 6, none⟩ = some (.int .i64 a0_6) := (blk_cell BK209.out 6).trans rfl; have hcz21_7 : w20.cell? ⟨gb209, 7, none⟩ = some (.int .i64 a0_7) := (blk_cell BK209.out 7).trans rfl; have hcz21_8 : w20.cell? ⟨gb209, 8, none⟩ = some (.int .i64 a0_8) := (blk_cell BK209.out 8).trans rfl; have hfz21_0 := blk_frozen BK209.out 0; have hfz21_1 := blk_frozen BK209.out 1; have hfz21_2 := blk_frozen BK209.out 2; have hfz21_3 := blk_frozen BK209.out 3; have hfz21_4 := blk_frozen BK209.out 4; have hfz21_5 := blk_frozen BK209.out 5; have hfz21_6 := blk_frozen BK209.out 6; have hfz21_7 := blk_frozen BK209.out 7; have hfz21_8 := blk_frozen BK209.out 8) | ((with_reducible refine gate_callee (f := 38) rfl ?_); refine goesL_ (some 32) rfl rfl Tryd.func38 (by kernel_rfl) rfl #[.slice A0_4 l0_4.length c0_4] rfl (by (try simp only [List.map_toArray, List.map_cons, List.map_nil]); first | done | rfl | (simp only [List.length_drop, List.length_take]; rfl)) ?_; (with_reducible refine (taps_User.calls k _ _ l0_4 t218 t219 _ ?side1 ?side2 A12.out).mono ?_); (case side1 => repeat (first | exact (Kd.C_below HR0_4.out HB.out) | (with_reducible refine Kd.C_alloc ?_ _) | (with_reducible refine Kd.C_drewN ?_ _) | (with_reducible refine Kd.C_drew ?_))); (case side2 => exact HC0_4.out); rintro e w22 ⟨v220, rfl, ho0, hb⟩; refine ⟨_, rfl, ?_⟩; have n0_ := Aside0.mk (Kd.R_lower (Kd.R_newM (M := fun k_ => (w.heap.size ≤ k_)) ho0 (below_size (by repeat (first | (with_reducible first | exact HB.out | apply below_alloc | apply pw_below_drewN | apply below_drew1 | refine below_set ?_ GE209.out) | exact HB.out))) (fun k_ h_ => h_)) (below_size (by repeat (first | (with_reducible first | exact HB.out | apply below_alloc | apply pw_below_drewN | apply below_drew1 | refine below_set ?_ GE209.out) | exact HB.out)))); have n1_ := Aside0.mk (blk_below (g := gb209) (o := .cells #[.int .i64 a0_0, .int .i64 a0_1, .int .i64 a0_2, .int .i64 a0_3, .slice A0_4 l0_4.length c0_4, .slice A0_5 l0_5.length c0_5, .int .i64 a0_6, .int .i64 a0_7, .int .i64 a0_8] 28 (0, 0)) (by (with_reducible repeat (first | refine blk_drewN ?_ _ | refine blk_drew ?_ | refine blk_alloc ?_ _)); exact BK209.out) hb); have n2_ := Aside0.mk (below_step (by repeat (first | (with_reducible first | exact HB.out | apply below_alloc | apply pw_below_drewN | apply below_drew1 | refine below_set ?_ GE209.out) | exact HB.out)) hb); clear BK209; clear HB; have HO221 := n0_; have BK209 := n1_; have HB := n2_; clear n0_ n1_ n2_; (try clear hb); (try clear hb2); (try clear hk); (try clear hi); (try clear ho0)))
    go_ret3
    exact ⟨_, _, by first | rfl | (simp [errW_none, errW_some] <;> rfl) | (simp [*, errW_none, errW_some] <;> rfl), (by first | exact Kd.V_nil _ _ _ _ _ | exact Kd.R_V (Kd.R_nil _ _ _ 0 _)), (by first | exact Kd.V_nil _ _ _ _ _ | exact Kd.R_V (Kd.R_nil _ _ _ 0 _)), by repeat (first | (with_reducible first | exact HB.out | apply below_alloc | apply pw_below_drewN | apply below_drew1 | refine below_set ?_ GE209.out) | exact HB.out)⟩

-- NOT PRINTED: function 30 (table_Filter)

-- NOT PRINTED: function 19 (op_tables)

-- NOT PRINTED: function 7 (op_Make)

/-- A state of type 56 at block g of W; what its slices lead to came in by w0. -/
def IsS56 (w0 W : World) (g : Nat) (f0 : Int) (f1 : List (S38)) (f2 : Int) (f3 : Int) : Prop := ∃ A1 c1, W.heap[g]? = some (.cells #[.int .i64 f0, .slice A1 f1.length c1, .int .i64 f2, .int .i64 f3] 56 (0, 0)) ∧ w0.heap.size ≤ g ∧ Kd.C k38 w0 A1 f1.length f1
theorem IsS56.grown {w0 W : World} {g : Nat} {f0 : Int} {f1 : List (S38)} {f2 : Int} {f3 : Int} {W1 : World} {row : Option Nat} (h : IsS56 w0 W g f0 f1 f2 f3) (hw : W.grownBy W1 row) (hne : some g ≠ row) : IsS56 w0 W1 g f0 f1 f2 f3 := by
 obtain ⟨A1, c1, hb, hg, hr1⟩ := h
 exact ⟨A1, c1, blk_grown hb hw hne, hg, hr1⟩
theorem IsS56.own_neN {w0 W : World} {g : Nat} {f0 : Int} {f1 : List (S38)} {f2 : Int} {f3 : Int} {α : Type} {d : Kd α} {e : Nat} {base : Nat} {ok : Nat → Prop} {v : Value} {xs : List α} (h : IsS56 w0 W g f0 f1 f2 f3) (ho : Kd.N d e W base ok v xs) (ht : e ≠ 56) : some g ≠ v.ownBlock := by
 obtain ⟨A1, c1, hb, hg, hr1⟩ := h
 exact Kd.N_ne ho hb ht
theorem IsS56.fresh {w0 W : World} {g : Nat} {f0 : Int} {f1 : List (S38)} {f2 : Int} {f3 : Int} (h : IsS56 w0 W g f0 f1 f2 f3) : ∀ k, W.heap.size ≤ k → k ≠ g := by
 obtain ⟨A1, c1, hb, hg, hr1⟩ := h
 exact Kd.freshB hb
theorem IsS56.kept {w0 W : World} {g : Nat} {f0 : Int} {f1 : List (S38)} {f2 : Int} {f3 : Int} {W1 : World} {S : Nat → Prop} (h : IsS56 w0 W g f0 f1 f2 f3) (hk : Kept W W1 S) (hne : ¬ S g) : IsS56 w0 W1 g f0 f1 f2 f3 := by
 obtain ⟨A1, c1, hb, hg, hr1⟩ := h
 exact ⟨A1, c1, blk_kept hb hk hne, hg, hr1⟩
theorem IsS56.below {w0 W : World} {g : Nat} {f0 : Int} {f1 : List (S38)} {f2 : Int} {f3 : Int} {W1 : World} (h : IsS56 w0 W g f0 f1 f2 f3) (hw : Below W.heap.size W W1) : IsS56 w0 W1 g f0 f1 f2 f3 := h.grown (grown_of_below hw none) (by simp)
theorem IsS56.alloc {w0 W : World} {g : Nat} {f0 : Int} {f1 : List (S38)} {f2 : Int} {f3 : Int} (h : IsS56 w0 W g f0 f1 f2 f3) (o : Obj) : IsS56 w0 (W.alloc o) g f0 f1 f2 f3 := h.below (below_alloc (Below.refl _ _) o)
theorem IsS56.drewN {w0 W : World} {g : Nat} {f0 : Int} {f1 : List (S38)} {f2 : Int} {f3 : Int} (h : IsS56 w0 W g f0 f1 f2 f3) (m : Nat) : IsS56 w0 (W.drewN m) g f0 f1 f2 f3 := h
theorem IsS56.drew {w0 W : World} {g : Nat} {f0 : Int} {f1 : List (S38)} {f2 : Int} {f3 : Int} (h : IsS56 w0 W g f0 f1 f2 f3) : IsS56 w0 W.drew g f0 f1 f2 f3 := h
theorem IsS56.at_ {w0 W : World} {g : Nat} {f0 : Int} {f1 : List (S38)} {f2 : Int} {f3 : Int} {w' : World} {m : Nat} (hq : W.drewN m = w') (h : IsS56 w0 W g f0 f1 f2 f3) : IsS56 w0 w' g f0 f1 f2 f3 := by subst hq; exact IsS56.drewN h m
theorem IsS56.apart {w0 W : World} {g : Nat} {f0 : Int} {f1 : List (S38)} {f2 : Int} {f3 : Int} {α : Type} {d : Kd α} {e : Nat} {base : Nat} {ok : Nat → Prop} {v : Value} {xs : List α} (h : IsS56 w0 W g f0 f1 f2 f3) (ho : d.R e W base ok v xs) (ht : ∀ q, q ∈ e :: d.E → q ≠ 56) : d.R e W base (fun k => ok k ∧ k ≠ g) v xs := by
 obtain ⟨A1, c1, hb, hg, hr1⟩ := h
 exact Kd.R_types ho hb ht
theorem IsS56.own_ne {w0 W : World} {g : Nat} {f0 : Int} {f1 : List (S38)} {f2 : Int} {f3 : Int} {α : Type} {d : Kd α} {e : Nat} {base : Nat} {ok : Nat → Prop} {v : Value} {xs : List α} (h : IsS56 w0 W g f0 f1 f2 f3) (ho : d.R e W base ok v xs) (ht : e ≠ 56) : some g ≠ v.ownBlock := by
 obtain ⟨A1, c1, hb, hg, hr1⟩ := h
 exact Kd.R_ne ho hb ht
theorem IsS56.apartQ {w0 W : World} {g : Nat} {f0 : Int} {f1 : List (S38)} {f2 : Int} {f3 : Int} {α : Type} {d : Kd α} {e : Nat} {base : Nat} {ok : Nat → Prop} {v : Value} {xs : List α} (h : IsS56 w0 W g f0 f1 f2 f3) (ho : d.Q e W base ok v xs) (ht : ∀ q, q ∈ e :: d.E → q ≠ 56) : d.Q e W base (fun k => ok k ∧ k ≠ g) v xs := by
 obtain ⟨A1, c1, hb, hg, hr1⟩ := h
 exact Kd.Q_types ho hb ht
theorem IsS56.own_neQ {w0 W : World} {g : Nat} {f0 : Int} {f1 : List (S38)} {f2 : Int} {f3 : Int} {α : Type} {d : Kd α} {e : Nat} {base : Nat} {ok : Nat → Prop} {v : Value} {xs : List α} (h : IsS56 w0 W g f0 f1 f2 f3) (ho : d.Q e W base ok v xs) (ht : e ≠ 56) : some g ≠ v.ownBlock := by
 obtain ⟨A1, c1, hb, hg, hr1⟩ := h
 exact Kd.Q_ne ho hb ht
theorem IsS56.apartS {w0 W : World} {g : Nat} {f0 : Int} {f1 : List (S38)} {f2 : Int} {f3 : Int} {α : Type} {d : Kd α} {e : Nat} {base : Nat} {ok : Nat → Prop} {v : Value} {xs : List α} (h : IsS56 w0 W g f0 f1 f2 f3) (ho : d.S e W base ok v xs) (ht : ∀ q, q ∈ e :: d.E → q ≠ 56) : d.S e W base (fun k => ok k ∧ k ≠ g) v xs := by
 obtain ⟨A1, c1, hb, hg, hr1⟩ := h
 exact Kd.S_types ho hb ht
theorem IsS56.own_neS {w0 W : World} {g : Nat} {f0 : Int} {f1 : List (S38)} {f2 : Int} {f3 : Int} {α : Type} {d : Kd α} {e : Nat} {base : Nat} {ok : Nat → Prop} {v : Value} {xs : List α} (h : IsS56 w0 W g f0 f1 f2 f3) (ho : d.S e W base ok v xs) (ht : e ≠ 56) : some g ≠ v.ownBlock := by
 obtain ⟨A1, c1, hb, hg, hr1⟩ := h
 exact Kd.S_ne ho hb ht
theorem IsS56.lt {w0 W : World} {g : Nat} {f0 : Int} {f1 : List (S38)} {f2 : Int} {f3 : Int} (h : IsS56 w0 W g f0 f1 f2 f3) : g < W.heap.size := by
 obtain ⟨A1, c1, hb, hg, hr1⟩ := h
 exact blk_lt hb
theorem IsS56.ge {w0 W : World} {g : Nat} {f0 : Int} {f1 : List (S38)} {f2 : Int} {f3 : Int} (h : IsS56 w0 W g f0 f1 f2 f3) : w0.heap.size ≤ g := by
 obtain ⟨A1, c1, hb, hg, hr1⟩ := h
 exact hg
theorem IsS56.ne_blk {w0 W : World} {g : Nat} {f0 : Int} {f1 : List (S38)} {f2 : Int} {f3 : Int} {a : Nat} {cs : Array Value} {t : TypeId} {fr : Nat × Nat} (h : IsS56 w0 W g f0 f1 f2 f3) (hb2 : W.heap[a]? = some (.cells cs t fr)) (ht : t ≠ 56) : g ≠ a := by
 obtain ⟨A1, c1, hb, hg, hr1⟩ := h
 rintro rfl
 rw [hb] at hb2
 injection hb2 with hb2
 injection hb2 with _ ht2
 exact ht ht2.symm
theorem IsS56.far {w0 W : World} {g : Nat} {f0 : Int} {f1 : List (S38)} {f2 : Int} {f3 : Int} {p : Addr} (h : IsS56 w0 W g f0 f1 f2 f3) (hne : g ≠ p.block) (u : Value) : IsS56 w0 (W.setCell p u) g f0 f1 f2 f3 := by
 obtain ⟨A1, c1, hb, hg, hr1⟩ := h
 exact ⟨A1, c1, blk_far hb hne u, hg, hr1⟩
theorem cellS56_0 {W : World} {g : Nat} {A1 : Option Addr} {c1 : Nat} {f0 : Int} {f1 : List (S38)} {f2 : Int} {f3 : Int} (h : W.heap[g]? = some (.cells #[.int .i64 f0, .slice A1 f1.length c1, .int .i64 f2, .int .i64 f3] 56 (0, 0))) : W.cell? ⟨g, 0, none⟩ = some (.int .i64 f0) := (blk_cell h 0).trans rfl
theorem IsS56.set_0 {w0 W : World} {g : Nat} {f0 : Int} {f1 : List (S38)} {f2 : Int} {f3 : Int} (h : IsS56 w0 W g f0 f1 f2 f3) (x : Int) : IsS56 w0 (W.setCell ⟨g, 0, none⟩ (.int .i64 x)) g x f1 f2 f3 := by
 obtain ⟨A1, c1, hb, hg, hr1⟩ := h
 exact ⟨A1, c1, by simpa using blk_set hb 0 (.int .i64 x), hg, hr1⟩
theorem cellS56_1 {W : World} {g : Nat} {A1 : Option Addr} {c1 : Nat} {f0 : Int} {f1 : List (S38)} {f2 : Int} {f3 : Int} (h : W.heap[g]? = some (.cells #[.int .i64 f0, .slice A1 f1.length c1, .int .i64 f2, .int .i64 f3] 56 (0, 0))) : W.cell? ⟨g, 1, none⟩ = some (.slice A1 f1.length c1) := (blk_cell h 1).trans rfl
theorem cellS56_2 {W : World} {g : Nat} {A1 : Option Addr} {c1 : Nat} {f0 : Int} {f1 : List (S38)} {f2 : Int} {f3 : Int} (h : W.heap[g]? = some (.cells #[.int .i64 f0, .slice A1 f1.length c1, .int .i64 f2, .int .i64 f3] 56 (0, 0))) : W.cell? ⟨g, 2, none⟩ = some (.int .i64 f2) := (blk_cell h 2).trans rfl
theorem IsS56.set_2 {w0 W : World} {g : Nat} {f0 : Int} {f1 : List (S38)} {f2 : Int} {f3 : Int} (h : IsS56 w0 W g f0 f1 f2 f3) (x : Int) : IsS56 w0 (W.setCell ⟨g, 2, none⟩ (.int .i64 x)) g f0 f1 x f3 := by
 obtain ⟨A1, c1, hb, hg, hr1⟩ := h
 exact ⟨A1, c1, by simpa using blk_set hb 2 (.int .i64 x), hg, hr1⟩
theorem cellS56_3 {W : World} {g : Nat} {A1 : Option Addr} {c1 : Nat} {f0 : Int} {f1 : List (S38)} {f2 : Int} {f3 : Int} (h : W.heap[g]? = some (.cells #[.int .i64 f0, .slice A1 f1.length c1, .int .i64 f2, .int .i64 f3] 56 (0, 0))) : W.cell? ⟨g, 3, none⟩ = some (.int .i64 f3) := (blk_cell h 3).trans rfl
theorem IsS56.set_3 {w0 W : World} {g : Nat} {f0 : Int} {f1 : List (S38)} {f2 : Int} {f3 : Int} (h : IsS56 w0 W g f0 f1 f2 f3) (x : Int) : IsS56 w0 (W.setCell ⟨g, 3, none⟩ (.int .i64 x)) g f0 f1 f2 x := by
 obtain ⟨A1, c1, hb, hg, hr1⟩ := h
 exact ⟨A1, c1, by simpa using blk_set hb 3 (.int .i64 x), hg, hr1⟩
theorem IsS56.new (w0 W : World) (A1 : Option Addr) (c1 : Nat) (f0 : Int) (f1 : List (S38)) (f2 : Int) (f3 : Int) (hB : Below w0.heap.size w0 W) (hr1 : Kd.C k38 w0 A1 f1.length f1) : IsS56 w0 (W.alloc (.cells #[.int .i64 f0, .slice A1 f1.length c1, .int .i64 f2, .int .i64 f3] 56)) W.heap.size f0 f1 f2 f3 := ⟨A1, c1, by simpa using heap_alloc_new W _, hB.size, hr1⟩

/-! ### table_Table_From: function 13 -/
def table_Table_From.f (s0_0 : Int) (s0_1 : List (S38)) (s0_2 : Int) (s0_3 : Int) : Option (Int × Int × Int × Int) := some (s0_0, s0_0, s0_2, s0_3)
set_option maxHeartbeats 8000000 in
set_option maxRecDepth 100000 in
theorem table_Table_From.calls (g : Nat) (s0_0 : Int) (s0_1 : List (S38)) (s0_2 : Int) (s0_3 : Int) (r1 : Int) (r2 : Int) (r3 : Int) (r4 : Int) (w0 w : World) (hI : IsS56 w0 w g s0_0 s0_1 s0_2 s0_3) (hB : Below w0.heap.size w0 w) (h : table_Table_From.f s0_0 s0_1 s0_2 s0_3 = some (r1, r2, r3, r4)) :
  Calls Tryd.prog 13 #[.pointer (some ⟨g, 0, none⟩)] w fun e w' => e = .returned (.int .i64 r1) ∧ IsS56 w0 w' g r2 s0_1 r3 r4 ∧ Below w0.heap.size w0 w' ∧ KeepBut w w' g none := by
 have HI0 := Aside0.mk hI
 have HK := Aside0.mk (KeepBut.refl w g none)
 have HL := Aside0.mk hB.size
 clear hI
 have HW0 := Aside0.mk hB.size
 have HB := Aside0.mk hB
 clear hB
 have H : (some (s0_0, s0_0, s0_2, s0_3)) = some (r1, r2, r3, r4) := h
 clear h
 simp only [Option.some.injEq, Prod.mk.injEq] at H
 obtain ⟨rfl, rfl, rfl, rfl⟩ := H
 obtain ⟨ASz2_1, cSz2_1, HGz2, hgz2, HSz2_1⟩ := HI0.out
 have hcz2_0 := cellS56_0 HGz2
 have hcz2_1 := cellS56_1 HGz2
 have hcz2_2 := cellS56_2 HGz2
 have hcz2_3 := cellS56_3 HGz2
 have hfz2_0 := blk_frozen HGz2 0
 have hfz2_2 := blk_frozen HGz2 2
 have hfz2_3 := blk_frozen HGz2 3
 clear HGz2 hgz2
 go_enter Tryd.func13, Tryd.ntmps13
 go_wp2
 go_ret
 exact ⟨by first | rfl | (simp [errW_none, errW_some] <;> rfl) | (simp [*, errW_none, errW_some] <;> rfl), by repeat (first | (with_reducible first | exact HI0.out | apply IsS56.alloc | apply IsS56.drewN | apply IsS56.drew | apply IsS56.set_0 | apply IsS56.set_2 | apply IsS56.set_3) | exact HI0.out), by repeat (first | (with_reducible first | exact HB.out | apply below_alloc | apply pw_below_drewN | apply below_drew1 | refine below_set ?_ (IsS56.ge HI0.out)) | exact HB.out), by repeat (first | (with_reducible first | exact HK.out | apply KeepBut.set_ | apply keep_drewN | apply keep_drew | apply keep_alloc) | exact HK.out)⟩

/-! ### table_Table_To: function 15 -/
def table_Table_To.f (s0_0 : Int) (s0_1 : List (S38)) (s0_2 : Int) (s0_3 : Int) : Option (Int × Int × Int × Int) := some ((s0_1.length : Int), s0_0, s0_2, s0_3)
set_option maxHeartbeats 8000000 in
set_option maxRecDepth 100000 in
theorem table_Table_To.calls (g : Nat) (s0_0 : Int) (s0_1 : List (S38)) (s0_2 : Int) (s0_3 : Int) (r1 : Int) (r2 : Int) (r3 : Int) (r4 : Int) (w0 w : World) (hI : IsS56 w0 w g s0_0 s0_1 s0_2 s0_3) (hB : Below w0.heap.size w0 w) (h : table_Table_To.f s0_0 s0_1 s0_2 s0_3 = some (r1, r2, r3, r4)) :
  Calls Tryd.prog 15 #[.pointer (some ⟨g, 0, none⟩)] w fun e w' => e = .returned (.int .i64 r1) ∧ IsS56 w0 w' g r2 s0_1 r3 r4 ∧ Below w0.heap.size w0 w' ∧ KeepBut w w' g none := by
 have HI0 := Aside0.mk hI
 have HK := Aside0.mk (KeepBut.refl w g none)
 have HL := Aside0.mk hB.size
 clear hI
 have HW0 := Aside0.mk hB.size
 have HB := Aside0.mk hB
 clear hB
 have H : (some ((s0_1.length : Int), s0_0, s0_2, s0_3)) = some (r1, r2, r3, r4) := h
 clear h
 simp only [Option.some.injEq, Prod.mk.injEq] at H
 obtain ⟨rfl, rfl, rfl, rfl⟩ := H
 obtain ⟨ASz2_1, cSz2_1, HGz2, hgz2, HSz2_1⟩ := HI0.out
 have hcz2_0 := cellS56_0 HGz2
 have hcz2_1 := cellS56_1 HGz2
 have hcz2_2 := cellS56_2 HGz2
 have hcz2_3 := cellS56_3 HGz2
 have hfz2_0 := blk_frozen HGz2 0
 have hfz2_2 := blk_frozen HGz2 2
 have hfz2_3 := blk_frozen HGz2 3
 clear HGz2 hgz2
 go_enter Tryd.func15, Tryd.ntmps15
 go_wp2
 go_ret
 exact ⟨by first | rfl | (simp [errW_none, errW_some] <;> rfl) | (simp [*, errW_none, errW_some] <;> rfl), by repeat (first | (with_reducible first | exact HI0.out | apply IsS56.alloc | apply IsS56.drewN | apply IsS56.drew | apply IsS56.set_0 | apply IsS56.set_2 | apply IsS56.set_3) | exact HI0.out), by repeat (first | (with_reducible first | exact HB.out | apply below_alloc | apply pw_below_drewN | apply below_drew1 | refine below_set ?_ (IsS56.ge HI0.out)) | exact HB.out), by repeat (first | (with_reducible first | exact HK.out | apply KeepBut.set_ | apply keep_drewN | apply keep_drew | apply keep_alloc) | exact HK.out)⟩

-- NOT PRINTED: function 20 (slices_Clone_int64_int64)

-- NOT PRINTED: function 9 (table_Table_Line)

end Go.Proofs.YtebipmdopdogkaaDoor.QA
