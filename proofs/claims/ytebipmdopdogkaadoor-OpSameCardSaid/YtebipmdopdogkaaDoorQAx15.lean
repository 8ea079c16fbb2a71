-- Written by wip/tools/pp.py over the kit's print.py; not trusted: Lean checks it.
import Derived.Test.YtebipmdopdogkaaDoorQAx0
import Derived.Test.YtebipmdopdogkaaDoorQAx14
namespace Go.Proofs.YtebipmdopdogkaaDoor.QA
open Go.Proofs.YtebipmdopdogkaaDoor.T
open Go.RowKit Go.Proofs.YtebipmdopdogkaaDoorW.PrintWords Go.Proofs.YtebipmdopdogkaaDoorW.PrintLast Go.Proofs.YtebipmdopdogkaaDoorW.PrintMore
attribute [local go_sem] ext_call max2_int min2_int max_two min_two max_three min_three max_four min_four   -- for this text's walks alone
set_option linter.unusedVariables false
set_option linter.unusedSimpArgs false

/-! ### taps_Gaussian: function 34 -/
mutual
def taps_Gaussian.j0 : Nat → Int → Bool → Option (List Int × Int)
 | 0, _, _ => none
 | k + 1, x0, x12 => if x12 = true then (some (([] : List Int), 7)) else (taps_Gaussian.l0 k x0 ((wrap64 ((wrap64 ((wrap64 (3 * x0)) + 65536)) - 1)) / 65536) ([] : List Int) (wrap64 (-((wrap64 ((wrap64 ((wrap64 (3 * x0)) + 65536)) - 1)) / 65536))))
def taps_Gaussian.l0 : Nat → Int → Int → List Int → Int → Option (List Int × Int)
 | 0, _, _, _, _ => none
 | k + 1, x0, x4, x5, x6 => if x6 ≤ x4 then ((expo_Gauss.f k x6 x0).bind fun t189 => (if x5.length < 17592186044416 then (taps_Gaussian.l0 k x0 x4 (x5 ++ [t189]) (wrap64 (x6 + 1))) else (none))) else (some (x5, 0))
end
def taps_Gaussian.f (k : Nat) (a0 : Int) : Option (List Int × Int) := if a0 < 1 then (taps_Gaussian.j0 k a0 true) else (taps_Gaussian.j0 k a0 (decide (a0 > 4194304)))
theorem taps_Gaussian.mono_l : ∀ k, (∀ y0 y1, LeO (taps_Gaussian.j0 k y0 y1) (taps_Gaussian.j0 (k + 1) y0 y1)) ∧ (∀ y0 y1 y2 y3, LeO (taps_Gaussian.l0 k y0 y1 y2 y3) (taps_Gaussian.l0 (k + 1) y0 y1 y2 y3))
 | 0 => ⟨fun _ _ r h => by simp [taps_Gaussian.j0] at h, fun _ _ _ _ r h => by simp [taps_Gaussian.l0] at h⟩
 | k + 1 => by
  obtain ⟨ih0, ih1⟩ := taps_Gaussian.mono_l k
  refine ⟨?_, ?_⟩
  ·intro y0 y1
   unfold taps_Gaussian.j0
   repeat' first
   | (with_reducible exact ih0 _ _)
   | (with_reducible exact ih1 _ _ _ _)
   | (with_reducible exact expo_Gauss.mono _ _ _)
   | (with_reducible exact LeO.refl _)
   | (with_reducible exact LeO.none _)
   | (with_reducible refine LeO.ite ?_ ?_)
   | (with_reducible refine LeO.bind ?_ (fun _ => ?_))
   | exact ih0 _ _
   | exact ih1 _ _ _ _
   | exact expo_Gauss.mono _ _ _
   | exact LeO.none _
   | refine LeO.ite ?_ ?_
   | refine LeO.bind ?_ (fun _ => ?_)
  ·intro y0 y1 y2 y3
   unfold taps_Gaussian.l0
   repeat' first
   | (with_reducible exact ih0 _ _)
   | (with_reducible exact ih1 _ _ _ _)
   | (with_reducible exact expo_Gauss.mono _ _ _)
   | (with_reducible exact LeO.refl _)
   | (with_reducible exact LeO.none _)
   | (with_reducible refine LeO.ite ?_ ?_)
   | (with_reducible refine LeO.bind ?_ (fun _ => ?_))
   | exact ih0 _ _
   | exact ih1 _ _ _ _
   | exact expo_Gauss.mono _ _ _
   | exact LeO.none _
   | refine LeO.ite ?_ ?_
   | refine LeO.bind ?_ (fun _ => ?_)
theorem taps_Gaussian.mono : ∀ a0 k, LeO (taps_Gaussian.f k a0) (taps_Gaussian.f (k + 1) a0) := by
 intro a0 k
 obtain ⟨ih0, ih1⟩ := taps_Gaussian.mono_l k
 unfold taps_Gaussian.f
 repeat' first
   | (with_reducible exact ih0 _ _)
   | (with_reducible exact ih1 _ _ _ _)
   | (with_reducible exact expo_Gauss.mono _ _ _)
   | (with_reducible exact LeO.refl _)
   | (with_reducible exact LeO.none _)
   | (with_reducible refine LeO.ite ?_ ?_)
   | (with_reducible refine LeO.bind ?_ (fun _ => ?_))
   | exact ih0 _ _
   | exact ih1 _ _ _ _
   | exact expo_Gauss.mono _ _ _
   | exact LeO.none _
   | refine LeO.ite ?_ ?_
   | refine LeO.bind ?_ (fun _ => ?_)
set_option maxHeartbeats 8000000 in
set_option maxRecDepth 100000 in
theorem taps_Gaussian.calls (k : Nat) (a0 : Int) (r1 : List Int) (r2 : Int) (w : World) (h : taps_Gaussian.f k a0 = some (r1, r2)) :
  Calls Tryd.prog 34 #[.int .i64 a0] w fun e w' => ∃ v0_ : Value, e = .returned (.tuple #[v0_, .int .i64 r2]) ∧ Kd.R (Kd.int .i64) 2 w' w.heap.size (fun _ => True) v0_ r1 ∧ Below w.heap.size w w' := by
 have HB := Aside0.mk (Below.refl w.heap.size w)
 have H : (if a0 < 1 then (taps_Gaussian.j0 k a0 true) else (taps_Gaussian.j0 k a0 (decide (a0 > 4194304)))) = some (r1, r2) := h
 clear h
 have HC2 := Aside0.mk H
 clear H
 go_enter Tryd.func34, Tryd.ntmps34
 go_upto_region 1 with (fail)
 go_cut [12] (fun v12 wc => ∃ (kq : Nat) (x12_1 : Bool), v12 = .bool x12_1 ∧ Aside0 (taps_Gaussian.j0 kq a0 x12_1 = some (r1, r2)) ∧ Aside0 (kq ≤ k) ∧ Aside0 (Below w.heap.size w wc))
 case first =>
  have H := HC2.out
  clear HC2
  by_cases c3 : a0 < 1
  ·rw [if_pos c3] at H
   have c3b0 : decide (a0 < 1) = true := decide_eq_true c3
   clear c3
   (first | rw [c3b0] | (simp only [i64_w, i32_w]; rw [c3b0]) | skip)
   have H' := Aside0.mk H
   clear H
   go_wp2
   go_meet
   case rel => exact ⟨_, (true), (by first | rfl | (simp; done) | (simp [*]; done)), H', ⟨by first | omega | exact Nat.le_refl _⟩, ⟨by repeat (first | (with_reducible first | exact HB.out | apply below_alloc | apply pw_below_drewN | apply below_drew1) | exact HB.out)⟩⟩
  ·rw [if_neg c3] at H
   have c3b0 : decide (a0 < 1) = false := decide_eq_false c3
   clear c3
   (first | rw [c3b0] | (simp only [i64_w, i32_w]; rw [c3b0]) | skip)
   have H' := Aside0.mk H
   clear H
   go_wp2
   go_meet
   case rel => exact ⟨_, (decide (a0 > 4194304)), (by first | rfl | (simp; done) | (simp [*]; done)), H', ⟨by first | omega | exact Nat.le_refl _⟩, ⟨by repeat (first | (with_reducible first | exact HB.out | apply below_alloc | apply pw_below_drewN | apply below_drew1) | exact HB.out)⟩⟩
 case rest =>
  clear HC2
  try clear p2
  try clear c3
  try clear c3b0
  obtain ⟨kq, x12_1, rfl, HA, HJ1, HB⟩ := hcut
  cases kq with
  | zero => exact absurd HA.out (by simp [taps_Gaussian.j0])
  | succ kj1 =>
   have H := HA.out
   clear HA
   simp only [taps_Gaussian.j0] at H
   by_cases c4 : x12_1 = true
   ·subst c4
    have H1 : (some (([] : List Int), 7)) = some (r1, r2) := by rw [if_pos rfl] at H; exact H
    clear H
    have H := H1
    clear H1
    simp only [Option.some.injEq, Prod.mk.injEq] at H
    obtain ⟨rfl, rfl⟩ := H
    go_wp2
    go_ret2
    exact ⟨_, by first | rfl | (simp [errW_none, errW_some] <;> rfl) | (simp [*, errW_none, errW_some] <;> rfl), by first | exact Kd.R_nil _ _ _ _ _ | exact Kd.N_nil _ _ _ _ _ | exact Kd.V_nil _ _ _ _ _ | exact Kd.Q_nil _ _ _ _ _ | exact Kd.S_nil _ _ _ _ _, by repeat (first | (with_reducible first | exact HB.out | apply below_alloc | apply pw_below_drewN | apply below_drew1) | exact HB.out)⟩
   ·replace c4 := Bool.eq_false_iff.mpr c4
    subst c4
    have H1 : (taps_Gaussian.l0 kj1 a0 ((wrap64 ((wrap64 ((wrap64 (3 * a0)) + 65536)) - 1)) / 65536) ([] : List Int) (wrap64 (-((wrap64 ((wrap64 ((wrap64 (3 * a0)) + 65536)) - 1)) / 65536)))) = some (r1, r2) := by rw [if_neg (show ¬ (false = true) by decide)] at H; exact H
    clear H
    have H := H1
    clear H1
    have H' := Aside0.mk H
    clear H
    go_wp2
    go_loopg [5, 6] kj1 (fun kq v5 v6 w' => ∃ (x5_2 : List Int) (x6_2 : Int), v6 = .int .i64 x6_2 ∧ Aside0 (taps_Gaussian.l0 kq a0 ((wrap64 ((wrap64 ((wrap64 (3 * a0)) + 65536)) - 1)) / 65536) x5_2 x6_2 = some (r1, r2)) ∧ Aside0 (kq ≤ kj1) ∧ Aside0 (Kd.R (Kd.int .i64) 2 w' w.heap.size (fun _ => True) v5 x5_2) ∧ Aside0 (Below w.heap.size w w'))
    case atStart => exact ⟨(([] : List Int)), (wrap64 (-((wrap64 ((wrap64 ((wrap64 (3 * a0)) + 65536)) - 1)) / 65536))), (by first | rfl | (simp; done) | (simp [*]; done)), H', ⟨Nat.le_refl _⟩, ⟨by first | exact Kd.R_nil _ _ _ _ _ | exact Kd.N_nil _ _ _ _ _ | exact Kd.V_nil _ _ _ _ _ | exact Kd.Q_nil _ _ _ _ _ | exact Kd.S_nil _ _ _ _ _⟩, ⟨by repeat (first | (with_reducible first | exact HB.out | apply below_alloc | apply pw_below_drewN | apply below_drew1) | exact HB.out)⟩⟩
    case round =>
     clear H'
     try clear p2
     try clear c3
     try clear c3b0
     try clear c4
     try clear p2
     obtain ⟨x5_2, x6_2, rfl, HA, HK2, HO_5, HB⟩ := hrel
     cases gk with
     | zero => exact absurd HA.out (by simp [taps_Gaussian.l0])
     | succ k2 =>
      have H := HA.out
      clear HA
      simp only [taps_Gaussian.l0] at H
      by_cases c5 : x6_2 ≤ ((wrap64 ((wrap64 ((wrap64 (3 * a0)) + 65536)) - 1)) / 65536)
      ·rw [if_pos c5] at H
       have c5b0 : decide (x6_2 ≤ ((wrap64 ((wrap64 ((wrap64 (3 * a0)) + 65536)) - 1)) / 65536)) = true := decide_eq_true c5
       clear c5
       replace H := Option.bind_eq_some_iff.mp H
       obtain ⟨t189, A60, H⟩ := H
       replace H : (if x5_2.length < 17592186044416 then (taps_Gaussian.l0 k2 a0 ((wrap64 ((wrap64 ((wrap64 (3 * a0)) + 65536)) - 1)) / 65536) (x5_2 ++ [t189]) (wrap64 (x6_2 + 1))) else (none)) = some (r1, r2) := H
       have A6 := Aside0.mk A60
       clear A60
       by_cases c7 : x5_2.length < 17592186044416
       ·rw [if_pos c7] at H
        have LMc7 := Aside0.mk c7
        clear c7
        obtain ⟨y190, hy190⟩ : ∃ y_ : List Int, y_ = (x5_2 ++ [t189]) := ⟨_, rfl⟩
        replace H : (taps_Gaussian.l0 k2 a0 ((wrap64 ((wrap64 ((wrap64 (3 * a0)) + 65536)) - 1)) / 65536) y190 (wrap64 (x6_2 + 1))) = some (r1, r2) := by first | (rw [hy190]; with_reducible exact H) | (have H2_ := (Option.bind_some _ _).symm.trans H; rw [hy190]; with_reducible exact H2_) | (have H2_ := (Option.bind_some _ _).symm.trans H; with_reducible exact H2_) | with_reducible exact H | (rw [hy190]; exact H) | exact H
        have Ny190 := Aside0.mk hy190
        clear hy190
        have H' := Aside0.mk H
        clear H
        go_wp2_with (first | ((with_reducible refine gate_callee (f := 49) rfl ?_); refine goesL_ (some 28) rfl rfl Tryd.func49 (by kernel_rfl) rfl #[.int .i64 x6_2, .int .i64 a0] rfl (by (try simp only [List.map_toArray, List.map_cons, List.map_nil]); first | done | rfl | (simp only [List.length_drop, List.length_take]; rfl)) ?_; (with_reducible refine (expo_Gauss.calls k2 x6_2 a0 t189 _ A6.out).mono ?_); rintro e w8 ⟨rfl, hb⟩; refine ⟨_, rfl, ?_⟩; have n0_ := Aside0.mk (Kd.R_below (by (with_reducible repeat (first | apply Kd.R_alloc | apply Kd.R_drewN | apply Kd.R_drew)); exact HO_5.out) hb); have n1_ := Aside0.mk (below_step (by repeat (first | (with_reducible first | exact HB.out | apply below_alloc | apply pw_below_drewN | apply below_drew1) | exact HB.out)) hb); clear HO_5; clear HB; have HO_5 := n0_; have HB := n1_; clear n0_ n1_; (try clear hb); (try clear hb2); (try clear hk); (try clear hi)) | ((with_reducible refine gate_builtin (b := .append) (xs := #[.tmp 25, .tmp 29]) rfl ?_); at_builtin; refine Kd.R_append (Kd.int .i64) (w0 := w) w.heap.size rfl (.tmp 25) (.tmp 29) 25 2 (.int .i64 0) 8 rfl Tryd.underlying25 info2 rfl (by decide) (by omega) u5 x5_2 t189 [.int .i64 t189] (fun _ => True) (fun _ => False) rfl rfl ?aP (fun _ hk => hk.elim) ?aF ?aO ?aB ?aS ?aL ?_; (case aP => exact rfl); (case aB => exact (by repeat (first | (with_reducible first | exact HB.out | apply below_alloc | apply pw_below_drewN | apply below_drew1) | exact HB.out))); (case aF => exact (fun _ _ => trivial)); (case aO => exact (by (with_reducible repeat (first | apply Kd.R_alloc | apply Kd.R_drewN | apply Kd.R_drew)); exact HO_5.out)); (case aS => exact (below_size (by repeat (first | (with_reducible first | exact HB.out | apply below_alloc | apply pw_below_drewN | apply below_drew1) | exact HB.out)))); (case aL => have := LMc7.out; omega); intro v191 w9 ho hb hg hat; rw [← Ny190.out] at ho; have n0_ := Aside0.mk (hb); have n1_ := Aside0.mk (ho); clear HB; clear HO_5; have HB := n0_; have HO192 := n1_; clear n0_ n1_; clear ho hb hg hat))
        go_roundg k2
        case measure => have := HJ1.out; have := HK2.out; omega
        case rel => exact ⟨(y190), (wrap64 (x6_2 + 1)), (by first | rfl | (simp; done) | (simp [*]; done)), H', ⟨by have := HJ1.out; have := HK2.out; omega⟩, ⟨by (with_reducible repeat (first | apply Kd.R_alloc | apply Kd.R_drewN | apply Kd.R_drew)); exact HO192.out⟩, ⟨by repeat (first | (with_reducible first | exact HB.out | apply below_alloc | apply pw_below_drewN | apply below_drew1) | exact HB.out)⟩⟩
       ·rw [if_neg c7] at H
        exact absurd H (by simp)
      ·rw [if_neg c5] at H
       have c5b0 : decide (x6_2 ≤ ((wrap64 ((wrap64 ((wrap64 (3 * a0)) + 65536)) - 1)) / 65536)) = false := decide_eq_false c5
       clear c5
       simp only [Option.some.injEq, Prod.mk.injEq] at H
       obtain ⟨rfl, rfl⟩ := H
       go_wp2
       go_ret2
       exact ⟨_, by first | rfl | (simp [errW_none, errW_some] <;> rfl) | (simp [*, errW_none, errW_some] <;> rfl), by (with_reducible repeat (first | apply Kd.R_alloc | apply Kd.R_drewN | apply Kd.R_drew)); exact HO_5.out, by repeat (first | (with_reducible first | exact HB.out | apply below_alloc | apply pw_below_drewN | apply below_drew1) | exact HB.out)⟩

end Go.Proofs.YtebipmdopdogkaaDoor.QA
