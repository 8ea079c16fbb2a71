/- Joined by wip/tools/bundle.py out of: QAx16 H06r QAx17 QAx18 QAx21. -/
import Derived.Test.YtkdmebekabmkkaaDoorBPlanNone4
import Derived.Test.YtkdmebekabmkkaaDoorBPlanNone6
import Derived.Test.YtkdmebekabmkkaaDoorBPlanNone9
import Derived.Test.YtkdmebekabmkkaaDoorBPlanNone7
import Derived.Test.YtkdmebekabmkkaaDoorBPlanNone0
namespace Go.Proofs.YtkdmebekabmkkaaDoor.QA
open Go.Proofs.YtkdmebekabmkkaaDoor.T
open Go.RowKit Go.Proofs.YtkdmebekabmkkaaDoorW.PrintWords Go.Proofs.YtkdmebekabmkkaaDoorW.PrintLast Go.Proofs.YtkdmebekabmkkaaDoorW.PrintMore
attribute [local go_sem] ext_call max2_int min2_int max_two min_two max_three min_three max_four min_four   -- for this text's walks alone
set_option linter.unusedVariables false
set_option linter.unusedSimpArgs false
mutual
def taps_User.j0 : Nat → List Int → Int → Bool → Option (List Int × Int)
 | 0, _, _, _ => none
 | k + 1, x0, x4, x26 => if x26 = true then (some (([] : List Int), 7)) else (taps_User.l0 k x4 ([] : List Int) x0 (x0.length : Int) 0)
def taps_User.l0 : Nat → Int → List Int → List Int → Int → Int → Option (List Int × Int)
 | 0, _, _, _, _, _ => none
 | k + 1, x4, x5, x27, x28, x29 => if x29 < x28 then (if 0 ≤ x29 then (if x29 < (x27.length : Int) then ((wide_MulDiv.f k (rd x27 x29) 1073741824 x4).bind fun t195 => (if x5.length < 17592186044416 then (taps_User.l0 k x4 (x5 ++ [t195]) x27 x28 (wrap64 (x29 + 1))) else (none))) else (none)) else (none)) else (some (x5, 0))
end
def taps_User.f (k : Nat) (l0 : List Int) : Option (List Int × Int) := (taps_Size.f k l0).bind fun t193 => (if ((l0.length : Int) % 2) = 0 then (taps_User.j0 k l0 t193 true) else (if (l0.length : Int) > 1024 then (taps_User.j0 k l0 t193 true) else (if t193 < 1 then (taps_User.j0 k l0 t193 true) else (taps_User.j0 k l0 t193 (decide (t193 > 1048576))))))
theorem taps_User.mono_l : ∀ k, (∀ y0 y1 y2, LeO (taps_User.j0 k y0 y1 y2) (taps_User.j0 (k + 1) y0 y1 y2)) ∧ (∀ y0 y1 y2 y3 y4, LeO (taps_User.l0 k y0 y1 y2 y3 y4) (taps_User.l0 (k + 1) y0 y1 y2 y3 y4))
 | 0 => ⟨fun _ _ _ r h => by simp [taps_User.j0] at h, fun _ _ _ _ _ r h => by simp [taps_User.l0] at h⟩
 | k + 1 => by
  obtain ⟨ih0, ih1⟩ := taps_User.mono_l k
  refine ⟨?_, ?_⟩
  ·intro y0 y1 y2
   unfold taps_User.j0
   repeat' first
   | (with_reducible exact ih0 _ _ _)
   | (with_reducible exact ih1 _ _ _ _ _)
   | (with_reducible exact taps_Size.mono _ _)
   | (with_reducible exact wide_MulDiv.mono _ _ _ _)
   | (with_reducible exact LeO.refl _)
   | (with_reducible exact LeO.none _)
   | (with_reducible refine LeO.ite ?_ ?_)
   | (with_reducible refine LeO.bind ?_ (fun _ => ?_))
   | exact ih0 _ _ _
   | exact ih1 _ _ _ _ _
   | exact taps_Size.mono _ _
   | exact wide_MulDiv.mono _ _ _ _
   | exact LeO.none _
   | refine LeO.ite ?_ ?_
   | refine LeO.bind ?_ (fun _ => ?_)
  ·intro y0 y1 y2 y3 y4
   unfold taps_User.l0
   repeat' first
   | (with_reducible exact ih0 _ _ _)
   | (with_reducible exact ih1 _ _ _ _ _)
   | (with_reducible exact taps_Size.mono _ _)
   | (with_reducible exact wide_MulDiv.mono _ _ _ _)
   | (with_reducible exact LeO.refl _)
   | (with_reducible exact LeO.none _)
   | (with_reducible refine LeO.ite ?_ ?_)
   | (with_reducible refine LeO.bind ?_ (fun _ => ?_))
   | exact ih0 _ _ _
   | exact ih1 _ _ _ _ _
   | exact taps_Size.mono _ _
   | exact wide_MulDiv.mono _ _ _ _
   | exact LeO.none _
   | refine LeO.ite ?_ ?_
   | refine LeO.bind ?_ (fun _ => ?_)
theorem taps_User.mono : ∀ a0 k, LeO (taps_User.f k a0) (taps_User.f (k + 1) a0) := by
 intro a0 k
 obtain ⟨ih0, ih1⟩ := taps_User.mono_l k
 unfold taps_User.f
 repeat' first
   | (with_reducible exact ih0 _ _ _)
   | (with_reducible exact ih1 _ _ _ _ _)
   | (with_reducible exact taps_Size.mono _ _)
   | (with_reducible exact wide_MulDiv.mono _ _ _ _)
   | (with_reducible exact LeO.refl _)
   | (with_reducible exact LeO.none _)
   | (with_reducible refine LeO.ite ?_ ?_)
   | (with_reducible refine LeO.bind ?_ (fun _ => ?_))
   | exact ih0 _ _ _
   | exact ih1 _ _ _ _ _
   | exact taps_Size.mono _ _
   | exact wide_MulDiv.mono _ _ _ _
   | exact LeO.none _
   | refine LeO.ite ?_ ?_
   | refine LeO.bind ?_ (fun _ => ?_)
set_option maxHeartbeats 8000000 in
set_option maxRecDepth 100000 in
theorem taps_User.calls (k : Nat) (A0 : Option Addr) (c0 : Nat) (l0 : List Int) (r1 : List Int) (r2 : Int) (w : World) (hr0 : Kd.C (Kd.int .i64) w A0 l0.length l0) (hc0 : l0.length ≤ c0) (h : taps_User.f k l0 = some (r1, r2)) :
  Calls Tryd.prog 44 #[.slice A0 l0.length c0] w fun e w' => ∃ v0_ : Value, e = .returned (.tuple #[v0_, .int .i64 r2]) ∧ Kd.R (Kd.int .i64) 2 w' w.heap.size (fun _ => True) v0_ r1 ∧ Below w.heap.size w w' := by
 have HR0 := Aside0.mk hr0
 have HC0 := Aside0.mk hc0
 clear hr0 hc0
 have HB := Aside0.mk (Below.refl w.heap.size w)
 have H : ((taps_Size.f k l0).bind fun t193 => (if ((l0.length : Int) % 2) = 0 then (taps_User.j0 k l0 t193 true) else (if (l0.length : Int) > 1024 then (taps_User.j0 k l0 t193 true) else (if t193 < 1 then (taps_User.j0 k l0 t193 true) else (taps_User.j0 k l0 t193 (decide (t193 > 1048576))))))) = some (r1, r2) := h
 clear h
 replace H := Option.bind_eq_some_iff.mp H
 obtain ⟨t193, A20, H⟩ := H
 replace H : (if ((l0.length : Int) % 2) = 0 then (taps_User.j0 k l0 t193 true) else (if (l0.length : Int) > 1024 then (taps_User.j0 k l0 t193 true) else (if t193 < 1 then (taps_User.j0 k l0 t193 true) else (taps_User.j0 k l0 t193 (decide (t193 > 1048576)))))) = some (r1, r2) := H
 have A2 := Aside0.mk A20
 clear A20
 have HC3 := Aside0.mk H
 clear H
 go_enter Tryd.func44, Tryd.ntmps44
 go_upto_region 2 with (first | ((with_reducible refine gate_callee (f := 56) rfl ?_); refine goesL_ (some 9) rfl rfl Tryd.func56 (by kernel_rfl) rfl #[.slice A0 l0.length c0] rfl (by (try simp only [List.map_toArray, List.map_cons, List.map_nil]); first | done | rfl | (simp only [List.length_drop, List.length_take]; rfl)) ?_; (with_reducible refine (taps_Size.calls k _ _ l0 t193 _ ?side1 ?side2 A2.out).mono ?_); (case side1 => repeat (first | exact HR0.out | (with_reducible refine Kd.C_alloc ?_ _) | (with_reducible refine Kd.C_drewN ?_ _) | (with_reducible refine Kd.C_drew ?_))); (case side2 => exact HC0.out); rintro e w4 ⟨rfl, hb⟩; refine ⟨_, rfl, ?_⟩; have n0_ := Aside0.mk (below_step (by repeat (first | (with_reducible first | exact HB.out | apply below_alloc | apply pw_below_drewN | apply below_drew1) | exact HB.out)) hb); clear HB; have HB := n0_; clear n0_; (try clear hb); (try clear hb2); (try clear hk); (try clear hi)))
 (try simp only [Act.put, List.setIfInBounds_toArray, List.set_cons_zero, List.set_cons_succ])
 go_cut [26] (fun v26 wc => ∃ (kq : Nat) (x26_2 : Bool), v26 = .bool x26_2 ∧ Aside0 (taps_User.j0 kq l0 t193 x26_2 = some (r1, r2)) ∧ Aside0 (kq ≤ k) ∧ Aside0 (Below w.heap.size w wc))
 case first =>
  have H := HC3.out
  clear HC3
  by_cases c5 : ((l0.length : Int) % 2) = 0
  ·rw [if_pos c5] at H
   have c5b0 : (((l0.length : Int) % 2) == 0) = true := beq_iff_eq.mpr c5
   have c5b1 : (((l0.length : Int) % 2) != 0) = false := bne_eq_false_iff_eq.mpr c5
   clear c5
   (first | rw [c5b0] | (simp only [i64_w, i32_w]; rw [c5b0]) | skip)
   have H' := Aside0.mk H
   clear H
   go_wp2
   go_meet
   case rel => exact ⟨_, (true), (by first | rfl | (simp; done) | (simp [*]; done)), H', ⟨by first | omega | exact Nat.le_refl _⟩, ⟨by repeat (first | (with_reducible first | exact HB.out | apply below_alloc | apply pw_below_drewN | apply below_drew1) | exact HB.out)⟩⟩
  ·rw [if_neg c5] at H
   have c5b0 : (((l0.length : Int) % 2) == 0) = false := beq_eq_false_iff_ne.mpr c5
   have c5b1 : (((l0.length : Int) % 2) != 0) = true := bne_iff_ne.mpr c5
   (first | rw [c5b0] | (simp only [i64_w, i32_w]; rw [c5b0]) | skip)
   by_cases c6 : (l0.length : Int) > 1024
   ·rw [if_pos c6] at H
    have c6b0 : decide (1024 < (l0.length : Int)) = true := decide_eq_true c6
    have c6b1 : decide (1024 < l0.length) = true := decide_eq_true (by omega)
    clear c6
    have H' := Aside0.mk H
    clear H
    go_wp2
    go_meet
    case rel => exact ⟨_, (true), (by first | rfl | (simp; done) | (simp [*]; done)), H', ⟨by first | omega | exact Nat.le_refl _⟩, ⟨by repeat (first | (with_reducible first | exact HB.out | apply below_alloc | apply pw_below_drewN | apply below_drew1) | exact HB.out)⟩⟩
   ·rw [if_neg c6] at H
    have c6b0 : decide (1024 < (l0.length : Int)) = false := decide_eq_false c6
    have c6b1 : decide (1024 < l0.length) = false := decide_eq_false (by omega)
    clear c6
    by_cases c7 : t193 < 1
    ·rw [if_pos c7] at H
     have c7b0 : decide (t193 < 1) = true := decide_eq_true c7
     clear c7
     have H' := Aside0.mk H
     clear H
     go_wp2
     go_meet
     case rel => exact ⟨_, (true), (by first | rfl | (simp; done) | (simp [*]; done)), H', ⟨by first | omega | exact Nat.le_refl _⟩, ⟨by repeat (first | (with_reducible first | exact HB.out | apply below_alloc | apply pw_below_drewN | apply below_drew1) | exact HB.out)⟩⟩
    ·rw [if_neg c7] at H
     have c7b0 : decide (t193 < 1) = false := decide_eq_false c7
     clear c7
     have H' := Aside0.mk H
     clear H
     go_wp2
     go_meet
     case rel => exact ⟨_, (decide (t193 > 1048576)), (by first | rfl | (simp; done) | (simp [*]; done)), H', ⟨by first | omega | exact Nat.le_refl _⟩, ⟨by repeat (first | (with_reducible first | exact HB.out | apply below_alloc | apply pw_below_drewN | apply below_drew1) | exact HB.out)⟩⟩
 case rest =>
  clear HC3
  try clear p2
  try clear c4
  try clear c5
  try clear c5b0
  try clear c5b1
  try clear c6
  try clear c6b0
  try clear c6b1
  try clear c7
  try clear c7b0
  obtain ⟨kq, x26_2, rfl, HA, HJ2, HB⟩ := hcut
  cases kq with
  | zero => exact absurd HA.out (by simp [taps_User.j0])
  | succ kj2 =>
   have H := HA.out
   clear HA
   simp only [taps_User.j0] at H
   by_cases c8 : x26_2 = true
   ·subst c8
    have H1 : (some (([] : List Int), 7)) = some (r1, r2) := by rw [if_pos rfl] at H; exact H
    clear H
    have H := H1
    clear H1
    simp only [Option.some.injEq, Prod.mk.injEq] at H
    obtain ⟨rfl, rfl⟩ := H
    go_wp2
    go_ret2
    exact ⟨_, by first | rfl | (simp [errW_none, errW_some] <;> rfl) | (simp [*, errW_none, errW_some] <;> rfl), by first | exact Kd.R_nil _ _ _ _ _ | exact Kd.N_nil _ _ _ _ _ | exact Kd.V_nil _ _ _ _ _ | exact Kd.Q_nil _ _ _ _ _ | exact Kd.S_nil _ _ _ _ _, by repeat (first | (with_reducible first | exact HB.out | apply below_alloc | apply pw_below_drewN | apply below_drew1) | exact HB.out)⟩
   ·replace c8 := Bool.eq_false_iff.mpr c8
    subst c8
    have H1 : (taps_User.l0 kj2 t193 ([] : List Int) l0 (l0.length : Int) 0) = some (r1, r2) := by rw [if_neg (show ¬ (false = true) by decide)] at H; exact H
    clear H
    have H := H1
    clear H1
    have H' := Aside0.mk H
    clear H
    go_wp2
    go_loopg [5, 29] kj2 (fun kq v5 v29 w' => ∃ (x5_2 : List Int) (x29_2 : Int), v29 = .int .i64 x29_2 ∧ Aside0 (taps_User.l0 kq t193 x5_2 l0 (l0.length : Int) x29_2 = some (r1, r2)) ∧ Aside0 (kq ≤ kj2) ∧ Aside0 (Kd.R (Kd.int .i64) 2 w' w.heap.size (fun _ => True) v5 x5_2) ∧ Aside0 (Below w.heap.size w w'))
    case atStart => exact ⟨(([] : List Int)), (0), (by first | rfl | (simp; done) | (simp [*]; done)), H', ⟨Nat.le_refl _⟩, ⟨by first | exact Kd.R_nil _ _ _ _ _ | exact Kd.N_nil _ _ _ _ _ | exact Kd.V_nil _ _ _ _ _ | exact Kd.Q_nil _ _ _ _ _ | exact Kd.S_nil _ _ _ _ _⟩, ⟨by repeat (first | (with_reducible first | exact HB.out | apply below_alloc | apply pw_below_drewN | apply below_drew1) | exact HB.out)⟩⟩
    case round =>
     clear H'
     try clear p2
     try clear c4
     try clear c5
     try clear c5b0
     try clear c5b1
     try clear c6
     try clear c6b0
     try clear c6b1
     try clear c7
     try clear c7b0
     try clear c8
     try clear p2
     obtain ⟨x5_2, x29_2, rfl, HA, HK2, HO_5, HB⟩ := hrel
     cases gk with
     | zero => exact absurd HA.out (by simp [taps_User.l0])
     | succ k2 =>
      have H := HA.out
      clear HA
      simp only [taps_User.l0] at H
      by_cases c9 : x29_2 < (l0.length : Int)
      ·rw [if_pos c9] at H
       have c9b0 : decide (x29_2 < (l0.length : Int)) = true := decide_eq_true c9
       clear c9
       by_cases c10 : 0 ≤ x29_2
       ·rw [if_pos c10] at H
        have c10b0 : decide (0 ≤ x29_2) = true := decide_eq_true c10
        clear c10
        by_cases c11 : x29_2 < (l0.length : Int)
        ·rw [if_pos c11] at H
         have c11b0 : decide (x29_2 < (l0.length : Int)) = true := decide_eq_true c11
         clear c11
         replace H := Option.bind_eq_some_iff.mp H
         obtain ⟨t195, A120, H⟩ := H
         replace H : (if x5_2.length < 17592186044416 then (taps_User.l0 k2 t193 (x5_2 ++ [t195]) l0 (l0.length : Int) (wrap64 (x29_2 + 1))) else (none)) = some (r1, r2) := H
         have A12 := Aside0.mk A120
         clear A120
         by_cases c13 : x5_2.length < 17592186044416
         ·rw [if_pos c13] at H
          have LMc13 := Aside0.mk c13
          clear c13
          obtain ⟨y196, hy196⟩ : ∃ y_ : List Int, y_ = (x5_2 ++ [t195]) := ⟨_, rfl⟩
          replace H : (taps_User.l0 k2 t193 y196 l0 (l0.length : Int) (wrap64 (x29_2 + 1))) = some (r1, r2) := by first | (rw [hy196]; with_reducible exact H) | (have H2_ := (Option.bind_some _ _).symm.trans H; rw [hy196]; with_reducible exact H2_) | (have H2_ := (Option.bind_some _ _).symm.trans H; with_reducible exact H2_) | with_reducible exact H | (rw [hy196]; exact H) | exact H
          have Ny196 := Aside0.mk hy196
          clear hy196
          have H' := Aside0.mk H
          clear H
          have p194 : 0 ≤ (x29_2 : Int) := of_decide_eq_true (by first | (with_reducible assumption) | assumption)
          have q194 : x29_2 < (l0.length : Int) := of_decide_eq_true (by first | (with_reducible assumption) | assumption)
          obtain ⟨ad194, e194, hx194_0⟩ := Kd.at_int HR0.out x29_2 p194 q194
          cases e194
          replace hx194_0 := (HB.out.cell (World.block_lt_of_cell? w _ hx194_0)).trans hx194_0
          replace p194 := eq_true p194
          replace q194 := eq_true q194
          go_wp2_with (first | ((with_reducible refine gate_callee (f := 47) rfl ?_); refine goesL_ (some 36) rfl rfl Tryd.func47 (by kernel_rfl) rfl #[.int .i64 (rd l0 x29_2), .int .i64 1073741824, .int .i64 t193] rfl (by (try simp only [List.map_toArray, List.map_cons, List.map_nil]); first | done | rfl | (simp only [List.length_drop, List.length_take]; rfl)) ?_; (with_reducible refine (wide_MulDiv.calls k2 (rd l0 x29_2) 1073741824 t193 t195 _ A12.out).mono ?_); rintro e w' ⟨rfl, ⟨nd, rfl⟩⟩; refine ⟨_, rfl, ?_⟩) | ((with_reducible refine gate_builtin (b := .append) (xs := #[.tmp 33, .tmp 37]) rfl ?_); (try (refine gate_guard (by rfl) ?_; dsimp only)); at_builtin; refine Kd.R_append (Kd.int .i64) (w0 := w) w.heap.size rfl (.tmp 33) (.tmp 37) 37 2 (.int .i64 0) 8 rfl Tryd.underlying37 info2 rfl (by decide) (by omega) u5 x5_2 t195 [.int .i64 t195] (fun _ => True) (fun _ => False) rfl rfl ?aP (fun _ hk => hk.elim) ?aF ?aO ?aB ?aS ?aL ?_; (case aP => exact rfl); (case aB => exact (by repeat (first | (with_reducible first | exact HB.out | apply below_alloc | apply pw_below_drewN | apply below_drew1) | exact HB.out))); (case aF => exact (fun _ _ => trivial)); (case aO => exact (by (with_reducible repeat (first | apply Kd.R_alloc | apply Kd.R_drewN | apply Kd.R_drew)); exact HO_5.out)); (case aS => exact (below_size (by repeat (first | (with_reducible first | exact HB.out | apply below_alloc | apply pw_below_drewN | apply below_drew1) | exact HB.out)))); (case aL => have := LMc13.out; omega); intro v197 w14 ho hb hg hat; rw [← Ny196.out] at ho; have n0_ := Aside0.mk (hb); have n1_ := Aside0.mk (ho); clear HB; clear HO_5; have HB := n0_; have HO198 := n1_; clear n0_ n1_; clear ho hb hg hat))
          go_roundg k2
          case measure => have := HJ2.out; have := HK2.out; omega
          case rel => exact ⟨(y196), (wrap64 (x29_2 + 1)), (by first | rfl | (simp; done) | (simp [*]; done)), H', ⟨by have := HJ2.out; have := HK2.out; omega⟩, ⟨by (with_reducible repeat (first | apply Kd.R_alloc | apply Kd.R_drewN | apply Kd.R_drew)); exact HO198.out⟩, ⟨by repeat (first | (with_reducible first | exact HB.out | apply below_alloc | apply pw_below_drewN | apply below_drew1) | exact HB.out)⟩⟩
         ·rw [if_neg c13] at H
          exact absurd H (by simp)
        ·rw [if_neg c11] at H
         exact absurd H (by simp)
       ·rw [if_neg c10] at H
        exact absurd H (by simp)
      ·rw [if_neg c9] at H
       have c9b0 : decide (x29_2 < (l0.length : Int)) = false := decide_eq_false c9
       clear c9
       simp only [Option.some.injEq, Prod.mk.injEq] at H
       obtain ⟨rfl, rfl⟩ := H
       go_wp2
       go_ret2
       exact ⟨_, by first | rfl | (simp [errW_none, errW_some] <;> rfl) | (simp [*, errW_none, errW_some] <;> rfl), by (with_reducible repeat (first | apply Kd.R_alloc | apply Kd.R_drewN | apply Kd.R_drew)); exact HO_5.out, by repeat (first | (with_reducible first | exact HB.out | apply below_alloc | apply pw_below_drewN | apply below_drew1) | exact HB.out)⟩
end Go.Proofs.YtkdmebekabmkkaaDoor.QA

namespace Go.Proofs.YtkdmebekabmkkaaDoor.QA
open Go.RowKit Go.Proofs.YtkdmebekabmkkaaDoorW.PrintWords Go.Proofs.YtkdmebekabmkkaaDoorW.PrintLast Go.Proofs.YtkdmebekabmkkaaDoorW.PrintMore Go.Proofs.YtkdmebekabmkkaaDoor.T
set_option linter.unusedVariables false
set_option linter.unusedSimpArgs false
theorem heap_setCells_const (v : Int) (b T n : Nat) : ∀ (k o : Nat) (w : World) (f : Nat → Int), w.heap[b]? = some (.cells (vals f n) T (0, 0)) →
    (w.setCells b o (List.replicate k (.int .i64 v))).heap[b]? = some (.cells (vals (fun j => if o ≤ j ∧ j < o + k then v else f j) n) T (0, 0))
  | 0, o, w, f, h => by
    rw [List.replicate_zero, World.setCells, h]
    congr 2
    exact vals_congr (fun i _ => by rw [if_neg (by omega)])
  | k + 1, o, w, f, h => by
    rw [List.replicate_succ, World.setCells]
    have h1 : (w.setCell ⟨b, o, none⟩ (.int .i64 v)).heap[b]? = some (.cells (vals (upd f o v) n) T (0, 0)) := by rw [heap_setCell_same _ _ _ _ _ _ h, vals_set]
    rw [heap_setCells_const v b T n k (o + 1) _ _ h1]
    congr 2
    refine vals_congr (fun i _ => ?_)
    unfold upd
    by_cases c : i = o
    · subst c; rw [if_pos (by omega : i ≤ i ∧ i < i + (k + 1))]; split <;> simp
    · by_cases c2 : o + 1 ≤ i ∧ i < o + 1 + k
      · rw [if_pos c2, if_pos (by omega)]
      · rw [if_neg c2, if_neg c, if_neg (by omega)]
theorem below_setCells {w w' : World} {b : Nat} (hb : w.heap.size ≤ b) : ∀ (vs : List Value) (o : Nat) (w' : World), Below w.heap.size w w' → Below w.heap.size w (w'.setCells b o vs)
  | [], _, _, h => h
  | v :: r, o, w', h => by rw [World.setCells]; exact below_setCells (w := w) (w' := w') hb r (o + 1) _ (h.setCell hb _)
set_option maxHeartbeats 8000000 in
set_option maxRecDepth 100000 in
theorem repeat_calls (A0 : Option Addr) (c0 : Nat) (v : Int) (n : Nat) (w : World) (hr0 : Kd.C (Kd.int .i64) w A0 1 [v]) (hc0 : 1 ≤ c0) (hn : 1 ≤ n ∧ n ≤ 4096) :
    Calls Tryd.prog 57 #[.slice A0 1 c0, .int .i64 n] w fun e w' => ∃ b : Nat, e = .returned (.slice (some ⟨b, 0, none⟩) n n) ∧ w.heap.size ≤ b ∧ w'.heap[b]? = some (.cells (vals (fun _ => v) n) 2 (0, 0)) ∧ Below w.heap.size w w' := by
  have mixed : Tryd.prog.follows .mixedOrders = true := by kernel_rfl
  have hmul := Tryd.bits_Mul 1 n (by omega) (by omega) w
  rw [show 1 * n / 18446744073709551616 = 0 from by omega, show 1 * n % 18446744073709551616 = n from by omega] at hmul
  have eMU : ∀ args w, (callFunc 77 args).run Tryd.prog w = .ok (.enter 77 args) w := enters_of Tryd.func77 (by kernel_rfl) rfl
  obtain ⟨ad, ea, hx0⟩ := Kd.at_int hr0 0 (by decide) (by decide)
  cases ea
  have hx : w.cell? ad = some (.int .i64 v) := by
    have e : ad.add (0 : Int).toNat = ad := by cases ad; rfl
    rw [e] at hx0; exact hx0
  have mk1 := print_make (P := Tryd.prog) 37 2 .i64 8 (by kernel_rfl) (by kernel_rfl) (by decide) n (by omega)
  have zn : ¬ ((n : Int) < 0) := by omega
  have zn2 : (0 : Int) ≤ (n : Int) := by omega
  have w1 : IntKind.u64.wrap (n : Int) = (n : Int) := by rw [u64w]; omega
  have w2 : IntKind.i64.wrap (n : Int) = (n : Int) := by rw [i64w]; exact w64_id (by omega) (by omega)
  clear hr0 hx0
  go_enter Tryd.func57, Tryd.ntmps57
  go_upto_region 7 with (go_at_fn 77; refine hmul.mono ?_; rintro e w' ⟨rfl, rfl⟩)
  obtain ⟨b, hb⟩ : ∃ b, b = w'.heap.size := ⟨_, rfl⟩
  have h0 : (w'.alloc (.cells (madeCells #[.int .i64 0] n) 2)).heap[b]? = some (.cells (vals (fun _ => 0) n) 2 (0, 0)) := by rw [hb, ha_at _ _ _ rfl, vals_made]
  have hx2 : (w'.alloc (.cells (madeCells #[.int .i64 0] n) 2)).cell? ad = some (.int .i64 v) := (Below.cell ((Below.refl w'.heap.size w').alloc (Nat.le_refl _) _) (World.block_lt_of_cell? _ _ hx)).trans hx
  have hcp := run_copy_cells (P := Tryd.prog) (w'.alloc (.cells (madeCells #[.int .i64 0] n) 2)) 37 37 3 2 b 0 n n ad 1 c0 (List.replicate 1 (.int .i64 v)) (by kernel_rfl) (by kernel_rfl) (by rw [List.length_replicate]; exact (Nat.min_eq_left hn.1).symm)
    (fun j u hj => by cases j with
      | zero => simp at hj; subst hj; exact (by cases ad; exact hx2)
      | succ j => simp at hj)
    (fun j hj => by rw [cell_of_heap (i := 0 + j) h0 (vals_get _ (by simp at hj; omega))]; rfl) (fun j hj => frozen_of_heap h0) (by simp [Value.oneCell'])
  have hbl := below_setCells (w := w') (w' := w') (b := b) (by omega) (List.replicate 1 (.int .i64 v)) 0 _ ((Below.refl w'.heap.size w').alloc (Nat.le_refl _) (.cells (madeCells #[.int .i64 0] n) 2))
  have h1 := heap_setCells_const v b 2 n 1 0 _ _ h0
  rw [List.length_replicate] at hcp
  rw [← hb]
  have HB := Aside0.mk (show w'.heap.size ≤ b by omega)
  generalize w'.alloc (.cells (madeCells #[.int .i64 0] n) 2) = W1 at hcp h0 h1 hbl ⊢
  generalize W1.setCells b 0 (List.replicate 1 (.int .i64 v)) = W2 at hcp h1 hbl
  have HBL := Aside0.mk hbl
  have H1 := Aside0.mk (show W2.heap[b]? = some (.cells (vals (fun j => if j < 1 then v else 0) n) 2 (0, 0)) by rw [h1]; congr 2; exact vals_congr (fun i _ => by by_cases c : i < 1; rw [if_pos (by omega), if_pos c]; rw [if_neg (by omega), if_neg c]))
  clear h0 h1 hbl mk1 hmul hx hx2 hb
  have hgi : goInt ((1 : Nat) : Int) = .int .i64 1 := rfl
  rw [hgi] at hcp
  go_wp2
  clear hcp hgi
  go_loopg [8] n (fun kx s8 wr => ∃ i : Nat, s8 = .int .i64 i ∧ 1 ≤ i ∧ i ≤ n ∧ n - i ≤ kx ∧ Aside0 (Below w'.heap.size w' wr) ∧ Aside0 (wr.heap[b]? = some (.cells (vals (fun j => if j < i then v else 0) n) 2 (0, 0))))
  case atStart => exact ⟨1, rfl, by omega, by omega, by omega, HBL, H1⟩
  case round =>
    clear HBL H1
    obtain ⟨i, rfl, i1, i2, hk, HBL, H1⟩ := hrel
    by_cases hlt : (i : Int) < (n : Int)
    · obtain ⟨k, hk2⟩ : ∃ k, k = min i (n - i) := ⟨_, rfl⟩
      have hk3 : 1 ≤ k ∧ k ≤ i ∧ k ≤ n - i := by omega
      have pi : (0 : Int) ≤ (i : Int) := by omega
      have qi : (i : Int) ≤ (n : Int) := by omega
      have hcp := fun m => run_copy_cells (P := Tryd.prog) (wr.drewN m) 37 37 3 2 b i (n - i) (n - i) ⟨b, 0, none⟩ i n (List.replicate k (.int .i64 v)) (by kernel_rfl) (by kernel_rfl) (by rw [List.length_replicate]; exact hk2)
        (fun j u hj => by
          have hj2 : j < k := by
            apply Classical.byContradiction; intro q
            rw [List.getElem?_eq_none (by simp; omega)] at hj; exact absurd hj (by simp)
          rw [List.getElem?_replicate, if_pos hj2] at hj
          have := cell_of_heap (i := 0 + j) (w := wr.drewN m) H1.out (vals_get _ (by omega))
          rw [if_pos (by omega)] at this
          rw [← hj, show (⟨b, 0, none⟩ : Addr).add j = ⟨b, 0 + j, none⟩ from by unfold Addr.add; split <;> simp_all]; exact this)
        (fun j hj => by rw [cell_of_heap (i := i + j) (w := wr.drewN m) H1.out (vals_get _ (by simp at hj; omega))]; rfl) (fun j hj => frozen_of_heap (w := wr.drewN m) H1.out) (by intro x hx; rw [List.eq_of_mem_replicate hx]; rfl)
      have hb2 := fun m => below_setCells (w := w') (w' := w') (b := b) HB.out (List.replicate k (.int .i64 v)) i (wr.drewN m) (pw_below_drewN HBL.out m)
      have h2 := fun m => heap_setCells_const v b 2 n k i (wr.drewN m) _ H1.out
      simp only [List.length_replicate] at hcp
      have wik : IntKind.i64.wrap ((i : Int) + (k : Int)) = (i : Int) + (k : Int) := by rw [i64w]; exact w64_id (by omega) (by omega)
      have hgi : goInt (k : Int) = .int .i64 (k : Int) := rfl
      have hcp1 : (Builtin.copy_ #[37, 37] 3 #[.slice (some ⟨b, i, none⟩) (n - i) (n - i), .slice (some ⟨b, 0, none⟩) i n]).run Tryd.prog wr.drew = .ok (.int .i64 (k : Int)) (wr.drew.setCells b i (List.replicate k (.int .i64 v))) := hcp 1
      have HB2 := Aside0.mk (hb2 1)
      have H2 := Aside0.mk (h2 1)
      clear hcp hb2 h2 hgi hk2
      go_upto_region 9 with fail
      go_region_held3 (fun _ => True) (trivial) (fail)
      have HB3 : Aside0 (Below w'.heap.size w' (wr.drew.setCells b i (List.replicate k (.int .i64 v)))) := HB2
      have H3 : Aside0 ((wr.drew.setCells b i (List.replicate k (.int .i64 v))).heap[b]? = some (.cells (vals (fun j => if i ≤ j ∧ j < i + k then v else if j < i then v else 0) n) 2 (0, 0))) := H2
      clear HB2 H2 hcp1 H1 HBL
      generalize wr.drew.setCells b i (List.replicate k (.int .i64 v)) = W3 at HB3 H3 ⊢
      go_wp2
      go_roundg (n - (i + k))
      case measure => omega
      case rel =>
        refine ⟨i + k, by simp, by omega, by omega, Nat.le_refl _, HB3, ⟨?_⟩⟩
        rw [H3.out]
        congr 2
        refine vals_congr (fun j hj => ?_)
        by_cases c1 : i ≤ j ∧ j < i + k
        · rw [if_pos c1, if_pos (by omega)]
        · rw [if_neg c1]
          by_cases c2 : j < i
          · rw [if_pos c2, if_pos (by omega)]
          · rw [if_neg c2, if_neg (by omega)]
    · have hin : i = n := by omega
      subst hin
      go_wp2
      go_ret
      refine ⟨b, rfl, HB.out, ?_, HBL.out⟩
      rw [H1.out]
      congr 2
      exact vals_congr (fun j hj => by rw [if_pos hj])
/-- What slices.Repeat answers of one number. -/
def repF (l : List Int) (c : Int) : Option (List Int) := if l.length = 1 ∧ 1 ≤ c ∧ c ≤ 4096 then some (List.replicate c.toNat (rd l 0)) else none
theorem repF_calls (A0 : Option Addr) (c0 : Nat) (l0 : List Int) (a1 : Int) (r : List Int) (w : World) (hr0 : Kd.C (Kd.int .i64) w A0 l0.length l0) (hc0 : l0.length ≤ c0) (h : repF l0 a1 = some r) :
    Calls Tryd.prog 57 #[.slice A0 l0.length c0, .int .i64 a1] w fun e w' => ∃ v0_ : Value, e = .returned v0_ ∧ Kd.R (Kd.int .i64) 2 w' w.heap.size (fun _ => True) v0_ r ∧ Below w.heap.size w w' := by
  unfold repF at h
  by_cases c : l0.length = 1 ∧ 1 ≤ a1 ∧ a1 ≤ 4096
  · rw [if_pos c] at h
    obtain rfl := Option.some.inj h
    obtain ⟨v, rfl⟩ : ∃ v, l0 = [v] := List.length_eq_one_iff.1 c.1
    obtain ⟨n, rfl⟩ := Int.eq_ofNat_of_zero_le (show 0 ≤ a1 by omega)
    refine (repeat_calls A0 c0 v n w hr0 hc0 (by omega)).mono ?_
    rintro e w' ⟨b, rfl, h1, h2, h3⟩
    refine ⟨_, rfl, ?_, h3⟩
    have e : List.replicate ((n : Int)).toNat (rd [v] 0) = (List.range n).map (fun _ => v) := by
      apply List.ext_getElem
      · simp
      · intro i h1 h2; simp [rd]
    rw [e]
    refine Kd.R_of_own ?_ (fun _ _ => trivial)
    refine ⟨by simp [encs], Or.inr ⟨b, n, vals (fun _ => v) n, by simp, h1, h2, by simp, by unfold maxLen; omega, by simp [vals_size], ?_⟩⟩
    apply List.ext_getElem
    · simp [encs, vals]
    · intro i h1 h2
      simp [encs, vals]
  · rw [if_neg c] at h; exact absurd h (by simp)
end Go.Proofs.YtkdmebekabmkkaaDoor.QA

namespace Go.Proofs.YtkdmebekabmkkaaDoor.QA
open Go.Proofs.YtkdmebekabmkkaaDoor.T
open Go.RowKit Go.Proofs.YtkdmebekabmkkaaDoorW.PrintWords Go.Proofs.YtkdmebekabmkkaaDoorW.PrintLast Go.Proofs.YtkdmebekabmkkaaDoorW.PrintMore
attribute [local go_sem] ext_call max2_int min2_int max_two min_two max_three min_three max_four min_four   -- for this text's walks alone
set_option linter.unusedVariables false
set_option linter.unusedSimpArgs false
def slices_Repeat_int64_int64.f (a0 : List Int) (a1 : Int) : Option (List Int) := repF a0 a1
theorem slices_Repeat_int64_int64.calls (A0 : Option Addr) (c0 : Nat) (l0 : List Int) (a1 : Int) (r : List Int) (w : World) (hr0 : Kd.C (Kd.int .i64) w A0 l0.length l0) (hc0 : l0.length ≤ c0) (h : slices_Repeat_int64_int64.f l0 a1 = some r) :
  Calls Tryd.prog 57 #[.slice A0 l0.length c0, .int .i64 a1] w fun e w' => ∃ v0_ : Value, e = .returned v0_ ∧ Kd.R (Kd.int .i64) 2 w' w.heap.size (fun _ => True) v0_ r ∧ Below w.heap.size w w' := repF_calls A0 c0 l0 a1 r w hr0 hc0 h
end Go.Proofs.YtkdmebekabmkkaaDoor.QA

namespace Go.Proofs.YtkdmebekabmkkaaDoor.QA
open Go.Proofs.YtkdmebekabmkkaaDoor.T
open Go.RowKit Go.Proofs.YtkdmebekabmkkaaDoorW.PrintWords Go.Proofs.YtkdmebekabmkkaaDoorW.PrintLast Go.Proofs.YtkdmebekabmkkaaDoorW.PrintMore
attribute [local go_sem] ext_call max2_int min2_int max_two min_two max_three min_three max_four min_four   -- for this text's walks alone
set_option linter.unusedVariables false
set_option linter.unusedSimpArgs false
def taps_Blur.j0 : Nat → Int → Bool → Option (List Int × Int)
 | 0, _, _ => none
 | k + 1, x0, x9 => if x9 = true then (some (([] : List Int), 7)) else ((slices_Repeat_int64_int64.f (([1] : List Int)) (wrap64 ((wrap64 (2 * x0)) + 1))).bind fun t202 => ((taps_User.f k t202).bind fun bt205 => (some (bt205.1, bt205.2))))
def taps_Blur.f (k : Nat) (a0 : Int) : Option (List Int × Int) := if a0 < 0 then (taps_Blur.j0 k a0 true) else (taps_Blur.j0 k a0 (decide (a0 > 511)))
theorem taps_Blur.mono_l : ∀ k, (∀ y0 y1, LeO (taps_Blur.j0 k y0 y1) (taps_Blur.j0 (k + 1) y0 y1))
 | 0 => fun _ _ r h => by simp [taps_Blur.j0] at h
 | k + 1 => by
  have ih0 := taps_Blur.mono_l k
  ·intro y0 y1
   unfold taps_Blur.j0
   repeat' first
   | (with_reducible exact ih0 _ _)
   | (with_reducible exact taps_User.mono _ _)
   | (with_reducible exact LeO.refl _)
   | (with_reducible exact LeO.none _)
   | (with_reducible refine LeO.ite ?_ ?_)
   | (with_reducible refine LeO.bind ?_ (fun _ => ?_))
   | exact ih0 _ _
   | exact taps_User.mono _ _
   | exact LeO.none _
   | refine LeO.ite ?_ ?_
   | refine LeO.bind ?_ (fun _ => ?_)
theorem taps_Blur.mono : ∀ a0 k, LeO (taps_Blur.f k a0) (taps_Blur.f (k + 1) a0) := by
 intro a0 k
 have ih0 := taps_Blur.mono_l k
 unfold taps_Blur.f
 repeat' first
   | (with_reducible exact ih0 _ _)
   | (with_reducible exact taps_User.mono _ _)
   | (with_reducible exact LeO.refl _)
   | (with_reducible exact LeO.none _)
   | (with_reducible refine LeO.ite ?_ ?_)
   | (with_reducible refine LeO.bind ?_ (fun _ => ?_))
   | exact ih0 _ _
   | exact taps_User.mono _ _
   | exact LeO.none _
   | refine LeO.ite ?_ ?_
   | refine LeO.bind ?_ (fun _ => ?_)
set_option maxHeartbeats 8000000 in
set_option maxRecDepth 100000 in
theorem taps_Blur.calls (k : Nat) (a0 : Int) (r1 : List Int) (r2 : Int) (w : World) (h : taps_Blur.f k a0 = some (r1, r2)) :
  Calls Tryd.prog 43 #[.int .i64 a0] w fun e w' => ∃ v0_ : Value, e = .returned (.tuple #[v0_, .int .i64 r2]) ∧ Kd.R (Kd.int .i64) 2 w' w.heap.size (fun _ => True) v0_ r1 ∧ Below w.heap.size w w' := by
 have HB := Aside0.mk (Below.refl w.heap.size w)
 have H : (if a0 < 0 then (taps_Blur.j0 k a0 true) else (taps_Blur.j0 k a0 (decide (a0 > 511)))) = some (r1, r2) := h
 clear h
 have HC2 := Aside0.mk H
 clear H
 go_enter Tryd.func43, Tryd.ntmps43
 go_upto_region 1 with (fail)
 go_cut [9] (fun v9 wc => ∃ (kq : Nat) (x9_1 : Bool), v9 = .bool x9_1 ∧ Aside0 (taps_Blur.j0 kq a0 x9_1 = some (r1, r2)) ∧ Aside0 (kq ≤ k) ∧ Aside0 (Below w.heap.size w wc))
 case first =>
  have H := HC2.out
  clear HC2
  by_cases c3 : a0 < 0
  ·rw [if_pos c3] at H
   have c3b0 : decide (a0 < 0) = true := decide_eq_true c3
   clear c3
   (first | rw [c3b0] | (simp only [i64_w, i32_w]; rw [c3b0]) | skip)
   have H' := Aside0.mk H
   clear H
   go_wp2
   go_meet
   case rel => exact ⟨_, (true), (by first | rfl | (simp; done) | (simp [*]; done)), H', ⟨by first | omega | exact Nat.le_refl _⟩, ⟨by repeat (first | (with_reducible first | exact HB.out | apply below_alloc | apply pw_below_drewN | apply below_drew1) | exact HB.out)⟩⟩
  ·rw [if_neg c3] at H
   have c3b0 : decide (a0 < 0) = false := decide_eq_false c3
   clear c3
   (first | rw [c3b0] | (simp only [i64_w, i32_w]; rw [c3b0]) | skip)
   have H' := Aside0.mk H
   clear H
   go_wp2
   go_meet
   case rel => exact ⟨_, (decide (a0 > 511)), (by first | rfl | (simp; done) | (simp [*]; done)), H', ⟨by first | omega | exact Nat.le_refl _⟩, ⟨by repeat (first | (with_reducible first | exact HB.out | apply below_alloc | apply pw_below_drewN | apply below_drew1) | exact HB.out)⟩⟩
 case rest =>
  clear HC2
  try clear p2
  try clear c3
  try clear c3b0
  obtain ⟨kq, x9_1, rfl, HA, HJ1, HB⟩ := hcut
  cases kq with
  | zero => exact absurd HA.out (by simp [taps_Blur.j0])
  | succ kj1 =>
   have H := HA.out
   clear HA
   simp only [taps_Blur.j0] at H
   by_cases c4 : x9_1 = true
   ·subst c4
    have H1 : (some (([] : List Int), 7)) = some (r1, r2) := by rw [if_pos rfl] at H; exact H
    clear H
    have H := H1
    clear H1
    simp only [Option.some.injEq, Prod.mk.injEq] at H
    obtain ⟨rfl, rfl⟩ := H
    go_wp2
    go_ret2
    exact ⟨_, by first | rfl | (simp [errW_none, errW_some] <;> rfl) | (simp [*, errW_none, errW_some] <;> rfl), by first | exact Kd.R_nil _ _ _ _ _ | exact Kd.N_nil _ _ _ _ _ | exact Kd.V_nil _ _ _ _ _ | exact Kd.Q_nil _ _ _ _ _ | exact Kd.S_nil _ _ _ _ _, by repeat (first | (with_reducible first | exact HB.out | apply below_alloc | apply pw_below_drewN | apply below_drew1) | exact HB.out)⟩
   ·replace c4 := Bool.eq_false_iff.mpr c4
    subst c4
    have H1 : ((slices_Repeat_int64_int64.f (([1] : List Int)) (wrap64 ((wrap64 (2 * a0)) + 1))).bind fun t202 => ((taps_User.f kj1 t202).bind fun bt205 => (some (bt205.1, bt205.2)))) = some (r1, r2) := by rw [if_neg (show ¬ (false = true) by decide)] at H; exact H
    clear H
    have H := H1
    clear H1
    obtain ⟨y199, hy199⟩ : ∃ y_ : List Int, y_ = (([1] : List Int)) := ⟨_, rfl⟩
    replace H : ((slices_Repeat_int64_int64.f y199 (wrap64 ((wrap64 (2 * a0)) + 1))).bind fun t202 => ((taps_User.f kj1 t202).bind fun bt205 => (some (bt205.1, bt205.2)))) = some (r1, r2) := by first | (rw [hy199]; with_reducible exact H) | (have H2_ := (Option.bind_some _ _).symm.trans H; rw [hy199]; with_reducible exact H2_) | (have H2_ := (Option.bind_some _ _).symm.trans H; with_reducible exact H2_) | with_reducible exact H | (rw [hy199]; exact H) | exact H
    have Ny199 := Aside0.mk hy199
    clear hy199
    replace H := Option.bind_eq_some_iff.mp H
    obtain ⟨t202, A50, H⟩ := H
    replace H : ((taps_User.f kj1 t202).bind fun bt205 => (some (bt205.1, bt205.2))) = some (r1, r2) := H
    have A5 := Aside0.mk A50
    clear A50
    replace H := Option.bind_eq_some_iff.mp H
    obtain ⟨⟨t205, t206⟩, A60, H⟩ := H
    replace H : (some (t205, t206)) = some (r1, r2) := H
    have A6 := Aside0.mk A60
    clear A60
    simp only [Option.some.injEq, Prod.mk.injEq] at H
    obtain ⟨rfl, rfl⟩ := H
    go_wp2_with (first | ((with_reducible refine gate_dst (N := 10) rfl ?_); refine Kd.R_lit (Kd.int .i64) _ 2 ?hg (N := 10) ?hd (xs := ([1] : List Int)) (inner := [.int .i64 1]) (ok := fun _ => True) (okp := fun _ => True) ?hr ?hp (fun _ hk => hk) trivial (Below.refl _ _) (Nat.le_refl _) (by simp) ?_; (case hd => rfl); (case hg => rfl); (case hr => first | (go_simp; done) | (go_simp; rfl)); (case hp => exact (Reps.one (show Kd.M (Kd.int .i64) _ _ _ 1 [.int .i64 1] from rfl) (Reps.none _ _))); intro v200 w7 ho8 hb hg_ hnew_; clear hg_ hnew_; (first | rw [← Ny199.out] at ho8 | (simp only [Int.reduceToNat] at ho8; rw [← Ny199.out] at ho8)); have n0_ := Aside0.mk (Kd.R_lower ho8 (below_size (by repeat (first | (with_reducible first | exact HB.out | apply below_alloc | apply pw_below_drewN | apply below_drew1) | exact HB.out)))); have n1_ := Aside0.mk (below_step (by repeat (first | (with_reducible first | exact HB.out | apply below_alloc | apply pw_below_drewN | apply below_drew1) | exact HB.out)) hb); clear HB; have HO201 := n0_; have HB := n1_; clear n0_ n1_; clear hb ho8; obtain ⟨Ao9, co9, eo9⟩ := Kd.R_slice HO201.out; subst eo9) | ((with_reducible refine gate_callee (f := 57) rfl ?_); refine goesL_ (some 14) rfl rfl Tryd.func57 (by kernel_rfl) rfl #[.slice Ao9 y199.length co9, .int .i64 (wrap64 ((wrap64 (2 * a0)) + 1))] rfl (by (try simp only [List.map_toArray, List.map_cons, List.map_nil]); first | done | rfl | (simp only [List.length_drop, List.length_take]; rfl)) ?_; (with_reducible refine (slices_Repeat_int64_int64.calls _ _ y199 (wrap64 ((wrap64 (2 * a0)) + 1)) t202 _ ?side1 ?side2 A5.out).mono ?_); (case side1 => repeat (first | exact (Kd.R_reads' HO201.out).2.2 | (with_reducible refine Kd.C_alloc ?_ _) | (with_reducible refine Kd.C_drewN ?_ _) | (with_reducible refine Kd.C_drew ?_))); (case side2 => exact (Kd.R_reads' HO201.out).2.1); rintro e w10 ⟨v203, rfl, ho0, hb⟩; refine ⟨_, rfl, ?_⟩; have n0_ := Aside0.mk (Kd.R_elder' (by (with_reducible repeat (first | apply Kd.R_alloc | apply Kd.R_drewN | apply Kd.R_drew)); exact HO201.out) (Kd.R_base ho0) hb); have n1_ := Aside0.mk (Kd.R_lower (Kd.R_new' ho0 (Kd.R_lt (by (with_reducible repeat (first | apply Kd.R_alloc | apply Kd.R_drewN | apply Kd.R_drew)); exact HO201.out))) (below_size (by repeat (first | (with_reducible first | exact HB.out | apply below_alloc | apply pw_below_drewN | apply below_drew1) | exact HB.out)))); have n2_ := Aside0.mk (below_step (by repeat (first | (with_reducible first | exact HB.out | apply below_alloc | apply pw_below_drewN | apply below_drew1) | exact HB.out)) hb); clear HO201; clear HB; have HO201 := n0_; have HO204 := n1_; have HB := n2_; clear n0_ n1_ n2_; (try clear hb); (try clear hb2); (try clear hk); (try clear hi); (try clear ho0); obtain ⟨Ao11, co11, eo11⟩ := Kd.R_slice HO204.out; subst eo11) | ((with_reducible refine gate_callee (f := 44) rfl ?_); refine goesL_ (some 15) rfl rfl Tryd.func44 (by kernel_rfl) rfl #[.slice Ao11 t202.length co11] rfl (by (try simp only [List.map_toArray, List.map_cons, List.map_nil]); first | done | rfl | (simp only [List.length_drop, List.length_take]; rfl)) ?_; (with_reducible refine (taps_User.calls kj1 _ _ t202 t205 t206 _ ?side1 ?side2 A6.out).mono ?_); (case side1 => repeat (first | exact (Kd.R_reads' HO204.out).2.2 | (with_reducible refine Kd.C_alloc ?_ _) | (with_reducible refine Kd.C_drewN ?_ _) | (with_reducible refine Kd.C_drew ?_))); (case side2 => exact (Kd.R_reads' HO204.out).2.1); rintro e w12 ⟨v207, rfl, ho0, hb⟩; refine ⟨_, rfl, ?_⟩; have n0_ := Aside0.mk (Kd.R_elder' (by (with_reducible repeat (first | apply Kd.R_alloc | apply Kd.R_drewN | apply Kd.R_drew)); exact HO201.out) (Kd.R_base ho0) hb); have n1_ := Aside0.mk (Kd.R_elder' (by (with_reducible repeat (first | apply Kd.R_alloc | apply Kd.R_drewN | apply Kd.R_drew)); exact HO204.out) (Kd.R_base ho0) hb); have n2_ := Aside0.mk (Kd.R_lower (Kd.R_new' (Kd.R_new' ho0 (Kd.R_lt (by (with_reducible repeat (first | apply Kd.R_alloc | apply Kd.R_drewN | apply Kd.R_drew)); exact HO201.out))) (Kd.R_lt (by (with_reducible repeat (first | apply Kd.R_alloc | apply Kd.R_drewN | apply Kd.R_drew)); exact HO204.out))) (below_size (by repeat (first | (with_reducible first | exact HB.out | apply below_alloc | apply pw_below_drewN | apply below_drew1) | exact HB.out)))); have n3_ := Aside0.mk (below_step (by repeat (first | (with_reducible first | exact HB.out | apply below_alloc | apply pw_below_drewN | apply below_drew1) | exact HB.out)) hb); clear HO201; clear HO204; clear HB; have HO201 := n0_; have HO204 := n1_; have HO208 := n2_; have HB := n3_; clear n0_ n1_ n2_ n3_; (try clear hb); (try clear hb2); (try clear hk); (try clear hi); (try clear ho0)))
    go_ret2
    exact ⟨_, by first | rfl | (simp [errW_none, errW_some] <;> rfl) | (simp [*, errW_none, errW_some] <;> rfl), by (with_reducible repeat (first | apply Kd.R_alloc | apply Kd.R_drewN | apply Kd.R_drew)); exact Kd.R_mono HO208.out (fun _ hk => trivial), by repeat (first | (with_reducible first | exact HB.out | apply below_alloc | apply pw_below_drewN | apply below_drew1) | exact HB.out)⟩
def op_weights.f (k : Nat) (a0_0 : Int) (a0_1 : Int) (a0_2 : Int) (a0_3 : Int) (l0_4 : List Int) (l0_5 : List Int) (a0_6 : Int) (a0_7 : Int) (a0_8 : Int) : Option (List Int × List Int × Int) := if a0_0 = 0 then ((taps_Gaussian.f k a0_2).bind fun bt210 => (some (bt210.1, bt210.1, bt210.2))) else (if a0_0 = 1 then ((taps_Blur.f k a0_3).bind fun bt214 => (some (bt214.1, bt214.1, bt214.2))) else ((taps_User.f k l0_4).bind fun bt218 => (if bt218.2 = 0 then ((taps_User.f k l0_5).bind fun bt222 => (some (bt218.1, bt222.1, bt222.2))) else (some (([] : List Int), ([] : List Int), bt218.2)))))
theorem op_weights.mono : ∀ a0 a1 a2 a3 a4 a5 a6 a7 a8 k, LeO (op_weights.f k a0 a1 a2 a3 a4 a5 a6 a7 a8) (op_weights.f (k + 1) a0 a1 a2 a3 a4 a5 a6 a7 a8) := by
 intro a0 a1 a2 a3 a4 a5 a6 a7 a8 k
 unfold op_weights.f
 repeat' first
   | (with_reducible exact taps_Blur.mono _ _)
   | (with_reducible exact taps_Gaussian.mono _ _)
   | (with_reducible exact taps_User.mono _ _)
   | (with_reducible exact LeO.refl _)
   | (with_reducible exact LeO.none _)
   | (with_reducible refine LeO.ite ?_ ?_)
   | (with_reducible refine LeO.bind ?_ (fun _ => ?_))
   | exact taps_Blur.mono _ _
   | exact taps_Gaussian.mono _ _
   | exact taps_User.mono _ _
   | exact LeO.none _
   | refine LeO.ite ?_ ?_
   | refine LeO.bind ?_ (fun _ => ?_)
set_option maxHeartbeats 8000000 in
set_option maxRecDepth 100000 in
theorem op_weights.calls (k : Nat) (a0_0 : Int) (a0_1 : Int) (a0_2 : Int) (a0_3 : Int) (A0_4 : Option Addr) (c0_4 : Nat) (l0_4 : List Int) (A0_5 : Option Addr) (c0_5 : Nat) (l0_5 : List Int) (a0_6 : Int) (a0_7 : Int) (a0_8 : Int) (r1 : List Int) (r2 : List Int) (r3 : Int) (w : World) (hr0_4 : Kd.C (Kd.int .i64) w A0_4 l0_4.length l0_4) (hc0_4 : l0_4.length ≤ c0_4) (hr0_5 : Kd.C (Kd.int .i64) w A0_5 l0_5.length l0_5) (hc0_5 : l0_5.length ≤ c0_5) (h : op_weights.f k a0_0 a0_1 a0_2 a0_3 l0_4 l0_5 a0_6 a0_7 a0_8 = some (r1, r2, r3)) :
  Calls Tryd.prog 34 #[.agg #[.int .i64 a0_0, .int .i64 a0_1, .int .i64 a0_2, .int .i64 a0_3, .slice A0_4 l0_4.length c0_4, .slice A0_5 l0_5.length c0_5, .int .i64 a0_6, .int .i64 a0_7, .int .i64 a0_8]] w fun e w' => ∃ v0_ v1_ : Value, e = .returned (.tuple #[v0_, v1_, .int .i64 r3]) ∧ Kd.V (Kd.int .i64) 2 w' w.heap.size (fun k_ => (w.heap.size ≤ k_)) v0_ r1 ∧ Kd.V (Kd.int .i64) 2 w' w.heap.size (fun k_ => (w.heap.size ≤ k_)) v1_ r2 ∧ Below w.heap.size w w' := by
 have hu40 := Tryd.underlying40
 have HR0_4 := Aside0.mk hr0_4
 have HC0_4 := Aside0.mk hc0_4
 clear hr0_4 hc0_4
 have HR0_5 := Aside0.mk hr0_5
 have HC0_5 := Aside0.mk hc0_5
 clear hr0_5 hc0_5
 have HB := Aside0.mk (Below.refl w.heap.size w)
 have H : (if a0_0 = 0 then ((taps_Gaussian.f k a0_2).bind fun bt210 => (some (bt210.1, bt210.1, bt210.2))) else (if a0_0 = 1 then ((taps_Blur.f k a0_3).bind fun bt214 => (some (bt214.1, bt214.1, bt214.2))) else ((taps_User.f k l0_4).bind fun bt218 => (if bt218.2 = 0 then ((taps_User.f k l0_5).bind fun bt222 => (some (bt218.1, bt222.1, bt222.2))) else (some (([] : List Int), ([] : List Int), bt218.2)))))) = some (r1, r2, r3) := h
 clear h
 by_cases c2 : a0_0 = 0
 ·rw [if_pos c2] at H
  have c2b0 : (a0_0 == 0) = true := beq_iff_eq.mpr c2
  have c2b1 : (a0_0 != 0) = false := bne_eq_false_iff_eq.mpr c2
  clear c2
  replace H := Option.bind_eq_some_iff.mp H
  obtain ⟨⟨t210, t211⟩, A30, H⟩ := H
  replace H : (some (t210, t210, t211)) = some (r1, r2, r3) := H
  have A3 := Aside0.mk A30
  clear A30
  simp only [Option.some.injEq, Prod.mk.injEq] at H
  obtain ⟨rfl, rfl, rfl⟩ := H
  go_enter Tryd.func34, Tryd.ntmps34
  go_wp2_with (first | ((with_reducible refine gate_dst (N := 1) rfl ?_); refine box_event ?hg (N := 1) ?hd (cs := #[.int .i64 a0_0, .int .i64 a0_1, .int .i64 a0_2, .int .i64 a0_3, .slice A0_4 l0_4.length c0_4, .slice A0_5 l0_5.length c0_5, .int .i64 a0_6, .int .i64 a0_7, .int .i64 a0_8]) (t := 40) ?hr ?_; (case hd => rfl); (case hg => rfl); (case hr => first | (go_simp; done) | (go_simp; rfl)); intro gb209 hg w4 hbox hb; have n0_ := Aside0.mk (below_step (by repeat (first | (with_reducible first | exact HB.out | apply below_alloc | apply pw_below_drewN | apply below_drew1) | exact HB.out)) hb); have n1_ := Aside0.mk (hbox); have n2_ := Aside0.mk ((by rw [hg]; exact (below_size (by repeat (first | (with_reducible first | exact HB.out | apply below_alloc | apply pw_below_drewN | apply below_drew1) | exact HB.out))) : w.heap.size ≤ gb209)); have n3_ := Aside0.mk ((by rw [hg]; exact (below_size (by repeat (first | (with_reducible first | exact HB.out | apply below_alloc | apply pw_below_drewN | apply below_drew1) | exact HB.out))) : w.heap.size ≤ gb209)); clear HB; have HB := n0_; have BK209 := n1_; have GW209 := n2_; have GE209 := n3_; clear n0_ n1_ n2_ n3_; clear hb hbox hg; have hcz5_0 : w4.cell? ⟨gb209, 0, none⟩ = some (.int .i64 a0_0) := (blk_cell BK209.out 0).trans rfl; have hcz5_1 : w4.cell? ⟨gb209, 1, none⟩ = some (.int .i64 a0_1) := (blk_cell BK209.out 1).trans rfl; have hcz5_2 : w4.cell? ⟨gb209, 2, none⟩ = some (.int .i64 a0_2) := (blk_cell BK209.out 2).trans rfl; have hcz5_3 : w4.cell? ⟨gb209, 3, none⟩ = some (.int .i64 a0_3) := (blk_cell BK209.out 3).trans rfl; have hcz5_4 : w4.cell? ⟨gb209, 4, none⟩ = some (.slice A0_4 l0_4.length c0_4) := (blk_cell BK209.out 4).trans rfl; have hcz5_5 : w4.cell? ⟨gb209, 5, none⟩ = some (.slice A0_5 l0_5.length c0_5) := (blk_cell BK209.out 5).trans rfl; have hcz5_6 : w4.cell? ⟨gb209, 6, none⟩ = some (.int .i64 a0_6) := (blk_cell BK209.out 6).trans rfl; have hcz5_7 : w4.cell? ⟨gb209, 7, none⟩ = some (.int .i64 a0_7) := (blk_cell BK209.out 7).trans rfl; have hcz5_8 : w4.cell? ⟨gb209, 8, none⟩ = some (.int .i64 a0_8) := (blk_cell BK209.out 8).trans rfl; have hfz5_0 := blk_frozen BK209.out 0; have hfz5_1 := blk_frozen BK209.out 1; have hfz5_2 := blk_frozen BK209.out 2; have hfz5_3 := blk_frozen BK209.out 3; have hfz5_4 := blk_frozen BK209.out 4; have hfz5_5 := blk_frozen BK209.out 5; have hfz5_6 := blk_frozen BK209.out 6; have hfz5_7 := blk_frozen BK209.out 7; have hfz5_8 := blk_frozen BK209.out 8) | ((with_reducible refine gate_callee (f := 39) rfl ?_); refine goesL_ (some 12) rfl rfl Tryd.func39 (by kernel_rfl) rfl #[.int .i64 a0_2] rfl (by (try simp only [List.map_toArray, List.map_cons, List.map_nil]); first | done | rfl | (simp only [List.length_drop, List.length_take]; rfl)) ?_; (with_reducible refine (taps_Gaussian.calls k a0_2 t210 t211 _ A3.out).mono ?_); rintro e w6 ⟨v212, rfl, ho0, hb⟩; refine ⟨_, rfl, ?_⟩; have n0_ := Aside0.mk (Kd.R_lower (Kd.R_newM (M := fun k_ => (w.heap.size ≤ k_)) ho0 (below_size (by repeat (first | (with_reducible first | exact HB.out | apply below_alloc | apply pw_below_drewN | apply below_drew1 | refine below_set ?_ GE209.out) | exact HB.out))) (fun k_ h_ => h_)) (below_size (by repeat (first | (with_reducible first | exact HB.out | apply below_alloc | apply pw_below_drewN | apply below_drew1 | refine below_set ?_ GE209.out) | exact HB.out)))); have n1_ := Aside0.mk (blk_below (g := gb209) (o := .cells #[.int .i64 a0_0, .int .i64 a0_1, .int .i64 a0_2, .int .i64 a0_3, .slice A0_4 l0_4.length c0_4, .slice A0_5 l0_5.length c0_5, .int .i64 a0_6, .int .i64 a0_7, .int .i64 a0_8] 40 (0, 0)) (by (with_reducible repeat (first | refine blk_drewN ?_ _ | refine blk_drew ?_ | refine blk_alloc ?_ _)); exact BK209.out) hb); have n2_ := Aside0.mk (below_step (by repeat (first | (with_reducible first | exact HB.out | apply below_alloc | apply pw_below_drewN | apply below_drew1 | refine below_set ?_ GE209.out) | exact HB.out)) hb); clear BK209; clear HB; have HO213 := n0_; have BK209 := n1_; have HB := n2_; clear n0_ n1_ n2_; (try clear hb); (try clear hb2); (try clear hk); (try clear hi); (try clear ho0)))
  go_ret3
  exact ⟨_, _, by first | rfl | (simp [errW_none, errW_some] <;> rfl) | (simp [*, errW_none, errW_some] <;> rfl), Kd.R_V (by (with_reducible repeat (first | apply Kd.R_alloc | apply Kd.R_drewN | apply Kd.R_drew)); exact Kd.R_mono HO213.out (fun _ hk => hk.1)), Kd.R_V (by (with_reducible repeat (first | apply Kd.R_alloc | apply Kd.R_drewN | apply Kd.R_drew)); exact Kd.R_mono HO213.out (fun _ hk => hk.1)), by repeat (first | (with_reducible first | exact HB.out | apply below_alloc | apply pw_below_drewN | apply below_drew1 | refine below_set ?_ GE209.out) | exact HB.out)⟩
 ·rw [if_neg c2] at H
  have c2b0 : (a0_0 == 0) = false := beq_eq_false_iff_ne.mpr c2
  have c2b1 : (a0_0 != 0) = true := bne_iff_ne.mpr c2
  by_cases c7 : a0_0 = 1
  ·rw [if_pos c7] at H
   have c7b0 : (a0_0 == 1) = true := beq_iff_eq.mpr c7
   have c7b1 : (a0_0 != 1) = false := bne_eq_false_iff_eq.mpr c7
   clear c7
   replace H := Option.bind_eq_some_iff.mp H
   obtain ⟨⟨t214, t215⟩, A80, H⟩ := H
   replace H : (some (t214, t214, t215)) = some (r1, r2, r3) := H
   have A8 := Aside0.mk A80
   clear A80
   simp only [Option.some.injEq, Prod.mk.injEq] at H
   obtain ⟨rfl, rfl, rfl⟩ := H
   go_enter Tryd.func34, Tryd.ntmps34
   go_wp2_with (first | ((with_reducible refine gate_dst (N := 1) rfl ?_); refine box_event ?hg (N := 1) ?hd (cs := #[.int .i64 a0_0, .int .i64 a0_1, .int .i64 a0_2, .int .i64 a0_3, .slice A0_4 l0_4.length c0_4, .slice A0_5 l0_5.length c0_5, .int .i64 a0_6, .int .i64 a0_7, .int .i64 a0_8]) (t := 40) ?hr ?_; (case hd => rfl); (case hg => rfl); (case hr => first | (go_simp; done) | (go_simp; rfl)); intro gb209 hg w9 hbox hb; have n0_ := Aside0.mk (below_step (by repeat (first | (with_reducible first | exact HB.out | apply below_alloc | apply pw_below_drewN | apply below_drew1) | exact HB.out)) hb); have n1_ := Aside0.mk (hbox); have n2_ := Aside0.mk ((by rw [hg]; exact (below_size (by repeat (first | (with_reducible first | exact HB.out | apply below_alloc | apply pw_below_drewN | apply below_drew1) | exact HB.out))) : w.heap.size ≤ gb209)); have n3_ := Aside0.mk ((by rw [hg]; exact (below_size (by repeat (first | (with_reducible first | exact HB.out | apply below_alloc | apply pw_below_drewN | apply below_drew1) | exact HB.out))) : w.heap.size ≤ gb209)); clear HB; have HB := n0_; have BK209 := n1_; have GW209 := n2_; have GE209 := n3_; clear n0_ n1_ n2_ n3_; clear hb hbox hg; have hcz10_0 : w9.cell? ⟨gb209, 0, none⟩ = some (.int .i64 a0_0) := (blk_cell BK209.out 0).trans rfl; have hcz10_1 : w9.cell? ⟨gb209, 1, none⟩ = some (.int .i64 a0_1) := (blk_cell BK209.out 1).trans rfl; have hcz10_2 : w9.cell? ⟨gb209, 2, none⟩ = some (.int .i64 a0_2) := (blk_cell BK209.out 2).trans rfl; have hcz10_3 : w9.cell? ⟨gb209, 3, none⟩ = some (.int .i64 a0_3) := (blk_cell BK209.out 3).trans rfl; have hcz10_4 : w9.cell? ⟨gb209, 4, none⟩ = some (.slice A0_4 l0_4.length c0_4) := (blk_cell BK209.out 4).trans rfl; have hcz10_5 : w9.cell? ⟨gb209, 5, none⟩ = some (.slice A0_5 l0_5.length c0_5) := (blk_cell BK209.out 5).trans rfl; have hcz10_6 : w9.cell? ⟨gb209, 6, none⟩ = some (.int .i64 a0_6) := (blk_cell BK209.out 6).trans rfl; have hcz10_7 : w9.cell? ⟨gb209, 7, none⟩ = some (.int .i64 a0_7) := (blk_cell BK209.out 7).trans rfl; have hcz10_8 : w9.cell? ⟨gb209, 8, none⟩ = some (.int .i64 a0_8) := (blk_cell BK209.out 8).trans rfl; have hfz10_0 := blk_frozen BK209.out 0; have hfz10_1 := blk_frozen BK209.out 1; have hfz10_2 := blk_frozen BK209.out 2; have hfz10_3 := blk_frozen BK209.out 3; have hfz10_4 := blk_frozen BK209.out 4; have hfz10_5 := blk_frozen BK209.out 5; have hfz10_6 := blk_frozen BK209.out 6; have hfz10_7 := blk_frozen BK209.out 7; have hfz10_8 := blk_frozen BK209.out 8) | ((with_reducible refine gate_callee (f := 43) rfl ?_); refine goesL_ (some 23) rfl rfl Tryd.func43 (by kernel_rfl) rfl #[.int .i64 a0_3] rfl (by (try simp only [List.map_toArray, List.map_cons, List.map_nil]); first | done | rfl | (simp only [List.length_drop, List.length_take]; rfl)) ?_; (with_reducible refine (taps_Blur.calls k a0_3 t214 t215 _ A8.out).mono ?_); rintro e w11 ⟨v216, rfl, ho0, hb⟩; refine ⟨_, rfl, ?_⟩; have n0_ := Aside0.mk (Kd.R_lower (Kd.R_newM (M := fun k_ => (w.heap.size ≤ k_)) ho0 (below_size (by repeat (first | (with_reducible first | exact HB.out | apply below_alloc | apply pw_below_drewN | apply below_drew1 | refine below_set ?_ GE209.out) | exact HB.out))) (fun k_ h_ => h_)) (below_size (by repeat (first | (with_reducible first | exact HB.out | apply below_alloc | apply pw_below_drewN | apply below_drew1 | refine below_set ?_ GE209.out) | exact HB.out)))); have n1_ := Aside0.mk (blk_below (g := gb209) (o := .cells #[.int .i64 a0_0, .int .i64 a0_1, .int .i64 a0_2, .int .i64 a0_3, .slice A0_4 l0_4.length c0_4, .slice A0_5 l0_5.length c0_5, .int .i64 a0_6, .int .i64 a0_7, .int .i64 a0_8] 40 (0, 0)) (by (with_reducible repeat (first | refine blk_drewN ?_ _ | refine blk_drew ?_ | refine blk_alloc ?_ _)); exact BK209.out) hb); have n2_ := Aside0.mk (below_step (by repeat (first | (with_reducible first | exact HB.out | apply below_alloc | apply pw_below_drewN | apply below_drew1 | refine below_set ?_ GE209.out) | exact HB.out)) hb); clear BK209; clear HB; have HO217 := n0_; have BK209 := n1_; have HB := n2_; clear n0_ n1_ n2_; (try clear hb); (try clear hb2); (try clear hk); (try clear hi); (try clear ho0)))
   go_ret3
   exact ⟨_, _, by first | rfl | (simp [errW_none, errW_some] <;> rfl) | (simp [*, errW_none, errW_some] <;> rfl), Kd.R_V (by (with_reducible repeat (first | apply Kd.R_alloc | apply Kd.R_drewN | apply Kd.R_drew)); exact Kd.R_mono HO217.out (fun _ hk => hk.1)), Kd.R_V (by (with_reducible repeat (first | apply Kd.R_alloc | apply Kd.R_drewN | apply Kd.R_drew)); exact Kd.R_mono HO217.out (fun _ hk => hk.1)), by repeat (first | (with_reducible first | exact HB.out | apply below_alloc | apply pw_below_drewN | apply below_drew1 | refine below_set ?_ GE209.out) | exact HB.out)⟩
  ·rw [if_neg c7] at H
   have c7b0 : (a0_0 == 1) = false := beq_eq_false_iff_ne.mpr c7
   have c7b1 : (a0_0 != 1) = true := bne_iff_ne.mpr c7
   replace H := Option.bind_eq_some_iff.mp H
   obtain ⟨⟨t218, t219⟩, A120, H⟩ := H
   replace H : (if t219 = 0 then ((taps_User.f k l0_5).bind fun bt222 => (some (t218, bt222.1, bt222.2))) else (some (([] : List Int), ([] : List Int), t219))) = some (r1, r2, r3) := H
   have A12 := Aside0.mk A120
   clear A120
   by_cases c13 : t219 = 0
   ·rw [if_pos c13] at H
    have c13b0 : (t219 == 0) = true := beq_iff_eq.mpr c13
    have c13b1 : (t219 != 0) = false := bne_eq_false_iff_eq.mpr c13
    clear c13
    replace H := Option.bind_eq_some_iff.mp H
    obtain ⟨⟨t222, t223⟩, A140, H⟩ := H
    replace H : (some (t218, t222, t223)) = some (r1, r2, r3) := H
    have A14 := Aside0.mk A140
    clear A140
    simp only [Option.some.injEq, Prod.mk.injEq] at H
    obtain ⟨rfl, rfl, rfl⟩ := H
    go_enter Tryd.func34, Tryd.ntmps34
    go_wp2_with (first | ((with_reducible refine gate_dst (N := 1) rfl ?_); refine box_event ?hg (N := 1) ?hd (cs := #[.int .i64 a0_0, .int .i64 a0_1, .int .i64 a0_2, .int .i64 a0_3, .slice A0_4 l0_4.length c0_4, .slice A0_5 l0_5.length c0_5, .int .i64 a0_6, .int .i64 a0_7, .int .i64 a0_8]) (t := 40) ?hr ?_; (case hd => rfl); (case hg => rfl); (case hr => first | (go_simp; done) | (go_simp; rfl)); intro gb209 hg w15 hbox hb; have n0_ := Aside0.mk (below_step (by repeat (first | (with_reducible first | exact HB.out | apply below_alloc | apply pw_below_drewN | apply below_drew1) | exact HB.out)) hb); have n1_ := Aside0.mk (hbox); have n2_ := Aside0.mk ((by rw [hg]; exact (below_size (by repeat (first | (with_reducible first | exact HB.out | apply below_alloc | apply pw_below_drewN | apply below_drew1) | exact HB.out))) : w.heap.size ≤ gb209)); have n3_ := Aside0.mk ((by rw [hg]; exact (below_size (by repeat (first | (with_reducible first | exact HB.out | apply below_alloc | apply pw_below_drewN | apply below_drew1) | exact HB.out))) : w.heap.size ≤ gb209)); clear HB; have HB := n0_; have BK209 := n1_; have GW209 := n2_; have GE209 := n3_; clear n0_ n1_ n2_ n3_; clear hb hbox hg; have hcz16_0 : w15.cell? ⟨gb209, 0, none⟩ = some (.int .i64 a0_0) := (blk_cell BK209.out 0).trans rfl; have hcz16_1 : w15.cell? ⟨gb209, 1, none⟩ = some (.int .i64 a0_1) := (blk_cell BK209.out 1).trans rfl; have hcz16_2 : w15.cell? ⟨gb209, 2, none⟩ = some (.int .i64 a0_2) := (blk_cell BK209.out 2).trans rfl; have hcz16_3 : w15.cell? ⟨gb209, 3, none⟩ = some (.int .i64 a0_3) := (blk_cell BK209.out 3).trans rfl; have hcz16_4 : w15.cell? ⟨gb209, 4, none⟩ = some (.slice A0_4 l0_4.length c0_4) := (blk_cell BK209.out 4).trans rfl; have hcz16_5 : w15.cell? ⟨gb209, 5, none⟩ = some (.slice A0_5 l0_5.length c0_5) := (blk_cell BK209.out 5).trans rfl; have hcz16_6 : w15.cell? ⟨gb209, 6, none⟩ = some (.int .i64 a0_6) := (blk_cell BK209.out 6).trans rfl; have hcz16_7 : w15.cell? ⟨gb209, 7, none⟩ = some (.int .i64 a0_7) := (blk_cell BK209.out 7).trans rfl; have hcz16_8 : w15.cell? ⟨gb209, 8, none⟩ = some (.int .i64 a0_8) := (blk_cell BK209.out 8).trans rfl; have hfz16_0 := blk_frozen BK209.out 0; have hfz16_1 := blk_frozen BK209.out 1; have hfz16_2 := blk_frozen BK209.out 2; have hfz16_3 := blk_frozen BK209.out 3; have hfz16_4 := blk_frozen BK209.out 4; have hfz16_5 := blk_frozen BK209.out 5; have hfz16_6 := blk_frozen BK209.out 6; have hfz16_7 := blk_frozen BK209.out 7; have hfz16_8 := blk_frozen BK209.out 8) | ((with_reducible refine gate_callee (f := 44) rfl ?_); refine goesL_ (some 32) rfl rfl Tryd.func44 (by kernel_rfl) rfl #[.slice A0_4 l0_4.length c0_4] rfl (by (try simp only [List.map_toArray, List.map_cons, List.map_nil]); first | done | rfl | (simp only [List.length_drop, List.length_take]; rfl)) ?_; (with_reducible refine (taps_User.calls k _ _ l0_4 t218 t219 _ ?side1 ?side2 A12.out).mono ?_); (case side1 => repeat (first | exact (Kd.C_below HR0_4.out HB.out) | (with_reducible refine Kd.C_alloc ?_ _) | (with_reducible refine Kd.C_drewN ?_ _) | (with_reducible refine Kd.C_drew ?_))); (case side2 => exact HC0_4.out); rintro e w17 ⟨v220, rfl, ho0, hb⟩; refine ⟨_, rfl, ?_⟩; have n0_ := Aside0.mk (Kd.R_lower (Kd.R_newM (M := fun k_ => (w.heap.size ≤ k_)) ho0 (below_size (by repeat (first | (with_reducible first | exact HB.out | apply below_alloc | apply pw_below_drewN | apply below_drew1 | refine below_set ?_ GE209.out) | exact HB.out))) (fun k_ h_ => h_)) (below_size (by repeat (first | (with_reducible first | exact HB.out | apply below_alloc | apply pw_below_drewN | apply below_drew1 | refine below_set ?_ GE209.out) | exact HB.out)))); have n1_ := Aside0.mk (blk_below (g := gb209) (o := .cells #[.int .i64 a0_0, .int .i64 a0_1, .int .i64 a0_2, .int .i64 a0_3, .slice A0_4 l0_4.length c0_4, .slice A0_5 l0_5.length c0_5, .int .i64 a0_6, .int .i64 a0_7, .int .i64 a0_8] 40 (0, 0)) (by (with_reducible repeat (first | refine blk_drewN ?_ _ | refine blk_drew ?_ | refine blk_alloc ?_ _)); exact BK209.out) hb); have n2_ := Aside0.mk (below_step (by repeat (first | (with_reducible first | exact HB.out | apply below_alloc | apply pw_below_drewN | apply below_drew1 | refine below_set ?_ GE209.out) | exact HB.out)) hb); clear BK209; clear HB; have HO221 := n0_; have BK209 := n1_; have HB := n2_; clear n0_ n1_ n2_; (try clear hb); (try clear hb2); (try clear hk); (try clear hi); (try clear ho0); have hcz18_0 : w17.cell? ⟨gb209, 0, none⟩ = some (.int .i64 a0_0) := (blk_cell BK209.out 0).trans rfl; have hcz18_1 : w17.cell? ⟨gb209, 1, none⟩ = some (.int .i64 a0_1) := (blk_cell BK209.out 1).trans rfl; have hcz18_2 : w17.cell? ⟨gb209, 2, none⟩ = some (.int .i64 a0_2) := (blk_cell BK209.out 2).trans rfl; have hcz18_3 : w17.cell? ⟨gb209, 3, none⟩ = some (.int .i64 a0_3) := (blk_cell BK209.out 3).trans rfl; have hcz18_4 : w17.cell? ⟨gb209, 4, none⟩ = some (.slice A0_4 l0_4.length c0_4) := (blk_cell BK209.out 4).trans rfl; have hcz18_5 : w17.cell? ⟨gb209, 5, none⟩ = some (.slice A0_5 l0_5.length c0_5) := (blk_cell BK209.out 5).trans rfl; have hcz18_6 : w17.cell? ⟨gb209, 6, none⟩ = some (.int .i64 a0_6) := (blk_cell BK209.out 6).trans rfl; have hcz18_7 : w17.cell? ⟨gb209, 7, none⟩ = some (.int .i64 a0_7) := (blk_cell BK209.out 7).trans rfl; have hcz18_8 : w17.cell? ⟨gb209, 8, none⟩ = some (.int .i64 a0_8) := (blk_cell BK209.out 8).trans rfl; have hfz18_0 := blk_frozen BK209.out 0; have hfz18_1 := blk_frozen BK209.out 1; have hfz18_2 := blk_frozen BK209.out 2; have hfz18_3 := blk_frozen BK209.out 3; have hfz18_4 := blk_frozen BK209.out 4; have hfz18_5 := blk_frozen BK209.out 5; have hfz18_6 := blk_frozen BK209.out 6; have hfz18_7 := blk_frozen BK209.out 7; have hfz18_8 := blk_frozen BK209.out 8) | ((with_reducible refine gate_callee (f := 44) rfl ?_); refine goesL_ (some 41) rfl rfl Tryd.func44 (by kernel_rfl) rfl #[.slice A0_5 l0_5.length c0_5] rfl (by (try simp only [List.map_toArray, List.map_cons, List.map_nil]); first | done | rfl | (simp only [List.length_drop, List.length_take]; rfl)) ?_; (with_reducible refine (taps_User.calls k _ _ l0_5 t222 t223 _ ?side1 ?side2 A14.out).mono ?_); (case side1 => repeat (first | exact (Kd.C_below HR0_5.out HB.out) | (with_reducible refine Kd.C_alloc ?_ _) | (with_reducible refine Kd.C_drewN ?_ _) | (with_reducible refine Kd.C_drew ?_))); (case side2 => exact HC0_5.out); rintro e w19 ⟨v224, rfl, ho0, hb⟩; refine ⟨_, rfl, ?_⟩; have n0_ := Aside0.mk (Kd.R_elder' (by (with_reducible repeat (first | apply Kd.R_alloc | apply Kd.R_drewN | apply Kd.R_drew)); exact HO221.out) (Kd.R_base ho0) hb); have n1_ := Aside0.mk (Kd.R_lower (Kd.R_new' (Kd.R_newM (M := fun k_ => (w.heap.size ≤ k_)) ho0 (below_size (by repeat (first | (with_reducible first | exact HB.out | apply below_alloc | apply pw_below_drewN | apply below_drew1 | refine below_set ?_ GE209.out) | exact HB.out))) (fun k_ h_ => h_)) (Kd.R_lt (by (with_reducible repeat (first | apply Kd.R_alloc | apply Kd.R_drewN | apply Kd.R_drew)); exact HO221.out))) (below_size (by repeat (first | (with_reducible first | exact HB.out | apply below_alloc | apply pw_below_drewN | apply below_drew1 | refine below_set ?_ GE209.out) | exact HB.out)))); have n2_ := Aside0.mk (blk_below (g := gb209) (o := .cells #[.int .i64 a0_0, .int .i64 a0_1, .int .i64 a0_2, .int .i64 a0_3, .slice A0_4 l0_4.length c0_4, .slice A0_5 l0_5.length c0_5, .int .i64 a0_6, .int .i64 a0_7, .int .i64 a0_8] 40 (0, 0)) (by (with_reducible repeat (first | refine blk_drewN ?_ _ | refine blk_drew ?_ | refine blk_alloc ?_ _)); exact BK209.out) hb); have n3_ := Aside0.mk (below_step (by repeat (first | (with_reducible first | exact HB.out | apply below_alloc | apply pw_below_drewN | apply below_drew1 | refine below_set ?_ GE209.out) | exact HB.out)) hb); clear HO221; clear BK209; clear HB; have HO221 := n0_; have HO225 := n1_; have BK209 := n2_; have HB := n3_; clear n0_ n1_ n2_ n3_; (try clear hb); (try clear hb2); (try clear hk); (try clear hi); (try clear ho0)))
    go_ret3
    exact ⟨_, _, by first | rfl | (simp [errW_none, errW_some] <;> rfl) | (simp [*, errW_none, errW_some] <;> rfl), Kd.R_V (by (with_reducible repeat (first | apply Kd.R_alloc | apply Kd.R_drewN | apply Kd.R_drew)); exact Kd.R_mono HO221.out (fun _ hk => hk.1.1)), Kd.R_V (by (with_reducible repeat (first | apply Kd.R_alloc | apply Kd.R_drewN | apply Kd.R_drew)); exact Kd.R_mono HO225.out (fun _ hk => hk.1.1)), by repeat (first | (with_reducible first | exact HB.out | apply below_alloc | apply pw_below_drewN | apply below_drew1 | refine below_set ?_ GE209.out) | exact HB.out)⟩
   ·rw [if_neg c13] at H
    have c13b0 : (t219 == 0) = false := beq_eq_false_iff_ne.mpr c13
    have c13b1 : (t219 != 0) = true := bne_iff_ne.mpr c13
    simp only [Option.some.injEq, Prod.mk.injEq] at H
    obtain ⟨rfl, rfl, rfl⟩ := H
    go_enter Tryd.func34, Tryd.ntmps34
    go_wp2_with (first | ((with_reducible refine gate_dst (N := 1) rfl ?_); refine box_event ?hg (N := 1) ?hd (cs := #[.int .i64 a0_0, .int .i64 a0_1, .int .i64 a0_2, .int .i64 a0_3, .slice A0_4 l0_4.length c0_4, .slice A0_5 l0_5.length c0_5, .int .i64 a0_6, .int .i64 a0_7, .int .i64 a0_8]) (t := 40) ?hr ?_; (case hd => rfl); (case hg => rfl); (case hr => first | (go_simp; done) | (go_simp; rfl)); intro gb209 hg w20 hbox hb; have n0_ := Aside0.mk (below_step (by repeat (first | (with_reducible first | exact HB.out | apply below_alloc | apply pw_below_drewN | apply below_drew1) | exact HB.out)) hb); have n1_ := Aside0.mk (hbox); have n2_ := Aside0.mk ((by rw [hg]; exact (below_size (by repeat (first | (with_reducible first | exact HB.out | apply below_alloc | apply pw_below_drewN | apply below_drew1) | exact HB.out))) : w.heap.size ≤ gb209)); have n3_ := Aside0.mk ((by rw [hg]; exact (below_size (by repeat (first | (with_reducible first | exact HB.out | apply below_alloc | apply pw_below_drewN | apply below_drew1) | exact HB.out))) : w.heap.size ≤ gb209)); clear HB; have HB := n0_; have BK209 := n1_; have GW209 := n2_; have GE209 := n3_; clear n0_ n1_ n2_ n3_; clear hb hbox hg; have hcz21_0 : w20.cell? ⟨gb209, 0, none⟩ = some (.int .i64 a0_0) := (blk_cell BK209.out 0).trans rfl; have hcz21_1 : w20.cell? ⟨gb209, 1, none⟩ = some (.int .i64 a0_1) := (blk_cell BK209.out 1).trans rfl; have hcz21_2 : w20.cell? ⟨gb209, 2, none⟩ = some (.int .i64 a0_2) := (blk_cell BK209.out 2).trans rfl; have hcz21_3 : w20.cell? ⟨gb209, 3, none⟩ = some (.int .i64 a0_3) := (blk_cell BK209.out 3).trans rfl; have hcz21_4 : w20.cell? ⟨gb209, 4, none⟩ = some (.slice A0_4 l0_4.length c0_4) := (blk_cell BK209.out 4).trans rfl; have hcz21_5 : w20.cell? ⟨gb209, 5, none⟩ = some (.slice A0_5 l0_5.length c0_5) := (blk_cell BK209.out 5).trans rfl; have hcz21_6 : w20.cell? ⟨gb209, 6, none⟩ = some (.int .i64 a0_6) := (blk_cell BK209.out 6).trans rfl; have hcz21_7 : w20.cell? ⟨gb209, 7, none⟩ = some (.int .i64 a0_7) := (blk_cell BK209.out 7).trans rfl; have hcz21_8 : w20.cell? ⟨gb209, 8, none⟩ = some (.int .i64 a0_8) := (blk_cell BK209.out 8).trans rfl; have hfz21_0 := blk_frozen BK209.out 0; have hfz21_1 := blk_frozen BK209.out 1; have hfz21_2 := blk_frozen BK209.out 2; have hfz21_3 := blk_frozen BK209.out 3; have hfz21_4 := blk_frozen BK209.out 4; have hfz21_5 := blk_frozen BK209.out 5; have hfz21_6 := blk_frozen BK209.out 6; have hfz21_7 := blk_frozen BK209.out 7; have hfz21_8 := blk_frozen BK209.out 8) | ((with_reducible refine gate_callee (f := 44) rfl ?_); refine goesL_ (some 32) rfl rfl Tryd.func44 (by kernel_rfl) rfl #[.slice A0_4 l0_4.length c0_4] rfl (by (try simp only [List.map_toArray, List.map_cons, List.map_nil]); first | done | rfl | (simp only [List.length_drop, List.length_take]; rfl)) ?_; (with_reducible refine (taps_User.calls k _ _ l0_4 t218 t219 _ ?side1 ?side2 A12.out).mono ?_); (case side1 => repeat (first | exact (Kd.C_below HR0_4.out HB.out) | (with_reducible refine Kd.C_alloc ?_ _) | (with_reducible refine Kd.C_drewN ?_ _) | (with_reducible refine Kd.C_drew ?_))); (case side2 => exact HC0_4.out); rintro e w22 ⟨v220, rfl, ho0, hb⟩; refine ⟨_, rfl, ?_⟩; have n0_ := Aside0.mk (Kd.R_lower (Kd.R_newM (M := fun k_ => (w.heap.size ≤ k_)) ho0 (below_size (by repeat (first | (with_reducible first | exact HB.out | apply below_alloc | apply pw_below_drewN | apply below_drew1 | refine below_set ?_ GE209.out) | exact HB.out))) (fun k_ h_ => h_)) (below_size (by repeat (first | (with_reducible first | exact HB.out | apply below_alloc | apply pw_below_drewN | apply below_drew1 | refine below_set ?_ GE209.out) | exact HB.out)))); have n1_ := Aside0.mk (blk_below (g := gb209) (o := .cells #[.int .i64 a0_0, .int .i64 a0_1, .int .i64 a0_2, .int .i64 a0_3, .slice A0_4 l0_4.length c0_4, .slice A0_5 l0_5.length c0_5, .int .i64 a0_6, .int .i64 a0_7, .int .i64 a0_8] 40 (0, 0)) (by (with_reducible repeat (first | refine blk_drewN ?_ _ | refine blk_drew ?_ | refine blk_alloc ?_ _)); exact BK209.out) hb); have n2_ := Aside0.mk (below_step (by repeat (first | (with_reducible first | exact HB.out | apply below_alloc | apply pw_below_drewN | apply below_drew1 | refine below_set ?_ GE209.out) | exact HB.out)) hb); clear BK209; clear HB; have HO221 := n0_; have BK209 := n1_; have HB := n2_; clear n0_ n1_ n2_; (try clear hb); (try clear hb2); (try clear hk); (try clear hi); (try clear ho0)))
    go_ret3
    exact ⟨_, _, by first | rfl | (simp [errW_none, errW_some] <;> rfl) | (simp [*, errW_none, errW_some] <;> rfl), (by first | exact Kd.V_nil _ _ _ _ _ | exact Kd.R_V (Kd.R_nil _ _ _ 0 _)), (by first | exact Kd.V_nil _ _ _ _ _ | exact Kd.R_V (Kd.R_nil _ _ _ 0 _)), by repeat (first | (with_reducible first | exact HB.out | apply below_alloc | apply pw_below_drewN | apply below_drew1 | refine below_set ?_ GE209.out) | exact HB.out)⟩
def smaltolaw05_Lives.f (k : Nat)  : Option (Bool) := (raw_Row.f k 0 4 2 1).bind fun bt226 => (if bt226.1 = 2 then (if (bt226.2.length : Int) = 2 then (if 0 < (bt226.2.length : Int) then (if (rd bt226.2 0) = 536870912 then (if 1 < (bt226.2.length : Int) then (if (rd bt226.2 1) = 536870912 then ((raw_Keys.f k 0 1).bind fun t232 => (if t232 = 1073741824 then ((raw_Keys.f k 1 2).bind fun t233 => (some (t233 == 603979776))) else (some false))) else (some false)) else (none)) else (some false)) else (none)) else (some false)) else (some false))
theorem smaltolaw05_Lives.mono : ∀ k, LeO (smaltolaw05_Lives.f k ) (smaltolaw05_Lives.f (k + 1) ) := by
 intro  k
 unfold smaltolaw05_Lives.f
 repeat' first
   | (with_reducible exact raw_Keys.mono _ _ _)
   | (with_reducible exact raw_Row.mono _ _ _ _ _)
   | (with_reducible exact LeO.refl _)
   | (with_reducible exact LeO.none _)
   | (with_reducible refine LeO.ite ?_ ?_)
   | (with_reducible refine LeO.bind ?_ (fun _ => ?_))
   | exact raw_Keys.mono _ _ _
   | exact raw_Row.mono _ _ _ _ _
   | exact LeO.none _
   | refine LeO.ite ?_ ?_
   | refine LeO.bind ?_ (fun _ => ?_)
set_option maxHeartbeats 8000000 in
set_option maxRecDepth 100000 in
theorem smaltolaw05_Lives.calls (k : Nat)  (r : Bool) (w : World) (hG : GL w) (h : smaltolaw05_Lives.f k  = some r) :
  Calls Tryd.prog 22 #[] w fun e w' => e = .returned (.bool r) ∧ Below w.heap.size w w' := by
 have HB := Aside0.mk (Below.refl w.heap.size w)
 have H : ((raw_Row.f k 0 4 2 1).bind fun bt226 => (if bt226.1 = 2 then (if (bt226.2.length : Int) = 2 then (if 0 < (bt226.2.length : Int) then (if (rd bt226.2 0) = 536870912 then (if 1 < (bt226.2.length : Int) then (if (rd bt226.2 1) = 536870912 then ((raw_Keys.f k 0 1).bind fun t232 => (if t232 = 1073741824 then ((raw_Keys.f k 1 2).bind fun t233 => (some (t233 == 603979776))) else (some false))) else (some false)) else (none)) else (some false)) else (none)) else (some false)) else (some false))) = some r := h
 clear h
 replace H := Option.bind_eq_some_iff.mp H
 obtain ⟨⟨t226, t227⟩, A10, H⟩ := H
 replace H : (if t226 = 2 then (if (t227.length : Int) = 2 then (if 0 < (t227.length : Int) then (if (rd t227 0) = 536870912 then (if 1 < (t227.length : Int) then (if (rd t227 1) = 536870912 then ((raw_Keys.f k 0 1).bind fun t232 => (if t232 = 1073741824 then ((raw_Keys.f k 1 2).bind fun t233 => (some (t233 == 603979776))) else (some false))) else (some false)) else (none)) else (some false)) else (none)) else (some false)) else (some false)) = some r := H
 have A1 := Aside0.mk A10
 clear A10
 by_cases c2 : t226 = 2
 ·rw [if_pos c2] at H
  have c2b0 : (t226 == 2) = true := beq_iff_eq.mpr c2
  have c2b1 : (t226 != 2) = false := bne_eq_false_iff_eq.mpr c2
  clear c2
  by_cases c3 : (t227.length : Int) = 2
  ·rw [if_pos c3] at H
   have c3b0 : ((t227.length : Int) == 2) = true := beq_iff_eq.mpr c3
   have c3b1 : ((t227.length : Int) != 2) = false := bne_eq_false_iff_eq.mpr c3
   clear c3
   by_cases c4 : 0 < (t227.length : Int)
   ·rw [if_pos c4] at H
    have c4b0 : decide (0 < (t227.length : Int)) = true := decide_eq_true c4
    have c4b1 : decide (0 < t227.length) = true := decide_eq_true (by omega)
    clear c4
    by_cases c5 : (rd t227 0) = 536870912
    ·rw [if_pos c5] at H
     have c5b0 : ((rd t227 0) == 536870912) = true := beq_iff_eq.mpr c5
     have c5b1 : ((rd t227 0) != 536870912) = false := bne_eq_false_iff_eq.mpr c5
     clear c5
     by_cases c6 : 1 < (t227.length : Int)
     ·rw [if_pos c6] at H
      have c6b0 : decide (1 < (t227.length : Int)) = true := decide_eq_true c6
      have c6b1 : decide (1 < t227.length) = true := decide_eq_true (by omega)
      clear c6
      by_cases c7 : (rd t227 1) = 536870912
      ·rw [if_pos c7] at H
       have c7b0 : ((rd t227 1) == 536870912) = true := beq_iff_eq.mpr c7
       have c7b1 : ((rd t227 1) != 536870912) = false := bne_eq_false_iff_eq.mpr c7
       clear c7
       replace H := Option.bind_eq_some_iff.mp H
       obtain ⟨t232, A80, H⟩ := H
       replace H : (if t232 = 1073741824 then ((raw_Keys.f k 1 2).bind fun t233 => (some (t233 == 603979776))) else (some false)) = some r := H
       have A8 := Aside0.mk A80
       clear A80
       by_cases c9 : t232 = 1073741824
       ·rw [if_pos c9] at H
        have c9b0 : (t232 == 1073741824) = true := beq_iff_eq.mpr c9
        have c9b1 : (t232 != 1073741824) = false := bne_eq_false_iff_eq.mpr c9
        clear c9
        replace H := Option.bind_eq_some_iff.mp H
        obtain ⟨t233, A100, H⟩ := H
        replace H : (some (t233 == 603979776)) = some r := H
        have A10 := Aside0.mk A100
        clear A100
        obtain rfl := Option.some.inj H
        go_enter Tryd.func22, Tryd.ntmps22
        go_wp2_with (first | ((with_reducible refine gate_callee (f := 36) rfl ?_); refine goesL_ (some 4) rfl rfl Tryd.func36 (by kernel_rfl) rfl #[.int .i64 0, .int .i64 4, .int .i64 2, .int .i64 1] rfl (by (try simp only [List.map_toArray, List.map_cons, List.map_nil]); first | done | rfl | (simp only [List.length_drop, List.length_take]; rfl)) ?_; (with_reducible refine (raw_Row.calls k 0 4 2 1 t226 t227 _ (by exact GL.below hG (by repeat (first | (with_reducible first | exact HB.out | apply below_alloc | apply pw_below_drewN | apply below_drew1) | exact HB.out | exact Below.refl _ _))) A1.out).mono ?_); rintro e w11 ⟨v228, rfl, ho0, hb⟩; refine ⟨_, rfl, ?_⟩; have n0_ := Aside0.mk (Kd.R_lower ho0 (below_size (by repeat (first | (with_reducible first | exact HB.out | apply below_alloc | apply pw_below_drewN | apply below_drew1) | exact HB.out)))); have n1_ := Aside0.mk (below_step (by repeat (first | (with_reducible first | exact HB.out | apply below_alloc | apply pw_below_drewN | apply below_drew1) | exact HB.out)) hb); clear HB; have HO229 := n0_; have HB := n1_; clear n0_ n1_; (try clear hb); (try clear hb2); (try clear hk); (try clear hi); (try clear ho0); obtain ⟨Ao12, co12, eo12⟩ := Kd.R_slice HO229.out; subst eo12; have p230 : 0 ≤ (0 : Int) := (by omega); have q230 : 0 < (t227.length : Int) := of_decide_eq_true (by first | (with_reducible assumption) | assumption); obtain ⟨ad230, e230, hx230_0⟩ := Kd.at_int (Kd.R_reads' HO229.out).2.2 0 p230 q230; cases e230; have qi230 : (0 < t227.length) = True := eq_true (by omega); (try rw [show ((0 : Int)).toNat = 0 from rfl] at hx230_0); (try rw [Addr.add_zero'] at hx230_0); replace p230 := eq_true p230; replace q230 := eq_true q230; have p231 : 0 ≤ (1 : Int) := (by omega); have q231 : 1 < (t227.length : Int) := of_decide_eq_true (by first | (with_reducible assumption) | assumption); obtain ⟨ad231, e231, hx231_0⟩ := Kd.at_int (Kd.R_reads' HO229.out).2.2 1 p231 q231; obtain rfl : ad230 = ad231 := (by injection e231); (try simp only [show (1 : Int).toNat = 1 from rfl, Nat.reduceMul, Nat.reduceEqDiff, Go.Addr.add, ↓reduceIte] at hx231_0); have qi231 : (1 < t227.length) = True := eq_true (by omega); (try rw [show ((1 : Int)).toNat = 1 from rfl] at hx231_0); replace p231 := eq_true p231; replace q231 := eq_true q231) | (go_at_call 37; (with_reducible refine (raw_Keys.calls k 0 1 t232 _ A8.out).mono ?_); rintro e w13 ⟨rfl, hb⟩; have n0_ := Aside0.mk (Kd.R_below (by (with_reducible repeat (first | apply Kd.R_alloc | apply Kd.R_drewN | apply Kd.R_drew)); exact HO229.out) hb); have n1_ := Aside0.mk (below_step (by repeat (first | (with_reducible first | exact HB.out | apply below_alloc | apply pw_below_drewN | apply below_drew1) | exact HB.out)) hb); clear HO229; clear HB; have HO229 := n0_; have HB := n1_; clear n0_ n1_; (try clear hb); (try clear hb2); (try clear hk); (try clear hi)) | (go_at_call 37; (with_reducible refine (raw_Keys.calls k 1 2 t233 _ A10.out).mono ?_); rintro e w14 ⟨rfl, hb⟩; have n0_ := Aside0.mk (Kd.R_below (by (with_reducible repeat (first | apply Kd.R_alloc | apply Kd.R_drewN | apply Kd.R_drew)); exact HO229.out) hb); have n1_ := Aside0.mk (below_step (by repeat (first | (with_reducible first | exact HB.out | apply below_alloc | apply pw_below_drewN | apply below_drew1) | exact HB.out)) hb); clear HO229; clear HB; have HO229 := n0_; have HB := n1_; clear n0_ n1_; (try clear hb); (try clear hb2); (try clear hk); (try clear hi)))
        go_ret
        exact ⟨by first | rfl | (simp [errW_none, errW_some] <;> rfl) | (simp [*, errW_none, errW_some] <;> rfl), by repeat (first | (with_reducible first | exact HB.out | apply below_alloc | apply pw_below_drewN | apply below_drew1) | exact HB.out)⟩
       ·rw [if_neg c9] at H
        have c9b0 : (t232 == 1073741824) = false := beq_eq_false_iff_ne.mpr c9
        have c9b1 : (t232 != 1073741824) = true := bne_iff_ne.mpr c9
        obtain rfl := Option.some.inj H
        go_enter Tryd.func22, Tryd.ntmps22
        go_wp2_with (first | ((with_reducible refine gate_callee (f := 36) rfl ?_); refine goesL_ (some 4) rfl rfl Tryd.func36 (by kernel_rfl) rfl #[.int .i64 0, .int .i64 4, .int .i64 2, .int .i64 1] rfl (by (try simp only [List.map_toArray, List.map_cons, List.map_nil]); first | done | rfl | (simp only [List.length_drop, List.length_take]; rfl)) ?_; (with_reducible refine (raw_Row.calls k 0 4 2 1 t226 t227 _ (by exact GL.below hG (by repeat (first | (with_reducible first | exact HB.out | apply below_alloc | apply pw_below_drewN | apply below_drew1) | exact HB.out | exact Below.refl _ _))) A1.out).mono ?_); rintro e w15 ⟨v228, rfl, ho0, hb⟩; refine ⟨_, rfl, ?_⟩; have n0_ := Aside0.mk (Kd.R_lower ho0 (below_size (by repeat (first | (with_reducible first | exact HB.out | apply below_alloc | apply pw_below_drewN | apply below_drew1) | exact HB.out)))); have n1_ := Aside0.mk (below_step (by repeat (first | (with_reducible first | exact HB.out | apply below_alloc | apply pw_below_drewN | apply below_drew1) | exact HB.out)) hb); clear HB; have HO229 := n0_; have HB := n1_; clear n0_ n1_; (try clear hb); (try clear hb2); (try clear hk); (try clear hi); (try clear ho0); obtain ⟨Ao16, co16, eo16⟩ := Kd.R_slice HO229.out; subst eo16; have p230 : 0 ≤ (0 : Int) := (by omega); have q230 : 0 < (t227.length : Int) := of_decide_eq_true (by first | (with_reducible assumption) | assumption); obtain ⟨ad230, e230, hx230_0⟩ := Kd.at_int (Kd.R_reads' HO229.out).2.2 0 p230 q230; cases e230; have qi230 : (0 < t227.length) = True := eq_true (by omega); (try rw [show ((0 : Int)).toNat = 0 from rfl] at hx230_0); (try rw [Addr.add_zero'] at hx230_0); replace p230 := eq_true p230; replace q230 := eq_true q230; have p231 : 0 ≤ (1 : Int) := (by omega); have q231 : 1 < (t227.length : Int) := of_decide_eq_true (by first | (with_reducible assumption) | assumption); obtain ⟨ad231, e231, hx231_0⟩ := Kd.at_int (Kd.R_reads' HO229.out).2.2 1 p231 q231; obtain rfl : ad230 = ad231 := (by injection e231); (try simp only [show (1 : Int).toNat = 1 from rfl, Nat.reduceMul, Nat.reduceEqDiff, Go.Addr.add, ↓reduceIte] at hx231_0); have qi231 : (1 < t227.length) = True := eq_true (by omega); (try rw [show ((1 : Int)).toNat = 1 from rfl] at hx231_0); replace p231 := eq_true p231; replace q231 := eq_true q231) | (go_at_call 37; (with_reducible refine (raw_Keys.calls k 0 1 t232 _ A8.out).mono ?_); rintro e w17 ⟨rfl, hb⟩; have n0_ := Aside0.mk (Kd.R_below (by (with_reducible repeat (first | apply Kd.R_alloc | apply Kd.R_drewN | apply Kd.R_drew)); exact HO229.out) hb); have n1_ := Aside0.mk (below_step (by repeat (first | (with_reducible first | exact HB.out | apply below_alloc | apply pw_below_drewN | apply below_drew1) | exact HB.out)) hb); clear HO229; clear HB; have HO229 := n0_; have HB := n1_; clear n0_ n1_; (try clear hb); (try clear hb2); (try clear hk); (try clear hi)))
        go_ret
        exact ⟨by first | rfl | (simp [errW_none, errW_some] <;> rfl) | (simp [*, errW_none, errW_some] <;> rfl), by repeat (first | (with_reducible first | exact HB.out | apply below_alloc | apply pw_below_drewN | apply below_drew1) | exact HB.out)⟩
      ·rw [if_neg c7] at H
       have c7b0 : ((rd t227 1) == 536870912) = false := beq_eq_false_iff_ne.mpr c7
       have c7b1 : ((rd t227 1) != 536870912) = true := bne_iff_ne.mpr c7
       obtain rfl := Option.some.inj H
       go_enter Tryd.func22, Tryd.ntmps22
       go_wp2_with (first | ((with_reducible refine gate_callee (f := 36) rfl ?_); refine goesL_ (some 4) rfl rfl Tryd.func36 (by kernel_rfl) rfl #[.int .i64 0, .int .i64 4, .int .i64 2, .int .i64 1] rfl (by (try simp only [List.map_toArray, List.map_cons, List.map_nil]); first | done | rfl | (simp only [List.length_drop, List.length_take]; rfl)) ?_; (with_reducible refine (raw_Row.calls k 0 4 2 1 t226 t227 _ (by exact GL.below hG (by repeat (first | (with_reducible first | exact HB.out | apply below_alloc | apply pw_below_drewN | apply below_drew1) | exact HB.out | exact Below.refl _ _))) A1.out).mono ?_); rintro e w18 ⟨v228, rfl, ho0, hb⟩; refine ⟨_, rfl, ?_⟩; have n0_ := Aside0.mk (Kd.R_lower ho0 (below_size (by repeat (first | (with_reducible first | exact HB.out | apply below_alloc | apply pw_below_drewN | apply below_drew1) | exact HB.out)))); have n1_ := Aside0.mk (below_step (by repeat (first | (with_reducible first | exact HB.out | apply below_alloc | apply pw_below_drewN | apply below_drew1) | exact HB.out)) hb); clear HB; have HO229 := n0_; have HB := n1_; clear n0_ n1_; (try clear hb); (try clear hb2); (try clear hk); (try clear hi); (try clear ho0); obtain ⟨Ao19, co19, eo19⟩ := Kd.R_slice HO229.out; subst eo19; have p230 : 0 ≤ (0 : Int) := (by omega); have q230 : 0 < (t227.length : Int) := of_decide_eq_true (by first | (with_reducible assumption) | assumption); obtain ⟨ad230, e230, hx230_0⟩ := Kd.at_int (Kd.R_reads' HO229.out).2.2 0 p230 q230; cases e230; have qi230 : (0 < t227.length) = True := eq_true (by omega); (try rw [show ((0 : Int)).toNat = 0 from rfl] at hx230_0); (try rw [Addr.add_zero'] at hx230_0); replace p230 := eq_true p230; replace q230 := eq_true q230; have p231 : 0 ≤ (1 : Int) := (by omega); have q231 : 1 < (t227.length : Int) := of_decide_eq_true (by first | (with_reducible assumption) | assumption); obtain ⟨ad231, e231, hx231_0⟩ := Kd.at_int (Kd.R_reads' HO229.out).2.2 1 p231 q231; obtain rfl : ad230 = ad231 := (by injection e231); (try simp only [show (1 : Int).toNat = 1 from rfl, Nat.reduceMul, Nat.reduceEqDiff, Go.Addr.add, ↓reduceIte] at hx231_0); have qi231 : (1 < t227.length) = True := eq_true (by omega); (try rw [show ((1 : Int)).toNat = 1 from rfl] at hx231_0); replace p231 := eq_true p231; replace q231 := eq_true q231))
       go_ret
       exact ⟨by first | rfl | (simp [errW_none, errW_some] <;> rfl) | (simp [*, errW_none, errW_some] <;> rfl), by repeat (first | (with_reducible first | exact HB.out | apply below_alloc | apply pw_below_drewN | apply below_drew1) | exact HB.out)⟩
     ·rw [if_neg c6] at H
      exact absurd H (by simp)
    ·rw [if_neg c5] at H
     have c5b0 : ((rd t227 0) == 536870912) = false := beq_eq_false_iff_ne.mpr c5
     have c5b1 : ((rd t227 0) != 536870912) = true := bne_iff_ne.mpr c5
     obtain rfl := Option.some.inj H
     go_enter Tryd.func22, Tryd.ntmps22
     go_wp2_with (first | ((with_reducible refine gate_callee (f := 36) rfl ?_); refine goesL_ (some 4) rfl rfl Tryd.func36 (by kernel_rfl) rfl #[.int .i64 0, .int .i64 4, .int .i64 2, .int .i64 1] rfl (by (try simp only [List.map_toArray, List.map_cons, List.map_nil]); first | done | rfl | (simp only [List.length_drop, List.length_take]; rfl)) ?_; (with_reducible refine (raw_Row.calls k 0 4 2 1 t226 t227 _ (by exact GL.below hG (by repeat (first | (with_reducible first | exact HB.out | apply below_alloc | apply pw_below_drewN | apply below_drew1) | exact HB.out | exact Below.refl _ _))) A1.out).mono ?_); rintro e w20 ⟨v228, rfl, ho0, hb⟩; refine ⟨_, rfl, ?_⟩; have n0_ := Aside0.mk (Kd.R_lower ho0 (below_size (by repeat (first | (with_reducible first | exact HB.out | apply below_alloc | apply pw_below_drewN | apply below_drew1) | exact HB.out)))); have n1_ := Aside0.mk (below_step (by repeat (first | (with_reducible first | exact HB.out | apply below_alloc | apply pw_below_drewN | apply below_drew1) | exact HB.out)) hb); clear HB; have HO229 := n0_; have HB := n1_; clear n0_ n1_; (try clear hb); (try clear hb2); (try clear hk); (try clear hi); (try clear ho0); obtain ⟨Ao21, co21, eo21⟩ := Kd.R_slice HO229.out; subst eo21; have p230 : 0 ≤ (0 : Int) := (by omega); have q230 : 0 < (t227.length : Int) := of_decide_eq_true (by first | (with_reducible assumption) | assumption); obtain ⟨ad230, e230, hx230_0⟩ := Kd.at_int (Kd.R_reads' HO229.out).2.2 0 p230 q230; cases e230; have qi230 : (0 < t227.length) = True := eq_true (by omega); (try rw [show ((0 : Int)).toNat = 0 from rfl] at hx230_0); (try rw [Addr.add_zero'] at hx230_0); replace p230 := eq_true p230; replace q230 := eq_true q230))
     go_ret
     exact ⟨by first | rfl | (simp [errW_none, errW_some] <;> rfl) | (simp [*, errW_none, errW_some] <;> rfl), by repeat (first | (with_reducible first | exact HB.out | apply below_alloc | apply pw_below_drewN | apply below_drew1) | exact HB.out)⟩
   ·rw [if_neg c4] at H
    exact absurd H (by simp)
  ·rw [if_neg c3] at H
   have c3b0 : ((t227.length : Int) == 2) = false := beq_eq_false_iff_ne.mpr c3
   have c3b1 : ((t227.length : Int) != 2) = true := bne_iff_ne.mpr c3
   obtain rfl := Option.some.inj H
   go_enter Tryd.func22, Tryd.ntmps22
   go_wp2_with (first | ((with_reducible refine gate_callee (f := 36) rfl ?_); refine goesL_ (some 4) rfl rfl Tryd.func36 (by kernel_rfl) rfl #[.int .i64 0, .int .i64 4, .int .i64 2, .int .i64 1] rfl (by (try simp only [List.map_toArray, List.map_cons, List.map_nil]); first | done | rfl | (simp only [List.length_drop, List.length_take]; rfl)) ?_; (with_reducible refine (raw_Row.calls k 0 4 2 1 t226 t227 _ (by exact GL.below hG (by repeat (first | (with_reducible first | exact HB.out | apply below_alloc | apply pw_below_drewN | apply below_drew1) | exact HB.out | exact Below.refl _ _))) A1.out).mono ?_); rintro e w22 ⟨v228, rfl, ho0, hb⟩; refine ⟨_, rfl, ?_⟩; have n0_ := Aside0.mk (Kd.R_lower ho0 (below_size (by repeat (first | (with_reducible first | exact HB.out | apply below_alloc | apply pw_below_drewN | apply below_drew1) | exact HB.out)))); have n1_ := Aside0.mk (below_step (by repeat (first | (with_reducible first | exact HB.out | apply below_alloc | apply pw_below_drewN | apply below_drew1) | exact HB.out)) hb); clear HB; have HO229 := n0_; have HB := n1_; clear n0_ n1_; (try clear hb); (try clear hb2); (try clear hk); (try clear hi); (try clear ho0); obtain ⟨Ao23, co23, eo23⟩ := Kd.R_slice HO229.out; subst eo23))
   go_ret
   exact ⟨by first | rfl | (simp [errW_none, errW_some] <;> rfl) | (simp [*, errW_none, errW_some] <;> rfl), by repeat (first | (with_reducible first | exact HB.out | apply below_alloc | apply pw_below_drewN | apply below_drew1) | exact HB.out)⟩
 ·rw [if_neg c2] at H
  have c2b0 : (t226 == 2) = false := beq_eq_false_iff_ne.mpr c2
  have c2b1 : (t226 != 2) = true := bne_iff_ne.mpr c2
  obtain rfl := Option.some.inj H
  go_enter Tryd.func22, Tryd.ntmps22
  go_wp2_with (first | ((with_reducible refine gate_callee (f := 36) rfl ?_); refine goesL_ (some 4) rfl rfl Tryd.func36 (by kernel_rfl) rfl #[.int .i64 0, .int .i64 4, .int .i64 2, .int .i64 1] rfl (by (try simp only [List.map_toArray, List.map_cons, List.map_nil]); first | done | rfl | (simp only [List.length_drop, List.length_take]; rfl)) ?_; (with_reducible refine (raw_Row.calls k 0 4 2 1 t226 t227 _ (by exact GL.below hG (by repeat (first | (with_reducible first | exact HB.out | apply below_alloc | apply pw_below_drewN | apply below_drew1) | exact HB.out | exact Below.refl _ _))) A1.out).mono ?_); rintro e w24 ⟨v228, rfl, ho0, hb⟩; refine ⟨_, rfl, ?_⟩; have n0_ := Aside0.mk (Kd.R_lower ho0 (below_size (by repeat (first | (with_reducible first | exact HB.out | apply below_alloc | apply pw_below_drewN | apply below_drew1) | exact HB.out)))); have n1_ := Aside0.mk (below_step (by repeat (first | (with_reducible first | exact HB.out | apply below_alloc | apply pw_below_drewN | apply below_drew1) | exact HB.out)) hb); clear HB; have HO229 := n0_; have HB := n1_; clear n0_ n1_; (try clear hb); (try clear hb2); (try clear hk); (try clear hi); (try clear ho0)))
  go_ret
  exact ⟨by first | rfl | (simp [errW_none, errW_some] <;> rfl) | (simp [*, errW_none, errW_some] <;> rfl), by repeat (first | (with_reducible first | exact HB.out | apply below_alloc | apply pw_below_drewN | apply below_drew1) | exact HB.out)⟩
end Go.Proofs.YtkdmebekabmkkaaDoor.QA

namespace Go.Proofs.YtkdmebekabmkkaaDoor.QA
open Go.Proofs.YtkdmebekabmkkaaDoor.T
open Go.RowKit Go.Proofs.YtkdmebekabmkkaaDoorW.PrintWords Go.Proofs.YtkdmebekabmkkaaDoorW.PrintLast Go.Proofs.YtkdmebekabmkkaaDoorW.PrintMore
attribute [local go_sem] ext_call max2_int min2_int max_two min_two max_three min_three max_four min_four   -- for this text's walks alone
set_option linter.unusedVariables false
set_option linter.unusedSimpArgs false
def op_Size.f (a0_0 : Int) (a0_1 : Int) (a0_2 : Int) (a0_3 : Int) (l0_4 : List Int) (l0_5 : List Int) (a0_6 : Int) (a0_7 : Int) (a0_8 : Int) (a1 : Int) (a2 : Int) : Option (Int × Int) := if a0_0 = 3 then (some (a0_7, a0_8)) else (some (a1, a2))
set_option maxHeartbeats 8000000 in
set_option maxRecDepth 100000 in
theorem op_Size.calls (a0_0 : Int) (a0_1 : Int) (a0_2 : Int) (a0_3 : Int) (A0_4 : Option Addr) (c0_4 : Nat) (l0_4 : List Int) (A0_5 : Option Addr) (c0_5 : Nat) (l0_5 : List Int) (a0_6 : Int) (a0_7 : Int) (a0_8 : Int) (a1 : Int) (a2 : Int) (r1 : Int) (r2 : Int) (w : World) (hr0_4 : Kd.C (Kd.int .i64) w A0_4 l0_4.length l0_4) (hc0_4 : l0_4.length ≤ c0_4) (hr0_5 : Kd.C (Kd.int .i64) w A0_5 l0_5.length l0_5) (hc0_5 : l0_5.length ≤ c0_5) (h : op_Size.f a0_0 a0_1 a0_2 a0_3 l0_4 l0_5 a0_6 a0_7 a0_8 a1 a2 = some (r1, r2)) :
  Calls Tryd.prog 9 #[.agg #[.int .i64 a0_0, .int .i64 a0_1, .int .i64 a0_2, .int .i64 a0_3, .slice A0_4 l0_4.length c0_4, .slice A0_5 l0_5.length c0_5, .int .i64 a0_6, .int .i64 a0_7, .int .i64 a0_8], .int .i64 a1, .int .i64 a2] w fun e w' => e = .returned (.tuple #[.int .i64 r1, .int .i64 r2]) ∧ Below w.heap.size w w' := by
 have hu40 := Tryd.underlying40
 have HR0_4 := Aside0.mk hr0_4
 have HC0_4 := Aside0.mk hc0_4
 clear hr0_4 hc0_4
 have HR0_5 := Aside0.mk hr0_5
 have HC0_5 := Aside0.mk hc0_5
 clear hr0_5 hc0_5
 have HB := Aside0.mk (Below.refl w.heap.size w)
 have H : (if a0_0 = 3 then (some (a0_7, a0_8)) else (some (a1, a2))) = some (r1, r2) := h
 clear h
 by_cases c4 : a0_0 = 3
 ·rw [if_pos c4] at H
  have c4b0 : (a0_0 == 3) = true := beq_iff_eq.mpr c4
  have c4b1 : (a0_0 != 3) = false := bne_eq_false_iff_eq.mpr c4
  clear c4
  simp only [Option.some.injEq, Prod.mk.injEq] at H
  obtain ⟨rfl, rfl⟩ := H
  go_enter Tryd.func9, Tryd.ntmps9
  go_wp2_with (first | ((with_reducible refine gate_dst (N := 3) rfl ?_); refine box_event ?hg (N := 3) ?hd (cs := #[.int .i64 a0_0, .int .i64 a0_1, .int .i64 a0_2, .int .i64 a0_3, .slice A0_4 l0_4.length c0_4, .slice A0_5 l0_5.length c0_5, .int .i64 a0_6, .int .i64 a0_7, .int .i64 a0_8]) (t := 40) ?hr ?_; (case hd => rfl); (case hg => rfl); (case hr => first | (go_simp; done) | (go_simp; rfl)); intro gb259 hg w5 hbox hb; have n0_ := Aside0.mk (below_step (by repeat (first | (with_reducible first | exact HB.out | apply below_alloc | apply pw_below_drewN | apply below_drew1) | exact HB.out)) hb); have n1_ := Aside0.mk (hbox); have n2_ := Aside0.mk ((by rw [hg]; exact (below_size (by repeat (first | (with_reducible first | exact HB.out | apply below_alloc | apply pw_below_drewN | apply below_drew1) | exact HB.out))) : w.heap.size ≤ gb259)); have n3_ := Aside0.mk ((by rw [hg]; exact (below_size (by repeat (first | (with_reducible first | exact HB.out | apply below_alloc | apply pw_below_drewN | apply below_drew1) | exact HB.out))) : w.heap.size ≤ gb259)); clear HB; have HB := n0_; have BK259 := n1_; have GW259 := n2_; have GE259 := n3_; clear n0_ n1_ n2_ n3_; clear hb hbox hg; have hcz6_0 : w5.cell? ⟨gb259, 0, none⟩ = some (.int .i64 a0_0) := (blk_cell BK259.out 0).trans rfl; have hcz6_1 : w5.cell? ⟨gb259, 1, none⟩ = some (.int .i64 a0_1) := (blk_cell BK259.out 1).trans rfl; have hcz6_2 : w5.cell? ⟨gb259, 2, none⟩ = some (.int .i64 a0_2) := (blk_cell BK259.out 2).trans rfl; have hcz6_3 : w5.cell? ⟨gb259, 3, none⟩ = some (.int .i64 a0_3) := (blk_cell BK259.out 3).trans rfl; have hcz6_4 : w5.cell? ⟨gb259, 4, none⟩ = some (.slice A0_4 l0_4.length c0_4) := (blk_cell BK259.out 4).trans rfl; have hcz6_5 : w5.cell? ⟨gb259, 5, none⟩ = some (.slice A0_5 l0_5.length c0_5) := (blk_cell BK259.out 5).trans rfl; have hcz6_6 : w5.cell? ⟨gb259, 6, none⟩ = some (.int .i64 a0_6) := (blk_cell BK259.out 6).trans rfl; have hcz6_7 : w5.cell? ⟨gb259, 7, none⟩ = some (.int .i64 a0_7) := (blk_cell BK259.out 7).trans rfl; have hcz6_8 : w5.cell? ⟨gb259, 8, none⟩ = some (.int .i64 a0_8) := (blk_cell BK259.out 8).trans rfl; have hfz6_0 := blk_frozen BK259.out 0; have hfz6_1 := blk_frozen BK259.out 1; have hfz6_2 := blk_frozen BK259.out 2; have hfz6_3 := blk_frozen BK259.out 3; have hfz6_4 := blk_frozen BK259.out 4; have hfz6_5 := blk_frozen BK259.out 5; have hfz6_6 := blk_frozen BK259.out 6; have hfz6_7 := blk_frozen BK259.out 7; have hfz6_8 := blk_frozen BK259.out 8))
  repeat (go_quiet (first | ((with_reducible refine gate_dst (N := 3) rfl ?_); refine box_event ?hg (N := 3) ?hd (cs := #[.int .i64 a0_0, .int .i64 a0_1, .int .i64 a0_2, .int .i64 a0_3, .slice A0_4 l0_4.length c0_4, .slice A0_5 l0_5.length c0_5, .int .i64 a0_6, .int .i64 a0_7, .int .i64 a0_8]) (t := 40) ?hr ?_; (case hd => rfl); (case hg => rfl); (case hr => first | (go_simp; done) | (go_simp; rfl)); intro gb259 hg w5 hbox hb; have n0_ := Aside0.mk (below_step (by repeat (first | (with_reducible first | exact HB.out | apply below_alloc | apply pw_below_drewN | apply below_drew1) | exact HB.out)) hb); have n1_ := Aside0.mk (hbox); have n2_ := Aside0.mk ((by rw [hg]; exact (below_size (by repeat (first | (with_reducible first | exact HB.out | apply below_alloc | apply pw_below_drewN | apply below_drew1) | exact HB.out))) : w.heap.size ≤ gb259)); have n3_ := Aside0.mk ((by rw [hg]; exact (below_size (by repeat (first | (with_reducible first | exact HB.out | apply below_alloc | apply pw_below_drewN | apply below_drew1) | exact HB.out))) : w.heap.size ≤ gb259)); clear HB; have HB := n0_; have BK259 := n1_; have GW259 := n2_; have GE259 := n3_; clear n0_ n1_ n2_ n3_; clear hb hbox hg; have hcz6_0 : w5.cell? ⟨gb259, 0, none⟩ = some (.int .i64 a0_0) := (blk_cell BK259.out 0).trans rfl; have hcz6_1 : w5.cell? ⟨gb259, 1, none⟩ = some (.int .i64 a0_1) := (blk_cell BK259.out 1).trans rfl; have hcz6_2 : w5.cell? ⟨gb259, 2, none⟩ = some (.int .i64 a0_2) := (blk_cell BK259.out 2).trans rfl; have hcz6_3 : w5.cell? ⟨gb259, 3, none⟩ = some (.int .i64 a0_3) := (blk_cell BK259.out 3).trans rfl; have hcz6_4 : w5.cell? ⟨gb259, 4, none⟩ = some (.slice A0_4 l0_4.length c0_4) := (blk_cell BK259.out 4).trans rfl; have hcz6_5 : w5.cell? ⟨gb259, 5, none⟩ = some (.slice A0_5 l0_5.length c0_5) := (blk_cell BK259.out 5).trans rfl; have hcz6_6 : w5.cell? ⟨gb259, 6, none⟩ = some (.int .i64 a0_6) := (blk_cell BK259.out 6).trans rfl; have hcz6_7 : w5.cell? ⟨gb259, 7, none⟩ = some (.int .i64 a0_7) := (blk_cell BK259.out 7).trans rfl; have hcz6_8 : w5.cell? ⟨gb259, 8, none⟩ = some (.int .i64 a0_8) := (blk_cell BK259.out 8).trans rfl; have hfz6_0 := blk_frozen BK259.out 0; have hfz6_1 := blk_frozen BK259.out 1; have hfz6_2 := blk_frozen BK259.out 2; have hfz6_3 := blk_frozen BK259.out 3; have hfz6_4 := blk_frozen BK259.out 4; have hfz6_5 := blk_frozen BK259.out 5; have hfz6_6 := blk_frozen BK259.out 6; have hfz6_7 := blk_frozen BK259.out 7; have hfz6_8 := blk_frozen BK259.out 8)); try go_wp2_with (first | ((with_reducible refine gate_dst (N := 3) rfl ?_); refine box_event ?hg (N := 3) ?hd (cs := #[.int .i64 a0_0, .int .i64 a0_1, .int .i64 a0_2, .int .i64 a0_3, .slice A0_4 l0_4.length c0_4, .slice A0_5 l0_5.length c0_5, .int .i64 a0_6, .int .i64 a0_7, .int .i64 a0_8]) (t := 40) ?hr ?_; (case hd => rfl); (case hg => rfl); (case hr => first | (go_simp; done) | (go_simp; rfl)); intro gb259 hg w5 hbox hb; have n0_ := Aside0.mk (below_step (by repeat (first | (with_reducible first | exact HB.out | apply below_alloc | apply pw_below_drewN | apply below_drew1) | exact HB.out)) hb); have n1_ := Aside0.mk (hbox); have n2_ := Aside0.mk ((by rw [hg]; exact (below_size (by repeat (first | (with_reducible first | exact HB.out | apply below_alloc | apply pw_below_drewN | apply below_drew1) | exact HB.out))) : w.heap.size ≤ gb259)); have n3_ := Aside0.mk ((by rw [hg]; exact (below_size (by repeat (first | (with_reducible first | exact HB.out | apply below_alloc | apply pw_below_drewN | apply below_drew1) | exact HB.out))) : w.heap.size ≤ gb259)); clear HB; have HB := n0_; have BK259 := n1_; have GW259 := n2_; have GE259 := n3_; clear n0_ n1_ n2_ n3_; clear hb hbox hg; have hcz6_0 : w5.cell? ⟨gb259, 0, none⟩ = some (.int .i64 a0_0) := (blk_cell BK259.out 0).trans rfl; have hcz6_1 : w5.cell? ⟨gb259, 1, none⟩ = some (.int .i64 a0_1) := (blk_cell BK259.out 1).trans rfl; have hcz6_2 : w5.cell? ⟨gb259, 2, none⟩ = some (.int .i64 a0_2) := (blk_cell BK259.out 2).trans rfl; have hcz6_3 : w5.cell? ⟨gb259, 3, none⟩ = some (.int .i64 a0_3) := (blk_cell BK259.out 3).trans rfl; have hcz6_4 : w5.cell? ⟨gb259, 4, none⟩ = some (.slice A0_4 l0_4.length c0_4) := (blk_cell BK259.out 4).trans rfl; have hcz6_5 : w5.cell? ⟨gb259, 5, none⟩ = some (.slice A0_5 l0_5.length c0_5) := (blk_cell BK259.out 5).trans rfl; have hcz6_6 : w5.cell? ⟨gb259, 6, none⟩ = some (.int .i64 a0_6) := (blk_cell BK259.out 6).trans rfl; have hcz6_7 : w5.cell? ⟨gb259, 7, none⟩ = some (.int .i64 a0_7) := (blk_cell BK259.out 7).trans rfl; have hcz6_8 : w5.cell? ⟨gb259, 8, none⟩ = some (.int .i64 a0_8) := (blk_cell BK259.out 8).trans rfl; have hfz6_0 := blk_frozen BK259.out 0; have hfz6_1 := blk_frozen BK259.out 1; have hfz6_2 := blk_frozen BK259.out 2; have hfz6_3 := blk_frozen BK259.out 3; have hfz6_4 := blk_frozen BK259.out 4; have hfz6_5 := blk_frozen BK259.out 5; have hfz6_6 := blk_frozen BK259.out 6; have hfz6_7 := blk_frozen BK259.out 7; have hfz6_8 := blk_frozen BK259.out 8)))
  go_ret2
  exact ⟨by first | rfl | (simp [errW_none, errW_some] <;> rfl) | (simp [*, errW_none, errW_some] <;> rfl), by repeat (first | (with_reducible first | exact HB.out | apply below_alloc | apply pw_below_drewN | apply below_drew1 | refine below_set ?_ GE259.out) | exact HB.out)⟩
 ·rw [if_neg c4] at H
  have c4b0 : (a0_0 == 3) = false := beq_eq_false_iff_ne.mpr c4
  have c4b1 : (a0_0 != 3) = true := bne_iff_ne.mpr c4
  simp only [Option.some.injEq, Prod.mk.injEq] at H
  obtain ⟨rfl, rfl⟩ := H
  go_enter Tryd.func9, Tryd.ntmps9
  go_wp2_with (first | ((with_reducible refine gate_dst (N := 3) rfl ?_); refine box_event ?hg (N := 3) ?hd (cs := #[.int .i64 a0_0, .int .i64 a0_1, .int .i64 a0_2, .int .i64 a0_3, .slice A0_4 l0_4.length c0_4, .slice A0_5 l0_5.length c0_5, .int .i64 a0_6, .int .i64 a0_7, .int .i64 a0_8]) (t := 40) ?hr ?_; (case hd => rfl); (case hg => rfl); (case hr => first | (go_simp; done) | (go_simp; rfl)); intro gb259 hg w7 hbox hb; have n0_ := Aside0.mk (below_step (by repeat (first | (with_reducible first | exact HB.out | apply below_alloc | apply pw_below_drewN | apply below_drew1) | exact HB.out)) hb); have n1_ := Aside0.mk (hbox); have n2_ := Aside0.mk ((by rw [hg]; exact (below_size (by repeat (first | (with_reducible first | exact HB.out | apply below_alloc | apply pw_below_drewN | apply below_drew1) | exact HB.out))) : w.heap.size ≤ gb259)); have n3_ := Aside0.mk ((by rw [hg]; exact (below_size (by repeat (first | (with_reducible first | exact HB.out | apply below_alloc | apply pw_below_drewN | apply below_drew1) | exact HB.out))) : w.heap.size ≤ gb259)); clear HB; have HB := n0_; have BK259 := n1_; have GW259 := n2_; have GE259 := n3_; clear n0_ n1_ n2_ n3_; clear hb hbox hg; have hcz8_0 : w7.cell? ⟨gb259, 0, none⟩ = some (.int .i64 a0_0) := (blk_cell BK259.out 0).trans rfl; have hcz8_1 : w7.cell? ⟨gb259, 1, none⟩ = some (.int .i64 a0_1) := (blk_cell BK259.out 1).trans rfl; have hcz8_2 : w7.cell? ⟨gb259, 2, none⟩ = some (.int .i64 a0_2) := (blk_cell BK259.out 2).trans rfl; have hcz8_3 : w7.cell? ⟨gb259, 3, none⟩ = some (.int .i64 a0_3) := (blk_cell BK259.out 3).trans rfl; have hcz8_4 : w7.cell? ⟨gb259, 4, none⟩ = some (.slice A0_4 l0_4.length c0_4) := (blk_cell BK259.out 4).trans rfl; have hcz8_5 : w7.cell? ⟨gb259, 5, none⟩ = some (.slice A0_5 l0_5.length c0_5) := (blk_cell BK259.out 5).trans rfl; have hcz8_6 : w7.cell? ⟨gb259, 6, none⟩ = some (.int .i64 a0_6) := (blk_cell BK259.out 6).trans rfl; have hcz8_7 : w7.cell? ⟨gb259, 7, none⟩ = some (.int .i64 a0_7) := (blk_cell BK259.out 7).trans rfl; have hcz8_8 : w7.cell? ⟨gb259, 8, none⟩ = some (.int .i64 a0_8) := (blk_cell BK259.out 8).trans rfl; have hfz8_0 := blk_frozen BK259.out 0; have hfz8_1 := blk_frozen BK259.out 1; have hfz8_2 := blk_frozen BK259.out 2; have hfz8_3 := blk_frozen BK259.out 3; have hfz8_4 := blk_frozen BK259.out 4; have hfz8_5 := blk_frozen BK259.out 5; have hfz8_6 := blk_frozen BK259.out 6; have hfz8_7 := blk_frozen BK259.out 7; have hfz8_8 := blk_frozen BK259.out 8))
  repeat (go_quiet (first | ((with_reducible refine gate_dst (N := 3) rfl ?_); refine box_event ?hg (N := 3) ?hd (cs := #[.int .i64 a0_0, .int .i64 a0_1, .int .i64 a0_2, .int .i64 a0_3, .slice A0_4 l0_4.length c0_4, .slice A0_5 l0_5.length c0_5, .int .i64 a0_6, .int .i64 a0_7, .int .i64 a0_8]) (t := 40) ?hr ?_; (case hd => rfl); (case hg => rfl); (case hr => first | (go_simp; done) | (go_simp; rfl)); intro gb259 hg w7 hbox hb; have n0_ := Aside0.mk (below_step (by repeat (first | (with_reducible first | exact HB.out | apply below_alloc | apply pw_below_drewN | apply below_drew1) | exact HB.out)) hb); have n1_ := Aside0.mk (hbox); have n2_ := Aside0.mk ((by rw [hg]; exact (below_size (by repeat (first | (with_reducible first | exact HB.out | apply below_alloc | apply pw_below_drewN | apply below_drew1) | exact HB.out))) : w.heap.size ≤ gb259)); have n3_ := Aside0.mk ((by rw [hg]; exact (below_size (by repeat (first | (with_reducible first | exact HB.out | apply below_alloc | apply pw_below_drewN | apply below_drew1) | exact HB.out))) : w.heap.size ≤ gb259)); clear HB; have HB := n0_; have BK259 := n1_; have GW259 := n2_; have GE259 := n3_; clear n0_ n1_ n2_ n3_; clear hb hbox hg; have hcz8_0 : w7.cell? ⟨gb259, 0, none⟩ = some (.int .i64 a0_0) := (blk_cell BK259.out 0).trans rfl; have hcz8_1 : w7.cell? ⟨gb259, 1, none⟩ = some (.int .i64 a0_1) := (blk_cell BK259.out 1).trans rfl; have hcz8_2 : w7.cell? ⟨gb259, 2, none⟩ = some (.int .i64 a0_2) := (blk_cell BK259.out 2).trans rfl; have hcz8_3 : w7.cell? ⟨gb259, 3, none⟩ = some (.int .i64 a0_3) := (blk_cell BK259.out 3).trans rfl; have hcz8_4 : w7.cell? ⟨gb259, 4, none⟩ = some (.slice A0_4 l0_4.length c0_4) := (blk_cell BK259.out 4).trans rfl; have hcz8_5 : w7.cell? ⟨gb259, 5, none⟩ = some (.slice A0_5 l0_5.length c0_5) := (blk_cell BK259.out 5).trans rfl; have hcz8_6 : w7.cell? ⟨gb259, 6, none⟩ = some (.int .i64 a0_6) := (blk_cell BK259.out 6).trans rfl; have hcz8_7 : w7.cell? ⟨gb259, 7, none⟩ = some (.int .i64 a0_7) := (blk_cell BK259.out 7).trans rfl; have hcz8_8 : w7.cell? ⟨gb259, 8, none⟩ = some (.int .i64 a0_8) := (blk_cell BK259.out 8).trans rfl; have hfz8_0 := blk_frozen BK259.out 0; have hfz8_1 := blk_frozen BK259.out 1; have hfz8_2 := blk_frozen BK259.out 2; have hfz8_3 := blk_frozen BK259.out 3; have hfz8_4 := blk_frozen BK259.out 4; have hfz8_5 := blk_frozen BK259.out 5; have hfz8_6 := blk_frozen BK259.out 6; have hfz8_7 := blk_frozen BK259.out 7; have hfz8_8 := blk_frozen BK259.out 8)); try go_wp2_with (first | ((with_reducible refine gate_dst (N := 3) rfl ?_); refine box_event ?hg (N := 3) ?hd (cs := #[.int .i64 a0_0, .int .i64 a0_1, .int .i64 a0_2, .int .i64 a0_3, .slice A0_4 l0_4.length c0_4, .slice A0_5 l0_5.length c0_5, .int .i64 a0_6, .int .i64 a0_7, .int .i64 a0_8]) (t := 40) ?hr ?_; (case hd => rfl); (case hg => rfl); (case hr => first | (go_simp; done) | (go_simp; rfl)); intro gb259 hg w7 hbox hb; have n0_ := Aside0.mk (below_step (by repeat (first | (with_reducible first | exact HB.out | apply below_alloc | apply pw_below_drewN | apply below_drew1) | exact HB.out)) hb); have n1_ := Aside0.mk (hbox); have n2_ := Aside0.mk ((by rw [hg]; exact (below_size (by repeat (first | (with_reducible first | exact HB.out | apply below_alloc | apply pw_below_drewN | apply below_drew1) | exact HB.out))) : w.heap.size ≤ gb259)); have n3_ := Aside0.mk ((by rw [hg]; exact (below_size (by repeat (first | (with_reducible first | exact HB.out | apply below_alloc | apply pw_below_drewN | apply below_drew1) | exact HB.out))) : w.heap.size ≤ gb259)); clear HB; have HB := n0_; have BK259 := n1_; have GW259 := n2_; have GE259 := n3_; clear n0_ n1_ n2_ n3_; clear hb hbox hg; have hcz8_0 : w7.cell? ⟨gb259, 0, none⟩ = some (.int .i64 a0_0) := (blk_cell BK259.out 0).trans rfl; have hcz8_1 : w7.cell? ⟨gb259, 1, none⟩ = some (.int .i64 a0_1) := (blk_cell BK259.out 1).trans rfl; have hcz8_2 : w7.cell? ⟨gb259, 2, none⟩ = some (.int .i64 a0_2) := (blk_cell BK259.out 2).trans rfl; have hcz8_3 : w7.cell? ⟨gb259, 3, none⟩ = some (.int .i64 a0_3) := (blk_cell BK259.out 3).trans rfl; have hcz8_4 : w7.cell? ⟨gb259, 4, none⟩ = some (.slice A0_4 l0_4.length c0_4) := (blk_cell BK259.out 4).trans rfl; have hcz8_5 : w7.cell? ⟨gb259, 5, none⟩ = some (.slice A0_5 l0_5.length c0_5) := (blk_cell BK259.out 5).trans rfl; have hcz8_6 : w7.cell? ⟨gb259, 6, none⟩ = some (.int .i64 a0_6) := (blk_cell BK259.out 6).trans rfl; have hcz8_7 : w7.cell? ⟨gb259, 7, none⟩ = some (.int .i64 a0_7) := (blk_cell BK259.out 7).trans rfl; have hcz8_8 : w7.cell? ⟨gb259, 8, none⟩ = some (.int .i64 a0_8) := (blk_cell BK259.out 8).trans rfl; have hfz8_0 := blk_frozen BK259.out 0; have hfz8_1 := blk_frozen BK259.out 1; have hfz8_2 := blk_frozen BK259.out 2; have hfz8_3 := blk_frozen BK259.out 3; have hfz8_4 := blk_frozen BK259.out 4; have hfz8_5 := blk_frozen BK259.out 5; have hfz8_6 := blk_frozen BK259.out 6; have hfz8_7 := blk_frozen BK259.out 7; have hfz8_8 := blk_frozen BK259.out 8)))
  go_ret2
  exact ⟨by first | rfl | (simp [errW_none, errW_some] <;> rfl) | (simp [*, errW_none, errW_some] <;> rfl), by repeat (first | (with_reducible first | exact HB.out | apply below_alloc | apply pw_below_drewN | apply below_drew1 | refine below_set ?_ GE259.out) | exact HB.out)⟩
def raster_Fits.f (a0 : Int) (a1 : Int) (a2 : Int) : Option (Bool) := if a0 ≥ 1 then (if a0 ≤ 65536 then (if a1 ≥ 1 then (if a1 ≤ 65536 then (if a2 = 1 then (some (decide ((wrap64 ((wrap64 (a0 * a1)) * a2)) ≤ 268435456))) else (if a2 = 3 then (some (decide ((wrap64 ((wrap64 (a0 * a1)) * a2)) ≤ 268435456))) else (some false))) else (some false)) else (some false)) else (some false)) else (some false)
set_option maxHeartbeats 8000000 in
set_option maxRecDepth 100000 in
theorem raster_Fits.calls (a0 : Int) (a1 : Int) (a2 : Int) (r : Bool) (w : World) (h : raster_Fits.f a0 a1 a2 = some r) :
  Calls Tryd.prog 15 #[.int .i64 a0, .int .i64 a1, .int .i64 a2] w fun e w' => e = .returned (.bool r) ∧ Drawn0 w w' := by
 have H : (if a0 ≥ 1 then (if a0 ≤ 65536 then (if a1 ≥ 1 then (if a1 ≤ 65536 then (if a2 = 1 then (some (decide ((wrap64 ((wrap64 (a0 * a1)) * a2)) ≤ 268435456))) else (if a2 = 3 then (some (decide ((wrap64 ((wrap64 (a0 * a1)) * a2)) ≤ 268435456))) else (some false))) else (some false)) else (some false)) else (some false)) else (some false)) = some r := h
 clear h
 by_cases c4 : a0 ≥ 1
 ·rw [if_pos c4] at H
  have c4b0 : decide (1 ≤ a0) = true := decide_eq_true c4
  clear c4
  by_cases c5 : a0 ≤ 65536
  ·rw [if_pos c5] at H
   have c5b0 : decide (a0 ≤ 65536) = true := decide_eq_true c5
   clear c5
   by_cases c6 : a1 ≥ 1
   ·rw [if_pos c6] at H
    have c6b0 : decide (1 ≤ a1) = true := decide_eq_true c6
    clear c6
    by_cases c7 : a1 ≤ 65536
    ·rw [if_pos c7] at H
     have c7b0 : decide (a1 ≤ 65536) = true := decide_eq_true c7
     clear c7
     by_cases c8 : a2 = 1
     ·rw [if_pos c8] at H
      have c8b0 : (a2 == 1) = true := beq_iff_eq.mpr c8
      have c8b1 : (a2 != 1) = false := bne_eq_false_iff_eq.mpr c8
      clear c8
      obtain rfl := Option.some.inj H
      go_enter Tryd.func15, Tryd.ntmps15
      go_wp2
      go_ret
      exact ⟨by first | rfl | (simp; done) | (simp [*]; done), by repeat (first | exact Drawn0.refl _ | apply Drawn0.step)⟩
     ·rw [if_neg c8] at H
      have c8b0 : (a2 == 1) = false := beq_eq_false_iff_ne.mpr c8
      have c8b1 : (a2 != 1) = true := bne_iff_ne.mpr c8
      by_cases c9 : a2 = 3
      ·rw [if_pos c9] at H
       have c9b0 : (a2 == 3) = true := beq_iff_eq.mpr c9
       have c9b1 : (a2 != 3) = false := bne_eq_false_iff_eq.mpr c9
       clear c9
       obtain rfl := Option.some.inj H
       go_enter Tryd.func15, Tryd.ntmps15
       go_wp2
       go_ret
       exact ⟨by first | rfl | (simp; done) | (simp [*]; done), by repeat (first | exact Drawn0.refl _ | apply Drawn0.step)⟩
      ·rw [if_neg c9] at H
       have c9b0 : (a2 == 3) = false := beq_eq_false_iff_ne.mpr c9
       have c9b1 : (a2 != 3) = true := bne_iff_ne.mpr c9
       obtain rfl := Option.some.inj H
       go_enter Tryd.func15, Tryd.ntmps15
       go_wp2
       go_ret
       exact ⟨by first | rfl | (simp; done) | (simp [*]; done), by repeat (first | exact Drawn0.refl _ | apply Drawn0.step)⟩
    ·rw [if_neg c7] at H
     have c7b0 : decide (a1 ≤ 65536) = false := decide_eq_false c7
     clear c7
     obtain rfl := Option.some.inj H
     go_enter Tryd.func15, Tryd.ntmps15
     go_wp2
     go_ret
     exact ⟨by first | rfl | (simp; done) | (simp [*]; done), by repeat (first | exact Drawn0.refl _ | apply Drawn0.step)⟩
   ·rw [if_neg c6] at H
    have c6b0 : decide (1 ≤ a1) = false := decide_eq_false c6
    clear c6
    obtain rfl := Option.some.inj H
    go_enter Tryd.func15, Tryd.ntmps15
    go_wp2
    go_ret
    exact ⟨by first | rfl | (simp; done) | (simp [*]; done), by repeat (first | exact Drawn0.refl _ | apply Drawn0.step)⟩
  ·rw [if_neg c5] at H
   have c5b0 : decide (a0 ≤ 65536) = false := decide_eq_false c5
   clear c5
   obtain rfl := Option.some.inj H
   go_enter Tryd.func15, Tryd.ntmps15
   go_wp2
   go_ret
   exact ⟨by first | rfl | (simp; done) | (simp [*]; done), by repeat (first | exact Drawn0.refl _ | apply Drawn0.step)⟩
 ·rw [if_neg c4] at H
  have c4b0 : decide (1 ≤ a0) = false := decide_eq_false c4
  clear c4
  obtain rfl := Option.some.inj H
  go_enter Tryd.func15, Tryd.ntmps15
  go_wp2
  go_ret
  exact ⟨by first | rfl | (simp; done) | (simp [*]; done), by repeat (first | exact Drawn0.refl _ | apply Drawn0.step)⟩
def plan_side.f (a0 : Int) : Option (Bool) := if a0 ≥ 1 then (some (decide (a0 ≤ 4096))) else (some false)
set_option maxHeartbeats 8000000 in
set_option maxRecDepth 100000 in
theorem plan_side.calls (a0 : Int) (r : Bool) (w : World) (h : plan_side.f a0 = some r) :
  Calls Tryd.prog 21 #[.int .i64 a0] w fun e w' => e = .returned (.bool r) ∧ Drawn0 w w' := by
 have H : (if a0 ≥ 1 then (some (decide (a0 ≤ 4096))) else (some false)) = some r := h
 clear h
 by_cases c2 : a0 ≥ 1
 ·rw [if_pos c2] at H
  have c2b0 : decide (1 ≤ a0) = true := decide_eq_true c2
  clear c2
  obtain rfl := Option.some.inj H
  go_enter Tryd.func21, Tryd.ntmps21
  go_wp2
  go_ret
  exact ⟨by first | rfl | (simp; done) | (simp [*]; done), by repeat (first | exact Drawn0.refl _ | apply Drawn0.step)⟩
 ·rw [if_neg c2] at H
  have c2b0 : decide (1 ≤ a0) = false := decide_eq_false c2
  clear c2
  obtain rfl := Option.some.inj H
  go_enter Tryd.func21, Tryd.ntmps21
  go_wp2
  go_ret
  exact ⟨by first | rfl | (simp; done) | (simp [*]; done), by repeat (first | exact Drawn0.refl _ | apply Drawn0.step)⟩
def plan_parts.f (a0 : Int) (a1 : Int) : Option (Int) := if a1 = 0 then (none) else (some (wrap64 (Int.tdiv (wrap64 ((wrap64 (a0 + a1)) - 1)) a1)))
set_option maxHeartbeats 8000000 in
set_option maxRecDepth 100000 in
theorem plan_parts.calls (a0 : Int) (a1 : Int) (r : Int) (w : World) (h : plan_parts.f a0 a1 = some r) :
  Calls Tryd.prog 31 #[.int .i64 a0, .int .i64 a1] w fun e w' => e = .returned (.int .i64 r) ∧ Drawn0 w w' := by
 have H : (if a1 = 0 then (none) else (some (wrap64 (Int.tdiv (wrap64 ((wrap64 (a0 + a1)) - 1)) a1)))) = some r := h
 clear h
 by_cases c3 : a1 = 0
 ·rw [if_pos c3] at H
  exact absurd H (by simp)
 ·rw [if_neg c3] at H
  have c3b0 : (a1 == 0) = false := beq_eq_false_iff_ne.mpr c3
  have c3b1 : (a1 != 0) = true := bne_iff_ne.mpr c3
  obtain rfl := Option.some.inj H
  go_enter Tryd.func31, Tryd.ntmps31
  go_wp2
  go_ret
  exact ⟨by first | rfl | (simp; done) | (simp [*]; done), by repeat (first | exact Drawn0.refl _ | apply Drawn0.step)⟩
def table_Table_Most.f (s0_0 : Int) (s0_1 : List (S67)) (s0_2 : Int) (s0_3 : Int) : Option (Int × Int × Int × Int) := some (s0_2, s0_0, s0_2, s0_3)
set_option maxHeartbeats 8000000 in
set_option maxRecDepth 100000 in
theorem table_Table_Most.calls (g : Nat) (s0_0 : Int) (s0_1 : List (S67)) (s0_2 : Int) (s0_3 : Int) (r1 : Int) (r2 : Int) (r3 : Int) (r4 : Int) (w0 w : World) (hI : IsS51 w0 w g s0_0 s0_1 s0_2 s0_3) (hB : Below w0.heap.size w0 w) (h : table_Table_Most.f s0_0 s0_1 s0_2 s0_3 = some (r1, r2, r3, r4)) :
  Calls Tryd.prog 29 #[.pointer (some ⟨g, 0, none⟩)] w fun e w' => e = .returned (.int .i64 r1) ∧ IsS51 w0 w' g r2 s0_1 r3 r4 ∧ Below w0.heap.size w0 w' ∧ KeepBut w w' g none := by
 have HI0 := Aside0.mk hI
 have HK := Aside0.mk (KeepBut.refl w g none)
 have HL := Aside0.mk hB.size
 clear hI
 have HW0 := Aside0.mk hB.size
 have HB := Aside0.mk hB
 clear hB
 have H : (some (s0_2, s0_0, s0_2, s0_3)) = some (r1, r2, r3, r4) := h
 clear h
 simp only [Option.some.injEq, Prod.mk.injEq] at H
 obtain ⟨rfl, rfl, rfl, rfl⟩ := H
 obtain ⟨ASz2_1, cSz2_1, HGz2, hgz2, HSz2_1⟩ := HI0.out
 have hcz2_0 := cellS51_0 HGz2
 have hcz2_1 := cellS51_1 HGz2
 have hcz2_2 := cellS51_2 HGz2
 have hcz2_3 := cellS51_3 HGz2
 have hfz2_0 := blk_frozen HGz2 0
 have hfz2_2 := blk_frozen HGz2 2
 have hfz2_3 := blk_frozen HGz2 3
 clear HGz2 hgz2
 go_enter Tryd.func29, Tryd.ntmps29
 go_wp2
 go_ret
 exact ⟨by first | rfl | (simp [errW_none, errW_some] <;> rfl) | (simp [*, errW_none, errW_some] <;> rfl), by repeat (first | (with_reducible first | exact HI0.out | apply IsS51.alloc | apply IsS51.drewN | apply IsS51.drew | apply IsS51.set_0 | apply IsS51.set_2 | apply IsS51.set_3) | exact HI0.out), by repeat (first | (with_reducible first | exact HB.out | apply below_alloc | apply pw_below_drewN | apply below_drew1 | refine below_set ?_ (IsS51.ge HI0.out)) | exact HB.out), by repeat (first | (with_reducible first | exact HK.out | apply KeepBut.set_ | apply keep_drewN | apply keep_drew | apply keep_alloc) | exact HK.out)⟩
end Go.Proofs.YtkdmebekabmkkaaDoor.QA
