/- Joined by wip/tools/bundle.py out of: QAx29 QAx30 QAx31. -/
import Derived.Test.YthaajkpiknbdbaaDoorBTableFilters1
import Derived.Test.YthaajkpiknbdbaaDoorBTableFilters6
import Derived.Test.YthaajkpiknbdbaaDoorBTableFilters9
import Derived.Test.YthaajkpiknbdbaaDoorBTableFilters10
namespace Go.Proofs.YthaajkpiknbdbaaDoor.QA
open Go.Proofs.YthaajkpiknbdbaaDoor.T
open Go.RowKit Go.Proofs.YthaajkpiknbdbaaDoorW.PrintWords Go.Proofs.YthaajkpiknbdbaaDoorW.PrintLast Go.Proofs.YthaajkpiknbdbaaDoorW.PrintMore
attribute [local go_sem] ext_call max2_int min2_int max_two min_two max_three min_three max_four min_four   -- for this text's walks alone
set_option linter.unusedVariables false
set_option linter.unusedSimpArgs false
mutual
def smaltoref08_Resize.j0 : Nat → Int → Int → Int → Bool → Option ((List (S62)) × Int)
 | 0, _, _, _, _ => none
 | k + 1, x0, x1, x2, x29 => if x29 = true then (some (([] : List (S62)), 6)) else (smaltoref08_Resize.l0 k x0 x1 x2 ([] : List (S62)) x2 0)
def smaltoref08_Resize.l0 : Nat → Int → Int → Int → List (S62) → Int → Int → Option ((List (S62)) × Int)
 | 0, _, _, _, _, _, _ => none
 | k + 1, x0, x1, x2, x8, x30, x31 => if x31 < x30 then ((smaltoref05_Row.f k x0 x1 x2 x31).bind fun bt368 => ((smaltoref06_Apportion.f k bt368.2).bind fun bt372 => (if bt372.2 = 0 then (if x8.length < 4398046511104 then (smaltoref08_Resize.l0 k x0 x1 x2 (x8 ++ [(⟨bt368.1, bt372.1⟩ : S62)]) x30 (wrap64 (x31 + 1))) else (none)) else (some (([] : List (S62)), bt372.2))))) else (some (x8, 0))
end
def smaltoref08_Resize.f (k : Nat) (a0 : Int) (a1 : Int) (a2 : Int) : Option ((List (S62)) × Int) := if a0 < 0 then (smaltoref08_Resize.j0 k a0 a1 a2 true) else (if a0 > 2 then (smaltoref08_Resize.j0 k a0 a1 a2 true) else ((smaltoref08_side.f a1).bind fun t366 => (if t366 = true then ((smaltoref08_side.f a2).bind fun t367 => (smaltoref08_Resize.j0 k a0 a1 a2 (!t367))) else (smaltoref08_Resize.j0 k a0 a1 a2 true))))
theorem smaltoref08_Resize.mono_l : ∀ k, (∀ y0 y1 y2 y3, LeO (smaltoref08_Resize.j0 k y0 y1 y2 y3) (smaltoref08_Resize.j0 (k + 1) y0 y1 y2 y3)) ∧ (∀ y0 y1 y2 y3 y4 y5, LeO (smaltoref08_Resize.l0 k y0 y1 y2 y3 y4 y5) (smaltoref08_Resize.l0 (k + 1) y0 y1 y2 y3 y4 y5))
 | 0 => ⟨fun _ _ _ _ r h => by simp [smaltoref08_Resize.j0] at h, fun _ _ _ _ _ _ r h => by simp [smaltoref08_Resize.l0] at h⟩
 | k + 1 => by
  obtain ⟨ih0, ih1⟩ := smaltoref08_Resize.mono_l k
  refine ⟨?_, ?_⟩
  ·intro y0 y1 y2 y3
   unfold smaltoref08_Resize.j0
   repeat' (with_reducible first | exact ih0 _ _ _ _ | exact ih1 _ _ _ _ _ _ | exact smaltoref05_Row.mono _ _ _ _ _ | exact smaltoref06_Apportion.mono _ _ | exact zM | refine LeO.ite ?_ ?_ | refine LeO.bind ?_ (fun _ => ?_))
  ·intro y0 y1 y2 y3 y4 y5
   unfold smaltoref08_Resize.l0
   repeat' (with_reducible first | exact ih0 _ _ _ _ | exact ih1 _ _ _ _ _ _ | exact smaltoref05_Row.mono _ _ _ _ _ | exact smaltoref06_Apportion.mono _ _ | exact zM | refine LeO.ite ?_ ?_ | refine LeO.bind ?_ (fun _ => ?_))
theorem smaltoref08_Resize.mono : ∀ a0 a1 a2 k, LeO (smaltoref08_Resize.f k a0 a1 a2) (smaltoref08_Resize.f (k + 1) a0 a1 a2) := by
 intro a0 a1 a2 k
 obtain ⟨ih0, ih1⟩ := smaltoref08_Resize.mono_l k
 unfold smaltoref08_Resize.f
 repeat' (with_reducible first | exact ih0 _ _ _ _ | exact ih1 _ _ _ _ _ _ | exact smaltoref05_Row.mono _ _ _ _ _ | exact smaltoref06_Apportion.mono _ _ | exact zM | refine LeO.ite ?_ ?_ | refine LeO.bind ?_ (fun _ => ?_))
set_option maxHeartbeats 8000000 in
set_option maxRecDepth 100000 in
theorem smaltoref08_Resize.calls (k : Nat) (a0 : Int) (a1 : Int) (a2 : Int) (r1 : List (S62)) (r2 : Int) (w : World) (h : smaltoref08_Resize.f k a0 a1 a2 = some (r1, r2)) :
  Calls Tryd.prog 12 #[.int .i64 a0, .int .i64 a1, .int .i64 a2] w fun e w' => ∃ v0_ : Value, e = .returned (.tuple #[v0_, .int .i64 r2]) ∧ Kd.S k62 62 w' w.heap.size (fun _ => True) v0_ r1 ∧ Below w.heap.size w w' := by
 have hu62 := Tryd.underlying62
 have HB := Aside0.mk (Below.refl w.heap.size w)
 have H : (if a0 < 0 then (smaltoref08_Resize.j0 k a0 a1 a2 true) else (if a0 > 2 then (smaltoref08_Resize.j0 k a0 a1 a2 true) else ((smaltoref08_side.f a1).bind fun t366 => (if t366 = true then ((smaltoref08_side.f a2).bind fun t367 => (smaltoref08_Resize.j0 k a0 a1 a2 (!t367))) else (smaltoref08_Resize.j0 k a0 a1 a2 true))))) = some (r1, r2) := h
 clear h
 have HC4 := Aside0.mk H
 clear H
 go_enter Tryd.func12, Tryd.ntmps12
 go_upto_region 1 with (fail)
 go_cut [29] (fun v29 wc => ∃ (kq : Nat) (x29_3 : Bool), v29 = .bool x29_3 ∧ Aside0 (smaltoref08_Resize.j0 kq a0 a1 a2 x29_3 = some (r1, r2)) ∧ Aside0 (kq ≤ k) ∧ Aside0 (Below w.heap.size w wc))
 case first =>
  have H := HC4.out
  clear HC4
  by_cases c5 : a0 < 0
  ·rw [if_pos c5] at H
   have c5b0 : decide (a0 < 0) = true := decide_eq_true c5
   clear c5
   (first | rw [c5b0] | (simp only [i64_w, i32_w]; rw [c5b0]) | skip)
   have H' := Aside0.mk H
   clear H
   go_wp2
   go_meet
   case rel => exact ⟨_, (true), zT, H', ⟨by first | omega | exact Nat.le_refl _⟩, ⟨zB⟩⟩
  ·rw [if_neg c5] at H
   have c5b0 : decide (a0 < 0) = false := decide_eq_false c5
   clear c5
   (first | rw [c5b0] | (simp only [i64_w, i32_w]; rw [c5b0]) | skip)
   by_cases c6 : a0 > 2
   ·rw [if_pos c6] at H
    have c6b0 : decide (2 < a0) = true := decide_eq_true c6
    clear c6
    have H' := Aside0.mk H
    clear H
    go_wp2
    go_meet
    case rel => exact ⟨_, (true), zT, H', ⟨by first | omega | exact Nat.le_refl _⟩, ⟨zB⟩⟩
   ·rw [if_neg c6] at H
    have c6b0 : decide (2 < a0) = false := decide_eq_false c6
    clear c6
    replace H := Option.bind_eq_some_iff.mp H
    obtain ⟨t366, A70, H⟩ := H
    try dsimp only at H
    have A7 := Aside0.mk A70
    clear A70
    by_cases c8 : t366 = true
    ·subst c8
     have H1 := H; rw [if_pos rfl] at H1; try dsimp only at H1
     clear H
     have H := H1
     clear H1
     replace H := Option.bind_eq_some_iff.mp H
     obtain ⟨t367, A90, H⟩ := H
     try dsimp only at H
     have A9 := Aside0.mk A90
     clear A90
     have H' := Aside0.mk H
     clear H
     go_wp2_with (first | (go_at_call 30; (with_reducible refine (smaltoref08_side.calls a1 true _ A7.out).mono ?_); rintro e w' ⟨rfl, ⟨nd, rfl⟩⟩) | (go_at_call 30; (with_reducible refine (smaltoref08_side.calls a2 t367 _ A9.out).mono ?_); rintro e w' ⟨rfl, ⟨nd, rfl⟩⟩))
     go_meet
     case rel => exact ⟨_, (!t367), zT, H', ⟨by first | omega | exact Nat.le_refl _⟩, ⟨zB⟩⟩
    ·replace c8 := Bool.eq_false_iff.mpr c8
     subst c8
     have H1 := H; rw [if_neg (show ¬ (false = true) by decide)] at H1; try dsimp only at H1
     clear H
     have H := H1
     clear H1
     have H' := Aside0.mk H
     clear H
     go_wp2_with (first | (go_at_call 30; (with_reducible refine (smaltoref08_side.calls a1 false _ A7.out).mono ?_); rintro e w' ⟨rfl, ⟨nd, rfl⟩⟩))
     go_meet
     case rel => exact ⟨_, (true), zT, H', ⟨by first | omega | exact Nat.le_refl _⟩, ⟨zB⟩⟩
 case rest =>
  clear HC4
  try clear c1
  try clear p2
  try clear c5
  try clear c5b0
  try clear c6
  try clear c6b0
  try clear c8
  obtain ⟨kq, x29_3, rfl, HA, HJ3, HB⟩ := hcut
  cases kq with
  | zero => exact absurd HA.out (by simp [smaltoref08_Resize.j0])
  | succ kj3 =>
   have H := HA.out
   clear HA
   simp only [smaltoref08_Resize.j0] at H
   by_cases c10 : x29_3 = true
   ·subst c10
    have H1 := H; rw [if_pos rfl] at H1; try dsimp only at H1
    clear H
    have H := H1
    clear H1
    simp only [Option.some.injEq, Prod.mk.injEq] at H
    obtain ⟨rfl, rfl⟩ := H
    go_wp2
    go_ret2
    exact ⟨_, zS, by first | exact Kd.S_nil _ _ _ _ _ | exact Kd.N_nil _ _ _ _ _ | exact Kd.V_nil _ _ _ _ _ | exact Kd.Q_nil _ _ _ _ _ | exact Kd.R_nil _ _ _ _ _, zB⟩
   ·replace c10 := Bool.eq_false_iff.mpr c10
    subst c10
    have H1 := H; rw [if_neg (show ¬ (false = true) by decide)] at H1; try dsimp only at H1
    clear H
    have H := H1
    clear H1
    have H' := Aside0.mk H
    clear H
    go_wp2
    go_loopg [8, 31] kj3 (fun kq v8 v31 w' => ∃ (x8_2 : List (S62)) (x31_2 : Int), v31 = .int .i64 x31_2 ∧ Aside0 (smaltoref08_Resize.l0 kq a0 a1 a2 x8_2 a2 x31_2 = some (r1, r2)) ∧ Aside0 (kq ≤ kj3) ∧ Aside0 (Kd.S k62 62 w' w.heap.size (fun _ => True) v8 x8_2) ∧ Aside0 (Below w.heap.size w w'))
    case atStart => exact ⟨(([] : List (S62))), (0), zT, H', ⟨Nat.le_refl _⟩, ⟨by first | exact Kd.S_nil _ _ _ _ _ | exact Kd.N_nil _ _ _ _ _ | exact Kd.V_nil _ _ _ _ _ | exact Kd.Q_nil _ _ _ _ _ | exact Kd.R_nil _ _ _ _ _⟩, ⟨zB⟩⟩
    case round =>
     clear H'
     try clear c1
     try clear p2
     try clear c5
     try clear c5b0
     try clear c6
     try clear c6b0
     try clear c8
     try clear c10
     try clear p2
     obtain ⟨x8_2, x31_2, rfl, HA, HK2, HO_8, HB⟩ := hrel
     cases gk with
     | zero => exact absurd HA.out (by simp [smaltoref08_Resize.l0])
     | succ k2 =>
      have H := HA.out
      clear HA
      simp only [smaltoref08_Resize.l0] at H
      by_cases c11 : x31_2 < a2
      ·rw [if_pos c11] at H
       have c11b0 : decide (x31_2 < a2) = true := decide_eq_true c11
       clear c11
       replace H := Option.bind_eq_some_iff.mp H
       obtain ⟨⟨t368, t369⟩, A120, H⟩ := H
       try dsimp only at H
       have A12 := Aside0.mk A120
       clear A120
       replace H := Option.bind_eq_some_iff.mp H
       obtain ⟨⟨t372, t373⟩, A130, H⟩ := H
       try dsimp only at H
       have A13 := Aside0.mk A130
       clear A130
       by_cases c14 : t373 = 0
       ·rw [if_pos c14] at H
        have c14b0 : (t373 == 0) = true := beq_iff_eq.mpr c14
        have c14b1 : (t373 != 0) = false := bne_eq_false_iff_eq.mpr c14
        clear c14
        by_cases c15 : x8_2.length < 4398046511104
        ·rw [if_pos c15] at H
         have LMc15 := Aside0.mk c15
         clear c15
         obtain ⟨y376, hy376⟩ : ∃ y_ : List (S62), y_ = (x8_2 ++ [(⟨t368, t372⟩ : S62)]) := ⟨_, rfl⟩
         replace H : (smaltoref08_Resize.l0 k2 a0 a1 a2 y376 a2 (wrap64 (x31_2 + 1))) = some (r1, r2) := by first | (rw [hy376]; with_reducible exact H) | (have H2_ := (Option.bind_some _ _).symm.trans H; rw [hy376]; with_reducible exact H2_) | (have H2_ := (Option.bind_some _ _).symm.trans H; with_reducible exact H2_) | with_reducible exact H | (rw [hy376]; exact H) | exact H
         have Ny376 := Aside0.mk hy376
         clear hy376
         have H' := Aside0.mk H
         clear H
         go_wp2_with (first | ((with_reducible refine gate_callee (f := 31) rfl ?_); refine goesL_ (some 39) rfl rfl Tryd.func31 (by kernel_rfl) rfl #[.int .i64 a0, .int .i64 a1, .int .i64 a2, .int .i64 x31_2] rfl zL ?_; (with_reducible refine (smaltoref05_Row.calls k2 a0 a1 a2 x31_2 t368 t369 _ A12.out).mono ?_); rintro e w16 ⟨v370, rfl, ho0, hb⟩; refine ⟨_, rfl, ?_⟩; have n0_ := Aside0.mk (Kd.S_elder' (by (with_reducible repeat (first | apply Kd.S_alloc | apply Kd.S_drewN | apply Kd.S_drew)); exact HO_8.out) (Kd.R_base ho0) hb); have n1_ := Aside0.mk (Kd.R_lower ho0 (below_size zB)); have n2_ := Aside0.mk (below_step zB hb); clear HO_8; clear HB; have HO_8 := n0_; have HO371 := n1_; have HB := n2_; clear n0_ n1_ n2_; (try clear hb); (try clear hb2); (try clear hk); (try clear hi); (try clear ho0); obtain ⟨Ao17, co17, eo17⟩ := Kd.R_slice HO371.out; subst eo17) | ((with_reducible refine gate_callee (f := 32) rfl ?_); refine goesL_ (some 44) rfl rfl Tryd.func32 (by kernel_rfl) rfl #[.slice Ao17 t369.length co17] rfl zL ?_; (with_reducible refine (smaltoref06_Apportion.calls k2 _ _ t369 t372 t373 _ ?side1 ?side2 A13.out).mono ?_); (case side1 => repeat (first | exact (Kd.R_reads' HO371.out).2.2 | (with_reducible refine Kd.C_alloc ?_ _) | (with_reducible refine Kd.C_drewN ?_ _) | (with_reducible refine Kd.C_drew ?_))); (case side2 => exact (Kd.R_reads' HO371.out).2.1); rintro e w18 ⟨v374, rfl, ho0, hb⟩; refine ⟨_, rfl, ?_⟩; have n0_ := Aside0.mk (Kd.S_elder' (by (with_reducible repeat (first | apply Kd.S_alloc | apply Kd.S_drewN | apply Kd.S_drew)); exact HO_8.out) (Kd.R_base ho0) hb); have n1_ := Aside0.mk (Kd.R_elder' (by (with_reducible repeat (first | apply Kd.R_alloc | apply Kd.R_drewN | apply Kd.R_drew)); exact HO371.out) (Kd.R_base ho0) hb); have n2_ := Aside0.mk (Kd.R_lower (Kd.R_new' ho0 (Kd.R_lt (by (with_reducible repeat (first | apply Kd.R_alloc | apply Kd.R_drewN | apply Kd.R_drew)); exact HO371.out))) (below_size zB)); have n3_ := Aside0.mk (below_step zB hb); clear HO_8; clear HO371; clear HB; have HO_8 := n0_; have HO371 := n1_; have HO375 := n2_; have HB := n3_; clear n0_ n1_ n2_ n3_; (try clear hb); (try clear hb2); (try clear hk); (try clear hi); (try clear ho0); obtain ⟨Ao19, co19, eo19⟩ := Kd.R_slice HO375.out; subst eo19) | ((with_reducible refine gate_builtin (b := .append) (xs := #[.tmp 50, .tmp 54]) rfl ?_); at_builtin; refine Kd.S_append k62 (w0 := w) w.heap.size rfl (.tmp 50) (.tmp 54) 36 62 (.agg #[(.int .i64 0), (.slice none 0 0)]) 32 rfl Tryd.underlying36 info62 rfl (by decide) (by omega) u8 x8_2 (⟨t368, t372⟩ : S62) [.int .i64 t368, .slice Ao19 t372.length co19] (fun k_ => some k_ ≠ (.slice Ao17 t369.length co17 : Value).ownBlock) (fun k_ => some k_ = (.slice Ao19 t372.length co19 : Value).ownBlock) rfl rfl ?aP (fun k_ hk_ => ((Kd.R_mono (ok' := fun k_ => ((fun k_ => some k_ ≠ (.slice Ao17 t369.length co17 : Value).ownBlock)) k_ ∧ some k_ ≠ (u8 : Value).ownBlock) (Kd.R_apart' (HO375.out) (Kd.S_typed HO_8.out) (by decide)) (fun k_ hk => ⟨hk.1.2, hk.2⟩))).1 k_ hk_.symm) ?aF ?aO ?aB ?aS ?aL ?_; (case aP => exact k62_mkM _ _ _ (⟨t368, t372⟩ : S62) (Kd.R_mono (Kd.R_tight rfl (Kd.R_mono (ok' := fun k_ => ((fun k_ => some k_ ≠ (.slice Ao17 t369.length co17 : Value).ownBlock)) k_ ∧ some k_ ≠ (u8 : Value).ownBlock) (Kd.R_apart' (HO375.out) (Kd.S_typed HO_8.out) (by decide)) (fun k_ hk => ⟨hk.1.2, hk.2⟩))) (fun _ h_ => h_))); (case aB => exact zB); (case aF => exact (fun k_ hk => Kd.fresh' (Kd.R_lt (by (with_reducible repeat (first | apply Kd.R_alloc | apply Kd.R_drewN | apply Kd.R_drew)); exact HO371.out)) k_ hk)); (case aO => exact (by (with_reducible repeat (first | apply Kd.S_alloc | apply Kd.S_drewN | apply Kd.S_drew)); exact Kd.S_mono HO_8.out (fun k_ hk => ⟨hk.1.2, fun e_ => hk.2 e_⟩))); (case aS => exact (below_size zB)); (case aL => have := LMc15.out; omega); intro v377 w20 ho hb hg hat; rw [← Ny376.out] at ho; have n0_ := Aside0.mk (Kd.R_over' (by (with_reducible repeat (first | apply Kd.R_alloc | apply Kd.R_drewN | apply Kd.R_drew)); exact HO371.out) (Kd.S_typed (by (with_reducible repeat (first | apply Kd.S_alloc | apply Kd.S_drewN | apply Kd.S_drew)); exact HO_8.out)) (by decide) hg); have n1_ := Aside0.mk (hb); have n2_ := Aside0.mk (ho); clear HO371; clear HB; clear HO_8; clear HO375; have HO371 := n0_; have HB := n1_; have HO378 := n2_; clear n0_ n1_ n2_; clear ho hb hg hat))
         go_roundg k2
         case measure => have := HJ3.out; have := HK2.out; omega
         case rel => exact ⟨(y376), (wrap64 (x31_2 + 1)), zT, H', ⟨by have := HJ3.out; have := HK2.out; omega⟩, ⟨by (with_reducible repeat (first | apply Kd.S_alloc | apply Kd.S_drewN | apply Kd.S_drew)); exact Kd.S_mono HO378.out (fun _ hk => trivial)⟩, ⟨zB⟩⟩
        ·rw [if_neg c15] at H
         exact absurd H (by simp)
       ·rw [if_neg c14] at H
        have c14b0 : (t373 == 0) = false := beq_eq_false_iff_ne.mpr c14
        have c14b1 : (t373 != 0) = true := bne_iff_ne.mpr c14
        simp only [Option.some.injEq, Prod.mk.injEq] at H
        obtain ⟨rfl, rfl⟩ := H
        go_wp2_with (first | ((with_reducible refine gate_callee (f := 31) rfl ?_); refine goesL_ (some 39) rfl rfl Tryd.func31 (by kernel_rfl) rfl #[.int .i64 a0, .int .i64 a1, .int .i64 a2, .int .i64 x31_2] rfl zL ?_; (with_reducible refine (smaltoref05_Row.calls k2 a0 a1 a2 x31_2 t368 t369 _ A12.out).mono ?_); rintro e w21 ⟨v370, rfl, ho0, hb⟩; refine ⟨_, rfl, ?_⟩; have n0_ := Aside0.mk (Kd.S_elder' (by (with_reducible repeat (first | apply Kd.S_alloc | apply Kd.S_drewN | apply Kd.S_drew)); exact HO_8.out) (Kd.R_base ho0) hb); have n1_ := Aside0.mk (Kd.R_lower ho0 (below_size zB)); have n2_ := Aside0.mk (below_step zB hb); clear HO_8; clear HB; have HO_8 := n0_; have HO371 := n1_; have HB := n2_; clear n0_ n1_ n2_; (try clear hb); (try clear hb2); (try clear hk); (try clear hi); (try clear ho0); obtain ⟨Ao22, co22, eo22⟩ := Kd.R_slice HO371.out; subst eo22) | ((with_reducible refine gate_callee (f := 32) rfl ?_); refine goesL_ (some 44) rfl rfl Tryd.func32 (by kernel_rfl) rfl #[.slice Ao22 t369.length co22] rfl zL ?_; (with_reducible refine (smaltoref06_Apportion.calls k2 _ _ t369 t372 t373 _ ?side1 ?side2 A13.out).mono ?_); (case side1 => repeat (first | exact (Kd.R_reads' HO371.out).2.2 | (with_reducible refine Kd.C_alloc ?_ _) | (with_reducible refine Kd.C_drewN ?_ _) | (with_reducible refine Kd.C_drew ?_))); (case side2 => exact (Kd.R_reads' HO371.out).2.1); rintro e w23 ⟨v374, rfl, ho0, hb⟩; refine ⟨_, rfl, ?_⟩; have n0_ := Aside0.mk (Kd.S_elder' (by (with_reducible repeat (first | apply Kd.S_alloc | apply Kd.S_drewN | apply Kd.S_drew)); exact HO_8.out) (Kd.R_base ho0) hb); have n1_ := Aside0.mk (Kd.R_elder' (by (with_reducible repeat (first | apply Kd.R_alloc | apply Kd.R_drewN | apply Kd.R_drew)); exact HO371.out) (Kd.R_base ho0) hb); have n2_ := Aside0.mk (Kd.R_lower (Kd.R_new' ho0 (Kd.R_lt (by (with_reducible repeat (first | apply Kd.R_alloc | apply Kd.R_drewN | apply Kd.R_drew)); exact HO371.out))) (below_size zB)); have n3_ := Aside0.mk (below_step zB hb); clear HO_8; clear HO371; clear HB; have HO_8 := n0_; have HO371 := n1_; have HO375 := n2_; have HB := n3_; clear n0_ n1_ n2_ n3_; (try clear hb); (try clear hb2); (try clear hk); (try clear hi); (try clear ho0)))
        go_ret2
        exact ⟨_, zS, by first | exact Kd.S_nil _ _ _ _ _ | exact Kd.N_nil _ _ _ _ _ | exact Kd.V_nil _ _ _ _ _ | exact Kd.Q_nil _ _ _ _ _ | exact Kd.R_nil _ _ _ _ _, zB⟩
      ·rw [if_neg c11] at H
       have c11b0 : decide (x31_2 < a2) = false := decide_eq_false c11
       clear c11
       simp only [Option.some.injEq, Prod.mk.injEq] at H
       obtain ⟨rfl, rfl⟩ := H
       go_wp2
       go_ret2
       exact ⟨_, zS, by (with_reducible repeat (first | apply Kd.S_alloc | apply Kd.S_drewN | apply Kd.S_drew)); exact HO_8.out, zB⟩
/-- A state of type 52 at block g of W; what its slices lead to came in by w0. -/
def IsS52 (w0 W : World) (g : Nat) (f0 : Int) (f1 : List (S31)) (f2 : Int) (f3 : Int) : Prop := ∃ A1 c1, W.heap[g]? = some (.cells #[.int .i64 f0, .slice A1 f1.length c1, .int .i64 f2, .int .i64 f3] 52 (0, 0)) ∧ w0.heap.size ≤ g ∧ Kd.C k31 w0 A1 f1.length f1
theorem IsS52.grown {w0 W : World} {g : Nat} {f0 : Int} {f1 : List (S31)} {f2 : Int} {f3 : Int} {W1 : World} {row : Option Nat} (h : IsS52 w0 W g f0 f1 f2 f3) (hw : W.grownBy W1 row) (hne : some g ≠ row) : IsS52 w0 W1 g f0 f1 f2 f3 := by
 obtain ⟨A1, c1, hb, hg, hr1⟩ := h
 exact ⟨A1, c1, blk_grown hb hw hne, hg, hr1⟩
theorem IsS52.own_neN {w0 W : World} {g : Nat} {f0 : Int} {f1 : List (S31)} {f2 : Int} {f3 : Int} {α : Type} {d : Kd α} {e : Nat} {base : Nat} {ok : Nat → Prop} {v : Value} {xs : List α} (h : IsS52 w0 W g f0 f1 f2 f3) (ho : Kd.N d e W base ok v xs) (ht : e ≠ 52) : some g ≠ v.ownBlock := by
 obtain ⟨A1, c1, hb, hg, hr1⟩ := h
 exact Kd.N_ne ho hb ht
theorem IsS52.fresh {w0 W : World} {g : Nat} {f0 : Int} {f1 : List (S31)} {f2 : Int} {f3 : Int} (h : IsS52 w0 W g f0 f1 f2 f3) : ∀ k, W.heap.size ≤ k → k ≠ g := by
 obtain ⟨A1, c1, hb, hg, hr1⟩ := h
 exact Kd.freshB hb
theorem IsS52.kept {w0 W : World} {g : Nat} {f0 : Int} {f1 : List (S31)} {f2 : Int} {f3 : Int} {W1 : World} {S : Nat → Prop} (h : IsS52 w0 W g f0 f1 f2 f3) (hk : Kept W W1 S) (hne : ¬ S g) : IsS52 w0 W1 g f0 f1 f2 f3 := by
 obtain ⟨A1, c1, hb, hg, hr1⟩ := h
 exact ⟨A1, c1, blk_kept hb hk hne, hg, hr1⟩
theorem IsS52.below {w0 W : World} {g : Nat} {f0 : Int} {f1 : List (S31)} {f2 : Int} {f3 : Int} {W1 : World} (h : IsS52 w0 W g f0 f1 f2 f3) (hw : Below W.heap.size W W1) : IsS52 w0 W1 g f0 f1 f2 f3 := h.grown (grown_of_below hw none) (by simp)
theorem IsS52.alloc {w0 W : World} {g : Nat} {f0 : Int} {f1 : List (S31)} {f2 : Int} {f3 : Int} (h : IsS52 w0 W g f0 f1 f2 f3) (o : Obj) : IsS52 w0 (W.alloc o) g f0 f1 f2 f3 := h.below (below_alloc (Below.refl _ _) o)
theorem IsS52.drewN {w0 W : World} {g : Nat} {f0 : Int} {f1 : List (S31)} {f2 : Int} {f3 : Int} (h : IsS52 w0 W g f0 f1 f2 f3) (m : Nat) : IsS52 w0 (W.drewN m) g f0 f1 f2 f3 := h
theorem IsS52.drew {w0 W : World} {g : Nat} {f0 : Int} {f1 : List (S31)} {f2 : Int} {f3 : Int} (h : IsS52 w0 W g f0 f1 f2 f3) : IsS52 w0 W.drew g f0 f1 f2 f3 := h
theorem IsS52.at_ {w0 W : World} {g : Nat} {f0 : Int} {f1 : List (S31)} {f2 : Int} {f3 : Int} {w' : World} {m : Nat} (hq : W.drewN m = w') (h : IsS52 w0 W g f0 f1 f2 f3) : IsS52 w0 w' g f0 f1 f2 f3 := by subst hq; exact IsS52.drewN h m
theorem IsS52.apart {w0 W : World} {g : Nat} {f0 : Int} {f1 : List (S31)} {f2 : Int} {f3 : Int} {α : Type} {d : Kd α} {e : Nat} {base : Nat} {ok : Nat → Prop} {v : Value} {xs : List α} (h : IsS52 w0 W g f0 f1 f2 f3) (ho : d.R e W base ok v xs) (ht : ∀ q, q ∈ e :: d.E → q ≠ 52) : d.R e W base (fun k => ok k ∧ k ≠ g) v xs := by
 obtain ⟨A1, c1, hb, hg, hr1⟩ := h
 exact Kd.R_types ho hb ht
theorem IsS52.own_ne {w0 W : World} {g : Nat} {f0 : Int} {f1 : List (S31)} {f2 : Int} {f3 : Int} {α : Type} {d : Kd α} {e : Nat} {base : Nat} {ok : Nat → Prop} {v : Value} {xs : List α} (h : IsS52 w0 W g f0 f1 f2 f3) (ho : d.R e W base ok v xs) (ht : e ≠ 52) : some g ≠ v.ownBlock := by
 obtain ⟨A1, c1, hb, hg, hr1⟩ := h
 exact Kd.R_ne ho hb ht
theorem IsS52.apartQ {w0 W : World} {g : Nat} {f0 : Int} {f1 : List (S31)} {f2 : Int} {f3 : Int} {α : Type} {d : Kd α} {e : Nat} {base : Nat} {ok : Nat → Prop} {v : Value} {xs : List α} (h : IsS52 w0 W g f0 f1 f2 f3) (ho : d.Q e W base ok v xs) (ht : ∀ q, q ∈ e :: d.E → q ≠ 52) : d.Q e W base (fun k => ok k ∧ k ≠ g) v xs := by
 obtain ⟨A1, c1, hb, hg, hr1⟩ := h
 exact Kd.Q_types ho hb ht
theorem IsS52.own_neQ {w0 W : World} {g : Nat} {f0 : Int} {f1 : List (S31)} {f2 : Int} {f3 : Int} {α : Type} {d : Kd α} {e : Nat} {base : Nat} {ok : Nat → Prop} {v : Value} {xs : List α} (h : IsS52 w0 W g f0 f1 f2 f3) (ho : d.Q e W base ok v xs) (ht : e ≠ 52) : some g ≠ v.ownBlock := by
 obtain ⟨A1, c1, hb, hg, hr1⟩ := h
 exact Kd.Q_ne ho hb ht
theorem IsS52.apartS {w0 W : World} {g : Nat} {f0 : Int} {f1 : List (S31)} {f2 : Int} {f3 : Int} {α : Type} {d : Kd α} {e : Nat} {base : Nat} {ok : Nat → Prop} {v : Value} {xs : List α} (h : IsS52 w0 W g f0 f1 f2 f3) (ho : d.S e W base ok v xs) (ht : ∀ q, q ∈ e :: d.E → q ≠ 52) : d.S e W base (fun k => ok k ∧ k ≠ g) v xs := by
 obtain ⟨A1, c1, hb, hg, hr1⟩ := h
 exact Kd.S_types ho hb ht
theorem IsS52.own_neS {w0 W : World} {g : Nat} {f0 : Int} {f1 : List (S31)} {f2 : Int} {f3 : Int} {α : Type} {d : Kd α} {e : Nat} {base : Nat} {ok : Nat → Prop} {v : Value} {xs : List α} (h : IsS52 w0 W g f0 f1 f2 f3) (ho : d.S e W base ok v xs) (ht : e ≠ 52) : some g ≠ v.ownBlock := by
 obtain ⟨A1, c1, hb, hg, hr1⟩ := h
 exact Kd.S_ne ho hb ht
theorem IsS52.lt {w0 W : World} {g : Nat} {f0 : Int} {f1 : List (S31)} {f2 : Int} {f3 : Int} (h : IsS52 w0 W g f0 f1 f2 f3) : g < W.heap.size := by
 obtain ⟨A1, c1, hb, hg, hr1⟩ := h
 exact blk_lt hb
theorem IsS52.ge {w0 W : World} {g : Nat} {f0 : Int} {f1 : List (S31)} {f2 : Int} {f3 : Int} (h : IsS52 w0 W g f0 f1 f2 f3) : w0.heap.size ≤ g := by
 obtain ⟨A1, c1, hb, hg, hr1⟩ := h
 exact hg
theorem IsS52.ne_blk {w0 W : World} {g : Nat} {f0 : Int} {f1 : List (S31)} {f2 : Int} {f3 : Int} {a : Nat} {cs : Array Value} {t : TypeId} {fr : Nat × Nat} (h : IsS52 w0 W g f0 f1 f2 f3) (hb2 : W.heap[a]? = some (.cells cs t fr)) (ht : t ≠ 52) : g ≠ a := by
 obtain ⟨A1, c1, hb, hg, hr1⟩ := h
 rintro rfl
 rw [hb] at hb2
 injection hb2 with hb2
 injection hb2 with _ ht2
 exact ht ht2.symm
theorem IsS52.far {w0 W : World} {g : Nat} {f0 : Int} {f1 : List (S31)} {f2 : Int} {f3 : Int} {p : Addr} (h : IsS52 w0 W g f0 f1 f2 f3) (hne : g ≠ p.block) (u : Value) : IsS52 w0 (W.setCell p u) g f0 f1 f2 f3 := by
 obtain ⟨A1, c1, hb, hg, hr1⟩ := h
 exact ⟨A1, c1, blk_far hb hne u, hg, hr1⟩
theorem cellS52_0 {W : World} {g : Nat} {A1 : Option Addr} {c1 : Nat} {f0 : Int} {f1 : List (S31)} {f2 : Int} {f3 : Int} (h : W.heap[g]? = some (.cells #[.int .i64 f0, .slice A1 f1.length c1, .int .i64 f2, .int .i64 f3] 52 (0, 0))) : W.cell? ⟨g, 0, none⟩ = some (.int .i64 f0) := (blk_cell h 0).trans rfl
theorem IsS52.set_0 {w0 W : World} {g : Nat} {f0 : Int} {f1 : List (S31)} {f2 : Int} {f3 : Int} (h : IsS52 w0 W g f0 f1 f2 f3) (x : Int) : IsS52 w0 (W.setCell ⟨g, 0, none⟩ (.int .i64 x)) g x f1 f2 f3 := by
 obtain ⟨A1, c1, hb, hg, hr1⟩ := h
 exact ⟨A1, c1, by simpa using blk_set hb 0 (.int .i64 x), hg, hr1⟩
theorem cellS52_1 {W : World} {g : Nat} {A1 : Option Addr} {c1 : Nat} {f0 : Int} {f1 : List (S31)} {f2 : Int} {f3 : Int} (h : W.heap[g]? = some (.cells #[.int .i64 f0, .slice A1 f1.length c1, .int .i64 f2, .int .i64 f3] 52 (0, 0))) : W.cell? ⟨g, 1, none⟩ = some (.slice A1 f1.length c1) := (blk_cell h 1).trans rfl
theorem cellS52_2 {W : World} {g : Nat} {A1 : Option Addr} {c1 : Nat} {f0 : Int} {f1 : List (S31)} {f2 : Int} {f3 : Int} (h : W.heap[g]? = some (.cells #[.int .i64 f0, .slice A1 f1.length c1, .int .i64 f2, .int .i64 f3] 52 (0, 0))) : W.cell? ⟨g, 2, none⟩ = some (.int .i64 f2) := (blk_cell h 2).trans rfl
theorem IsS52.set_2 {w0 W : World} {g : Nat} {f0 : Int} {f1 : List (S31)} {f2 : Int} {f3 : Int} (h : IsS52 w0 W g f0 f1 f2 f3) (x : Int) : IsS52 w0 (W.setCell ⟨g, 2, none⟩ (.int .i64 x)) g f0 f1 x f3 := by
 obtain ⟨A1, c1, hb, hg, hr1⟩ := h
 exact ⟨A1, c1, by simpa using blk_set hb 2 (.int .i64 x), hg, hr1⟩
theorem cellS52_3 {W : World} {g : Nat} {A1 : Option Addr} {c1 : Nat} {f0 : Int} {f1 : List (S31)} {f2 : Int} {f3 : Int} (h : W.heap[g]? = some (.cells #[.int .i64 f0, .slice A1 f1.length c1, .int .i64 f2, .int .i64 f3] 52 (0, 0))) : W.cell? ⟨g, 3, none⟩ = some (.int .i64 f3) := (blk_cell h 3).trans rfl
theorem IsS52.set_3 {w0 W : World} {g : Nat} {f0 : Int} {f1 : List (S31)} {f2 : Int} {f3 : Int} (h : IsS52 w0 W g f0 f1 f2 f3) (x : Int) : IsS52 w0 (W.setCell ⟨g, 3, none⟩ (.int .i64 x)) g f0 f1 f2 x := by
 obtain ⟨A1, c1, hb, hg, hr1⟩ := h
 exact ⟨A1, c1, by simpa using blk_set hb 3 (.int .i64 x), hg, hr1⟩
theorem IsS52.new (w0 W : World) (A1 : Option Addr) (c1 : Nat) (f0 : Int) (f1 : List (S31)) (f2 : Int) (f3 : Int) (hB : Below w0.heap.size w0 W) (hr1 : Kd.C k31 w0 A1 f1.length f1) : IsS52 w0 (W.alloc (.cells #[.int .i64 f0, .slice A1 f1.length c1, .int .i64 f2, .int .i64 f3] 52)) W.heap.size f0 f1 f2 f3 := ⟨A1, c1, by simpa using heap_alloc_new W _, hB.size, hr1⟩
def table_Table_From.f (s0_0 : Int) (s0_1 : List (S31)) (s0_2 : Int) (s0_3 : Int) : Option (Int × Int × Int × Int) := some (s0_0, s0_0, s0_2, s0_3)
set_option maxHeartbeats 8000000 in
set_option maxRecDepth 100000 in
theorem table_Table_From.calls (g : Nat) (s0_0 : Int) (s0_1 : List (S31)) (s0_2 : Int) (s0_3 : Int) (r1 : Int) (r2 : Int) (r3 : Int) (r4 : Int) (w0 w : World) (hI : IsS52 w0 w g s0_0 s0_1 s0_2 s0_3) (hB : Below w0.heap.size w0 w) (h : table_Table_From.f s0_0 s0_1 s0_2 s0_3 = some (r1, r2, r3, r4)) :
  Calls Tryd.prog 14 #[.pointer (some ⟨g, 0, none⟩)] w fun e w' => e = .returned (.int .i64 r1) ∧ IsS52 w0 w' g r2 s0_1 r3 r4 ∧ Below w0.heap.size w0 w' ∧ KeepBut w w' g none := by
 have HI0 := Aside0.mk hI
 have HK := Aside0.mk (KeepBut.refl w g none)
 have HL := Aside0.mk hB.size
 clear hI
 have HW0 := Aside0.mk hB.size
 have HB := Aside0.mk hB
 clear hB
 have H : (some (s0_0, s0_0, s0_2, s0_3)) = some (r1, r2, r3, r4) := h
 clear h
 simp only [Option.some.injEq, Prod.mk.injEq] at H
 obtain ⟨rfl, rfl, rfl, rfl⟩ := H
 obtain ⟨ASz2_1, cSz2_1, HGz2, hgz2, HSz2_1⟩ := HI0.out
 have hcz2_0 := cellS52_0 HGz2
 have hcz2_1 := cellS52_1 HGz2
 have hcz2_2 := cellS52_2 HGz2
 have hcz2_3 := cellS52_3 HGz2
 have hfz2_0 := blk_frozen HGz2 0
 have hfz2_2 := blk_frozen HGz2 2
 have hfz2_3 := blk_frozen HGz2 3
 clear HGz2 hgz2
 go_enter Tryd.func14, Tryd.ntmps14
 go_wp2
 go_ret
 exact ⟨zS, by repeat (first | (with_reducible first | exact HI0.out | apply IsS52.alloc | apply IsS52.drewN | apply IsS52.drew | apply IsS52.set_0 | apply IsS52.set_2 | apply IsS52.set_3) | exact HI0.out), by repeat (first | (with_reducible first | exact HB.out | apply below_alloc | apply pw_below_drewN | apply below_drew1 | refine below_set ?_ (IsS52.ge HI0.out)) | exact HB.out), by repeat (first | (with_reducible first | exact HK.out | apply KeepBut.set_ | apply keep_drewN | apply keep_drew | apply keep_alloc) | exact HK.out)⟩
def table_Table_To.f (s0_0 : Int) (s0_1 : List (S31)) (s0_2 : Int) (s0_3 : Int) : Option (Int × Int × Int × Int) := some ((s0_1.length : Int), s0_0, s0_2, s0_3)
set_option maxHeartbeats 8000000 in
set_option maxRecDepth 100000 in
theorem table_Table_To.calls (g : Nat) (s0_0 : Int) (s0_1 : List (S31)) (s0_2 : Int) (s0_3 : Int) (r1 : Int) (r2 : Int) (r3 : Int) (r4 : Int) (w0 w : World) (hI : IsS52 w0 w g s0_0 s0_1 s0_2 s0_3) (hB : Below w0.heap.size w0 w) (h : table_Table_To.f s0_0 s0_1 s0_2 s0_3 = some (r1, r2, r3, r4)) :
  Calls Tryd.prog 15 #[.pointer (some ⟨g, 0, none⟩)] w fun e w' => e = .returned (.int .i64 r1) ∧ IsS52 w0 w' g r2 s0_1 r3 r4 ∧ Below w0.heap.size w0 w' ∧ KeepBut w w' g none := by
 have HI0 := Aside0.mk hI
 have HK := Aside0.mk (KeepBut.refl w g none)
 have HL := Aside0.mk hB.size
 clear hI
 have HW0 := Aside0.mk hB.size
 have HB := Aside0.mk hB
 clear hB
 have H : (some ((s0_1.length : Int), s0_0, s0_2, s0_3)) = some (r1, r2, r3, r4) := h
 clear h
 simp only [Option.some.injEq, Prod.mk.injEq] at H
 obtain ⟨rfl, rfl, rfl, rfl⟩ := H
 obtain ⟨ASz2_1, cSz2_1, HGz2, hgz2, HSz2_1⟩ := HI0.out
 have hcz2_0 := cellS52_0 HGz2
 have hcz2_1 := cellS52_1 HGz2
 have hcz2_2 := cellS52_2 HGz2
 have hcz2_3 := cellS52_3 HGz2
 have hfz2_0 := blk_frozen HGz2 0
 have hfz2_2 := blk_frozen HGz2 2
 have hfz2_3 := blk_frozen HGz2 3
 clear HGz2 hgz2
 go_enter Tryd.func15, Tryd.ntmps15
 go_wp2
 go_ret
 exact ⟨zS, by repeat (first | (with_reducible first | exact HI0.out | apply IsS52.alloc | apply IsS52.drewN | apply IsS52.drew | apply IsS52.set_0 | apply IsS52.set_2 | apply IsS52.set_3) | exact HI0.out), by repeat (first | (with_reducible first | exact HB.out | apply below_alloc | apply pw_below_drewN | apply below_drew1 | refine below_set ?_ (IsS52.ge HI0.out)) | exact HB.out), by repeat (first | (with_reducible first | exact HK.out | apply KeepBut.set_ | apply keep_drewN | apply keep_drew | apply keep_alloc) | exact HK.out)⟩
end Go.Proofs.YthaajkpiknbdbaaDoor.QA

namespace Go.Proofs.YthaajkpiknbdbaaDoor.QA
open Go.Proofs.YthaajkpiknbdbaaDoor.T
open Go.RowKit Go.Proofs.YthaajkpiknbdbaaDoorW.PrintWords Go.Proofs.YthaajkpiknbdbaaDoorW.PrintLast Go.Proofs.YthaajkpiknbdbaaDoorW.PrintMore
attribute [local go_sem] ext_call max2_int min2_int max_two min_two max_three min_three max_four min_four   -- for this text's walks alone
set_option linter.unusedVariables false
set_option linter.unusedSimpArgs false
def table_Table_Most.f (s0_0 : Int) (s0_1 : List (S31)) (s0_2 : Int) (s0_3 : Int) : Option (Int × Int × Int × Int) := some (s0_2, s0_0, s0_2, s0_3)
set_option maxHeartbeats 8000000 in
set_option maxRecDepth 100000 in
theorem table_Table_Most.calls (g : Nat) (s0_0 : Int) (s0_1 : List (S31)) (s0_2 : Int) (s0_3 : Int) (r1 : Int) (r2 : Int) (r3 : Int) (r4 : Int) (w0 w : World) (hI : IsS52 w0 w g s0_0 s0_1 s0_2 s0_3) (hB : Below w0.heap.size w0 w) (h : table_Table_Most.f s0_0 s0_1 s0_2 s0_3 = some (r1, r2, r3, r4)) :
  Calls Tryd.prog 16 #[.pointer (some ⟨g, 0, none⟩)] w fun e w' => e = .returned (.int .i64 r1) ∧ IsS52 w0 w' g r2 s0_1 r3 r4 ∧ Below w0.heap.size w0 w' ∧ KeepBut w w' g none := by
 have HI0 := Aside0.mk hI
 have HK := Aside0.mk (KeepBut.refl w g none)
 have HL := Aside0.mk hB.size
 clear hI
 have HW0 := Aside0.mk hB.size
 have HB := Aside0.mk hB
 clear hB
 have H : (some (s0_2, s0_0, s0_2, s0_3)) = some (r1, r2, r3, r4) := h
 clear h
 simp only [Option.some.injEq, Prod.mk.injEq] at H
 obtain ⟨rfl, rfl, rfl, rfl⟩ := H
 obtain ⟨ASz2_1, cSz2_1, HGz2, hgz2, HSz2_1⟩ := HI0.out
 have hcz2_0 := cellS52_0 HGz2
 have hcz2_1 := cellS52_1 HGz2
 have hcz2_2 := cellS52_2 HGz2
 have hcz2_3 := cellS52_3 HGz2
 have hfz2_0 := blk_frozen HGz2 0
 have hfz2_2 := blk_frozen HGz2 2
 have hfz2_3 := blk_frozen HGz2 3
 clear HGz2 hgz2
 go_enter Tryd.func16, Tryd.ntmps16
 go_wp2
 go_ret
 exact ⟨zS, by repeat (first | (with_reducible first | exact HI0.out | apply IsS52.alloc | apply IsS52.drewN | apply IsS52.drew | apply IsS52.set_0 | apply IsS52.set_2 | apply IsS52.set_3) | exact HI0.out), by repeat (first | (with_reducible first | exact HB.out | apply below_alloc | apply pw_below_drewN | apply below_drew1 | refine below_set ?_ (IsS52.ge HI0.out)) | exact HB.out), by repeat (first | (with_reducible first | exact HK.out | apply KeepBut.set_ | apply keep_drewN | apply keep_drew | apply keep_alloc) | exact HK.out)⟩
def table_Table_Size.f (s0_0 : Int) (s0_1 : List (S31)) (s0_2 : Int) (s0_3 : Int) : Option (Int × Int × Int × Int) := some (s0_3, s0_0, s0_2, s0_3)
set_option maxHeartbeats 8000000 in
set_option maxRecDepth 100000 in
theorem table_Table_Size.calls (g : Nat) (s0_0 : Int) (s0_1 : List (S31)) (s0_2 : Int) (s0_3 : Int) (r1 : Int) (r2 : Int) (r3 : Int) (r4 : Int) (w0 w : World) (hI : IsS52 w0 w g s0_0 s0_1 s0_2 s0_3) (hB : Below w0.heap.size w0 w) (h : table_Table_Size.f s0_0 s0_1 s0_2 s0_3 = some (r1, r2, r3, r4)) :
  Calls Tryd.prog 17 #[.pointer (some ⟨g, 0, none⟩)] w fun e w' => e = .returned (.int .i64 r1) ∧ IsS52 w0 w' g r2 s0_1 r3 r4 ∧ Below w0.heap.size w0 w' ∧ KeepBut w w' g none := by
 have HI0 := Aside0.mk hI
 have HK := Aside0.mk (KeepBut.refl w g none)
 have HL := Aside0.mk hB.size
 clear hI
 have HW0 := Aside0.mk hB.size
 have HB := Aside0.mk hB
 clear hB
 have H : (some (s0_3, s0_0, s0_2, s0_3)) = some (r1, r2, r3, r4) := h
 clear h
 simp only [Option.some.injEq, Prod.mk.injEq] at H
 obtain ⟨rfl, rfl, rfl, rfl⟩ := H
 obtain ⟨ASz2_1, cSz2_1, HGz2, hgz2, HSz2_1⟩ := HI0.out
 have hcz2_0 := cellS52_0 HGz2
 have hcz2_1 := cellS52_1 HGz2
 have hcz2_2 := cellS52_2 HGz2
 have hcz2_3 := cellS52_3 HGz2
 have hfz2_0 := blk_frozen HGz2 0
 have hfz2_2 := blk_frozen HGz2 2
 have hfz2_3 := blk_frozen HGz2 3
 clear HGz2 hgz2
 go_enter Tryd.func17, Tryd.ntmps17
 go_wp2
 go_ret
 exact ⟨zS, by repeat (first | (with_reducible first | exact HI0.out | apply IsS52.alloc | apply IsS52.drewN | apply IsS52.drew | apply IsS52.set_0 | apply IsS52.set_2 | apply IsS52.set_3) | exact HI0.out), by repeat (first | (with_reducible first | exact HB.out | apply below_alloc | apply pw_below_drewN | apply below_drew1 | refine below_set ?_ (IsS52.ge HI0.out)) | exact HB.out), by repeat (first | (with_reducible first | exact HK.out | apply KeepBut.set_ | apply keep_drewN | apply keep_drew | apply keep_alloc) | exact HK.out)⟩
def smaltoref06_Sizes.l0 : Nat → Int → List Int → Int → Int → Option (Int)
 | 0, _, _, _, _ => none
 | k + 1, x3, x6, x7, x8 => if x8 < x7 then (if 0 ≤ x8 then (if x8 < (x6.length : Int) then ((smaltoref06_Size.f (rd x6 x8)).bind fun t380 => ((smaltoref06_plus.f k x3 t380).bind fun t381 => (smaltoref06_Sizes.l0 k t381 x6 x7 (wrap64 (x8 + 1))))) else (none)) else (none)) else (some x3)
def smaltoref06_Sizes.f (k : Nat) (l0 : List Int) : Option (Int) := smaltoref06_Sizes.l0 k 0 l0 (l0.length : Int) 0
theorem smaltoref06_Sizes.mono_l : ∀ k, (∀ y0 y1 y2 y3, LeO (smaltoref06_Sizes.l0 k y0 y1 y2 y3) (smaltoref06_Sizes.l0 (k + 1) y0 y1 y2 y3))
 | 0 => fun _ _ _ _ r h => by simp [smaltoref06_Sizes.l0] at h
 | k + 1 => by
  have ih0 := smaltoref06_Sizes.mono_l k
  ·intro y0 y1 y2 y3
   unfold smaltoref06_Sizes.l0
   repeat' (with_reducible first | exact ih0 _ _ _ _ | exact smaltoref06_plus.mono _ _ _ | exact zM | refine LeO.ite ?_ ?_ | refine LeO.bind ?_ (fun _ => ?_))
theorem smaltoref06_Sizes.mono : ∀ a0 k, LeO (smaltoref06_Sizes.f k a0) (smaltoref06_Sizes.f (k + 1) a0) := by
 intro a0 k
 have ih0 := smaltoref06_Sizes.mono_l k
 unfold smaltoref06_Sizes.f
 repeat' (with_reducible first | exact ih0 _ _ _ _ | exact smaltoref06_plus.mono _ _ _ | exact zM | refine LeO.ite ?_ ?_ | refine LeO.bind ?_ (fun _ => ?_))
set_option maxHeartbeats 8000000 in
set_option maxRecDepth 100000 in
theorem smaltoref06_Sizes.calls (k : Nat) (A0 : Option Addr) (c0 : Nat) (l0 : List Int) (r : Int) (w : World) (hr0 : Kd.C (Kd.int .i64) w A0 l0.length l0) (hc0 : l0.length ≤ c0) (h : smaltoref06_Sizes.f k l0 = some r) :
  Calls Tryd.prog 33 #[.slice A0 l0.length c0] w fun e w' => e = .returned (.int .i64 r) ∧ Drawn0 w w' := by
 have HR0 := Aside0.mk hr0
 have HC0 := Aside0.mk hc0
 clear hr0 hc0
 have H : (smaltoref06_Sizes.l0 k 0 l0 (l0.length : Int) 0) = some r := h
 clear h
 have H' := Aside0.mk H
 clear H
 go_enter Tryd.func33, Tryd.ntmps33
 go_wp2
 go_loopg [3, 8] k (fun kq v3 v8 w' => ∃ (x3_1 : Int) (x8_1 : Int), v3 = .int .i64 x3_1 ∧ v8 = .int .i64 x8_1 ∧ Aside0 (smaltoref06_Sizes.l0 kq x3_1 l0 (l0.length : Int) x8_1 = some r) ∧ Aside0 (kq ≤ k) ∧ Drawn0 w w')
 case atStart => exact ⟨(0), (0), zT, zT, H', ⟨Nat.le_refl _⟩, zW⟩
 case round =>
  clear H'
  obtain ⟨x3_1, x8_1, rfl, rfl, HA, HK1, ⟨m1, rfl⟩⟩ := hrel
  cases gk with
  | zero => exact absurd HA.out (by simp [smaltoref06_Sizes.l0])
  | succ k1 =>
   have H := HA.out
   clear HA
   simp only [smaltoref06_Sizes.l0] at H
   by_cases c2 : x8_1 < (l0.length : Int)
   ·rw [if_pos c2] at H
    have c2b0 : decide (x8_1 < (l0.length : Int)) = true := decide_eq_true c2
    clear c2
    by_cases c3 : 0 ≤ x8_1
    ·rw [if_pos c3] at H
     have c3b0 : decide (0 ≤ x8_1) = true := decide_eq_true c3
     clear c3
     by_cases c4 : x8_1 < (l0.length : Int)
     ·rw [if_pos c4] at H
      have c4b0 : decide (x8_1 < (l0.length : Int)) = true := decide_eq_true c4
      clear c4
      replace H := Option.bind_eq_some_iff.mp H
      obtain ⟨t380, A50, H⟩ := H
      try dsimp only at H
      have A5 := Aside0.mk A50
      clear A50
      replace H := Option.bind_eq_some_iff.mp H
      obtain ⟨t381, A60, H⟩ := H
      try dsimp only at H
      have A6 := Aside0.mk A60
      clear A60
      have H' := Aside0.mk H
      clear H
      have p379 : 0 ≤ (x8_1 : Int) := of_decide_eq_true (by first | (with_reducible assumption) | assumption)
      have q379 : x8_1 < (l0.length : Int) := of_decide_eq_true (by first | (with_reducible assumption) | assumption)
      obtain ⟨ad379, e379, hx379_0⟩ := Kd.at_int HR0.out x8_1 p379 q379
      cases e379
      replace p379 := eq_true p379
      replace q379 := eq_true q379
      go_wp2_with (first | ((with_reducible refine gate_callee (f := 50) rfl ?_); refine goesL_ (some 14) rfl rfl Tryd.func50 (by kernel_rfl) rfl #[.int .i64 (rd l0 x8_1)] rfl zL ?_; (with_reducible refine (smaltoref06_Size.calls (rd l0 x8_1) t380 _ A5.out).mono ?_); rintro e w' ⟨rfl, ⟨nd, rfl⟩⟩; refine ⟨_, rfl, ?_⟩) | ((with_reducible refine gate_callee (f := 53) rfl ?_); refine goesL_ (some 15) rfl rfl Tryd.func53 (by kernel_rfl) rfl #[.int .i64 x3_1, .int .i64 t380] rfl zL ?_; (with_reducible refine (smaltoref06_plus.calls k1 x3_1 t380 t381 _ A6.out).mono ?_); rintro e w' ⟨rfl, ⟨nd, rfl⟩⟩; refine ⟨_, rfl, ?_⟩))
      go_roundg k1
      case measure => have := HK1.out; omega
      case rel => exact ⟨(t381), (wrap64 (x8_1 + 1)), zT, zT, H', ⟨by have := HK1.out; omega⟩, zW⟩
     ·rw [if_neg c4] at H
      exact absurd H (by simp)
    ·rw [if_neg c3] at H
     exact absurd H (by simp)
   ·rw [if_neg c2] at H
    have c2b0 : decide (x8_1 < (l0.length : Int)) = false := decide_eq_false c2
    clear c2
    obtain rfl := Option.some.inj H
    go_wp2
    go_ret
    exact ⟨zT, zW⟩
end Go.Proofs.YthaajkpiknbdbaaDoor.QA

namespace Go.Proofs.YthaajkpiknbdbaaDoor.QA
open Go.Proofs.YthaajkpiknbdbaaDoor.T
open Go.RowKit Go.Proofs.YthaajkpiknbdbaaDoorW.PrintWords Go.Proofs.YthaajkpiknbdbaaDoorW.PrintLast Go.Proofs.YthaajkpiknbdbaaDoorW.PrintMore
attribute [local go_sem] ext_call max2_int min2_int max_two min_two max_three min_three max_four min_four   -- for this text's walks alone
set_option linter.unusedVariables false
set_option linter.unusedSimpArgs false
mutual
def smaltoref08_Reach.l0 : Nat → Int → Int → Int → Int → Bool → List (S62) → Int → Int → Option (Int × Int × Bool)
 | 0, _, _, _, _, _, _, _, _ => none
 | k + 1, x1, x2, x9, x10, x11, x16, x17, x18 => if x18 < x17 then (if 0 ≤ x18 then (if x18 < (x16.length : Int) then (if x18 < x1 then (smaltoref08_Reach.j1 k x1 x2 x9 x10 x11 x16 x17 x18 true ((rd_T62 x16 x18).f0) ((rd_T62 x16 x18).f1)) else (smaltoref08_Reach.j1 k x1 x2 x9 x10 x11 x16 x17 x18 (decide (x18 ≥ x2)) ((rd_T62 x16 x18).f0) ((rd_T62 x16 x18).f1))) else (none)) else (none)) else (some (x9, x10, x11))
def smaltoref08_Reach.j1 : Nat → Int → Int → Int → Int → Bool → List (S62) → Int → Int → Bool → Int → List Int → Option (Int × Int × Bool)
 | 0, _, _, _, _, _, _, _, _, _, _, _ => none
 | k + 1, x1, x2, x9, x10, x11, x16, x17, x18, x30, x384000, x384001 => if x30 = true then (smaltoref08_Reach.l0 k x1 x2 x9 x10 x11 x16 x17 (wrap64 (x18 + 1))) else (smaltoref08_Reach.l1 k x1 x2 x9 x10 x11 x16 x17 x18 (x384001.length : Int) 0 x384000 x384001)
def smaltoref08_Reach.l1 : Nat → Int → Int → Int → Int → Bool → List (S62) → Int → Int → Int → Int → Int → List Int → Option (Int × Int × Bool)
 | 0, _, _, _, _, _, _, _, _, _, _, _, _ => none
 | k + 1, x1, x2, x9, x10, x11, x16, x17, x18, x33, x34, x384000, x384001 => if x34 < x33 then (if x11 = true then (smaltoref08_Reach.j3 k x1 x2 x9 x10 x11 (wrap64 (x384000 + x34)) x16 x17 x18 x33 x34 (decide ((wrap64 (x384000 + x34)) < x9)) x384000 x384001) else (smaltoref08_Reach.j3 k x1 x2 x9 x10 x11 (wrap64 (x384000 + x34)) x16 x17 x18 x33 x34 true x384000 x384001)) else (smaltoref08_Reach.l0 k x1 x2 x9 x10 x11 x16 x17 (wrap64 (x18 + 1)))
def smaltoref08_Reach.j3 : Nat → Int → Int → Int → Int → Bool → Int → List (S62) → Int → Int → Int → Int → Bool → Int → List Int → Option (Int × Int × Bool)
 | 0, _, _, _, _, _, _, _, _, _, _, _, _, _, _ => none
 | k + 1, x1, x2, x9, x10, x11, x15, x16, x17, x18, x33, x34, x47, x384000, x384001 => if x47 = true then (if x11 = true then (if (wrap64 (x15 + 1)) > x10 then (smaltoref08_Reach.l1 k x1 x2 x15 (wrap64 (x15 + 1)) true x16 x17 x18 x33 (wrap64 (x34 + 1)) x384000 x384001) else (smaltoref08_Reach.l1 k x1 x2 x15 x10 true x16 x17 x18 x33 (wrap64 (x34 + 1)) x384000 x384001)) else (smaltoref08_Reach.l1 k x1 x2 x15 (wrap64 (x15 + 1)) true x16 x17 x18 x33 (wrap64 (x34 + 1)) x384000 x384001)) else (if x11 = true then (if (wrap64 (x15 + 1)) > x10 then (smaltoref08_Reach.l1 k x1 x2 x9 (wrap64 (x15 + 1)) true x16 x17 x18 x33 (wrap64 (x34 + 1)) x384000 x384001) else (smaltoref08_Reach.l1 k x1 x2 x9 x10 true x16 x17 x18 x33 (wrap64 (x34 + 1)) x384000 x384001)) else (smaltoref08_Reach.l1 k x1 x2 x9 (wrap64 (x15 + 1)) true x16 x17 x18 x33 (wrap64 (x34 + 1)) x384000 x384001))
end
def smaltoref08_Reach.f (k : Nat) (l0 : List (S62)) (a1 : Int) (a2 : Int) : Option (Int × Int × Bool) := smaltoref08_Reach.l0 k a1 a2 0 0 false l0 (l0.length : Int) 0
theorem smaltoref08_Reach.mono_l : ∀ k, (∀ y0 y1 y2 y3 y4 y5 y6 y7, LeO (smaltoref08_Reach.l0 k y0 y1 y2 y3 y4 y5 y6 y7) (smaltoref08_Reach.l0 (k + 1) y0 y1 y2 y3 y4 y5 y6 y7)) ∧ (∀ y0 y1 y2 y3 y4 y5 y6 y7 y8 y9 y10, LeO (smaltoref08_Reach.j1 k y0 y1 y2 y3 y4 y5 y6 y7 y8 y9 y10) (smaltoref08_Reach.j1 (k + 1) y0 y1 y2 y3 y4 y5 y6 y7 y8 y9 y10)) ∧ (∀ y0 y1 y2 y3 y4 y5 y6 y7 y8 y9 y10 y11, LeO (smaltoref08_Reach.l1 k y0 y1 y2 y3 y4 y5 y6 y7 y8 y9 y10 y11) (smaltoref08_Reach.l1 (k + 1) y0 y1 y2 y3 y4 y5 y6 y7 y8 y9 y10 y11)) ∧ (∀ y0 y1 y2 y3 y4 y5 y6 y7 y8 y9 y10 y11 y12 y13, LeO (smaltoref08_Reach.j3 k y0 y1 y2 y3 y4 y5 y6 y7 y8 y9 y10 y11 y12 y13) (smaltoref08_Reach.j3 (k + 1) y0 y1 y2 y3 y4 y5 y6 y7 y8 y9 y10 y11 y12 y13))
 | 0 => ⟨fun _ _ _ _ _ _ _ _ r h => by simp [smaltoref08_Reach.l0] at h, fun _ _ _ _ _ _ _ _ _ _ _ r h => by simp [smaltoref08_Reach.j1] at h, fun _ _ _ _ _ _ _ _ _ _ _ _ r h => by simp [smaltoref08_Reach.l1] at h, fun _ _ _ _ _ _ _ _ _ _ _ _ _ _ r h => by simp [smaltoref08_Reach.j3] at h⟩
 | k + 1 => by
  obtain ⟨ih0, ih1, ih2, ih3⟩ := smaltoref08_Reach.mono_l k
  refine ⟨?_, ?_, ?_, ?_⟩
  ·intro y0 y1 y2 y3 y4 y5 y6 y7
   unfold smaltoref08_Reach.l0
   repeat' (with_reducible first | exact ih0 _ _ _ _ _ _ _ _ | exact ih1 _ _ _ _ _ _ _ _ _ _ _ | exact ih2 _ _ _ _ _ _ _ _ _ _ _ _ | exact ih3 _ _ _ _ _ _ _ _ _ _ _ _ _ _ | exact zM | refine LeO.ite ?_ ?_ | refine LeO.bind ?_ (fun _ => ?_))
  ·intro y0 y1 y2 y3 y4 y5 y6 y7 y8 y9 y10
   unfold smaltoref08_Reach.j1
   repeat' (with_reducible first | exact ih0 _ _ _ _ _ _ _ _ | exact ih1 _ _ _ _ _ _ _ _ _ _ _ | exact ih2 _ _ _ _ _ _ _ _ _ _ _ _ | exact ih3 _ _ _ _ _ _ _ _ _ _ _ _ _ _ | exact zM | refine LeO.ite ?_ ?_ | refine LeO.bind ?_ (fun _ => ?_))
  ·intro y0 y1 y2 y3 y4 y5 y6 y7 y8 y9 y10 y11
   unfold smaltoref08_Reach.l1
   repeat' (with_reducible first | exact ih0 _ _ _ _ _ _ _ _ | exact ih1 _ _ _ _ _ _ _ _ _ _ _ | exact ih2 _ _ _ _ _ _ _ _ _ _ _ _ | exact ih3 _ _ _ _ _ _ _ _ _ _ _ _ _ _ | exact zM | refine LeO.ite ?_ ?_ | refine LeO.bind ?_ (fun _ => ?_))
  ·intro y0 y1 y2 y3 y4 y5 y6 y7 y8 y9 y10 y11 y12 y13
   unfold smaltoref08_Reach.j3
   repeat' (with_reducible first | exact ih0 _ _ _ _ _ _ _ _ | exact ih1 _ _ _ _ _ _ _ _ _ _ _ | exact ih2 _ _ _ _ _ _ _ _ _ _ _ _ | exact ih3 _ _ _ _ _ _ _ _ _ _ _ _ _ _ | exact zM | refine LeO.ite ?_ ?_ | refine LeO.bind ?_ (fun _ => ?_))
theorem smaltoref08_Reach.mono : ∀ a0 a1 a2 k, LeO (smaltoref08_Reach.f k a0 a1 a2) (smaltoref08_Reach.f (k + 1) a0 a1 a2) := by
 intro a0 a1 a2 k
 obtain ⟨ih0, ih1, ih2, ih3⟩ := smaltoref08_Reach.mono_l k
 unfold smaltoref08_Reach.f
 repeat' (with_reducible first | exact ih0 _ _ _ _ _ _ _ _ | exact ih1 _ _ _ _ _ _ _ _ _ _ _ | exact ih2 _ _ _ _ _ _ _ _ _ _ _ _ | exact ih3 _ _ _ _ _ _ _ _ _ _ _ _ _ _ | exact zM | refine LeO.ite ?_ ?_ | refine LeO.bind ?_ (fun _ => ?_))
set_option maxHeartbeats 8000000 in
set_option maxRecDepth 100000 in
theorem smaltoref08_Reach.calls (k : Nat) (A0 : Option Addr) (c0 : Nat) (l0 : List (S62)) (a1 : Int) (a2 : Int) (r1 : Int) (r2 : Int) (r3 : Bool) (w : World) (hr0 : Kd.C k62 w A0 l0.length l0) (hc0 : l0.length ≤ c0) (h : smaltoref08_Reach.f k l0 a1 a2 = some (r1, r2, r3)) :
  Calls Tryd.prog 34 #[.slice A0 l0.length c0, .int .i64 a1, .int .i64 a2] w fun e w' => e = .returned (.tuple #[.int .i64 r1, .int .i64 r2, .bool r3]) ∧ Below w.heap.size w w' := by
 have hu62 := Tryd.underlying62
 have HR0 := Aside0.mk hr0
 have HC0 := Aside0.mk hc0
 clear hr0 hc0
 have HB := Aside0.mk (Below.refl w.heap.size w)
 have H : (smaltoref08_Reach.l0 k a1 a2 0 0 false l0 (l0.length : Int) 0) = some (r1, r2, r3) := h
 clear h
 have H' := Aside0.mk H
 clear H
 go_enter Tryd.func34, Tryd.ntmps34
 go_wp2
 go_loopg [9, 10, 11, 18] k (fun kq v9 v10 v11 v18 w' => ∃ (x9_1 : Int) (x10_1 : Int) (x11_1 : Bool) (x18_1 : Int), v9 = .int .i64 x9_1 ∧ v10 = .int .i64 x10_1 ∧ v11 = .bool x11_1 ∧ v18 = .int .i64 x18_1 ∧ Aside0 (smaltoref08_Reach.l0 kq a1 a2 x9_1 x10_1 x11_1 l0 (l0.length : Int) x18_1 = some (r1, r2, r3)) ∧ Aside0 (kq ≤ k) ∧ Aside0 (Below w.heap.size w w'))
 case atStart => exact ⟨(0), (0), (false), (0), zT, zT, zT, zT, H', ⟨Nat.le_refl _⟩, ⟨zB⟩⟩
 case round =>
  clear H'
  try clear p2
  try clear c3
  obtain ⟨x9_1, x10_1, x11_1, x18_1, rfl, rfl, rfl, rfl, HA, HK1, HB⟩ := hrel
  cases gk with
  | zero => exact absurd HA.out (by simp [smaltoref08_Reach.l0])
  | succ k1 =>
   have H := HA.out
   clear HA
   simp only [smaltoref08_Reach.l0] at H
   by_cases c4 : x18_1 < (l0.length : Int)
   ·rw [if_pos c4] at H
    have c4b0 : decide (x18_1 < (l0.length : Int)) = true := decide_eq_true c4
    clear c4
    by_cases c5 : 0 ≤ x18_1
    ·rw [if_pos c5] at H
     have c5b0 : decide (0 ≤ x18_1) = true := decide_eq_true c5
     clear c5
     by_cases c6 : x18_1 < (l0.length : Int)
     ·rw [if_pos c6] at H
      have c6b0 : decide (x18_1 < (l0.length : Int)) = true := decide_eq_true c6
      clear c6
      have HC7 := Aside0.mk H
      clear H
      have p382 : 0 ≤ (x18_1 : Int) := of_decide_eq_true (by first | (with_reducible assumption) | assumption)
      have q382 : x18_1 < (l0.length : Int) := of_decide_eq_true (by first | (with_reducible assumption) | assumption)
      obtain ⟨ad382, A382_1, c382_1, e382, hx382_0, hx382_1, hl382_1, hi382_1⟩ := at_T62 HR0.out x18_1 p382 q382
      cases e382
      replace hx382_0 := (HB.out.cell (World.block_lt_of_cell? w _ hx382_0)).trans hx382_0
      replace hx382_1 := (HB.out.cell (World.block_lt_of_cell? w _ hx382_1)).trans hx382_1
      have HR382_1 := Aside0.mk hi382_1
      have HC382_1 := Aside0.mk hl382_1
      clear hi382_1 hl382_1
      replace p382 := eq_true p382
      replace q382 := eq_true q382
      go_upto_region 7 with (first | ((with_reducible refine gate_dst (N := 13) rfl ?_); refine box_event ?hg (N := 13) ?hd (cs := #[.int .i64 0, .slice none 0 0]) (t := 62) ?hr ?_; (case hd => rfl); (case hg => rfl); (case hr => first | (go_simp; done) | (go_simp; rfl)); intro gb383 hg w8 hbox hb; have n0_ := Aside0.mk (below_step zB hb); have n1_ := Aside0.mk (hbox); have n2_ := Aside0.mk ((by rw [hg]; exact (below_size zB) : w.heap.size ≤ gb383)); have n3_ := Aside0.mk ((by rw [hg]; exact (below_size zB) : w.heap.size ≤ gb383)); clear HB; have HB := n0_; have BK383 := n1_; have GW383 := n2_; have GE383 := n3_; clear n0_ n1_ n2_ n3_; clear hb hbox hg; have hcz9_0 : w8.cell? ⟨gb383, 0, none⟩ = some (.int .i64 0) := (blk_cell BK383.out 0).trans rfl; have hcz9_1 : w8.cell? ⟨gb383, 1, none⟩ = some (.slice none 0 0) := (blk_cell BK383.out 1).trans rfl; have hfz9_0 := blk_frozen BK383.out 0; have hfz9_1 := blk_frozen BK383.out 1))
      (try simp only [Act.put, List.setIfInBounds_toArray, List.set_cons_zero, List.set_cons_succ])
      go_cut [30] (fun v30 wc => ∃ (kq : Nat) (x30_6 : Bool), v30 = .bool x30_6 ∧ Aside0 (smaltoref08_Reach.j1 kq a1 a2 x9_1 x10_1 x11_1 l0 (l0.length : Int) x18_1 x30_6 ((rd_T62 l0 x18_1).f0) ((rd_T62 l0 x18_1).f1) = some (r1, r2, r3)) ∧ Aside0 (kq ≤ k1) ∧ Aside0 (wc.heap[gb383]? = some (.cells #[.int .i64 ((rd_T62 l0 x18_1).f0), (.slice A382_1 ((rd_T62 l0 x18_1).f1).length c382_1)] 62 (0, 0))) ∧ Aside0 (Below w.heap.size w wc))
      case first =>
       have H := HC7.out
       clear HC7
       by_cases c10 : x18_1 < a1
       ·rw [if_pos c10] at H
        have c10b0 : decide (x18_1 < a1) = true := decide_eq_true c10
        clear c10
        (first | rw [c10b0] | (simp only [i64_w, i32_w]; rw [c10b0]) | skip)
        have H' := Aside0.mk H
        clear H
        go_wp2
        go_meet
        case rel => exact ⟨_, (true), zT, H', ⟨by have := HK1.out; first | omega | exact Nat.le_refl _⟩, ⟨by refine zD ?_; refine blk_put (cs := #[.int .i64 ((rd_T62 l0 x18_1).f0), .slice none 0 0]) ?_ 1 _ rfl; refine zD ?_; refine blk_put (cs := #[.int .i64 0, .slice none 0 0]) ?_ 0 _ rfl; refine zD ?_; exact BK383.out⟩, ⟨zB⟩⟩
       ·rw [if_neg c10] at H
        have c10b0 : decide (x18_1 < a1) = false := decide_eq_false c10
        clear c10
        (first | rw [c10b0] | (simp only [i64_w, i32_w]; rw [c10b0]) | skip)
        have H' := Aside0.mk H
        clear H
        go_wp2
        go_meet
        case rel => exact ⟨_, (decide (x18_1 ≥ a2)), zT, H', ⟨by have := HK1.out; first | omega | exact Nat.le_refl _⟩, ⟨by refine zD ?_; refine blk_put (cs := #[.int .i64 ((rd_T62 l0 x18_1).f0), .slice none 0 0]) ?_ 1 _ rfl; refine zD ?_; refine blk_put (cs := #[.int .i64 0, .slice none 0 0]) ?_ 0 _ rfl; refine zD ?_; exact BK383.out⟩, ⟨zB⟩⟩
      case rest =>
       clear HC7
       try clear c1
       try clear p2
       try clear c3
       try clear p3
       try clear q3
       try clear hx3
       try clear c4
       try clear c4b0
       try clear c5
       try clear c5b0
       try clear c6
       try clear c6b0
       try clear c10
       try clear c10b0
       try clear hcz9_0
       try clear hcz9_1
       try clear hfz9_0
       try clear hfz9_1
       try clear hx382_0
       try clear hx382_1
       try clear p2
       try clear p382
       try clear q382
       obtain ⟨kq, x30_6, rfl, HA, HJ6, BK383, HB⟩ := hcut
       cases kq with
       | zero => exact absurd HA.out (by simp [smaltoref08_Reach.j1])
       | succ kj6 =>
        have H := HA.out
        clear HA
        simp only [smaltoref08_Reach.j1] at H
        by_cases c11 : x30_6 = true
        ·subst c11
         have H1 := H; rw [if_pos rfl] at H1; try dsimp only at H1
         clear H
         have H := H1
         clear H1
         have H' := Aside0.mk H
         clear H
         go_wp2
         go_roundg kj6
         case measure => have := HK1.out; have := HJ6.out; omega
         case rel => exact ⟨(x9_1), (x10_1), (x11_1), (wrap64 (x18_1 + 1)), zT, zT, zT, zT, H', ⟨by have := HK1.out; have := HJ6.out; omega⟩, ⟨zB⟩⟩
        ·replace c11 := Bool.eq_false_iff.mpr c11
         subst c11
         have H1 := H; rw [if_neg (show ¬ (false = true) by decide)] at H1; try dsimp only at H1
         clear H
         have H := H1
         clear H1
         have H' := Aside0.mk H
         clear H
         have hcz12_0 : wc.cell? ⟨gb383, 0, none⟩ = some (.int .i64 ((rd_T62 l0 x18_1).f0)) := (blk_cell BK383.out 0).trans rfl
         have hcz12_1 : wc.cell? ⟨gb383, 1, none⟩ = some (.slice A382_1 ((rd_T62 l0 x18_1).f1).length c382_1) := (blk_cell BK383.out 1).trans rfl
         have hfz12_0 := blk_frozen BK383.out 0
         have hfz12_1 := blk_frozen BK383.out 1
         go_wp2
         go_loopg [9, 10, 11, 34] kj6 (fun kq v9 v10 v11 v34 w' => ∃ (x9_3 : Int) (x10_3 : Int) (x11_3 : Bool) (x34_3 : Int), v9 = .int .i64 x9_3 ∧ v10 = .int .i64 x10_3 ∧ v11 = .bool x11_3 ∧ v34 = .int .i64 x34_3 ∧ Aside0 (smaltoref08_Reach.l1 kq a1 a2 x9_3 x10_3 x11_3 l0 (l0.length : Int) x18_1 (((rd_T62 l0 x18_1).f1).length : Int) x34_3 ((rd_T62 l0 x18_1).f0) ((rd_T62 l0 x18_1).f1) = some (r1, r2, r3)) ∧ Aside0 (kq ≤ kj6) ∧ Aside0 (w'.heap[gb383]? = some (.cells #[.int .i64 ((rd_T62 l0 x18_1).f0), (.slice A382_1 ((rd_T62 l0 x18_1).f1).length c382_1)] 62 (0, 0))) ∧ Aside0 (Below w.heap.size w w'))
         case atStart => exact ⟨(x9_1), (x10_1), (x11_1), (0), zT, zT, zT, zT, H', ⟨Nat.le_refl _⟩, ⟨zK BK383⟩, ⟨zB⟩⟩
         case round =>
          clear H'
          try clear c1
          try clear p2
          try clear c3
          try clear p3
          try clear q3
          try clear hx3
          try clear c4
          try clear c4b0
          try clear c5
          try clear c5b0
          try clear c6
          try clear c6b0
          try clear p6
          try clear c10
          try clear c10b0
          try clear c11
          try clear hcz12_0
          try clear hcz12_1
          try clear hcz9_0
          try clear hcz9_1
          try clear hfz12_0
          try clear hfz12_1
          try clear hfz9_0
          try clear hfz9_1
          try clear hx382_0
          try clear hx382_1
          try clear p2
          try clear p3
          try clear p382
          try clear q3
          try clear q382
          obtain ⟨x9_3, x10_3, x11_3, x34_3, rfl, rfl, rfl, rfl, HA, HK3, BK383, HB⟩ := hrel
          cases gk with
          | zero => exact absurd HA.out (by simp [smaltoref08_Reach.l1])
          | succ k3 =>
           have H := HA.out
           clear HA
           simp only [smaltoref08_Reach.l1] at H
           by_cases c13 : x34_3 < (((rd_T62 l0 x18_1).f1).length : Int)
           ·rw [if_pos c13] at H
            have c13b0 : decide (x34_3 < (((rd_T62 l0 x18_1).f1).length : Int)) = true := decide_eq_true c13
            clear c13
            have HC14 := Aside0.mk H
            clear H
            have hcz15_0 : wr.cell? ⟨gb383, 0, none⟩ = some (.int .i64 ((rd_T62 l0 x18_1).f0)) := (blk_cell BK383.out 0).trans rfl
            have hcz15_1 : wr.cell? ⟨gb383, 1, none⟩ = some (.slice A382_1 ((rd_T62 l0 x18_1).f1).length c382_1) := (blk_cell BK383.out 1).trans rfl
            have hfz15_0 := blk_frozen BK383.out 0
            have hfz15_1 := blk_frozen BK383.out 1
            go_upto_region 12 with (fail)
            go_cut [47] (fun v47 wc => ∃ (kq : Nat) (x47_13 : Bool), v47 = .bool x47_13 ∧ Aside0 (smaltoref08_Reach.j3 kq a1 a2 x9_3 x10_3 x11_3 (wrap64 (((rd_T62 l0 x18_1).f0) + x34_3)) l0 (l0.length : Int) x18_1 (((rd_T62 l0 x18_1).f1).length : Int) x34_3 x47_13 ((rd_T62 l0 x18_1).f0) ((rd_T62 l0 x18_1).f1) = some (r1, r2, r3)) ∧ Aside0 (kq ≤ k3) ∧ Aside0 (wc.heap[gb383]? = some (.cells #[.int .i64 ((rd_T62 l0 x18_1).f0), (.slice A382_1 ((rd_T62 l0 x18_1).f1).length c382_1)] 62 (0, 0))) ∧ Aside0 (Below w.heap.size w wc))
            case first =>
             have H := HC14.out
             clear HC14
             by_cases c16 : x11_3 = true
             ·subst c16
              have H1 := H; rw [if_pos rfl] at H1; try dsimp only at H1
              clear H
              have H := H1
              clear H1
              have H' := Aside0.mk H
              clear H
              go_wp2
              go_meet
              case rel => exact ⟨_, (decide ((wrap64 (((rd_T62 l0 x18_1).f0) + x34_3)) < x9_3)), zT, H', ⟨by have := HK1.out; have := HJ6.out; have := HK3.out; first | omega | exact Nat.le_refl _⟩, ⟨zK BK383⟩, ⟨zB⟩⟩
             ·replace c16 := Bool.eq_false_iff.mpr c16
              subst c16
              have H1 := H; rw [if_neg (show ¬ (false = true) by decide)] at H1; try dsimp only at H1
              clear H
              have H := H1
              clear H1
              have H' := Aside0.mk H
              clear H
              go_wp2
              go_meet
              case rel => exact ⟨_, (true), zT, H', ⟨by have := HK1.out; have := HJ6.out; have := HK3.out; first | omega | exact Nat.le_refl _⟩, ⟨zK BK383⟩, ⟨zB⟩⟩
            case rest =>
             clear HC14
             try clear c1
             try clear p2
             try clear c3
             try clear p3
             try clear q3
             try clear hx3
             try clear c4
             try clear c4b0
             try clear c5
             try clear c5b0
             try clear c6
             try clear c6b0
             try clear p6
             try clear c10
             try clear c10b0
             try clear c11
             try clear c13
             try clear c13b0
             try clear c16
             try clear hcz12_0
             try clear hcz12_1
             try clear hcz15_0
             try clear hcz15_1
             try clear hcz9_0
             try clear hcz9_1
             try clear hfz12_0
             try clear hfz12_1
             try clear hfz15_0
             try clear hfz15_1
             try clear hfz9_0
             try clear hfz9_1
             try clear hx382_0
             try clear hx382_1
             try clear p2
             try clear p3
             try clear p382
             try clear p6
             try clear q3
             try clear q382
             obtain ⟨kq, x47_13, rfl, HA, HJ13, BK383, HB⟩ := hcut
             cases kq with
             | zero => exact absurd HA.out (by simp [smaltoref08_Reach.j3])
             | succ kj13 =>
              have H := HA.out
              clear HA
              simp only [smaltoref08_Reach.j3] at H
              by_cases c17 : x47_13 = true
              ·subst c17
               have H1 := H; rw [if_pos rfl] at H1; try dsimp only at H1
               clear H
               have H := H1
               clear H1
               by_cases c18 : x11_3 = true
               ·subst c18
                have H1 := H; rw [if_pos rfl] at H1; try dsimp only at H1
                clear H
                have H := H1
                clear H1
                by_cases c19 : (wrap64 ((wrap64 (((rd_T62 l0 x18_1).f0) + x34_3)) + 1)) > x10_3
                ·rw [if_pos c19] at H
                 have c19b0 : decide (x10_3 < (wrap64 ((wrap64 (((rd_T62 l0 x18_1).f0) + x34_3)) + 1))) = true := decide_eq_true c19
                 clear c19
                 have H' := Aside0.mk H
                 clear H
                 go_wp2
                 go_roundg kj13
                 case measure => have := HK1.out; have := HJ6.out; have := HK3.out; have := HJ13.out; omega
                 case rel => exact ⟨((wrap64 (((rd_T62 l0 x18_1).f0) + x34_3))), (wrap64 ((wrap64 (((rd_T62 l0 x18_1).f0) + x34_3)) + 1)), (true), (wrap64 (x34_3 + 1)), zT, zT, zT, zT, H', ⟨by have := HK1.out; have := HJ6.out; have := HK3.out; have := HJ13.out; omega⟩, ⟨zK BK383⟩, ⟨zB⟩⟩
                ·rw [if_neg c19] at H
                 have c19b0 : decide (x10_3 < (wrap64 ((wrap64 (((rd_T62 l0 x18_1).f0) + x34_3)) + 1))) = false := decide_eq_false c19
                 clear c19
                 have H' := Aside0.mk H
                 clear H
                 go_wp2
                 go_roundg kj13
                 case measure => have := HK1.out; have := HJ6.out; have := HK3.out; have := HJ13.out; omega
                 case rel => exact ⟨((wrap64 (((rd_T62 l0 x18_1).f0) + x34_3))), (x10_3), (true), (wrap64 (x34_3 + 1)), zT, zT, zT, zT, H', ⟨by have := HK1.out; have := HJ6.out; have := HK3.out; have := HJ13.out; omega⟩, ⟨zK BK383⟩, ⟨zB⟩⟩
               ·replace c18 := Bool.eq_false_iff.mpr c18
                subst c18
                have H1 := H; rw [if_neg (show ¬ (false = true) by decide)] at H1; try dsimp only at H1
                clear H
                have H := H1
                clear H1
                have H' := Aside0.mk H
                clear H
                go_wp2
                go_roundg kj13
                case measure => have := HK1.out; have := HJ6.out; have := HK3.out; have := HJ13.out; omega
                case rel => exact ⟨((wrap64 (((rd_T62 l0 x18_1).f0) + x34_3))), (wrap64 ((wrap64 (((rd_T62 l0 x18_1).f0) + x34_3)) + 1)), (true), (wrap64 (x34_3 + 1)), zT, zT, zT, zT, H', ⟨by have := HK1.out; have := HJ6.out; have := HK3.out; have := HJ13.out; omega⟩, ⟨zK BK383⟩, ⟨zB⟩⟩
              ·replace c17 := Bool.eq_false_iff.mpr c17
               subst c17
               have H1 := H; rw [if_neg (show ¬ (false = true) by decide)] at H1; try dsimp only at H1
               clear H
               have H := H1
               clear H1
               by_cases c20 : x11_3 = true
               ·subst c20
                have H1 := H; rw [if_pos rfl] at H1; try dsimp only at H1
                clear H
                have H := H1
                clear H1
                by_cases c21 : (wrap64 ((wrap64 (((rd_T62 l0 x18_1).f0) + x34_3)) + 1)) > x10_3
                ·rw [if_pos c21] at H
                 have c21b0 : decide (x10_3 < (wrap64 ((wrap64 (((rd_T62 l0 x18_1).f0) + x34_3)) + 1))) = true := decide_eq_true c21
                 clear c21
                 have H' := Aside0.mk H
                 clear H
                 go_wp2
                 go_roundg kj13
                 case measure => have := HK1.out; have := HJ6.out; have := HK3.out; have := HJ13.out; omega
                 case rel => exact ⟨(x9_3), (wrap64 ((wrap64 (((rd_T62 l0 x18_1).f0) + x34_3)) + 1)), (true), (wrap64 (x34_3 + 1)), zT, zT, zT, zT, H', ⟨by have := HK1.out; have := HJ6.out; have := HK3.out; have := HJ13.out; omega⟩, ⟨zK BK383⟩, ⟨zB⟩⟩
                ·rw [if_neg c21] at H
                 have c21b0 : decide (x10_3 < (wrap64 ((wrap64 (((rd_T62 l0 x18_1).f0) + x34_3)) + 1))) = false := decide_eq_false c21
                 clear c21
                 have H' := Aside0.mk H
                 clear H
                 go_wp2
                 go_roundg kj13
                 case measure => have := HK1.out; have := HJ6.out; have := HK3.out; have := HJ13.out; omega
                 case rel => exact ⟨(x9_3), (x10_3), (true), (wrap64 (x34_3 + 1)), zT, zT, zT, zT, H', ⟨by have := HK1.out; have := HJ6.out; have := HK3.out; have := HJ13.out; omega⟩, ⟨zK BK383⟩, ⟨zB⟩⟩
               ·replace c20 := Bool.eq_false_iff.mpr c20
                subst c20
                have H1 := H; rw [if_neg (show ¬ (false = true) by decide)] at H1; try dsimp only at H1
                clear H
                have H := H1
                clear H1
                have H' := Aside0.mk H
                clear H
                go_wp2
                go_roundg kj13
                case measure => have := HK1.out; have := HJ6.out; have := HK3.out; have := HJ13.out; omega
                case rel => exact ⟨(x9_3), (wrap64 ((wrap64 (((rd_T62 l0 x18_1).f0) + x34_3)) + 1)), (true), (wrap64 (x34_3 + 1)), zT, zT, zT, zT, H', ⟨by have := HK1.out; have := HJ6.out; have := HK3.out; have := HJ13.out; omega⟩, ⟨zK BK383⟩, ⟨zB⟩⟩
           ·rw [if_neg c13] at H
            have c13b0 : decide (x34_3 < (((rd_T62 l0 x18_1).f1).length : Int)) = false := decide_eq_false c13
            clear c13
            have H' := Aside0.mk H
            clear H
            go_wp2
            go_roundg k3
            case measure => have := HK1.out; have := HJ6.out; have := HK3.out; omega
            case rel => exact ⟨(x9_3), (x10_3), (x11_3), (wrap64 (x18_1 + 1)), zT, zT, zT, zT, H', ⟨by have := HK1.out; have := HJ6.out; have := HK3.out; omega⟩, ⟨zB⟩⟩
     ·rw [if_neg c6] at H
      exact absurd H (by simp)
    ·rw [if_neg c5] at H
     exact absurd H (by simp)
   ·rw [if_neg c4] at H
    have c4b0 : decide (x18_1 < (l0.length : Int)) = false := decide_eq_false c4
    clear c4
    simp only [Option.some.injEq, Prod.mk.injEq] at H
    obtain ⟨rfl, rfl, rfl⟩ := H
    go_wp2
    go_ret3
    exact ⟨zS, zB⟩
end Go.Proofs.YthaajkpiknbdbaaDoor.QA
