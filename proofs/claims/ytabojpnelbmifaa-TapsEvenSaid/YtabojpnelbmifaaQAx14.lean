-- Written by wip/tools/pp.py over the kit's print.py; not trusted: Lean checks it.
import Derived.Test.YtabojpnelbmifaaQAx0
import Derived.Test.YtabojpnelbmifaaQAx11
import Derived.Test.YtabojpnelbmifaaQAx13
namespace Go.Proofs.Ytabojpnelbmifaa.QA
open Go.Proofs.Ytabojpnelbmifaa.T
open Go.RowKit Go.Proofs.YtabojpnelbmifaaW.PrintWords Go.Proofs.YtabojpnelbmifaaW.PrintLast Go.Proofs.YtabojpnelbmifaaW.PrintMore
attribute [local go_sem] ext_call max2_int min2_int max_two min_two max_three min_three max_four min_four   -- for this text's walks alone
set_option linter.unusedVariables false
set_option linter.unusedSimpArgs false

/-! ### smaltoref06_Apportion: function 12 -/
mutual
def smaltoref06_Apportion.j0 : Nat → List Int → Bool → Option (List Int × Int)
 | 0, _, _ => none
 | k + 1, x0, x22 => if x22 = true then (some (([] : List Int), 7)) else (smaltoref06_Apportion.l0 k x0 x0 (x0.length : Int) 0)
def smaltoref06_Apportion.l0 : Nat → List Int → List Int → Int → Int → Option (List Int × Int)
 | 0, _, _, _, _ => none
 | k + 1, x0, x23, x24, x25 => if x25 < x24 then (if 0 ≤ x25 then (if x25 < (x23.length : Int) then ((smaltoref06_Size.f (rd x23 x25)).bind fun t223 => (if t223 > 1099511627776 then (some (([] : List Int), 7)) else (smaltoref06_Apportion.l0 k x0 x23 x24 (wrap64 (x25 + 1))))) else (none)) else (none)) else ((smaltoref06_Sum.f k x0).bind fun t224 => (if t224 < 268435456 then (some (([] : List Int), 8)) else (smaltoref06_Apportion.l1 k t224 ([] : List Int) ([] : List Int) 16384 x0 (x0.length : Int) 0)))
def smaltoref06_Apportion.l1 : Nat → Int → List Int → List Int → Int → List Int → Int → Int → Option (List Int × Int)
 | 0, _, _, _, _, _, _, _ => none
 | k + 1, x6, x7, x8, x9, x37, x38, x39 => if x39 < x38 then (if 0 ≤ x39 then (if x39 < (x37.length : Int) then ((smaltoref01_Floor.f k (wrap64 ((rd x37 x39) * 16384)) x6).bind fun t226 => (if x7.length < 17592186044416 then (if x8.length < 17592186044416 then (smaltoref06_Apportion.l1 k x6 (x7 ++ [t226]) (x8 ++ [wrap64 ((wrap64 ((rd x37 x39) * 16384)) - (wrap64 (t226 * x6)))]) (wrap64 (x9 - t226)) x37 x38 (wrap64 (x39 + 1))) else (none)) else (none))) else (none)) else (none)) else (smaltoref06_Apportion.l2 k x7 x8 x9)
def smaltoref06_Apportion.l2 : Nat → List Int → List Int → Int → Option (List Int × Int)
 | 0, _, _, _ => none
 | k + 1, x7, x8, x9 => if x9 > 0 then (smaltoref06_Apportion.l3 k x7 x8 x9 0 (x8.length : Int) 0) else (some (x7, 0))
def smaltoref06_Apportion.l3 : Nat → List Int → List Int → Int → Int → Int → Int → Option (List Int × Int)
 | 0, _, _, _, _, _, _ => none
 | k + 1, x7, x8, x9, x13, x67, x68 => if x68 < x67 then (if 0 ≤ x68 then (if x68 < (x8.length : Int) then (if 0 ≤ x13 then (if x13 < (x8.length : Int) then (if (rd x8 x68) > (rd x8 x13) then (smaltoref06_Apportion.l3 k x7 x8 x9 x68 x67 (wrap64 (x68 + 1))) else (smaltoref06_Apportion.l3 k x7 x8 x9 x13 x67 (wrap64 (x68 + 1)))) else (none)) else (none)) else (none)) else (none)) else (if 0 ≤ x13 then (if x13 < (x7.length : Int) then (if x13 < (x8.length : Int) then (smaltoref06_Apportion.l2 k (x7.set (x13 : Int).toNat (wrap64 ((rd x7 x13) + 1))) (x8.set (x13 : Int).toNat (-1)) (wrap64 (x9 - 1))) else (none)) else (none)) else (none))
end
def smaltoref06_Apportion.f (k : Nat) (l0 : List Int) : Option (List Int × Int) := if (l0.length : Int) < 1 then (smaltoref06_Apportion.j0 k l0 true) else (smaltoref06_Apportion.j0 k l0 (decide ((l0.length : Int) > 1048576)))
theorem smaltoref06_Apportion.mono_l : ∀ k, (∀ y0 y1, LeO (smaltoref06_Apportion.j0 k y0 y1) (smaltoref06_Apportion.j0 (k + 1) y0 y1)) ∧ (∀ y0 y1 y2 y3, LeO (smaltoref06_Apportion.l0 k y0 y1 y2 y3) (smaltoref06_Apportion.l0 (k + 1) y0 y1 y2 y3)) ∧ (∀ y0 y1 y2 y3 y4 y5 y6, LeO (smaltoref06_Apportion.l1 k y0 y1 y2 y3 y4 y5 y6) (smaltoref06_Apportion.l1 (k + 1) y0 y1 y2 y3 y4 y5 y6)) ∧ (∀ y0 y1 y2, LeO (smaltoref06_Apportion.l2 k y0 y1 y2) (smaltoref06_Apportion.l2 (k + 1) y0 y1 y2)) ∧ (∀ y0 y1 y2 y3 y4 y5, LeO (smaltoref06_Apportion.l3 k y0 y1 y2 y3 y4 y5) (smaltoref06_Apportion.l3 (k + 1) y0 y1 y2 y3 y4 y5))
 | 0 => ⟨fun _ _ r h => by simp [smaltoref06_Apportion.j0] at h, fun _ _ _ _ r h => by simp [smaltoref06_Apportion.l0] at h, fun _ _ _ _ _ _ _ r h => by simp [smaltoref06_Apportion.l1] at h, fun _ _ _ r h => by simp [smaltoref06_Apportion.l2] at h, fun _ _ _ _ _ _ r h => by simp [smaltoref06_Apportion.l3] at h⟩
 | k + 1 => by
  obtain ⟨ih0, ih1, ih2, ih3, ih4⟩ := smaltoref06_Apportion.mono_l k
  refine ⟨?_, ?_, ?_, ?_, ?_⟩
  ·intro y0 y1
   unfold smaltoref06_Apportion.j0
   repeat' first
   | (with_reducible exact ih0 _ _)
   | (with_reducible exact ih1 _ _ _ _)
   | (with_reducible exact ih2 _ _ _ _ _ _ _)
   | (with_reducible exact ih3 _ _ _)
   | (with_reducible exact ih4 _ _ _ _ _ _)
   | (with_reducible exact smaltoref01_Floor.mono _ _ _)
   | (with_reducible exact smaltoref06_Sum.mono _ _)
   | (with_reducible exact LeO.refl _)
   | (with_reducible exact LeO.none _)
   | (with_reducible refine LeO.ite ?_ ?_)
   | (with_reducible refine LeO.bind ?_ (fun _ => ?_))
   | exact ih0 _ _
   | exact ih1 _ _ _ _
   | exact ih2 _ _ _ _ _ _ _
   | exact ih3 _ _ _
   | exact ih4 _ _ _ _ _ _
   | exact smaltoref01_Floor.mono _ _ _
   | exact smaltoref06_Sum.mono _ _
   | exact LeO.none _
   | refine LeO.ite ?_ ?_
   | refine LeO.bind ?_ (fun _ => ?_)
  ·intro y0 y1 y2 y3
   unfold smaltoref06_Apportion.l0
   repeat' first
   | (with_reducible exact ih0 _ _)
   | (with_reducible exact ih1 _ _ _ _)
   | (with_reducible exact ih2 _ _ _ _ _ _ _)
   | (with_reducible exact ih3 _ _ _)
   | (with_reducible exact ih4 _ _ _ _ _ _)
   | (with_reducible exact smaltoref01_Floor.mono _ _ _)
   | (with_reducible exact smaltoref06_Sum.mono _ _)
   | (with_reducible exact LeO.refl _)
   | (with_reducible exact LeO.none _)
   | (with_reducible refine LeO.ite ?_ ?_)
   | (with_reducible refine LeO.bind ?_ (fun _ => ?_))
   | exact ih0 _ _
   | exact ih1 _ _ _ _
   | exact ih2 _ _ _ _ _ _ _
   | exact ih3 _ _ _
   | exact ih4 _ _ _ _ _ _
   | exact smaltoref01_Floor.mono _ _ _
   | exact smaltoref06_Sum.mono _ _
   | exact LeO.none _
   | refine LeO.ite ?_ ?_
   | refine LeO.bind ?_ (fun _ => ?_)
  ·intro y0 y1 y2 y3 y4 y5 y6
   unfold smaltoref06_Apportion.l1
   repeat' first
   | (with_reducible exact ih0 _ _)
   | (with_reducible exact ih1 _ _ _ _)
   | (with_reducible exact ih2 _ _ _ _ _ _ _)
   | (with_reducible exact ih3 _ _ _)
   | (with_reducible exact ih4 _ _ _ _ _ _)
   | (with_reducible exact smaltoref01_Floor.mono _ _ _)
   | (with_reducible exact smaltoref06_Sum.mono _ _)
   | (with_reducible exact LeO.refl _)
   | (with_reducible exact LeO.none _)
   | (with_reducible refine LeO.ite ?_ ?_)
   | (with_reducible refine LeO.bind ?_ (fun _ => ?_))
   | exact ih0 _ _
   | exact ih1 _ _ _ _
   | exact ih2 _ _ _ _ _ _ _
   | exact ih3 _ _ _
   | exact ih4 _ _ _ _ _ _
   | exact smaltoref01_Floor.mono _ _ _
   | exact smaltoref06_Sum.mono _ _
   | exact LeO.none _
   | refine LeO.ite ?_ ?_
   | refine LeO.bind ?_ (fun _ => ?_)
  ·intro y0 y1 y2
   unfold smaltoref06_Apportion.l2
   repeat' first
   | (with_reducible exact ih0 _ _)
   | (with_reducible exact ih1 _ _ _ _)
   | (with_reducible exact ih2 _ _ _ _ _ _ _)
   | (with_reducible exact ih3 _ _ _)
   | (with_reducible exact ih4 _ _ _ _ _ _)
   | (with_reducible exact smaltoref01_Floor.mono _ _ _)
   | (with_reducible exact smaltoref06_Sum.mono _ _)
   | (with_reducible exact LeO.refl _)
   | (with_reducible exact LeO.none _)
   | (with_reducible refine LeO.ite ?_ ?_)
   | (with_reducible refine LeO.bind ?_ (fun _ => ?_))
   | exact ih0 _ _
   | exact ih1 _ _ _ _
   | exact ih2 _ _ _ _ _ _ _
   | exact ih3 _ _ _
   | exact ih4 _ _ _ _ _ _
   | exact smaltoref01_Floor.mono _ _ _
   | exact smaltoref06_Sum.mono _ _
   | exact LeO.none _
   | refine LeO.ite ?_ ?_
   | refine LeO.bind ?_ (fun _ => ?_)
  ·intro y0 y1 y2 y3 y4 y5
   unfold smaltoref06_Apportion.l3
   repeat' first
   | (with_reducible exact ih0 _ _)
   | (with_reducible exact ih1 _ _ _ _)
   | (with_reducible exact ih2 _ _ _ _ _ _ _)
   | (with_reducible exact ih3 _ _ _)
   | (with_reducible exact ih4 _ _ _ _ _ _)
   | (with_reducible exact smaltoref01_Floor.mono _ _ _)
   | (with_reducible exact smaltoref06_Sum.mono _ _)
   | (with_reducible exact LeO.refl _)
   | (with_reducible exact LeO.none _)
   | (with_reducible refine LeO.ite ?_ ?_)
   | (with_reducible refine LeO.bind ?_ (fun _ => ?_))
   | exact ih0 _ _
   | exact ih1 _ _ _ _
   | exact ih2 _ _ _ _ _ _ _
   | exact ih3 _ _ _
   | exact ih4 _ _ _ _ _ _
   | exact smaltoref01_Floor.mono _ _ _
   | exact smaltoref06_Sum.mono _ _
   | exact LeO.none _
   | refine LeO.ite ?_ ?_
   | refine LeO.bind ?_ (fun _ => ?_)
theorem smaltoref06_Apportion.mono : ∀ a0 k, LeO (smaltoref06_Apportion.f k a0) (smaltoref06_Apportion.f (k + 1) a0) := by
 intro a0 k
 obtain ⟨ih0, ih1, ih2, ih3, ih4⟩ := smaltoref06_Apportion.mono_l k
 unfold smaltoref06_Apportion.f
 repeat' first
   | (with_reducible exact ih0 _ _)
   | (with_reducible exact ih1 _ _ _ _)
   | (with_reducible exact ih2 _ _ _ _ _ _ _)
   | (with_reducible exact ih3 _ _ _)
   | (with_reducible exact ih4 _ _ _ _ _ _)
   | (with_reducible exact smaltoref01_Floor.mono _ _ _)
   | (with_reducible exact smaltoref06_Sum.mono _ _)
   | (with_reducible exact LeO.refl _)
   | (with_reducible exact LeO.none _)
   | (with_reducible refine LeO.ite ?_ ?_)
   | (with_reducible refine LeO.bind ?_ (fun _ => ?_))
   | exact ih0 _ _
   | exact ih1 _ _ _ _
   | exact ih2 _ _ _ _ _ _ _
   | exact ih3 _ _ _
   | exact ih4 _ _ _ _ _ _
   | exact smaltoref01_Floor.mono _ _ _
   | exact smaltoref06_Sum.mono _ _
   | exact LeO.none _
   | refine LeO.ite ?_ ?_
   | refine LeO.bind ?_ (fun _ => ?_)
set_option maxHeartbeats 8000000 in
set_option maxRecDepth 100000 in
theorem smaltoref06_Apportion.calls (k : Nat) (A0 : Option Addr) (c0 : Nat) (l0 : List Int) (r1 : List Int) (r2 : Int) (w : World) (hr0 : Kd.C (Kd.int .i64) w A0 l0.length l0) (hc0 : l0.length ≤ c0) (h : smaltoref06_Apportion.f k l0 = some (r1, r2)) :
  Calls Try.prog 12 #[.slice A0 l0.length c0] w fun e w' => ∃ v0_ : Value, e = .returned (.tuple #[v0_, .int .i64 r2]) ∧ Kd.R (Kd.int .i64) 2 w' w.heap.size (fun _ => True) v0_ r1 ∧ Below w.heap.size w w' := by
 have HR0 := Aside0.mk hr0
 have HC0 := Aside0.mk hc0
 clear hr0 hc0
 have HB := Aside0.mk (Below.refl w.heap.size w)
 have H : (if (l0.length : Int) < 1 then (smaltoref06_Apportion.j0 k l0 true) else (smaltoref06_Apportion.j0 k l0 (decide ((l0.length : Int) > 1048576)))) = some (r1, r2) := h
 clear h
 have HC2 := Aside0.mk H
 clear H
 go_enter Try.func12, Try.ntmps12
 go_upto_region 1 with (fail)
 repeat (go_quiet (fail); go_upto_region 1 with (fail))
 go_cut [22] (fun v22 wc => ∃ (kq : Nat) (x22_1 : Bool), v22 = .bool x22_1 ∧ Aside0 (smaltoref06_Apportion.j0 kq l0 x22_1 = some (r1, r2)) ∧ Aside0 (kq ≤ k) ∧ Aside0 (Below w.heap.size w wc))
 case first =>
  have H := HC2.out
  clear HC2
  by_cases c3 : (l0.length : Int) < 1
  ·rw [if_pos c3] at H
   have c3b0 : decide ((l0.length : Int) < 1) = true := decide_eq_true c3
   have c3b1 : decide (l0.length < 1) = true := decide_eq_true (by omega)
   clear c3
   (first | rw [c3b0] | (simp only [i64_w, i32_w]; rw [c3b0]) | skip)
   have H' := Aside0.mk H
   clear H
   go_wp2
   repeat (go_quiet (fail); try go_wp2)
   go_meet
   case rel => exact ⟨_, (true), (by first | rfl | (simp; done) | (simp [*]; done)), H', ⟨by first | omega | exact Nat.le_refl _⟩, ⟨by repeat (first | (with_reducible first | exact HB.out | apply below_alloc | apply pw_below_drewN | apply below_drew1) | exact HB.out)⟩⟩
  ·rw [if_neg c3] at H
   have c3b0 : decide ((l0.length : Int) < 1) = false := decide_eq_false c3
   have c3b1 : decide (l0.length < 1) = false := decide_eq_false (by omega)
   clear c3
   (first | rw [c3b0] | (simp only [i64_w, i32_w]; rw [c3b0]) | skip)
   have H' := Aside0.mk H
   clear H
   go_wp2
   repeat (go_quiet (fail); try go_wp2)
   go_meet
   case rel => exact ⟨_, (decide ((l0.length : Int) > 1048576)), (by first | rfl | (simp; done) | (simp [*]; done)), H', ⟨by first | omega | exact Nat.le_refl _⟩, ⟨by repeat (first | (with_reducible first | exact HB.out | apply below_alloc | apply pw_below_drewN | apply below_drew1) | exact HB.out)⟩⟩
 case rest =>
  clear HC2
  try clear c1
  try clear p2
  try clear c3
  try clear c3b0
  try clear c3b1
  obtain ⟨kq, x22_1, rfl, HA, HJ1, HB⟩ := hcut
  cases kq with
  | zero => exact absurd HA.out (by simp [smaltoref06_Apportion.j0])
  | succ kj1 =>
   have H := HA.out
   clear HA
   simp only [smaltoref06_Apportion.j0] at H
   by_cases c4 : x22_1 = true
   ·subst c4
    have H1 : (some (([] : List Int), 7)) = some (r1, r2) := by rw [if_pos rfl] at H; exact H
    clear H
    have H := H1
    clear H1
    simp only [Option.some.injEq, Prod.mk.injEq] at H
    obtain ⟨rfl, rfl⟩ := H
    go_wp2
    repeat (go_quiet (fail); try go_wp2)
    go_ret2
    exact ⟨_, by first | rfl | (simp [errW_none, errW_some] <;> rfl) | (simp [*, errW_none, errW_some] <;> rfl), by first | exact Kd.R_nil _ _ _ _ _ | exact Kd.N_nil _ _ _ _ _ | exact Kd.V_nil _ _ _ _ _ | exact Kd.Q_nil _ _ _ _ _ | exact Kd.S_nil _ _ _ _ _, by repeat (first | (with_reducible first | exact HB.out | apply below_alloc | apply pw_below_drewN | apply below_drew1) | exact HB.out)⟩
   ·replace c4 := Bool.eq_false_iff.mpr c4
    subst c4
    have H1 : (smaltoref06_Apportion.l0 kj1 l0 l0 (l0.length : Int) 0) = some (r1, r2) := by rw [if_neg (show ¬ (false = true) by decide)] at H; exact H
    clear H
    have H := H1
    clear H1
    have H' := Aside0.mk H
    clear H
    go_wp2
    repeat (go_quiet (fail); try go_wp2)
    go_loopg [25] kj1 (fun kq v25 w' => ∃ (x25_2 : Int), v25 = .int .i64 x25_2 ∧ Aside0 (smaltoref06_Apportion.l0 kq l0 l0 (l0.length : Int) x25_2 = some (r1, r2)) ∧ Aside0 (kq ≤ kj1) ∧ Aside0 (Below w.heap.size w w'))
    case atStart => exact ⟨(0), (by first | rfl | (simp; done) | (simp [*]; done)), H', ⟨Nat.le_refl _⟩, ⟨by repeat (first | (with_reducible first | exact HB.out | apply below_alloc | apply pw_below_drewN | apply below_drew1) | exact HB.out)⟩⟩
    case round =>
     clear H'
     try clear c1
     try clear p2
     try clear c3
     try clear c3b0
     try clear c3b1
     try clear c4
     try clear p2
     obtain ⟨x25_2, rfl, HA, HK2, HB⟩ := hrel
     cases gk with
     | zero => exact absurd HA.out (by simp [smaltoref06_Apportion.l0])
     | succ k2 =>
      have H := HA.out
      clear HA
      simp only [smaltoref06_Apportion.l0] at H
      by_cases c5 : x25_2 < (l0.length : Int)
      ·rw [if_pos c5] at H
       have c5b0 : decide (x25_2 < (l0.length : Int)) = true := decide_eq_true c5
       clear c5
       by_cases c6 : 0 ≤ x25_2
       ·rw [if_pos c6] at H
        have c6b0 : decide (0 ≤ x25_2) = true := decide_eq_true c6
        clear c6
        by_cases c7 : x25_2 < (l0.length : Int)
        ·rw [if_pos c7] at H
         have c7b0 : decide (x25_2 < (l0.length : Int)) = true := decide_eq_true c7
         clear c7
         replace H := Option.bind_eq_some_iff.mp H
         obtain ⟨t223, A80, H⟩ := H
         replace H : (if t223 > 1099511627776 then (some (([] : List Int), 7)) else (smaltoref06_Apportion.l0 k2 l0 l0 (l0.length : Int) (wrap64 (x25_2 + 1)))) = some (r1, r2) := H
         have A8 := Aside0.mk A80
         clear A80
         by_cases c9 : t223 > 1099511627776
         ·rw [if_pos c9] at H
          have c9b0 : decide (1099511627776 < t223) = true := decide_eq_true c9
          clear c9
          simp only [Option.some.injEq, Prod.mk.injEq] at H
          obtain ⟨rfl, rfl⟩ := H
          have p222 : 0 ≤ (x25_2 : Int) := of_decide_eq_true (by first | (with_reducible assumption) | assumption)
          have q222 : x25_2 < (l0.length : Int) := of_decide_eq_true (by first | (with_reducible assumption) | assumption)
          obtain ⟨ad222, e222, hx222_0⟩ := Kd.at_int HR0.out x25_2 p222 q222
          cases e222
          replace hx222_0 := (HB.out.cell (World.block_lt_of_cell? w _ hx222_0)).trans hx222_0
          replace p222 := eq_true p222
          replace q222 := eq_true q222
          go_wp2_with (first | (go_at_call 29; (with_reducible refine (smaltoref06_Size.calls (rd l0 x25_2) t223 _ A8.out).mono ?_); rintro e w' ⟨rfl, ⟨nd, rfl⟩⟩; (try first | exact ⟨rfl, _, World.drewN_drewN _ _ _⟩ | exact ⟨rfl, _, Eq.trans (World.drewN_drewN _ _ _) (congrArg (World.drewN _) (Nat.add_assoc _ _ _))⟩)))
          repeat (go_quiet (first | (go_at_call 29; (with_reducible refine (smaltoref06_Size.calls (rd l0 x25_2) t223 _ A8.out).mono ?_); rintro e w' ⟨rfl, ⟨nd, rfl⟩⟩; (try first | exact ⟨rfl, _, World.drewN_drewN _ _ _⟩ | exact ⟨rfl, _, Eq.trans (World.drewN_drewN _ _ _) (congrArg (World.drewN _) (Nat.add_assoc _ _ _))⟩))); try go_wp2_with (first | (go_at_call 29; (with_reducible refine (smaltoref06_Size.calls (rd l0 x25_2) t223 _ A8.out).mono ?_); rintro e w' ⟨rfl, ⟨nd, rfl⟩⟩; (try first | exact ⟨rfl, _, World.drewN_drewN _ _ _⟩ | exact ⟨rfl, _, Eq.trans (World.drewN_drewN _ _ _) (congrArg (World.drewN _) (Nat.add_assoc _ _ _))⟩))))
          go_ret2
          exact ⟨_, by first | rfl | (simp [errW_none, errW_some] <;> rfl) | (simp [*, errW_none, errW_some] <;> rfl), by first | exact Kd.R_nil _ _ _ _ _ | exact Kd.N_nil _ _ _ _ _ | exact Kd.V_nil _ _ _ _ _ | exact Kd.Q_nil _ _ _ _ _ | exact Kd.S_nil _ _ _ _ _, by repeat (first | (with_reducible first | exact HB.out | apply below_alloc | apply pw_below_drewN | apply below_drew1) | exact HB.out)⟩
         ·rw [if_neg c9] at H
          have c9b0 : decide (1099511627776 < t223) = false := decide_eq_false c9
          clear c9
          have H' := Aside0.mk H
          clear H
          have p222 : 0 ≤ (x25_2 : Int) := of_decide_eq_true (by first | (with_reducible assumption) | assumption)
          have q222 : x25_2 < (l0.length : Int) := of_decide_eq_true (by first | (with_reducible assumption) | assumption)
          obtain ⟨ad222, e222, hx222_0⟩ := Kd.at_int HR0.out x25_2 p222 q222
          cases e222
          replace hx222_0 := (HB.out.cell (World.block_lt_of_cell? w _ hx222_0)).trans hx222_0
          replace p222 := eq_true p222
          replace q222 := eq_true q222
          go_wp2_with (first | (go_at_call 29; (with_reducible refine (smaltoref06_Size.calls (rd l0 x25_2) t223 _ A8.out).mono ?_); rintro e w' ⟨rfl, ⟨nd, rfl⟩⟩; (try first | exact ⟨rfl, _, World.drewN_drewN _ _ _⟩ | exact ⟨rfl, _, Eq.trans (World.drewN_drewN _ _ _) (congrArg (World.drewN _) (Nat.add_assoc _ _ _))⟩)))
          repeat (go_quiet (first | (go_at_call 29; (with_reducible refine (smaltoref06_Size.calls (rd l0 x25_2) t223 _ A8.out).mono ?_); rintro e w' ⟨rfl, ⟨nd, rfl⟩⟩; (try first | exact ⟨rfl, _, World.drewN_drewN _ _ _⟩ | exact ⟨rfl, _, Eq.trans (World.drewN_drewN _ _ _) (congrArg (World.drewN _) (Nat.add_assoc _ _ _))⟩))); try go_wp2_with (first | (go_at_call 29; (with_reducible refine (smaltoref06_Size.calls (rd l0 x25_2) t223 _ A8.out).mono ?_); rintro e w' ⟨rfl, ⟨nd, rfl⟩⟩; (try first | exact ⟨rfl, _, World.drewN_drewN _ _ _⟩ | exact ⟨rfl, _, Eq.trans (World.drewN_drewN _ _ _) (congrArg (World.drewN _) (Nat.add_assoc _ _ _))⟩))))
          go_roundg k2
          case measure => have := HJ1.out; have := HK2.out; omega
          case rel => exact ⟨(wrap64 (x25_2 + 1)), (by first | rfl | (simp; done) | (simp [*]; done)), H', ⟨by have := HJ1.out; have := HK2.out; omega⟩, ⟨by repeat (first | (with_reducible first | exact HB.out | apply below_alloc | apply pw_below_drewN | apply below_drew1) | exact HB.out)⟩⟩
        ·rw [if_neg c7] at H
         exact absurd H (by simp)
       ·rw [if_neg c6] at H
        exact absurd H (by simp)
      ·rw [if_neg c5] at H
       have c5b0 : decide (x25_2 < (l0.length : Int)) = false := decide_eq_false c5
       clear c5
       replace H := Option.bind_eq_some_iff.mp H
       obtain ⟨t224, A100, H⟩ := H
       replace H : (if t224 < 268435456 then (some (([] : List Int), 8)) else (smaltoref06_Apportion.l1 k2 t224 ([] : List Int) ([] : List Int) 16384 l0 (l0.length : Int) 0)) = some (r1, r2) := H
       have A10 := Aside0.mk A100
       clear A100
       by_cases c11 : t224 < 268435456
       ·rw [if_pos c11] at H
        have c11b0 : decide (t224 < 268435456) = true := decide_eq_true c11
        clear c11
        simp only [Option.some.injEq, Prod.mk.injEq] at H
        obtain ⟨rfl, rfl⟩ := H
        go_wp2_with (first | (go_at_call 14; (with_reducible refine (smaltoref06_Sum.calls k2 _ _ l0 t224 _ ?side1 ?side2 A10.out).mono ?_); (case side1 => repeat (first | exact (Kd.C_below HR0.out HB.out) | (with_reducible refine Kd.C_alloc ?_ _) | (with_reducible refine Kd.C_drewN ?_ _) | (with_reducible refine Kd.C_drew ?_))); (case side2 => exact HC0.out); rintro e w' ⟨rfl, ⟨nd, rfl⟩⟩; (try first | exact ⟨rfl, _, World.drewN_drewN _ _ _⟩ | exact ⟨rfl, _, Eq.trans (World.drewN_drewN _ _ _) (congrArg (World.drewN _) (Nat.add_assoc _ _ _))⟩)))
        repeat (go_quiet (first | (go_at_call 14; (with_reducible refine (smaltoref06_Sum.calls k2 _ _ l0 t224 _ ?side1 ?side2 A10.out).mono ?_); (case side1 => repeat (first | exact (Kd.C_below HR0.out HB.out) | (with_reducible refine Kd.C_alloc ?_ _) | (with_reducible refine Kd.C_drewN ?_ _) | (with_reducible refine Kd.C_drew ?_))); (case side2 => exact HC0.out); rintro e w' ⟨rfl, ⟨nd, rfl⟩⟩; (try first | exact ⟨rfl, _, World.drewN_drewN _ _ _⟩ | exact ⟨rfl, _, Eq.trans (World.drewN_drewN _ _ _) (congrArg (World.drewN _) (Nat.add_assoc _ _ _))⟩))); try go_wp2_with (first | (go_at_call 14; (with_reducible refine (smaltoref06_Sum.calls k2 _ _ l0 t224 _ ?side1 ?side2 A10.out).mono ?_); (case side1 => repeat (first | exact (Kd.C_below HR0.out HB.out) | (with_reducible refine Kd.C_alloc ?_ _) | (with_reducible refine Kd.C_drewN ?_ _) | (with_reducible refine Kd.C_drew ?_))); (case side2 => exact HC0.out); rintro e w' ⟨rfl, ⟨nd, rfl⟩⟩; (try first | exact ⟨rfl, _, World.drewN_drewN _ _ _⟩ | exact ⟨rfl, _, Eq.trans (World.drewN_drewN _ _ _) (congrArg (World.drewN _) (Nat.add_assoc _ _ _))⟩))))
        go_ret2
        exact ⟨_, by first | rfl | (simp [errW_none, errW_some] <;> rfl) | (simp [*, errW_none, errW_some] <;> rfl), by first | exact Kd.R_nil _ _ _ _ _ | exact Kd.N_nil _ _ _ _ _ | exact Kd.V_nil _ _ _ _ _ | exact Kd.Q_nil _ _ _ _ _ | exact Kd.S_nil _ _ _ _ _, by repeat (first | (with_reducible first | exact HB.out | apply below_alloc | apply pw_below_drewN | apply below_drew1) | exact HB.out)⟩
       ·rw [if_neg c11] at H
        have c11b0 : decide (t224 < 268435456) = false := decide_eq_false c11
        clear c11
        have H' := Aside0.mk H
        clear H
        go_wp2_with (first | (go_at_call 14; (with_reducible refine (smaltoref06_Sum.calls k2 _ _ l0 t224 _ ?side1 ?side2 A10.out).mono ?_); (case side1 => repeat (first | exact (Kd.C_below HR0.out HB.out) | (with_reducible refine Kd.C_alloc ?_ _) | (with_reducible refine Kd.C_drewN ?_ _) | (with_reducible refine Kd.C_drew ?_))); (case side2 => exact HC0.out); rintro e w' ⟨rfl, ⟨nd, rfl⟩⟩; (try first | exact ⟨rfl, _, World.drewN_drewN _ _ _⟩ | exact ⟨rfl, _, Eq.trans (World.drewN_drewN _ _ _) (congrArg (World.drewN _) (Nat.add_assoc _ _ _))⟩)))
        repeat (go_quiet (first | (go_at_call 14; (with_reducible refine (smaltoref06_Sum.calls k2 _ _ l0 t224 _ ?side1 ?side2 A10.out).mono ?_); (case side1 => repeat (first | exact (Kd.C_below HR0.out HB.out) | (with_reducible refine Kd.C_alloc ?_ _) | (with_reducible refine Kd.C_drewN ?_ _) | (with_reducible refine Kd.C_drew ?_))); (case side2 => exact HC0.out); rintro e w' ⟨rfl, ⟨nd, rfl⟩⟩; (try first | exact ⟨rfl, _, World.drewN_drewN _ _ _⟩ | exact ⟨rfl, _, Eq.trans (World.drewN_drewN _ _ _) (congrArg (World.drewN _) (Nat.add_assoc _ _ _))⟩))); try go_wp2_with (first | (go_at_call 14; (with_reducible refine (smaltoref06_Sum.calls k2 _ _ l0 t224 _ ?side1 ?side2 A10.out).mono ?_); (case side1 => repeat (first | exact (Kd.C_below HR0.out HB.out) | (with_reducible refine Kd.C_alloc ?_ _) | (with_reducible refine Kd.C_drewN ?_ _) | (with_reducible refine Kd.C_drew ?_))); (case side2 => exact HC0.out); rintro e w' ⟨rfl, ⟨nd, rfl⟩⟩; (try first | exact ⟨rfl, _, World.drewN_drewN _ _ _⟩ | exact ⟨rfl, _, Eq.trans (World.drewN_drewN _ _ _) (congrArg (World.drewN _) (Nat.add_assoc _ _ _))⟩))))
        try simp only [Act.put, List.setIfInBounds_toArray, List.set_cons_succ, List.set_cons_zero]
        go_loopg [7, 8, 9, 39] k2 (fun kq v7 v8 v9 v39 w' => ∃ (x7_3 : List Int) (x8_3 : List Int) (x9_3 : Int) (x39_3 : Int), v9 = .int .i64 x9_3 ∧ v39 = .int .i64 x39_3 ∧ Aside0 (smaltoref06_Apportion.l1 kq t224 x7_3 x8_3 x9_3 l0 (l0.length : Int) x39_3 = some (r1, r2)) ∧ Aside0 (kq ≤ k2) ∧ Aside0 (Kd.R (Kd.int .i64) 2 w' w.heap.size (fun k_ => some k_ ≠ (v8 : Value).ownBlock) v7 x7_3) ∧ Aside0 (Kd.R (Kd.int .i64) 2 w' w.heap.size (fun k_ => some k_ ≠ (v7 : Value).ownBlock) v8 x8_3) ∧ Aside0 (Below w.heap.size w w'))
        case atStart => exact ⟨(([] : List Int)), (([] : List Int)), (16384), (0), (by first | rfl | (simp; done) | (simp [*]; done)), (by first | rfl | (simp; done) | (simp [*]; done)), H', ⟨Nat.le_refl _⟩, ⟨by first | exact Kd.R_nil _ _ _ _ _ | exact Kd.N_nil _ _ _ _ _ | exact Kd.V_nil _ _ _ _ _ | exact Kd.Q_nil _ _ _ _ _ | exact Kd.S_nil _ _ _ _ _⟩, ⟨by first | exact Kd.R_nil _ _ _ _ _ | exact Kd.N_nil _ _ _ _ _ | exact Kd.V_nil _ _ _ _ _ | exact Kd.Q_nil _ _ _ _ _ | exact Kd.S_nil _ _ _ _ _⟩, ⟨by repeat (first | (with_reducible first | exact HB.out | apply below_alloc | apply pw_below_drewN | apply below_drew1) | exact HB.out)⟩⟩
        case round =>
         clear H'
         try clear c1
         try clear p2
         try clear q2
         try clear hx2
         try clear c3
         try clear c3b0
         try clear c3b1
         try clear c4
         try clear c5
         try clear c5b0
         try clear c6
         try clear c6b0
         try clear p6
         try clear c7
         try clear c7b0
         try clear c9
         try clear c9b0
         try clear c11
         try clear c11b0
         try clear hx222_0
         try clear p2
         try clear p222
         try clear q222
         obtain ⟨x7_3, x8_3, x9_3, x39_3, rfl, rfl, HA, HK3, HO_7, HO_8, HB⟩ := hrel
         cases gk with
         | zero => exact absurd HA.out (by simp [smaltoref06_Apportion.l1])
         | succ k3 =>
          have H := HA.out
          clear HA
          simp only [smaltoref06_Apportion.l1] at H
          by_cases c12 : x39_3 < (l0.length : Int)
          ·rw [if_pos c12] at H
           have c12b0 : decide (x39_3 < (l0.length : Int)) = true := decide_eq_true c12
           clear c12
           by_cases c13 : 0 ≤ x39_3
           ·rw [if_pos c13] at H
            have c13b0 : decide (0 ≤ x39_3) = true := decide_eq_true c13
            clear c13
            by_cases c14 : x39_3 < (l0.length : Int)
            ·rw [if_pos c14] at H
             have c14b0 : decide (x39_3 < (l0.length : Int)) = true := decide_eq_true c14
             clear c14
             replace H := Option.bind_eq_some_iff.mp H
             obtain ⟨t226, A150, H⟩ := H
             replace H : (if x7_3.length < 17592186044416 then (if x8_3.length < 17592186044416 then (smaltoref06_Apportion.l1 k3 t224 (x7_3 ++ [t226]) (x8_3 ++ [wrap64 ((wrap64 ((rd l0 x39_3) * 16384)) - (wrap64 (t226 * t224)))]) (wrap64 (x9_3 - t226)) l0 (l0.length : Int) (wrap64 (x39_3 + 1))) else (none)) else (none)) = some (r1, r2) := H
             have A15 := Aside0.mk A150
             clear A150
             by_cases c16 : x7_3.length < 17592186044416
             ·rw [if_pos c16] at H
              have LMc16 := Aside0.mk c16
              clear c16
              obtain ⟨y227, hy227⟩ : ∃ y_ : List Int, y_ = (x7_3 ++ [t226]) := ⟨_, rfl⟩
              replace H : (if x8_3.length < 17592186044416 then (smaltoref06_Apportion.l1 k3 t224 y227 (x8_3 ++ [wrap64 ((wrap64 ((rd l0 x39_3) * 16384)) - (wrap64 (t226 * t224)))]) (wrap64 (x9_3 - t226)) l0 (l0.length : Int) (wrap64 (x39_3 + 1))) else (none)) = some (r1, r2) := by first | (rw [hy227]; with_reducible exact H) | (have H2_ := (Option.bind_some _ _).symm.trans H; rw [hy227]; with_reducible exact H2_) | (have H2_ := (Option.bind_some _ _).symm.trans H; with_reducible exact H2_) | with_reducible exact H | (rw [hy227]; exact H) | exact H
              have Ny227 := Aside0.mk hy227
              clear hy227
              by_cases c17 : x8_3.length < 17592186044416
              ·rw [if_pos c17] at H
               have LMc17 := Aside0.mk c17
               clear c17
               obtain ⟨y230, hy230⟩ : ∃ y_ : List Int, y_ = (x8_3 ++ [wrap64 ((wrap64 ((rd l0 x39_3) * 16384)) - (wrap64 (t226 * t224)))]) := ⟨_, rfl⟩
               replace H : (smaltoref06_Apportion.l1 k3 t224 y227 y230 (wrap64 (x9_3 - t226)) l0 (l0.length : Int) (wrap64 (x39_3 + 1))) = some (r1, r2) := by first | (rw [hy230]; with_reducible exact H) | (have H2_ := (Option.bind_some _ _).symm.trans H; rw [hy230]; with_reducible exact H2_) | (have H2_ := (Option.bind_some _ _).symm.trans H; with_reducible exact H2_) | with_reducible exact H | (rw [hy230]; exact H) | exact H
               have Ny230 := Aside0.mk hy230
               clear hy230
               have H' := Aside0.mk H
               clear H
               have p225 : 0 ≤ (x39_3 : Int) := of_decide_eq_true (by first | (with_reducible assumption) | assumption)
               have q225 : x39_3 < (l0.length : Int) := of_decide_eq_true (by first | (with_reducible assumption) | assumption)
               obtain ⟨ad225, e225, hx225_0⟩ := Kd.at_int HR0.out x39_3 p225 q225
               cases e225
               replace hx225_0 := (HB.out.cell (World.block_lt_of_cell? w _ hx225_0)).trans hx225_0
               replace p225 := eq_true p225
               replace q225 := eq_true q225
               go_wp2_with (first | (go_at_call 30; (with_reducible refine (smaltoref01_Floor.calls k3 (wrap64 ((rd l0 x39_3) * 16384)) t224 t226 _ A15.out).mono ?_); rintro e w18 ⟨rfl, hb⟩; have n0_ := Aside0.mk (Kd.R_below (by (with_reducible repeat (first | apply Kd.R_alloc | apply Kd.R_drewN | apply Kd.R_drew)); exact HO_7.out) hb); have n1_ := Aside0.mk (Kd.R_below (by (with_reducible repeat (first | apply Kd.R_alloc | apply Kd.R_drewN | apply Kd.R_drew)); exact HO_8.out) hb); have n2_ := Aside0.mk (below_step (by repeat (first | (with_reducible first | exact HB.out | apply below_alloc | apply pw_below_drewN | apply below_drew1) | exact HB.out)) hb); clear HO_7; clear HO_8; clear HB; have HO_7 := n0_; have HO_8 := n1_; have HB := n2_; clear n0_ n1_ n2_; (try clear hb); (try clear hb2); (try clear hk); (try clear hi)) | ((with_reducible refine gate_builtin (b := .append) (xs := #[.tmp 47, .tmp 49]) rfl ?_); (try (refine gate_guard (by rfl) ?_; dsimp only)); at_builtin; refine Kd.R_append (Kd.int .i64) (w0 := w) w.heap.size rfl (.tmp 47) (.tmp 49) 22 2 (.int .i64 0) 8 rfl Try.underlying22 info2 rfl (by decide) (by omega) u7 x7_3 t226 [.int .i64 t226] (fun k_ => some k_ ≠ (u8 : Value).ownBlock) (fun _ => False) rfl rfl ?aP (fun _ hk => hk.elim) ?aF ?aO ?aB ?aS ?aL ?_; (case aP => exact rfl); (case aB => exact (by repeat (first | (with_reducible first | exact HB.out | apply below_alloc | apply pw_below_drewN | apply below_drew1) | exact HB.out))); (case aF => exact (fun k_ hk => Kd.fresh' (Kd.R_lt (by (with_reducible repeat (first | apply Kd.R_alloc | apply Kd.R_drewN | apply Kd.R_drew)); exact HO_8.out)) k_ hk)); (case aO => exact (by (with_reducible repeat (first | apply Kd.R_alloc | apply Kd.R_drewN | apply Kd.R_drew)); exact HO_7.out)); (case aS => exact (below_size (by repeat (first | (with_reducible first | exact HB.out | apply below_alloc | apply pw_below_drewN | apply below_drew1) | exact HB.out)))); (case aL => have := LMc16.out; omega); intro v228 w19 ho hb hg hat; rw [← Ny227.out] at ho; have n0_ := Aside0.mk (Kd.R_after (ok := (fun _ => True)) (by (with_reducible repeat (first | apply Kd.R_alloc | apply Kd.R_drewN | apply Kd.R_drew)); exact Kd.R_mono HO_8.out (fun _ hk => ⟨trivial, hk⟩)) hg hat); have n1_ := Aside0.mk (hb); have n2_ := Aside0.mk (ho); clear HO_8; clear HB; clear HO_7; have HO_8 := n0_; have HB := n1_; have HO229 := n2_; clear n0_ n1_ n2_; clear ho hb hg hat) | ((with_reducible refine gate_builtin (b := .append) (xs := #[.tmp 51, .tmp 58]) rfl ?_); (try (refine gate_guard (by rfl) ?_; dsimp only)); at_builtin; refine Kd.R_append (Kd.int .i64) (w0 := w) w.heap.size rfl (.tmp 51) (.tmp 58) 22 2 (.int .i64 0) 8 rfl Try.underlying22 info2 rfl (by decide) (by omega) u8 x8_3 (wrap64 ((wrap64 ((rd l0 x39_3) * 16384)) - (wrap64 (t226 * t224)))) [.int .i64 (wrap64 ((wrap64 ((rd l0 x39_3) * 16384)) - (wrap64 (t226 * t224))))] (fun k_ => some k_ ≠ (v228 : Value).ownBlock) (fun _ => False) rfl rfl ?aP (fun _ hk => hk.elim) ?aF ?aO ?aB ?aS ?aL ?_; (case aP => exact rfl); (case aB => exact (by repeat (first | (with_reducible first | exact HB.out | apply below_alloc | apply pw_below_drewN | apply below_drew1) | exact HB.out))); (case aF => exact (fun k_ hk => Kd.fresh' (Kd.R_lt (by (with_reducible repeat (first | apply Kd.R_alloc | apply Kd.R_drewN | apply Kd.R_drew)); exact HO229.out)) k_ hk)); (case aO => exact (by (with_reducible repeat (first | apply Kd.R_alloc | apply Kd.R_drewN | apply Kd.R_drew)); exact Kd.R_mono HO_8.out (fun _ hk => hk.2))); (case aS => exact (below_size (by repeat (first | (with_reducible first | exact HB.out | apply below_alloc | apply pw_below_drewN | apply below_drew1) | exact HB.out)))); (case aL => have := LMc17.out; omega); intro v231 w20 ho hb hg hat; rw [← Ny230.out] at ho; have n0_ := Aside0.mk (Kd.R_after (ok := (fun _ => True)) (by (with_reducible repeat (first | apply Kd.R_alloc | apply Kd.R_drewN | apply Kd.R_drew)); exact Kd.R_mono HO229.out (fun _ hk => ⟨trivial, hk⟩)) hg hat); have n1_ := Aside0.mk (hb); have n2_ := Aside0.mk (ho); clear HO229; clear HB; clear HO_8; have HO229 := n0_; have HB := n1_; have HO232 := n2_; clear n0_ n1_ n2_; clear ho hb hg hat))
               repeat (go_quiet (first | (go_at_call 30; (with_reducible refine (smaltoref01_Floor.calls k3 (wrap64 ((rd l0 x39_3) * 16384)) t224 t226 _ A15.out).mono ?_); rintro e w18 ⟨rfl, hb⟩; have n0_ := Aside0.mk (Kd.R_below (by (with_reducible repeat (first | apply Kd.R_alloc | apply Kd.R_drewN | apply Kd.R_drew)); exact HO_7.out) hb); have n1_ := Aside0.mk (Kd.R_below (by (with_reducible repeat (first | apply Kd.R_alloc | apply Kd.R_drewN | apply Kd.R_drew)); exact HO_8.out) hb); have n2_ := Aside0.mk (below_step (by repeat (first | (with_reducible first | exact HB.out | apply below_alloc | apply pw_below_drewN | apply below_drew1) | exact HB.out)) hb); clear HO_7; clear HO_8; clear HB; have HO_7 := n0_; have HO_8 := n1_; have HB := n2_; clear n0_ n1_ n2_; (try clear hb); (try clear hb2); (try clear hk); (try clear hi)) | ((with_reducible refine gate_builtin (b := .append) (xs := #[.tmp 47, .tmp 49]) rfl ?_); (try (refine gate_guard (by rfl) ?_; dsimp only)); at_builtin; refine Kd.R_append (Kd.int .i64) (w0 := w) w.heap.size rfl (.tmp 47) (.tmp 49) 22 2 (.int .i64 0) 8 rfl Try.underlying22 info2 rfl (by decide) (by omega) u7 x7_3 t226 [.int .i64 t226] (fun k_ => some k_ ≠ (u8 : Value).ownBlock) (fun _ => False) rfl rfl ?aP (fun _ hk => hk.elim) ?aF ?aO ?aB ?aS ?aL ?_; (case aP => exact rfl); (case aB => exact (by repeat (first | (with_reducible first | exact HB.out | apply below_alloc | apply pw_below_drewN | apply below_drew1) | exact HB.out))); (case aF => exact (fun k_ hk => Kd.fresh' (Kd.R_lt (by (with_reducible repeat (first | apply Kd.R_alloc | apply Kd.R_drewN | apply Kd.R_drew)); exact HO_8.out)) k_ hk)); (case aO => exact (by (with_reducible repeat (first | apply Kd.R_alloc | apply Kd.R_drewN | apply Kd.R_drew)); exact HO_7.out)); (case aS => exact (below_size (by repeat (first | (with_reducible first | exact HB.out | apply below_alloc | apply pw_below_drewN | apply below_drew1) | exact HB.out)))); (case aL => have := LMc16.out; omega); intro v228 w19 ho hb hg hat; rw [← Ny227.out] at ho; have n0_ := Aside0.mk (Kd.R_after (ok := (fun _ => True)) (by (with_reducible repeat (first | apply Kd.R_alloc | apply Kd.R_drewN | apply Kd.R_drew)); exact Kd.R_mono HO_8.out (fun _ hk => ⟨trivial, hk⟩)) hg hat); have n1_ := Aside0.mk (hb); have n2_ := Aside0.mk (ho); clear HO_8; clear HB; clear HO_7; have HO_8 := n0_; have HB := n1_; have HO229 := n2_; clear n0_ n1_ n2_; clear ho hb hg hat) | ((with_reducible refine gate_builtin (b := .append) (xs := #[.tmp 51, .tmp 58]) rfl ?_); (try (refine gate_guard (by rfl) ?_; dsimp only)); at_builtin; refine Kd.R_append (Kd.int .i64) (w0 := w) w.heap.size rfl (.tmp 51) (.tmp 58) 22 2 (.int .i64 0) 8 rfl Try.underlying22 info2 rfl (by decide) (by omega) u8 x8_3 (wrap64 ((wrap64 ((rd l0 x39_3) * 16384)) - (wrap64 (t226 * t224)))) [.int .i64 (wrap64 ((wrap64 ((rd l0 x39_3) * 16384)) - (wrap64 (t226 * t224))))] (fun k_ => some k_ ≠ (v228 : Value).ownBlock) (fun _ => False) rfl rfl ?aP (fun _ hk => hk.elim) ?aF ?aO ?aB ?aS ?aL ?_; (case aP => exact rfl); (case aB => exact (by repeat (first | (with_reducible first | exact HB.out | apply below_alloc | apply pw_below_drewN | apply below_drew1) | exact HB.out))); (case aF => exact (fun k_ hk => Kd.fresh' (Kd.R_lt (by (with_reducible repeat (first | apply Kd.R_alloc | apply Kd.R_drewN | apply Kd.R_drew)); exact HO229.out)) k_ hk)); (case aO => exact (by (with_reducible repeat (first | apply Kd.R_alloc | apply Kd.R_drewN | apply Kd.R_drew)); exact Kd.R_mono HO_8.out (fun _ hk => hk.2))); (case aS => exact (below_size (by repeat (first | (with_reducible first | exact HB.out | apply below_alloc | apply pw_below_drewN | apply below_drew1) | exact HB.out)))); (case aL => have := LMc17.out; omega); intro v231 w20 ho hb hg hat; rw [← Ny230.out] at ho; have n0_ := Aside0.mk (Kd.R_after (ok := (fun _ => True)) (by (with_reducible repeat (first | apply Kd.R_alloc | apply Kd.R_drewN | apply Kd.R_drew)); exact Kd.R_mono HO229.out (fun _ hk => ⟨trivial, hk⟩)) hg hat); have n1_ := Aside0.mk (hb); have n2_ := Aside0.mk (ho); clear HO229; clear HB; clear HO_8; have HO229 := n0_; have HB := n1_; have HO232 := n2_; clear n0_ n1_ n2_; clear ho hb hg hat)); try go_wp2_with (first | (go_at_call 30; (with_reducible refine (smaltoref01_Floor.calls k3 (wrap64 ((rd l0 x39_3) * 16384)) t224 t226 _ A15.out).mono ?_); rintro e w18 ⟨rfl, hb⟩; have n0_ := Aside0.mk (Kd.R_below (by (with_reducible repeat (first | apply Kd.R_alloc | apply Kd.R_drewN | apply Kd.R_drew)); exact HO_7.out) hb); have n1_ := Aside0.mk (Kd.R_below (by (with_reducible repeat (first | apply Kd.R_alloc | apply Kd.R_drewN | apply Kd.R_drew)); exact HO_8.out) hb); have n2_ := Aside0.mk (below_step (by repeat (first | (with_reducible first | exact HB.out | apply below_alloc | apply pw_below_drewN | apply below_drew1) | exact HB.out)) hb); clear HO_7; clear HO_8; clear HB; have HO_7 := n0_; have HO_8 := n1_; have HB := n2_; clear n0_ n1_ n2_; (try clear hb); (try clear hb2); (try clear hk); (try clear hi)) | ((with_reducible refine gate_builtin (b := .append) (xs := #[.tmp 47, .tmp 49]) rfl ?_); (try (refine gate_guard (by rfl) ?_; dsimp only)); at_builtin; refine Kd.R_append (Kd.int .i64) (w0 := w) w.heap.size rfl (.tmp 47) (.tmp 49) 22 2 (.int .i64 0) 8 rfl Try.underlying22 info2 rfl (by decide) (by omega) u7 x7_3 t226 [.int .i64 t226] (fun k_ => some k_ ≠ (u8 : Value).ownBlock) (fun _ => False) rfl rfl ?aP (fun _ hk => hk.elim) ?aF ?aO ?aB ?aS ?aL ?_; (case aP => exact rfl); (case aB => exact (by repeat (first | (with_reducible first | exact HB.out | apply below_alloc | apply pw_below_drewN | apply below_drew1) | exact HB.out))); (case aF => exact (fun k_ hk => Kd.fresh' (Kd.R_lt (by (with_reducible repeat (first | apply Kd.R_alloc | apply Kd.R_drewN | apply Kd.R_drew)); exact HO_8.out)) k_ hk)); (case aO => exact (by (with_reducible repeat (first | apply Kd.R_alloc | apply Kd.R_drewN | apply Kd.R_drew)); exact HO_7.out)); (case aS => exact (below_size (by repeat (first | (with_reducible first | exact HB.out | apply below_alloc | apply pw_below_drewN | apply below_drew1) | exact HB.out)))); (case aL => have := LMc16.out; omega); intro v228 w19 ho hb hg hat; rw [← Ny227.out] at ho; have n0_ := Aside0.mk (Kd.R_after (ok := (fun _ => True)) (by (with_reducible repeat (first | apply Kd.R_alloc | apply Kd.R_drewN | apply Kd.R_drew)); exact Kd.R_mono HO_8.out (fun _ hk => ⟨trivial, hk⟩)) hg hat); have n1_ := Aside0.mk (hb); have n2_ := Aside0.mk (ho); clear HO_8; clear HB; clear HO_7; have HO_8 := n0_; have HB := n1_; have HO229 := n2_; clear n0_ n1_ n2_; clear ho hb hg hat) | ((with_reducible refine gate_builtin (b := .append) (xs := #[.tmp 51, .tmp 58]) rfl ?_); (try (refine gate_guard (by rfl) ?_; dsimp only)); at_builtin; refine Kd.R_append (Kd.int .i64) (w0 := w) w.heap.size rfl (.tmp 51) (.tmp 58) 22 2 (.int .i64 0) 8 rfl Try.underlying22 info2 rfl (by decide) (by omega) u8 x8_3 (wrap64 ((wrap64 ((rd l0 x39_3) * 16384)) - (wrap64 (t226 * t224)))) [.int .i64 (wrap64 ((wrap64 ((rd l0 x39_3) * 16384)) - (wrap64 (t226 * t224))))] (fun k_ => some k_ ≠ (v228 : Value).ownBlock) (fun _ => False) rfl rfl ?aP (fun _ hk => hk.elim) ?aF ?aO ?aB ?aS ?aL ?_; (case aP => exact rfl); (case aB => exact (by repeat (first | (with_reducible first | exact HB.out | apply below_alloc | apply pw_below_drewN | apply below_drew1) | exact HB.out))); (case aF => exact (fun k_ hk => Kd.fresh' (Kd.R_lt (by (with_reducible repeat (first | apply Kd.R_alloc | apply Kd.R_drewN | apply Kd.R_drew)); exact HO229.out)) k_ hk)); (case aO => exact (by (with_reducible repeat (first | apply Kd.R_alloc | apply Kd.R_drewN | apply Kd.R_drew)); exact Kd.R_mono HO_8.out (fun _ hk => hk.2))); (case aS => exact (below_size (by repeat (first | (with_reducible first | exact HB.out | apply below_alloc | apply pw_below_drewN | apply below_drew1) | exact HB.out)))); (case aL => have := LMc17.out; omega); intro v231 w20 ho hb hg hat; rw [← Ny230.out] at ho; have n0_ := Aside0.mk (Kd.R_after (ok := (fun _ => True)) (by (with_reducible repeat (first | apply Kd.R_alloc | apply Kd.R_drewN | apply Kd.R_drew)); exact Kd.R_mono HO229.out (fun _ hk => ⟨trivial, hk⟩)) hg hat); have n1_ := Aside0.mk (hb); have n2_ := Aside0.mk (ho); clear HO229; clear HB; clear HO_8; have HO229 := n0_; have HB := n1_; have HO232 := n2_; clear n0_ n1_ n2_; clear ho hb hg hat)))
               go_roundg k3
               case measure => have := HJ1.out; have := HK2.out; have := HK3.out; omega
               case rel => exact ⟨(y227), (y230), (wrap64 (x9_3 - t226)), (wrap64 (x39_3 + 1)), (by first | rfl | (simp; done) | (simp [*]; done)), (by first | rfl | (simp; done) | (simp [*]; done)), H', ⟨by have := HJ1.out; have := HK2.out; have := HK3.out; omega⟩, ⟨by (with_reducible repeat (first | apply Kd.R_alloc | apply Kd.R_drewN | apply Kd.R_drew)); exact Kd.R_mono HO229.out (fun _ hk => hk.2)⟩, ⟨by (with_reducible repeat (first | apply Kd.R_alloc | apply Kd.R_drewN | apply Kd.R_drew)); exact HO232.out⟩, ⟨by repeat (first | (with_reducible first | exact HB.out | apply below_alloc | apply pw_below_drewN | apply below_drew1) | exact HB.out)⟩⟩
              ·rw [if_neg c17] at H
               exact absurd H (by simp)
             ·rw [if_neg c16] at H
              exact absurd H (by simp)
            ·rw [if_neg c14] at H
             exact absurd H (by simp)
           ·rw [if_neg c13] at H
            exact absurd H (by simp)
          ·rw [if_neg c12] at H
           have c12b0 : decide (x39_3 < (l0.length : Int)) = false := decide_eq_false c12
           clear c12
           have H' := Aside0.mk H
           clear H
           go_wp2
           repeat (go_quiet (fail); try go_wp2)
           try simp only [Act.put, List.setIfInBounds_toArray, List.set_cons_succ, List.set_cons_zero]
           go_loopg [9] k3 (fun kq v9 w' => ∃ (x7_4 : List Int) (x8_4 : List Int) (x9_4 : Int), v9 = .int .i64 x9_4 ∧ Aside0 (smaltoref06_Apportion.l2 kq x7_4 x8_4 x9_4 = some (r1, r2)) ∧ Aside0 (kq ≤ k3) ∧ Aside0 (Kd.R (Kd.int .i64) 2 w' w.heap.size (fun k_ => some k_ ≠ (u8 : Value).ownBlock) u7 x7_4) ∧ Aside0 (Kd.R (Kd.int .i64) 2 w' w.heap.size (fun k_ => some k_ ≠ (u7 : Value).ownBlock) u8 x8_4) ∧ Aside0 (Below w.heap.size w w'))
           case atStart => exact ⟨(x7_3), (x8_3), (x9_3), (by first | rfl | (simp; done) | (simp [*]; done)), H', ⟨Nat.le_refl _⟩, ⟨by (with_reducible repeat (first | apply Kd.R_alloc | apply Kd.R_drewN | apply Kd.R_drew)); exact HO_7.out⟩, ⟨by (with_reducible repeat (first | apply Kd.R_alloc | apply Kd.R_drewN | apply Kd.R_drew)); exact HO_8.out⟩, ⟨by repeat (first | (with_reducible first | exact HB.out | apply below_alloc | apply pw_below_drewN | apply below_drew1) | exact HB.out)⟩⟩
           case round =>
            clear H'
            try clear c1
            try clear p2
            try clear q2
            try clear hx2
            try clear c3
            try clear c3b0
            try clear c3b1
            try clear c4
            try clear c5
            try clear c5b0
            try clear c6
            try clear c6b0
            try clear p6
            try clear c7
            try clear c7b0
            try clear c9
            try clear c9b0
            try clear c11
            try clear c11b0
            try clear c12
            try clear c12b0
            try clear c13
            try clear c13b0
            try clear c14
            try clear c14b0
            try clear c16
            try clear c17
            try clear hx222_0
            try clear hx225_0
            try clear p2
            try clear p222
            try clear p225
            try clear p6
            try clear q2
            try clear q222
            try clear q225
            obtain ⟨x7_4, x8_4, x9_4, rfl, HA, HK4, HO_7, HO_8, HB⟩ := hrel
            cases gk with
            | zero => exact absurd HA.out (by simp [smaltoref06_Apportion.l2])
            | succ k4 =>
             have H := HA.out
             clear HA
             simp only [smaltoref06_Apportion.l2] at H
             by_cases c21 : x9_4 > 0
             ·rw [if_pos c21] at H
              have c21b0 : decide (0 < x9_4) = true := decide_eq_true c21
              clear c21
              have H' := Aside0.mk H
              clear H
              obtain ⟨Ao22, co22, eo22⟩ := Kd.R_slice HO_8.out
              subst eo22
              go_wp2
              repeat (go_quiet (fail); try go_wp2)
              try simp only [Act.put, List.setIfInBounds_toArray, List.set_cons_succ, List.set_cons_zero]
              go_loopg [13, 68] k4 (fun kq v13 v68 w' => ∃ (x13_5 : Int) (x68_5 : Int), v13 = .int .i64 x13_5 ∧ v68 = .int .i64 x68_5 ∧ Aside0 (smaltoref06_Apportion.l3 kq x7_4 x8_4 x9_4 x13_5 (x8_4.length : Int) x68_5 = some (r1, r2)) ∧ Aside0 (kq ≤ k4) ∧ Aside0 (Kd.R (Kd.int .i64) 2 w' w.heap.size (fun k_ => some k_ ≠ ((.slice Ao22 x8_4.length co22) : Value).ownBlock) u7 x7_4) ∧ Aside0 (Kd.R (Kd.int .i64) 2 w' w.heap.size (fun k_ => some k_ ≠ (u7 : Value).ownBlock) (.slice Ao22 x8_4.length co22) x8_4) ∧ Aside0 (Below w.heap.size w w'))
              case atStart => exact ⟨(0), (0), (by first | rfl | (simp; done) | (simp [*]; done)), (by first | rfl | (simp; done) | (simp [*]; done)), H', ⟨Nat.le_refl _⟩, ⟨by (with_reducible repeat (first | apply Kd.R_alloc | apply Kd.R_drewN | apply Kd.R_drew)); exact HO_7.out⟩, ⟨by (with_reducible repeat (first | apply Kd.R_alloc | apply Kd.R_drewN | apply Kd.R_drew)); exact HO_8.out⟩, ⟨by repeat (first | (with_reducible first | exact HB.out | apply below_alloc | apply pw_below_drewN | apply below_drew1) | exact HB.out)⟩⟩
              case round =>
               clear H'
               try clear c1
               try clear c2
               try clear p2
               try clear q2
               try clear hx2
               try clear c3
               try clear c3b0
               try clear c3b1
               try clear c4
               try clear c5
               try clear c5b0
               try clear c6
               try clear c6b0
               try clear p6
               try clear c7
               try clear c7b0
               try clear c9
               try clear c9b0
               try clear c11
               try clear c11b0
               try clear c12
               try clear c12b0
               try clear c13
               try clear c13b0
               try clear c14
               try clear c14b0
               try clear c16
               try clear c17
               try clear c21
               try clear c21b0
               try clear p22
               try clear q22
               try clear hx22
               try clear hx222_0
               try clear hx225_0
               try clear p2
               try clear p222
               try clear p225
               try clear p6
               try clear q2
               try clear q222
               try clear q225
               obtain ⟨x13_5, x68_5, rfl, rfl, HA, HK5, HO_7, HO_8, HB⟩ := hrel
               cases gk with
               | zero => exact absurd HA.out (by simp [smaltoref06_Apportion.l3])
               | succ k5 =>
                have H := HA.out
                clear HA
                simp only [smaltoref06_Apportion.l3] at H
                by_cases c23 : x68_5 < (x8_4.length : Int)
                ·rw [if_pos c23] at H
                 have c23b0 : decide (x68_5 < (x8_4.length : Int)) = true := decide_eq_true c23
                 clear c23
                 by_cases c24 : 0 ≤ x68_5
                 ·rw [if_pos c24] at H
                  have c24b0 : decide (0 ≤ x68_5) = true := decide_eq_true c24
                  clear c24
                  by_cases c25 : x68_5 < (x8_4.length : Int)
                  ·rw [if_pos c25] at H
                   have c25b0 : decide (x68_5 < (x8_4.length : Int)) = true := decide_eq_true c25
                   clear c25
                   by_cases c26 : 0 ≤ x13_5
                   ·rw [if_pos c26] at H
                    have c26b0 : decide (0 ≤ x13_5) = true := decide_eq_true c26
                    clear c26
                    by_cases c27 : x13_5 < (x8_4.length : Int)
                    ·rw [if_pos c27] at H
                     have c27b0 : decide (x13_5 < (x8_4.length : Int)) = true := decide_eq_true c27
                     clear c27
                     by_cases c28 : (rd x8_4 x68_5) > (rd x8_4 x13_5)
                     ·rw [if_pos c28] at H
                      have c28b0 : decide ((rd x8_4 x13_5) < (rd x8_4 x68_5)) = true := decide_eq_true c28
                      clear c28
                      have H' := Aside0.mk H
                      clear H
                      have p233 : 0 ≤ (x68_5 : Int) := of_decide_eq_true (by first | (with_reducible assumption) | assumption)
                      have q233 : x68_5 < (x8_4.length : Int) := of_decide_eq_true (by first | (with_reducible assumption) | assumption)
                      obtain ⟨ad233, e233, hx233_0⟩ := Kd.at_int (Kd.R_reads' HO_8.out).2.2 x68_5 p233 q233
                      cases e233
                      replace p233 := eq_true p233
                      replace q233 := eq_true q233
                      have p234 : 0 ≤ (x13_5 : Int) := of_decide_eq_true (by first | (with_reducible assumption) | assumption)
                      have q234 : x13_5 < (x8_4.length : Int) := of_decide_eq_true (by first | (with_reducible assumption) | assumption)
                      obtain ⟨ad234, e234, hx234_0⟩ := Kd.at_int (Kd.R_reads' HO_8.out).2.2 x13_5 p234 q234
                      obtain rfl : ad233 = ad234 := (by injection e234)
                      replace p234 := eq_true p234
                      replace q234 := eq_true q234
                      go_wp2
                      repeat (go_quiet (fail); try go_wp2)
                      go_roundg k5
                      case measure => have := HJ1.out; have := HK2.out; have := HK3.out; have := HK4.out; have := HK5.out; omega
                      case rel => exact ⟨(x68_5), (wrap64 (x68_5 + 1)), (by first | rfl | (simp; done) | (simp [*]; done)), (by first | rfl | (simp; done) | (simp [*]; done)), H', ⟨by have := HJ1.out; have := HK2.out; have := HK3.out; have := HK4.out; have := HK5.out; omega⟩, ⟨by (with_reducible repeat (first | apply Kd.R_alloc | apply Kd.R_drewN | apply Kd.R_drew)); exact HO_7.out⟩, ⟨by (with_reducible repeat (first | apply Kd.R_alloc | apply Kd.R_drewN | apply Kd.R_drew)); exact HO_8.out⟩, ⟨by repeat (first | (with_reducible first | exact HB.out | apply below_alloc | apply pw_below_drewN | apply below_drew1) | exact HB.out)⟩⟩
                     ·rw [if_neg c28] at H
                      have c28b0 : decide ((rd x8_4 x13_5) < (rd x8_4 x68_5)) = false := decide_eq_false c28
                      clear c28
                      have H' := Aside0.mk H
                      clear H
                      have p233 : 0 ≤ (x68_5 : Int) := of_decide_eq_true (by first | (with_reducible assumption) | assumption)
                      have q233 : x68_5 < (x8_4.length : Int) := of_decide_eq_true (by first | (with_reducible assumption) | assumption)
                      obtain ⟨ad233, e233, hx233_0⟩ := Kd.at_int (Kd.R_reads' HO_8.out).2.2 x68_5 p233 q233
                      cases e233
                      replace p233 := eq_true p233
                      replace q233 := eq_true q233
                      have p234 : 0 ≤ (x13_5 : Int) := of_decide_eq_true (by first | (with_reducible assumption) | assumption)
                      have q234 : x13_5 < (x8_4.length : Int) := of_decide_eq_true (by first | (with_reducible assumption) | assumption)
                      obtain ⟨ad234, e234, hx234_0⟩ := Kd.at_int (Kd.R_reads' HO_8.out).2.2 x13_5 p234 q234
                      obtain rfl : ad233 = ad234 := (by injection e234)
                      replace p234 := eq_true p234
                      replace q234 := eq_true q234
                      go_wp2
                      repeat (go_quiet (fail); try go_wp2)
                      go_roundg k5
                      case measure => have := HJ1.out; have := HK2.out; have := HK3.out; have := HK4.out; have := HK5.out; omega
                      case rel => exact ⟨(x13_5), (wrap64 (x68_5 + 1)), (by first | rfl | (simp; done) | (simp [*]; done)), (by first | rfl | (simp; done) | (simp [*]; done)), H', ⟨by have := HJ1.out; have := HK2.out; have := HK3.out; have := HK4.out; have := HK5.out; omega⟩, ⟨by (with_reducible repeat (first | apply Kd.R_alloc | apply Kd.R_drewN | apply Kd.R_drew)); exact HO_7.out⟩, ⟨by (with_reducible repeat (first | apply Kd.R_alloc | apply Kd.R_drewN | apply Kd.R_drew)); exact HO_8.out⟩, ⟨by repeat (first | (with_reducible first | exact HB.out | apply below_alloc | apply pw_below_drewN | apply below_drew1) | exact HB.out)⟩⟩
                    ·rw [if_neg c27] at H
                     exact absurd H (by simp)
                   ·rw [if_neg c26] at H
                    exact absurd H (by simp)
                  ·rw [if_neg c25] at H
                   exact absurd H (by simp)
                 ·rw [if_neg c24] at H
                  exact absurd H (by simp)
                ·rw [if_neg c23] at H
                 have c23b0 : decide (x68_5 < (x8_4.length : Int)) = false := decide_eq_false c23
                 clear c23
                 by_cases c29 : 0 ≤ x13_5
                 ·rw [if_pos c29] at H
                  have c29b0 : decide (0 ≤ x13_5) = true := decide_eq_true c29
                  clear c29
                  by_cases c30 : x13_5 < (x7_4.length : Int)
                  ·rw [if_pos c30] at H
                   have c30b0 : decide (x13_5 < (x7_4.length : Int)) = true := decide_eq_true c30
                   clear c30
                   obtain ⟨y236, hy236⟩ : ∃ y_ : List Int, y_ = (x7_4.set (x13_5 : Int).toNat (wrap64 ((rd x7_4 x13_5) + 1))) := ⟨_, rfl⟩
                   replace H : (if x13_5 < (x8_4.length : Int) then (smaltoref06_Apportion.l2 k5 y236 (x8_4.set (x13_5 : Int).toNat (-1)) (wrap64 (x9_4 - 1))) else (none)) = some (r1, r2) := by first | (rw [hy236]; with_reducible exact H) | (have H2_ := (Option.bind_some _ _).symm.trans H; rw [hy236]; with_reducible exact H2_) | (have H2_ := (Option.bind_some _ _).symm.trans H; with_reducible exact H2_) | with_reducible exact H | (rw [hy236]; exact H) | exact H
                   have Ny236 := Aside0.mk hy236
                   clear hy236
                   by_cases c32 : x13_5 < (x8_4.length : Int)
                   ·rw [if_pos c32] at H
                    have c32b0 : decide (x13_5 < (x8_4.length : Int)) = true := decide_eq_true c32
                    clear c32
                    obtain ⟨y237, hy237⟩ : ∃ y_ : List Int, y_ = (x8_4.set (x13_5 : Int).toNat (-1)) := ⟨_, rfl⟩
                    replace H : (smaltoref06_Apportion.l2 k5 y236 y237 (wrap64 (x9_4 - 1))) = some (r1, r2) := by first | (rw [hy237]; with_reducible exact H) | (have H2_ := (Option.bind_some _ _).symm.trans H; rw [hy237]; with_reducible exact H2_) | (have H2_ := (Option.bind_some _ _).symm.trans H; with_reducible exact H2_) | with_reducible exact H | (rw [hy237]; exact H) | exact H
                    have Ny237 := Aside0.mk hy237
                    clear hy237
                    have H' := Aside0.mk H
                    clear H
                    obtain ⟨Ao34, co34, eo34⟩ := Kd.R_slice HO_7.out
                    subst eo34
                    have p235 : 0 ≤ (x13_5 : Int) := of_decide_eq_true (by first | (with_reducible assumption) | assumption)
                    have q235 : x13_5 < (x7_4.length : Int) := of_decide_eq_true (by first | (with_reducible assumption) | assumption)
                    obtain ⟨ad235, e235, hx235_0⟩ := Kd.at_int (Kd.R_reads' HO_7.out).2.2 x13_5 p235 q235
                    cases e235
                    replace p235 := eq_true p235
                    replace q235 := eq_true q235
                    have p31 : 0 ≤ (x13_5 : Int) := of_decide_eq_true (by first | (with_reducible assumption) | assumption)
                    have q31 : (x13_5 : Int) < ((x7_4.length : Int) : Int) := of_decide_eq_true (by first | (with_reducible assumption) | assumption)
                    obtain ⟨go31, co31, eo31, gb31, gl31, cl31, HG31⟩ := Kd.R_form HO_7.out (by omega)
                    (first | cases eo31 | (injection eo31 with ea_ en_ ec_; (first | subst ea_ | (injection ea_ with ea_; subst ea_)); subst ec_; clear en_))
                    have GB31 := Aside0.mk gb31
                    have GG31 := Aside0.mk HG31
                    clear gb31 gl31 HG31
                    (first | simp only [add_plain] at hx235_0 | skip)
                    obtain ⟨hx31_0, hf31_0⟩ := Kd.R_celln 0 HO_7.out (x13_5 : Int) p31 q31
                    replace p31 := eq_true p31
                    replace q31 := eq_true q31
                    have HP35 := Kd.R_putg HO_7.out (x13_5 : Int) (wrap64 ((rd x7_4 x13_5) + 1))
                    go_wp2_with (first | ((with_reducible refine gate_store (t := 2) (p := 87) rfl ?_); (try (rw [drewN_self wr]; generalize hq_ : World.drewN wr _ = wr; have n0_ := Aside0.mk (Kd.R_at hq_ HO_7.out); have n1_ := Aside0.mk (Kd.R_at hq_ HO_8.out); have n2_ := Aside0.mk (below_at hq_ HB.out); clear hq_ HO_7 HO_8 HB; have HO_7 := n0_; have HO_8 := n1_; have HB := n2_; clear n0_ n1_ n2_; (try (have HP35 := Kd.R_putg HO_7.out (x13_5 : Int) (wrap64 ((rd x7_4 x13_5) + 1)))))); refine store_event (t := 2) (p := 87) (v := ?vo_w36) (w1 := (wr.setCell ⟨go31, (x13_5 : Int).toNat, none⟩ (.int .i64 (wrap64 ((rd x7_4 x13_5) + 1))))) ?hg ?ho ?hn ?hr ?_; (case ho => rfl); (case hg => rfl); (case hn => rfl); (case hr => first | (go_simp; done) | (go_simp; rfl)); intro w36 hw; have hg : wr.grownBy w36 (some go31) := (by rw [hw]; exact HP35.2); have hp_ : Kd.R (Kd.int .i64) 2 w36 w.heap.size (fun k_ => some k_ ≠ (.slice Ao22 x8_4.length co22 : Value).ownBlock) (.slice (some ⟨go31, 0, none⟩) x7_4.length co34) y236 := (by rw [hw, Ny236.out]; exact HP35.1); clear HP35; have n0_ := Aside0.mk (hp_); have n1_ := Aside0.mk (Kd.R_after (v := (.slice (some ⟨go31, 0, none⟩) x7_4.length co34)) (v1 := (.slice (some ⟨go31, 0, none⟩) x7_4.length co34)) (ok := (fun _ => True)) (by (with_reducible repeat (first | apply Kd.R_alloc | apply Kd.R_drewN | apply Kd.R_drew)); exact Kd.R_mono HO_8.out (fun _ hk => ⟨trivial, hk⟩)) hg (.inl rfl)); have n2_ := Aside0.mk ((by rw [hw]; exact below_set (HB.out) GB31.out : Below w.heap.size w w36)); clear HO_7; clear HO_8; clear HB; have HO_7 := n0_; have HO_8 := n1_; have HB := n2_; clear n0_ n1_ n2_; clear hg hw hp_; have p33 : 0 ≤ (x13_5 : Int) := of_decide_eq_true (by first | (with_reducible assumption) | assumption); have q33 : (x13_5 : Int) < ((x8_4.length : Int) : Int) := of_decide_eq_true (by first | (with_reducible assumption) | assumption); obtain ⟨go33, co33, eo33, gb33, gl33, cl33, HG33⟩ := Kd.R_form HO_8.out (by omega); (first | cases eo33 | (injection eo33 with ea_ en_ ec_; (first | subst ea_ | (injection ea_ with ea_; subst ea_)); subst ec_; clear en_)); have GB33 := Aside0.mk gb33; have GG33 := Aside0.mk HG33; clear gb33 gl33 HG33; obtain ⟨hx33_0, hf33_0⟩ := Kd.R_celln 0 HO_8.out (x13_5 : Int) p33 q33; replace p33 := eq_true p33; replace q33 := eq_true q33; have n_ := Aside0.mk (Kd.R_mono (ok' := (fun k_ => some k_ ≠ (.slice (some ⟨go31, 0, none⟩) x7_4.length co34 : Value).ownBlock)) HO_8.out (fun k_ hk => hk.2)); clear HO_8; have HO_8 := n_; clear n_; obtain ⟨hy37_, hz37_⟩ := Kd.R_celln 0 HO_8.out (x13_5 : Int) (of_decide_eq_true (by first | (with_reducible assumption) | assumption)) (of_decide_eq_true (by first | (with_reducible assumption) | assumption)); have HP37 := Kd.R_putg HO_8.out (x13_5 : Int) (-1)) | ((with_reducible refine gate_store (t := 2) (p := 90) rfl ?_); (try (rw [drewN_self w36]; generalize hq_ : World.drewN w36 _ = w36; have n0_ := Aside0.mk (Kd.R_at hq_ HO_7.out); have n1_ := Aside0.mk (Kd.R_at hq_ HO_8.out); have n2_ := Aside0.mk (below_at hq_ HB.out); clear hq_ HO_7 HO_8 HB; have HO_7 := n0_; have HO_8 := n1_; have HB := n2_; clear n0_ n1_ n2_; (try (have n_ := Aside0.mk (Kd.R_mono (ok' := (fun k_ => some k_ ≠ (.slice (some ⟨go31, 0, none⟩) x7_4.length co34 : Value).ownBlock)) HO_8.out (fun k_ hk => hk.2)); clear HO_8; have HO_8 := n_; clear n_)); (try (obtain ⟨hy37_, hz37_⟩ := Kd.R_celln 0 HO_8.out (x13_5 : Int) (of_decide_eq_true (by first | (with_reducible assumption) | assumption)) (of_decide_eq_true (by first | (with_reducible assumption) | assumption)))); (try (have HP37 := Kd.R_putg HO_8.out (x13_5 : Int) (-1))))); refine store_event (t := 2) (p := 90) (v := ?vo_w38) (w1 := (w36.setCell ⟨go33, (x13_5 : Int).toNat, none⟩ (.int .i64 (-1)))) ?hg ?ho ?hn ?hr ?_; (case ho => rfl); (case hg => rfl); (case hn => rfl); (case hr => first | (go_simp; done) | (go_simp; rfl)); intro w38 hw; have hg : w36.grownBy w38 (some go33) := (by rw [hw]; exact HP37.2); have hp_ : Kd.R (Kd.int .i64) 2 w38 w.heap.size (fun k_ => some k_ ≠ (.slice (some ⟨go31, 0, none⟩) x7_4.length co34 : Value).ownBlock) (.slice (some ⟨go33, 0, none⟩) x8_4.length co22) y237 := (by rw [hw, Ny237.out]; exact HP37.1); clear HP37; have n0_ := Aside0.mk (Kd.R_after (v := (.slice (some ⟨go33, 0, none⟩) x8_4.length co22)) (v1 := (.slice (some ⟨go33, 0, none⟩) x8_4.length co22)) (ok := (fun _ => True)) (by (with_reducible repeat (first | apply Kd.R_alloc | apply Kd.R_drewN | apply Kd.R_drew)); exact Kd.R_mono HO_7.out (fun _ hk => ⟨trivial, hk⟩)) hg (.inl rfl)); have n1_ := Aside0.mk (hp_); have n2_ := Aside0.mk ((by rw [hw]; exact below_set (HB.out) GB33.out : Below w.heap.size w w38)); clear HO_7; clear HO_8; clear HB; have HO_7 := n0_; have HO_8 := n1_; have HB := n2_; clear n0_ n1_ n2_; clear hg hw hp_))
                    repeat (go_quiet (first | ((with_reducible refine gate_store (t := 2) (p := 87) rfl ?_); (try (rw [drewN_self wr]; generalize hq_ : World.drewN wr _ = wr; have n0_ := Aside0.mk (Kd.R_at hq_ HO_7.out); have n1_ := Aside0.mk (Kd.R_at hq_ HO_8.out); have n2_ := Aside0.mk (below_at hq_ HB.out); clear hq_ HO_7 HO_8 HB; have HO_7 := n0_; have HO_8 := n1_; have HB := n2_; clear n0_ n1_ n2_; (try (have HP35 := Kd.R_putg HO_7.out (x13_5 : Int) (wrap64 ((rd x7_4 x13_5) + 1)))))); refine store_event (t := 2) (p := 87) (v := ?vo_w36) (w1 := (wr.setCell ⟨go31, (x13_5 : Int).toNat, none⟩ (.int .i64 (wrap64 ((rd x7_4 x13_5) + 1))))) ?hg ?ho ?hn ?hr ?_; (case ho => rfl); (case hg => rfl); (case hn => rfl); (case hr => first | (go_simp; done) | (go_simp; rfl)); intro w36 hw; have hg : wr.grownBy w36 (some go31) := (by rw [hw]; exact HP35.2); have hp_ : Kd.R (Kd.int .i64) 2 w36 w.heap.size (fun k_ => some k_ ≠ (.slice Ao22 x8_4.length co22 : Value).ownBlock) (.slice (some ⟨go31, 0, none⟩) x7_4.length co34) y236 := (by rw [hw, Ny236.out]; exact HP35.1); clear HP35; have n0_ := Aside0.mk (hp_); have n1_ := Aside0.mk (Kd.R_after (v := (.slice (some ⟨go31, 0, none⟩) x7_4.length co34)) (v1 := (.slice (some ⟨go31, 0, none⟩) x7_4.length co34)) (ok := (fun _ => True)) (by (with_reducible repeat (first | apply Kd.R_alloc | apply Kd.R_drewN | apply Kd.R_drew)); exact Kd.R_mono HO_8.out (fun _ hk => ⟨trivial, hk⟩)) hg (.inl rfl)); have n2_ := Aside0.mk ((by rw [hw]; exact below_set (HB.out) GB31.out : Below w.heap.size w w36)); clear HO_7; clear HO_8; clear HB; have HO_7 := n0_; have HO_8 := n1_; have HB := n2_; clear n0_ n1_ n2_; clear hg hw hp_; have p33 : 0 ≤ (x13_5 : Int) := of_decide_eq_true (by first | (with_reducible assumption) | assumption); have q33 : (x13_5 : Int) < ((x8_4.length : Int) : Int) := of_decide_eq_true (by first | (with_reducible assumption) | assumption); obtain ⟨go33, co33, eo33, gb33, gl33, cl33, HG33⟩ := Kd.R_form HO_8.out (by omega); (first | cases eo33 | (injection eo33 with ea_ en_ ec_; (first | subst ea_ | (injection ea_ with ea_; subst ea_)); subst ec_; clear en_)); have GB33 := Aside0.mk gb33; have GG33 := Aside0.mk HG33; clear gb33 gl33 HG33; obtain ⟨hx33_0, hf33_0⟩ := Kd.R_celln 0 HO_8.out (x13_5 : Int) p33 q33; replace p33 := eq_true p33; replace q33 := eq_true q33; have n_ := Aside0.mk (Kd.R_mono (ok' := (fun k_ => some k_ ≠ (.slice (some ⟨go31, 0, none⟩) x7_4.length co34 : Value).ownBlock)) HO_8.out (fun k_ hk => hk.2)); clear HO_8; have HO_8 := n_; clear n_; obtain ⟨hy37_, hz37_⟩ := Kd.R_celln 0 HO_8.out (x13_5 : Int) (of_decide_eq_true (by first | (with_reducible assumption) | assumption)) (of_decide_eq_true (by first | (with_reducible assumption) | assumption)); have HP37 := Kd.R_putg HO_8.out (x13_5 : Int) (-1)) | ((with_reducible refine gate_store (t := 2) (p := 90) rfl ?_); (try (rw [drewN_self w36]; generalize hq_ : World.drewN w36 _ = w36; have n0_ := Aside0.mk (Kd.R_at hq_ HO_7.out); have n1_ := Aside0.mk (Kd.R_at hq_ HO_8.out); have n2_ := Aside0.mk (below_at hq_ HB.out); clear hq_ HO_7 HO_8 HB; have HO_7 := n0_; have HO_8 := n1_; have HB := n2_; clear n0_ n1_ n2_; (try (have n_ := Aside0.mk (Kd.R_mono (ok' := (fun k_ => some k_ ≠ (.slice (some ⟨go31, 0, none⟩) x7_4.length co34 : Value).ownBlock)) HO_8.out (fun k_ hk => hk.2)); clear HO_8; have HO_8 := n_; clear n_)); (try (obtain ⟨hy37_, hz37_⟩ := Kd.R_celln 0 HO_8.out (x13_5 : Int) (of_decide_eq_true (by first | (with_reducible assumption) | assumption)) (of_decide_eq_true (by first | (with_reducible assumption) | assumption)))); (try (have HP37 := Kd.R_putg HO_8.out (x13_5 : Int) (-1))))); refine store_event (t := 2) (p := 90) (v := ?vo_w38) (w1 := (w36.setCell ⟨go33, (x13_5 : Int).toNat, none⟩ (.int .i64 (-1)))) ?hg ?ho ?hn ?hr ?_; (case ho => rfl); (case hg => rfl); (case hn => rfl); (case hr => first | (go_simp; done) | (go_simp; rfl)); intro w38 hw; have hg : w36.grownBy w38 (some go33) := (by rw [hw]; exact HP37.2); have hp_ : Kd.R (Kd.int .i64) 2 w38 w.heap.size (fun k_ => some k_ ≠ (.slice (some ⟨go31, 0, none⟩) x7_4.length co34 : Value).ownBlock) (.slice (some ⟨go33, 0, none⟩) x8_4.length co22) y237 := (by rw [hw, Ny237.out]; exact HP37.1); clear HP37; have n0_ := Aside0.mk (Kd.R_after (v := (.slice (some ⟨go33, 0, none⟩) x8_4.length co22)) (v1 := (.slice (some ⟨go33, 0, none⟩) x8_4.length co22)) (ok := (fun _ => True)) (by (with_reducible repeat (first | apply Kd.R_alloc | apply Kd.R_drewN | apply Kd.R_drew)); exact Kd.R_mono HO_7.out (fun _ hk => ⟨trivial, hk⟩)) hg (.inl rfl)); have n1_ := Aside0.mk (hp_); have n2_ := Aside0.mk ((by rw [hw]; exact below_set (HB.out) GB33.out : Below w.heap.size w w38)); clear HO_7; clear HO_8; clear HB; have HO_7 := n0_; have HO_8 := n1_; have HB := n2_; clear n0_ n1_ n2_; clear hg hw hp_)); try go_wp2_with (first | ((with_reducible refine gate_store (t := 2) (p := 87) rfl ?_); (try (rw [drewN_self wr]; generalize hq_ : World.drewN wr _ = wr; have n0_ := Aside0.mk (Kd.R_at hq_ HO_7.out); have n1_ := Aside0.mk (Kd.R_at hq_ HO_8.out); have n2_ := Aside0.mk (below_at hq_ HB.out); clear hq_ HO_7 HO_8 HB; have HO_7 := n0_; have HO_8 := n1_; have HB := n2_; clear n0_ n1_ n2_; (try (have HP35 := Kd.R_putg HO_7.out (x13_5 : Int) (wrap64 ((rd x7_4 x13_5) + 1)))))); refine store_event (t := 2) (p := 87) (v := ?vo_w36) (w1 := (wr.setCell ⟨go31, (x13_5 : Int).toNat, none⟩ (.int .i64 (wrap64 ((rd x7_4 x13_5) + 1))))) ?hg ?ho ?hn ?hr ?_; (case ho => rfl); (case hg => rfl); (case hn => rfl); (case hr => first | (go_simp; done) | (go_simp; rfl)); intro w36 hw; have hg : wr.grownBy w36 (some go31) := (by rw [hw]; exact HP35.2); have hp_ : Kd.R (Kd.int .i64) 2 w36 w.heap.size (fun k_ => some k_ ≠ (.slice Ao22 x8_4.length co22 : Value).ownBlock) (.slice (some ⟨go31, 0, none⟩) x7_4.length co34) y236 := (by rw [hw, Ny236.out]; exact HP35.1); clear HP35; have n0_ := Aside0.mk (hp_); have n1_ := Aside0.mk (Kd.R_after (v := (.slice (some ⟨go31, 0, none⟩) x7_4.length co34)) (v1 := (.slice (some ⟨go31, 0, none⟩) x7_4.length co34)) (ok := (fun _ => True)) (by (with_reducible repeat (first | apply Kd.R_alloc | apply Kd.R_drewN | apply Kd.R_drew)); exact Kd.R_mono HO_8.out (fun _ hk => ⟨trivial, hk⟩)) hg (.inl rfl)); have n2_ := Aside0.mk ((by rw [hw]; exact below_set (HB.out) GB31.out : Below w.heap.size w w36)); clear HO_7; clear HO_8; clear HB; have HO_7 := n0_; have HO_8 := n1_; have HB := n2_; clear n0_ n1_ n2_; clear hg hw hp_; have p33 : 0 ≤ (x13_5 : Int) := of_decide_eq_true (by first | (with_reducible assumption) | assumption); have q33 : (x13_5 : Int) < ((x8_4.length : Int) : Int) := of_decide_eq_true (by first | (with_reducible assumption) | assumption); obtain ⟨go33, co33, eo33, gb33, gl33, cl33, HG33⟩ := Kd.R_form HO_8.out (by omega); (first | cases eo33 | (injection eo33 with ea_ en_ ec_; (first | subst ea_ | (injection ea_ with ea_; subst ea_)); subst ec_; clear en_)); have GB33 := Aside0.mk gb33; have GG33 := Aside0.mk HG33; clear gb33 gl33 HG33; obtain ⟨hx33_0, hf33_0⟩ := Kd.R_celln 0 HO_8.out (x13_5 : Int) p33 q33; replace p33 := eq_true p33; replace q33 := eq_true q33; have n_ := Aside0.mk (Kd.R_mono (ok' := (fun k_ => some k_ ≠ (.slice (some ⟨go31, 0, none⟩) x7_4.length co34 : Value).ownBlock)) HO_8.out (fun k_ hk => hk.2)); clear HO_8; have HO_8 := n_; clear n_; obtain ⟨hy37_, hz37_⟩ := Kd.R_celln 0 HO_8.out (x13_5 : Int) (of_decide_eq_true (by first | (with_reducible assumption) | assumption)) (of_decide_eq_true (by first | (with_reducible assumption) | assumption)); have HP37 := Kd.R_putg HO_8.out (x13_5 : Int) (-1)) | ((with_reducible refine gate_store (t := 2) (p := 90) rfl ?_); (try (rw [drewN_self w36]; generalize hq_ : World.drewN w36 _ = w36; have n0_ := Aside0.mk (Kd.R_at hq_ HO_7.out); have n1_ := Aside0.mk (Kd.R_at hq_ HO_8.out); have n2_ := Aside0.mk (below_at hq_ HB.out); clear hq_ HO_7 HO_8 HB; have HO_7 := n0_; have HO_8 := n1_; have HB := n2_; clear n0_ n1_ n2_; (try (have n_ := Aside0.mk (Kd.R_mono (ok' := (fun k_ => some k_ ≠ (.slice (some ⟨go31, 0, none⟩) x7_4.length co34 : Value).ownBlock)) HO_8.out (fun k_ hk => hk.2)); clear HO_8; have HO_8 := n_; clear n_)); (try (obtain ⟨hy37_, hz37_⟩ := Kd.R_celln 0 HO_8.out (x13_5 : Int) (of_decide_eq_true (by first | (with_reducible assumption) | assumption)) (of_decide_eq_true (by first | (with_reducible assumption) | assumption)))); (try (have HP37 := Kd.R_putg HO_8.out (x13_5 : Int) (-1))))); refine store_event (t := 2) (p := 90) (v := ?vo_w38) (w1 := (w36.setCell ⟨go33, (x13_5 : Int).toNat, none⟩ (.int .i64 (-1)))) ?hg ?ho ?hn ?hr ?_; (case ho => rfl); (case hg => rfl); (case hn => rfl); (case hr => first | (go_simp; done) | (go_simp; rfl)); intro w38 hw; have hg : w36.grownBy w38 (some go33) := (by rw [hw]; exact HP37.2); have hp_ : Kd.R (Kd.int .i64) 2 w38 w.heap.size (fun k_ => some k_ ≠ (.slice (some ⟨go31, 0, none⟩) x7_4.length co34 : Value).ownBlock) (.slice (some ⟨go33, 0, none⟩) x8_4.length co22) y237 := (by rw [hw, Ny237.out]; exact HP37.1); clear HP37; have n0_ := Aside0.mk (Kd.R_after (v := (.slice (some ⟨go33, 0, none⟩) x8_4.length co22)) (v1 := (.slice (some ⟨go33, 0, none⟩) x8_4.length co22)) (ok := (fun _ => True)) (by (with_reducible repeat (first | apply Kd.R_alloc | apply Kd.R_drewN | apply Kd.R_drew)); exact Kd.R_mono HO_7.out (fun _ hk => ⟨trivial, hk⟩)) hg (.inl rfl)); have n1_ := Aside0.mk (hp_); have n2_ := Aside0.mk ((by rw [hw]; exact below_set (HB.out) GB33.out : Below w.heap.size w w38)); clear HO_7; clear HO_8; clear HB; have HO_7 := n0_; have HO_8 := n1_; have HB := n2_; clear n0_ n1_ n2_; clear hg hw hp_)))
                    go_roundg k5
                    case measure => have := HJ1.out; have := HK2.out; have := HK3.out; have := HK4.out; have := HK5.out; omega
                    case rel => exact ⟨(y236), (y237), (wrap64 (x9_4 - 1)), (by first | rfl | (simp; done) | (simp [*]; done)), H', ⟨by have := HJ1.out; have := HK2.out; have := HK3.out; have := HK4.out; have := HK5.out; omega⟩, ⟨by (with_reducible repeat (first | apply Kd.R_alloc | apply Kd.R_drewN | apply Kd.R_drew)); exact Kd.R_mono HO_7.out (fun _ hk => hk.2)⟩, ⟨by (with_reducible repeat (first | apply Kd.R_alloc | apply Kd.R_drewN | apply Kd.R_drew)); exact HO_8.out⟩, ⟨by repeat (first | (with_reducible first | exact HB.out | apply below_alloc | apply pw_below_drewN | apply below_drew1) | exact HB.out)⟩⟩
                   ·rw [if_neg c32] at H
                    exact absurd H (by simp)
                  ·rw [if_neg c30] at H
                   exact absurd H (by simp)
                 ·rw [if_neg c29] at H
                  exact absurd H (by simp)
             ·rw [if_neg c21] at H
              have c21b0 : decide (0 < x9_4) = false := decide_eq_false c21
              clear c21
              simp only [Option.some.injEq, Prod.mk.injEq] at H
              obtain ⟨rfl, rfl⟩ := H
              go_wp2
              repeat (go_quiet (fail); try go_wp2)
              go_ret2
              exact ⟨_, by first | rfl | (simp [errW_none, errW_some] <;> rfl) | (simp [*, errW_none, errW_some] <;> rfl), by (with_reducible repeat (first | apply Kd.R_alloc | apply Kd.R_drewN | apply Kd.R_drew)); exact Kd.R_mono HO_7.out (fun _ hk => trivial), by repeat (first | (with_reducible first | exact HB.out | apply below_alloc | apply pw_below_drewN | apply below_drew1) | exact HB.out)⟩

end Go.Proofs.Ytabojpnelbmifaa.QA
