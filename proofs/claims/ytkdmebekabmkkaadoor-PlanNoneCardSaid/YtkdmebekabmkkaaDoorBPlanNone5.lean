/- Joined by wip/tools/bundle.py out of: QAx3 QAx4 QAx5. -/
import Derived.Test.YtkdmebekabmkkaaDoorBPlanNone4
namespace Go.Proofs.YtkdmebekabmkkaaDoor.QA
open Go.Proofs.YtkdmebekabmkkaaDoor.T
open Go.RowKit Go.Proofs.YtkdmebekabmkkaaDoorW.PrintWords Go.Proofs.YtkdmebekabmkkaaDoorW.PrintLast Go.Proofs.YtkdmebekabmkkaaDoorW.PrintMore
attribute [local go_sem] ext_call max2_int min2_int max_two min_two max_three min_three max_four min_four   -- for this text's walks alone
set_option linter.unusedVariables false
set_option linter.unusedSimpArgs false
def fixed_hold.j0 : Nat → Int → Bool → Bool → Option (Int)
 | 0, _, _, _ => none
 | k + 1, x0, x1, x5 => if x5 = true then (some (-9223372036854775808)) else (if x1 = true then (some (wrap64 (-(wrap64 (x0))))) else (if x0 > 9223372036854775807 then (some 9223372036854775807) else (some (wrap64 (x0)))))
def fixed_hold.f (k : Nat) (a0 : Int) (a1 : Bool) : Option (Int) := if a1 = true then (fixed_hold.j0 k a0 a1 (decide (a0 ≥ 9223372036854775808))) else (fixed_hold.j0 k a0 a1 false)
theorem fixed_hold.mono_l : ∀ k, (∀ y0 y1 y2, LeO (fixed_hold.j0 k y0 y1 y2) (fixed_hold.j0 (k + 1) y0 y1 y2))
 | 0 => fun _ _ _ r h => by simp [fixed_hold.j0] at h
 | k + 1 => by
  have ih0 := fixed_hold.mono_l k
  ·intro y0 y1 y2
   unfold fixed_hold.j0
   repeat' first
   | (with_reducible exact ih0 _ _ _)
   | (with_reducible exact LeO.refl _)
   | (with_reducible exact LeO.none _)
   | (with_reducible refine LeO.ite ?_ ?_)
   | (with_reducible refine LeO.bind ?_ (fun _ => ?_))
   | exact ih0 _ _ _
   | exact LeO.none _
   | refine LeO.ite ?_ ?_
   | refine LeO.bind ?_ (fun _ => ?_)
theorem fixed_hold.mono : ∀ a0 a1 k, LeO (fixed_hold.f k a0 a1) (fixed_hold.f (k + 1) a0 a1) := by
 intro a0 a1 k
 have ih0 := fixed_hold.mono_l k
 unfold fixed_hold.f
 repeat' first
   | (with_reducible exact ih0 _ _ _)
   | (with_reducible exact LeO.refl _)
   | (with_reducible exact LeO.none _)
   | (with_reducible refine LeO.ite ?_ ?_)
   | (with_reducible refine LeO.bind ?_ (fun _ => ?_))
   | exact ih0 _ _ _
   | exact LeO.none _
   | refine LeO.ite ?_ ?_
   | refine LeO.bind ?_ (fun _ => ?_)
set_option maxHeartbeats 8000000 in
set_option maxRecDepth 100000 in
theorem fixed_hold.calls (k : Nat) (a0 : Int) (a1 : Bool) (r : Int) (w : World) (h : fixed_hold.f k a0 a1 = some r) :
  Calls Tryd.prog 71 #[.int .u64 a0, .bool a1] w fun e w' => e = .returned (.int .i64 r) ∧ Drawn0 w w' := by
 have H : (if a1 = true then (fixed_hold.j0 k a0 a1 (decide (a0 ≥ 9223372036854775808))) else (fixed_hold.j0 k a0 a1 false)) = some r := h
 clear h
 have HC3 := Aside0.mk H
 clear H
 go_enter Tryd.func71, Tryd.ntmps71
 go_upto_region 1 with (fail)
 go_cut [5] (fun v5 wc => ∃ (kq : Nat) (x5_2 : Bool), v5 = .bool x5_2 ∧ Aside0 (fixed_hold.j0 kq a0 a1 x5_2 = some r) ∧ Aside0 (kq ≤ k) ∧ Drawn0 w wc)
 case first =>
  have H := HC3.out
  clear HC3
  by_cases c4 : a1 = true
  ·subst c4
   have H1 : (fixed_hold.j0 k a0 true (decide (a0 ≥ 9223372036854775808))) = some r := by rw [if_pos rfl] at H; exact H
   clear H
   have H := H1
   clear H1
   have H' := Aside0.mk H
   clear H
   go_wp2
   go_meet
   case rel => exact ⟨_, (decide (a0 ≥ 9223372036854775808)), (by first | rfl | (simp; done) | (simp [*]; done)), H', ⟨by first | omega | exact Nat.le_refl _⟩, by repeat (first | exact Drawn0.refl _ | apply Drawn0.step)⟩
  ·replace c4 := Bool.eq_false_iff.mpr c4
   subst c4
   have H1 : (fixed_hold.j0 k a0 false false) = some r := by rw [if_neg (show ¬ (false = true) by decide)] at H; exact H
   clear H
   have H := H1
   clear H1
   have H' := Aside0.mk H
   clear H
   go_wp2
   go_meet
   case rel => exact ⟨_, (false), (by first | rfl | (simp; done) | (simp [*]; done)), H', ⟨by first | omega | exact Nat.le_refl _⟩, by repeat (first | exact Drawn0.refl _ | apply Drawn0.step)⟩
 case rest =>
  clear HC3
  try clear p2
  try clear c4
  obtain ⟨kq, x5_2, rfl, HA, HJ2, ⟨mc2, rfl⟩⟩ := hcut
  cases kq with
  | zero => exact absurd HA.out (by simp [fixed_hold.j0])
  | succ kj2 =>
   have H := HA.out
   clear HA
   simp only [fixed_hold.j0] at H
   by_cases c5 : x5_2 = true
   ·subst c5
    have H1 : (some (-9223372036854775808)) = some r := by rw [if_pos rfl] at H; exact H
    clear H
    have H := H1
    clear H1
    obtain rfl := Option.some.inj H
    go_wp2
    go_ret
    exact ⟨by first | rfl | (simp; done) | (simp [*]; done), by repeat (first | exact Drawn0.refl _ | apply Drawn0.step)⟩
   ·replace c5 := Bool.eq_false_iff.mpr c5
    subst c5
    have H1 : (if a1 = true then (some (wrap64 (-(wrap64 (a0))))) else (if a0 > 9223372036854775807 then (some 9223372036854775807) else (some (wrap64 (a0))))) = some r := by rw [if_neg (show ¬ (false = true) by decide)] at H; exact H
    clear H
    have H := H1
    clear H1
    by_cases c6 : a1 = true
    ·subst c6
     have H1 : (some (wrap64 (-(wrap64 (a0))))) = some r := by rw [if_pos rfl] at H; exact H
     clear H
     have H := H1
     clear H1
     obtain rfl := Option.some.inj H
     go_wp2
     go_ret
     exact ⟨by first | rfl | (simp; done) | (simp [*]; done), by repeat (first | exact Drawn0.refl _ | apply Drawn0.step)⟩
    ·replace c6 := Bool.eq_false_iff.mpr c6
     subst c6
     have H1 : (if a0 > 9223372036854775807 then (some 9223372036854775807) else (some (wrap64 (a0)))) = some r := by rw [if_neg (show ¬ (false = true) by decide)] at H; exact H
     clear H
     have H := H1
     clear H1
     by_cases c7 : a0 > 9223372036854775807
     ·rw [if_pos c7] at H
      have c7b0 : decide (9223372036854775807 < a0) = true := decide_eq_true c7
      clear c7
      obtain rfl := Option.some.inj H
      go_wp2
      go_ret
      exact ⟨by first | rfl | (simp; done) | (simp [*]; done), by repeat (first | exact Drawn0.refl _ | apply Drawn0.step)⟩
     ·rw [if_neg c7] at H
      have c7b0 : decide (9223372036854775807 < a0) = false := decide_eq_false c7
      clear c7
      obtain rfl := Option.some.inj H
      go_wp2
      go_ret
      exact ⟨by first | rfl | (simp; done) | (simp [*]; done), by repeat (first | exact Drawn0.refl _ | apply Drawn0.step)⟩
def fixed_Floor.f (k : Nat) (a0 : Int) (a1 : Int) : Option (Int) := if a1 = 0 then (some 0) else ((fixed_size.f a0).bind fun t106 => ((fixed_size.f a1).bind fun t107 => (if t107 = 0 then (none) else (if ((decide (a0 < 0)) != (decide (a1 < 0))) = true then (if (Int.tmod t106 t107) = 0 then ((fixed_hold.f k (IntKind.u64.wrap (Int.tdiv t106 t107)) true).bind fun t108 => (some t108)) else ((fixed_hold.f k (IntKind.u64.wrap ((IntKind.u64.wrap (Int.tdiv t106 t107)) + 1)) true).bind fun t109 => (some t109))) else ((fixed_hold.f k (IntKind.u64.wrap (Int.tdiv t106 t107)) false).bind fun t110 => (some t110))))))
theorem fixed_Floor.mono : ∀ a0 a1 k, LeO (fixed_Floor.f k a0 a1) (fixed_Floor.f (k + 1) a0 a1) := by
 intro a0 a1 k
 unfold fixed_Floor.f
 repeat' first
   | (with_reducible exact fixed_hold.mono _ _ _)
   | (with_reducible exact LeO.refl _)
   | (with_reducible exact LeO.none _)
   | (with_reducible refine LeO.ite ?_ ?_)
   | (with_reducible refine LeO.bind ?_ (fun _ => ?_))
   | exact fixed_hold.mono _ _ _
   | exact LeO.none _
   | refine LeO.ite ?_ ?_
   | refine LeO.bind ?_ (fun _ => ?_)
set_option maxHeartbeats 8000000 in
set_option maxRecDepth 100000 in
theorem fixed_Floor.calls (k : Nat) (a0 : Int) (a1 : Int) (r : Int) (w : World) (h : fixed_Floor.f k a0 a1 = some r) :
  Calls Tryd.prog 50 #[.int .i64 a0, .int .i64 a1] w fun e w' => e = .returned (.int .i64 r) ∧ Drawn0 w w' := by
 have H : (if a1 = 0 then (some 0) else ((fixed_size.f a0).bind fun t106 => ((fixed_size.f a1).bind fun t107 => (if t107 = 0 then (none) else (if ((decide (a0 < 0)) != (decide (a1 < 0))) = true then (if (Int.tmod t106 t107) = 0 then ((fixed_hold.f k (IntKind.u64.wrap (Int.tdiv t106 t107)) true).bind fun t108 => (some t108)) else ((fixed_hold.f k (IntKind.u64.wrap ((IntKind.u64.wrap (Int.tdiv t106 t107)) + 1)) true).bind fun t109 => (some t109))) else ((fixed_hold.f k (IntKind.u64.wrap (Int.tdiv t106 t107)) false).bind fun t110 => (some t110))))))) = some r := h
 clear h
 by_cases c3 : a1 = 0
 ·rw [if_pos c3] at H
  have c3b0 : (a1 == 0) = true := beq_iff_eq.mpr c3
  have c3b1 : (a1 != 0) = false := bne_eq_false_iff_eq.mpr c3
  clear c3
  obtain rfl := Option.some.inj H
  go_enter Tryd.func50, Tryd.ntmps50
  go_wp2
  repeat (go_quiet (fail); try go_wp2)
  go_ret
  exact ⟨by first | rfl | (simp; done) | (simp [*]; done), by repeat (first | exact Drawn0.refl _ | apply Drawn0.step)⟩
 ·rw [if_neg c3] at H
  have c3b0 : (a1 == 0) = false := beq_eq_false_iff_ne.mpr c3
  have c3b1 : (a1 != 0) = true := bne_iff_ne.mpr c3
  replace H := Option.bind_eq_some_iff.mp H
  obtain ⟨t106, A40, H⟩ := H
  replace H : ((fixed_size.f a1).bind fun t107 => (if t107 = 0 then (none) else (if ((decide (a0 < 0)) != (decide (a1 < 0))) = true then (if (Int.tmod t106 t107) = 0 then ((fixed_hold.f k (IntKind.u64.wrap (Int.tdiv t106 t107)) true).bind fun t108 => (some t108)) else ((fixed_hold.f k (IntKind.u64.wrap ((IntKind.u64.wrap (Int.tdiv t106 t107)) + 1)) true).bind fun t109 => (some t109))) else ((fixed_hold.f k (IntKind.u64.wrap (Int.tdiv t106 t107)) false).bind fun t110 => (some t110))))) = some r := H
  have A4 := Aside0.mk A40
  clear A40
  replace H := Option.bind_eq_some_iff.mp H
  obtain ⟨t107, A50, H⟩ := H
  replace H : (if t107 = 0 then (none) else (if ((decide (a0 < 0)) != (decide (a1 < 0))) = true then (if (Int.tmod t106 t107) = 0 then ((fixed_hold.f k (IntKind.u64.wrap (Int.tdiv t106 t107)) true).bind fun t108 => (some t108)) else ((fixed_hold.f k (IntKind.u64.wrap ((IntKind.u64.wrap (Int.tdiv t106 t107)) + 1)) true).bind fun t109 => (some t109))) else ((fixed_hold.f k (IntKind.u64.wrap (Int.tdiv t106 t107)) false).bind fun t110 => (some t110)))) = some r := H
  have A5 := Aside0.mk A50
  clear A50
  by_cases c6 : t107 = 0
  ·rw [if_pos c6] at H
   exact absurd H (by simp)
  ·rw [if_neg c6] at H
   have c6b0 : (t107 == 0) = false := beq_eq_false_iff_ne.mpr c6
   have c6b1 : (t107 != 0) = true := bne_iff_ne.mpr c6
   by_cases c7 : ((decide (a0 < 0)) != (decide (a1 < 0))) = true
   ·rw [if_pos c7] at H
    have c7b0 : ((decide (a0 < 0)) != (decide (a1 < 0))) = true := c7
    (try (have c7b1 : decide ((decide (a0 < 0)) = (decide (a1 < 0))) = false := by simpa using c7))
    (try (have c7b2 : ((decide (a0 < 0)) == (decide (a1 < 0))) = false := by simpa using c7))
    (try (have c7b3 : ¬ ((decide (a0 < 0)) = (decide (a1 < 0))) := by simpa using c7))
    clear c7
    by_cases c8 : (Int.tmod t106 t107) = 0
    ·rw [if_pos c8] at H
     have c8b0 : ((Int.tmod t106 t107) == 0) = true := beq_iff_eq.mpr c8
     have c8b1 : ((Int.tmod t106 t107) != 0) = false := bne_eq_false_iff_eq.mpr c8
     clear c8
     replace H := Option.bind_eq_some_iff.mp H
     obtain ⟨t108, A90, H⟩ := H
     replace H : (some t108) = some r := H
     have A9 := Aside0.mk A90
     clear A90
     obtain rfl := Option.some.inj H
     go_enter Tryd.func50, Tryd.ntmps50
     go_wp2_with (first | (go_at_call 70; (with_reducible refine (fixed_size.calls a0 t106 _ A4.out).mono ?_); rintro e w' ⟨rfl, ⟨nd, rfl⟩⟩; (try first | exact ⟨rfl, _, World.drewN_drewN _ _ _⟩ | exact ⟨rfl, _, Eq.trans (World.drewN_drewN _ _ _) (congrArg (World.drewN _) (Nat.add_assoc _ _ _))⟩)) | (go_at_call 70; (with_reducible refine (fixed_size.calls a1 t107 _ A5.out).mono ?_); rintro e w' ⟨rfl, ⟨nd, rfl⟩⟩; (try first | exact ⟨rfl, _, World.drewN_drewN _ _ _⟩ | exact ⟨rfl, _, Eq.trans (World.drewN_drewN _ _ _) (congrArg (World.drewN _) (Nat.add_assoc _ _ _))⟩)) | (go_at_call 71; (with_reducible refine (fixed_hold.calls k (IntKind.u64.wrap (Int.tdiv t106 t107)) true t108 _ A9.out).mono ?_); rintro e w' ⟨rfl, ⟨nd, rfl⟩⟩; (try first | exact ⟨rfl, _, World.drewN_drewN _ _ _⟩ | exact ⟨rfl, _, Eq.trans (World.drewN_drewN _ _ _) (congrArg (World.drewN _) (Nat.add_assoc _ _ _))⟩)))
     repeat (go_quiet (first | (go_at_call 70; (with_reducible refine (fixed_size.calls a0 t106 _ A4.out).mono ?_); rintro e w' ⟨rfl, ⟨nd, rfl⟩⟩; (try first | exact ⟨rfl, _, World.drewN_drewN _ _ _⟩ | exact ⟨rfl, _, Eq.trans (World.drewN_drewN _ _ _) (congrArg (World.drewN _) (Nat.add_assoc _ _ _))⟩)) | (go_at_call 70; (with_reducible refine (fixed_size.calls a1 t107 _ A5.out).mono ?_); rintro e w' ⟨rfl, ⟨nd, rfl⟩⟩; (try first | exact ⟨rfl, _, World.drewN_drewN _ _ _⟩ | exact ⟨rfl, _, Eq.trans (World.drewN_drewN _ _ _) (congrArg (World.drewN _) (Nat.add_assoc _ _ _))⟩)) | (go_at_call 71; (with_reducible refine (fixed_hold.calls k (IntKind.u64.wrap (Int.tdiv t106 t107)) true t108 _ A9.out).mono ?_); rintro e w' ⟨rfl, ⟨nd, rfl⟩⟩; (try first | exact ⟨rfl, _, World.drewN_drewN _ _ _⟩ | exact ⟨rfl, _, Eq.trans (World.drewN_drewN _ _ _) (congrArg (World.drewN _) (Nat.add_assoc _ _ _))⟩))); try go_wp2_with (first | (go_at_call 70; (with_reducible refine (fixed_size.calls a0 t106 _ A4.out).mono ?_); rintro e w' ⟨rfl, ⟨nd, rfl⟩⟩; (try first | exact ⟨rfl, _, World.drewN_drewN _ _ _⟩ | exact ⟨rfl, _, Eq.trans (World.drewN_drewN _ _ _) (congrArg (World.drewN _) (Nat.add_assoc _ _ _))⟩)) | (go_at_call 70; (with_reducible refine (fixed_size.calls a1 t107 _ A5.out).mono ?_); rintro e w' ⟨rfl, ⟨nd, rfl⟩⟩; (try first | exact ⟨rfl, _, World.drewN_drewN _ _ _⟩ | exact ⟨rfl, _, Eq.trans (World.drewN_drewN _ _ _) (congrArg (World.drewN _) (Nat.add_assoc _ _ _))⟩)) | (go_at_call 71; (with_reducible refine (fixed_hold.calls k (IntKind.u64.wrap (Int.tdiv t106 t107)) true t108 _ A9.out).mono ?_); rintro e w' ⟨rfl, ⟨nd, rfl⟩⟩; (try first | exact ⟨rfl, _, World.drewN_drewN _ _ _⟩ | exact ⟨rfl, _, Eq.trans (World.drewN_drewN _ _ _) (congrArg (World.drewN _) (Nat.add_assoc _ _ _))⟩))))
     go_ret
     exact ⟨by first | rfl | (simp; done) | (simp [*]; done), by repeat (first | exact Drawn0.refl _ | apply Drawn0.step)⟩
    ·rw [if_neg c8] at H
     have c8b0 : ((Int.tmod t106 t107) == 0) = false := beq_eq_false_iff_ne.mpr c8
     have c8b1 : ((Int.tmod t106 t107) != 0) = true := bne_iff_ne.mpr c8
     replace H := Option.bind_eq_some_iff.mp H
     obtain ⟨t109, A100, H⟩ := H
     replace H : (some t109) = some r := H
     have A10 := Aside0.mk A100
     clear A100
     obtain rfl := Option.some.inj H
     go_enter Tryd.func50, Tryd.ntmps50
     go_wp2_with (first | (go_at_call 70; (with_reducible refine (fixed_size.calls a0 t106 _ A4.out).mono ?_); rintro e w' ⟨rfl, ⟨nd, rfl⟩⟩; (try first | exact ⟨rfl, _, World.drewN_drewN _ _ _⟩ | exact ⟨rfl, _, Eq.trans (World.drewN_drewN _ _ _) (congrArg (World.drewN _) (Nat.add_assoc _ _ _))⟩)) | (go_at_call 70; (with_reducible refine (fixed_size.calls a1 t107 _ A5.out).mono ?_); rintro e w' ⟨rfl, ⟨nd, rfl⟩⟩; (try first | exact ⟨rfl, _, World.drewN_drewN _ _ _⟩ | exact ⟨rfl, _, Eq.trans (World.drewN_drewN _ _ _) (congrArg (World.drewN _) (Nat.add_assoc _ _ _))⟩)) | (go_at_call 71; (with_reducible refine (fixed_hold.calls k (IntKind.u64.wrap ((IntKind.u64.wrap (Int.tdiv t106 t107)) + 1)) true t109 _ A10.out).mono ?_); rintro e w' ⟨rfl, ⟨nd, rfl⟩⟩; (try first | exact ⟨rfl, _, World.drewN_drewN _ _ _⟩ | exact ⟨rfl, _, Eq.trans (World.drewN_drewN _ _ _) (congrArg (World.drewN _) (Nat.add_assoc _ _ _))⟩)))
     repeat (go_quiet (first | (go_at_call 70; (with_reducible refine (fixed_size.calls a0 t106 _ A4.out).mono ?_); rintro e w' ⟨rfl, ⟨nd, rfl⟩⟩; (try first | exact ⟨rfl, _, World.drewN_drewN _ _ _⟩ | exact ⟨rfl, _, Eq.trans (World.drewN_drewN _ _ _) (congrArg (World.drewN _) (Nat.add_assoc _ _ _))⟩)) | (go_at_call 70; (with_reducible refine (fixed_size.calls a1 t107 _ A5.out).mono ?_); rintro e w' ⟨rfl, ⟨nd, rfl⟩⟩; (try first | exact ⟨rfl, _, World.drewN_drewN _ _ _⟩ | exact ⟨rfl, _, Eq.trans (World.drewN_drewN _ _ _) (congrArg (World.drewN _) (Nat.add_assoc _ _ _))⟩)) | (go_at_call 71; (with_reducible refine (fixed_hold.calls k (IntKind.u64.wrap ((IntKind.u64.wrap (Int.tdiv t106 t107)) + 1)) true t109 _ A10.out).mono ?_); rintro e w' ⟨rfl, ⟨nd, rfl⟩⟩; (try first | exact ⟨rfl, _, World.drewN_drewN _ _ _⟩ | exact ⟨rfl, _, Eq.trans (World.drewN_drewN _ _ _) (congrArg (World.drewN _) (Nat.add_assoc _ _ _))⟩))); try go_wp2_with (first | (go_at_call 70; (with_reducible refine (fixed_size.calls a0 t106 _ A4.out).mono ?_); rintro e w' ⟨rfl, ⟨nd, rfl⟩⟩; (try first | exact ⟨rfl, _, World.drewN_drewN _ _ _⟩ | exact ⟨rfl, _, Eq.trans (World.drewN_drewN _ _ _) (congrArg (World.drewN _) (Nat.add_assoc _ _ _))⟩)) | (go_at_call 70; (with_reducible refine (fixed_size.calls a1 t107 _ A5.out).mono ?_); rintro e w' ⟨rfl, ⟨nd, rfl⟩⟩; (try first | exact ⟨rfl, _, World.drewN_drewN _ _ _⟩ | exact ⟨rfl, _, Eq.trans (World.drewN_drewN _ _ _) (congrArg (World.drewN _) (Nat.add_assoc _ _ _))⟩)) | (go_at_call 71; (with_reducible refine (fixed_hold.calls k (IntKind.u64.wrap ((IntKind.u64.wrap (Int.tdiv t106 t107)) + 1)) true t109 _ A10.out).mono ?_); rintro e w' ⟨rfl, ⟨nd, rfl⟩⟩; (try first | exact ⟨rfl, _, World.drewN_drewN _ _ _⟩ | exact ⟨rfl, _, Eq.trans (World.drewN_drewN _ _ _) (congrArg (World.drewN _) (Nat.add_assoc _ _ _))⟩))))
     go_ret
     exact ⟨by first | rfl | (simp; done) | (simp [*]; done), by repeat (first | exact Drawn0.refl _ | apply Drawn0.step)⟩
   ·rw [if_neg c7] at H
    have c7b0 : ((decide (a0 < 0)) != (decide (a1 < 0))) = false := by simpa using c7
    (try (have c7b1 : decide ((decide (a0 < 0)) = (decide (a1 < 0))) = true := by simpa using c7))
    (try (have c7b2 : ((decide (a0 < 0)) == (decide (a1 < 0))) = true := by simpa using c7))
    clear c7
    replace H := Option.bind_eq_some_iff.mp H
    obtain ⟨t110, A110, H⟩ := H
    replace H : (some t110) = some r := H
    have A11 := Aside0.mk A110
    clear A110
    obtain rfl := Option.some.inj H
    go_enter Tryd.func50, Tryd.ntmps50
    go_wp2_with (first | (go_at_call 70; (with_reducible refine (fixed_size.calls a0 t106 _ A4.out).mono ?_); rintro e w' ⟨rfl, ⟨nd, rfl⟩⟩; (try first | exact ⟨rfl, _, World.drewN_drewN _ _ _⟩ | exact ⟨rfl, _, Eq.trans (World.drewN_drewN _ _ _) (congrArg (World.drewN _) (Nat.add_assoc _ _ _))⟩)) | (go_at_call 70; (with_reducible refine (fixed_size.calls a1 t107 _ A5.out).mono ?_); rintro e w' ⟨rfl, ⟨nd, rfl⟩⟩; (try first | exact ⟨rfl, _, World.drewN_drewN _ _ _⟩ | exact ⟨rfl, _, Eq.trans (World.drewN_drewN _ _ _) (congrArg (World.drewN _) (Nat.add_assoc _ _ _))⟩)) | (go_at_call 71; (with_reducible refine (fixed_hold.calls k (IntKind.u64.wrap (Int.tdiv t106 t107)) false t110 _ A11.out).mono ?_); rintro e w' ⟨rfl, ⟨nd, rfl⟩⟩; (try first | exact ⟨rfl, _, World.drewN_drewN _ _ _⟩ | exact ⟨rfl, _, Eq.trans (World.drewN_drewN _ _ _) (congrArg (World.drewN _) (Nat.add_assoc _ _ _))⟩)))
    repeat (go_quiet (first | (go_at_call 70; (with_reducible refine (fixed_size.calls a0 t106 _ A4.out).mono ?_); rintro e w' ⟨rfl, ⟨nd, rfl⟩⟩; (try first | exact ⟨rfl, _, World.drewN_drewN _ _ _⟩ | exact ⟨rfl, _, Eq.trans (World.drewN_drewN _ _ _) (congrArg (World.drewN _) (Nat.add_assoc _ _ _))⟩)) | (go_at_call 70; (with_reducible refine (fixed_size.calls a1 t107 _ A5.out).mono ?_); rintro e w' ⟨rfl, ⟨nd, rfl⟩⟩; (try first | exact ⟨rfl, _, World.drewN_drewN _ _ _⟩ | exact ⟨rfl, _, Eq.trans (World.drewN_drewN _ _ _) (congrArg (World.drewN _) (Nat.add_assoc _ _ _))⟩)) | (go_at_call 71; (with_reducible refine (fixed_hold.calls k (IntKind.u64.wrap (Int.tdiv t106 t107)) false t110 _ A11.out).mono ?_); rintro e w' ⟨rfl, ⟨nd, rfl⟩⟩; (try first | exact ⟨rfl, _, World.drewN_drewN _ _ _⟩ | exact ⟨rfl, _, Eq.trans (World.drewN_drewN _ _ _) (congrArg (World.drewN _) (Nat.add_assoc _ _ _))⟩))); try go_wp2_with (first | (go_at_call 70; (with_reducible refine (fixed_size.calls a0 t106 _ A4.out).mono ?_); rintro e w' ⟨rfl, ⟨nd, rfl⟩⟩; (try first | exact ⟨rfl, _, World.drewN_drewN _ _ _⟩ | exact ⟨rfl, _, Eq.trans (World.drewN_drewN _ _ _) (congrArg (World.drewN _) (Nat.add_assoc _ _ _))⟩)) | (go_at_call 70; (with_reducible refine (fixed_size.calls a1 t107 _ A5.out).mono ?_); rintro e w' ⟨rfl, ⟨nd, rfl⟩⟩; (try first | exact ⟨rfl, _, World.drewN_drewN _ _ _⟩ | exact ⟨rfl, _, Eq.trans (World.drewN_drewN _ _ _) (congrArg (World.drewN _) (Nat.add_assoc _ _ _))⟩)) | (go_at_call 71; (with_reducible refine (fixed_hold.calls k (IntKind.u64.wrap (Int.tdiv t106 t107)) false t110 _ A11.out).mono ?_); rintro e w' ⟨rfl, ⟨nd, rfl⟩⟩; (try first | exact ⟨rfl, _, World.drewN_drewN _ _ _⟩ | exact ⟨rfl, _, Eq.trans (World.drewN_drewN _ _ _) (congrArg (World.drewN _) (Nat.add_assoc _ _ _))⟩))))
    go_ret
    exact ⟨by first | rfl | (simp; done) | (simp [*]; done), by repeat (first | exact Drawn0.refl _ | apply Drawn0.step)⟩
def raw_may.f (a0 : Int) (a1 : Int) (a2 : Int) (a3 : Int) : Option (Bool) := if a0 ≥ 0 then (if a0 < 3 then (if a1 ≥ 1 then (if a1 ≤ 65536 then (if a2 ≥ 1 then (if a2 ≤ 65536 then (if a3 ≥ 0 then (some (decide (a3 < a2))) else (some false)) else (some false)) else (some false)) else (some false)) else (some false)) else (some false)) else (some false)
set_option maxHeartbeats 8000000 in
set_option maxRecDepth 100000 in
theorem raw_may.calls (a0 : Int) (a1 : Int) (a2 : Int) (a3 : Int) (r : Bool) (w : World) (h : raw_may.f a0 a1 a2 a3 = some r) :
  Calls Tryd.prog 58 #[.int .i64 a0, .int .i64 a1, .int .i64 a2, .int .i64 a3] w fun e w' => e = .returned (.bool r) ∧ Drawn0 w w' := by
 have H : (if a0 ≥ 0 then (if a0 < 3 then (if a1 ≥ 1 then (if a1 ≤ 65536 then (if a2 ≥ 1 then (if a2 ≤ 65536 then (if a3 ≥ 0 then (some (decide (a3 < a2))) else (some false)) else (some false)) else (some false)) else (some false)) else (some false)) else (some false)) else (some false)) = some r := h
 clear h
 by_cases c5 : a0 ≥ 0
 ·rw [if_pos c5] at H
  have c5b0 : decide (0 ≤ a0) = true := decide_eq_true c5
  clear c5
  by_cases c6 : a0 < 3
  ·rw [if_pos c6] at H
   have c6b0 : decide (a0 < 3) = true := decide_eq_true c6
   clear c6
   by_cases c7 : a1 ≥ 1
   ·rw [if_pos c7] at H
    have c7b0 : decide (1 ≤ a1) = true := decide_eq_true c7
    clear c7
    by_cases c8 : a1 ≤ 65536
    ·rw [if_pos c8] at H
     have c8b0 : decide (a1 ≤ 65536) = true := decide_eq_true c8
     clear c8
     by_cases c9 : a2 ≥ 1
     ·rw [if_pos c9] at H
      have c9b0 : decide (1 ≤ a2) = true := decide_eq_true c9
      clear c9
      by_cases c10 : a2 ≤ 65536
      ·rw [if_pos c10] at H
       have c10b0 : decide (a2 ≤ 65536) = true := decide_eq_true c10
       clear c10
       by_cases c11 : a3 ≥ 0
       ·rw [if_pos c11] at H
        have c11b0 : decide (0 ≤ a3) = true := decide_eq_true c11
        clear c11
        obtain rfl := Option.some.inj H
        go_enter Tryd.func58, Tryd.ntmps58
        go_wp2
        go_ret
        exact ⟨by first | rfl | (simp; done) | (simp [*]; done), by repeat (first | exact Drawn0.refl _ | apply Drawn0.step)⟩
       ·rw [if_neg c11] at H
        have c11b0 : decide (0 ≤ a3) = false := decide_eq_false c11
        clear c11
        obtain rfl := Option.some.inj H
        go_enter Tryd.func58, Tryd.ntmps58
        go_wp2
        go_ret
        exact ⟨by first | rfl | (simp; done) | (simp [*]; done), by repeat (first | exact Drawn0.refl _ | apply Drawn0.step)⟩
      ·rw [if_neg c10] at H
       have c10b0 : decide (a2 ≤ 65536) = false := decide_eq_false c10
       clear c10
       obtain rfl := Option.some.inj H
       go_enter Tryd.func58, Tryd.ntmps58
       go_wp2
       go_ret
       exact ⟨by first | rfl | (simp; done) | (simp [*]; done), by repeat (first | exact Drawn0.refl _ | apply Drawn0.step)⟩
     ·rw [if_neg c9] at H
      have c9b0 : decide (1 ≤ a2) = false := decide_eq_false c9
      clear c9
      obtain rfl := Option.some.inj H
      go_enter Tryd.func58, Tryd.ntmps58
      go_wp2
      go_ret
      exact ⟨by first | rfl | (simp; done) | (simp [*]; done), by repeat (first | exact Drawn0.refl _ | apply Drawn0.step)⟩
    ·rw [if_neg c8] at H
     have c8b0 : decide (a1 ≤ 65536) = false := decide_eq_false c8
     clear c8
     obtain rfl := Option.some.inj H
     go_enter Tryd.func58, Tryd.ntmps58
     go_wp2
     go_ret
     exact ⟨by first | rfl | (simp; done) | (simp [*]; done), by repeat (first | exact Drawn0.refl _ | apply Drawn0.step)⟩
   ·rw [if_neg c7] at H
    have c7b0 : decide (1 ≤ a1) = false := decide_eq_false c7
    clear c7
    obtain rfl := Option.some.inj H
    go_enter Tryd.func58, Tryd.ntmps58
    go_wp2
    go_ret
    exact ⟨by first | rfl | (simp; done) | (simp [*]; done), by repeat (first | exact Drawn0.refl _ | apply Drawn0.step)⟩
  ·rw [if_neg c6] at H
   have c6b0 : decide (a0 < 3) = false := decide_eq_false c6
   clear c6
   obtain rfl := Option.some.inj H
   go_enter Tryd.func58, Tryd.ntmps58
   go_wp2
   go_ret
   exact ⟨by first | rfl | (simp; done) | (simp [*]; done), by repeat (first | exact Drawn0.refl _ | apply Drawn0.step)⟩
 ·rw [if_neg c5] at H
  have c5b0 : decide (0 ≤ a0) = false := decide_eq_false c5
  clear c5
  obtain rfl := Option.some.inj H
  go_enter Tryd.func58, Tryd.ntmps58
  go_wp2
  go_ret
  exact ⟨by first | rfl | (simp; done) | (simp [*]; done), by repeat (first | exact Drawn0.refl _ | apply Drawn0.step)⟩
def raw_ceil.f (k : Nat) (a0 : Int) (a1 : Int) : Option (Int) := (fixed_Floor.f k (wrap64 (-a0)) a1).bind fun t111 => (some (wrap64 (-t111)))
theorem raw_ceil.mono : ∀ a0 a1 k, LeO (raw_ceil.f k a0 a1) (raw_ceil.f (k + 1) a0 a1) := by
 intro a0 a1 k
 unfold raw_ceil.f
 repeat' first
   | (with_reducible exact fixed_Floor.mono _ _ _)
   | (with_reducible exact LeO.refl _)
   | (with_reducible exact LeO.none _)
   | (with_reducible refine LeO.ite ?_ ?_)
   | (with_reducible refine LeO.bind ?_ (fun _ => ?_))
   | exact fixed_Floor.mono _ _ _
   | exact LeO.none _
   | refine LeO.ite ?_ ?_
   | refine LeO.bind ?_ (fun _ => ?_)
set_option maxHeartbeats 8000000 in
set_option maxRecDepth 100000 in
theorem raw_ceil.calls (k : Nat) (a0 : Int) (a1 : Int) (r : Int) (w : World) (h : raw_ceil.f k a0 a1 = some r) :
  Calls Tryd.prog 59 #[.int .i64 a0, .int .i64 a1] w fun e w' => e = .returned (.int .i64 r) ∧ Drawn0 w w' := by
 have H : ((fixed_Floor.f k (wrap64 (-a0)) a1).bind fun t111 => (some (wrap64 (-t111)))) = some r := h
 clear h
 replace H := Option.bind_eq_some_iff.mp H
 obtain ⟨t111, A30, H⟩ := H
 replace H : (some (wrap64 (-t111))) = some r := H
 have A3 := Aside0.mk A30
 clear A30
 obtain rfl := Option.some.inj H
 go_enter Tryd.func59, Tryd.ntmps59
 go_wp2_with (first | ((with_reducible refine gate_callee (f := 50) rfl ?_); refine goesL_ (some 8) rfl rfl Tryd.func50 (by kernel_rfl) rfl #[.int .i64 (wrap64 (-a0)), .int .i64 a1] rfl (by (try simp only [List.map_toArray, List.map_cons, List.map_nil]); first | done | rfl | (simp only [List.length_drop, List.length_take]; rfl)) ?_; (with_reducible refine (fixed_Floor.calls k (wrap64 (-a0)) a1 t111 _ A3.out).mono ?_); rintro e w' ⟨rfl, ⟨nd, rfl⟩⟩; refine ⟨_, rfl, ?_⟩))
 go_ret
 exact ⟨by first | rfl | (simp; done) | (simp [*]; done), by repeat (first | exact Drawn0.refl _ | apply Drawn0.step)⟩
end Go.Proofs.YtkdmebekabmkkaaDoor.QA

namespace Go.Proofs.YtkdmebekabmkkaaDoor.QA
open Go.Proofs.YtkdmebekabmkkaaDoor.T
open Go.RowKit Go.Proofs.YtkdmebekabmkkaaDoorW.PrintWords Go.Proofs.YtkdmebekabmkkaaDoorW.PrintLast Go.Proofs.YtkdmebekabmkkaaDoorW.PrintMore
attribute [local go_sem] ext_call max2_int min2_int max_two min_two max_three min_three max_four min_four   -- for this text's walks alone
set_option linter.unusedVariables false
set_option linter.unusedSimpArgs false
def raw_Window_at1.f (k : Nat) (a1 : Int) (a2 : Int) (a3 : Int) : Option (Int × Int) := (raw_may.f 1 a1 a2 a3).bind fun t112 => (if t112 = true then ((fixed_Floor.f k (wrap64 (a3 * a1)) a2).bind fun t113 => ((raw_ceil.f k (wrap64 ((wrap64 (a3 + 1)) * a1)) a2).bind fun t114 => ((fixed_Floor.f k (wrap64 ((wrap64 ((wrap64 ((wrap64 ((wrap64 (2 * a3)) + 1)) * a1)) - a2)) - (wrap64 (4 * (mx a1 a2))))) (wrap64 (2 * a2))).bind fun t115 => ((raw_ceil.f k (wrap64 ((wrap64 ((wrap64 ((wrap64 ((wrap64 (2 * a3)) + 1)) * a1)) - a2)) + (wrap64 (4 * (mx a1 a2))))) (wrap64 (2 * a2))).bind fun t116 => (some (wrap64 (t115 + 1), wrap64 (t116 - (wrap64 (t115 + 1))))))))) else (some (0, 0)))
theorem raw_Window_at1.mono : ∀ a1 a2 a3 k, LeO (raw_Window_at1.f k a1 a2 a3) (raw_Window_at1.f (k + 1) a1 a2 a3) := by
 intro a1 a2 a3 k
 unfold raw_Window_at1.f
 repeat' first
   | (with_reducible exact fixed_Floor.mono _ _ _)
   | (with_reducible exact raw_ceil.mono _ _ _)
   | (with_reducible exact LeO.refl _)
   | (with_reducible exact LeO.none _)
   | (with_reducible refine LeO.ite ?_ ?_)
   | (with_reducible refine LeO.bind ?_ (fun _ => ?_))
   | exact fixed_Floor.mono _ _ _
   | exact raw_ceil.mono _ _ _
   | exact LeO.none _
   | refine LeO.ite ?_ ?_
   | refine LeO.bind ?_ (fun _ => ?_)
set_option maxHeartbeats 8000000 in
set_option maxRecDepth 100000 in
theorem raw_Window_at1.calls (k : Nat) (a1 : Int) (a2 : Int) (a3 : Int) (r1 : Int) (r2 : Int) (w : World) (hG : GL w) (h : raw_Window_at1.f k a1 a2 a3 = some (r1, r2)) :
  Calls Tryd.prog 45 #[.int .i64 1, .int .i64 a1, .int .i64 a2, .int .i64 a3] w fun e w' => e = .returned (.tuple #[.int .i64 r1, .int .i64 r2]) ∧ Below w.heap.size w w' := by
 have HB := Aside0.mk (Below.refl w.heap.size w)
 have H : ((raw_may.f 1 a1 a2 a3).bind fun t112 => (if t112 = true then ((fixed_Floor.f k (wrap64 (a3 * a1)) a2).bind fun t113 => ((raw_ceil.f k (wrap64 ((wrap64 (a3 + 1)) * a1)) a2).bind fun t114 => ((fixed_Floor.f k (wrap64 ((wrap64 ((wrap64 ((wrap64 ((wrap64 (2 * a3)) + 1)) * a1)) - a2)) - (wrap64 (4 * (mx a1 a2))))) (wrap64 (2 * a2))).bind fun t115 => ((raw_ceil.f k (wrap64 ((wrap64 ((wrap64 ((wrap64 ((wrap64 (2 * a3)) + 1)) * a1)) - a2)) + (wrap64 (4 * (mx a1 a2))))) (wrap64 (2 * a2))).bind fun t116 => (some (wrap64 (t115 + 1), wrap64 (t116 - (wrap64 (t115 + 1))))))))) else (some (0, 0)))) = some (r1, r2) := h
 clear h
 obtain ⟨⟨h0_0, h0_1, h0_2, h0_3, h0_4, h0_5⟩, ⟨ga1_, gc1_, gl1_, gs1_, h1_0, h1_1, h1_2⟩⟩ := hG
 replace H := Option.bind_eq_some_iff.mp H
 obtain ⟨t112, A50, H⟩ := H
 replace H : (if t112 = true then ((fixed_Floor.f k (wrap64 (a3 * a1)) a2).bind fun t113 => ((raw_ceil.f k (wrap64 ((wrap64 (a3 + 1)) * a1)) a2).bind fun t114 => ((fixed_Floor.f k (wrap64 ((wrap64 ((wrap64 ((wrap64 ((wrap64 (2 * a3)) + 1)) * a1)) - a2)) - (wrap64 (4 * (mx a1 a2))))) (wrap64 (2 * a2))).bind fun t115 => ((raw_ceil.f k (wrap64 ((wrap64 ((wrap64 ((wrap64 ((wrap64 (2 * a3)) + 1)) * a1)) - a2)) + (wrap64 (4 * (mx a1 a2))))) (wrap64 (2 * a2))).bind fun t116 => (some (wrap64 (t115 + 1), wrap64 (t116 - (wrap64 (t115 + 1))))))))) else (some (0, 0))) = some (r1, r2) := H
 have A5 := Aside0.mk A50
 clear A50
 by_cases c6 : t112 = true
 ·subst c6
  have H1 : ((fixed_Floor.f k (wrap64 (a3 * a1)) a2).bind fun t113 => ((raw_ceil.f k (wrap64 ((wrap64 (a3 + 1)) * a1)) a2).bind fun t114 => ((fixed_Floor.f k (wrap64 ((wrap64 ((wrap64 ((wrap64 ((wrap64 (2 * a3)) + 1)) * a1)) - a2)) - (wrap64 (4 * (mx a1 a2))))) (wrap64 (2 * a2))).bind fun t115 => ((raw_ceil.f k (wrap64 ((wrap64 ((wrap64 ((wrap64 ((wrap64 (2 * a3)) + 1)) * a1)) - a2)) + (wrap64 (4 * (mx a1 a2))))) (wrap64 (2 * a2))).bind fun t116 => (some (wrap64 (t115 + 1), wrap64 (t116 - (wrap64 (t115 + 1))))))))) = some (r1, r2) := by rw [if_pos rfl] at H; exact H
  clear H
  have H := H1
  clear H1
  replace H := Option.bind_eq_some_iff.mp H
  obtain ⟨t113, A70, H⟩ := H
  replace H : ((raw_ceil.f k (wrap64 ((wrap64 (a3 + 1)) * a1)) a2).bind fun t114 => ((fixed_Floor.f k (wrap64 ((wrap64 ((wrap64 ((wrap64 ((wrap64 (2 * a3)) + 1)) * a1)) - a2)) - (wrap64 (4 * (mx a1 a2))))) (wrap64 (2 * a2))).bind fun t115 => ((raw_ceil.f k (wrap64 ((wrap64 ((wrap64 ((wrap64 ((wrap64 (2 * a3)) + 1)) * a1)) - a2)) + (wrap64 (4 * (mx a1 a2))))) (wrap64 (2 * a2))).bind fun t116 => (some (wrap64 (t115 + 1), wrap64 (t116 - (wrap64 (t115 + 1)))))))) = some (r1, r2) := H
  have A7 := Aside0.mk A70
  clear A70
  replace H := Option.bind_eq_some_iff.mp H
  obtain ⟨t114, A80, H⟩ := H
  replace H : ((fixed_Floor.f k (wrap64 ((wrap64 ((wrap64 ((wrap64 ((wrap64 (2 * a3)) + 1)) * a1)) - a2)) - (wrap64 (4 * (mx a1 a2))))) (wrap64 (2 * a2))).bind fun t115 => ((raw_ceil.f k (wrap64 ((wrap64 ((wrap64 ((wrap64 ((wrap64 (2 * a3)) + 1)) * a1)) - a2)) + (wrap64 (4 * (mx a1 a2))))) (wrap64 (2 * a2))).bind fun t116 => (some (wrap64 (t115 + 1), wrap64 (t116 - (wrap64 (t115 + 1))))))) = some (r1, r2) := H
  have A8 := Aside0.mk A80
  clear A80
  obtain ⟨ji9, hji9⟩ : ∃ j_ : Int, (mx a1 a2) = j_ := ⟨_, rfl⟩
  replace H : ((fixed_Floor.f k (wrap64 ((wrap64 ((wrap64 ((wrap64 ((wrap64 (2 * a3)) + 1)) * a1)) - a2)) - (wrap64 (4 * (ji9))))) (wrap64 (2 * a2))).bind fun t115 => ((raw_ceil.f k (wrap64 ((wrap64 ((wrap64 ((wrap64 ((wrap64 (2 * a3)) + 1)) * a1)) - a2)) + (wrap64 (4 * (ji9))))) (wrap64 (2 * a2))).bind fun t116 => (some (wrap64 (t115 + 1), wrap64 (t116 - (wrap64 (t115 + 1))))))) = some (r1, r2) := by first | (rw [hji9] at H; exact H) | (simp only [hji9] at H ⊢; exact H)
  (try rw [hji9] at A5)
  (try rw [hji9] at A7)
  (try rw [hji9] at A8)
  have hji9_ : (if a1 < a2 then a2 else a1) = ji9 := hji9
  replace H := Option.bind_eq_some_iff.mp H
  obtain ⟨t115, A100, H⟩ := H
  replace H : ((raw_ceil.f k (wrap64 ((wrap64 ((wrap64 ((wrap64 ((wrap64 (2 * a3)) + 1)) * a1)) - a2)) + (wrap64 (4 * (ji9))))) (wrap64 (2 * a2))).bind fun t116 => (some (wrap64 (t115 + 1), wrap64 (t116 - (wrap64 (t115 + 1)))))) = some (r1, r2) := H
  have A10 := Aside0.mk A100
  clear A100
  replace H := Option.bind_eq_some_iff.mp H
  obtain ⟨t116, A110, H⟩ := H
  replace H : (some (wrap64 (t115 + 1), wrap64 (t116 - (wrap64 (t115 + 1))))) = some (r1, r2) := H
  have A11 := Aside0.mk A110
  clear A110
  simp only [Option.some.injEq, Prod.mk.injEq] at H
  obtain ⟨rfl, rfl⟩ := H
  go_enter Tryd.func45, Tryd.ntmps45
  go_wp2_with (first | (go_at_call 58; (with_reducible refine (raw_may.calls 1 a1 a2 a3 true _ A5.out).mono ?_); rintro e w' ⟨rfl, ⟨nd, rfl⟩⟩; (try first | exact ⟨rfl, _, World.drewN_drewN _ _ _⟩ | exact ⟨rfl, _, Eq.trans (World.drewN_drewN _ _ _) (congrArg (World.drewN _) (Nat.add_assoc _ _ _))⟩)) | (go_at_call 50; (with_reducible refine (fixed_Floor.calls k (wrap64 (a3 * a1)) a2 t113 _ A7.out).mono ?_); rintro e w' ⟨rfl, ⟨nd, rfl⟩⟩; (try first | exact ⟨rfl, _, World.drewN_drewN _ _ _⟩ | exact ⟨rfl, _, Eq.trans (World.drewN_drewN _ _ _) (congrArg (World.drewN _) (Nat.add_assoc _ _ _))⟩)) | (go_at_call 59; (with_reducible refine (raw_ceil.calls k (wrap64 ((wrap64 (a3 + 1)) * a1)) a2 t114 _ A8.out).mono ?_); rintro e w' ⟨rfl, ⟨nd, rfl⟩⟩; (try first | exact ⟨rfl, _, World.drewN_drewN _ _ _⟩ | exact ⟨rfl, _, Eq.trans (World.drewN_drewN _ _ _) (congrArg (World.drewN _) (Nat.add_assoc _ _ _))⟩)) | (go_at_call 50; (with_reducible refine (fixed_Floor.calls k (wrap64 ((wrap64 ((wrap64 ((wrap64 ((wrap64 (2 * a3)) + 1)) * a1)) - a2)) - (wrap64 (4 * (ji9))))) (wrap64 (2 * a2)) t115 _ A10.out).mono ?_); rintro e w' ⟨rfl, ⟨nd, rfl⟩⟩; (try first | exact ⟨rfl, _, World.drewN_drewN _ _ _⟩ | exact ⟨rfl, _, Eq.trans (World.drewN_drewN _ _ _) (congrArg (World.drewN _) (Nat.add_assoc _ _ _))⟩)) | (go_at_call 59; (with_reducible refine (raw_ceil.calls k (wrap64 ((wrap64 ((wrap64 ((wrap64 ((wrap64 (2 * a3)) + 1)) * a1)) - a2)) + (wrap64 (4 * (ji9))))) (wrap64 (2 * a2)) t116 _ A11.out).mono ?_); rintro e w' ⟨rfl, ⟨nd, rfl⟩⟩; (try first | exact ⟨rfl, _, World.drewN_drewN _ _ _⟩ | exact ⟨rfl, _, Eq.trans (World.drewN_drewN _ _ _) (congrArg (World.drewN _) (Nat.add_assoc _ _ _))⟩)))
  repeat (go_quiet (first | (go_at_call 58; (with_reducible refine (raw_may.calls 1 a1 a2 a3 true _ A5.out).mono ?_); rintro e w' ⟨rfl, ⟨nd, rfl⟩⟩; (try first | exact ⟨rfl, _, World.drewN_drewN _ _ _⟩ | exact ⟨rfl, _, Eq.trans (World.drewN_drewN _ _ _) (congrArg (World.drewN _) (Nat.add_assoc _ _ _))⟩)) | (go_at_call 50; (with_reducible refine (fixed_Floor.calls k (wrap64 (a3 * a1)) a2 t113 _ A7.out).mono ?_); rintro e w' ⟨rfl, ⟨nd, rfl⟩⟩; (try first | exact ⟨rfl, _, World.drewN_drewN _ _ _⟩ | exact ⟨rfl, _, Eq.trans (World.drewN_drewN _ _ _) (congrArg (World.drewN _) (Nat.add_assoc _ _ _))⟩)) | (go_at_call 59; (with_reducible refine (raw_ceil.calls k (wrap64 ((wrap64 (a3 + 1)) * a1)) a2 t114 _ A8.out).mono ?_); rintro e w' ⟨rfl, ⟨nd, rfl⟩⟩; (try first | exact ⟨rfl, _, World.drewN_drewN _ _ _⟩ | exact ⟨rfl, _, Eq.trans (World.drewN_drewN _ _ _) (congrArg (World.drewN _) (Nat.add_assoc _ _ _))⟩)) | (go_at_call 50; (with_reducible refine (fixed_Floor.calls k (wrap64 ((wrap64 ((wrap64 ((wrap64 ((wrap64 (2 * a3)) + 1)) * a1)) - a2)) - (wrap64 (4 * (ji9))))) (wrap64 (2 * a2)) t115 _ A10.out).mono ?_); rintro e w' ⟨rfl, ⟨nd, rfl⟩⟩; (try first | exact ⟨rfl, _, World.drewN_drewN _ _ _⟩ | exact ⟨rfl, _, Eq.trans (World.drewN_drewN _ _ _) (congrArg (World.drewN _) (Nat.add_assoc _ _ _))⟩)) | (go_at_call 59; (with_reducible refine (raw_ceil.calls k (wrap64 ((wrap64 ((wrap64 ((wrap64 ((wrap64 (2 * a3)) + 1)) * a1)) - a2)) + (wrap64 (4 * (ji9))))) (wrap64 (2 * a2)) t116 _ A11.out).mono ?_); rintro e w' ⟨rfl, ⟨nd, rfl⟩⟩; (try first | exact ⟨rfl, _, World.drewN_drewN _ _ _⟩ | exact ⟨rfl, _, Eq.trans (World.drewN_drewN _ _ _) (congrArg (World.drewN _) (Nat.add_assoc _ _ _))⟩))); try go_wp2_with (first | (go_at_call 58; (with_reducible refine (raw_may.calls 1 a1 a2 a3 true _ A5.out).mono ?_); rintro e w' ⟨rfl, ⟨nd, rfl⟩⟩; (try first | exact ⟨rfl, _, World.drewN_drewN _ _ _⟩ | exact ⟨rfl, _, Eq.trans (World.drewN_drewN _ _ _) (congrArg (World.drewN _) (Nat.add_assoc _ _ _))⟩)) | (go_at_call 50; (with_reducible refine (fixed_Floor.calls k (wrap64 (a3 * a1)) a2 t113 _ A7.out).mono ?_); rintro e w' ⟨rfl, ⟨nd, rfl⟩⟩; (try first | exact ⟨rfl, _, World.drewN_drewN _ _ _⟩ | exact ⟨rfl, _, Eq.trans (World.drewN_drewN _ _ _) (congrArg (World.drewN _) (Nat.add_assoc _ _ _))⟩)) | (go_at_call 59; (with_reducible refine (raw_ceil.calls k (wrap64 ((wrap64 (a3 + 1)) * a1)) a2 t114 _ A8.out).mono ?_); rintro e w' ⟨rfl, ⟨nd, rfl⟩⟩; (try first | exact ⟨rfl, _, World.drewN_drewN _ _ _⟩ | exact ⟨rfl, _, Eq.trans (World.drewN_drewN _ _ _) (congrArg (World.drewN _) (Nat.add_assoc _ _ _))⟩)) | (go_at_call 50; (with_reducible refine (fixed_Floor.calls k (wrap64 ((wrap64 ((wrap64 ((wrap64 ((wrap64 (2 * a3)) + 1)) * a1)) - a2)) - (wrap64 (4 * (ji9))))) (wrap64 (2 * a2)) t115 _ A10.out).mono ?_); rintro e w' ⟨rfl, ⟨nd, rfl⟩⟩; (try first | exact ⟨rfl, _, World.drewN_drewN _ _ _⟩ | exact ⟨rfl, _, Eq.trans (World.drewN_drewN _ _ _) (congrArg (World.drewN _) (Nat.add_assoc _ _ _))⟩)) | (go_at_call 59; (with_reducible refine (raw_ceil.calls k (wrap64 ((wrap64 ((wrap64 ((wrap64 ((wrap64 (2 * a3)) + 1)) * a1)) - a2)) + (wrap64 (4 * (ji9))))) (wrap64 (2 * a2)) t116 _ A11.out).mono ?_); rintro e w' ⟨rfl, ⟨nd, rfl⟩⟩; (try first | exact ⟨rfl, _, World.drewN_drewN _ _ _⟩ | exact ⟨rfl, _, Eq.trans (World.drewN_drewN _ _ _) (congrArg (World.drewN _) (Nat.add_assoc _ _ _))⟩))))
  go_ret2
  exact ⟨by first | rfl | (simp [errW_none, errW_some] <;> rfl) | (simp only [← hji9]; first | rfl | (simp [errW_none, errW_some] <;> rfl)) | (simp [*, errW_none, errW_some] <;> rfl), by repeat (first | (with_reducible first | exact HB.out | apply below_alloc | apply pw_below_drewN | apply below_drew1) | exact HB.out)⟩
 ·replace c6 := Bool.eq_false_iff.mpr c6
  subst c6
  have H1 : (some (0, 0)) = some (r1, r2) := by rw [if_neg (show ¬ (false = true) by decide)] at H; exact H
  clear H
  have H := H1
  clear H1
  simp only [Option.some.injEq, Prod.mk.injEq] at H
  obtain ⟨rfl, rfl⟩ := H
  go_enter Tryd.func45, Tryd.ntmps45
  go_wp2_with (first | (go_at_call 58; (with_reducible refine (raw_may.calls 1 a1 a2 a3 false _ A5.out).mono ?_); rintro e w' ⟨rfl, ⟨nd, rfl⟩⟩; (try first | exact ⟨rfl, _, World.drewN_drewN _ _ _⟩ | exact ⟨rfl, _, Eq.trans (World.drewN_drewN _ _ _) (congrArg (World.drewN _) (Nat.add_assoc _ _ _))⟩)))
  repeat (go_quiet (first | (go_at_call 58; (with_reducible refine (raw_may.calls 1 a1 a2 a3 false _ A5.out).mono ?_); rintro e w' ⟨rfl, ⟨nd, rfl⟩⟩; (try first | exact ⟨rfl, _, World.drewN_drewN _ _ _⟩ | exact ⟨rfl, _, Eq.trans (World.drewN_drewN _ _ _) (congrArg (World.drewN _) (Nat.add_assoc _ _ _))⟩))); try go_wp2_with (first | (go_at_call 58; (with_reducible refine (raw_may.calls 1 a1 a2 a3 false _ A5.out).mono ?_); rintro e w' ⟨rfl, ⟨nd, rfl⟩⟩; (try first | exact ⟨rfl, _, World.drewN_drewN _ _ _⟩ | exact ⟨rfl, _, Eq.trans (World.drewN_drewN _ _ _) (congrArg (World.drewN _) (Nat.add_assoc _ _ _))⟩))))
  go_ret2
  exact ⟨by first | rfl | (simp [errW_none, errW_some] <;> rfl) | (simp [*, errW_none, errW_some] <;> rfl), by repeat (first | (with_reducible first | exact HB.out | apply below_alloc | apply pw_below_drewN | apply below_drew1) | exact HB.out)⟩
def raw_Window_at2.f (k : Nat) (a1 : Int) (a2 : Int) (a3 : Int) : Option (Int × Int) := (raw_may.f 2 a1 a2 a3).bind fun t117 => (if t117 = true then ((fixed_Floor.f k (wrap64 (a3 * a1)) a2).bind fun t118 => ((raw_ceil.f k (wrap64 ((wrap64 (a3 + 1)) * a1)) a2).bind fun t119 => ((fixed_Floor.f k (wrap64 ((wrap64 ((wrap64 ((wrap64 ((wrap64 (2 * a3)) + 1)) * a1)) - a2)) - (wrap64 (6 * (mx a1 a2))))) (wrap64 (2 * a2))).bind fun t120 => ((raw_ceil.f k (wrap64 ((wrap64 ((wrap64 ((wrap64 ((wrap64 (2 * a3)) + 1)) * a1)) - a2)) + (wrap64 (6 * (mx a1 a2))))) (wrap64 (2 * a2))).bind fun t121 => (some (wrap64 (t120 + 1), wrap64 (t121 - (wrap64 (t120 + 1))))))))) else (some (0, 0)))
theorem raw_Window_at2.mono : ∀ a1 a2 a3 k, LeO (raw_Window_at2.f k a1 a2 a3) (raw_Window_at2.f (k + 1) a1 a2 a3) := by
 intro a1 a2 a3 k
 unfold raw_Window_at2.f
 repeat' first
   | (with_reducible exact fixed_Floor.mono _ _ _)
   | (with_reducible exact raw_ceil.mono _ _ _)
   | (with_reducible exact LeO.refl _)
   | (with_reducible exact LeO.none _)
   | (with_reducible refine LeO.ite ?_ ?_)
   | (with_reducible refine LeO.bind ?_ (fun _ => ?_))
   | exact fixed_Floor.mono _ _ _
   | exact raw_ceil.mono _ _ _
   | exact LeO.none _
   | refine LeO.ite ?_ ?_
   | refine LeO.bind ?_ (fun _ => ?_)
set_option maxHeartbeats 8000000 in
set_option maxRecDepth 100000 in
theorem raw_Window_at2.calls (k : Nat) (a1 : Int) (a2 : Int) (a3 : Int) (r1 : Int) (r2 : Int) (w : World) (hG : GL w) (h : raw_Window_at2.f k a1 a2 a3 = some (r1, r2)) :
  Calls Tryd.prog 45 #[.int .i64 2, .int .i64 a1, .int .i64 a2, .int .i64 a3] w fun e w' => e = .returned (.tuple #[.int .i64 r1, .int .i64 r2]) ∧ Below w.heap.size w w' := by
 have HB := Aside0.mk (Below.refl w.heap.size w)
 have H : ((raw_may.f 2 a1 a2 a3).bind fun t117 => (if t117 = true then ((fixed_Floor.f k (wrap64 (a3 * a1)) a2).bind fun t118 => ((raw_ceil.f k (wrap64 ((wrap64 (a3 + 1)) * a1)) a2).bind fun t119 => ((fixed_Floor.f k (wrap64 ((wrap64 ((wrap64 ((wrap64 ((wrap64 (2 * a3)) + 1)) * a1)) - a2)) - (wrap64 (6 * (mx a1 a2))))) (wrap64 (2 * a2))).bind fun t120 => ((raw_ceil.f k (wrap64 ((wrap64 ((wrap64 ((wrap64 ((wrap64 (2 * a3)) + 1)) * a1)) - a2)) + (wrap64 (6 * (mx a1 a2))))) (wrap64 (2 * a2))).bind fun t121 => (some (wrap64 (t120 + 1), wrap64 (t121 - (wrap64 (t120 + 1))))))))) else (some (0, 0)))) = some (r1, r2) := h
 clear h
 obtain ⟨⟨h0_0, h0_1, h0_2, h0_3, h0_4, h0_5⟩, ⟨ga1_, gc1_, gl1_, gs1_, h1_0, h1_1, h1_2⟩⟩ := hG
 replace H := Option.bind_eq_some_iff.mp H
 obtain ⟨t117, A50, H⟩ := H
 replace H : (if t117 = true then ((fixed_Floor.f k (wrap64 (a3 * a1)) a2).bind fun t118 => ((raw_ceil.f k (wrap64 ((wrap64 (a3 + 1)) * a1)) a2).bind fun t119 => ((fixed_Floor.f k (wrap64 ((wrap64 ((wrap64 ((wrap64 ((wrap64 (2 * a3)) + 1)) * a1)) - a2)) - (wrap64 (6 * (mx a1 a2))))) (wrap64 (2 * a2))).bind fun t120 => ((raw_ceil.f k (wrap64 ((wrap64 ((wrap64 ((wrap64 ((wrap64 (2 * a3)) + 1)) * a1)) - a2)) + (wrap64 (6 * (mx a1 a2))))) (wrap64 (2 * a2))).bind fun t121 => (some (wrap64 (t120 + 1), wrap64 (t121 - (wrap64 (t120 + 1))))))))) else (some (0, 0))) = some (r1, r2) := H
 have A5 := Aside0.mk A50
 clear A50
 by_cases c6 : t117 = true
 ·subst c6
  have H1 : ((fixed_Floor.f k (wrap64 (a3 * a1)) a2).bind fun t118 => ((raw_ceil.f k (wrap64 ((wrap64 (a3 + 1)) * a1)) a2).bind fun t119 => ((fixed_Floor.f k (wrap64 ((wrap64 ((wrap64 ((wrap64 ((wrap64 (2 * a3)) + 1)) * a1)) - a2)) - (wrap64 (6 * (mx a1 a2))))) (wrap64 (2 * a2))).bind fun t120 => ((raw_ceil.f k (wrap64 ((wrap64 ((wrap64 ((wrap64 ((wrap64 (2 * a3)) + 1)) * a1)) - a2)) + (wrap64 (6 * (mx a1 a2))))) (wrap64 (2 * a2))).bind fun t121 => (some (wrap64 (t120 + 1), wrap64 (t121 - (wrap64 (t120 + 1))))))))) = some (r1, r2) := by rw [if_pos rfl] at H; exact H
  clear H
  have H := H1
  clear H1
  replace H := Option.bind_eq_some_iff.mp H
  obtain ⟨t118, A70, H⟩ := H
  replace H : ((raw_ceil.f k (wrap64 ((wrap64 (a3 + 1)) * a1)) a2).bind fun t119 => ((fixed_Floor.f k (wrap64 ((wrap64 ((wrap64 ((wrap64 ((wrap64 (2 * a3)) + 1)) * a1)) - a2)) - (wrap64 (6 * (mx a1 a2))))) (wrap64 (2 * a2))).bind fun t120 => ((raw_ceil.f k (wrap64 ((wrap64 ((wrap64 ((wrap64 ((wrap64 (2 * a3)) + 1)) * a1)) - a2)) + (wrap64 (6 * (mx a1 a2))))) (wrap64 (2 * a2))).bind fun t121 => (some (wrap64 (t120 + 1), wrap64 (t121 - (wrap64 (t120 + 1)))))))) = some (r1, r2) := H
  have A7 := Aside0.mk A70
  clear A70
  replace H := Option.bind_eq_some_iff.mp H
  obtain ⟨t119, A80, H⟩ := H
  replace H : ((fixed_Floor.f k (wrap64 ((wrap64 ((wrap64 ((wrap64 ((wrap64 (2 * a3)) + 1)) * a1)) - a2)) - (wrap64 (6 * (mx a1 a2))))) (wrap64 (2 * a2))).bind fun t120 => ((raw_ceil.f k (wrap64 ((wrap64 ((wrap64 ((wrap64 ((wrap64 (2 * a3)) + 1)) * a1)) - a2)) + (wrap64 (6 * (mx a1 a2))))) (wrap64 (2 * a2))).bind fun t121 => (some (wrap64 (t120 + 1), wrap64 (t121 - (wrap64 (t120 + 1))))))) = some (r1, r2) := H
  have A8 := Aside0.mk A80
  clear A80
  obtain ⟨ji9, hji9⟩ : ∃ j_ : Int, (mx a1 a2) = j_ := ⟨_, rfl⟩
  replace H : ((fixed_Floor.f k (wrap64 ((wrap64 ((wrap64 ((wrap64 ((wrap64 (2 * a3)) + 1)) * a1)) - a2)) - (wrap64 (6 * (ji9))))) (wrap64 (2 * a2))).bind fun t120 => ((raw_ceil.f k (wrap64 ((wrap64 ((wrap64 ((wrap64 ((wrap64 (2 * a3)) + 1)) * a1)) - a2)) + (wrap64 (6 * (ji9))))) (wrap64 (2 * a2))).bind fun t121 => (some (wrap64 (t120 + 1), wrap64 (t121 - (wrap64 (t120 + 1))))))) = some (r1, r2) := by first | (rw [hji9] at H; exact H) | (simp only [hji9] at H ⊢; exact H)
  (try rw [hji9] at A5)
  (try rw [hji9] at A7)
  (try rw [hji9] at A8)
  have hji9_ : (if a1 < a2 then a2 else a1) = ji9 := hji9
  replace H := Option.bind_eq_some_iff.mp H
  obtain ⟨t120, A100, H⟩ := H
  replace H : ((raw_ceil.f k (wrap64 ((wrap64 ((wrap64 ((wrap64 ((wrap64 (2 * a3)) + 1)) * a1)) - a2)) + (wrap64 (6 * (ji9))))) (wrap64 (2 * a2))).bind fun t121 => (some (wrap64 (t120 + 1), wrap64 (t121 - (wrap64 (t120 + 1)))))) = some (r1, r2) := H
  have A10 := Aside0.mk A100
  clear A100
  replace H := Option.bind_eq_some_iff.mp H
  obtain ⟨t121, A110, H⟩ := H
  replace H : (some (wrap64 (t120 + 1), wrap64 (t121 - (wrap64 (t120 + 1))))) = some (r1, r2) := H
  have A11 := Aside0.mk A110
  clear A110
  simp only [Option.some.injEq, Prod.mk.injEq] at H
  obtain ⟨rfl, rfl⟩ := H
  go_enter Tryd.func45, Tryd.ntmps45
  go_wp2_with (first | (go_at_call 58; (with_reducible refine (raw_may.calls 2 a1 a2 a3 true _ A5.out).mono ?_); rintro e w' ⟨rfl, ⟨nd, rfl⟩⟩; (try first | exact ⟨rfl, _, World.drewN_drewN _ _ _⟩ | exact ⟨rfl, _, Eq.trans (World.drewN_drewN _ _ _) (congrArg (World.drewN _) (Nat.add_assoc _ _ _))⟩)) | (go_at_call 50; (with_reducible refine (fixed_Floor.calls k (wrap64 (a3 * a1)) a2 t118 _ A7.out).mono ?_); rintro e w' ⟨rfl, ⟨nd, rfl⟩⟩; (try first | exact ⟨rfl, _, World.drewN_drewN _ _ _⟩ | exact ⟨rfl, _, Eq.trans (World.drewN_drewN _ _ _) (congrArg (World.drewN _) (Nat.add_assoc _ _ _))⟩)) | (go_at_call 59; (with_reducible refine (raw_ceil.calls k (wrap64 ((wrap64 (a3 + 1)) * a1)) a2 t119 _ A8.out).mono ?_); rintro e w' ⟨rfl, ⟨nd, rfl⟩⟩; (try first | exact ⟨rfl, _, World.drewN_drewN _ _ _⟩ | exact ⟨rfl, _, Eq.trans (World.drewN_drewN _ _ _) (congrArg (World.drewN _) (Nat.add_assoc _ _ _))⟩)) | (go_at_call 50; (with_reducible refine (fixed_Floor.calls k (wrap64 ((wrap64 ((wrap64 ((wrap64 ((wrap64 (2 * a3)) + 1)) * a1)) - a2)) - (wrap64 (6 * (ji9))))) (wrap64 (2 * a2)) t120 _ A10.out).mono ?_); rintro e w' ⟨rfl, ⟨nd, rfl⟩⟩; (try first | exact ⟨rfl, _, World.drewN_drewN _ _ _⟩ | exact ⟨rfl, _, Eq.trans (World.drewN_drewN _ _ _) (congrArg (World.drewN _) (Nat.add_assoc _ _ _))⟩)) | (go_at_call 59; (with_reducible refine (raw_ceil.calls k (wrap64 ((wrap64 ((wrap64 ((wrap64 ((wrap64 (2 * a3)) + 1)) * a1)) - a2)) + (wrap64 (6 * (ji9))))) (wrap64 (2 * a2)) t121 _ A11.out).mono ?_); rintro e w' ⟨rfl, ⟨nd, rfl⟩⟩; (try first | exact ⟨rfl, _, World.drewN_drewN _ _ _⟩ | exact ⟨rfl, _, Eq.trans (World.drewN_drewN _ _ _) (congrArg (World.drewN _) (Nat.add_assoc _ _ _))⟩)))
  repeat (go_quiet (first | (go_at_call 58; (with_reducible refine (raw_may.calls 2 a1 a2 a3 true _ A5.out).mono ?_); rintro e w' ⟨rfl, ⟨nd, rfl⟩⟩; (try first | exact ⟨rfl, _, World.drewN_drewN _ _ _⟩ | exact ⟨rfl, _, Eq.trans (World.drewN_drewN _ _ _) (congrArg (World.drewN _) (Nat.add_assoc _ _ _))⟩)) | (go_at_call 50; (with_reducible refine (fixed_Floor.calls k (wrap64 (a3 * a1)) a2 t118 _ A7.out).mono ?_); rintro e w' ⟨rfl, ⟨nd, rfl⟩⟩; (try first | exact ⟨rfl, _, World.drewN_drewN _ _ _⟩ | exact ⟨rfl, _, Eq.trans (World.drewN_drewN _ _ _) (congrArg (World.drewN _) (Nat.add_assoc _ _ _))⟩)) | (go_at_call 59; (with_reducible refine (raw_ceil.calls k (wrap64 ((wrap64 (a3 + 1)) * a1)) a2 t119 _ A8.out).mono ?_); rintro e w' ⟨rfl, ⟨nd, rfl⟩⟩; (try first | exact ⟨rfl, _, World.drewN_drewN _ _ _⟩ | exact ⟨rfl, _, Eq.trans (World.drewN_drewN _ _ _) (congrArg (World.drewN _) (Nat.add_assoc _ _ _))⟩)) | (go_at_call 50; (with_reducible refine (fixed_Floor.calls k (wrap64 ((wrap64 ((wrap64 ((wrap64 ((wrap64 (2 * a3)) + 1)) * a1)) - a2)) - (wrap64 (6 * (ji9))))) (wrap64 (2 * a2)) t120 _ A10.out).mono ?_); rintro e w' ⟨rfl, ⟨nd, rfl⟩⟩; (try first | exact ⟨rfl, _, World.drewN_drewN _ _ _⟩ | exact ⟨rfl, _, Eq.trans (World.drewN_drewN _ _ _) (congrArg (World.drewN _) (Nat.add_assoc _ _ _))⟩)) | (go_at_call 59; (with_reducible refine (raw_ceil.calls k (wrap64 ((wrap64 ((wrap64 ((wrap64 ((wrap64 (2 * a3)) + 1)) * a1)) - a2)) + (wrap64 (6 * (ji9))))) (wrap64 (2 * a2)) t121 _ A11.out).mono ?_); rintro e w' ⟨rfl, ⟨nd, rfl⟩⟩; (try first | exact ⟨rfl, _, World.drewN_drewN _ _ _⟩ | exact ⟨rfl, _, Eq.trans (World.drewN_drewN _ _ _) (congrArg (World.drewN _) (Nat.add_assoc _ _ _))⟩))); try go_wp2_with (first | (go_at_call 58; (with_reducible refine (raw_may.calls 2 a1 a2 a3 true _ A5.out).mono ?_); rintro e w' ⟨rfl, ⟨nd, rfl⟩⟩; (try first | exact ⟨rfl, _, World.drewN_drewN _ _ _⟩ | exact ⟨rfl, _, Eq.trans (World.drewN_drewN _ _ _) (congrArg (World.drewN _) (Nat.add_assoc _ _ _))⟩)) | (go_at_call 50; (with_reducible refine (fixed_Floor.calls k (wrap64 (a3 * a1)) a2 t118 _ A7.out).mono ?_); rintro e w' ⟨rfl, ⟨nd, rfl⟩⟩; (try first | exact ⟨rfl, _, World.drewN_drewN _ _ _⟩ | exact ⟨rfl, _, Eq.trans (World.drewN_drewN _ _ _) (congrArg (World.drewN _) (Nat.add_assoc _ _ _))⟩)) | (go_at_call 59; (with_reducible refine (raw_ceil.calls k (wrap64 ((wrap64 (a3 + 1)) * a1)) a2 t119 _ A8.out).mono ?_); rintro e w' ⟨rfl, ⟨nd, rfl⟩⟩; (try first | exact ⟨rfl, _, World.drewN_drewN _ _ _⟩ | exact ⟨rfl, _, Eq.trans (World.drewN_drewN _ _ _) (congrArg (World.drewN _) (Nat.add_assoc _ _ _))⟩)) | (go_at_call 50; (with_reducible refine (fixed_Floor.calls k (wrap64 ((wrap64 ((wrap64 ((wrap64 ((wrap64 (2 * a3)) + 1)) * a1)) - a2)) - (wrap64 (6 * (ji9))))) (wrap64 (2 * a2)) t120 _ A10.out).mono ?_); rintro e w' ⟨rfl, ⟨nd, rfl⟩⟩; (try first | exact ⟨rfl, _, World.drewN_drewN _ _ _⟩ | exact ⟨rfl, _, Eq.trans (World.drewN_drewN _ _ _) (congrArg (World.drewN _) (Nat.add_assoc _ _ _))⟩)) | (go_at_call 59; (with_reducible refine (raw_ceil.calls k (wrap64 ((wrap64 ((wrap64 ((wrap64 ((wrap64 (2 * a3)) + 1)) * a1)) - a2)) + (wrap64 (6 * (ji9))))) (wrap64 (2 * a2)) t121 _ A11.out).mono ?_); rintro e w' ⟨rfl, ⟨nd, rfl⟩⟩; (try first | exact ⟨rfl, _, World.drewN_drewN _ _ _⟩ | exact ⟨rfl, _, Eq.trans (World.drewN_drewN _ _ _) (congrArg (World.drewN _) (Nat.add_assoc _ _ _))⟩))))
  go_ret2
  exact ⟨by first | rfl | (simp [errW_none, errW_some] <;> rfl) | (simp only [← hji9]; first | rfl | (simp [errW_none, errW_some] <;> rfl)) | (simp [*, errW_none, errW_some] <;> rfl), by repeat (first | (with_reducible first | exact HB.out | apply below_alloc | apply pw_below_drewN | apply below_drew1) | exact HB.out)⟩
 ·replace c6 := Bool.eq_false_iff.mpr c6
  subst c6
  have H1 : (some (0, 0)) = some (r1, r2) := by rw [if_neg (show ¬ (false = true) by decide)] at H; exact H
  clear H
  have H := H1
  clear H1
  simp only [Option.some.injEq, Prod.mk.injEq] at H
  obtain ⟨rfl, rfl⟩ := H
  go_enter Tryd.func45, Tryd.ntmps45
  go_wp2_with (first | (go_at_call 58; (with_reducible refine (raw_may.calls 2 a1 a2 a3 false _ A5.out).mono ?_); rintro e w' ⟨rfl, ⟨nd, rfl⟩⟩; (try first | exact ⟨rfl, _, World.drewN_drewN _ _ _⟩ | exact ⟨rfl, _, Eq.trans (World.drewN_drewN _ _ _) (congrArg (World.drewN _) (Nat.add_assoc _ _ _))⟩)))
  repeat (go_quiet (first | (go_at_call 58; (with_reducible refine (raw_may.calls 2 a1 a2 a3 false _ A5.out).mono ?_); rintro e w' ⟨rfl, ⟨nd, rfl⟩⟩; (try first | exact ⟨rfl, _, World.drewN_drewN _ _ _⟩ | exact ⟨rfl, _, Eq.trans (World.drewN_drewN _ _ _) (congrArg (World.drewN _) (Nat.add_assoc _ _ _))⟩))); try go_wp2_with (first | (go_at_call 58; (with_reducible refine (raw_may.calls 2 a1 a2 a3 false _ A5.out).mono ?_); rintro e w' ⟨rfl, ⟨nd, rfl⟩⟩; (try first | exact ⟨rfl, _, World.drewN_drewN _ _ _⟩ | exact ⟨rfl, _, Eq.trans (World.drewN_drewN _ _ _) (congrArg (World.drewN _) (Nat.add_assoc _ _ _))⟩))))
  go_ret2
  exact ⟨by first | rfl | (simp [errW_none, errW_some] <;> rfl) | (simp [*, errW_none, errW_some] <;> rfl), by repeat (first | (with_reducible first | exact HB.out | apply below_alloc | apply pw_below_drewN | apply below_drew1) | exact HB.out)⟩
def raw_Window_gen.f (k : Nat) (a0 : Int) (a1 : Int) (a2 : Int) (a3 : Int) : Option (Int × Int) := (raw_may.f a0 a1 a2 a3).bind fun t122 => (if t122 = true then ((fixed_Floor.f k (wrap64 (a3 * a1)) a2).bind fun t123 => ((raw_ceil.f k (wrap64 ((wrap64 (a3 + 1)) * a1)) a2).bind fun t124 => (if a0 = 0 then (some (t123, wrap64 (t124 - t123))) else (none)))) else (some (0, 0)))
theorem raw_Window_gen.mono : ∀ a0 a1 a2 a3 k, LeO (raw_Window_gen.f k a0 a1 a2 a3) (raw_Window_gen.f (k + 1) a0 a1 a2 a3) := by
 intro a0 a1 a2 a3 k
 unfold raw_Window_gen.f
 repeat' first
   | (with_reducible exact fixed_Floor.mono _ _ _)
   | (with_reducible exact raw_ceil.mono _ _ _)
   | (with_reducible exact LeO.refl _)
   | (with_reducible exact LeO.none _)
   | (with_reducible refine LeO.ite ?_ ?_)
   | (with_reducible refine LeO.bind ?_ (fun _ => ?_))
   | exact fixed_Floor.mono _ _ _
   | exact raw_ceil.mono _ _ _
   | exact LeO.none _
   | refine LeO.ite ?_ ?_
   | refine LeO.bind ?_ (fun _ => ?_)
set_option maxHeartbeats 8000000 in
set_option maxRecDepth 100000 in
theorem raw_Window_gen.calls (k : Nat) (a0 : Int) (a1 : Int) (a2 : Int) (a3 : Int) (r1 : Int) (r2 : Int) (w : World) (hG : GL w) (h : raw_Window_gen.f k a0 a1 a2 a3 = some (r1, r2)) :
  Calls Tryd.prog 45 #[.int .i64 a0, .int .i64 a1, .int .i64 a2, .int .i64 a3] w fun e w' => e = .returned (.tuple #[.int .i64 r1, .int .i64 r2]) ∧ Below w.heap.size w w' := by
 have HB := Aside0.mk (Below.refl w.heap.size w)
 have H : ((raw_may.f a0 a1 a2 a3).bind fun t122 => (if t122 = true then ((fixed_Floor.f k (wrap64 (a3 * a1)) a2).bind fun t123 => ((raw_ceil.f k (wrap64 ((wrap64 (a3 + 1)) * a1)) a2).bind fun t124 => (if a0 = 0 then (some (t123, wrap64 (t124 - t123))) else (none)))) else (some (0, 0)))) = some (r1, r2) := h
 clear h
 obtain ⟨⟨h0_0, h0_1, h0_2, h0_3, h0_4, h0_5⟩, ⟨ga1_, gc1_, gl1_, gs1_, h1_0, h1_1, h1_2⟩⟩ := hG
 replace H := Option.bind_eq_some_iff.mp H
 obtain ⟨t122, A50, H⟩ := H
 replace H : (if t122 = true then ((fixed_Floor.f k (wrap64 (a3 * a1)) a2).bind fun t123 => ((raw_ceil.f k (wrap64 ((wrap64 (a3 + 1)) * a1)) a2).bind fun t124 => (if a0 = 0 then (some (t123, wrap64 (t124 - t123))) else (none)))) else (some (0, 0))) = some (r1, r2) := H
 have A5 := Aside0.mk A50
 clear A50
 by_cases c6 : t122 = true
 ·subst c6
  have H1 : ((fixed_Floor.f k (wrap64 (a3 * a1)) a2).bind fun t123 => ((raw_ceil.f k (wrap64 ((wrap64 (a3 + 1)) * a1)) a2).bind fun t124 => (if a0 = 0 then (some (t123, wrap64 (t124 - t123))) else (none)))) = some (r1, r2) := by rw [if_pos rfl] at H; exact H
  clear H
  have H := H1
  clear H1
  replace H := Option.bind_eq_some_iff.mp H
  obtain ⟨t123, A70, H⟩ := H
  replace H : ((raw_ceil.f k (wrap64 ((wrap64 (a3 + 1)) * a1)) a2).bind fun t124 => (if a0 = 0 then (some (t123, wrap64 (t124 - t123))) else (none))) = some (r1, r2) := H
  have A7 := Aside0.mk A70
  clear A70
  replace H := Option.bind_eq_some_iff.mp H
  obtain ⟨t124, A80, H⟩ := H
  replace H : (if a0 = 0 then (some (t123, wrap64 (t124 - t123))) else (none)) = some (r1, r2) := H
  have A8 := Aside0.mk A80
  clear A80
  by_cases c9 : a0 = 0
  ·rw [if_pos c9] at H
   have c9b0 : (a0 == 0) = true := beq_iff_eq.mpr c9
   have c9b1 : (a0 != 0) = false := bne_eq_false_iff_eq.mpr c9
   clear c9
   simp only [Option.some.injEq, Prod.mk.injEq] at H
   obtain ⟨rfl, rfl⟩ := H
   go_enter Tryd.func45, Tryd.ntmps45
   go_wp2_with (first | (go_at_call 58; (with_reducible refine (raw_may.calls a0 a1 a2 a3 true _ A5.out).mono ?_); rintro e w' ⟨rfl, ⟨nd, rfl⟩⟩; (try first | exact ⟨rfl, _, World.drewN_drewN _ _ _⟩ | exact ⟨rfl, _, Eq.trans (World.drewN_drewN _ _ _) (congrArg (World.drewN _) (Nat.add_assoc _ _ _))⟩)) | (go_at_call 50; (with_reducible refine (fixed_Floor.calls k (wrap64 (a3 * a1)) a2 t123 _ A7.out).mono ?_); rintro e w' ⟨rfl, ⟨nd, rfl⟩⟩; (try first | exact ⟨rfl, _, World.drewN_drewN _ _ _⟩ | exact ⟨rfl, _, Eq.trans (World.drewN_drewN _ _ _) (congrArg (World.drewN _) (Nat.add_assoc _ _ _))⟩)) | (go_at_call 59; (with_reducible refine (raw_ceil.calls k (wrap64 ((wrap64 (a3 + 1)) * a1)) a2 t124 _ A8.out).mono ?_); rintro e w' ⟨rfl, ⟨nd, rfl⟩⟩; (try first | exact ⟨rfl, _, World.drewN_drewN _ _ _⟩ | exact ⟨rfl, _, Eq.trans (World.drewN_drewN _ _ _) (congrArg (World.drewN _) (Nat.add_assoc _ _ _))⟩)))
   repeat (go_quiet (first | (go_at_call 58; (with_reducible refine (raw_may.calls a0 a1 a2 a3 true _ A5.out).mono ?_); rintro e w' ⟨rfl, ⟨nd, rfl⟩⟩; (try first | exact ⟨rfl, _, World.drewN_drewN _ _ _⟩ | exact ⟨rfl, _, Eq.trans (World.drewN_drewN _ _ _) (congrArg (World.drewN _) (Nat.add_assoc _ _ _))⟩)) | (go_at_call 50; (with_reducible refine (fixed_Floor.calls k (wrap64 (a3 * a1)) a2 t123 _ A7.out).mono ?_); rintro e w' ⟨rfl, ⟨nd, rfl⟩⟩; (try first | exact ⟨rfl, _, World.drewN_drewN _ _ _⟩ | exact ⟨rfl, _, Eq.trans (World.drewN_drewN _ _ _) (congrArg (World.drewN _) (Nat.add_assoc _ _ _))⟩)) | (go_at_call 59; (with_reducible refine (raw_ceil.calls k (wrap64 ((wrap64 (a3 + 1)) * a1)) a2 t124 _ A8.out).mono ?_); rintro e w' ⟨rfl, ⟨nd, rfl⟩⟩; (try first | exact ⟨rfl, _, World.drewN_drewN _ _ _⟩ | exact ⟨rfl, _, Eq.trans (World.drewN_drewN _ _ _) (congrArg (World.drewN _) (Nat.add_assoc _ _ _))⟩))); try go_wp2_with (first | (go_at_call 58; (with_reducible refine (raw_may.calls a0 a1 a2 a3 true _ A5.out).mono ?_); rintro e w' ⟨rfl, ⟨nd, rfl⟩⟩; (try first | exact ⟨rfl, _, World.drewN_drewN _ _ _⟩ | exact ⟨rfl, _, Eq.trans (World.drewN_drewN _ _ _) (congrArg (World.drewN _) (Nat.add_assoc _ _ _))⟩)) | (go_at_call 50; (with_reducible refine (fixed_Floor.calls k (wrap64 (a3 * a1)) a2 t123 _ A7.out).mono ?_); rintro e w' ⟨rfl, ⟨nd, rfl⟩⟩; (try first | exact ⟨rfl, _, World.drewN_drewN _ _ _⟩ | exact ⟨rfl, _, Eq.trans (World.drewN_drewN _ _ _) (congrArg (World.drewN _) (Nat.add_assoc _ _ _))⟩)) | (go_at_call 59; (with_reducible refine (raw_ceil.calls k (wrap64 ((wrap64 (a3 + 1)) * a1)) a2 t124 _ A8.out).mono ?_); rintro e w' ⟨rfl, ⟨nd, rfl⟩⟩; (try first | exact ⟨rfl, _, World.drewN_drewN _ _ _⟩ | exact ⟨rfl, _, Eq.trans (World.drewN_drewN _ _ _) (congrArg (World.drewN _) (Nat.add_assoc _ _ _))⟩))))
   go_ret2
   exact ⟨by first | rfl | (simp [errW_none, errW_some] <;> rfl) | (simp [*, errW_none, errW_some] <;> rfl), by repeat (first | (with_reducible first | exact HB.out | apply below_alloc | apply pw_below_drewN | apply below_drew1) | exact HB.out)⟩
  ·rw [if_neg c9] at H
   exact absurd H (by simp)
 ·replace c6 := Bool.eq_false_iff.mpr c6
  subst c6
  have H1 : (some (0, 0)) = some (r1, r2) := by rw [if_neg (show ¬ (false = true) by decide)] at H; exact H
  clear H
  have H := H1
  clear H1
  simp only [Option.some.injEq, Prod.mk.injEq] at H
  obtain ⟨rfl, rfl⟩ := H
  go_enter Tryd.func45, Tryd.ntmps45
  go_wp2_with (first | (go_at_call 58; (with_reducible refine (raw_may.calls a0 a1 a2 a3 false _ A5.out).mono ?_); rintro e w' ⟨rfl, ⟨nd, rfl⟩⟩; (try first | exact ⟨rfl, _, World.drewN_drewN _ _ _⟩ | exact ⟨rfl, _, Eq.trans (World.drewN_drewN _ _ _) (congrArg (World.drewN _) (Nat.add_assoc _ _ _))⟩)))
  repeat (go_quiet (first | (go_at_call 58; (with_reducible refine (raw_may.calls a0 a1 a2 a3 false _ A5.out).mono ?_); rintro e w' ⟨rfl, ⟨nd, rfl⟩⟩; (try first | exact ⟨rfl, _, World.drewN_drewN _ _ _⟩ | exact ⟨rfl, _, Eq.trans (World.drewN_drewN _ _ _) (congrArg (World.drewN _) (Nat.add_assoc _ _ _))⟩))); try go_wp2_with (first | (go_at_call 58; (with_reducible refine (raw_may.calls a0 a1 a2 a3 false _ A5.out).mono ?_); rintro e w' ⟨rfl, ⟨nd, rfl⟩⟩; (try first | exact ⟨rfl, _, World.drewN_drewN _ _ _⟩ | exact ⟨rfl, _, Eq.trans (World.drewN_drewN _ _ _) (congrArg (World.drewN _) (Nat.add_assoc _ _ _))⟩))))
  go_ret2
  exact ⟨by first | rfl | (simp [errW_none, errW_some] <;> rfl) | (simp [*, errW_none, errW_some] <;> rfl), by repeat (first | (with_reducible first | exact HB.out | apply below_alloc | apply pw_below_drewN | apply below_drew1) | exact HB.out)⟩
def raw_Window.f (k : Nat) (a0 : Int) (a1 : Int) (a2 : Int) (a3 : Int) : Option (Int × Int) := if a0 = 1 then raw_Window_at1.f k a1 a2 a3 else if a0 = 2 then raw_Window_at2.f k a1 a2 a3 else raw_Window_gen.f k a0 a1 a2 a3
theorem raw_Window.mono : ∀ a0 a1 a2 a3 k, LeO (raw_Window.f k a0 a1 a2 a3) (raw_Window.f (k + 1) a0 a1 a2 a3) := by
 intro a0 a1 a2 a3 k
 unfold raw_Window.f
 exact LeO.ite (raw_Window_at1.mono _ _ _ _) (LeO.ite (raw_Window_at2.mono _ _ _ _) (raw_Window_gen.mono _ _ _ _ _))
theorem raw_Window.calls (k : Nat) (a0 : Int) (a1 : Int) (a2 : Int) (a3 : Int) (r1 : Int) (r2 : Int) (w : World) (hG : GL w) (h : raw_Window.f k a0 a1 a2 a3 = some (r1, r2)) :
  Calls Tryd.prog 45 #[.int .i64 a0, .int .i64 a1, .int .i64 a2, .int .i64 a3] w fun e w' => e = .returned (.tuple #[.int .i64 r1, .int .i64 r2]) ∧ Below w.heap.size w w' := by
 unfold raw_Window.f at h
 by_cases c1 : a0 = 1
 ·subst c1; exact raw_Window_at1.calls k a1 a2 a3 r1 r2 w hG (by rw [if_pos rfl] at h; exact h)
 ·rw [if_neg c1] at h
  by_cases c2 : a0 = 2
  ·subst c2; exact raw_Window_at2.calls k a1 a2 a3 r1 r2 w hG (by rw [if_pos rfl] at h; exact h)
  ·rw [if_neg c2] at h
   exact raw_Window_gen.calls k a0 a1 a2 a3 r1 r2 w hG h
def wide_size.f (a0 : Int) : Option (Int) := if a0 < 0 then (some (IntKind.u64.wrap (-(IntKind.u64.wrap (a0))))) else (some (IntKind.u64.wrap (a0)))
set_option maxHeartbeats 8000000 in
set_option maxRecDepth 100000 in
theorem wide_size.calls (a0 : Int) (r : Int) (w : World) (h : wide_size.f a0 = some r) :
  Calls Tryd.prog 62 #[.int .i64 a0] w fun e w' => e = .returned (.int .u64 r) ∧ Drawn0 w w' := by
 have H : (if a0 < 0 then (some (IntKind.u64.wrap (-(IntKind.u64.wrap (a0))))) else (some (IntKind.u64.wrap (a0)))) = some r := h
 clear h
 by_cases c2 : a0 < 0
 ·rw [if_pos c2] at H
  have c2b0 : decide (a0 < 0) = true := decide_eq_true c2
  clear c2
  obtain rfl := Option.some.inj H
  go_enter Tryd.func62, Tryd.ntmps62
  go_wp2
  go_ret
  exact ⟨by first | rfl | (simp; done) | (simp [*]; done), by repeat (first | exact Drawn0.refl _ | apply Drawn0.step)⟩
 ·rw [if_neg c2] at H
  have c2b0 : decide (a0 < 0) = false := decide_eq_false c2
  clear c2
  obtain rfl := Option.some.inj H
  go_enter Tryd.func62, Tryd.ntmps62
  go_wp2
  go_ret
  exact ⟨by first | rfl | (simp; done) | (simp [*]; done), by repeat (first | exact Drawn0.refl _ | apply Drawn0.step)⟩
def bits_Mul64.f (a0 : Int) (a1 : Int) : Option (Int × Int) := if 0 ≤ a0 ∧ a0 < 18446744073709551616 ∧ 0 ≤ a1 ∧ a1 < 18446744073709551616 then some (a0 * a1 / 18446744073709551616, a0 * a1 % 18446744073709551616) else none
theorem bits_Mul64.calls (a0 : Int) (a1 : Int) (r1 : Int) (r2 : Int) (w : World) (h : bits_Mul64.f a0 a1 = some (r1, r2)) :
  Calls Tryd.prog 82 #[.int .u64 a0, .int .u64 a1] w fun e w' => e = .returned (.tuple #[.int .u64 r1, .int .u64 r2]) ∧ Drawn0 w w' := by
 unfold bits_Mul64.f at h
 by_cases c : 0 ≤ a0 ∧ a0 < 18446744073709551616 ∧ 0 ≤ a1 ∧ a1 < 18446744073709551616
 ·rw [if_pos c] at h
  obtain ⟨h0, h1, h2, h3⟩ := c
  obtain ⟨rfl, rfl⟩ := Prod.mk.inj (Option.some.inj h)
  obtain ⟨x, rfl⟩ := Int.eq_ofNat_of_zero_le h0
  obtain ⟨y, rfl⟩ := Int.eq_ofNat_of_zero_le h2
  exact (Tryd.bits_Mul64 x y (by omega) (by omega) w).mono fun e w' ⟨he, hw⟩ => ⟨by rw [he]; congr 4, by rw [hw]; exact Drawn0.refl _⟩
 ·rw [if_neg c] at h; exact absurd h (by simp)
def wide_product.f (a0 : Int) (a1 : Int) : Option (Int × Int × Bool) := (wide_size.f a0).bind fun t125 => ((wide_size.f a1).bind fun t126 => ((bits_Mul64.f t125 t126).bind fun bt127 => (some (bt127.1, bt127.2, ((decide (a0 < 0)) != (decide (a1 < 0)))))))
set_option maxHeartbeats 8000000 in
set_option maxRecDepth 100000 in
theorem wide_product.calls (a0 : Int) (a1 : Int) (r1 : Int) (r2 : Int) (r3 : Bool) (w : World) (h : wide_product.f a0 a1 = some (r1, r2, r3)) :
  Calls Tryd.prog 61 #[.int .i64 a0, .int .i64 a1] w fun e w' => e = .returned (.tuple #[.int .u64 r1, .int .u64 r2, .bool r3]) ∧ Drawn0 w w' := by
 have H : ((wide_size.f a0).bind fun t125 => ((wide_size.f a1).bind fun t126 => ((bits_Mul64.f t125 t126).bind fun bt127 => (some (bt127.1, bt127.2, ((decide (a0 < 0)) != (decide (a1 < 0)))))))) = some (r1, r2, r3) := h
 clear h
 replace H := Option.bind_eq_some_iff.mp H
 obtain ⟨t125, A30, H⟩ := H
 replace H : ((wide_size.f a1).bind fun t126 => ((bits_Mul64.f t125 t126).bind fun bt127 => (some (bt127.1, bt127.2, ((decide (a0 < 0)) != (decide (a1 < 0))))))) = some (r1, r2, r3) := H
 have A3 := Aside0.mk A30
 clear A30
 replace H := Option.bind_eq_some_iff.mp H
 obtain ⟨t126, A40, H⟩ := H
 replace H : ((bits_Mul64.f t125 t126).bind fun bt127 => (some (bt127.1, bt127.2, ((decide (a0 < 0)) != (decide (a1 < 0)))))) = some (r1, r2, r3) := H
 have A4 := Aside0.mk A40
 clear A40
 replace H := Option.bind_eq_some_iff.mp H
 obtain ⟨⟨t127, t128⟩, A50, H⟩ := H
 replace H : (some (t127, t128, ((decide (a0 < 0)) != (decide (a1 < 0))))) = some (r1, r2, r3) := H
 have A5 := Aside0.mk A50
 clear A50
 simp only [Option.some.injEq, Prod.mk.injEq] at H
 obtain ⟨rfl, rfl, rfl⟩ := H
 go_enter Tryd.func61, Tryd.ntmps61
 go_wp2_with (first | ((with_reducible refine gate_callee (f := 62) rfl ?_); refine goesL_ (some 9) rfl rfl Tryd.func62 (by kernel_rfl) rfl #[.int .i64 a0] rfl (by (try simp only [List.map_toArray, List.map_cons, List.map_nil]); first | done | rfl | (simp only [List.length_drop, List.length_take]; rfl)) ?_; (with_reducible refine (wide_size.calls a0 t125 _ A3.out).mono ?_); rintro e w' ⟨rfl, ⟨nd, rfl⟩⟩; refine ⟨_, rfl, ?_⟩) | ((with_reducible refine gate_callee (f := 62) rfl ?_); refine goesL_ (some 11) rfl rfl Tryd.func62 (by kernel_rfl) rfl #[.int .i64 a1] rfl (by (try simp only [List.map_toArray, List.map_cons, List.map_nil]); first | done | rfl | (simp only [List.length_drop, List.length_take]; rfl)) ?_; (with_reducible refine (wide_size.calls a1 t126 _ A4.out).mono ?_); rintro e w' ⟨rfl, ⟨nd, rfl⟩⟩; refine ⟨_, rfl, ?_⟩) | ((with_reducible refine gate_callee (f := 82) rfl ?_); refine goesL_ (some 12) rfl rfl Tryd.func82 (by kernel_rfl) rfl #[.int .u64 t125, .int .u64 t126] rfl (by (try simp only [List.map_toArray, List.map_cons, List.map_nil]); first | done | rfl | (simp only [List.length_drop, List.length_take]; rfl)) ?_; (with_reducible refine (bits_Mul64.calls t125 t126 t127 t128 _ A5.out).mono ?_); rintro e w' ⟨rfl, ⟨nd, rfl⟩⟩; refine ⟨_, rfl, ?_⟩))
 go_ret3
 exact ⟨by first | rfl | (simp; done) | (simp [*]; done), by repeat (first | exact Drawn0.refl _ | apply Drawn0.step)⟩
end Go.Proofs.YtkdmebekabmkkaaDoor.QA

namespace Go.Proofs.YtkdmebekabmkkaaDoor.QA
open Go.Proofs.YtkdmebekabmkkaaDoor.T
open Go.RowKit Go.Proofs.YtkdmebekabmkkaaDoorW.PrintWords Go.Proofs.YtkdmebekabmkkaaDoorW.PrintLast Go.Proofs.YtkdmebekabmkkaaDoorW.PrintMore
attribute [local go_sem] ext_call max2_int min2_int max_two min_two max_three min_three max_four min_four   -- for this text's walks alone
set_option linter.unusedVariables false
set_option linter.unusedSimpArgs false
def wide_signed.j0 : Nat → Int → Int → Bool → Bool → Option (Int)
 | 0, _, _, _, _ => none
 | k + 1, x0, x1, x2, x7 => if x7 = true then (some (-9223372036854775808)) else (if x2 = true then (some (wrap64 (IntKind.u64.wrap (-x1)))) else (if x0 > 0 then (some 9223372036854775807) else (if x1 > 9223372036854775807 then (some 9223372036854775807) else (some (wrap64 (x1))))))
def wide_signed.f (k : Nat) (a0 : Int) (a1 : Int) (a2 : Bool) : Option (Int) := if a2 = true then (if a0 > 0 then (wide_signed.j0 k a0 a1 a2 true) else (wide_signed.j0 k a0 a1 a2 (decide (a1 > 9223372036854775808)))) else (wide_signed.j0 k a0 a1 a2 false)
theorem wide_signed.mono_l : ∀ k, (∀ y0 y1 y2 y3, LeO (wide_signed.j0 k y0 y1 y2 y3) (wide_signed.j0 (k + 1) y0 y1 y2 y3))
 | 0 => fun _ _ _ _ r h => by simp [wide_signed.j0] at h
 | k + 1 => by
  have ih0 := wide_signed.mono_l k
  ·intro y0 y1 y2 y3
   unfold wide_signed.j0
   repeat' first
   | (with_reducible exact ih0 _ _ _ _)
   | (with_reducible exact LeO.refl _)
   | (with_reducible exact LeO.none _)
   | (with_reducible refine LeO.ite ?_ ?_)
   | (with_reducible refine LeO.bind ?_ (fun _ => ?_))
   | exact ih0 _ _ _ _
   | exact LeO.none _
   | refine LeO.ite ?_ ?_
   | refine LeO.bind ?_ (fun _ => ?_)
theorem wide_signed.mono : ∀ a0 a1 a2 k, LeO (wide_signed.f k a0 a1 a2) (wide_signed.f (k + 1) a0 a1 a2) := by
 intro a0 a1 a2 k
 have ih0 := wide_signed.mono_l k
 unfold wide_signed.f
 repeat' first
   | (with_reducible exact ih0 _ _ _ _)
   | (with_reducible exact LeO.refl _)
   | (with_reducible exact LeO.none _)
   | (with_reducible refine LeO.ite ?_ ?_)
   | (with_reducible refine LeO.bind ?_ (fun _ => ?_))
   | exact ih0 _ _ _ _
   | exact LeO.none _
   | refine LeO.ite ?_ ?_
   | refine LeO.bind ?_ (fun _ => ?_)
set_option maxHeartbeats 8000000 in
set_option maxRecDepth 100000 in
theorem wide_signed.calls (k : Nat) (a0 : Int) (a1 : Int) (a2 : Bool) (r : Int) (w : World) (h : wide_signed.f k a0 a1 a2 = some r) :
  Calls Tryd.prog 63 #[.int .u64 a0, .int .u64 a1, .bool a2] w fun e w' => e = .returned (.int .i64 r) ∧ Drawn0 w w' := by
 have H : (if a2 = true then (if a0 > 0 then (wide_signed.j0 k a0 a1 a2 true) else (wide_signed.j0 k a0 a1 a2 (decide (a1 > 9223372036854775808)))) else (wide_signed.j0 k a0 a1 a2 false)) = some r := h
 clear h
 have HC4 := Aside0.mk H
 clear H
 go_enter Tryd.func63, Tryd.ntmps63
 go_upto_region 1 with (fail)
 go_cut [7] (fun v7 wc => ∃ (kq : Nat) (x7_3 : Bool), v7 = .bool x7_3 ∧ Aside0 (wide_signed.j0 kq a0 a1 a2 x7_3 = some r) ∧ Aside0 (kq ≤ k) ∧ Drawn0 w wc)
 case first =>
  have H := HC4.out
  clear HC4
  by_cases c5 : a2 = true
  ·subst c5
   have H1 : (if a0 > 0 then (wide_signed.j0 k a0 a1 true true) else (wide_signed.j0 k a0 a1 true (decide (a1 > 9223372036854775808)))) = some r := by rw [if_pos rfl] at H; exact H
   clear H
   have H := H1
   clear H1
   by_cases c6 : a0 > 0
   ·rw [if_pos c6] at H
    have c6b0 : decide (0 < a0) = true := decide_eq_true c6
    clear c6
    (first | rw [c6b0] | (simp only [i64_w, i32_w]; rw [c6b0]) | skip)
    have H' := Aside0.mk H
    clear H
    go_wp2
    go_meet
    case rel => exact ⟨_, (true), (by first | rfl | (simp; done) | (simp [*]; done)), H', ⟨by first | omega | exact Nat.le_refl _⟩, by repeat (first | exact Drawn0.refl _ | apply Drawn0.step)⟩
   ·rw [if_neg c6] at H
    have c6b0 : decide (0 < a0) = false := decide_eq_false c6
    clear c6
    (first | rw [c6b0] | (simp only [i64_w, i32_w]; rw [c6b0]) | skip)
    have H' := Aside0.mk H
    clear H
    go_wp2
    go_meet
    case rel => exact ⟨_, (decide (a1 > 9223372036854775808)), (by first | rfl | (simp; done) | (simp [*]; done)), H', ⟨by first | omega | exact Nat.le_refl _⟩, by repeat (first | exact Drawn0.refl _ | apply Drawn0.step)⟩
  ·replace c5 := Bool.eq_false_iff.mpr c5
   subst c5
   have H1 : (wide_signed.j0 k a0 a1 false false) = some r := by rw [if_neg (show ¬ (false = true) by decide)] at H; exact H
   clear H
   have H := H1
   clear H1
   have H' := Aside0.mk H
   clear H
   go_wp2
   go_meet
   case rel => exact ⟨_, (false), (by first | rfl | (simp; done) | (simp [*]; done)), H', ⟨by first | omega | exact Nat.le_refl _⟩, by repeat (first | exact Drawn0.refl _ | apply Drawn0.step)⟩
 case rest =>
  clear HC4
  try clear p2
  try clear c5
  try clear c6
  try clear c6b0
  obtain ⟨kq, x7_3, rfl, HA, HJ3, ⟨mc3, rfl⟩⟩ := hcut
  cases kq with
  | zero => exact absurd HA.out (by simp [wide_signed.j0])
  | succ kj3 =>
   have H := HA.out
   clear HA
   simp only [wide_signed.j0] at H
   by_cases c7 : x7_3 = true
   ·subst c7
    have H1 : (some (-9223372036854775808)) = some r := by rw [if_pos rfl] at H; exact H
    clear H
    have H := H1
    clear H1
    obtain rfl := Option.some.inj H
    go_wp2
    go_ret
    exact ⟨by first | rfl | (simp; done) | (simp [*]; done), by repeat (first | exact Drawn0.refl _ | apply Drawn0.step)⟩
   ·replace c7 := Bool.eq_false_iff.mpr c7
    subst c7
    have H1 : (if a2 = true then (some (wrap64 (IntKind.u64.wrap (-a1)))) else (if a0 > 0 then (some 9223372036854775807) else (if a1 > 9223372036854775807 then (some 9223372036854775807) else (some (wrap64 (a1)))))) = some r := by rw [if_neg (show ¬ (false = true) by decide)] at H; exact H
    clear H
    have H := H1
    clear H1
    by_cases c8 : a2 = true
    ·subst c8
     have H1 : (some (wrap64 (IntKind.u64.wrap (-a1)))) = some r := by rw [if_pos rfl] at H; exact H
     clear H
     have H := H1
     clear H1
     obtain rfl := Option.some.inj H
     go_wp2
     go_ret
     exact ⟨by first | rfl | (simp; done) | (simp [*]; done), by repeat (first | exact Drawn0.refl _ | apply Drawn0.step)⟩
    ·replace c8 := Bool.eq_false_iff.mpr c8
     subst c8
     have H1 : (if a0 > 0 then (some 9223372036854775807) else (if a1 > 9223372036854775807 then (some 9223372036854775807) else (some (wrap64 (a1))))) = some r := by rw [if_neg (show ¬ (false = true) by decide)] at H; exact H
     clear H
     have H := H1
     clear H1
     by_cases c9 : a0 > 0
     ·rw [if_pos c9] at H
      have c9b0 : decide (0 < a0) = true := decide_eq_true c9
      clear c9
      obtain rfl := Option.some.inj H
      go_wp2
      go_ret
      exact ⟨by first | rfl | (simp; done) | (simp [*]; done), by repeat (first | exact Drawn0.refl _ | apply Drawn0.step)⟩
     ·rw [if_neg c9] at H
      have c9b0 : decide (0 < a0) = false := decide_eq_false c9
      clear c9
      by_cases c10 : a1 > 9223372036854775807
      ·rw [if_pos c10] at H
       have c10b0 : decide (9223372036854775807 < a1) = true := decide_eq_true c10
       clear c10
       obtain rfl := Option.some.inj H
       go_wp2
       go_ret
       exact ⟨by first | rfl | (simp; done) | (simp [*]; done), by repeat (first | exact Drawn0.refl _ | apply Drawn0.step)⟩
      ·rw [if_neg c10] at H
       have c10b0 : decide (9223372036854775807 < a1) = false := decide_eq_false c10
       clear c10
       obtain rfl := Option.some.inj H
       go_wp2
       go_ret
       exact ⟨by first | rfl | (simp; done) | (simp [*]; done), by repeat (first | exact Drawn0.refl _ | apply Drawn0.step)⟩
def bits_LeadingZeros64.f (a0 : Int) : Option (Int) := if 0 ≤ a0 then (if a0 ≤ 18446744073709551615 then (some (64 - (Lib.bitLen a0.toNat : Int))) else (none)) else (none)
theorem bits_LeadingZeros64.calls (a0 : Int) (r : Int) (w : World) (h : bits_LeadingZeros64.f a0 = some r) :
  Calls Tryd.prog 83 #[.int .u64 a0] w fun e w' => e = .returned (.int .i64 r) ∧ Drawn0 w w' := by
 unfold bits_LeadingZeros64.f at h
 by_cases h0 : 0 ≤ a0
 ·rw [if_pos h0] at h
  by_cases h1 : a0 ≤ 18446744073709551615
  ·rw [if_pos h1] at h
   obtain rfl := Option.some.inj h
   exact (Tryd.bits_LeadingZeros64 a0 w h0 h1).mono fun e w' ⟨he, hw⟩ => ⟨he, by rw [hw]; exact Drawn0.refl _⟩
  ·rw [if_neg h1] at h; exact absurd h (by simp)
 ·rw [if_neg h0] at h; exact absurd h (by simp)
end Go.Proofs.YtkdmebekabmkkaaDoor.QA
