-- Written by wip/tools/pp.py over the kit's print.py; not trusted: Lean checks it.
import Derived.Test.YtabojpnelbmifaaQMx0
import Derived.Test.YtabojpnelbmifaaQMx1
namespace Go.Proofs.Ytabojpnelbmifaa.QM
open Go.Proofs.Ytabojpnelbmifaa.T
open Go.RowKit Go.Proofs.YtabojpnelbmifaaW.PrintWords Go.Proofs.YtabojpnelbmifaaW.PrintLast Go.Proofs.YtabojpnelbmifaaW.PrintMore
attribute [local go_sem] ext_call max2_int min2_int max_two min_two max_three min_three max_four min_four   -- for this text's walks alone
set_option linter.unusedVariables false
set_option linter.unusedSimpArgs false

/-! ### fixed_Floor: function 24 -/
def fixed_Floor.f (k : Nat) (a0 : Int) (a1 : Int) : Option (Int) := if a1 = 0 then (some 0) else ((fixed_size.f a0).bind fun t103 => ((fixed_size.f a1).bind fun t104 => (if t104 = 0 then (none) else (if ((decide (a0 < 0)) != (decide (a1 < 0))) = true then (if (Int.tmod t103 t104) = 0 then ((fixed_hold.f k (IntKind.u64.wrap (Int.tdiv t103 t104)) true).bind fun t105 => (some t105)) else ((fixed_hold.f k (IntKind.u64.wrap ((IntKind.u64.wrap (Int.tdiv t103 t104)) + 1)) true).bind fun t106 => (some t106))) else ((fixed_hold.f k (IntKind.u64.wrap (Int.tdiv t103 t104)) false).bind fun t107 => (some t107))))))
theorem fixed_Floor.mono : ∀ a0 a1 k, LeO (fixed_Floor.f k a0 a1) (fixed_Floor.f (k + 1) a0 a1) := by
 intro a0 a1 k
 unfold fixed_Floor.f
 repeat' first
   | (with_reducible exact fixed_hold.mono _ _ _)
   | (with_reducible exact LeO.refl _)
   | (with_reducible exact LeO.none _)
   | (with_reducible refine LeO.ite ?_ ?_)
   | (with_reducible refine LeO.bind ?_ (fun _ => ?_))
   | exact fixed_hold.mono _ _ _
   | exact LeO.none _
   | refine LeO.ite ?_ ?_
   | refine LeO.bind ?_ (fun _ => ?_)
set_option maxHeartbeats 8000000 in
set_option maxRecDepth 100000 in
theorem fixed_Floor.calls (k : Nat) (a0 : Int) (a1 : Int) (r : Int) (w : World) (h : fixed_Floor.f k a0 a1 = some r) :
  Calls Try.prog 24 #[.int .i64 a0, .int .i64 a1] w fun e w' => e = .returned (.int .i64 r) ∧ Drawn0 w w' := by
 have H : (if a1 = 0 then (some 0) else ((fixed_size.f a0).bind fun t103 => ((fixed_size.f a1).bind fun t104 => (if t104 = 0 then (none) else (if ((decide (a0 < 0)) != (decide (a1 < 0))) = true then (if (Int.tmod t103 t104) = 0 then ((fixed_hold.f k (IntKind.u64.wrap (Int.tdiv t103 t104)) true).bind fun t105 => (some t105)) else ((fixed_hold.f k (IntKind.u64.wrap ((IntKind.u64.wrap (Int.tdiv t103 t104)) + 1)) true).bind fun t106 => (some t106))) else ((fixed_hold.f k (IntKind.u64.wrap (Int.tdiv t103 t104)) false).bind fun t107 => (some t107))))))) = some r := h
 clear h
 by_cases c3 : a1 = 0
 ·rw [if_pos c3] at H
  have c3b0 : (a1 == 0) = true := beq_iff_eq.mpr c3
  have c3b1 : (a1 != 0) = false := bne_eq_false_iff_eq.mpr c3
  clear c3
  obtain rfl := Option.some.inj H
  go_enter Try.func24, Try.ntmps24
  go_wp2
  repeat (go_quiet (fail); try go_wp2)
  go_ret
  exact ⟨by first | rfl | (simp; done) | (simp [*]; done), by repeat (first | exact Drawn0.refl _ | apply Drawn0.step)⟩
 ·rw [if_neg c3] at H
  have c3b0 : (a1 == 0) = false := beq_eq_false_iff_ne.mpr c3
  have c3b1 : (a1 != 0) = true := bne_iff_ne.mpr c3
  replace H := Option.bind_eq_some_iff.mp H
  obtain ⟨t103, A40, H⟩ := H
  replace H : ((fixed_size.f a1).bind fun t104 => (if t104 = 0 then (none) else (if ((decide (a0 < 0)) != (decide (a1 < 0))) = true then (if (Int.tmod t103 t104) = 0 then ((fixed_hold.f k (IntKind.u64.wrap (Int.tdiv t103 t104)) true).bind fun t105 => (some t105)) else ((fixed_hold.f k (IntKind.u64.wrap ((IntKind.u64.wrap (Int.tdiv t103 t104)) + 1)) true).bind fun t106 => (some t106))) else ((fixed_hold.f k (IntKind.u64.wrap (Int.tdiv t103 t104)) false).bind fun t107 => (some t107))))) = some r := H
  have A4 := Aside0.mk A40
  clear A40
  replace H := Option.bind_eq_some_iff.mp H
  obtain ⟨t104, A50, H⟩ := H
  replace H : (if t104 = 0 then (none) else (if ((decide (a0 < 0)) != (decide (a1 < 0))) = true then (if (Int.tmod t103 t104) = 0 then ((fixed_hold.f k (IntKind.u64.wrap (Int.tdiv t103 t104)) true).bind fun t105 => (some t105)) else ((fixed_hold.f k (IntKind.u64.wrap ((IntKind.u64.wrap (Int.tdiv t103 t104)) + 1)) true).bind fun t106 => (some t106))) else ((fixed_hold.f k (IntKind.u64.wrap (Int.tdiv t103 t104)) false).bind fun t107 => (some t107)))) = some r := H
  have A5 := Aside0.mk A50
  clear A50
  by_cases c6 : t104 = 0
  ·rw [if_pos c6] at H
   exact absurd H (by simp)
  ·rw [if_neg c6] at H
   have c6b0 : (t104 == 0) = false := beq_eq_false_iff_ne.mpr c6
   have c6b1 : (t104 != 0) = true := bne_iff_ne.mpr c6
   by_cases c7 : ((decide (a0 < 0)) != (decide (a1 < 0))) = true
   ·rw [if_pos c7] at H
    have c7b0 : ((decide (a0 < 0)) != (decide (a1 < 0))) = true := c7
    (try (have c7b1 : decide ((decide (a0 < 0)) = (decide (a1 < 0))) = false := by simpa using c7))
    (try (have c7b2 : ((decide (a0 < 0)) == (decide (a1 < 0))) = false := by simpa using c7))
    (try (have c7b3 : ¬ ((decide (a0 < 0)) = (decide (a1 < 0))) := by simpa using c7))
    clear c7
    by_cases c8 : (Int.tmod t103 t104) = 0
    ·rw [if_pos c8] at H
     have c8b0 : ((Int.tmod t103 t104) == 0) = true := beq_iff_eq.mpr c8
     have c8b1 : ((Int.tmod t103 t104) != 0) = false := bne_eq_false_iff_eq.mpr c8
     clear c8
     replace H := Option.bind_eq_some_iff.mp H
     obtain ⟨t105, A90, H⟩ := H
     replace H : (some t105) = some r := H
     have A9 := Aside0.mk A90
     clear A90
     obtain rfl := Option.some.inj H
     go_enter Try.func24, Try.ntmps24
     go_wp2_with (first | (go_at_call 41; (with_reducible refine (fixed_size.calls a0 t103 _ A4.out).mono ?_); rintro e w' ⟨rfl, ⟨nd, rfl⟩⟩; (try first | exact ⟨rfl, _, World.drewN_drewN _ _ _⟩ | exact ⟨rfl, _, Eq.trans (World.drewN_drewN _ _ _) (congrArg (World.drewN _) (Nat.add_assoc _ _ _))⟩)) | (go_at_call 41; (with_reducible refine (fixed_size.calls a1 t104 _ A5.out).mono ?_); rintro e w' ⟨rfl, ⟨nd, rfl⟩⟩; (try first | exact ⟨rfl, _, World.drewN_drewN _ _ _⟩ | exact ⟨rfl, _, Eq.trans (World.drewN_drewN _ _ _) (congrArg (World.drewN _) (Nat.add_assoc _ _ _))⟩)) | (go_at_call 42; (with_reducible refine (fixed_hold.calls k (IntKind.u64.wrap (Int.tdiv t103 t104)) true t105 _ A9.out).mono ?_); rintro e w' ⟨rfl, ⟨nd, rfl⟩⟩; (try first | exact ⟨rfl, _, World.drewN_drewN _ _ _⟩ | exact ⟨rfl, _, Eq.trans (World.drewN_drewN _ _ _) (congrArg (World.drewN _) (Nat.add_assoc _ _ _))⟩)))
     repeat (go_quiet (first | (go_at_call 41; (with_reducible refine (fixed_size.calls a0 t103 _ A4.out).mono ?_); rintro e w' ⟨rfl, ⟨nd, rfl⟩⟩; (try first | exact ⟨rfl, _, World.drewN_drewN _ _ _⟩ | exact ⟨rfl, _, Eq.trans (World.drewN_drewN _ _ _) (congrArg (World.drewN _) (Nat.add_assoc _ _ _))⟩)) | (go_at_call 41; (with_reducible refine (fixed_size.calls a1 t104 _ A5.out).mono ?_); rintro e w' ⟨rfl, ⟨nd, rfl⟩⟩; (try first | exact ⟨rfl, _, World.drewN_drewN _ _ _⟩ | exact ⟨rfl, _, Eq.trans (World.drewN_drewN _ _ _) (congrArg (World.drewN _) (Nat.add_assoc _ _ _))⟩)) | (go_at_call 42; (with_reducible refine (fixed_hold.calls k (IntKind.u64.wrap (Int.tdiv t103 t104)) true t105 _ A9.out).mono ?_); rintro e w' ⟨rfl, ⟨nd, rfl⟩⟩; (try first | exact ⟨rfl, _, World.drewN_drewN _ _ _⟩ | exact ⟨rfl, _, Eq.trans (World.drewN_drewN _ _ _) (congrArg (World.drewN _) (Nat.add_assoc _ _ _))⟩))); try go_wp2_with (first | (go_at_call 41; (with_reducible refine (fixed_size.calls a0 t103 _ A4.out).mono ?_); rintro e w' ⟨rfl, ⟨nd, rfl⟩⟩; (try first | exact ⟨rfl, _, World.drewN_drewN _ _ _⟩ | exact ⟨rfl, _, Eq.trans (World.drewN_drewN _ _ _) (congrArg (World.drewN _) (Nat.add_assoc _ _ _))⟩)) | (go_at_call 41; (with_reducible refine (fixed_size.calls a1 t104 _ A5.out).mono ?_); rintro e w' ⟨rfl, ⟨nd, rfl⟩⟩; (try first | exact ⟨rfl, _, World.drewN_drewN _ _ _⟩ | exact ⟨rfl, _, Eq.trans (World.drewN_drewN _ _ _) (congrArg (World.drewN _) (Nat.add_assoc _ _ _))⟩)) | (go_at_call 42; (with_reducible refine (fixed_hold.calls k (IntKind.u64.wrap (Int.tdiv t103 t104)) true t105 _ A9.out).mono ?_); rintro e w' ⟨rfl, ⟨nd, rfl⟩⟩; (try first | exact ⟨rfl, _, World.drewN_drewN _ _ _⟩ | exact ⟨rfl, _, Eq.trans (World.drewN_drewN _ _ _) (congrArg (World.drewN _) (Nat.add_assoc _ _ _))⟩))))
     go_ret
     exact ⟨by first | rfl | (simp; done) | (simp [*]; done), by repeat (first | exact Drawn0.refl _ | apply Drawn0.step)⟩
    ·rw [if_neg c8] at H
     have c8b0 : ((Int.tmod t103 t104) == 0) = false := beq_eq_false_iff_ne.mpr c8
     have c8b1 : ((Int.tmod t103 t104) != 0) = true := bne_iff_ne.mpr c8
     replace H := Option.bind_eq_some_iff.mp H
     obtain ⟨t106, A100, H⟩ := H
     replace H : (some t106) = some r := H
     have A10 := Aside0.mk A100
     clear A100
     obtain rfl := Option.some.inj H
     go_enter Try.func24, Try.ntmps24
     go_wp2_with (first | (go_at_call 41; (with_reducible refine (fixed_size.calls a0 t103 _ A4.out).mono ?_); rintro e w' ⟨rfl, ⟨nd, rfl⟩⟩; (try first | exact ⟨rfl, _, World.drewN_drewN _ _ _⟩ | exact ⟨rfl, _, Eq.trans (World.drewN_drewN _ _ _) (congrArg (World.drewN _) (Nat.add_assoc _ _ _))⟩)) | (go_at_call 41; (with_reducible refine (fixed_size.calls a1 t104 _ A5.out).mono ?_); rintro e w' ⟨rfl, ⟨nd, rfl⟩⟩; (try first | exact ⟨rfl, _, World.drewN_drewN _ _ _⟩ | exact ⟨rfl, _, Eq.trans (World.drewN_drewN _ _ _) (congrArg (World.drewN _) (Nat.add_assoc _ _ _))⟩)) | (go_at_call 42; (with_reducible refine (fixed_hold.calls k (IntKind.u64.wrap ((IntKind.u64.wrap (Int.tdiv t103 t104)) + 1)) true t106 _ A10.out).mono ?_); rintro e w' ⟨rfl, ⟨nd, rfl⟩⟩; (try first | exact ⟨rfl, _, World.drewN_drewN _ _ _⟩ | exact ⟨rfl, _, Eq.trans (World.drewN_drewN _ _ _) (congrArg (World.drewN _) (Nat.add_assoc _ _ _))⟩)))
     repeat (go_quiet (first | (go_at_call 41; (with_reducible refine (fixed_size.calls a0 t103 _ A4.out).mono ?_); rintro e w' ⟨rfl, ⟨nd, rfl⟩⟩; (try first | exact ⟨rfl, _, World.drewN_drewN _ _ _⟩ | exact ⟨rfl, _, Eq.trans (World.drewN_drewN _ _ _) (congrArg (World.drewN _) (Nat.add_assoc _ _ _))⟩)) | (go_at_call 41; (with_reducible refine (fixed_size.calls a1 t104 _ A5.out).mono ?_); rintro e w' ⟨rfl, ⟨nd, rfl⟩⟩; (try first | exact ⟨rfl, _, World.drewN_drewN _ _ _⟩ | exact ⟨rfl, _, Eq.trans (World.drewN_drewN _ _ _) (congrArg (World.drewN _) (Nat.add_assoc _ _ _))⟩)) | (go_at_call 42; (with_reducible refine (fixed_hold.calls k (IntKind.u64.wrap ((IntKind.u64.wrap (Int.tdiv t103 t104)) + 1)) true t106 _ A10.out).mono ?_); rintro e w' ⟨rfl, ⟨nd, rfl⟩⟩; (try first | exact ⟨rfl, _, World.drewN_drewN _ _ _⟩ | exact ⟨rfl, _, Eq.trans (World.drewN_drewN _ _ _) (congrArg (World.drewN _) (Nat.add_assoc _ _ _))⟩))); try go_wp2_with (first | (go_at_call 41; (with_reducible refine (fixed_size.calls a0 t103 _ A4.out).mono ?_); rintro e w' ⟨rfl, ⟨nd, rfl⟩⟩; (try first | exact ⟨rfl, _, World.drewN_drewN _ _ _⟩ | exact ⟨rfl, _, Eq.trans (World.drewN_drewN _ _ _) (congrArg (World.drewN _) (Nat.add_assoc _ _ _))⟩)) | (go_at_call 41; (with_reducible refine (fixed_size.calls a1 t104 _ A5.out).mono ?_); rintro e w' ⟨rfl, ⟨nd, rfl⟩⟩; (try first | exact ⟨rfl, _, World.drewN_drewN _ _ _⟩ | exact ⟨rfl, _, Eq.trans (World.drewN_drewN _ _ _) (congrArg (World.drewN _) (Nat.add_assoc _ _ _))⟩)) | (go_at_call 42; (with_reducible refine (fixed_hold.calls k (IntKind.u64.wrap ((IntKind.u64.wrap (Int.tdiv t103 t104)) + 1)) true t106 _ A10.out).mono ?_); rintro e w' ⟨rfl, ⟨nd, rfl⟩⟩; (try first | exact ⟨rfl, _, World.drewN_drewN _ _ _⟩ | exact ⟨rfl, _, Eq.trans (World.drewN_drewN _ _ _) (congrArg (World.drewN _) (Nat.add_assoc _ _ _))⟩))))
     go_ret
     exact ⟨by first | rfl | (simp; done) | (simp [*]; done), by repeat (first | exact Drawn0.refl _ | apply Drawn0.step)⟩
   ·rw [if_neg c7] at H
    have c7b0 : ((decide (a0 < 0)) != (decide (a1 < 0))) = false := by simpa using c7
    (try (have c7b1 : decide ((decide (a0 < 0)) = (decide (a1 < 0))) = true := by simpa using c7))
    (try (have c7b2 : ((decide (a0 < 0)) == (decide (a1 < 0))) = true := by simpa using c7))
    clear c7
    replace H := Option.bind_eq_some_iff.mp H
    obtain ⟨t107, A110, H⟩ := H
    replace H : (some t107) = some r := H
    have A11 := Aside0.mk A110
    clear A110
    obtain rfl := Option.some.inj H
    go_enter Try.func24, Try.ntmps24
    go_wp2_with (first | (go_at_call 41; (with_reducible refine (fixed_size.calls a0 t103 _ A4.out).mono ?_); rintro e w' ⟨rfl, ⟨nd, rfl⟩⟩; (try first | exact ⟨rfl, _, World.drewN_drewN _ _ _⟩ | exact ⟨rfl, _, Eq.trans (World.drewN_drewN _ _ _) (congrArg (World.drewN _) (Nat.add_assoc _ _ _))⟩)) | (go_at_call 41; (with_reducible refine (fixed_size.calls a1 t104 _ A5.out).mono ?_); rintro e w' ⟨rfl, ⟨nd, rfl⟩⟩; (try first | exact ⟨rfl, _, World.drewN_drewN _ _ _⟩ | exact ⟨rfl, _, Eq.trans (World.drewN_drewN _ _ _) (congrArg (World.drewN _) (Nat.add_assoc _ _ _))⟩)) | (go_at_call 42; (with_reducible refine (fixed_hold.calls k (IntKind.u64.wrap (Int.tdiv t103 t104)) false t107 _ A11.out).mono ?_); rintro e w' ⟨rfl, ⟨nd, rfl⟩⟩; (try first | exact ⟨rfl, _, World.drewN_drewN _ _ _⟩ | exact ⟨rfl, _, Eq.trans (World.drewN_drewN _ _ _) (congrArg (World.drewN _) (Nat.add_assoc _ _ _))⟩)))
    repeat (go_quiet (first | (go_at_call 41; (with_reducible refine (fixed_size.calls a0 t103 _ A4.out).mono ?_); rintro e w' ⟨rfl, ⟨nd, rfl⟩⟩; (try first | exact ⟨rfl, _, World.drewN_drewN _ _ _⟩ | exact ⟨rfl, _, Eq.trans (World.drewN_drewN _ _ _) (congrArg (World.drewN _) (Nat.add_assoc _ _ _))⟩)) | (go_at_call 41; (with_reducible refine (fixed_size.calls a1 t104 _ A5.out).mono ?_); rintro e w' ⟨rfl, ⟨nd, rfl⟩⟩; (try first | exact ⟨rfl, _, World.drewN_drewN _ _ _⟩ | exact ⟨rfl, _, Eq.trans (World.drewN_drewN _ _ _) (congrArg (World.drewN _) (Nat.add_assoc _ _ _))⟩)) | (go_at_call 42; (with_reducible refine (fixed_hold.calls k (IntKind.u64.wrap (Int.tdiv t103 t104)) false t107 _ A11.out).mono ?_); rintro e w' ⟨rfl, ⟨nd, rfl⟩⟩; (try first | exact ⟨rfl, _, World.drewN_drewN _ _ _⟩ | exact ⟨rfl, _, Eq.trans (World.drewN_drewN _ _ _) (congrArg (World.drewN _) (Nat.add_assoc _ _ _))⟩))); try go_wp2_with (first | (go_at_call 41; (with_reducible refine (fixed_size.calls a0 t103 _ A4.out).mono ?_); rintro e w' ⟨rfl, ⟨nd, rfl⟩⟩; (try first | exact ⟨rfl, _, World.drewN_drewN _ _ _⟩ | exact ⟨rfl, _, Eq.trans (World.drewN_drewN _ _ _) (congrArg (World.drewN _) (Nat.add_assoc _ _ _))⟩)) | (go_at_call 41; (with_reducible refine (fixed_size.calls a1 t104 _ A5.out).mono ?_); rintro e w' ⟨rfl, ⟨nd, rfl⟩⟩; (try first | exact ⟨rfl, _, World.drewN_drewN _ _ _⟩ | exact ⟨rfl, _, Eq.trans (World.drewN_drewN _ _ _) (congrArg (World.drewN _) (Nat.add_assoc _ _ _))⟩)) | (go_at_call 42; (with_reducible refine (fixed_hold.calls k (IntKind.u64.wrap (Int.tdiv t103 t104)) false t107 _ A11.out).mono ?_); rintro e w' ⟨rfl, ⟨nd, rfl⟩⟩; (try first | exact ⟨rfl, _, World.drewN_drewN _ _ _⟩ | exact ⟨rfl, _, Eq.trans (World.drewN_drewN _ _ _) (congrArg (World.drewN _) (Nat.add_assoc _ _ _))⟩))))
    go_ret
    exact ⟨by first | rfl | (simp; done) | (simp [*]; done), by repeat (first | exact Drawn0.refl _ | apply Drawn0.step)⟩

/-! ### fixed_Mod: function 25 -/
def fixed_Mod.j0 : Nat → Int → Int → Bool → Option (Int)
 | 0, _, _, _ => none
 | k + 1, x0, x1, x11 => if x11 = true then (some 0) else (if x1 = 0 then (none) else (if (Int.tmod x0 x1) = 0 then (some (Int.tmod x0 x1)) else (if ((decide ((Int.tmod x0 x1) < 0)) != (decide (x1 < 0))) = true then (some (wrap64 ((Int.tmod x0 x1) + x1))) else (some (Int.tmod x0 x1)))))
def fixed_Mod.f (k : Nat) (a0 : Int) (a1 : Int) : Option (Int) := if a1 = 0 then (fixed_Mod.j0 k a0 a1 true) else (fixed_Mod.j0 k a0 a1 (a1 == (-1)))
theorem fixed_Mod.mono_l : ∀ k, (∀ y0 y1 y2, LeO (fixed_Mod.j0 k y0 y1 y2) (fixed_Mod.j0 (k + 1) y0 y1 y2))
 | 0 => fun _ _ _ r h => by simp [fixed_Mod.j0] at h
 | k + 1 => by
  have ih0 := fixed_Mod.mono_l k
  ·intro y0 y1 y2
   unfold fixed_Mod.j0
   repeat' first
   | (with_reducible exact ih0 _ _ _)
   | (with_reducible exact LeO.refl _)
   | (with_reducible exact LeO.none _)
   | (with_reducible refine LeO.ite ?_ ?_)
   | (with_reducible refine LeO.bind ?_ (fun _ => ?_))
   | exact ih0 _ _ _
   | exact LeO.none _
   | refine LeO.ite ?_ ?_
   | refine LeO.bind ?_ (fun _ => ?_)
theorem fixed_Mod.mono : ∀ a0 a1 k, LeO (fixed_Mod.f k a0 a1) (fixed_Mod.f (k + 1) a0 a1) := by
 intro a0 a1 k
 have ih0 := fixed_Mod.mono_l k
 unfold fixed_Mod.f
 repeat' first
   | (with_reducible exact ih0 _ _ _)
   | (with_reducible exact LeO.refl _)
   | (with_reducible exact LeO.none _)
   | (with_reducible refine LeO.ite ?_ ?_)
   | (with_reducible refine LeO.bind ?_ (fun _ => ?_))
   | exact ih0 _ _ _
   | exact LeO.none _
   | refine LeO.ite ?_ ?_
   | refine LeO.bind ?_ (fun _ => ?_)
set_option maxHeartbeats 8000000 in
set_option maxRecDepth 100000 in
theorem fixed_Mod.calls (k : Nat) (a0 : Int) (a1 : Int) (r : Int) (w : World) (h : fixed_Mod.f k a0 a1 = some r) :
  Calls Try.prog 25 #[.int .i64 a0, .int .i64 a1] w fun e w' => e = .returned (.int .i64 r) ∧ Drawn0 w w' := by
 have H : (if a1 = 0 then (fixed_Mod.j0 k a0 a1 true) else (fixed_Mod.j0 k a0 a1 (a1 == (-1)))) = some r := h
 clear h
 have HC3 := Aside0.mk H
 clear H
 go_enter Try.func25, Try.ntmps25
 go_upto_region 1 with (fail)
 go_cut [11] (fun v11 wc => ∃ (kq : Nat) (x11_2 : Bool), v11 = .bool x11_2 ∧ Aside0 (fixed_Mod.j0 kq a0 a1 x11_2 = some r) ∧ Aside0 (kq ≤ k) ∧ Drawn0 w wc)
 case first =>
  have H := HC3.out
  clear HC3
  by_cases c4 : a1 = 0
  ·rw [if_pos c4] at H
   have c4b0 : (a1 == 0) = true := beq_iff_eq.mpr c4
   have c4b1 : (a1 != 0) = false := bne_eq_false_iff_eq.mpr c4
   clear c4
   (first | rw [c4b0] | (simp only [i64_w, i32_w]; rw [c4b0]) | skip)
   have H' := Aside0.mk H
   clear H
   go_wp2
   go_meet
   case rel => exact ⟨_, (true), (by first | rfl | (simp; done) | (simp [*]; done)), H', ⟨by first | omega | exact Nat.le_refl _⟩, by repeat (first | exact Drawn0.refl _ | apply Drawn0.step)⟩
  ·rw [if_neg c4] at H
   have c4b0 : (a1 == 0) = false := beq_eq_false_iff_ne.mpr c4
   have c4b1 : (a1 != 0) = true := bne_iff_ne.mpr c4
   (first | rw [c4b0] | (simp only [i64_w, i32_w]; rw [c4b0]) | skip)
   have H' := Aside0.mk H
   clear H
   go_wp2
   go_meet
   case rel => exact ⟨_, ((a1 == (-1))), (by first | rfl | (simp; done) | (simp [*]; done)), H', ⟨by first | omega | exact Nat.le_refl _⟩, by repeat (first | exact Drawn0.refl _ | apply Drawn0.step)⟩
 case rest =>
  clear HC3
  try clear c2
  try clear p2
  try clear c4
  try clear c4b0
  try clear c4b1
  obtain ⟨kq, x11_2, rfl, HA, HJ2, ⟨mc2, rfl⟩⟩ := hcut
  cases kq with
  | zero => exact absurd HA.out (by simp [fixed_Mod.j0])
  | succ kj2 =>
   have H := HA.out
   clear HA
   simp only [fixed_Mod.j0] at H
   by_cases c5 : x11_2 = true
   ·subst c5
    have H1 : (some 0) = some r := by rw [if_pos rfl] at H; exact H
    clear H
    have H := H1
    clear H1
    obtain rfl := Option.some.inj H
    go_wp2
    go_ret
    exact ⟨by first | rfl | (simp; done) | (simp [*]; done), by repeat (first | exact Drawn0.refl _ | apply Drawn0.step)⟩
   ·replace c5 := Bool.eq_false_iff.mpr c5
    subst c5
    have H1 : (if a1 = 0 then (none) else (if (Int.tmod a0 a1) = 0 then (some (Int.tmod a0 a1)) else (if ((decide ((Int.tmod a0 a1) < 0)) != (decide (a1 < 0))) = true then (some (wrap64 ((Int.tmod a0 a1) + a1))) else (some (Int.tmod a0 a1))))) = some r := by rw [if_neg (show ¬ (false = true) by decide)] at H; exact H
    clear H
    have H := H1
    clear H1
    by_cases c6 : a1 = 0
    ·rw [if_pos c6] at H
     exact absurd H (by simp)
    ·rw [if_neg c6] at H
     have c6b0 : (a1 == 0) = false := beq_eq_false_iff_ne.mpr c6
     have c6b1 : (a1 != 0) = true := bne_iff_ne.mpr c6
     by_cases c7 : (Int.tmod a0 a1) = 0
     ·rw [if_pos c7] at H
      have c7b0 : ((Int.tmod a0 a1) == 0) = true := beq_iff_eq.mpr c7
      have c7b1 : ((Int.tmod a0 a1) != 0) = false := bne_eq_false_iff_eq.mpr c7
      clear c7
      obtain rfl := Option.some.inj H
      go_wp2
      go_ret
      exact ⟨by first | rfl | (simp; done) | (simp [*]; done), by repeat (first | exact Drawn0.refl _ | apply Drawn0.step)⟩
     ·rw [if_neg c7] at H
      have c7b0 : ((Int.tmod a0 a1) == 0) = false := beq_eq_false_iff_ne.mpr c7
      have c7b1 : ((Int.tmod a0 a1) != 0) = true := bne_iff_ne.mpr c7
      by_cases c8 : ((decide ((Int.tmod a0 a1) < 0)) != (decide (a1 < 0))) = true
      ·rw [if_pos c8] at H
       have c8b0 : ((decide ((Int.tmod a0 a1) < 0)) != (decide (a1 < 0))) = true := c8
       (try (have c8b1 : decide ((decide ((Int.tmod a0 a1) < 0)) = (decide (a1 < 0))) = false := by simpa using c8))
       (try (have c8b2 : ((decide ((Int.tmod a0 a1) < 0)) == (decide (a1 < 0))) = false := by simpa using c8))
       (try (have c8b3 : ¬ ((decide ((Int.tmod a0 a1) < 0)) = (decide (a1 < 0))) := by simpa using c8))
       clear c8
       obtain rfl := Option.some.inj H
       go_wp2
       go_ret
       exact ⟨by first | rfl | (simp; done) | (simp [*]; done), by repeat (first | exact Drawn0.refl _ | apply Drawn0.step)⟩
      ·rw [if_neg c8] at H
       have c8b0 : ((decide ((Int.tmod a0 a1) < 0)) != (decide (a1 < 0))) = false := by simpa using c8
       (try (have c8b1 : decide ((decide ((Int.tmod a0 a1) < 0)) = (decide (a1 < 0))) = true := by simpa using c8))
       (try (have c8b2 : ((decide ((Int.tmod a0 a1) < 0)) == (decide (a1 < 0))) = true := by simpa using c8))
       clear c8
       obtain rfl := Option.some.inj H
       go_wp2
       go_ret
       exact ⟨by first | rfl | (simp; done) | (simp [*]; done), by repeat (first | exact Drawn0.refl _ | apply Drawn0.step)⟩

/-! ### bits_Mul64: function 71 -/
def bits_Mul64.f (a0 : Int) (a1 : Int) : Option (Int × Int) := if 0 ≤ a0 ∧ a0 < 18446744073709551616 ∧ 0 ≤ a1 ∧ a1 < 18446744073709551616 then some (a0 * a1 / 18446744073709551616, a0 * a1 % 18446744073709551616) else none
theorem bits_Mul64.calls (a0 : Int) (a1 : Int) (r1 : Int) (r2 : Int) (w : World) (h : bits_Mul64.f a0 a1 = some (r1, r2)) :
  Calls Try.prog 71 #[.int .u64 a0, .int .u64 a1] w fun e w' => e = .returned (.tuple #[.int .u64 r1, .int .u64 r2]) ∧ Drawn0 w w' := by
 unfold bits_Mul64.f at h
 by_cases c : 0 ≤ a0 ∧ a0 < 18446744073709551616 ∧ 0 ≤ a1 ∧ a1 < 18446744073709551616
 ·rw [if_pos c] at h
  obtain ⟨h0, h1, h2, h3⟩ := c
  obtain ⟨rfl, rfl⟩ := Prod.mk.inj (Option.some.inj h)
  obtain ⟨x, rfl⟩ := Int.eq_ofNat_of_zero_le h0
  obtain ⟨y, rfl⟩ := Int.eq_ofNat_of_zero_le h2
  exact (Try.bits_Mul64 x y (by omega) (by omega) w).mono fun e w' ⟨he, hw⟩ => ⟨by rw [he]; congr 4, by rw [hw]; exact Drawn0.refl _⟩
 ·rw [if_neg c] at h; exact absurd h (by simp)

/-! ### fixed_Mul: function 49 -/
def fixed_Mul.f (k : Nat) (a0 : Int) (a1 : Int) : Option (Int) := (fixed_size.f a0).bind fun t108 => ((fixed_size.f a1).bind fun t109 => ((bits_Mul64.f t108 t109).bind fun bt110 => (if bt110.1 = 0 then ((fixed_hold.f k bt110.2 ((decide (a0 < 0)) != (decide (a1 < 0)))).bind fun t112 => (some t112)) else ((fixed_hold.f k 18446744073709551615 ((decide (a0 < 0)) != (decide (a1 < 0)))).bind fun t113 => (some t113)))))
theorem fixed_Mul.mono : ∀ a0 a1 k, LeO (fixed_Mul.f k a0 a1) (fixed_Mul.f (k + 1) a0 a1) := by
 intro a0 a1 k
 unfold fixed_Mul.f
 repeat' first
   | (with_reducible exact fixed_hold.mono _ _ _)
   | (with_reducible exact LeO.refl _)
   | (with_reducible exact LeO.none _)
   | (with_reducible refine LeO.ite ?_ ?_)
   | (with_reducible refine LeO.bind ?_ (fun _ => ?_))
   | exact fixed_hold.mono _ _ _
   | exact LeO.none _
   | refine LeO.ite ?_ ?_
   | refine LeO.bind ?_ (fun _ => ?_)
set_option maxHeartbeats 8000000 in
set_option maxRecDepth 100000 in
theorem fixed_Mul.calls (k : Nat) (a0 : Int) (a1 : Int) (r : Int) (w : World) (h : fixed_Mul.f k a0 a1 = some r) :
  Calls Try.prog 49 #[.int .i64 a0, .int .i64 a1] w fun e w' => e = .returned (.int .i64 r) ∧ Drawn0 w w' := by
 have H : ((fixed_size.f a0).bind fun t108 => ((fixed_size.f a1).bind fun t109 => ((bits_Mul64.f t108 t109).bind fun bt110 => (if bt110.1 = 0 then ((fixed_hold.f k bt110.2 ((decide (a0 < 0)) != (decide (a1 < 0)))).bind fun t112 => (some t112)) else ((fixed_hold.f k 18446744073709551615 ((decide (a0 < 0)) != (decide (a1 < 0)))).bind fun t113 => (some t113)))))) = some r := h
 clear h
 replace H := Option.bind_eq_some_iff.mp H
 obtain ⟨t108, A30, H⟩ := H
 replace H : ((fixed_size.f a1).bind fun t109 => ((bits_Mul64.f t108 t109).bind fun bt110 => (if bt110.1 = 0 then ((fixed_hold.f k bt110.2 ((decide (a0 < 0)) != (decide (a1 < 0)))).bind fun t112 => (some t112)) else ((fixed_hold.f k 18446744073709551615 ((decide (a0 < 0)) != (decide (a1 < 0)))).bind fun t113 => (some t113))))) = some r := H
 have A3 := Aside0.mk A30
 clear A30
 replace H := Option.bind_eq_some_iff.mp H
 obtain ⟨t109, A40, H⟩ := H
 replace H : ((bits_Mul64.f t108 t109).bind fun bt110 => (if bt110.1 = 0 then ((fixed_hold.f k bt110.2 ((decide (a0 < 0)) != (decide (a1 < 0)))).bind fun t112 => (some t112)) else ((fixed_hold.f k 18446744073709551615 ((decide (a0 < 0)) != (decide (a1 < 0)))).bind fun t113 => (some t113)))) = some r := H
 have A4 := Aside0.mk A40
 clear A40
 replace H := Option.bind_eq_some_iff.mp H
 obtain ⟨⟨t110, t111⟩, A50, H⟩ := H
 replace H : (if t110 = 0 then ((fixed_hold.f k t111 ((decide (a0 < 0)) != (decide (a1 < 0)))).bind fun t112 => (some t112)) else ((fixed_hold.f k 18446744073709551615 ((decide (a0 < 0)) != (decide (a1 < 0)))).bind fun t113 => (some t113))) = some r := H
 have A5 := Aside0.mk A50
 clear A50
 by_cases c6 : t110 = 0
 ·rw [if_pos c6] at H
  have c6b0 : (t110 == 0) = true := beq_iff_eq.mpr c6
  have c6b1 : (t110 != 0) = false := bne_eq_false_iff_eq.mpr c6
  clear c6
  replace H := Option.bind_eq_some_iff.mp H
  obtain ⟨t112, A70, H⟩ := H
  replace H : (some t112) = some r := H
  have A7 := Aside0.mk A70
  clear A70
  obtain rfl := Option.some.inj H
  go_enter Try.func49, Try.ntmps49
  go_wp2_with (first | ((with_reducible refine gate_callee (f := 41) rfl ?_); refine goesL_ (some 9) rfl rfl Try.func41 (by kernel_rfl) rfl #[.int .i64 a0] rfl (by (try simp only [List.map_toArray, List.map_cons, List.map_nil]); first | done | rfl | (simp only [List.length_drop, List.length_take]; rfl)) ?_; (with_reducible refine (fixed_size.calls a0 t108 _ A3.out).mono ?_); rintro e w' ⟨rfl, ⟨nd, rfl⟩⟩; refine ⟨_, rfl, ?_⟩) | ((with_reducible refine gate_callee (f := 41) rfl ?_); refine goesL_ (some 11) rfl rfl Try.func41 (by kernel_rfl) rfl #[.int .i64 a1] rfl (by (try simp only [List.map_toArray, List.map_cons, List.map_nil]); first | done | rfl | (simp only [List.length_drop, List.length_take]; rfl)) ?_; (with_reducible refine (fixed_size.calls a1 t109 _ A4.out).mono ?_); rintro e w' ⟨rfl, ⟨nd, rfl⟩⟩; refine ⟨_, rfl, ?_⟩) | ((with_reducible refine gate_callee (f := 71) rfl ?_); refine goesL_ (some 12) rfl rfl Try.func71 (by kernel_rfl) rfl #[.int .u64 t108, .int .u64 t109] rfl (by (try simp only [List.map_toArray, List.map_cons, List.map_nil]); first | done | rfl | (simp only [List.length_drop, List.length_take]; rfl)) ?_; (with_reducible refine (bits_Mul64.calls t108 t109 t110 t111 _ A5.out).mono ?_); rintro e w' ⟨rfl, ⟨nd, rfl⟩⟩; refine ⟨_, rfl, ?_⟩) | ((with_reducible refine gate_callee (f := 42) rfl ?_); refine goesL_ (some 23) rfl rfl Try.func42 (by kernel_rfl) rfl #[.int .u64 t111, .bool ((decide (a0 < 0)) != (decide (a1 < 0)))] rfl (by (try simp only [List.map_toArray, List.map_cons, List.map_nil]); first | done | rfl | (simp only [List.length_drop, List.length_take]; rfl)) ?_; (with_reducible refine (fixed_hold.calls k t111 ((decide (a0 < 0)) != (decide (a1 < 0))) t112 _ A7.out).mono ?_); rintro e w' ⟨rfl, ⟨nd, rfl⟩⟩; refine ⟨_, rfl, ?_⟩))
  go_ret
  exact ⟨by first | rfl | (simp; done) | (simp [*]; done), by repeat (first | exact Drawn0.refl _ | apply Drawn0.step)⟩
 ·rw [if_neg c6] at H
  have c6b0 : (t110 == 0) = false := beq_eq_false_iff_ne.mpr c6
  have c6b1 : (t110 != 0) = true := bne_iff_ne.mpr c6
  replace H := Option.bind_eq_some_iff.mp H
  obtain ⟨t113, A80, H⟩ := H
  replace H : (some t113) = some r := H
  have A8 := Aside0.mk A80
  clear A80
  obtain rfl := Option.some.inj H
  go_enter Try.func49, Try.ntmps49
  go_wp2_with (first | ((with_reducible refine gate_callee (f := 41) rfl ?_); refine goesL_ (some 9) rfl rfl Try.func41 (by kernel_rfl) rfl #[.int .i64 a0] rfl (by (try simp only [List.map_toArray, List.map_cons, List.map_nil]); first | done | rfl | (simp only [List.length_drop, List.length_take]; rfl)) ?_; (with_reducible refine (fixed_size.calls a0 t108 _ A3.out).mono ?_); rintro e w' ⟨rfl, ⟨nd, rfl⟩⟩; refine ⟨_, rfl, ?_⟩) | ((with_reducible refine gate_callee (f := 41) rfl ?_); refine goesL_ (some 11) rfl rfl Try.func41 (by kernel_rfl) rfl #[.int .i64 a1] rfl (by (try simp only [List.map_toArray, List.map_cons, List.map_nil]); first | done | rfl | (simp only [List.length_drop, List.length_take]; rfl)) ?_; (with_reducible refine (fixed_size.calls a1 t109 _ A4.out).mono ?_); rintro e w' ⟨rfl, ⟨nd, rfl⟩⟩; refine ⟨_, rfl, ?_⟩) | ((with_reducible refine gate_callee (f := 71) rfl ?_); refine goesL_ (some 12) rfl rfl Try.func71 (by kernel_rfl) rfl #[.int .u64 t108, .int .u64 t109] rfl (by (try simp only [List.map_toArray, List.map_cons, List.map_nil]); first | done | rfl | (simp only [List.length_drop, List.length_take]; rfl)) ?_; (with_reducible refine (bits_Mul64.calls t108 t109 t110 t111 _ A5.out).mono ?_); rintro e w' ⟨rfl, ⟨nd, rfl⟩⟩; refine ⟨_, rfl, ?_⟩) | ((with_reducible refine gate_callee (f := 42) rfl ?_); refine goesL_ (some 23) rfl rfl Try.func42 (by kernel_rfl) rfl #[.int .u64 18446744073709551615, .bool ((decide (a0 < 0)) != (decide (a1 < 0)))] rfl (by (try simp only [List.map_toArray, List.map_cons, List.map_nil]); first | done | rfl | (simp only [List.length_drop, List.length_take]; rfl)) ?_; (with_reducible refine (fixed_hold.calls k 18446744073709551615 ((decide (a0 < 0)) != (decide (a1 < 0))) t113 _ A8.out).mono ?_); rintro e w' ⟨rfl, ⟨nd, rfl⟩⟩; refine ⟨_, rfl, ?_⟩))
  go_ret
  exact ⟨by first | rfl | (simp; done) | (simp [*]; done), by repeat (first | exact Drawn0.refl _ | apply Drawn0.step)⟩

/-! ### taps_size: function 33 -/
def taps_size.f (k : Nat) (a0 : Int) : Option (Int) := (fixed_Mul.f k a0 (-1)).bind fun t114 => (some (mx a0 t114))
theorem taps_size.mono : ∀ a0 k, LeO (taps_size.f k a0) (taps_size.f (k + 1) a0) := by
 intro a0 k
 unfold taps_size.f
 repeat' first
   | (with_reducible exact fixed_Mul.mono _ _ _)
   | (with_reducible exact LeO.refl _)
   | (with_reducible exact LeO.none _)
   | (with_reducible refine LeO.ite ?_ ?_)
   | (with_reducible refine LeO.bind ?_ (fun _ => ?_))
   | exact fixed_Mul.mono _ _ _
   | exact LeO.none _
   | refine LeO.ite ?_ ?_
   | refine LeO.bind ?_ (fun _ => ?_)
set_option maxHeartbeats 8000000 in
set_option maxRecDepth 100000 in
theorem taps_size.calls (k : Nat) (a0 : Int) (r : Int) (w : World) (h : taps_size.f k a0 = some r) :
  Calls Try.prog 33 #[.int .i64 a0] w fun e w' => e = .returned (.int .i64 r) ∧ Below w.heap.size w w' := by
 have HB := Aside0.mk (Below.refl w.heap.size w)
 have H : ((fixed_Mul.f k a0 (-1)).bind fun t114 => (some (mx a0 t114))) = some r := h
 clear h
 replace H := Option.bind_eq_some_iff.mp H
 obtain ⟨t114, A20, H⟩ := H
 replace H : (some (mx a0 t114)) = some r := H
 have A2 := Aside0.mk A20
 clear A20
 obtain ⟨ji3, hji3⟩ : ∃ j_ : Int, (mx a0 t114) = j_ := ⟨_, rfl⟩
 replace H : (some ji3) = some r := by first | (rw [hji3] at H; exact H) | (simp only [hji3] at H ⊢; exact H)
 (try rw [hji3] at A2)
 have hji3_ : (if a0 < t114 then t114 else a0) = ji3 := hji3
 obtain rfl := Option.some.inj H
 go_enter Try.func33, Try.ntmps33
 go_wp2_with (first | ((with_reducible refine gate_callee (f := 49) rfl ?_); refine goesL_ (some 5) rfl rfl Try.func49 (by kernel_rfl) rfl #[.int .i64 a0, .int .i64 (-1)] rfl (by (try simp only [List.map_toArray, List.map_cons, List.map_nil]); first | done | rfl | (simp only [List.length_drop, List.length_take]; rfl)) ?_; (with_reducible refine (fixed_Mul.calls k a0 (-1) t114 _ A2.out).mono ?_); rintro e w' ⟨rfl, ⟨nd, rfl⟩⟩; refine ⟨_, rfl, ?_⟩))
 go_ret
 exact ⟨by first | rfl | (simp [errW_none, errW_some] <;> rfl) | (simp only [← hji3]; first | rfl | (simp [errW_none, errW_some] <;> rfl)) | (simp [*, errW_none, errW_some] <;> rfl), by repeat (first | (with_reducible first | exact HB.out | apply below_alloc | apply pw_below_drewN | apply below_drew1) | exact HB.out)⟩

end Go.Proofs.Ytabojpnelbmifaa.QM
