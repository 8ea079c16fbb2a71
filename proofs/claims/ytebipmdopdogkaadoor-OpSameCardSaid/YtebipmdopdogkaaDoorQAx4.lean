-- Written by wip/tools/pp.py over the kit's print.py; not trusted: Lean checks it.
import Derived.Test.YtebipmdopdogkaaDoorQAx0
import Derived.Test.YtebipmdopdogkaaDoorQAx3
namespace Go.Proofs.YtebipmdopdogkaaDoor.QA
open Go.Proofs.YtebipmdopdogkaaDoor.T
open Go.RowKit Go.Proofs.YtebipmdopdogkaaDoorW.PrintWords Go.Proofs.YtebipmdopdogkaaDoorW.PrintLast Go.Proofs.YtebipmdopdogkaaDoorW.PrintMore
attribute [local go_sem] ext_call max2_int min2_int max_two min_two max_three min_three max_four min_four   -- for this text's walks alone
set_option linter.unusedVariables false
set_option linter.unusedSimpArgs false

/-! ### raw_Window_at1: function 39 -/
def raw_Window_at1.f (k : Nat) (a1 : Int) (a2 : Int) (a3 : Int) : Option (Int × Int) := (raw_may.f 1 a1 a2 a3).bind fun t112 => (if t112 = true then ((fixed_Floor.f k (wrap64 (a3 * a1)) a2).bind fun t113 => ((raw_ceil.f k (wrap64 ((wrap64 (a3 + 1)) * a1)) a2).bind fun t114 => ((fixed_Floor.f k (wrap64 ((wrap64 ((wrap64 ((wrap64 ((wrap64 (2 * a3)) + 1)) * a1)) - a2)) - (wrap64 (4 * (mx a1 a2))))) (wrap64 (2 * a2))).bind fun t115 => ((raw_ceil.f k (wrap64 ((wrap64 ((wrap64 ((wrap64 ((wrap64 (2 * a3)) + 1)) * a1)) - a2)) + (wrap64 (4 * (mx a1 a2))))) (wrap64 (2 * a2))).bind fun t116 => (some (wrap64 (t115 + 1), wrap64 (t116 - (wrap64 (t115 + 1))))))))) else (some (0, 0)))
theorem raw_Window_at1.mono : ∀ a1 a2 a3 k, LeO (raw_Window_at1.f k a1 a2 a3) (raw_Window_at1.f (k + 1) a1 a2 a3) := by
 intro a1 a2 a3 k
 unfold raw_Window_at1.f
 repeat' first
   | (with_reducible exact fixed_Floor.mono _ _ _)
   | (with_reducible exact raw_ceil.mono _ _ _)
   | (with_reducible exact LeO.refl _)
   | (with_reducible exact LeO.none _)
   | (with_reducible refine LeO.ite ?_ ?_)
   | (with_reducible refine LeO.bind ?_ (fun _ => ?_))
   | exact fixed_Floor.mono _ _ _
   | exact raw_ceil.mono _ _ _
   | exact LeO.none _
   | refine LeO.ite ?_ ?_
   | refine LeO.bind ?_ (fun _ => ?_)
set_option maxHeartbeats 8000000 in
set_option maxRecDepth 100000 in
theorem raw_Window_at1.calls (k : Nat) (a1 : Int) (a2 : Int) (a3 : Int) (r1 : Int) (r2 : Int) (w : World) (hG : GL w) (h : raw_Window_at1.f k a1 a2 a3 = some (r1, r2)) :
  Calls Tryd.prog 39 #[.int .i64 1, .int .i64 a1, .int .i64 a2, .int .i64 a3] w fun e w' => e = .returned (.tuple #[.int .i64 r1, .int .i64 r2]) ∧ Below w.heap.size w w' := by
 have HB := Aside0.mk (Below.refl w.heap.size w)
 have H : ((raw_may.f 1 a1 a2 a3).bind fun t112 => (if t112 = true then ((fixed_Floor.f k (wrap64 (a3 * a1)) a2).bind fun t113 => ((raw_ceil.f k (wrap64 ((wrap64 (a3 + 1)) * a1)) a2).bind fun t114 => ((fixed_Floor.f k (wrap64 ((wrap64 ((wrap64 ((wrap64 ((wrap64 (2 * a3)) + 1)) * a1)) - a2)) - (wrap64 (4 * (mx a1 a2))))) (wrap64 (2 * a2))).bind fun t115 => ((raw_ceil.f k (wrap64 ((wrap64 ((wrap64 ((wrap64 ((wrap64 (2 * a3)) + 1)) * a1)) - a2)) + (wrap64 (4 * (mx a1 a2))))) (wrap64 (2 * a2))).bind fun t116 => (some (wrap64 (t115 + 1), wrap64 (t116 - (wrap64 (t115 + 1))))))))) else (some (0, 0)))) = some (r1, r2) := h
 clear h
 obtain ⟨⟨h0_0, h0_1, h0_2, h0_3, h0_4, h0_5⟩, ⟨ga1_, gc1_, gl1_, gs1_, h1_0, h1_1, h1_2⟩⟩ := hG
 replace H := Option.bind_eq_some_iff.mp H
 obtain ⟨t112, A50, H⟩ := H
 replace H : (if t112 = true then ((fixed_Floor.f k (wrap64 (a3 * a1)) a2).bind fun t113 => ((raw_ceil.f k (wrap64 ((wrap64 (a3 + 1)) * a1)) a2).bind fun t114 => ((fixed_Floor.f k (wrap64 ((wrap64 ((wrap64 ((wrap64 ((wrap64 (2 * a3)) + 1)) * a1)) - a2)) - (wrap64 (4 * (mx a1 a2))))) (wrap64 (2 * a2))).bind fun t115 => ((raw_ceil.f k (wrap64 ((wrap64 ((wrap64 ((wrap64 ((wrap64 (2 * a3)) + 1)) * a1)) - a2)) + (wrap64 (4 * (mx a1 a2))))) (wrap64 (2 * a2))).bind fun t116 => (some (wrap64 (t115 + 1), wrap64 (t116 - (wrap64 (t115 + 1))))))))) else (some (0, 0))) = some (r1, r2) := H
 have A5 := Aside0.mk A50
 clear A50
 by_cases c6 : t112 = true
 ·subst c6
  have H1 : ((fixed_Floor.f k (wrap64 (a3 * a1)) a2).bind fun t113 => ((raw_ceil.f k (wrap64 ((wrap64 (a3 + 1)) * a1)) a2).bind fun t114 => ((fixed_Floor.f k (wrap64 ((wrap64 ((wrap64 ((wrap64 ((wrap64 (2 * a3)) + 1)) * a1)) - a2)) - (wrap64 (4 * (mx a1 a2))))) (wrap64 (2 * a2))).bind fun t115 => ((raw_ceil.f k (wrap64 ((wrap64 ((wrap64 ((wrap64 ((wrap64 (2 * a3)) + 1)) * a1)) - a2)) + (wrap64 (4 * (mx a1 a2))))) (wrap64 (2 * a2))).bind fun t116 => (some (wrap64 (t115 + 1), wrap64 (t116 - (wrap64 (t115 + 1))))))))) = some (r1, r2) := by rw [if_pos rfl] at H; exact H
  clear H
  have H := H1
  clear H1
  replace H := Option.bind_eq_some_iff.mp H
  obtain ⟨t113, A70, H⟩ := H
  replace H : ((raw_ceil.f k (wrap64 ((wrap64 (a3 + 1)) * a1)) a2).bind fun t114 => ((fixed_Floor.f k (wrap64 ((wrap64 ((wrap64 ((wrap64 ((wrap64 (2 * a3)) + 1)) * a1)) - a2)) - (wrap64 (4 * (mx a1 a2))))) (wrap64 (2 * a2))).bind fun t115 => ((raw_ceil.f k (wrap64 ((wrap64 ((wrap64 ((wrap64 ((wrap64 (2 * a3)) + 1)) * a1)) - a2)) + (wrap64 (4 * (mx a1 a2))))) (wrap64 (2 * a2))).bind fun t116 => (some (wrap64 (t115 + 1), wrap64 (t116 - (wrap64 (t115 + 1)))))))) = some (r1, r2) := H
  have A7 := Aside0.mk A70
  clear A70
  replace H := Option.bind_eq_some_iff.mp H
  obtain ⟨t114, A80, H⟩ := H
  replace H : ((fixed_Floor.f k (wrap64 ((wrap64 ((wrap64 ((wrap64 ((wrap64 (2 * a3)) + 1)) * a1)) - a2)) - (wrap64 (4 * (mx a1 a2))))) (wrap64 (2 * a2))).bind fun t115 => ((raw_ceil.f k (wrap64 ((wrap64 ((wrap64 ((wrap64 ((wrap64 (2 * a3)) + 1)) * a1)) - a2)) + (wrap64 (4 * (mx a1 a2))))) (wrap64 (2 * a2))).bind fun t116 => (some (wrap64 (t115 + 1), wrap64 (t116 - (wrap64 (t115 + 1))))))) = some (r1, r2) := H
  have A8 := Aside0.mk A80
  clear A80
  obtain ⟨ji9, hji9⟩ : ∃ j_ : Int, (mx a1 a2) = j_ := ⟨_, rfl⟩
  replace H : ((fixed_Floor.f k (wrap64 ((wrap64 ((wrap64 ((wrap64 ((wrap64 (2 * a3)) + 1)) * a1)) - a2)) - (wrap64 (4 * (ji9))))) (wrap64 (2 * a2))).bind fun t115 => ((raw_ceil.f k (wrap64 ((wrap64 ((wrap64 ((wrap64 ((wrap64 (2 * a3)) + 1)) * a1)) - a2)) + (wrap64 (4 * (ji9))))) (wrap64 (2 * a2))).bind fun t116 => (some (wrap64 (t115 + 1), wrap64 (t116 - (wrap64 (t115 + 1))))))) = some (r1, r2) := by first | (rw [hji9] at H; exact H) | (simp only [hji9] at H ⊢; exact H)
  (try rw [hji9] at A5)
  (try rw [hji9] at A7)
  (try rw [hji9] at A8)
  have hji9_ : (if a1 < a2 then a2 else a1) = ji9 := hji9
  replace H := Option.bind_eq_some_iff.mp H
  obtain ⟨t115, A100, H⟩ := H
  replace H : ((raw_ceil.f k (wrap64 ((wrap64 ((wrap64 ((wrap64 ((wrap64 (2 * a3)) + 1)) * a1)) - a2)) + (wrap64 (4 * (ji9))))) (wrap64 (2 * a2))).bind fun t116 => (some (wrap64 (t115 + 1), wrap64 (t116 - (wrap64 (t115 + 1)))))) = some (r1, r2) := H
  have A10 := Aside0.mk A100
  clear A100
  replace H := Option.bind_eq_some_iff.mp H
  obtain ⟨t116, A110, H⟩ := H
  replace H : (some (wrap64 (t115 + 1), wrap64 (t116 - (wrap64 (t115 + 1))))) = some (r1, r2) := H
  have A11 := Aside0.mk A110
  clear A110
  simp only [Option.some.injEq, Prod.mk.injEq] at H
  obtain ⟨rfl, rfl⟩ := H
  go_enter Tryd.func39, Tryd.ntmps39
  go_wp2_with (first | (go_at_call 52; (with_reducible refine (raw_may.calls 1 a1 a2 a3 true _ A5.out).mono ?_); rintro e w' ⟨rfl, ⟨nd, rfl⟩⟩; (try first | exact ⟨rfl, _, World.drewN_drewN _ _ _⟩ | exact ⟨rfl, _, Eq.trans (World.drewN_drewN _ _ _) (congrArg (World.drewN _) (Nat.add_assoc _ _ _))⟩)) | (go_at_call 44; (with_reducible refine (fixed_Floor.calls k (wrap64 (a3 * a1)) a2 t113 _ A7.out).mono ?_); rintro e w' ⟨rfl, ⟨nd, rfl⟩⟩; (try first | exact ⟨rfl, _, World.drewN_drewN _ _ _⟩ | exact ⟨rfl, _, Eq.trans (World.drewN_drewN _ _ _) (congrArg (World.drewN _) (Nat.add_assoc _ _ _))⟩)) | (go_at_call 53; (with_reducible refine (raw_ceil.calls k (wrap64 ((wrap64 (a3 + 1)) * a1)) a2 t114 _ A8.out).mono ?_); rintro e w' ⟨rfl, ⟨nd, rfl⟩⟩; (try first | exact ⟨rfl, _, World.drewN_drewN _ _ _⟩ | exact ⟨rfl, _, Eq.trans (World.drewN_drewN _ _ _) (congrArg (World.drewN _) (Nat.add_assoc _ _ _))⟩)) | (go_at_call 44; (with_reducible refine (fixed_Floor.calls k (wrap64 ((wrap64 ((wrap64 ((wrap64 ((wrap64 (2 * a3)) + 1)) * a1)) - a2)) - (wrap64 (4 * (ji9))))) (wrap64 (2 * a2)) t115 _ A10.out).mono ?_); rintro e w' ⟨rfl, ⟨nd, rfl⟩⟩; (try first | exact ⟨rfl, _, World.drewN_drewN _ _ _⟩ | exact ⟨rfl, _, Eq.trans (World.drewN_drewN _ _ _) (congrArg (World.drewN _) (Nat.add_assoc _ _ _))⟩)) | (go_at_call 53; (with_reducible refine (raw_ceil.calls k (wrap64 ((wrap64 ((wrap64 ((wrap64 ((wrap64 (2 * a3)) + 1)) * a1)) - a2)) + (wrap64 (4 * (ji9))))) (wrap64 (2 * a2)) t116 _ A11.out).mono ?_); rintro e w' ⟨rfl, ⟨nd, rfl⟩⟩; (try first | exact ⟨rfl, _, World.drewN_drewN _ _ _⟩ | exact ⟨rfl, _, Eq.trans (World.drewN_drewN _ _ _) (congrArg (World.drewN _) (Nat.add_assoc _ _ _))⟩)))
  repeat (go_quiet (first | (go_at_call 52; (with_reducible refine (raw_may.calls 1 a1 a2 a3 true _ A5.out).mono ?_); rintro e w' ⟨rfl, ⟨nd, rfl⟩⟩; (try first | exact ⟨rfl, _, World.drewN_drewN _ _ _⟩ | exact ⟨rfl, _, Eq.trans (World.drewN_drewN _ _ _) (congrArg (World.drewN _) (Nat.add_assoc _ _ _))⟩)) | (go_at_call 44; (with_reducible refine (fixed_Floor.calls k (wrap64 (a3 * a1)) a2 t113 _ A7.out).mono ?_); rintro e w' ⟨rfl, ⟨nd, rfl⟩⟩; (try first | exact ⟨rfl, _, World.drewN_drewN _ _ _⟩ | exact ⟨rfl, _, Eq.trans (World.drewN_drewN _ _ _) (congrArg (World.drewN _) (Nat.add_assoc _ _ _))⟩)) | (go_at_call 53; (with_reducible refine (raw_ceil.calls k (wrap64 ((wrap64 (a3 + 1)) * a1)) a2 t114 _ A8.out).mono ?_); rintro e w' ⟨rfl, ⟨nd, rfl⟩⟩; (try first | exact ⟨rfl, _, World.drewN_drewN _ _ _⟩ | exact ⟨rfl, _, Eq.trans (World.drewN_drewN _ _ _) (congrArg (World.drewN _) (Nat.add_assoc _ _ _))⟩)) | (go_at_call 44; (with_reducible refine (fixed_Floor.calls k (wrap64 ((wrap64 ((wrap64 ((wrap64 ((wrap64 (2 * a3)) + 1)) * a1)) - a2)) - (wrap64 (4 * (ji9))))) (wrap64 (2 * a2)) t115 _ A10.out).mono ?_); rintro e w' ⟨rfl, ⟨nd, rfl⟩⟩; (try first | exact ⟨rfl, _, World.drewN_drewN _ _ _⟩ | exact ⟨rfl, _, Eq.trans (World.drewN_drewN _ _ _) (congrArg (World.drewN _) (Nat.add_assoc _ _ _))⟩)) | (go_at_call 53; (with_reducible refine (raw_ceil.calls k (wrap64 ((wrap64 ((wrap64 ((wrap64 ((wrap64 (2 * a3)) + 1)) * a1)) - a2)) + (wrap64 (4 * (ji9))))) (wrap64 (2 * a2)) t116 _ A11.out).mono ?_); rintro e w' ⟨rfl, ⟨nd, rfl⟩⟩; (try first | exact ⟨rfl, _, World.drewN_drewN _ _ _⟩ | exact ⟨rfl, _, Eq.trans (World.drewN_drewN _ _ _) (congrArg (World.drewN _) (Nat.add_assoc _ _ _))⟩))); try go_wp2_with (first | (go_at_call 52; (with_reducible refine (raw_may.calls 1 a1 a2 a3 true _ A5.out).mono ?_); rintro e w' ⟨rfl, ⟨nd, rfl⟩⟩; (try first | exact ⟨rfl, _, World.drewN_drewN _ _ _⟩ | exact ⟨rfl, _, Eq.trans (World.drewN_drewN _ _ _) (congrArg (World.drewN _) (Nat.add_assoc _ _ _))⟩)) | (go_at_call 44; (with_reducible refine (fixed_Floor.calls k (wrap64 (a3 * a1)) a2 t113 _ A7.out).mono ?_); rintro e w' ⟨rfl, ⟨nd, rfl⟩⟩; (try first | exact ⟨rfl, _, World.drewN_drewN _ _ _⟩ | exact ⟨rfl, _, Eq.trans (World.drewN_drewN _ _ _) (congrArg (World.drewN _) (Nat.add_assoc _ _ _))⟩)) | (go_at_call 53; (with_reducible refine (raw_ceil.calls k (wrap64 ((wrap64 (a3 + 1)) * a1)) a2 t114 _ A8.out).mono ?_); rintro e w' ⟨rfl, ⟨nd, rfl⟩⟩; (try first | exact ⟨rfl, _, World.drewN_drewN _ _ _⟩ | exact ⟨rfl, _, Eq.trans (World.drewN_drewN _ _ _) (congrArg (World.drewN _) (Nat.add_assoc _ _ _))⟩)) | (go_at_call 44; (with_reducible refine (fixed_Floor.calls k (wrap64 ((wrap64 ((wrap64 ((wrap64 ((wrap64 (2 * a3)) + 1)) * a1)) - a2)) - (wrap64 (4 * (ji9))))) (wrap64 (2 * a2)) t115 _ A10.out).mono ?_); rintro e w' ⟨rfl, ⟨nd, rfl⟩⟩; (try first | exact ⟨rfl, _, World.drewN_drewN _ _ _⟩ | exact ⟨rfl, _, Eq.trans (World.drewN_drewN _ _ _) (congrArg (World.drewN _) (Nat.add_assoc _ _ _))⟩)) | (go_at_call 53; (with_reducible refine (raw_ceil.calls k (wrap64 ((wrap64 ((wrap64 ((wrap64 ((wrap64 (2 * a3)) + 1)) * a1)) - a2)) + (wrap64 (4 * (ji9))))) (wrap64 (2 * a2)) t116 _ A11.out).mono ?_); rintro e w' ⟨rfl, ⟨nd, rfl⟩⟩; (try first | exact ⟨rfl, _, World.drewN_drewN _ _ _⟩ | exact ⟨rfl, _, Eq.trans (World.drewN_drewN _ _ _) (congrArg (World.drewN _) (Nat.add_assoc _ _ _))⟩))))
  go_ret2
  exact ⟨by first | rfl | (simp [errW_none, errW_some] <;> rfl) | (simp only [← hji9]; first | rfl | (simp [errW_none, errW_some] <;> rfl)) | (simp [*, errW_none, errW_some] <;> rfl), by repeat (first | (with_reducible first | exact HB.out | apply below_alloc | apply pw_below_drewN | apply below_drew1) | exact HB.out)⟩
 ·replace c6 := Bool.eq_false_iff.mpr c6
  subst c6
  have H1 : (some (0, 0)) = some (r1, r2) := by rw [if_neg (show ¬ (false = true) by decide)] at H; exact H
  clear H
  have H := H1
  clear H1
  simp only [Option.some.injEq, Prod.mk.injEq] at H
  obtain ⟨rfl, rfl⟩ := H
  go_enter Tryd.func39, Tryd.ntmps39
  go_wp2_with (first | (go_at_call 52; (with_reducible refine (raw_may.calls 1 a1 a2 a3 false _ A5.out).mono ?_); rintro e w' ⟨rfl, ⟨nd, rfl⟩⟩; (try first | exact ⟨rfl, _, World.drewN_drewN _ _ _⟩ | exact ⟨rfl, _, Eq.trans (World.drewN_drewN _ _ _) (congrArg (World.drewN _) (Nat.add_assoc _ _ _))⟩)))
  repeat (go_quiet (first | (go_at_call 52; (with_reducible refine (raw_may.calls 1 a1 a2 a3 false _ A5.out).mono ?_); rintro e w' ⟨rfl, ⟨nd, rfl⟩⟩; (try first | exact ⟨rfl, _, World.drewN_drewN _ _ _⟩ | exact ⟨rfl, _, Eq.trans (World.drewN_drewN _ _ _) (congrArg (World.drewN _) (Nat.add_assoc _ _ _))⟩))); try go_wp2_with (first | (go_at_call 52; (with_reducible refine (raw_may.calls 1 a1 a2 a3 false _ A5.out).mono ?_); rintro e w' ⟨rfl, ⟨nd, rfl⟩⟩; (try first | exact ⟨rfl, _, World.drewN_drewN _ _ _⟩ | exact ⟨rfl, _, Eq.trans (World.drewN_drewN _ _ _) (congrArg (World.drewN _) (Nat.add_assoc _ _ _))⟩))))
  go_ret2
  exact ⟨by first | rfl | (simp [errW_none, errW_some] <;> rfl) | (simp [*, errW_none, errW_some] <;> rfl), by repeat (first | (with_reducible first | exact HB.out | apply below_alloc | apply pw_below_drewN | apply below_drew1) | exact HB.out)⟩

/-! ### raw_Window_at2: function 39 -/
def raw_Window_at2.f (k : Nat) (a1 : Int) (a2 : Int) (a3 : Int) : Option (Int × Int) := (raw_may.f 2 a1 a2 a3).bind fun t117 => (if t117 = true then ((fixed_Floor.f k (wrap64 (a3 * a1)) a2).bind fun t118 => ((raw_ceil.f k (wrap64 ((wrap64 (a3 + 1)) * a1)) a2).bind fun t119 => ((fixed_Floor.f k (wrap64 ((wrap64 ((wrap64 ((wrap64 ((wrap64 (2 * a3)) + 1)) * a1)) - a2)) - (wrap64 (6 * (mx a1 a2))))) (wrap64 (2 * a2))).bind fun t120 => ((raw_ceil.f k (wrap64 ((wrap64 ((wrap64 ((wrap64 ((wrap64 (2 * a3)) + 1)) * a1)) - a2)) + (wrap64 (6 * (mx a1 a2))))) (wrap64 (2 * a2))).bind fun t121 => (some (wrap64 (t120 + 1), wrap64 (t121 - (wrap64 (t120 + 1))))))))) else (some (0, 0)))
theorem raw_Window_at2.mono : ∀ a1 a2 a3 k, LeO (raw_Window_at2.f k a1 a2 a3) (raw_Window_at2.f (k + 1) a1 a2 a3) := by
 intro a1 a2 a3 k
 unfold raw_Window_at2.f
 repeat' first
   | (with_reducible exact fixed_Floor.mono _ _ _)
   | (with_reducible exact raw_ceil.mono _ _ _)
   | (with_reducible exact LeO.refl _)
   | (with_reducible exact LeO.none _)
   | (with_reducible refine LeO.ite ?_ ?_)
   | (with_reducible refine LeO.bind ?_ (fun _ => ?_))
   | exact fixed_Floor.mono _ _ _
   | exact raw_ceil.mono _ _ _
   | exact LeO.none _
   | refine LeO.ite ?_ ?_
   | refine LeO.bind ?_ (fun _ => ?_)
set_option maxHeartbeats 8000000 in
set_option maxRecDepth 100000 in
theorem raw_Window_at2.calls (k : Nat) (a1 : Int) (a2 : Int) (a3 : Int) (r1 : Int) (r2 : Int) (w : World) (hG : GL w) (h : raw_Window_at2.f k a1 a2 a3 = some (r1, r2)) :
  Calls Tryd.prog 39 #[.int .i64 2, .int .i64 a1, .int .i64 a2, .int .i64 a3] w fun e w' => e = .returned (.tuple #[.int .i64 r1, .int .i64 r2]) ∧ Below w.heap.size w w' := by
 have HB := Aside0.mk (Below.refl w.heap.size w)
 have H : ((raw_may.f 2 a1 a2 a3).bind fun t117 => (if t117 = true then ((fixed_Floor.f k (wrap64 (a3 * a1)) a2).bind fun t118 => ((raw_ceil.f k (wrap64 ((wrap64 (a3 + 1)) * a1)) a2).bind fun t119 => ((fixed_Floor.f k (wrap64 ((wrap64 ((wrap64 ((wrap64 ((wrap64 (2 * a3)) + 1)) * a1)) - a2)) - (wrap64 (6 * (mx a1 a2))))) (wrap64 (2 * a2))).bind fun t120 => ((raw_ceil.f k (wrap64 ((wrap64 ((wrap64 ((wrap64 ((wrap64 (2 * a3)) + 1)) * a1)) - a2)) + (wrap64 (6 * (mx a1 a2))))) (wrap64 (2 * a2))).bind fun t121 => (some (wrap64 (t120 + 1), wrap64 (t121 - (wrap64 (t120 + 1))))))))) else (some (0, 0)))) = some (r1, r2) := h
 clear h
 obtain ⟨⟨h0_0, h0_1, h0_2, h0_3, h0_4, h0_5⟩, ⟨ga1_, gc1_, gl1_, gs1_, h1_0, h1_1, h1_2⟩⟩ := hG
 replace H := Option.bind_eq_some_iff.mp H
 obtain ⟨t117, A50, H⟩ := H
 replace H : (if t117 = true then ((fixed_Floor.f k (wrap64 (a3 * a1)) a2).bind fun t118 => ((raw_ceil.f k (wrap64 ((wrap64 (a3 + 1)) * a1)) a2).bind fun t119 => ((fixed_Floor.f k (wrap64 ((wrap64 ((wrap64 ((wrap64 ((wrap64 (2 * a3)) + 1)) * a1)) - a2)) - (wrap64 (6 * (mx a1 a2))))) (wrap64 (2 * a2))).bind fun t120 => ((raw_ceil.f k (wrap64 ((wrap64 ((wrap64 ((wrap64 ((wrap64 (2 * a3)) + 1)) * a1)) - a2)) + (wrap64 (6 * (mx a1 a2))))) (wrap64 (2 * a2))).bind fun t121 => (some (wrap64 (t120 + 1), wrap64 (t121 - (wrap64 (t120 + 1))))))))) else (some (0, 0))) = some (r1, r2) := H
 have A5 := Aside0.mk A50
 clear A50
 by_cases c6 : t117 = true
 ·subst c6
  have H1 : ((fixed_Floor.f k (wrap64 (a3 * a1)) a2).bind fun t118 => ((raw_ceil.f k (wrap64 ((wrap64 (a3 + 1)) * a1)) a2).bind fun t119 => ((fixed_Floor.f k (wrap64 ((wrap64 ((wrap64 ((wrap64 ((wrap64 (2 * a3)) + 1)) * a1)) - a2)) - (wrap64 (6 * (mx a1 a2))))) (wrap64 (2 * a2))).bind fun t120 => ((raw_ceil.f k (wrap64 ((wrap64 ((wrap64 ((wrap64 ((wrap64 (2 * a3)) + 1)) * a1)) - a2)) + (wrap64 (6 * (mx a1 a2))))) (wrap64 (2 * a2))).bind fun t121 => (some (wrap64 (t120 + 1), wrap64 (t121 - (wrap64 (t120 + 1))))))))) = some (r1, r2) := by rw [if_pos rfl] at H; exact H
  clear H
  have H := H1
  clear H1
  replace H := Option.bind_eq_some_iff.mp H
  obtain ⟨t118, A70, H⟩ := H
  replace H : ((raw_ceil.f k (wrap64 ((wrap64 (a3 + 1)) * a1)) a2).bind fun t119 => ((fixed_Floor.f k (wrap64 ((wrap64 ((wrap64 ((wrap64 ((wrap64 (2 * a3)) + 1)) * a1)) - a2)) - (wrap64 (6 * (mx a1 a2))))) (wrap64 (2 * a2))).bind fun t120 => ((raw_ceil.f k (wrap64 ((wrap64 ((wrap64 ((wrap64 ((wrap64 (2 * a3)) + 1)) * a1)) - a2)) + (wrap64 (6 * (mx a1 a2))))) (wrap64 (2 * a2))).bind fun t121 => (some (wrap64 (t120 + 1), wrap64 (t121 - (wrap64 (t120 + 1)))))))) = some (r1, r2) := H
  have A7 := Aside0.mk A70
  clear A70
  replace H := Option.bind_eq_some_iff.mp H
  obtain ⟨t119, A80, H⟩ := H
  replace H : ((fixed_Floor.f k (wrap64 ((wrap64 ((wrap64 ((wrap64 ((wrap64 (2 * a3)) + 1)) * a1)) - a2)) - (wrap64 (6 * (mx a1 a2))))) (wrap64 (2 * a2))).bind fun t120 => ((raw_ceil.f k (wrap64 ((wrap64 ((wrap64 ((wrap64 ((wrap64 (2 * a3)) + 1)) * a1)) - a2)) + (wrap64 (6 * (mx a1 a2))))) (wrap64 (2 * a2))).bind fun t121 => (some (wrap64 (t120 + 1), wrap64 (t121 - (wrap64 (t120 + 1))))))) = some (r1, r2) := H
  have A8 := Aside0.mk A80
  clear A80
  obtain ⟨ji9, hji9⟩ : ∃ j_ : Int, (mx a1 a2) = j_ := ⟨_, rfl⟩
  replace H : ((fixed_Floor.f k (wrap64 ((wrap64 ((wrap64 ((wrap64 ((wrap64 (2 * a3)) + 1)) * a1)) - a2)) - (wrap64 (6 * (ji9))))) (wrap64 (2 * a2))).bind fun t120 => ((raw_ceil.f k (wrap64 ((wrap64 ((wrap64 ((wrap64 ((wrap64 (2 * a3)) + 1)) * a1)) - a2)) + (wrap64 (6 * (ji9))))) (wrap64 (2 * a2))).bind fun t121 => (some (wrap64 (t120 + 1), wrap64 (t121 - (wrap64 (t120 + 1))))))) = some (r1, r2) := by first | (rw [hji9] at H; exact H) | (simp only [hji9] at H ⊢; exact H)
  (try rw [hji9] at A5)
  (try rw [hji9] at A7)
  (try rw [hji9] at A8)
  have hji9_ : (if a1 < a2 then a2 else a1) = ji9 := hji9
  replace H := Option.bind_eq_some_iff.mp H
  obtain ⟨t120, A100, H⟩ := H
  replace H : ((raw_ceil.f k (wrap64 ((wrap64 ((wrap64 ((wrap64 ((wrap64 (2 * a3)) + 1)) * a1)) - a2)) + (wrap64 (6 * (ji9))))) (wrap64 (2 * a2))).bind fun t121 => (some (wrap64 (t120 + 1), wrap64 (t121 - (wrap64 (t120 + 1)))))) = some (r1, r2) := H
  have A10 := Aside0.mk A100
  clear A100
  replace H := Option.bind_eq_some_iff.mp H
  obtain ⟨t121, A110, H⟩ := H
  replace H : (some (wrap64 (t120 + 1), wrap64 (t121 - (wrap64 (t120 + 1))))) = some (r1, r2) := H
  have A11 := Aside0.mk A110
  clear A110
  simp only [Option.some.injEq, Prod.mk.injEq] at H
  obtain ⟨rfl, rfl⟩ := H
  go_enter Tryd.func39, Tryd.ntmps39
  go_wp2_with (first | (go_at_call 52; (with_reducible refine (raw_may.calls 2 a1 a2 a3 true _ A5.out).mono ?_); rintro e w' ⟨rfl, ⟨nd, rfl⟩⟩; (try first | exact ⟨rfl, _, World.drewN_drewN _ _ _⟩ | exact ⟨rfl, _, Eq.trans (World.drewN_drewN _ _ _) (congrArg (World.drewN _) (Nat.add_assoc _ _ _))⟩)) | (go_at_call 44; (with_reducible refine (fixed_Floor.calls k (wrap64 (a3 * a1)) a2 t118 _ A7.out).mono ?_); rintro e w' ⟨rfl, ⟨nd, rfl⟩⟩; (try first | exact ⟨rfl, _, World.drewN_drewN _ _ _⟩ | exact ⟨rfl, _, Eq.trans (World.drewN_drewN _ _ _) (congrArg (World.drewN _) (Nat.add_assoc _ _ _))⟩)) | (go_at_call 53; (with_reducible refine (raw_ceil.calls k (wrap64 ((wrap64 (a3 + 1)) * a1)) a2 t119 _ A8.out).mono ?_); rintro e w' ⟨rfl, ⟨nd, rfl⟩⟩; (try first | exact ⟨rfl, _, World.drewN_drewN _ _ _⟩ | exact ⟨rfl, _, Eq.trans (World.drewN_drewN _ _ _) (congrArg (World.drewN _) (Nat.add_assoc _ _ _))⟩)) | (go_at_call 44; (with_reducible refine (fixed_Floor.calls k (wrap64 ((wrap64 ((wrap64 ((wrap64 ((wrap64 (2 * a3)) + 1)) * a1)) - a2)) - (wrap64 (6 * (ji9))))) (wrap64 (2 * a2)) t120 _ A10.out).mono ?_); rintro e w' ⟨rfl, ⟨nd, rfl⟩⟩; (try first | exact ⟨rfl, _, World.drewN_drewN _ _ _⟩ | exact ⟨rfl, _, Eq.trans (World.drewN_drewN _ _ _) (congrArg (World.drewN _) (Nat.add_assoc _ _ _))⟩)) | (go_at_call 53; (with_reducible refine (raw_ceil.calls k (wrap64 ((wrap64 ((wrap64 ((wrap64 ((wrap64 (2 * a3)) + 1)) * a1)) - a2)) + (wrap64 (6 * (ji9))))) (wrap64 (2 * a2)) t121 _ A11.out).mono ?_); rintro e w' ⟨rfl, ⟨nd, rfl⟩⟩; (try first | exact ⟨rfl, _, World.drewN_drewN _ _ _⟩ | exact ⟨rfl, _, Eq.trans (World.drewN_drewN _ _ _) (congrArg (World.drewN _) (Nat.add_assoc _ _ _))⟩)))
  repeat (go_quiet (first | (go_at_call 52; (with_reducible refine (raw_may.calls 2 a1 a2 a3 true _ A5.out).mono ?_); rintro e w' ⟨rfl, ⟨nd, rfl⟩⟩; (try first | exact ⟨rfl, _, World.drewN_drewN _ _ _⟩ | exact ⟨rfl, _, Eq.trans (World.drewN_drewN _ _ _) (congrArg (World.drewN _) (Nat.add_assoc _ _ _))⟩)) | (go_at_call 44; (with_reducible refine (fixed_Floor.calls k (wrap64 (a3 * a1)) a2 t118 _ A7.out).mono ?_); rintro e w' ⟨rfl, ⟨nd, rfl⟩⟩; (try first | exact ⟨rfl, _, World.drewN_drewN _ _ _⟩ | exact ⟨rfl, _, Eq.trans (World.drewN_drewN _ _ _) (congrArg (World.drewN _) (Nat.add_assoc _ _ _))⟩)) | (go_at_call 53; (with_reducible refine (raw_ceil.calls k (wrap64 ((wrap64 (a3 + 1)) * a1)) a2 t119 _ A8.out).mono ?_); rintro e w' ⟨rfl, ⟨nd, rfl⟩⟩; (try first | exact ⟨rfl, _, World.drewN_drewN _ _ _⟩ | exact ⟨rfl, _, Eq.trans (World.drewN_drewN _ _ _) (congrArg (World.drewN _) (Nat.add_assoc _ _ _))⟩)) | (go_at_call 44; (with_reducible refine (fixed_Floor.calls k (wrap64 ((wrap64 ((wrap64 ((wrap64 ((wrap64 (2 * a3)) + 1)) * a1)) - a2)) - (wrap64 (6 * (ji9))))) (wrap64 (2 * a2)) t120 _ A10.out).mono ?_); rintro e w' ⟨rfl, ⟨nd, rfl⟩⟩; (try first | exact ⟨rfl, _, World.drewN_drewN _ _ _⟩ | exact ⟨rfl, _, Eq.trans (World.drewN_drewN _ _ _) (congrArg (World.drewN _) (Nat.add_assoc _ _ _))⟩)) | (go_at_call 53; (with_reducible refine (raw_ceil.calls k (wrap64 ((wrap64 ((wrap64 ((wrap64 ((wrap64 (2 * a3)) + 1)) * a1)) - a2)) + (wrap64 (6 * (ji9))))) (wrap64 (2 * a2)) t121 _ A11.out).mono ?_); rintro e w' ⟨rfl, ⟨nd, rfl⟩⟩; (try first | exact ⟨rfl, _, World.drewN_drewN _ _ _⟩ | exact ⟨rfl, _, Eq.trans (World.drewN_drewN _ _ _) (congrArg (World.drewN _) (Nat.add_assoc _ _ _))⟩))); try go_wp2_with (first | (go_at_call 52; (with_reducible refine (raw_may.calls 2 a1 a2 a3 true _ A5.out).mono ?_); rintro e w' ⟨rfl, ⟨nd, rfl⟩⟩; (try first | exact ⟨rfl, _, World.drewN_drewN _ _ _⟩ | exact ⟨rfl, _, Eq.trans (World.drewN_drewN _ _ _) (congrArg (World.drewN _) (Nat.add_assoc _ _ _))⟩)) | (go_at_call 44; (with_reducible refine (fixed_Floor.calls k (wrap64 (a3 * a1)) a2 t118 _ A7.out).mono ?_); rintro e w' ⟨rfl, ⟨nd, rfl⟩⟩; (try first | exact ⟨rfl, _, World.drewN_drewN _ _ _⟩ | exact ⟨rfl, _, Eq.trans (World.drewN_drewN _ _ _) (congrArg (World.drewN _) (Nat.add_assoc _ _ _))⟩)) | (go_at_call 53; (with_reducible refine (raw_ceil.calls k (wrap64 ((wrap64 (a3 + 1)) * a1)) a2 t119 _ A8.out).mono ?_); rintro e w' ⟨rfl, ⟨nd, rfl⟩⟩; (try first | exact ⟨rfl, _, World.drewN_drewN _ _ _⟩ | exact ⟨rfl, _, Eq.trans (World.drewN_drewN _ _ _) (congrArg (World.drewN _) (Nat.add_assoc _ _ _))⟩)) | (go_at_call 44; (with_reducible refine (fixed_Floor.calls k (wrap64 ((wrap64 ((wrap64 ((wrap64 ((wrap64 (2 * a3)) + 1)) * a1)) - a2)) - (wrap64 (6 * (ji9))))) (wrap64 (2 * a2)) t120 _ A10.out).mono ?_); rintro e w' ⟨rfl, ⟨nd, rfl⟩⟩; (try first | exact ⟨rfl, _, World.drewN_drewN _ _ _⟩ | exact ⟨rfl, _, Eq.trans (World.drewN_drewN _ _ _) (congrArg (World.drewN _) (Nat.add_assoc _ _ _))⟩)) | (go_at_call 53; (with_reducible refine (raw_ceil.calls k (wrap64 ((wrap64 ((wrap64 ((wrap64 ((wrap64 (2 * a3)) + 1)) * a1)) - a2)) + (wrap64 (6 * (ji9))))) (wrap64 (2 * a2)) t121 _ A11.out).mono ?_); rintro e w' ⟨rfl, ⟨nd, rfl⟩⟩; (try first | exact ⟨rfl, _, World.drewN_drewN _ _ _⟩ | exact ⟨rfl, _, Eq.trans (World.drewN_drewN _ _ _) (congrArg (World.drewN _) (Nat.add_assoc _ _ _))⟩))))
  go_ret2
  exact ⟨by first | rfl | (simp [errW_none, errW_some] <;> rfl) | (simp only [← hji9]; first | rfl | (simp [errW_none, errW_some] <;> rfl)) | (simp [*, errW_none, errW_some] <;> rfl), by repeat (first | (with_reducible first | exact HB.out | apply below_alloc | apply pw_below_drewN | apply below_drew1) | exact HB.out)⟩
 ·replace c6 := Bool.eq_false_iff.mpr c6
  subst c6
  have H1 : (some (0, 0)) = some (r1, r2) := by rw [if_neg (show ¬ (false = true) by decide)] at H; exact H
  clear H
  have H := H1
  clear H1
  simp only [Option.some.injEq, Prod.mk.injEq] at H
  obtain ⟨rfl, rfl⟩ := H
  go_enter Tryd.func39, Tryd.ntmps39
  go_wp2_with (first | (go_at_call 52; (with_reducible refine (raw_may.calls 2 a1 a2 a3 false _ A5.out).mono ?_); rintro e w' ⟨rfl, ⟨nd, rfl⟩⟩; (try first | exact ⟨rfl, _, World.drewN_drewN _ _ _⟩ | exact ⟨rfl, _, Eq.trans (World.drewN_drewN _ _ _) (congrArg (World.drewN _) (Nat.add_assoc _ _ _))⟩)))
  repeat (go_quiet (first | (go_at_call 52; (with_reducible refine (raw_may.calls 2 a1 a2 a3 false _ A5.out).mono ?_); rintro e w' ⟨rfl, ⟨nd, rfl⟩⟩; (try first | exact ⟨rfl, _, World.drewN_drewN _ _ _⟩ | exact ⟨rfl, _, Eq.trans (World.drewN_drewN _ _ _) (congrArg (World.drewN _) (Nat.add_assoc _ _ _))⟩))); try go_wp2_with (first | (go_at_call 52; (with_reducible refine (raw_may.calls 2 a1 a2 a3 false _ A5.out).mono ?_); rintro e w' ⟨rfl, ⟨nd, rfl⟩⟩; (try first | exact ⟨rfl, _, World.drewN_drewN _ _ _⟩ | exact ⟨rfl, _, Eq.trans (World.drewN_drewN _ _ _) (congrArg (World.drewN _) (Nat.add_assoc _ _ _))⟩))))
  go_ret2
  exact ⟨by first | rfl | (simp [errW_none, errW_some] <;> rfl) | (simp [*, errW_none, errW_some] <;> rfl), by repeat (first | (with_reducible first | exact HB.out | apply below_alloc | apply pw_below_drewN | apply below_drew1) | exact HB.out)⟩

/-! ### raw_Window_gen: function 39 -/
def raw_Window_gen.f (k : Nat) (a0 : Int) (a1 : Int) (a2 : Int) (a3 : Int) : Option (Int × Int) := (raw_may.f a0 a1 a2 a3).bind fun t122 => (if t122 = true then ((fixed_Floor.f k (wrap64 (a3 * a1)) a2).bind fun t123 => ((raw_ceil.f k (wrap64 ((wrap64 (a3 + 1)) * a1)) a2).bind fun t124 => (if a0 = 0 then (some (t123, wrap64 (t124 - t123))) else (none)))) else (some (0, 0)))
theorem raw_Window_gen.mono : ∀ a0 a1 a2 a3 k, LeO (raw_Window_gen.f k a0 a1 a2 a3) (raw_Window_gen.f (k + 1) a0 a1 a2 a3) := by
 intro a0 a1 a2 a3 k
 unfold raw_Window_gen.f
 repeat' first
   | (with_reducible exact fixed_Floor.mono _ _ _)
   | (with_reducible exact raw_ceil.mono _ _ _)
   | (with_reducible exact LeO.refl _)
   | (with_reducible exact LeO.none _)
   | (with_reducible refine LeO.ite ?_ ?_)
   | (with_reducible refine LeO.bind ?_ (fun _ => ?_))
   | exact fixed_Floor.mono _ _ _
   | exact raw_ceil.mono _ _ _
   | exact LeO.none _
   | refine LeO.ite ?_ ?_
   | refine LeO.bind ?_ (fun _ => ?_)
set_option maxHeartbeats 8000000 in
set_option maxRecDepth 100000 in
theorem raw_Window_gen.calls (k : Nat) (a0 : Int) (a1 : Int) (a2 : Int) (a3 : Int) (r1 : Int) (r2 : Int) (w : World) (hG : GL w) (h : raw_Window_gen.f k a0 a1 a2 a3 = some (r1, r2)) :
  Calls Tryd.prog 39 #[.int .i64 a0, .int .i64 a1, .int .i64 a2, .int .i64 a3] w fun e w' => e = .returned (.tuple #[.int .i64 r1, .int .i64 r2]) ∧ Below w.heap.size w w' := by
 have HB := Aside0.mk (Below.refl w.heap.size w)
 have H : ((raw_may.f a0 a1 a2 a3).bind fun t122 => (if t122 = true then ((fixed_Floor.f k (wrap64 (a3 * a1)) a2).bind fun t123 => ((raw_ceil.f k (wrap64 ((wrap64 (a3 + 1)) * a1)) a2).bind fun t124 => (if a0 = 0 then (some (t123, wrap64 (t124 - t123))) else (none)))) else (some (0, 0)))) = some (r1, r2) := h
 clear h
 obtain ⟨⟨h0_0, h0_1, h0_2, h0_3, h0_4, h0_5⟩, ⟨ga1_, gc1_, gl1_, gs1_, h1_0, h1_1, h1_2⟩⟩ := hG
 replace H := Option.bind_eq_some_iff.mp H
 obtain ⟨t122, A50, H⟩ := H
 replace H : (if t122 = true then ((fixed_Floor.f k (wrap64 (a3 * a1)) a2).bind fun t123 => ((raw_ceil.f k (wrap64 ((wrap64 (a3 + 1)) * a1)) a2).bind fun t124 => (if a0 = 0 then (some (t123, wrap64 (t124 - t123))) else (none)))) else (some (0, 0))) = some (r1, r2) := H
 have A5 := Aside0.mk A50
 clear A50
 by_cases c6 : t122 = true
 ·subst c6
  have H1 : ((fixed_Floor.f k (wrap64 (a3 * a1)) a2).bind fun t123 => ((raw_ceil.f k (wrap64 ((wrap64 (a3 + 1)) * a1)) a2).bind fun t124 => (if a0 = 0 then (some (t123, wrap64 (t124 - t123))) else (none)))) = some (r1, r2) := by rw [if_pos rfl] at H; exact H
  clear H
  have H := H1
  clear H1
  replace H := Option.bind_eq_some_iff.mp H
  obtain ⟨t123, A70, H⟩ := H
  replace H : ((raw_ceil.f k (wrap64 ((wrap64 (a3 + 1)) * a1)) a2).bind fun t124 => (if a0 = 0 then (some (t123, wrap64 (t124 - t123))) else (none))) = some (r1, r2) := H
  have A7 := Aside0.mk A70
  clear A70
  replace H := Option.bind_eq_some_iff.mp H
  obtain ⟨t124, A80, H⟩ := H
  replace H : (if a0 = 0 then (some (t123, wrap64 (t124 - t123))) else (none)) = some (r1, r2) := H
  have A8 := Aside0.mk A80
  clear A80
  by_cases c9 : a0 = 0
  ·rw [if_pos c9] at H
   have c9b0 : (a0 == 0) = true := beq_iff_eq.mpr c9
   have c9b1 : (a0 != 0) = false := bne_eq_false_iff_eq.mpr c9
   clear c9
   simp only [Option.some.injEq, Prod.mk.injEq] at H
   obtain ⟨rfl, rfl⟩ := H
   go_enter Tryd.func39, Tryd.ntmps39
   go_wp2_with (first | (go_at_call 52; (with_reducible refine (raw_may.calls a0 a1 a2 a3 true _ A5.out).mono ?_); rintro e w' ⟨rfl, ⟨nd, rfl⟩⟩; (try first | exact ⟨rfl, _, World.drewN_drewN _ _ _⟩ | exact ⟨rfl, _, Eq.trans (World.drewN_drewN _ _ _) (congrArg (World.drewN _) (Nat.add_assoc _ _ _))⟩)) | (go_at_call 44; (with_reducible refine (fixed_Floor.calls k (wrap64 (a3 * a1)) a2 t123 _ A7.out).mono ?_); rintro e w' ⟨rfl, ⟨nd, rfl⟩⟩; (try first | exact ⟨rfl, _, World.drewN_drewN _ _ _⟩ | exact ⟨rfl, _, Eq.trans (World.drewN_drewN _ _ _) (congrArg (World.drewN _) (Nat.add_assoc _ _ _))⟩)) | (go_at_call 53; (with_reducible refine (raw_ceil.calls k (wrap64 ((wrap64 (a3 + 1)) * a1)) a2 t124 _ A8.out).mono ?_); rintro e w' ⟨rfl, ⟨nd, rfl⟩⟩; (try first | exact ⟨rfl, _, World.drewN_drewN _ _ _⟩ | exact ⟨rfl, _, Eq.trans (World.drewN_drewN _ _ _) (congrArg (World.drewN _) (Nat.add_assoc _ _ _))⟩)))
   repeat (go_quiet (first | (go_at_call 52; (with_reducible refine (raw_may.calls a0 a1 a2 a3 true _ A5.out).mono ?_); rintro e w' ⟨rfl, ⟨nd, rfl⟩⟩; (try first | exact ⟨rfl, _, World.drewN_drewN _ _ _⟩ | exact ⟨rfl, _, Eq.trans (World.drewN_drewN _ _ _) (congrArg (World.drewN _) (Nat.add_assoc _ _ _))⟩)) | (go_at_call 44; (with_reducible refine (fixed_Floor.calls k (wrap64 (a3 * a1)) a2 t123 _ A7.out).mono ?_); rintro e w' ⟨rfl, ⟨nd, rfl⟩⟩; (try first | exact ⟨rfl, _, World.drewN_drewN _ _ _⟩ | exact ⟨rfl, _, Eq.trans (World.drewN_drewN _ _ _) (congrArg (World.drewN _) (Nat.add_assoc _ _ _))⟩)) | (go_at_call 53; (with_reducible refine (raw_ceil.calls k (wrap64 ((wrap64 (a3 + 1)) * a1)) a2 t124 _ A8.out).mono ?_); rintro e w' ⟨rfl, ⟨nd, rfl⟩⟩; (try first | exact ⟨rfl, _, World.drewN_drewN _ _ _⟩ | exact ⟨rfl, _, Eq.trans (World.drewN_drewN _ _ _) (congrArg (World.drewN _) (Nat.add_assoc _ _ _))⟩))); try go_wp2_with (first | (go_at_call 52; (with_reducible refine (raw_may.calls a0 a1 a2 a3 true _ A5.out).mono ?_); rintro e w' ⟨rfl, ⟨nd, rfl⟩⟩; (try first | exact ⟨rfl, _, World.drewN_drewN _ _ _⟩ | exact ⟨rfl, _, Eq.trans (World.drewN_drewN _ _ _) (congrArg (World.drewN _) (Nat.add_assoc _ _ _))⟩)) | (go_at_call 44; (with_reducible refine (fixed_Floor.calls k (wrap64 (a3 * a1)) a2 t123 _ A7.out).mono ?_); rintro e w' ⟨rfl, ⟨nd, rfl⟩⟩; (try first | exact ⟨rfl, _, World.drewN_drewN _ _ _⟩ | exact ⟨rfl, _, Eq.trans (World.drewN_drewN _ _ _) (congrArg (World.drewN _) (Nat.add_assoc _ _ _))⟩)) | (go_at_call 53; (with_reducible refine (raw_ceil.calls k (wrap64 ((wrap64 (a3 + 1)) * a1)) a2 t124 _ A8.out).mono ?_); rintro e w' ⟨rfl, ⟨nd, rfl⟩⟩; (try first | exact ⟨rfl, _, World.drewN_drewN _ _ _⟩ | exact ⟨rfl, _, Eq.trans (World.drewN_drewN _ _ _) (congrArg (World.drewN _) (Nat.add_assoc _ _ _))⟩))))
   go_ret2
   exact ⟨by first | rfl | (simp [errW_none, errW_some] <;> rfl) | (simp [*, errW_none, errW_some] <;> rfl), by repeat (first | (with_reducible first | exact HB.out | apply below_alloc | apply pw_below_drewN | apply below_drew1) | exact HB.out)⟩
  ·rw [if_neg c9] at H
   exact absurd H (by simp)
 ·replace c6 := Bool.eq_false_iff.mpr c6
  subst c6
  have H1 : (some (0, 0)) = some (r1, r2) := by rw [if_neg (show ¬ (false = true) by decide)] at H; exact H
  clear H
  have H := H1
  clear H1
  simp only [Option.some.injEq, Prod.mk.injEq] at H
  obtain ⟨rfl, rfl⟩ := H
  go_enter Tryd.func39, Tryd.ntmps39
  go_wp2_with (first | (go_at_call 52; (with_reducible refine (raw_may.calls a0 a1 a2 a3 false _ A5.out).mono ?_); rintro e w' ⟨rfl, ⟨nd, rfl⟩⟩; (try first | exact ⟨rfl, _, World.drewN_drewN _ _ _⟩ | exact ⟨rfl, _, Eq.trans (World.drewN_drewN _ _ _) (congrArg (World.drewN _) (Nat.add_assoc _ _ _))⟩)))
  repeat (go_quiet (first | (go_at_call 52; (with_reducible refine (raw_may.calls a0 a1 a2 a3 false _ A5.out).mono ?_); rintro e w' ⟨rfl, ⟨nd, rfl⟩⟩; (try first | exact ⟨rfl, _, World.drewN_drewN _ _ _⟩ | exact ⟨rfl, _, Eq.trans (World.drewN_drewN _ _ _) (congrArg (World.drewN _) (Nat.add_assoc _ _ _))⟩))); try go_wp2_with (first | (go_at_call 52; (with_reducible refine (raw_may.calls a0 a1 a2 a3 false _ A5.out).mono ?_); rintro e w' ⟨rfl, ⟨nd, rfl⟩⟩; (try first | exact ⟨rfl, _, World.drewN_drewN _ _ _⟩ | exact ⟨rfl, _, Eq.trans (World.drewN_drewN _ _ _) (congrArg (World.drewN _) (Nat.add_assoc _ _ _))⟩))))
  go_ret2
  exact ⟨by first | rfl | (simp [errW_none, errW_some] <;> rfl) | (simp [*, errW_none, errW_some] <;> rfl), by repeat (first | (with_reducible first | exact HB.out | apply below_alloc | apply pw_below_drewN | apply below_drew1) | exact HB.out)⟩

/-! ### raw_Window: function 39 -/
def raw_Window.f (k : Nat) (a0 : Int) (a1 : Int) (a2 : Int) (a3 : Int) : Option (Int × Int) := if a0 = 1 then raw_Window_at1.f k a1 a2 a3 else if a0 = 2 then raw_Window_at2.f k a1 a2 a3 else raw_Window_gen.f k a0 a1 a2 a3
theorem raw_Window.mono : ∀ a0 a1 a2 a3 k, LeO (raw_Window.f k a0 a1 a2 a3) (raw_Window.f (k + 1) a0 a1 a2 a3) := by
 intro a0 a1 a2 a3 k
 unfold raw_Window.f
 exact LeO.ite (raw_Window_at1.mono _ _ _ _) (LeO.ite (raw_Window_at2.mono _ _ _ _) (raw_Window_gen.mono _ _ _ _ _))
theorem raw_Window.calls (k : Nat) (a0 : Int) (a1 : Int) (a2 : Int) (a3 : Int) (r1 : Int) (r2 : Int) (w : World) (hG : GL w) (h : raw_Window.f k a0 a1 a2 a3 = some (r1, r2)) :
  Calls Tryd.prog 39 #[.int .i64 a0, .int .i64 a1, .int .i64 a2, .int .i64 a3] w fun e w' => e = .returned (.tuple #[.int .i64 r1, .int .i64 r2]) ∧ Below w.heap.size w w' := by
 unfold raw_Window.f at h
 by_cases c1 : a0 = 1
 ·subst c1; exact raw_Window_at1.calls k a1 a2 a3 r1 r2 w hG (by rw [if_pos rfl] at h; exact h)
 ·rw [if_neg c1] at h
  by_cases c2 : a0 = 2
  ·subst c2; exact raw_Window_at2.calls k a1 a2 a3 r1 r2 w hG (by rw [if_pos rfl] at h; exact h)
  ·rw [if_neg c2] at h
   exact raw_Window_gen.calls k a0 a1 a2 a3 r1 r2 w hG h

/-! ### wide_size: function 56 -/
def wide_size.f (a0 : Int) : Option (Int) := if a0 < 0 then (some (IntKind.u64.wrap (-(IntKind.u64.wrap (a0))))) else (some (IntKind.u64.wrap (a0)))
set_option maxHeartbeats 8000000 in
set_option maxRecDepth 100000 in
theorem wide_size.calls (a0 : Int) (r : Int) (w : World) (h : wide_size.f a0 = some r) :
  Calls Tryd.prog 56 #[.int .i64 a0] w fun e w' => e = .returned (.int .u64 r) ∧ Drawn0 w w' := by
 have H : (if a0 < 0 then (some (IntKind.u64.wrap (-(IntKind.u64.wrap (a0))))) else (some (IntKind.u64.wrap (a0)))) = some r := h
 clear h
 by_cases c2 : a0 < 0
 ·rw [if_pos c2] at H
  have c2b0 : decide (a0 < 0) = true := decide_eq_true c2
  clear c2
  obtain rfl := Option.some.inj H
  go_enter Tryd.func56, Tryd.ntmps56
  go_wp2
  go_ret
  exact ⟨by first | rfl | (simp; done) | (simp [*]; done), by repeat (first | exact Drawn0.refl _ | apply Drawn0.step)⟩
 ·rw [if_neg c2] at H
  have c2b0 : decide (a0 < 0) = false := decide_eq_false c2
  clear c2
  obtain rfl := Option.some.inj H
  go_enter Tryd.func56, Tryd.ntmps56
  go_wp2
  go_ret
  exact ⟨by first | rfl | (simp; done) | (simp [*]; done), by repeat (first | exact Drawn0.refl _ | apply Drawn0.step)⟩

/-! ### bits_Mul64: function 76 -/
def bits_Mul64.f (a0 : Int) (a1 : Int) : Option (Int × Int) := if 0 ≤ a0 ∧ a0 < 18446744073709551616 ∧ 0 ≤ a1 ∧ a1 < 18446744073709551616 then some (a0 * a1 / 18446744073709551616, a0 * a1 % 18446744073709551616) else none
theorem bits_Mul64.calls (a0 : Int) (a1 : Int) (r1 : Int) (r2 : Int) (w : World) (h : bits_Mul64.f a0 a1 = some (r1, r2)) :
  Calls Tryd.prog 76 #[.int .u64 a0, .int .u64 a1] w fun e w' => e = .returned (.tuple #[.int .u64 r1, .int .u64 r2]) ∧ Drawn0 w w' := by
 unfold bits_Mul64.f at h
 by_cases c : 0 ≤ a0 ∧ a0 < 18446744073709551616 ∧ 0 ≤ a1 ∧ a1 < 18446744073709551616
 ·rw [if_pos c] at h
  obtain ⟨h0, h1, h2, h3⟩ := c
  obtain ⟨rfl, rfl⟩ := Prod.mk.inj (Option.some.inj h)
  obtain ⟨x, rfl⟩ := Int.eq_ofNat_of_zero_le h0
  obtain ⟨y, rfl⟩ := Int.eq_ofNat_of_zero_le h2
  exact (Tryd.bits_Mul64 x y (by omega) (by omega) w).mono fun e w' ⟨he, hw⟩ => ⟨by rw [he]; congr 4, by rw [hw]; exact Drawn0.refl _⟩
 ·rw [if_neg c] at h; exact absurd h (by simp)

/-! ### wide_product: function 55 -/
def wide_product.f (a0 : Int) (a1 : Int) : Option (Int × Int × Bool) := (wide_size.f a0).bind fun t125 => ((wide_size.f a1).bind fun t126 => ((bits_Mul64.f t125 t126).bind fun bt127 => (some (bt127.1, bt127.2, ((decide (a0 < 0)) != (decide (a1 < 0)))))))
set_option maxHeartbeats 8000000 in
set_option maxRecDepth 100000 in
theorem wide_product.calls (a0 : Int) (a1 : Int) (r1 : Int) (r2 : Int) (r3 : Bool) (w : World) (h : wide_product.f a0 a1 = some (r1, r2, r3)) :
  Calls Tryd.prog 55 #[.int .i64 a0, .int .i64 a1] w fun e w' => e = .returned (.tuple #[.int .u64 r1, .int .u64 r2, .bool r3]) ∧ Drawn0 w w' := by
 have H : ((wide_size.f a0).bind fun t125 => ((wide_size.f a1).bind fun t126 => ((bits_Mul64.f t125 t126).bind fun bt127 => (some (bt127.1, bt127.2, ((decide (a0 < 0)) != (decide (a1 < 0)))))))) = some (r1, r2, r3) := h
 clear h
 replace H := Option.bind_eq_some_iff.mp H
 obtain ⟨t125, A30, H⟩ := H
 replace H : ((wide_size.f a1).bind fun t126 => ((bits_Mul64.f t125 t126).bind fun bt127 => (some (bt127.1, bt127.2, ((decide (a0 < 0)) != (decide (a1 < 0))))))) = some (r1, r2, r3) := H
 have A3 := Aside0.mk A30
 clear A30
 replace H := Option.bind_eq_some_iff.mp H
 obtain ⟨t126, A40, H⟩ := H
 replace H : ((bits_Mul64.f t125 t126).bind fun bt127 => (some (bt127.1, bt127.2, ((decide (a0 < 0)) != (decide (a1 < 0)))))) = some (r1, r2, r3) := H
 have A4 := Aside0.mk A40
 clear A40
 replace H := Option.bind_eq_some_iff.mp H
 obtain ⟨⟨t127, t128⟩, A50, H⟩ := H
 replace H : (some (t127, t128, ((decide (a0 < 0)) != (decide (a1 < 0))))) = some (r1, r2, r3) := H
 have A5 := Aside0.mk A50
 clear A50
 simp only [Option.some.injEq, Prod.mk.injEq] at H
 obtain ⟨rfl, rfl, rfl⟩ := H
 go_enter Tryd.func55, Tryd.ntmps55
 go_wp2_with (first | ((with_reducible refine gate_callee (f := 56) rfl ?_); refine goesL_ (some 9) rfl rfl Tryd.func56 (by kernel_rfl) rfl #[.int .i64 a0] rfl (by (try simp only [List.map_toArray, List.map_cons, List.map_nil]); first | done | rfl | (simp only [List.length_drop, List.length_take]; rfl)) ?_; (with_reducible refine (wide_size.calls a0 t125 _ A3.out).mono ?_); rintro e w' ⟨rfl, ⟨nd, rfl⟩⟩; refine ⟨_, rfl, ?_⟩) | ((with_reducible refine gate_callee (f := 56) rfl ?_); refine goesL_ (some 11) rfl rfl Tryd.func56 (by kernel_rfl) rfl #[.int .i64 a1] rfl (by (try simp only [List.map_toArray, List.map_cons, List.map_nil]); first | done | rfl | (simp only [List.length_drop, List.length_take]; rfl)) ?_; (with_reducible refine (wide_size.calls a1 t126 _ A4.out).mono ?_); rintro e w' ⟨rfl, ⟨nd, rfl⟩⟩; refine ⟨_, rfl, ?_⟩) | ((with_reducible refine gate_callee (f := 76) rfl ?_); refine goesL_ (some 12) rfl rfl Tryd.func76 (by kernel_rfl) rfl #[.int .u64 t125, .int .u64 t126] rfl (by (try simp only [List.map_toArray, List.map_cons, List.map_nil]); first | done | rfl | (simp only [List.length_drop, List.length_take]; rfl)) ?_; (with_reducible refine (bits_Mul64.calls t125 t126 t127 t128 _ A5.out).mono ?_); rintro e w' ⟨rfl, ⟨nd, rfl⟩⟩; refine ⟨_, rfl, ?_⟩))
 go_ret3
 exact ⟨by first | rfl | (simp; done) | (simp [*]; done), by repeat (first | exact Drawn0.refl _ | apply Drawn0.step)⟩

end Go.Proofs.YtebipmdopdogkaaDoor.QA
