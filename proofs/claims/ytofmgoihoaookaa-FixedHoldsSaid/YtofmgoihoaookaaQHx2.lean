-- Written by wip/tools/pp.py over the kit's print.py; not trusted: Lean checks it.
import Derived.Test.YtofmgoihoaookaaQHx0
import Derived.Test.YtofmgoihoaookaaQHx1
namespace Go.Proofs.Ytofmgoihoaookaa.QH
open Go.Proofs.Ytofmgoihoaookaa.T
open Go.RowKit Go.Proofs.YtofmgoihoaookaaW.PrintWords Go.Proofs.YtofmgoihoaookaaW.PrintLast Go.Proofs.YtofmgoihoaookaaW.PrintMore
attribute [local go_sem] max2_int min2_int max_two min_two max_three min_three max_four min_four   -- for this text's walks alone
set_option linter.unusedVariables false
set_option linter.unusedSimpArgs false

/-! ### fixed_Floor: function 20 -/
def fixed_Floor.f (k : Nat) (a0 : Int) (a1 : Int) : Option (Int) := if a1 = 0 then (some 0) else ((fixed_size.f a0).bind fun t110 => ((fixed_size.f a1).bind fun t111 => (if t111 = 0 then (none) else ((fixed_size.f a0).bind fun t112 => ((fixed_size.f a1).bind fun t113 => (if t113 = 0 then (none) else (if ((decide (a0 < 0)) != (decide (a1 < 0))) = true then (if (Int.tmod t112 t113) = 0 then ((fixed_hold.f k (IntKind.u64.wrap (Int.tdiv t110 t111)) true).bind fun t114 => (some t114)) else ((fixed_hold.f k (IntKind.u64.wrap ((IntKind.u64.wrap (Int.tdiv t110 t111)) + 1)) true).bind fun t115 => (some t115))) else ((fixed_hold.f k (IntKind.u64.wrap (Int.tdiv t110 t111)) false).bind fun t116 => (some t116)))))))))
theorem fixed_Floor.mono : ∀ a0 a1 k, LeO (fixed_Floor.f k a0 a1) (fixed_Floor.f (k + 1) a0 a1) := by
  intro a0 a1 k
  unfold fixed_Floor.f
  repeat' first
      | (with_reducible exact fixed_hold.mono _ _ _)
      | (with_reducible exact LeO.refl _)
      | (with_reducible exact LeO.none _)
      | (with_reducible refine LeO.ite ?_ ?_)
      | (with_reducible refine LeO.bind ?_ (fun _ => ?_))
      | exact fixed_hold.mono _ _ _
      | exact LeO.none _
      | refine LeO.ite ?_ ?_
      | refine LeO.bind ?_ (fun _ => ?_)
set_option maxHeartbeats 8000000 in
set_option maxRecDepth 100000 in
theorem fixed_Floor.calls (k : Nat) (a0 : Int) (a1 : Int) (r : Int) (w : World) (h : fixed_Floor.f k a0 a1 = some r) :
    Calls Try.prog 20 #[.int .i64 a0, .int .i64 a1] w fun e w' => e = .returned (.int .i64 r) ∧ Drawn0 w w' := by
  have H : (if a1 = 0 then (some 0) else ((fixed_size.f a0).bind fun t110 => ((fixed_size.f a1).bind fun t111 => (if t111 = 0 then (none) else ((fixed_size.f a0).bind fun t112 => ((fixed_size.f a1).bind fun t113 => (if t113 = 0 then (none) else (if ((decide (a0 < 0)) != (decide (a1 < 0))) = true then (if (Int.tmod t112 t113) = 0 then ((fixed_hold.f k (IntKind.u64.wrap (Int.tdiv t110 t111)) true).bind fun t114 => (some t114)) else ((fixed_hold.f k (IntKind.u64.wrap ((IntKind.u64.wrap (Int.tdiv t110 t111)) + 1)) true).bind fun t115 => (some t115))) else ((fixed_hold.f k (IntKind.u64.wrap (Int.tdiv t110 t111)) false).bind fun t116 => (some t116)))))))))) = some r := h
  clear h
  by_cases c3 : a1 = 0
  · rw [if_pos c3] at H
    have c3b0 : (a1 == 0) = true := beq_iff_eq.mpr c3
    have c3b1 : (a1 != 0) = false := bne_eq_false_iff_eq.mpr c3
    clear c3
    obtain rfl := Option.some.inj H
    go_enter Try.func20, Try.ntmps20
    go_wp2
    repeat (go_quiet (fail); try go_wp2)
    go_ret
    exact ⟨by first | rfl | (simp; done) | (simp [*]; done), by repeat (first | exact Drawn0.refl _ | apply Drawn0.step)⟩
  · rw [if_neg c3] at H
    have c3b0 : (a1 == 0) = false := beq_eq_false_iff_ne.mpr c3
    have c3b1 : (a1 != 0) = true := bne_iff_ne.mpr c3
    replace H := Option.bind_eq_some_iff.mp H
    obtain ⟨t110, A40, H⟩ := H
    replace H : ((fixed_size.f a1).bind fun t111 => (if t111 = 0 then (none) else ((fixed_size.f a0).bind fun t112 => ((fixed_size.f a1).bind fun t113 => (if t113 = 0 then (none) else (if ((decide (a0 < 0)) != (decide (a1 < 0))) = true then (if (Int.tmod t112 t113) = 0 then ((fixed_hold.f k (IntKind.u64.wrap (Int.tdiv t110 t111)) true).bind fun t114 => (some t114)) else ((fixed_hold.f k (IntKind.u64.wrap ((IntKind.u64.wrap (Int.tdiv t110 t111)) + 1)) true).bind fun t115 => (some t115))) else ((fixed_hold.f k (IntKind.u64.wrap (Int.tdiv t110 t111)) false).bind fun t116 => (some t116)))))))) = some r := H
    have A4 := Aside0.mk A40
    clear A40
    replace H := Option.bind_eq_some_iff.mp H
    obtain ⟨t111, A50, H⟩ := H
    replace H : (if t111 = 0 then (none) else ((fixed_size.f a0).bind fun t112 => ((fixed_size.f a1).bind fun t113 => (if t113 = 0 then (none) else (if ((decide (a0 < 0)) != (decide (a1 < 0))) = true then (if (Int.tmod t112 t113) = 0 then ((fixed_hold.f k (IntKind.u64.wrap (Int.tdiv t110 t111)) true).bind fun t114 => (some t114)) else ((fixed_hold.f k (IntKind.u64.wrap ((IntKind.u64.wrap (Int.tdiv t110 t111)) + 1)) true).bind fun t115 => (some t115))) else ((fixed_hold.f k (IntKind.u64.wrap (Int.tdiv t110 t111)) false).bind fun t116 => (some t116))))))) = some r := H
    have A5 := Aside0.mk A50
    clear A50
    by_cases c6 : t111 = 0
    · rw [if_pos c6] at H
      exact absurd H (by simp)
    · rw [if_neg c6] at H
      have c6b0 : (t111 == 0) = false := beq_eq_false_iff_ne.mpr c6
      have c6b1 : (t111 != 0) = true := bne_iff_ne.mpr c6
      replace H := Option.bind_eq_some_iff.mp H
      obtain ⟨t112, A70, H⟩ := H
      replace H : ((fixed_size.f a1).bind fun t113 => (if t113 = 0 then (none) else (if ((decide (a0 < 0)) != (decide (a1 < 0))) = true then (if (Int.tmod t112 t113) = 0 then ((fixed_hold.f k (IntKind.u64.wrap (Int.tdiv t110 t111)) true).bind fun t114 => (some t114)) else ((fixed_hold.f k (IntKind.u64.wrap ((IntKind.u64.wrap (Int.tdiv t110 t111)) + 1)) true).bind fun t115 => (some t115))) else ((fixed_hold.f k (IntKind.u64.wrap (Int.tdiv t110 t111)) false).bind fun t116 => (some t116))))) = some r := H
      have A7 := Aside0.mk A70
      obtain rfl : t110 = t112 := Option.some.inj (A4.out.symm.trans A7.out)
      clear A70
      replace H := Option.bind_eq_some_iff.mp H
      obtain ⟨t113, A80, H⟩ := H
      replace H : (if t113 = 0 then (none) else (if ((decide (a0 < 0)) != (decide (a1 < 0))) = true then (if (Int.tmod t110 t113) = 0 then ((fixed_hold.f k (IntKind.u64.wrap (Int.tdiv t110 t111)) true).bind fun t114 => (some t114)) else ((fixed_hold.f k (IntKind.u64.wrap ((IntKind.u64.wrap (Int.tdiv t110 t111)) + 1)) true).bind fun t115 => (some t115))) else ((fixed_hold.f k (IntKind.u64.wrap (Int.tdiv t110 t111)) false).bind fun t116 => (some t116)))) = some r := H
      have A8 := Aside0.mk A80
      obtain rfl : t111 = t113 := Option.some.inj (A5.out.symm.trans A8.out)
      clear A80
      by_cases c9 : t111 = 0
      · rw [if_pos c9] at H
        exact absurd H (by simp)
      · rw [if_neg c9] at H
        have c9b0 : (t111 == 0) = false := beq_eq_false_iff_ne.mpr c9
        have c9b1 : (t111 != 0) = true := bne_iff_ne.mpr c9
        by_cases c10 : ((decide (a0 < 0)) != (decide (a1 < 0))) = true
        · rw [if_pos c10] at H
          have c10b0 : ((decide (a0 < 0)) != (decide (a1 < 0))) = true := c10
          (try (have c10b1 : decide ((decide (a0 < 0)) = (decide (a1 < 0))) = false := by simpa using c10))
          (try (have c10b2 : ((decide (a0 < 0)) == (decide (a1 < 0))) = false := by simpa using c10))
          (try (have c10b3 : ¬ ((decide (a0 < 0)) = (decide (a1 < 0))) := by simpa using c10))
          clear c10
          by_cases c11 : (Int.tmod t110 t111) = 0
          · rw [if_pos c11] at H
            have c11b0 : ((Int.tmod t110 t111) == 0) = true := beq_iff_eq.mpr c11
            have c11b1 : ((Int.tmod t110 t111) != 0) = false := bne_eq_false_iff_eq.mpr c11
            clear c11
            replace H := Option.bind_eq_some_iff.mp H
            obtain ⟨t114, A120, H⟩ := H
            replace H : (some t114) = some r := H
            have A12 := Aside0.mk A120
            clear A120
            obtain rfl := Option.some.inj H
            go_enter Try.func20, Try.ntmps20
            go_wp2_with (first | (go_at_call 34; (with_reducible refine (fixed_size.calls a0 t110 _ A4.out).mono ?_); rintro e w' ⟨rfl, ⟨nd, rfl⟩⟩; (try first | exact ⟨rfl, _, World.drewN_drewN _ _ _⟩ | exact ⟨rfl, _, Eq.trans (World.drewN_drewN _ _ _) (congrArg (World.drewN _) (Nat.add_assoc _ _ _))⟩)) | (go_at_call 34; (with_reducible refine (fixed_size.calls a1 t111 _ A5.out).mono ?_); rintro e w' ⟨rfl, ⟨nd, rfl⟩⟩; (try first | exact ⟨rfl, _, World.drewN_drewN _ _ _⟩ | exact ⟨rfl, _, Eq.trans (World.drewN_drewN _ _ _) (congrArg (World.drewN _) (Nat.add_assoc _ _ _))⟩)) | (go_at_call 34; (with_reducible refine (fixed_size.calls a0 t110 _ A7.out).mono ?_); rintro e w' ⟨rfl, ⟨nd, rfl⟩⟩; (try first | exact ⟨rfl, _, World.drewN_drewN _ _ _⟩ | exact ⟨rfl, _, Eq.trans (World.drewN_drewN _ _ _) (congrArg (World.drewN _) (Nat.add_assoc _ _ _))⟩)) | (go_at_call 34; (with_reducible refine (fixed_size.calls a1 t111 _ A8.out).mono ?_); rintro e w' ⟨rfl, ⟨nd, rfl⟩⟩; (try first | exact ⟨rfl, _, World.drewN_drewN _ _ _⟩ | exact ⟨rfl, _, Eq.trans (World.drewN_drewN _ _ _) (congrArg (World.drewN _) (Nat.add_assoc _ _ _))⟩)) | (go_at_call 35; (with_reducible refine (fixed_hold.calls k (IntKind.u64.wrap (Int.tdiv t110 t111)) true t114 _ A12.out).mono ?_); rintro e w' ⟨rfl, ⟨nd, rfl⟩⟩; (try first | exact ⟨rfl, _, World.drewN_drewN _ _ _⟩ | exact ⟨rfl, _, Eq.trans (World.drewN_drewN _ _ _) (congrArg (World.drewN _) (Nat.add_assoc _ _ _))⟩)))
            repeat (go_quiet (first | (go_at_call 34; (with_reducible refine (fixed_size.calls a0 t110 _ A4.out).mono ?_); rintro e w' ⟨rfl, ⟨nd, rfl⟩⟩; (try first | exact ⟨rfl, _, World.drewN_drewN _ _ _⟩ | exact ⟨rfl, _, Eq.trans (World.drewN_drewN _ _ _) (congrArg (World.drewN _) (Nat.add_assoc _ _ _))⟩)) | (go_at_call 34; (with_reducible refine (fixed_size.calls a1 t111 _ A5.out).mono ?_); rintro e w' ⟨rfl, ⟨nd, rfl⟩⟩; (try first | exact ⟨rfl, _, World.drewN_drewN _ _ _⟩ | exact ⟨rfl, _, Eq.trans (World.drewN_drewN _ _ _) (congrArg (World.drewN _) (Nat.add_assoc _ _ _))⟩)) | (go_at_call 34; (with_reducible refine (fixed_size.calls a0 t110 _ A7.out).mono ?_); rintro e w' ⟨rfl, ⟨nd, rfl⟩⟩; (try first | exact ⟨rfl, _, World.drewN_drewN _ _ _⟩ | exact ⟨rfl, _, Eq.trans (World.drewN_drewN _ _ _) (congrArg (World.drewN _) (Nat.add_assoc _ _ _))⟩)) | (go_at_call 34; (with_reducible refine (fixed_size.calls a1 t111 _ A8.out).mono ?_); rintro e w' ⟨rfl, ⟨nd, rfl⟩⟩; (try first | exact ⟨rfl, _, World.drewN_drewN _ _ _⟩ | exact ⟨rfl, _, Eq.trans (World.drewN_drewN _ _ _) (congrArg (World.drewN _) (Nat.add_assoc _ _ _))⟩)) | (go_at_call 35; (with_reducible refine (fixed_hold.calls k (IntKind.u64.wrap (Int.tdiv t110 t111)) true t114 _ A12.out).mono ?_); rintro e w' ⟨rfl, ⟨nd, rfl⟩⟩; (try first | exact ⟨rfl, _, World.drewN_drewN _ _ _⟩ | exact ⟨rfl, _, Eq.trans (World.drewN_drewN _ _ _) (congrArg (World.drewN _) (Nat.add_assoc _ _ _))⟩))); try go_wp2_with (first | (go_at_call 34; (with_reducible refine (fixed_size.calls a0 t110 _ A4.out).mono ?_); rintro e w' ⟨rfl, ⟨nd, rfl⟩⟩; (try first | exact ⟨rfl, _, World.drewN_drewN _ _ _⟩ | exact ⟨rfl, _, Eq.trans (World.drewN_drewN _ _ _) (congrArg (World.drewN _) (Nat.add_assoc _ _ _))⟩)) | (go_at_call 34; (with_reducible refine (fixed_size.calls a1 t111 _ A5.out).mono ?_); rintro e w' ⟨rfl, ⟨nd, rfl⟩⟩; (try first | exact ⟨rfl, _, World.drewN_drewN _ _ _⟩ | exact ⟨rfl, _, Eq.trans (World.drewN_drewN _ _ _) (congrArg (World.drewN _) (Nat.add_assoc _ _ _))⟩)) | (go_at_call 34; (with_reducible refine (fixed_size.calls a0 t110 _ A7.out).mono ?_); rintro e w' ⟨rfl, ⟨nd, rfl⟩⟩; (try first | exact ⟨rfl, _, World.drewN_drewN _ _ _⟩ | exact ⟨rfl, _, Eq.trans (World.drewN_drewN _ _ _) (congrArg (World.drewN _) (Nat.add_assoc _ _ _))⟩)) | (go_at_call 34; (with_reducible refine (fixed_size.calls a1 t111 _ A8.out).mono ?_); rintro e w' ⟨rfl, ⟨nd, rfl⟩⟩; (try first | exact ⟨rfl, _, World.drewN_drewN _ _ _⟩ | exact ⟨rfl, _, Eq.trans (World.drewN_drewN _ _ _) (congrArg (World.drewN _) (Nat.add_assoc _ _ _))⟩)) | (go_at_call 35; (with_reducible refine (fixed_hold.calls k (IntKind.u64.wrap (Int.tdiv t110 t111)) true t114 _ A12.out).mono ?_); rintro e w' ⟨rfl, ⟨nd, rfl⟩⟩; (try first | exact ⟨rfl, _, World.drewN_drewN _ _ _⟩ | exact ⟨rfl, _, Eq.trans (World.drewN_drewN _ _ _) (congrArg (World.drewN _) (Nat.add_assoc _ _ _))⟩))))
            go_ret
            exact ⟨by first | rfl | (simp; done) | (simp [*]; done), by repeat (first | exact Drawn0.refl _ | apply Drawn0.step)⟩
          · rw [if_neg c11] at H
            have c11b0 : ((Int.tmod t110 t111) == 0) = false := beq_eq_false_iff_ne.mpr c11
            have c11b1 : ((Int.tmod t110 t111) != 0) = true := bne_iff_ne.mpr c11
            replace H := Option.bind_eq_some_iff.mp H
            obtain ⟨t115, A130, H⟩ := H
            replace H : (some t115) = some r := H
            have A13 := Aside0.mk A130
            clear A130
            obtain rfl := Option.some.inj H
            go_enter Try.func20, Try.ntmps20
            go_wp2_with (first | (go_at_call 34; (with_reducible refine (fixed_size.calls a0 t110 _ A4.out).mono ?_); rintro e w' ⟨rfl, ⟨nd, rfl⟩⟩; (try first | exact ⟨rfl, _, World.drewN_drewN _ _ _⟩ | exact ⟨rfl, _, Eq.trans (World.drewN_drewN _ _ _) (congrArg (World.drewN _) (Nat.add_assoc _ _ _))⟩)) | (go_at_call 34; (with_reducible refine (fixed_size.calls a1 t111 _ A5.out).mono ?_); rintro e w' ⟨rfl, ⟨nd, rfl⟩⟩; (try first | exact ⟨rfl, _, World.drewN_drewN _ _ _⟩ | exact ⟨rfl, _, Eq.trans (World.drewN_drewN _ _ _) (congrArg (World.drewN _) (Nat.add_assoc _ _ _))⟩)) | (go_at_call 34; (with_reducible refine (fixed_size.calls a0 t110 _ A7.out).mono ?_); rintro e w' ⟨rfl, ⟨nd, rfl⟩⟩; (try first | exact ⟨rfl, _, World.drewN_drewN _ _ _⟩ | exact ⟨rfl, _, Eq.trans (World.drewN_drewN _ _ _) (congrArg (World.drewN _) (Nat.add_assoc _ _ _))⟩)) | (go_at_call 34; (with_reducible refine (fixed_size.calls a1 t111 _ A8.out).mono ?_); rintro e w' ⟨rfl, ⟨nd, rfl⟩⟩; (try first | exact ⟨rfl, _, World.drewN_drewN _ _ _⟩ | exact ⟨rfl, _, Eq.trans (World.drewN_drewN _ _ _) (congrArg (World.drewN _) (Nat.add_assoc _ _ _))⟩)) | (go_at_call 35; (with_reducible refine (fixed_hold.calls k (IntKind.u64.wrap ((IntKind.u64.wrap (Int.tdiv t110 t111)) + 1)) true t115 _ A13.out).mono ?_); rintro e w' ⟨rfl, ⟨nd, rfl⟩⟩; (try first | exact ⟨rfl, _, World.drewN_drewN _ _ _⟩ | exact ⟨rfl, _, Eq.trans (World.drewN_drewN _ _ _) (congrArg (World.drewN _) (Nat.add_assoc _ _ _))⟩)))
            repeat (go_quiet (first | (go_at_call 34; (with_reducible refine (fixed_size.calls a0 t110 _ A4.out).mono ?_); rintro e w' ⟨rfl, ⟨nd, rfl⟩⟩; (try first | exact ⟨rfl, _, World.drewN_drewN _ _ _⟩ | exact ⟨rfl, _, Eq.trans (World.drewN_drewN _ _ _) (congrArg (World.drewN _) (Nat.add_assoc _ _ _))⟩)) | (go_at_call 34; (with_reducible refine (fixed_size.calls a1 t111 _ A5.out).mono ?_); rintro e w' ⟨rfl, ⟨nd, rfl⟩⟩; (try first | exact ⟨rfl, _, World.drewN_drewN _ _ _⟩ | exact ⟨rfl, _, Eq.trans (World.drewN_drewN _ _ _) (congrArg (World.drewN _) (Nat.add_assoc _ _ _))⟩)) | (go_at_call 34; (with_reducible refine (fixed_size.calls a0 t110 _ A7.out).mono ?_); rintro e w' ⟨rfl, ⟨nd, rfl⟩⟩; (try first | exact ⟨rfl, _, World.drewN_drewN _ _ _⟩ | exact ⟨rfl, _, Eq.trans (World.drewN_drewN _ _ _) (congrArg (World.drewN _) (Nat.add_assoc _ _ _))⟩)) | (go_at_call 34; (with_reducible refine (fixed_size.calls a1 t111 _ A8.out).mono ?_); rintro e w' ⟨rfl, ⟨nd, rfl⟩⟩; (try first | exact ⟨rfl, _, World.drewN_drewN _ _ _⟩ | exact ⟨rfl, _, Eq.trans (World.drewN_drewN _ _ _) (congrArg (World.drewN _) (Nat.add_assoc _ _ _))⟩)) | (go_at_call 35; (with_reducible refine (fixed_hold.calls k (IntKind.u64.wrap ((IntKind.u64.wrap (Int.tdiv t110 t111)) + 1)) true t115 _ A13.out).mono ?_); rintro e w' ⟨rfl, ⟨nd, rfl⟩⟩; (try first | exact ⟨rfl, _, World.drewN_drewN _ _ _⟩ | exact ⟨rfl, _, Eq.trans (World.drewN_drewN _ _ _) (congrArg (World.drewN _) (Nat.add_assoc _ _ _))⟩))); try go_wp2_with (first | (go_at_call 34; (with_reducible refine (fixed_size.calls a0 t110 _ A4.out).mono ?_); rintro e w' ⟨rfl, ⟨nd, rfl⟩⟩; (try first | exact ⟨rfl, _, World.drewN_drewN _ _ _⟩ | exact ⟨rfl, _, Eq.trans (World.drewN_drewN _ _ _) (congrArg (World.drewN _) (Nat.add_assoc _ _ _))⟩)) | (go_at_call 34; (with_reducible refine (fixed_size.calls a1 t111 _ A5.out).mono ?_); rintro e w' ⟨rfl, ⟨nd, rfl⟩⟩; (try first | exact ⟨rfl, _, World.drewN_drewN _ _ _⟩ | exact ⟨rfl, _, Eq.trans (World.drewN_drewN _ _ _) (congrArg (World.drewN _) (Nat.add_assoc _ _ _))⟩)) | (go_at_call 34; (with_reducible refine (fixed_size.calls a0 t110 _ A7.out).mono ?_); rintro e w' ⟨rfl, ⟨nd, rfl⟩⟩; (try first | exact ⟨rfl, _, World.drewN_drewN _ _ _⟩ | exact ⟨rfl, _, Eq.trans (World.drewN_drewN _ _ _) (congrArg (World.drewN _) (Nat.add_assoc _ _ _))⟩)) | (go_at_call 34; (with_reducible refine (fixed_size.calls a1 t111 _ A8.out).mono ?_); rintro e w' ⟨rfl, ⟨nd, rfl⟩⟩; (try first | exact ⟨rfl, _, World.drewN_drewN _ _ _⟩ | exact ⟨rfl, _, Eq.trans (World.drewN_drewN _ _ _) (congrArg (World.drewN _) (Nat.add_assoc _ _ _))⟩)) | (go_at_call 35; (with_reducible refine (fixed_hold.calls k (IntKind.u64.wrap ((IntKind.u64.wrap (Int.tdiv t110 t111)) + 1)) true t115 _ A13.out).mono ?_); rintro e w' ⟨rfl, ⟨nd, rfl⟩⟩; (try first | exact ⟨rfl, _, World.drewN_drewN _ _ _⟩ | exact ⟨rfl, _, Eq.trans (World.drewN_drewN _ _ _) (congrArg (World.drewN _) (Nat.add_assoc _ _ _))⟩))))
            go_ret
            exact ⟨by first | rfl | (simp; done) | (simp [*]; done), by repeat (first | exact Drawn0.refl _ | apply Drawn0.step)⟩
        · rw [if_neg c10] at H
          have c10b0 : ((decide (a0 < 0)) != (decide (a1 < 0))) = false := by simpa using c10
          (try (have c10b1 : decide ((decide (a0 < 0)) = (decide (a1 < 0))) = true := by simpa using c10))
          (try (have c10b2 : ((decide (a0 < 0)) == (decide (a1 < 0))) = true := by simpa using c10))
          clear c10
          replace H := Option.bind_eq_some_iff.mp H
          obtain ⟨t116, A140, H⟩ := H
          replace H : (some t116) = some r := H
          have A14 := Aside0.mk A140
          clear A140
          obtain rfl := Option.some.inj H
          go_enter Try.func20, Try.ntmps20
          go_wp2_with (first | (go_at_call 34; (with_reducible refine (fixed_size.calls a0 t110 _ A4.out).mono ?_); rintro e w' ⟨rfl, ⟨nd, rfl⟩⟩; (try first | exact ⟨rfl, _, World.drewN_drewN _ _ _⟩ | exact ⟨rfl, _, Eq.trans (World.drewN_drewN _ _ _) (congrArg (World.drewN _) (Nat.add_assoc _ _ _))⟩)) | (go_at_call 34; (with_reducible refine (fixed_size.calls a1 t111 _ A5.out).mono ?_); rintro e w' ⟨rfl, ⟨nd, rfl⟩⟩; (try first | exact ⟨rfl, _, World.drewN_drewN _ _ _⟩ | exact ⟨rfl, _, Eq.trans (World.drewN_drewN _ _ _) (congrArg (World.drewN _) (Nat.add_assoc _ _ _))⟩)) | (go_at_call 34; (with_reducible refine (fixed_size.calls a0 t110 _ A7.out).mono ?_); rintro e w' ⟨rfl, ⟨nd, rfl⟩⟩; (try first | exact ⟨rfl, _, World.drewN_drewN _ _ _⟩ | exact ⟨rfl, _, Eq.trans (World.drewN_drewN _ _ _) (congrArg (World.drewN _) (Nat.add_assoc _ _ _))⟩)) | (go_at_call 34; (with_reducible refine (fixed_size.calls a1 t111 _ A8.out).mono ?_); rintro e w' ⟨rfl, ⟨nd, rfl⟩⟩; (try first | exact ⟨rfl, _, World.drewN_drewN _ _ _⟩ | exact ⟨rfl, _, Eq.trans (World.drewN_drewN _ _ _) (congrArg (World.drewN _) (Nat.add_assoc _ _ _))⟩)) | (go_at_call 35; (with_reducible refine (fixed_hold.calls k (IntKind.u64.wrap (Int.tdiv t110 t111)) false t116 _ A14.out).mono ?_); rintro e w' ⟨rfl, ⟨nd, rfl⟩⟩; (try first | exact ⟨rfl, _, World.drewN_drewN _ _ _⟩ | exact ⟨rfl, _, Eq.trans (World.drewN_drewN _ _ _) (congrArg (World.drewN _) (Nat.add_assoc _ _ _))⟩)))
          repeat (go_quiet (first | (go_at_call 34; (with_reducible refine (fixed_size.calls a0 t110 _ A4.out).mono ?_); rintro e w' ⟨rfl, ⟨nd, rfl⟩⟩; (try first | exact ⟨rfl, _, World.drewN_drewN _ _ _⟩ | exact ⟨rfl, _, Eq.trans (World.drewN_drewN _ _ _) (congrArg (World.drewN _) (Nat.add_assoc _ _ _))⟩)) | (go_at_call 34; (with_reducible refine (fixed_size.calls a1 t111 _ A5.out).mono ?_); rintro e w' ⟨rfl, ⟨nd, rfl⟩⟩; (try first | exact ⟨rfl, _, World.drewN_drewN _ _ _⟩ | exact ⟨rfl, _, Eq.trans (World.drewN_drewN _ _ _) (congrArg (World.drewN _) (Nat.add_assoc _ _ _))⟩)) | (go_at_call 34; (with_reducible refine (fixed_size.calls a0 t110 _ A7.out).mono ?_); rintro e w' ⟨rfl, ⟨nd, rfl⟩⟩; (try first | exact ⟨rfl, _, World.drewN_drewN _ _ _⟩ | exact ⟨rfl, _, Eq.trans (World.drewN_drewN _ _ _) (congrArg (World.drewN _) (Nat.add_assoc _ _ _))⟩)) | (go_at_call 34; (with_reducible refine (fixed_size.calls a1 t111 _ A8.out).mono ?_); rintro e w' ⟨rfl, ⟨nd, rfl⟩⟩; (try first | exact ⟨rfl, _, World.drewN_drewN _ _ _⟩ | exact ⟨rfl, _, Eq.trans (World.drewN_drewN _ _ _) (congrArg (World.drewN _) (Nat.add_assoc _ _ _))⟩)) | (go_at_call 35; (with_reducible refine (fixed_hold.calls k (IntKind.u64.wrap (Int.tdiv t110 t111)) false t116 _ A14.out).mono ?_); rintro e w' ⟨rfl, ⟨nd, rfl⟩⟩; (try first | exact ⟨rfl, _, World.drewN_drewN _ _ _⟩ | exact ⟨rfl, _, Eq.trans (World.drewN_drewN _ _ _) (congrArg (World.drewN _) (Nat.add_assoc _ _ _))⟩))); try go_wp2_with (first | (go_at_call 34; (with_reducible refine (fixed_size.calls a0 t110 _ A4.out).mono ?_); rintro e w' ⟨rfl, ⟨nd, rfl⟩⟩; (try first | exact ⟨rfl, _, World.drewN_drewN _ _ _⟩ | exact ⟨rfl, _, Eq.trans (World.drewN_drewN _ _ _) (congrArg (World.drewN _) (Nat.add_assoc _ _ _))⟩)) | (go_at_call 34; (with_reducible refine (fixed_size.calls a1 t111 _ A5.out).mono ?_); rintro e w' ⟨rfl, ⟨nd, rfl⟩⟩; (try first | exact ⟨rfl, _, World.drewN_drewN _ _ _⟩ | exact ⟨rfl, _, Eq.trans (World.drewN_drewN _ _ _) (congrArg (World.drewN _) (Nat.add_assoc _ _ _))⟩)) | (go_at_call 34; (with_reducible refine (fixed_size.calls a0 t110 _ A7.out).mono ?_); rintro e w' ⟨rfl, ⟨nd, rfl⟩⟩; (try first | exact ⟨rfl, _, World.drewN_drewN _ _ _⟩ | exact ⟨rfl, _, Eq.trans (World.drewN_drewN _ _ _) (congrArg (World.drewN _) (Nat.add_assoc _ _ _))⟩)) | (go_at_call 34; (with_reducible refine (fixed_size.calls a1 t111 _ A8.out).mono ?_); rintro e w' ⟨rfl, ⟨nd, rfl⟩⟩; (try first | exact ⟨rfl, _, World.drewN_drewN _ _ _⟩ | exact ⟨rfl, _, Eq.trans (World.drewN_drewN _ _ _) (congrArg (World.drewN _) (Nat.add_assoc _ _ _))⟩)) | (go_at_call 35; (with_reducible refine (fixed_hold.calls k (IntKind.u64.wrap (Int.tdiv t110 t111)) false t116 _ A14.out).mono ?_); rintro e w' ⟨rfl, ⟨nd, rfl⟩⟩; (try first | exact ⟨rfl, _, World.drewN_drewN _ _ _⟩ | exact ⟨rfl, _, Eq.trans (World.drewN_drewN _ _ _) (congrArg (World.drewN _) (Nat.add_assoc _ _ _))⟩))))
          go_ret
          exact ⟨by first | rfl | (simp; done) | (simp [*]; done), by repeat (first | exact Drawn0.refl _ | apply Drawn0.step)⟩

/-! ### fixed_Mod: function 22 -/
def fixed_Mod.j0 : Nat → Int → Int → Bool → Option (Int)
  | 0, _, _, _ => none
  | k + 1, x0, x1, x11 => if x11 = true then (some 0) else (if x1 = 0 then (none) else (if (Int.tmod x0 x1) = 0 then (some (Int.tmod x0 x1)) else (if ((decide ((Int.tmod x0 x1) < 0)) != (decide (x1 < 0))) = true then (some (wrap64 ((Int.tmod x0 x1) + x1))) else (some (Int.tmod x0 x1)))))
def fixed_Mod.f (k : Nat) (a0 : Int) (a1 : Int) : Option (Int) := if a1 = 0 then (fixed_Mod.j0 k a0 a1 true) else (fixed_Mod.j0 k a0 a1 (a1 == (-1)))
theorem fixed_Mod.mono_l : ∀ k, (∀ y0 y1 y2, LeO (fixed_Mod.j0 k y0 y1 y2) (fixed_Mod.j0 (k + 1) y0 y1 y2))
  | 0 => fun _ _ _ r h => by simp [fixed_Mod.j0] at h
  | k + 1 => by
    have ih0 := fixed_Mod.mono_l k
    · intro y0 y1 y2
      unfold fixed_Mod.j0
      repeat' first
      | (with_reducible exact ih0 _ _ _)
      | (with_reducible exact LeO.refl _)
      | (with_reducible exact LeO.none _)
      | (with_reducible refine LeO.ite ?_ ?_)
      | (with_reducible refine LeO.bind ?_ (fun _ => ?_))
      | exact ih0 _ _ _
      | exact LeO.none _
      | refine LeO.ite ?_ ?_
      | refine LeO.bind ?_ (fun _ => ?_)
theorem fixed_Mod.mono : ∀ a0 a1 k, LeO (fixed_Mod.f k a0 a1) (fixed_Mod.f (k + 1) a0 a1) := by
  intro a0 a1 k
  have ih0 := fixed_Mod.mono_l k
  unfold fixed_Mod.f
  repeat' first
      | (with_reducible exact ih0 _ _ _)
      | (with_reducible exact LeO.refl _)
      | (with_reducible exact LeO.none _)
      | (with_reducible refine LeO.ite ?_ ?_)
      | (with_reducible refine LeO.bind ?_ (fun _ => ?_))
      | exact ih0 _ _ _
      | exact LeO.none _
      | refine LeO.ite ?_ ?_
      | refine LeO.bind ?_ (fun _ => ?_)
set_option maxHeartbeats 8000000 in
set_option maxRecDepth 100000 in
theorem fixed_Mod.calls (k : Nat) (a0 : Int) (a1 : Int) (r : Int) (w : World) (h : fixed_Mod.f k a0 a1 = some r) :
    Calls Try.prog 22 #[.int .i64 a0, .int .i64 a1] w fun e w' => e = .returned (.int .i64 r) ∧ Drawn0 w w' := by
  have H : (if a1 = 0 then (fixed_Mod.j0 k a0 a1 true) else (fixed_Mod.j0 k a0 a1 (a1 == (-1)))) = some r := h
  clear h
  have HC3 := Aside0.mk H
  clear H
  go_enter Try.func22, Try.ntmps22
  go_upto_region 1 with (fail)
  go_cut [11] (fun v11 wc => ∃ (kq : Nat) (x11_2 : Bool), v11 = .bool x11_2 ∧ Aside0 (fixed_Mod.j0 kq a0 a1 x11_2 = some r) ∧ Aside0 (kq ≤ k) ∧ Drawn0 w wc)
  case first =>
    have H := HC3.out
    clear HC3
    by_cases c4 : a1 = 0
    · rw [if_pos c4] at H
      have c4b0 : (a1 == 0) = true := beq_iff_eq.mpr c4
      have c4b1 : (a1 != 0) = false := bne_eq_false_iff_eq.mpr c4
      clear c4
      (first | rw [c4b0] | (simp only [i64_w, i32_w]; rw [c4b0]) | skip)
      have H' := Aside0.mk H
      clear H
      go_wp2
      go_meet
      case rel => exact ⟨_, (true), (by first | rfl | (simp; done) | (simp [*]; done)), H', ⟨by first | omega | exact Nat.le_refl _⟩, by repeat (first | exact Drawn0.refl _ | apply Drawn0.step)⟩
    · rw [if_neg c4] at H
      have c4b0 : (a1 == 0) = false := beq_eq_false_iff_ne.mpr c4
      have c4b1 : (a1 != 0) = true := bne_iff_ne.mpr c4
      (first | rw [c4b0] | (simp only [i64_w, i32_w]; rw [c4b0]) | skip)
      have H' := Aside0.mk H
      clear H
      go_wp2
      go_meet
      case rel => exact ⟨_, ((a1 == (-1))), (by first | rfl | (simp; done) | (simp [*]; done)), H', ⟨by first | omega | exact Nat.le_refl _⟩, by repeat (first | exact Drawn0.refl _ | apply Drawn0.step)⟩
  case rest =>
    clear HC3
    try clear c2
    try clear p2
    try clear c4
    try clear c4b0
    try clear c4b1
    obtain ⟨kq, x11_2, rfl, HA, HJ2, ⟨mc2, rfl⟩⟩ := hcut
    cases kq with
    | zero => exact absurd HA.out (by simp [fixed_Mod.j0])
    | succ kj2 =>
      have H := HA.out
      clear HA
      simp only [fixed_Mod.j0] at H
      by_cases c5 : x11_2 = true
      · subst c5
        have H1 : (some 0) = some r := by rw [if_pos rfl] at H; exact H
        clear H
        have H := H1
        clear H1
        obtain rfl := Option.some.inj H
        go_wp2
        go_ret
        exact ⟨by first | rfl | (simp; done) | (simp [*]; done), by repeat (first | exact Drawn0.refl _ | apply Drawn0.step)⟩
      · replace c5 := Bool.eq_false_iff.mpr c5
        subst c5
        have H1 : (if a1 = 0 then (none) else (if (Int.tmod a0 a1) = 0 then (some (Int.tmod a0 a1)) else (if ((decide ((Int.tmod a0 a1) < 0)) != (decide (a1 < 0))) = true then (some (wrap64 ((Int.tmod a0 a1) + a1))) else (some (Int.tmod a0 a1))))) = some r := by rw [if_neg (show ¬ (false = true) by decide)] at H; exact H
        clear H
        have H := H1
        clear H1
        by_cases c6 : a1 = 0
        · rw [if_pos c6] at H
          exact absurd H (by simp)
        · rw [if_neg c6] at H
          have c6b0 : (a1 == 0) = false := beq_eq_false_iff_ne.mpr c6
          have c6b1 : (a1 != 0) = true := bne_iff_ne.mpr c6
          by_cases c7 : (Int.tmod a0 a1) = 0
          · rw [if_pos c7] at H
            have c7b0 : ((Int.tmod a0 a1) == 0) = true := beq_iff_eq.mpr c7
            have c7b1 : ((Int.tmod a0 a1) != 0) = false := bne_eq_false_iff_eq.mpr c7
            clear c7
            obtain rfl := Option.some.inj H
            go_wp2
            go_ret
            exact ⟨by first | rfl | (simp; done) | (simp [*]; done), by repeat (first | exact Drawn0.refl _ | apply Drawn0.step)⟩
          · rw [if_neg c7] at H
            have c7b0 : ((Int.tmod a0 a1) == 0) = false := beq_eq_false_iff_ne.mpr c7
            have c7b1 : ((Int.tmod a0 a1) != 0) = true := bne_iff_ne.mpr c7
            by_cases c8 : ((decide ((Int.tmod a0 a1) < 0)) != (decide (a1 < 0))) = true
            · rw [if_pos c8] at H
              have c8b0 : ((decide ((Int.tmod a0 a1) < 0)) != (decide (a1 < 0))) = true := c8
              (try (have c8b1 : decide ((decide ((Int.tmod a0 a1) < 0)) = (decide (a1 < 0))) = false := by simpa using c8))
              (try (have c8b2 : ((decide ((Int.tmod a0 a1) < 0)) == (decide (a1 < 0))) = false := by simpa using c8))
              (try (have c8b3 : ¬ ((decide ((Int.tmod a0 a1) < 0)) = (decide (a1 < 0))) := by simpa using c8))
              clear c8
              obtain rfl := Option.some.inj H
              go_wp2
              go_ret
              exact ⟨by first | rfl | (simp; done) | (simp [*]; done), by repeat (first | exact Drawn0.refl _ | apply Drawn0.step)⟩
            · rw [if_neg c8] at H
              have c8b0 : ((decide ((Int.tmod a0 a1) < 0)) != (decide (a1 < 0))) = false := by simpa using c8
              (try (have c8b1 : decide ((decide ((Int.tmod a0 a1) < 0)) = (decide (a1 < 0))) = true := by simpa using c8))
              (try (have c8b2 : ((decide ((Int.tmod a0 a1) < 0)) == (decide (a1 < 0))) = true := by simpa using c8))
              clear c8
              obtain rfl := Option.some.inj H
              go_wp2
              go_ret
              exact ⟨by first | rfl | (simp; done) | (simp [*]; done), by repeat (first | exact Drawn0.refl _ | apply Drawn0.step)⟩

/-! ### fixed_Shift: function 23 -/
def fixed_Shift.f (a0 : Int) (a1 : Int) : Option (Int) := if a1 ≤ 0 then (some a0) else (if a1 ≥ 64 then (some 0) else (if 0 ≤ a1 then (if 0 ≤ (wrap64 (a1 - 1)) then (some (wrap64 ((shr .i64 a0 a1) + (Go.bits .and .i64 (shr .i64 a0 (wrap64 (a1 - 1))) 1)))) else (none)) else (none)))
set_option maxHeartbeats 8000000 in
set_option maxRecDepth 100000 in
theorem fixed_Shift.calls (a0 : Int) (a1 : Int) (r : Int) (w : World) (h : fixed_Shift.f a0 a1 = some r) :
    Calls Try.prog 23 #[.int .i64 a0, .int .i64 a1] w fun e w' => e = .returned (.int .i64 r) ∧ Drawn0 w w' := by
  have H : (if a1 ≤ 0 then (some a0) else (if a1 ≥ 64 then (some 0) else (if 0 ≤ a1 then (if 0 ≤ (wrap64 (a1 - 1)) then (some (wrap64 ((shr .i64 a0 a1) + (Go.bits .and .i64 (shr .i64 a0 (wrap64 (a1 - 1))) 1)))) else (none)) else (none)))) = some r := h
  clear h
  by_cases c3 : a1 ≤ 0
  · rw [if_pos c3] at H
    have c3b0 : decide (a1 ≤ 0) = true := decide_eq_true c3
    clear c3
    obtain rfl := Option.some.inj H
    go_enter Try.func23, Try.ntmps23
    go_wp2
    repeat (go_quiet (fail); try go_wp2)
    go_ret
    exact ⟨by first | rfl | (simp; done) | (simp [*]; done), by repeat (first | exact Drawn0.refl _ | apply Drawn0.step)⟩
  · rw [if_neg c3] at H
    have c3b0 : decide (a1 ≤ 0) = false := decide_eq_false c3
    clear c3
    by_cases c4 : a1 ≥ 64
    · rw [if_pos c4] at H
      have c4b0 : decide (64 ≤ a1) = true := decide_eq_true c4
      clear c4
      obtain rfl := Option.some.inj H
      go_enter Try.func23, Try.ntmps23
      go_wp2
      repeat (go_quiet (fail); try go_wp2)
      go_ret
      exact ⟨by first | rfl | (simp; done) | (simp [*]; done), by repeat (first | exact Drawn0.refl _ | apply Drawn0.step)⟩
    · rw [if_neg c4] at H
      have c4b0 : decide (64 ≤ a1) = false := decide_eq_false c4
      clear c4
      by_cases c5 : 0 ≤ a1
      · rw [if_pos c5] at H
        have c5b0 := eq_true c5
        have c5b1 : decide (0 ≤ a1) = true := decide_eq_true c5
        clear c5
        obtain ⟨ji6, hji6⟩ : ∃ j_ : Int, (shr .i64 a0 a1) = j_ := ⟨_, rfl⟩
        replace H : (if 0 ≤ (wrap64 (a1 - 1)) then (some (wrap64 ((ji6) + (Go.bits .and .i64 (shr .i64 a0 (wrap64 (a1 - 1))) 1)))) else (none)) = some r := by first | (rw [hji6] at H; exact H) | (simp only [hji6] at H ⊢; exact H)
        have hji6_ : (a0 / 2 ^ min a1.toNat 64) = ji6 := hji6
        have hji6z : a1 ≤ 64 → (a0 / 2 ^ a1.toNat) = ji6 := shr_small hji6
        obtain ⟨ji7, hji7⟩ : ∃ j_ : Int, (wrap64 (a1 - 1)) = j_ := ⟨_, rfl⟩
        replace H : (if 0 ≤ (ji7) then (some (wrap64 ((ji6) + (Go.bits .and .i64 (shr .i64 a0 (ji7)) 1)))) else (none)) = some r := by first | (rw [hji7] at H; exact H) | (simp only [hji7] at H ⊢; exact H)
        have hji7w : (IntKind.i64.wrap (a1 - 1)) = ji7 := (i64_w _).trans hji7
        by_cases c8 : 0 ≤ (ji7)
        · rw [if_pos c8] at H
          have c8b0 := eq_true c8
          have c8b1 : decide (0 ≤ (ji7)) = true := decide_eq_true c8
          clear c8
          obtain ⟨ji9, hji9⟩ : ∃ j_ : Int, (shr .i64 a0 (ji7)) = j_ := ⟨_, rfl⟩
          replace H : (some (wrap64 ((ji6) + (Go.bits .and .i64 (ji9) 1)))) = some r := by first | (rw [hji9] at H; exact H) | (simp only [hji9] at H ⊢; exact H)
          have hji9_ : (a0 / 2 ^ min (ji7).toNat 64) = ji9 := hji9
          have hji9z : (ji7) ≤ 64 → (a0 / 2 ^ (ji7).toNat) = ji9 := shr_small hji9
          obtain rfl := Option.some.inj H
          go_enter Try.func23, Try.ntmps23
          go_wp2
          repeat (go_quiet (fail); try go_wp2)
          go_ret
          exact ⟨by first | rfl | (simp; done) | (simp only [← hji6, ← hji7, ← hji9] <;> (first | rfl | simp)) | (simp [*]; done), by repeat (first | exact Drawn0.refl _ | apply Drawn0.step)⟩
        · rw [if_neg c8] at H
          exact absurd H (by simp)
      · rw [if_neg c5] at H
        exact absurd H (by simp)

end Go.Proofs.Ytofmgoihoaookaa.QH
