/- Joined by wip/tools/bundle.py out of: QAx2 QAx7 QAx8 QAx13. -/
import Derived.Test.YthaajkpiknbdbaaDoorBTableFilters1
import Derived.Test.YthaajkpiknbdbaaDoorBTableFilters4
namespace Go.Proofs.YthaajkpiknbdbaaDoor.QA
open Go.Proofs.YthaajkpiknbdbaaDoor.T
open Go.RowKit Go.Proofs.YthaajkpiknbdbaaDoorW.PrintWords Go.Proofs.YthaajkpiknbdbaaDoorW.PrintLast Go.Proofs.YthaajkpiknbdbaaDoorW.PrintMore
attribute [local go_sem] ext_call max2_int min2_int max_two min_two max_three min_three max_four min_four   -- for this text's walks alone
set_option linter.unusedVariables false
set_option linter.unusedSimpArgs false
def raw_may.f (a0 : Int) (a1 : Int) (a2 : Int) (a3 : Int) : Option (Bool) := if a0 ≥ 0 then (if a0 < 3 then (if a1 ≥ 1 then (if a1 ≤ 65536 then (if a2 ≥ 1 then (if a2 ≤ 65536 then (if a3 ≥ 0 then (some (decide (a3 < a2))) else (some false)) else (some false)) else (some false)) else (some false)) else (some false)) else (some false)) else (some false)
set_option maxHeartbeats 8000000 in
set_option maxRecDepth 100000 in
theorem raw_may.calls (a0 : Int) (a1 : Int) (a2 : Int) (a3 : Int) (r : Bool) (w : World) (h : raw_may.f a0 a1 a2 a3 = some r) :
  Calls Tryd.prog 56 #[.int .i64 a0, .int .i64 a1, .int .i64 a2, .int .i64 a3] w fun e w' => e = .returned (.bool r) ∧ Drawn0 w w' := by
 have H : (if a0 ≥ 0 then (if a0 < 3 then (if a1 ≥ 1 then (if a1 ≤ 65536 then (if a2 ≥ 1 then (if a2 ≤ 65536 then (if a3 ≥ 0 then (some (decide (a3 < a2))) else (some false)) else (some false)) else (some false)) else (some false)) else (some false)) else (some false)) else (some false)) = some r := h
 clear h
 by_cases c5 : a0 ≥ 0
 ·rw [if_pos c5] at H
  have c5b0 : decide (0 ≤ a0) = true := decide_eq_true c5
  clear c5
  by_cases c6 : a0 < 3
  ·rw [if_pos c6] at H
   have c6b0 : decide (a0 < 3) = true := decide_eq_true c6
   clear c6
   by_cases c7 : a1 ≥ 1
   ·rw [if_pos c7] at H
    have c7b0 : decide (1 ≤ a1) = true := decide_eq_true c7
    clear c7
    by_cases c8 : a1 ≤ 65536
    ·rw [if_pos c8] at H
     have c8b0 : decide (a1 ≤ 65536) = true := decide_eq_true c8
     clear c8
     by_cases c9 : a2 ≥ 1
     ·rw [if_pos c9] at H
      have c9b0 : decide (1 ≤ a2) = true := decide_eq_true c9
      clear c9
      by_cases c10 : a2 ≤ 65536
      ·rw [if_pos c10] at H
       have c10b0 : decide (a2 ≤ 65536) = true := decide_eq_true c10
       clear c10
       by_cases c11 : a3 ≥ 0
       ·rw [if_pos c11] at H
        have c11b0 : decide (0 ≤ a3) = true := decide_eq_true c11
        clear c11
        obtain rfl := Option.some.inj H
        go_enter Tryd.func56, Tryd.ntmps56
        go_wp2
        go_ret
        exact ⟨zT, zW⟩
       ·rw [if_neg c11] at H
        have c11b0 : decide (0 ≤ a3) = false := decide_eq_false c11
        clear c11
        obtain rfl := Option.some.inj H
        go_enter Tryd.func56, Tryd.ntmps56
        go_wp2
        go_ret
        exact ⟨zT, zW⟩
      ·rw [if_neg c10] at H
       have c10b0 : decide (a2 ≤ 65536) = false := decide_eq_false c10
       clear c10
       obtain rfl := Option.some.inj H
       go_enter Tryd.func56, Tryd.ntmps56
       go_wp2
       go_ret
       exact ⟨zT, zW⟩
     ·rw [if_neg c9] at H
      have c9b0 : decide (1 ≤ a2) = false := decide_eq_false c9
      clear c9
      obtain rfl := Option.some.inj H
      go_enter Tryd.func56, Tryd.ntmps56
      go_wp2
      go_ret
      exact ⟨zT, zW⟩
    ·rw [if_neg c8] at H
     have c8b0 : decide (a1 ≤ 65536) = false := decide_eq_false c8
     clear c8
     obtain rfl := Option.some.inj H
     go_enter Tryd.func56, Tryd.ntmps56
     go_wp2
     go_ret
     exact ⟨zT, zW⟩
   ·rw [if_neg c7] at H
    have c7b0 : decide (1 ≤ a1) = false := decide_eq_false c7
    clear c7
    obtain rfl := Option.some.inj H
    go_enter Tryd.func56, Tryd.ntmps56
    go_wp2
    go_ret
    exact ⟨zT, zW⟩
  ·rw [if_neg c6] at H
   have c6b0 : decide (a0 < 3) = false := decide_eq_false c6
   clear c6
   obtain rfl := Option.some.inj H
   go_enter Tryd.func56, Tryd.ntmps56
   go_wp2
   go_ret
   exact ⟨zT, zW⟩
 ·rw [if_neg c5] at H
  have c5b0 : decide (0 ≤ a0) = false := decide_eq_false c5
  clear c5
  obtain rfl := Option.some.inj H
  go_enter Tryd.func56, Tryd.ntmps56
  go_wp2
  go_ret
  exact ⟨zT, zW⟩
def raw_ceil.f (k : Nat) (a0 : Int) (a1 : Int) : Option (Int) := (fixed_Floor.f k (wrap64 (-a0)) a1).bind fun t106 => (some (wrap64 (-t106)))
theorem raw_ceil.mono : ∀ a0 a1 k, LeO (raw_ceil.f k a0 a1) (raw_ceil.f (k + 1) a0 a1) := by
 intro a0 a1 k
 unfold raw_ceil.f
 repeat' (with_reducible first | exact fixed_Floor.mono _ _ _ | exact zM | refine LeO.ite ?_ ?_ | refine LeO.bind ?_ (fun _ => ?_))
set_option maxHeartbeats 8000000 in
set_option maxRecDepth 100000 in
theorem raw_ceil.calls (k : Nat) (a0 : Int) (a1 : Int) (r : Int) (w : World) (h : raw_ceil.f k a0 a1 = some r) :
  Calls Tryd.prog 57 #[.int .i64 a0, .int .i64 a1] w fun e w' => e = .returned (.int .i64 r) ∧ Drawn0 w w' := by
 have H : ((fixed_Floor.f k (wrap64 (-a0)) a1).bind fun t106 => (some (wrap64 (-t106)))) = some r := h
 clear h
 replace H := Option.bind_eq_some_iff.mp H
 obtain ⟨t106, A30, H⟩ := H
 try dsimp only at H
 have A3 := Aside0.mk A30
 clear A30
 obtain rfl := Option.some.inj H
 go_enter Tryd.func57, Tryd.ntmps57
 go_wp2_with (first | ((with_reducible refine gate_callee (f := 41) rfl ?_); refine goesL_ (some 8) rfl rfl Tryd.func41 (by kernel_rfl) rfl #[.int .i64 (wrap64 (-a0)), .int .i64 a1] rfl zL ?_; (with_reducible refine (fixed_Floor.calls k (wrap64 (-a0)) a1 t106 _ A3.out).mono ?_); rintro e w' ⟨rfl, ⟨nd, rfl⟩⟩; refine ⟨_, rfl, ?_⟩))
 go_ret
 exact ⟨zT, zW⟩
def raw_Window_at1.f (k : Nat) (a1 : Int) (a2 : Int) (a3 : Int) : Option (Int × Int) := (raw_may.f 1 a1 a2 a3).bind fun t107 => (if t107 = true then ((fixed_Floor.f k (wrap64 (a3 * a1)) a2).bind fun t108 => ((raw_ceil.f k (wrap64 ((wrap64 (a3 + 1)) * a1)) a2).bind fun t109 => ((fixed_Floor.f k (wrap64 ((wrap64 ((wrap64 ((wrap64 ((wrap64 (2 * a3)) + 1)) * a1)) - a2)) - (wrap64 (4 * (mx a1 a2))))) (wrap64 (2 * a2))).bind fun t110 => ((raw_ceil.f k (wrap64 ((wrap64 ((wrap64 ((wrap64 ((wrap64 (2 * a3)) + 1)) * a1)) - a2)) + (wrap64 (4 * (mx a1 a2))))) (wrap64 (2 * a2))).bind fun t111 => (some (wrap64 (t110 + 1), wrap64 (t111 - (wrap64 (t110 + 1))))))))) else (some (0, 0)))
theorem raw_Window_at1.mono : ∀ a1 a2 a3 k, LeO (raw_Window_at1.f k a1 a2 a3) (raw_Window_at1.f (k + 1) a1 a2 a3) := by
 intro a1 a2 a3 k
 unfold raw_Window_at1.f
 repeat' (with_reducible first | exact fixed_Floor.mono _ _ _ | exact raw_ceil.mono _ _ _ | exact zM | refine LeO.ite ?_ ?_ | refine LeO.bind ?_ (fun _ => ?_))
set_option maxHeartbeats 8000000 in
set_option maxRecDepth 100000 in
theorem raw_Window_at1.calls (k : Nat) (a1 : Int) (a2 : Int) (a3 : Int) (r1 : Int) (r2 : Int) (w : World) (hG : GL w) (h : raw_Window_at1.f k a1 a2 a3 = some (r1, r2)) :
  Calls Tryd.prog 37 #[.int .i64 1, .int .i64 a1, .int .i64 a2, .int .i64 a3] w fun e w' => e = .returned (.tuple #[.int .i64 r1, .int .i64 r2]) ∧ Below w.heap.size w w' := by
 have HB := Aside0.mk (Below.refl w.heap.size w)
 have H : ((raw_may.f 1 a1 a2 a3).bind fun t107 => (if t107 = true then ((fixed_Floor.f k (wrap64 (a3 * a1)) a2).bind fun t108 => ((raw_ceil.f k (wrap64 ((wrap64 (a3 + 1)) * a1)) a2).bind fun t109 => ((fixed_Floor.f k (wrap64 ((wrap64 ((wrap64 ((wrap64 ((wrap64 (2 * a3)) + 1)) * a1)) - a2)) - (wrap64 (4 * (mx a1 a2))))) (wrap64 (2 * a2))).bind fun t110 => ((raw_ceil.f k (wrap64 ((wrap64 ((wrap64 ((wrap64 ((wrap64 (2 * a3)) + 1)) * a1)) - a2)) + (wrap64 (4 * (mx a1 a2))))) (wrap64 (2 * a2))).bind fun t111 => (some (wrap64 (t110 + 1), wrap64 (t111 - (wrap64 (t110 + 1))))))))) else (some (0, 0)))) = some (r1, r2) := h
 clear h
 obtain ⟨h0_0, h0_1, h0_2, h0_3, h0_4, h0_5⟩ := hG
 replace H := Option.bind_eq_some_iff.mp H
 obtain ⟨t107, A50, H⟩ := H
 try dsimp only at H
 have A5 := Aside0.mk A50
 clear A50
 by_cases c6 : t107 = true
 ·subst c6
  have H1 := H; rw [if_pos rfl] at H1; try dsimp only at H1
  clear H
  have H := H1
  clear H1
  replace H := Option.bind_eq_some_iff.mp H
  obtain ⟨t108, A70, H⟩ := H
  try dsimp only at H
  have A7 := Aside0.mk A70
  clear A70
  replace H := Option.bind_eq_some_iff.mp H
  obtain ⟨t109, A80, H⟩ := H
  try dsimp only at H
  have A8 := Aside0.mk A80
  clear A80
  obtain ⟨ji9, hji9⟩ : ∃ j_ : Int, (mx a1 a2) = j_ := ⟨_, rfl⟩
  replace H : ((fixed_Floor.f k (wrap64 ((wrap64 ((wrap64 ((wrap64 ((wrap64 (2 * a3)) + 1)) * a1)) - a2)) - (wrap64 (4 * (ji9))))) (wrap64 (2 * a2))).bind fun t110 => ((raw_ceil.f k (wrap64 ((wrap64 ((wrap64 ((wrap64 ((wrap64 (2 * a3)) + 1)) * a1)) - a2)) + (wrap64 (4 * (ji9))))) (wrap64 (2 * a2))).bind fun t111 => (some (wrap64 (t110 + 1), wrap64 (t111 - (wrap64 (t110 + 1))))))) = some (r1, r2) := by first | (rw [hji9] at H; exact H) | (simp only [hji9] at H ⊢; exact H)
  (try rw [hji9] at A5)
  (try rw [hji9] at A7)
  (try rw [hji9] at A8)
  have hji9_ : (if a1 < a2 then a2 else a1) = ji9 := hji9
  replace H := Option.bind_eq_some_iff.mp H
  obtain ⟨t110, A100, H⟩ := H
  try dsimp only at H
  have A10 := Aside0.mk A100
  clear A100
  replace H := Option.bind_eq_some_iff.mp H
  obtain ⟨t111, A110, H⟩ := H
  try dsimp only at H
  have A11 := Aside0.mk A110
  clear A110
  simp only [Option.some.injEq, Prod.mk.injEq] at H
  obtain ⟨rfl, rfl⟩ := H
  go_enter Tryd.func37, Tryd.ntmps37
  go_wp2_with (first | (go_at_call 56; (with_reducible refine (raw_may.calls 1 a1 a2 a3 true _ A5.out).mono ?_); rintro e w' ⟨rfl, ⟨nd, rfl⟩⟩; (try exact ⟨rfl, _, zN⟩)) | (go_at_call 41; (with_reducible refine (fixed_Floor.calls k (wrap64 (a3 * a1)) a2 t108 _ A7.out).mono ?_); rintro e w' ⟨rfl, ⟨nd, rfl⟩⟩; (try exact ⟨rfl, _, zN⟩)) | (go_at_call 57; (with_reducible refine (raw_ceil.calls k (wrap64 ((wrap64 (a3 + 1)) * a1)) a2 t109 _ A8.out).mono ?_); rintro e w' ⟨rfl, ⟨nd, rfl⟩⟩; (try exact ⟨rfl, _, zN⟩)) | (go_at_call 41; (with_reducible refine (fixed_Floor.calls k (wrap64 ((wrap64 ((wrap64 ((wrap64 ((wrap64 (2 * a3)) + 1)) * a1)) - a2)) - (wrap64 (4 * (ji9))))) (wrap64 (2 * a2)) t110 _ A10.out).mono ?_); rintro e w' ⟨rfl, ⟨nd, rfl⟩⟩; (try exact ⟨rfl, _, zN⟩)) | (go_at_call 57; (with_reducible refine (raw_ceil.calls k (wrap64 ((wrap64 ((wrap64 ((wrap64 ((wrap64 (2 * a3)) + 1)) * a1)) - a2)) + (wrap64 (4 * (ji9))))) (wrap64 (2 * a2)) t111 _ A11.out).mono ?_); rintro e w' ⟨rfl, ⟨nd, rfl⟩⟩; (try exact ⟨rfl, _, zN⟩)))
  repeat (go_quiet (first | (go_at_call 56; (with_reducible refine (raw_may.calls 1 a1 a2 a3 true _ A5.out).mono ?_); rintro e w' ⟨rfl, ⟨nd, rfl⟩⟩; (try exact ⟨rfl, _, zN⟩)) | (go_at_call 41; (with_reducible refine (fixed_Floor.calls k (wrap64 (a3 * a1)) a2 t108 _ A7.out).mono ?_); rintro e w' ⟨rfl, ⟨nd, rfl⟩⟩; (try exact ⟨rfl, _, zN⟩)) | (go_at_call 57; (with_reducible refine (raw_ceil.calls k (wrap64 ((wrap64 (a3 + 1)) * a1)) a2 t109 _ A8.out).mono ?_); rintro e w' ⟨rfl, ⟨nd, rfl⟩⟩; (try exact ⟨rfl, _, zN⟩)) | (go_at_call 41; (with_reducible refine (fixed_Floor.calls k (wrap64 ((wrap64 ((wrap64 ((wrap64 ((wrap64 (2 * a3)) + 1)) * a1)) - a2)) - (wrap64 (4 * (ji9))))) (wrap64 (2 * a2)) t110 _ A10.out).mono ?_); rintro e w' ⟨rfl, ⟨nd, rfl⟩⟩; (try exact ⟨rfl, _, zN⟩)) | (go_at_call 57; (with_reducible refine (raw_ceil.calls k (wrap64 ((wrap64 ((wrap64 ((wrap64 ((wrap64 (2 * a3)) + 1)) * a1)) - a2)) + (wrap64 (4 * (ji9))))) (wrap64 (2 * a2)) t111 _ A11.out).mono ?_); rintro e w' ⟨rfl, ⟨nd, rfl⟩⟩; (try exact ⟨rfl, _, zN⟩))); try go_wp2_with (first | (go_at_call 56; (with_reducible refine (raw_may.calls 1 a1 a2 a3 true _ A5.out).mono ?_); rintro e w' ⟨rfl, ⟨nd, rfl⟩⟩; (try exact ⟨rfl, _, zN⟩)) | (go_at_call 41; (with_reducible refine (fixed_Floor.calls k (wrap64 (a3 * a1)) a2 t108 _ A7.out).mono ?_); rintro e w' ⟨rfl, ⟨nd, rfl⟩⟩; (try exact ⟨rfl, _, zN⟩)) | (go_at_call 57; (with_reducible refine (raw_ceil.calls k (wrap64 ((wrap64 (a3 + 1)) * a1)) a2 t109 _ A8.out).mono ?_); rintro e w' ⟨rfl, ⟨nd, rfl⟩⟩; (try exact ⟨rfl, _, zN⟩)) | (go_at_call 41; (with_reducible refine (fixed_Floor.calls k (wrap64 ((wrap64 ((wrap64 ((wrap64 ((wrap64 (2 * a3)) + 1)) * a1)) - a2)) - (wrap64 (4 * (ji9))))) (wrap64 (2 * a2)) t110 _ A10.out).mono ?_); rintro e w' ⟨rfl, ⟨nd, rfl⟩⟩; (try exact ⟨rfl, _, zN⟩)) | (go_at_call 57; (with_reducible refine (raw_ceil.calls k (wrap64 ((wrap64 ((wrap64 ((wrap64 ((wrap64 (2 * a3)) + 1)) * a1)) - a2)) + (wrap64 (4 * (ji9))))) (wrap64 (2 * a2)) t111 _ A11.out).mono ?_); rintro e w' ⟨rfl, ⟨nd, rfl⟩⟩; (try exact ⟨rfl, _, zN⟩))))
  go_ret2
  exact ⟨by first | rfl | (simp [errW_none, errW_some] <;> rfl) | (simp only [← hji9]; first | rfl | (simp [errW_none, errW_some] <;> rfl)) | (simp [*, errW_none, errW_some] <;> rfl), zB⟩
 ·replace c6 := Bool.eq_false_iff.mpr c6
  subst c6
  have H1 := H; rw [if_neg (show ¬ (false = true) by decide)] at H1; try dsimp only at H1
  clear H
  have H := H1
  clear H1
  simp only [Option.some.injEq, Prod.mk.injEq] at H
  obtain ⟨rfl, rfl⟩ := H
  go_enter Tryd.func37, Tryd.ntmps37
  go_wp2_with (first | (go_at_call 56; (with_reducible refine (raw_may.calls 1 a1 a2 a3 false _ A5.out).mono ?_); rintro e w' ⟨rfl, ⟨nd, rfl⟩⟩; (try exact ⟨rfl, _, zN⟩)))
  repeat (go_quiet (first | (go_at_call 56; (with_reducible refine (raw_may.calls 1 a1 a2 a3 false _ A5.out).mono ?_); rintro e w' ⟨rfl, ⟨nd, rfl⟩⟩; (try exact ⟨rfl, _, zN⟩))); try go_wp2_with (first | (go_at_call 56; (with_reducible refine (raw_may.calls 1 a1 a2 a3 false _ A5.out).mono ?_); rintro e w' ⟨rfl, ⟨nd, rfl⟩⟩; (try exact ⟨rfl, _, zN⟩))))
  go_ret2
  exact ⟨zS, zB⟩
def raw_Window_at2.f (k : Nat) (a1 : Int) (a2 : Int) (a3 : Int) : Option (Int × Int) := (raw_may.f 2 a1 a2 a3).bind fun t112 => (if t112 = true then ((fixed_Floor.f k (wrap64 (a3 * a1)) a2).bind fun t113 => ((raw_ceil.f k (wrap64 ((wrap64 (a3 + 1)) * a1)) a2).bind fun t114 => ((fixed_Floor.f k (wrap64 ((wrap64 ((wrap64 ((wrap64 ((wrap64 (2 * a3)) + 1)) * a1)) - a2)) - (wrap64 (6 * (mx a1 a2))))) (wrap64 (2 * a2))).bind fun t115 => ((raw_ceil.f k (wrap64 ((wrap64 ((wrap64 ((wrap64 ((wrap64 (2 * a3)) + 1)) * a1)) - a2)) + (wrap64 (6 * (mx a1 a2))))) (wrap64 (2 * a2))).bind fun t116 => (some (wrap64 (t115 + 1), wrap64 (t116 - (wrap64 (t115 + 1))))))))) else (some (0, 0)))
theorem raw_Window_at2.mono : ∀ a1 a2 a3 k, LeO (raw_Window_at2.f k a1 a2 a3) (raw_Window_at2.f (k + 1) a1 a2 a3) := by
 intro a1 a2 a3 k
 unfold raw_Window_at2.f
 repeat' (with_reducible first | exact fixed_Floor.mono _ _ _ | exact raw_ceil.mono _ _ _ | exact zM | refine LeO.ite ?_ ?_ | refine LeO.bind ?_ (fun _ => ?_))
set_option maxHeartbeats 8000000 in
set_option maxRecDepth 100000 in
theorem raw_Window_at2.calls (k : Nat) (a1 : Int) (a2 : Int) (a3 : Int) (r1 : Int) (r2 : Int) (w : World) (hG : GL w) (h : raw_Window_at2.f k a1 a2 a3 = some (r1, r2)) :
  Calls Tryd.prog 37 #[.int .i64 2, .int .i64 a1, .int .i64 a2, .int .i64 a3] w fun e w' => e = .returned (.tuple #[.int .i64 r1, .int .i64 r2]) ∧ Below w.heap.size w w' := by
 have HB := Aside0.mk (Below.refl w.heap.size w)
 have H : ((raw_may.f 2 a1 a2 a3).bind fun t112 => (if t112 = true then ((fixed_Floor.f k (wrap64 (a3 * a1)) a2).bind fun t113 => ((raw_ceil.f k (wrap64 ((wrap64 (a3 + 1)) * a1)) a2).bind fun t114 => ((fixed_Floor.f k (wrap64 ((wrap64 ((wrap64 ((wrap64 ((wrap64 (2 * a3)) + 1)) * a1)) - a2)) - (wrap64 (6 * (mx a1 a2))))) (wrap64 (2 * a2))).bind fun t115 => ((raw_ceil.f k (wrap64 ((wrap64 ((wrap64 ((wrap64 ((wrap64 (2 * a3)) + 1)) * a1)) - a2)) + (wrap64 (6 * (mx a1 a2))))) (wrap64 (2 * a2))).bind fun t116 => (some (wrap64 (t115 + 1), wrap64 (t116 - (wrap64 (t115 + 1))))))))) else (some (0, 0)))) = some (r1, r2) := h
 clear h
 obtain ⟨h0_0, h0_1, h0_2, h0_3, h0_4, h0_5⟩ := hG
 replace H := Option.bind_eq_some_iff.mp H
 obtain ⟨t112, A50, H⟩ := H
 try dsimp only at H
 have A5 := Aside0.mk A50
 clear A50
 by_cases c6 : t112 = true
 ·subst c6
  have H1 := H; rw [if_pos rfl] at H1; try dsimp only at H1
  clear H
  have H := H1
  clear H1
  replace H := Option.bind_eq_some_iff.mp H
  obtain ⟨t113, A70, H⟩ := H
  try dsimp only at H
  have A7 := Aside0.mk A70
  clear A70
  replace H := Option.bind_eq_some_iff.mp H
  obtain ⟨t114, A80, H⟩ := H
  try dsimp only at H
  have A8 := Aside0.mk A80
  clear A80
  obtain ⟨ji9, hji9⟩ : ∃ j_ : Int, (mx a1 a2) = j_ := ⟨_, rfl⟩
  replace H : ((fixed_Floor.f k (wrap64 ((wrap64 ((wrap64 ((wrap64 ((wrap64 (2 * a3)) + 1)) * a1)) - a2)) - (wrap64 (6 * (ji9))))) (wrap64 (2 * a2))).bind fun t115 => ((raw_ceil.f k (wrap64 ((wrap64 ((wrap64 ((wrap64 ((wrap64 (2 * a3)) + 1)) * a1)) - a2)) + (wrap64 (6 * (ji9))))) (wrap64 (2 * a2))).bind fun t116 => (some (wrap64 (t115 + 1), wrap64 (t116 - (wrap64 (t115 + 1))))))) = some (r1, r2) := by first | (rw [hji9] at H; exact H) | (simp only [hji9] at H ⊢; exact H)
  (try rw [hji9] at A5)
  (try rw [hji9] at A7)
  (try rw [hji9] at A8)
  have hji9_ : (if a1 < a2 then a2 else a1) = ji9 := hji9
  replace H := Option.bind_eq_some_iff.mp H
  obtain ⟨t115, A100, H⟩ := H
  try dsimp only at H
  have A10 := Aside0.mk A100
  clear A100
  replace H := Option.bind_eq_some_iff.mp H
  obtain ⟨t116, A110, H⟩ := H
  try dsimp only at H
  have A11 := Aside0.mk A110
  clear A110
  simp only [Option.some.injEq, Prod.mk.injEq] at H
  obtain ⟨rfl, rfl⟩ := H
  go_enter Tryd.func37, Tryd.ntmps37
  go_wp2_with (first | (go_at_call 56; (with_reducible refine (raw_may.calls 2 a1 a2 a3 true _ A5.out).mono ?_); rintro e w' ⟨rfl, ⟨nd, rfl⟩⟩; (try exact ⟨rfl, _, zN⟩)) | (go_at_call 41; (with_reducible refine (fixed_Floor.calls k (wrap64 (a3 * a1)) a2 t113 _ A7.out).mono ?_); rintro e w' ⟨rfl, ⟨nd, rfl⟩⟩; (try exact ⟨rfl, _, zN⟩)) | (go_at_call 57; (with_reducible refine (raw_ceil.calls k (wrap64 ((wrap64 (a3 + 1)) * a1)) a2 t114 _ A8.out).mono ?_); rintro e w' ⟨rfl, ⟨nd, rfl⟩⟩; (try exact ⟨rfl, _, zN⟩)) | (go_at_call 41; (with_reducible refine (fixed_Floor.calls k (wrap64 ((wrap64 ((wrap64 ((wrap64 ((wrap64 (2 * a3)) + 1)) * a1)) - a2)) - (wrap64 (6 * (ji9))))) (wrap64 (2 * a2)) t115 _ A10.out).mono ?_); rintro e w' ⟨rfl, ⟨nd, rfl⟩⟩; (try exact ⟨rfl, _, zN⟩)) | (go_at_call 57; (with_reducible refine (raw_ceil.calls k (wrap64 ((wrap64 ((wrap64 ((wrap64 ((wrap64 (2 * a3)) + 1)) * a1)) - a2)) + (wrap64 (6 * (ji9))))) (wrap64 (2 * a2)) t116 _ A11.out).mono ?_); rintro e w' ⟨rfl, ⟨nd, rfl⟩⟩; (try exact ⟨rfl, _, zN⟩)))
  repeat (go_quiet (first | (go_at_call 56; (with_reducible refine (raw_may.calls 2 a1 a2 a3 true _ A5.out).mono ?_); rintro e w' ⟨rfl, ⟨nd, rfl⟩⟩; (try exact ⟨rfl, _, zN⟩)) | (go_at_call 41; (with_reducible refine (fixed_Floor.calls k (wrap64 (a3 * a1)) a2 t113 _ A7.out).mono ?_); rintro e w' ⟨rfl, ⟨nd, rfl⟩⟩; (try exact ⟨rfl, _, zN⟩)) | (go_at_call 57; (with_reducible refine (raw_ceil.calls k (wrap64 ((wrap64 (a3 + 1)) * a1)) a2 t114 _ A8.out).mono ?_); rintro e w' ⟨rfl, ⟨nd, rfl⟩⟩; (try exact ⟨rfl, _, zN⟩)) | (go_at_call 41; (with_reducible refine (fixed_Floor.calls k (wrap64 ((wrap64 ((wrap64 ((wrap64 ((wrap64 (2 * a3)) + 1)) * a1)) - a2)) - (wrap64 (6 * (ji9))))) (wrap64 (2 * a2)) t115 _ A10.out).mono ?_); rintro e w' ⟨rfl, ⟨nd, rfl⟩⟩; (try exact ⟨rfl, _, zN⟩)) | (go_at_call 57; (with_reducible refine (raw_ceil.calls k (wrap64 ((wrap64 ((wrap64 ((wrap64 ((wrap64 (2 * a3)) + 1)) * a1)) - a2)) + (wrap64 (6 * (ji9))))) (wrap64 (2 * a2)) t116 _ A11.out).mono ?_); rintro e w' ⟨rfl, ⟨nd, rfl⟩⟩; (try exact ⟨rfl, _, zN⟩))); try go_wp2_with (first | (go_at_call 56; (with_reducible refine (raw_may.calls 2 a1 a2 a3 true _ A5.out).mono ?_); rintro e w' ⟨rfl, ⟨nd, rfl⟩⟩; (try exact ⟨rfl, _, zN⟩)) | (go_at_call 41; (with_reducible refine (fixed_Floor.calls k (wrap64 (a3 * a1)) a2 t113 _ A7.out).mono ?_); rintro e w' ⟨rfl, ⟨nd, rfl⟩⟩; (try exact ⟨rfl, _, zN⟩)) | (go_at_call 57; (with_reducible refine (raw_ceil.calls k (wrap64 ((wrap64 (a3 + 1)) * a1)) a2 t114 _ A8.out).mono ?_); rintro e w' ⟨rfl, ⟨nd, rfl⟩⟩; (try exact ⟨rfl, _, zN⟩)) | (go_at_call 41; (with_reducible refine (fixed_Floor.calls k (wrap64 ((wrap64 ((wrap64 ((wrap64 ((wrap64 (2 * a3)) + 1)) * a1)) - a2)) - (wrap64 (6 * (ji9))))) (wrap64 (2 * a2)) t115 _ A10.out).mono ?_); rintro e w' ⟨rfl, ⟨nd, rfl⟩⟩; (try exact ⟨rfl, _, zN⟩)) | (go_at_call 57; (with_reducible refine (raw_ceil.calls k (wrap64 ((wrap64 ((wrap64 ((wrap64 ((wrap64 (2 * a3)) + 1)) * a1)) - a2)) + (wrap64 (6 * (ji9))))) (wrap64 (2 * a2)) t116 _ A11.out).mono ?_); rintro e w' ⟨rfl, ⟨nd, rfl⟩⟩; (try exact ⟨rfl, _, zN⟩))))
  go_ret2
  exact ⟨by first | rfl | (simp [errW_none, errW_some] <;> rfl) | (simp only [← hji9]; first | rfl | (simp [errW_none, errW_some] <;> rfl)) | (simp [*, errW_none, errW_some] <;> rfl), zB⟩
 ·replace c6 := Bool.eq_false_iff.mpr c6
  subst c6
  have H1 := H; rw [if_neg (show ¬ (false = true) by decide)] at H1; try dsimp only at H1
  clear H
  have H := H1
  clear H1
  simp only [Option.some.injEq, Prod.mk.injEq] at H
  obtain ⟨rfl, rfl⟩ := H
  go_enter Tryd.func37, Tryd.ntmps37
  go_wp2_with (first | (go_at_call 56; (with_reducible refine (raw_may.calls 2 a1 a2 a3 false _ A5.out).mono ?_); rintro e w' ⟨rfl, ⟨nd, rfl⟩⟩; (try exact ⟨rfl, _, zN⟩)))
  repeat (go_quiet (first | (go_at_call 56; (with_reducible refine (raw_may.calls 2 a1 a2 a3 false _ A5.out).mono ?_); rintro e w' ⟨rfl, ⟨nd, rfl⟩⟩; (try exact ⟨rfl, _, zN⟩))); try go_wp2_with (first | (go_at_call 56; (with_reducible refine (raw_may.calls 2 a1 a2 a3 false _ A5.out).mono ?_); rintro e w' ⟨rfl, ⟨nd, rfl⟩⟩; (try exact ⟨rfl, _, zN⟩))))
  go_ret2
  exact ⟨zS, zB⟩
def raw_Window_gen.f (k : Nat) (a0 : Int) (a1 : Int) (a2 : Int) (a3 : Int) : Option (Int × Int) := (raw_may.f a0 a1 a2 a3).bind fun t117 => (if t117 = true then ((fixed_Floor.f k (wrap64 (a3 * a1)) a2).bind fun t118 => ((raw_ceil.f k (wrap64 ((wrap64 (a3 + 1)) * a1)) a2).bind fun t119 => (if a0 = 0 then (some (t118, wrap64 (t119 - t118))) else (none)))) else (some (0, 0)))
theorem raw_Window_gen.mono : ∀ a0 a1 a2 a3 k, LeO (raw_Window_gen.f k a0 a1 a2 a3) (raw_Window_gen.f (k + 1) a0 a1 a2 a3) := by
 intro a0 a1 a2 a3 k
 unfold raw_Window_gen.f
 repeat' (with_reducible first | exact fixed_Floor.mono _ _ _ | exact raw_ceil.mono _ _ _ | exact zM | refine LeO.ite ?_ ?_ | refine LeO.bind ?_ (fun _ => ?_))
set_option maxHeartbeats 8000000 in
set_option maxRecDepth 100000 in
theorem raw_Window_gen.calls (k : Nat) (a0 : Int) (a1 : Int) (a2 : Int) (a3 : Int) (r1 : Int) (r2 : Int) (w : World) (hG : GL w) (h : raw_Window_gen.f k a0 a1 a2 a3 = some (r1, r2)) :
  Calls Tryd.prog 37 #[.int .i64 a0, .int .i64 a1, .int .i64 a2, .int .i64 a3] w fun e w' => e = .returned (.tuple #[.int .i64 r1, .int .i64 r2]) ∧ Below w.heap.size w w' := by
 have HB := Aside0.mk (Below.refl w.heap.size w)
 have H : ((raw_may.f a0 a1 a2 a3).bind fun t117 => (if t117 = true then ((fixed_Floor.f k (wrap64 (a3 * a1)) a2).bind fun t118 => ((raw_ceil.f k (wrap64 ((wrap64 (a3 + 1)) * a1)) a2).bind fun t119 => (if a0 = 0 then (some (t118, wrap64 (t119 - t118))) else (none)))) else (some (0, 0)))) = some (r1, r2) := h
 clear h
 obtain ⟨h0_0, h0_1, h0_2, h0_3, h0_4, h0_5⟩ := hG
 replace H := Option.bind_eq_some_iff.mp H
 obtain ⟨t117, A50, H⟩ := H
 try dsimp only at H
 have A5 := Aside0.mk A50
 clear A50
 by_cases c6 : t117 = true
 ·subst c6
  have H1 := H; rw [if_pos rfl] at H1; try dsimp only at H1
  clear H
  have H := H1
  clear H1
  replace H := Option.bind_eq_some_iff.mp H
  obtain ⟨t118, A70, H⟩ := H
  try dsimp only at H
  have A7 := Aside0.mk A70
  clear A70
  replace H := Option.bind_eq_some_iff.mp H
  obtain ⟨t119, A80, H⟩ := H
  try dsimp only at H
  have A8 := Aside0.mk A80
  clear A80
  by_cases c9 : a0 = 0
  ·rw [if_pos c9] at H
   have c9b0 : (a0 == 0) = true := beq_iff_eq.mpr c9
   have c9b1 : (a0 != 0) = false := bne_eq_false_iff_eq.mpr c9
   clear c9
   simp only [Option.some.injEq, Prod.mk.injEq] at H
   obtain ⟨rfl, rfl⟩ := H
   go_enter Tryd.func37, Tryd.ntmps37
   go_wp2_with (first | (go_at_call 56; (with_reducible refine (raw_may.calls a0 a1 a2 a3 true _ A5.out).mono ?_); rintro e w' ⟨rfl, ⟨nd, rfl⟩⟩; (try exact ⟨rfl, _, zN⟩)) | (go_at_call 41; (with_reducible refine (fixed_Floor.calls k (wrap64 (a3 * a1)) a2 t118 _ A7.out).mono ?_); rintro e w' ⟨rfl, ⟨nd, rfl⟩⟩; (try exact ⟨rfl, _, zN⟩)) | (go_at_call 57; (with_reducible refine (raw_ceil.calls k (wrap64 ((wrap64 (a3 + 1)) * a1)) a2 t119 _ A8.out).mono ?_); rintro e w' ⟨rfl, ⟨nd, rfl⟩⟩; (try exact ⟨rfl, _, zN⟩)))
   repeat (go_quiet (first | (go_at_call 56; (with_reducible refine (raw_may.calls a0 a1 a2 a3 true _ A5.out).mono ?_); rintro e w' ⟨rfl, ⟨nd, rfl⟩⟩; (try exact ⟨rfl, _, zN⟩)) | (go_at_call 41; (with_reducible refine (fixed_Floor.calls k (wrap64 (a3 * a1)) a2 t118 _ A7.out).mono ?_); rintro e w' ⟨rfl, ⟨nd, rfl⟩⟩; (try exact ⟨rfl, _, zN⟩)) | (go_at_call 57; (with_reducible refine (raw_ceil.calls k (wrap64 ((wrap64 (a3 + 1)) * a1)) a2 t119 _ A8.out).mono ?_); rintro e w' ⟨rfl, ⟨nd, rfl⟩⟩; (try exact ⟨rfl, _, zN⟩))); try go_wp2_with (first | (go_at_call 56; (with_reducible refine (raw_may.calls a0 a1 a2 a3 true _ A5.out).mono ?_); rintro e w' ⟨rfl, ⟨nd, rfl⟩⟩; (try exact ⟨rfl, _, zN⟩)) | (go_at_call 41; (with_reducible refine (fixed_Floor.calls k (wrap64 (a3 * a1)) a2 t118 _ A7.out).mono ?_); rintro e w' ⟨rfl, ⟨nd, rfl⟩⟩; (try exact ⟨rfl, _, zN⟩)) | (go_at_call 57; (with_reducible refine (raw_ceil.calls k (wrap64 ((wrap64 (a3 + 1)) * a1)) a2 t119 _ A8.out).mono ?_); rintro e w' ⟨rfl, ⟨nd, rfl⟩⟩; (try exact ⟨rfl, _, zN⟩))))
   go_ret2
   exact ⟨zS, zB⟩
  ·rw [if_neg c9] at H
   exact absurd H (by simp)
 ·replace c6 := Bool.eq_false_iff.mpr c6
  subst c6
  have H1 := H; rw [if_neg (show ¬ (false = true) by decide)] at H1; try dsimp only at H1
  clear H
  have H := H1
  clear H1
  simp only [Option.some.injEq, Prod.mk.injEq] at H
  obtain ⟨rfl, rfl⟩ := H
  go_enter Tryd.func37, Tryd.ntmps37
  go_wp2_with (first | (go_at_call 56; (with_reducible refine (raw_may.calls a0 a1 a2 a3 false _ A5.out).mono ?_); rintro e w' ⟨rfl, ⟨nd, rfl⟩⟩; (try exact ⟨rfl, _, zN⟩)))
  repeat (go_quiet (first | (go_at_call 56; (with_reducible refine (raw_may.calls a0 a1 a2 a3 false _ A5.out).mono ?_); rintro e w' ⟨rfl, ⟨nd, rfl⟩⟩; (try exact ⟨rfl, _, zN⟩))); try go_wp2_with (first | (go_at_call 56; (with_reducible refine (raw_may.calls a0 a1 a2 a3 false _ A5.out).mono ?_); rintro e w' ⟨rfl, ⟨nd, rfl⟩⟩; (try exact ⟨rfl, _, zN⟩))))
  go_ret2
  exact ⟨zS, zB⟩
def raw_Window.f (k : Nat) (a0 : Int) (a1 : Int) (a2 : Int) (a3 : Int) : Option (Int × Int) := if a0 = 1 then raw_Window_at1.f k a1 a2 a3 else if a0 = 2 then raw_Window_at2.f k a1 a2 a3 else raw_Window_gen.f k a0 a1 a2 a3
theorem raw_Window.mono : ∀ a0 a1 a2 a3 k, LeO (raw_Window.f k a0 a1 a2 a3) (raw_Window.f (k + 1) a0 a1 a2 a3) := by
 intro a0 a1 a2 a3 k
 unfold raw_Window.f
 exact LeO.ite (raw_Window_at1.mono _ _ _ _) (LeO.ite (raw_Window_at2.mono _ _ _ _) (raw_Window_gen.mono _ _ _ _ _))
theorem raw_Window.calls (k : Nat) (a0 : Int) (a1 : Int) (a2 : Int) (a3 : Int) (r1 : Int) (r2 : Int) (w : World) (hG : GL w) (h : raw_Window.f k a0 a1 a2 a3 = some (r1, r2)) :
  Calls Tryd.prog 37 #[.int .i64 a0, .int .i64 a1, .int .i64 a2, .int .i64 a3] w fun e w' => e = .returned (.tuple #[.int .i64 r1, .int .i64 r2]) ∧ Below w.heap.size w w' := by
 unfold raw_Window.f at h
 by_cases c1 : a0 = 1
 ·subst c1; exact raw_Window_at1.calls k a1 a2 a3 r1 r2 w hG (by rw [if_pos rfl] at h; exact h)
 ·rw [if_neg c1] at h
  by_cases c2 : a0 = 2
  ·subst c2; exact raw_Window_at2.calls k a1 a2 a3 r1 r2 w hG (by rw [if_pos rfl] at h; exact h)
  ·rw [if_neg c2] at h
   exact raw_Window_gen.calls k a0 a1 a2 a3 r1 r2 w hG h
end Go.Proofs.YthaajkpiknbdbaaDoor.QA

namespace Go.Proofs.YthaajkpiknbdbaaDoor.QA
open Go.Proofs.YthaajkpiknbdbaaDoor.T
open Go.RowKit Go.Proofs.YthaajkpiknbdbaaDoorW.PrintWords Go.Proofs.YthaajkpiknbdbaaDoorW.PrintLast Go.Proofs.YthaajkpiknbdbaaDoorW.PrintMore
attribute [local go_sem] ext_call max2_int min2_int max_two min_two max_three min_three max_four min_four   -- for this text's walks alone
set_option linter.unusedVariables false
set_option linter.unusedSimpArgs false
def wide_MulShift.j0 : Nat → Bool → Int → Int → Bool → Option (Int)
 | 0, _, _, _, _ => none
 | k + 1, x9, x10, x11, x59 => if x59 = true then ((wide_signed.f k x10 x11 x9).bind fun t145 => (some t145)) else ((wide_signed.f k (IntKind.u64.wrap (x10 + (add64c x11 1 0))) (add64s x11 1 0) x9).bind fun t146 => (some t146))
def wide_MulShift.f (k : Nat) (a0 : Int) (a1 : Int) (a2 : Int) : Option (Int) := if (mx 0 a2) ≥ 128 then (some 0) else ((wide_product.f a0 a1).bind fun bt136 => (if (mx 0 a2) = 0 then ((wide_signed.f k bt136.1 bt136.2.1 bt136.2.2).bind fun t139 => (some t139)) else ((wide_shift.f bt136.1 bt136.2.1 (mx 0 a2)).bind fun bt140 => ((wide_shift.f bt136.1 bt136.2.1 (wrap64 ((mx 0 a2) - 1))).bind fun bt142 => (if (Go.bits .and .u64 bt142.2 1) = 0 then (wide_MulShift.j0 k bt136.2.2 bt140.1 bt140.2 true) else (if bt136.2.2 = true then ((wide_exact.f bt136.1 bt136.2.1 (wrap64 ((mx 0 a2) - 1))).bind fun t144 => (wide_MulShift.j0 k bt136.2.2 bt140.1 bt140.2 t144)) else (wide_MulShift.j0 k bt136.2.2 bt140.1 bt140.2 false)))))))
theorem wide_MulShift.mono_l : ∀ k, (∀ y0 y1 y2 y3, LeO (wide_MulShift.j0 k y0 y1 y2 y3) (wide_MulShift.j0 (k + 1) y0 y1 y2 y3))
 | 0 => fun _ _ _ _ r h => by simp [wide_MulShift.j0] at h
 | k + 1 => by
  have ih0 := wide_MulShift.mono_l k
  ·intro y0 y1 y2 y3
   unfold wide_MulShift.j0
   repeat' (with_reducible first | exact ih0 _ _ _ _ | exact wide_signed.mono _ _ _ _ | exact zM | refine LeO.ite ?_ ?_ | refine LeO.bind ?_ (fun _ => ?_))
theorem wide_MulShift.mono : ∀ a0 a1 a2 k, LeO (wide_MulShift.f k a0 a1 a2) (wide_MulShift.f (k + 1) a0 a1 a2) := by
 intro a0 a1 a2 k
 have ih0 := wide_MulShift.mono_l k
 unfold wide_MulShift.f
 repeat' (with_reducible first | exact ih0 _ _ _ _ | exact wide_signed.mono _ _ _ _ | exact zM | refine LeO.ite ?_ ?_ | refine LeO.bind ?_ (fun _ => ?_))
set_option maxHeartbeats 8000000 in
set_option maxRecDepth 100000 in
theorem wide_MulShift.calls (k : Nat) (a0 : Int) (a1 : Int) (a2 : Int) (r : Int) (w : World) (h : wide_MulShift.f k a0 a1 a2 = some r) :
  Calls Tryd.prog 85 #[.int .i64 a0, .int .i64 a1, .int .i64 a2] w fun e w' => e = .returned (.int .i64 r) ∧ Below w.heap.size w w' := by
 have HB := Aside0.mk (Below.refl w.heap.size w)
 have H : (if (mx 0 a2) ≥ 128 then (some 0) else ((wide_product.f a0 a1).bind fun bt136 => (if (mx 0 a2) = 0 then ((wide_signed.f k bt136.1 bt136.2.1 bt136.2.2).bind fun t139 => (some t139)) else ((wide_shift.f bt136.1 bt136.2.1 (mx 0 a2)).bind fun bt140 => ((wide_shift.f bt136.1 bt136.2.1 (wrap64 ((mx 0 a2) - 1))).bind fun bt142 => (if (Go.bits .and .u64 bt142.2 1) = 0 then (wide_MulShift.j0 k bt136.2.2 bt140.1 bt140.2 true) else (if bt136.2.2 = true then ((wide_exact.f bt136.1 bt136.2.1 (wrap64 ((mx 0 a2) - 1))).bind fun t144 => (wide_MulShift.j0 k bt136.2.2 bt140.1 bt140.2 t144)) else (wide_MulShift.j0 k bt136.2.2 bt140.1 bt140.2 false)))))))) = some r := h
 clear h
 obtain ⟨ji4, hji4⟩ : ∃ j_ : Int, (mx 0 a2) = j_ := ⟨_, rfl⟩
 replace H : (if (ji4) ≥ 128 then (some 0) else ((wide_product.f a0 a1).bind fun bt136 => (if (ji4) = 0 then ((wide_signed.f k bt136.1 bt136.2.1 bt136.2.2).bind fun t139 => (some t139)) else ((wide_shift.f bt136.1 bt136.2.1 (ji4)).bind fun bt140 => ((wide_shift.f bt136.1 bt136.2.1 (wrap64 ((ji4) - 1))).bind fun bt142 => (if (Go.bits .and .u64 bt142.2 1) = 0 then (wide_MulShift.j0 k bt136.2.2 bt140.1 bt140.2 true) else (if bt136.2.2 = true then ((wide_exact.f bt136.1 bt136.2.1 (wrap64 ((ji4) - 1))).bind fun t144 => (wide_MulShift.j0 k bt136.2.2 bt140.1 bt140.2 t144)) else (wide_MulShift.j0 k bt136.2.2 bt140.1 bt140.2 false)))))))) = some r := by first | (rw [hji4] at H; exact H) | (simp only [hji4] at H ⊢; exact H)
 (try (have hji4l : 0 ≤ ji4 := by (rw [← hji4]; unfold mx; (repeat' split) <;> omega)))
 (try (have hji4m : 0 ≤ ji4 := by omega))
 have hji4_ : (if 0 < a2 then a2 else 0) = ji4 := hji4
 by_cases c5 : (ji4) ≥ 128
 ·rw [if_pos c5] at H
  have c5b0 : decide (128 ≤ (ji4)) = true := decide_eq_true c5
  clear c5
  obtain rfl := Option.some.inj H
  go_enter Tryd.func85, Tryd.ntmps85
  go_wp2
  go_ret
  exact ⟨by first | rfl | (simp [errW_none, errW_some] <;> rfl) | (simp only [← hji4]; first | rfl | (simp [errW_none, errW_some] <;> rfl)) | (simp [*, errW_none, errW_some] <;> rfl), zB⟩
 ·rw [if_neg c5] at H
  have c5b0 : decide (128 ≤ (ji4)) = false := decide_eq_false c5
  clear c5
  replace H := Option.bind_eq_some_iff.mp H
  obtain ⟨⟨t136, t137, t138⟩, A60, H⟩ := H
  try dsimp only at H
  have A6 := Aside0.mk A60
  clear A60
  by_cases c7 : (ji4) = 0
  ·rw [if_pos c7] at H
   have c7b0 : ((ji4) == 0) = true := beq_iff_eq.mpr c7
   have c7b1 : ((ji4) != 0) = false := bne_eq_false_iff_eq.mpr c7
   clear c7
   replace H := Option.bind_eq_some_iff.mp H
   obtain ⟨t139, A80, H⟩ := H
   try dsimp only at H
   have A8 := Aside0.mk A80
   clear A80
   obtain rfl := Option.some.inj H
   go_enter Tryd.func85, Tryd.ntmps85
   go_wp2_with (first | ((with_reducible refine gate_callee (f := 75) rfl ?_); refine goesL_ (some 22) rfl rfl Tryd.func75 (by kernel_rfl) rfl #[.int .i64 a0, .int .i64 a1] rfl zL ?_; (with_reducible refine (wide_product.calls a0 a1 t136 t137 t138 _ A6.out).mono ?_); rintro e w' ⟨rfl, ⟨nd, rfl⟩⟩; refine ⟨_, rfl, ?_⟩) | ((with_reducible refine gate_callee (f := 77) rfl ?_); refine goesL_ (some 31) rfl rfl Tryd.func77 (by kernel_rfl) rfl #[.int .u64 t136, .int .u64 t137, .bool t138] rfl zL ?_; (with_reducible refine (wide_signed.calls k t136 t137 t138 t139 _ A8.out).mono ?_); rintro e w' ⟨rfl, ⟨nd, rfl⟩⟩; refine ⟨_, rfl, ?_⟩))
   go_ret
   exact ⟨by first | rfl | (simp [errW_none, errW_some] <;> rfl) | (simp only [← hji4]; first | rfl | (simp [errW_none, errW_some] <;> rfl)) | (simp [*, errW_none, errW_some] <;> rfl), zB⟩
  ·rw [if_neg c7] at H
   have c7b0 : ((ji4) == 0) = false := beq_eq_false_iff_ne.mpr c7
   have c7b1 : ((ji4) != 0) = true := bne_iff_ne.mpr c7
   replace H := Option.bind_eq_some_iff.mp H
   obtain ⟨⟨t140, t141⟩, A90, H⟩ := H
   try dsimp only at H
   have A9 := Aside0.mk A90
   clear A90
   replace H := Option.bind_eq_some_iff.mp H
   obtain ⟨⟨t142, t143⟩, A100, H⟩ := H
   try dsimp only at H
   have A10 := Aside0.mk A100
   clear A100
   have HC11 := Aside0.mk H
   clear H
   go_enter Tryd.func85, Tryd.ntmps85
   go_upto_region 9 with (first | ((with_reducible refine gate_callee (f := 75) rfl ?_); refine goesL_ (some 22) rfl rfl Tryd.func75 (by kernel_rfl) rfl #[.int .i64 a0, .int .i64 a1] rfl zL ?_; (with_reducible refine (wide_product.calls a0 a1 t136 t137 t138 _ A6.out).mono ?_); rintro e w' ⟨rfl, ⟨nd, rfl⟩⟩; refine ⟨_, rfl, ?_⟩) | ((with_reducible refine gate_callee (f := 103) rfl ?_); refine goesL_ (some 36) rfl rfl Tryd.func103 (by kernel_rfl) rfl #[.int .u64 t136, .int .u64 t137, .int .i64 ji4] rfl (by (try simp only [List.map_toArray, List.map_cons, List.map_nil]); first | done | (simp only [hji4]; rfl) | (simp only [Int.tdiv_eq_ediv_of_nonneg hji4l]; rfl) | rfl | (simp only [List.length_drop, List.length_take]; rfl)) ?_; (with_reducible refine (wide_shift.calls t136 t137 ji4 t140 t141 _ A9.out).mono ?_); rintro e w' ⟨rfl, ⟨nd, rfl⟩⟩; refine ⟨_, rfl, ?_⟩) | ((with_reducible refine gate_callee (f := 103) rfl ?_); refine goesL_ (some 44) rfl rfl Tryd.func103 (by kernel_rfl) rfl #[.int .u64 t136, .int .u64 t137, .int .i64 (wrap64 ((ji4) - 1))] rfl (by (try simp only [List.map_toArray, List.map_cons, List.map_nil]); first | done | (simp only [hji4]; rfl) | (simp only [Int.tdiv_eq_ediv_of_nonneg hji4l]; rfl) | rfl | (simp only [List.length_drop, List.length_take]; rfl)) ?_; (with_reducible refine (wide_shift.calls t136 t137 (wrap64 ((ji4) - 1)) t142 t143 _ A10.out).mono ?_); rintro e w' ⟨rfl, ⟨nd, rfl⟩⟩; refine ⟨_, rfl, ?_⟩))
   (try simp only [Act.put, List.setIfInBounds_toArray, List.set_cons_zero, List.set_cons_succ])
   go_cut [59] (fun v59 wc => ∃ (kq : Nat) (x59_10 : Bool), v59 = .bool x59_10 ∧ Aside0 (wide_MulShift.j0 kq t138 t140 t141 x59_10 = some r) ∧ Aside0 (kq ≤ k) ∧ Aside0 (Below w.heap.size w wc))
   case first =>
    have H := HC11.out
    clear HC11
    by_cases c12 : (Go.bits .and .u64 t143 1) = 0
    ·rw [if_pos c12] at H
     have c12b0 : ((Go.bits .and .u64 t143 1) == 0) = true := beq_iff_eq.mpr c12
     have c12b1 : ((Go.bits .and .u64 t143 1) != 0) = false := bne_eq_false_iff_eq.mpr c12
     clear c12
     (first | rw [c12b0] | (simp only [i64_w, i32_w]; rw [c12b0]) | skip)
     have H' := Aside0.mk H
     clear H
     go_wp2
     go_meet
     case rel => exact ⟨_, (true), zT, H', ⟨by first | omega | exact Nat.le_refl _⟩, ⟨zB⟩⟩
    ·rw [if_neg c12] at H
     have c12b0 : ((Go.bits .and .u64 t143 1) == 0) = false := beq_eq_false_iff_ne.mpr c12
     have c12b1 : ((Go.bits .and .u64 t143 1) != 0) = true := bne_iff_ne.mpr c12
     (first | rw [c12b0] | (simp only [i64_w, i32_w]; rw [c12b0]) | skip)
     by_cases c13 : t138 = true
     ·subst c13
      have H1 := H; rw [if_pos rfl] at H1; try dsimp only at H1
      clear H
      have H := H1
      clear H1
      replace H := Option.bind_eq_some_iff.mp H
      obtain ⟨t144, A140, H⟩ := H
      try dsimp only at H
      have A14 := Aside0.mk A140
      clear A140
      have H' := Aside0.mk H
      clear H
      go_wp2_with (first | (go_at_call 104; (with_reducible refine (wide_exact.calls t136 t137 (wrap64 ((ji4) - 1)) t144 _ A14.out).mono ?_); rintro e w' ⟨rfl, ⟨nd, rfl⟩⟩))
      go_meet
      case rel => exact ⟨_, (t144), zT, H', ⟨by first | omega | exact Nat.le_refl _⟩, ⟨zB⟩⟩
     ·replace c13 := Bool.eq_false_iff.mpr c13
      subst c13
      have H1 := H; rw [if_neg (show ¬ (false = true) by decide)] at H1; try dsimp only at H1
      clear H
      have H := H1
      clear H1
      have H' := Aside0.mk H
      clear H
      go_wp2
      go_meet
      case rel => exact ⟨_, (false), zT, H', ⟨by first | omega | exact Nat.le_refl _⟩, ⟨zB⟩⟩
   case rest =>
    clear HC11
    try clear c1
    try clear p2
    try clear c5
    try clear c5b0
    try clear p6
    try clear c7
    try clear c7b0
    try clear c7b1
    try clear c8
    try clear c10
    try clear c12
    try clear c12b0
    try clear c12b1
    try clear c13
    obtain ⟨kq, x59_10, rfl, HA, HJ10, HB⟩ := hcut
    cases kq with
    | zero => exact absurd HA.out (by simp [wide_MulShift.j0])
    | succ kj10 =>
     have H := HA.out
     clear HA
     simp only [wide_MulShift.j0] at H
     by_cases c15 : x59_10 = true
     ·subst c15
      have H1 := H; rw [if_pos rfl] at H1; try dsimp only at H1
      clear H
      have H := H1
      clear H1
      replace H := Option.bind_eq_some_iff.mp H
      obtain ⟨t145, A160, H⟩ := H
      try dsimp only at H
      have A16 := Aside0.mk A160
      clear A160
      obtain rfl := Option.some.inj H
      go_wp2_with (first | ((with_reducible refine gate_callee (f := 77) rfl ?_); refine goesL_ (some 63) rfl rfl Tryd.func77 (by kernel_rfl) rfl #[.int .u64 t140, .int .u64 t141, .bool t138] rfl zL ?_; (with_reducible refine (wide_signed.calls kj10 t140 t141 t138 t145 _ A16.out).mono ?_); rintro e w' ⟨rfl, ⟨nd, rfl⟩⟩; refine ⟨_, rfl, ?_⟩))
      go_ret
      exact ⟨by first | rfl | (simp [errW_none, errW_some] <;> rfl) | (simp only [← hji4]; first | rfl | (simp [errW_none, errW_some] <;> rfl)) | (simp [*, errW_none, errW_some] <;> rfl), zB⟩
     ·replace c15 := Bool.eq_false_iff.mpr c15
      subst c15
      have H1 := H; rw [if_neg (show ¬ (false = true) by decide)] at H1; try dsimp only at H1
      clear H
      have H := H1
      clear H1
      replace H := Option.bind_eq_some_iff.mp H
      obtain ⟨t146, A170, H⟩ := H
      try dsimp only at H
      have A17 := Aside0.mk A170
      clear A170
      obtain rfl := Option.some.inj H
      go_wp2_with (first | ((with_reducible refine gate_callee (f := 77) rfl ?_); refine goesL_ (some 74) rfl rfl Tryd.func77 (by kernel_rfl) rfl #[.int .u64 (IntKind.u64.wrap (t140 + (add64c t141 1 0))), .int .u64 (add64s t141 1 0), .bool t138] rfl zL ?_; (with_reducible refine (wide_signed.calls kj10 (IntKind.u64.wrap (t140 + (add64c t141 1 0))) (add64s t141 1 0) t138 t146 _ A17.out).mono ?_); rintro e w' ⟨rfl, ⟨nd, rfl⟩⟩; refine ⟨_, rfl, ?_⟩))
      go_ret
      exact ⟨by first | rfl | (simp [errW_none, errW_some] <;> rfl) | (simp only [← hji4]; first | rfl | (simp [errW_none, errW_some] <;> rfl)) | (simp [*, errW_none, errW_some] <;> rfl), zB⟩
def sinc_series.l0 : Nat → Int → Int → Int → Int → Int → Option (Int)
 | 0, _, _, _, _, _ => none
 | k + 1, x5, x6, x7, x8, x9 => if x9 ≤ 30 then ((wide_MulDiv.f k x7 x5 (wrap64 ((wrap64 ((wrap64 (2 * x9)) * (wrap64 ((wrap64 (2 * x9)) + 1)))) * 1099511627776))).bind fun t150 => (sinc_series.l0 k x5 (wrap64 (x6 + (wrap64 ((wrap64 (-x8)) * t150)))) t150 (wrap64 (-x8)) (wrap64 (x9 + 1)))) else (some x6)
def sinc_series.f (k : Nat) (a0 : Int) (a1 : Int) : Option (Int) := (sinc_size.f a0).bind fun t147 => ((wide_MulDiv.f k 10851744800547 t147 a1).bind fun t148 => ((wide_MulDiv.f k t148 t147 a1).bind fun t149 => (sinc_series.l0 k t149 1099511627776 1099511627776 1 1)))
theorem sinc_series.mono_l : ∀ k, (∀ y0 y1 y2 y3 y4, LeO (sinc_series.l0 k y0 y1 y2 y3 y4) (sinc_series.l0 (k + 1) y0 y1 y2 y3 y4))
 | 0 => fun _ _ _ _ _ r h => by simp [sinc_series.l0] at h
 | k + 1 => by
  have ih0 := sinc_series.mono_l k
  ·intro y0 y1 y2 y3 y4
   unfold sinc_series.l0
   repeat' (with_reducible first | exact ih0 _ _ _ _ _ | exact wide_MulDiv.mono _ _ _ _ | exact zM | refine LeO.ite ?_ ?_ | refine LeO.bind ?_ (fun _ => ?_))
theorem sinc_series.mono : ∀ a0 a1 k, LeO (sinc_series.f k a0 a1) (sinc_series.f (k + 1) a0 a1) := by
 intro a0 a1 k
 have ih0 := sinc_series.mono_l k
 unfold sinc_series.f
 repeat' (with_reducible first | exact ih0 _ _ _ _ _ | exact wide_MulDiv.mono _ _ _ _ | exact zM | refine LeO.ite ?_ ?_ | refine LeO.bind ?_ (fun _ => ?_))
set_option maxHeartbeats 8000000 in
set_option maxRecDepth 100000 in
theorem sinc_series.calls (k : Nat) (a0 : Int) (a1 : Int) (r : Int) (w : World) (h : sinc_series.f k a0 a1 = some r) :
  Calls Tryd.prog 86 #[.int .i64 a0, .int .i64 a1] w fun e w' => e = .returned (.int .i64 r) ∧ Below w.heap.size w w' := by
 have HB := Aside0.mk (Below.refl w.heap.size w)
 have H : ((sinc_size.f a0).bind fun t147 => ((wide_MulDiv.f k 10851744800547 t147 a1).bind fun t148 => ((wide_MulDiv.f k t148 t147 a1).bind fun t149 => (sinc_series.l0 k t149 1099511627776 1099511627776 1 1)))) = some r := h
 clear h
 replace H := Option.bind_eq_some_iff.mp H
 obtain ⟨t147, A30, H⟩ := H
 try dsimp only at H
 have A3 := Aside0.mk A30
 clear A30
 replace H := Option.bind_eq_some_iff.mp H
 obtain ⟨t148, A40, H⟩ := H
 try dsimp only at H
 have A4 := Aside0.mk A40
 clear A40
 replace H := Option.bind_eq_some_iff.mp H
 obtain ⟨t149, A50, H⟩ := H
 try dsimp only at H
 have A5 := Aside0.mk A50
 clear A50
 have H' := Aside0.mk H
 clear H
 go_enter Tryd.func86, Tryd.ntmps86
 go_wp2_with (first | ((with_reducible refine gate_callee (f := 84) rfl ?_); refine goesL_ (some 11) rfl rfl Tryd.func84 (by kernel_rfl) rfl #[.int .i64 a0] rfl zL ?_; (with_reducible refine (sinc_size.calls a0 t147 _ A3.out).mono ?_); rintro e w6 ⟨rfl, hb⟩; refine ⟨_, rfl, ?_⟩; have n0_ := Aside0.mk (below_step zB hb); clear HB; have HB := n0_; clear n0_; (try clear hb); (try clear hb2); (try clear hk); (try clear hi)) | ((with_reducible refine gate_callee (f := 54) rfl ?_); refine goesL_ (some 14) rfl rfl Tryd.func54 (by kernel_rfl) rfl #[.int .i64 10851744800547, .int .i64 t147, .int .i64 a1] rfl zL ?_; (with_reducible refine (wide_MulDiv.calls k 10851744800547 t147 a1 t148 _ A4.out).mono ?_); rintro e w' ⟨rfl, ⟨nd, rfl⟩⟩; refine ⟨_, rfl, ?_⟩) | ((with_reducible refine gate_callee (f := 54) rfl ?_); refine goesL_ (some 17) rfl rfl Tryd.func54 (by kernel_rfl) rfl #[.int .i64 t148, .int .i64 t147, .int .i64 a1] rfl zL ?_; (with_reducible refine (wide_MulDiv.calls k t148 t147 a1 t149 _ A5.out).mono ?_); rintro e w' ⟨rfl, ⟨nd, rfl⟩⟩; refine ⟨_, rfl, ?_⟩))
 go_loopg [6, 7, 8, 9] k (fun kq v6 v7 v8 v9 w' => ∃ (x6_1 : Int) (x7_1 : Int) (x8_1 : Int) (x9_1 : Int), v6 = .int .i64 x6_1 ∧ v7 = .int .i64 x7_1 ∧ v8 = .int .i64 x8_1 ∧ v9 = .int .i64 x9_1 ∧ Aside0 (sinc_series.l0 kq t149 x6_1 x7_1 x8_1 x9_1 = some r) ∧ Aside0 (kq ≤ k) ∧ Aside0 (Below w.heap.size w w'))
 case atStart => exact ⟨(1099511627776), (1099511627776), (1), (1), zT, zT, zT, zT, H', ⟨Nat.le_refl _⟩, ⟨zB⟩⟩
 case round =>
  clear H'
  try clear p2
  try clear c5
  obtain ⟨x6_1, x7_1, x8_1, x9_1, rfl, rfl, rfl, rfl, HA, HK1, HB⟩ := hrel
  cases gk with
  | zero => exact absurd HA.out (by simp [sinc_series.l0])
  | succ k1 =>
   have H := HA.out
   clear HA
   simp only [sinc_series.l0] at H
   by_cases c7 : x9_1 ≤ 30
   ·rw [if_pos c7] at H
    have c7b0 : decide (x9_1 ≤ 30) = true := decide_eq_true c7
    clear c7
    replace H := Option.bind_eq_some_iff.mp H
    obtain ⟨t150, A80, H⟩ := H
    try dsimp only at H
    have A8 := Aside0.mk A80
    clear A80
    have H' := Aside0.mk H
    clear H
    go_wp2_with (first | ((with_reducible refine gate_callee (f := 54) rfl ?_); refine goesL_ (some 33) rfl rfl Tryd.func54 (by kernel_rfl) rfl #[.int .i64 x7_1, .int .i64 t149, .int .i64 (wrap64 ((wrap64 ((wrap64 (2 * x9_1)) * (wrap64 ((wrap64 (2 * x9_1)) + 1)))) * 1099511627776))] rfl zL ?_; (with_reducible refine (wide_MulDiv.calls k1 x7_1 t149 (wrap64 ((wrap64 ((wrap64 (2 * x9_1)) * (wrap64 ((wrap64 (2 * x9_1)) + 1)))) * 1099511627776)) t150 _ A8.out).mono ?_); rintro e w' ⟨rfl, ⟨nd, rfl⟩⟩; refine ⟨_, rfl, ?_⟩))
    go_roundg k1
    case measure => have := HK1.out; omega
    case rel => exact ⟨(wrap64 (x6_1 + (wrap64 ((wrap64 (-x8_1)) * t150)))), (t150), (wrap64 (-x8_1)), (wrap64 (x9_1 + 1)), zT, zT, zT, zT, H', ⟨by have := HK1.out; omega⟩, ⟨zB⟩⟩
   ·rw [if_neg c7] at H
    have c7b0 : decide (x9_1 ≤ 30) = false := decide_eq_false c7
    clear c7
    obtain rfl := Option.some.inj H
    go_wp2
    go_ret
    exact ⟨zS, zB⟩
end Go.Proofs.YthaajkpiknbdbaaDoor.QA

namespace Go.Proofs.YthaajkpiknbdbaaDoor.QA
open Go.Proofs.YthaajkpiknbdbaaDoor.T
open Go.RowKit Go.Proofs.YthaajkpiknbdbaaDoorW.PrintWords Go.Proofs.YthaajkpiknbdbaaDoorW.PrintLast Go.Proofs.YthaajkpiknbdbaaDoorW.PrintMore
attribute [local go_sem] ext_call max2_int min2_int max_two min_two max_three min_three max_four min_four   -- for this text's walks alone
set_option linter.unusedVariables false
set_option linter.unusedSimpArgs false
def sinc_Lanczos.j0 : Nat → Int → Int → Bool → Option (Int)
 | 0, _, _, _ => none
 | k + 1, x0, x1, x15 => if x15 = true then (some 0) else ((sinc_series.f k x0 x1).bind fun t153 => ((sinc_series.f k x0 (wrap64 (3 * x1))).bind fun t154 => ((wide_MulShift.f k t153 t154 40).bind fun t155 => ((fixed_Shift.f t155 10).bind fun t156 => (some t156)))))
def sinc_Lanczos.f (k : Nat) (a0 : Int) (a1 : Int) : Option (Int) := (sinc_May.f a0 a1).bind fun t151 => (if t151 = true then ((sinc_size.f a0).bind fun t152 => (sinc_Lanczos.j0 k a0 a1 (decide (t152 ≥ (wrap64 (3 * a1)))))) else (sinc_Lanczos.j0 k a0 a1 true))
theorem sinc_Lanczos.mono_l : ∀ k, (∀ y0 y1 y2, LeO (sinc_Lanczos.j0 k y0 y1 y2) (sinc_Lanczos.j0 (k + 1) y0 y1 y2))
 | 0 => fun _ _ _ r h => by simp [sinc_Lanczos.j0] at h
 | k + 1 => by
  have ih0 := sinc_Lanczos.mono_l k
  ·intro y0 y1 y2
   unfold sinc_Lanczos.j0
   repeat' (with_reducible first | exact ih0 _ _ _ | exact sinc_series.mono _ _ _ | exact wide_MulShift.mono _ _ _ _ | exact zM | refine LeO.ite ?_ ?_ | refine LeO.bind ?_ (fun _ => ?_))
theorem sinc_Lanczos.mono : ∀ a0 a1 k, LeO (sinc_Lanczos.f k a0 a1) (sinc_Lanczos.f (k + 1) a0 a1) := by
 intro a0 a1 k
 have ih0 := sinc_Lanczos.mono_l k
 unfold sinc_Lanczos.f
 repeat' (with_reducible first | exact ih0 _ _ _ | exact sinc_series.mono _ _ _ | exact wide_MulShift.mono _ _ _ _ | exact zM | refine LeO.ite ?_ ?_ | refine LeO.bind ?_ (fun _ => ?_))
set_option maxHeartbeats 8000000 in
set_option maxRecDepth 100000 in
theorem sinc_Lanczos.calls (k : Nat) (a0 : Int) (a1 : Int) (r : Int) (w : World) (h : sinc_Lanczos.f k a0 a1 = some r) :
  Calls Tryd.prog 58 #[.int .i64 a0, .int .i64 a1] w fun e w' => e = .returned (.int .i64 r) ∧ Below w.heap.size w w' := by
 have HB := Aside0.mk (Below.refl w.heap.size w)
 have H : ((sinc_May.f a0 a1).bind fun t151 => (if t151 = true then ((sinc_size.f a0).bind fun t152 => (sinc_Lanczos.j0 k a0 a1 (decide (t152 ≥ (wrap64 (3 * a1)))))) else (sinc_Lanczos.j0 k a0 a1 true))) = some r := h
 clear h
 have HC3 := Aside0.mk H
 clear H
 go_enter Tryd.func58, Tryd.ntmps58
 go_upto_region 1 with (fail)
 go_cut [15] (fun v15 wc => ∃ (kq : Nat) (x15_2 : Bool), v15 = .bool x15_2 ∧ Aside0 (sinc_Lanczos.j0 kq a0 a1 x15_2 = some r) ∧ Aside0 (kq ≤ k) ∧ Aside0 (Below w.heap.size w wc))
 case first =>
  have H := HC3.out
  clear HC3
  replace H := Option.bind_eq_some_iff.mp H
  obtain ⟨t151, A40, H⟩ := H
  try dsimp only at H
  have A4 := Aside0.mk A40
  clear A40
  by_cases c5 : t151 = true
  ·subst c5
   have H1 := H; rw [if_pos rfl] at H1; try dsimp only at H1
   clear H
   have H := H1
   clear H1
   replace H := Option.bind_eq_some_iff.mp H
   obtain ⟨t152, A60, H⟩ := H
   try dsimp only at H
   have A6 := Aside0.mk A60
   clear A60
   have H' := Aside0.mk H
   clear H
   go_wp2_with (first | ((with_reducible refine gate_callee (f := 83) rfl ?_); refine goesL_ (some 7) rfl rfl Tryd.func83 (by kernel_rfl) rfl #[.int .i64 a0, .int .i64 a1] rfl zL ?_; (with_reducible refine (sinc_May.calls a0 a1 true _ A4.out).mono ?_); rintro e w' ⟨rfl, ⟨nd, rfl⟩⟩; refine ⟨_, rfl, ?_⟩) | (go_at_call 84; (with_reducible refine (sinc_size.calls a0 t152 _ A6.out).mono ?_); rintro e w7 ⟨rfl, hb⟩; have n0_ := Aside0.mk (below_step zB hb); clear HB; have HB := n0_; clear n0_; (try clear hb); (try clear hb2); (try clear hk); (try clear hi)))
   go_meet
   case rel => exact ⟨_, (decide (t152 ≥ (wrap64 (3 * a1)))), zT, H', ⟨by first | omega | exact Nat.le_refl _⟩, ⟨zB⟩⟩
  ·replace c5 := Bool.eq_false_iff.mpr c5
   subst c5
   have H1 := H; rw [if_neg (show ¬ (false = true) by decide)] at H1; try dsimp only at H1
   clear H
   have H := H1
   clear H1
   have H' := Aside0.mk H
   clear H
   go_wp2_with (first | ((with_reducible refine gate_callee (f := 83) rfl ?_); refine goesL_ (some 7) rfl rfl Tryd.func83 (by kernel_rfl) rfl #[.int .i64 a0, .int .i64 a1] rfl zL ?_; (with_reducible refine (sinc_May.calls a0 a1 false _ A4.out).mono ?_); rintro e w' ⟨rfl, ⟨nd, rfl⟩⟩; refine ⟨_, rfl, ?_⟩))
   go_meet
   case rel => exact ⟨_, (true), zT, H', ⟨by first | omega | exact Nat.le_refl _⟩, ⟨zB⟩⟩
 case rest =>
  clear HC3
  try clear p2
  try clear c5
  try clear p6
  obtain ⟨kq, x15_2, rfl, HA, HJ2, HB⟩ := hcut
  cases kq with
  | zero => exact absurd HA.out (by simp [sinc_Lanczos.j0])
  | succ kj2 =>
   have H := HA.out
   clear HA
   simp only [sinc_Lanczos.j0] at H
   by_cases c8 : x15_2 = true
   ·subst c8
    have H1 := H; rw [if_pos rfl] at H1; try dsimp only at H1
    clear H
    have H := H1
    clear H1
    obtain rfl := Option.some.inj H
    go_wp2
    go_ret
    exact ⟨zS, zB⟩
   ·replace c8 := Bool.eq_false_iff.mpr c8
    subst c8
    have H1 := H; rw [if_neg (show ¬ (false = true) by decide)] at H1; try dsimp only at H1
    clear H
    have H := H1
    clear H1
    replace H := Option.bind_eq_some_iff.mp H
    obtain ⟨t153, A90, H⟩ := H
    try dsimp only at H
    have A9 := Aside0.mk A90
    clear A90
    replace H := Option.bind_eq_some_iff.mp H
    obtain ⟨t154, A100, H⟩ := H
    try dsimp only at H
    have A10 := Aside0.mk A100
    clear A100
    replace H := Option.bind_eq_some_iff.mp H
    obtain ⟨t155, A110, H⟩ := H
    try dsimp only at H
    have A11 := Aside0.mk A110
    clear A110
    replace H := Option.bind_eq_some_iff.mp H
    obtain ⟨t156, A120, H⟩ := H
    try dsimp only at H
    have A12 := Aside0.mk A120
    clear A120
    obtain rfl := Option.some.inj H
    go_wp2_with (first | ((with_reducible refine gate_callee (f := 86) rfl ?_); refine goesL_ (some 18) rfl rfl Tryd.func86 (by kernel_rfl) rfl #[.int .i64 a0, .int .i64 a1] rfl zL ?_; (with_reducible refine (sinc_series.calls kj2 a0 a1 t153 _ A9.out).mono ?_); rintro e w13 ⟨rfl, hb⟩; refine ⟨_, rfl, ?_⟩; have n0_ := Aside0.mk (below_step zB hb); clear HB; have HB := n0_; clear n0_; (try clear hb); (try clear hb2); (try clear hk); (try clear hi)) | ((with_reducible refine gate_callee (f := 86) rfl ?_); refine goesL_ (some 22) rfl rfl Tryd.func86 (by kernel_rfl) rfl #[.int .i64 a0, .int .i64 (wrap64 (3 * a1))] rfl zL ?_; (with_reducible refine (sinc_series.calls kj2 a0 (wrap64 (3 * a1)) t154 _ A10.out).mono ?_); rintro e w14 ⟨rfl, hb⟩; refine ⟨_, rfl, ?_⟩; have n0_ := Aside0.mk (below_step zB hb); clear HB; have HB := n0_; clear n0_; (try clear hb); (try clear hb2); (try clear hk); (try clear hi)) | ((with_reducible refine gate_callee (f := 85) rfl ?_); refine goesL_ (some 23) rfl rfl Tryd.func85 (by kernel_rfl) rfl #[.int .i64 t153, .int .i64 t154, .int .i64 40] rfl zL ?_; (with_reducible refine (wide_MulShift.calls kj2 t153 t154 40 t155 _ A11.out).mono ?_); rintro e w15 ⟨rfl, hb⟩; refine ⟨_, rfl, ?_⟩; have n0_ := Aside0.mk (below_step zB hb); clear HB; have HB := n0_; clear n0_; (try clear hb); (try clear hb2); (try clear hk); (try clear hi)) | ((with_reducible refine gate_callee (f := 80) rfl ?_); refine goesL_ (some 24) rfl rfl Tryd.func80 (by kernel_rfl) rfl #[.int .i64 t155, .int .i64 10] rfl zL ?_; (with_reducible refine (fixed_Shift.calls t155 10 t156 _ A12.out).mono ?_); rintro e w' ⟨rfl, ⟨nd, rfl⟩⟩; refine ⟨_, rfl, ?_⟩))
    go_ret
    exact ⟨zS, zB⟩
def raw_weigh.f (k : Nat) (a0 : Int) (a1 : Int) (a2 : Int) (a3 : Int) (a4 : Int) : Option (Int) := if a0 = 0 then ((wide_MulDiv.f k (wrap64 ((mn (wrap64 ((wrap64 (a3 + 1)) * a1)) (wrap64 ((wrap64 (a4 + 1)) * a2))) - (mx (wrap64 (a3 * a1)) (wrap64 (a4 * a2))))) 1073741824 a1).bind fun t157 => (some t157)) else (if a0 = 1 then ((raw_Keys.f k (wrap64 ((wrap64 ((wrap64 ((wrap64 (2 * a2)) * a4)) - (wrap64 ((wrap64 ((wrap64 (2 * a3)) + 1)) * a1)))) + a2)) (wrap64 (2 * (mx a1 a2)))).bind fun t158 => (some t158)) else ((sinc_Lanczos.f k (wrap64 ((wrap64 ((wrap64 ((wrap64 (2 * a2)) * a4)) - (wrap64 ((wrap64 ((wrap64 (2 * a3)) + 1)) * a1)))) + a2)) (wrap64 (2 * (mx a1 a2)))).bind fun t159 => (some t159)))
theorem raw_weigh.mono : ∀ a0 a1 a2 a3 a4 k, LeO (raw_weigh.f k a0 a1 a2 a3 a4) (raw_weigh.f (k + 1) a0 a1 a2 a3 a4) := by
 intro a0 a1 a2 a3 a4 k
 unfold raw_weigh.f
 repeat' (with_reducible first | exact raw_Keys.mono _ _ _ | exact sinc_Lanczos.mono _ _ _ | exact wide_MulDiv.mono _ _ _ _ | exact zM | refine LeO.ite ?_ ?_ | refine LeO.bind ?_ (fun _ => ?_))
set_option maxHeartbeats 8000000 in
set_option maxRecDepth 100000 in
theorem raw_weigh.calls (k : Nat) (a0 : Int) (a1 : Int) (a2 : Int) (a3 : Int) (a4 : Int) (r : Int) (w : World) (h : raw_weigh.f k a0 a1 a2 a3 a4 = some r) :
  Calls Tryd.prog 38 #[.int .i64 a0, .int .i64 a1, .int .i64 a2, .int .i64 a3, .int .i64 a4] w fun e w' => e = .returned (.int .i64 r) ∧ Below w.heap.size w w' := by
 have HB := Aside0.mk (Below.refl w.heap.size w)
 have H : (if a0 = 0 then ((wide_MulDiv.f k (wrap64 ((mn (wrap64 ((wrap64 (a3 + 1)) * a1)) (wrap64 ((wrap64 (a4 + 1)) * a2))) - (mx (wrap64 (a3 * a1)) (wrap64 (a4 * a2))))) 1073741824 a1).bind fun t157 => (some t157)) else (if a0 = 1 then ((raw_Keys.f k (wrap64 ((wrap64 ((wrap64 ((wrap64 (2 * a2)) * a4)) - (wrap64 ((wrap64 ((wrap64 (2 * a3)) + 1)) * a1)))) + a2)) (wrap64 (2 * (mx a1 a2)))).bind fun t158 => (some t158)) else ((sinc_Lanczos.f k (wrap64 ((wrap64 ((wrap64 ((wrap64 (2 * a2)) * a4)) - (wrap64 ((wrap64 ((wrap64 (2 * a3)) + 1)) * a1)))) + a2)) (wrap64 (2 * (mx a1 a2)))).bind fun t159 => (some t159)))) = some r := h
 clear h
 by_cases c6 : a0 = 0
 ·rw [if_pos c6] at H
  have c6b0 : (a0 == 0) = true := beq_iff_eq.mpr c6
  have c6b1 : (a0 != 0) = false := bne_eq_false_iff_eq.mpr c6
  clear c6
  obtain ⟨ji7, hji7⟩ : ∃ j_ : Int, (mn (wrap64 ((wrap64 (a3 + 1)) * a1)) (wrap64 ((wrap64 (a4 + 1)) * a2))) = j_ := ⟨_, rfl⟩
  replace H : ((wide_MulDiv.f k (wrap64 ((ji7) - (mx (wrap64 (a3 * a1)) (wrap64 (a4 * a2))))) 1073741824 a1).bind fun t157 => (some t157)) = some r := by first | (rw [hji7] at H; exact H) | (simp only [hji7] at H ⊢; exact H)
  have hji7_ : (if (wrap64 ((wrap64 (a4 + 1)) * a2)) < (wrap64 ((wrap64 (a3 + 1)) * a1)) then (wrap64 ((wrap64 (a4 + 1)) * a2)) else (wrap64 ((wrap64 (a3 + 1)) * a1))) = ji7 := hji7
  obtain ⟨ji8, hji8⟩ : ∃ j_ : Int, (mx (wrap64 (a3 * a1)) (wrap64 (a4 * a2))) = j_ := ⟨_, rfl⟩
  replace H : ((wide_MulDiv.f k (wrap64 ((ji7) - (ji8))) 1073741824 a1).bind fun t157 => (some t157)) = some r := by first | (rw [hji8] at H; exact H) | (simp only [hji8] at H ⊢; exact H)
  have hji8_ : (if (wrap64 (a3 * a1)) < (wrap64 (a4 * a2)) then (wrap64 (a4 * a2)) else (wrap64 (a3 * a1))) = ji8 := hji8
  replace H := Option.bind_eq_some_iff.mp H
  obtain ⟨t157, A90, H⟩ := H
  try dsimp only at H
  have A9 := Aside0.mk A90
  clear A90
  obtain rfl := Option.some.inj H
  go_enter Tryd.func38, Tryd.ntmps38
  go_wp2_with (first | ((with_reducible refine gate_callee (f := 54) rfl ?_); refine goesL_ (some 35) rfl rfl Tryd.func54 (by kernel_rfl) rfl #[.int .i64 (wrap64 ((ji7) - (ji8))), .int .i64 1073741824, .int .i64 a1] rfl (by (try simp only [List.map_toArray, List.map_cons, List.map_nil]); first | done | (simp only [hji7, hji8]; rfl) | rfl | (simp only [List.length_drop, List.length_take]; rfl)) ?_; (with_reducible refine (wide_MulDiv.calls k (wrap64 ((ji7) - (ji8))) 1073741824 a1 t157 _ A9.out).mono ?_); rintro e w' ⟨rfl, ⟨nd, rfl⟩⟩; refine ⟨_, rfl, ?_⟩))
  go_ret
  exact ⟨by first | rfl | (simp [errW_none, errW_some] <;> rfl) | (simp only [← hji7, ← hji8]; first | rfl | (simp [errW_none, errW_some] <;> rfl)) | (simp [*, errW_none, errW_some] <;> rfl), zB⟩
 ·rw [if_neg c6] at H
  have c6b0 : (a0 == 0) = false := beq_eq_false_iff_ne.mpr c6
  have c6b1 : (a0 != 0) = true := bne_iff_ne.mpr c6
  obtain ⟨ji10, hji10⟩ : ∃ j_ : Int, (mx a1 a2) = j_ := ⟨_, rfl⟩
  replace H : (if a0 = 1 then ((raw_Keys.f k (wrap64 ((wrap64 ((wrap64 ((wrap64 (2 * a2)) * a4)) - (wrap64 ((wrap64 ((wrap64 (2 * a3)) + 1)) * a1)))) + a2)) (wrap64 (2 * (ji10)))).bind fun t158 => (some t158)) else ((sinc_Lanczos.f k (wrap64 ((wrap64 ((wrap64 ((wrap64 (2 * a2)) * a4)) - (wrap64 ((wrap64 ((wrap64 (2 * a3)) + 1)) * a1)))) + a2)) (wrap64 (2 * (ji10)))).bind fun t159 => (some t159))) = some r := by first | (rw [hji10] at H; exact H) | (simp only [hji10] at H ⊢; exact H)
  have hji10_ : (if a1 < a2 then a2 else a1) = ji10 := hji10
  by_cases c11 : a0 = 1
  ·rw [if_pos c11] at H
   have c11b0 : (a0 == 1) = true := beq_iff_eq.mpr c11
   have c11b1 : (a0 != 1) = false := bne_eq_false_iff_eq.mpr c11
   clear c11
   replace H := Option.bind_eq_some_iff.mp H
   obtain ⟨t158, A120, H⟩ := H
   try dsimp only at H
   have A12 := Aside0.mk A120
   clear A120
   obtain rfl := Option.some.inj H
   go_enter Tryd.func38, Tryd.ntmps38
   go_wp2_with (first | ((with_reducible refine gate_callee (f := 35) rfl ?_); refine goesL_ (some 56) rfl rfl Tryd.func35 (by kernel_rfl) rfl #[.int .i64 (wrap64 ((wrap64 ((wrap64 ((wrap64 (2 * a2)) * a4)) - (wrap64 ((wrap64 ((wrap64 (2 * a3)) + 1)) * a1)))) + a2)), .int .i64 (wrap64 (2 * (ji10)))] rfl (by (try simp only [List.map_toArray, List.map_cons, List.map_nil]); first | done | (simp only [hji10]; rfl) | (simp only [Int.tdiv_eq_ediv_of_nonneg hji10l]; rfl) | rfl | (simp only [List.length_drop, List.length_take]; rfl)) ?_; (with_reducible refine (raw_Keys.calls k (wrap64 ((wrap64 ((wrap64 ((wrap64 (2 * a2)) * a4)) - (wrap64 ((wrap64 ((wrap64 (2 * a3)) + 1)) * a1)))) + a2)) (wrap64 (2 * (ji10))) t158 _ A12.out).mono ?_); rintro e w13 ⟨rfl, hb⟩; refine ⟨_, rfl, ?_⟩; have n0_ := Aside0.mk (below_step zB hb); clear HB; have HB := n0_; clear n0_; (try clear hb); (try clear hb2); (try clear hk); (try clear hi)))
   go_ret
   exact ⟨by first | rfl | (simp [errW_none, errW_some] <;> rfl) | (simp only [← hji10]; first | rfl | (simp [errW_none, errW_some] <;> rfl)) | (simp [*, errW_none, errW_some] <;> rfl), zB⟩
  ·rw [if_neg c11] at H
   have c11b0 : (a0 == 1) = false := beq_eq_false_iff_ne.mpr c11
   have c11b1 : (a0 != 1) = true := bne_iff_ne.mpr c11
   replace H := Option.bind_eq_some_iff.mp H
   obtain ⟨t159, A140, H⟩ := H
   try dsimp only at H
   have A14 := Aside0.mk A140
   clear A140
   obtain rfl := Option.some.inj H
   go_enter Tryd.func38, Tryd.ntmps38
   go_wp2_with (first | ((with_reducible refine gate_callee (f := 58) rfl ?_); refine goesL_ (some 59) rfl rfl Tryd.func58 (by kernel_rfl) rfl #[.int .i64 (wrap64 ((wrap64 ((wrap64 ((wrap64 (2 * a2)) * a4)) - (wrap64 ((wrap64 ((wrap64 (2 * a3)) + 1)) * a1)))) + a2)), .int .i64 (wrap64 (2 * (ji10)))] rfl (by (try simp only [List.map_toArray, List.map_cons, List.map_nil]); first | done | (simp only [hji10]; rfl) | (simp only [Int.tdiv_eq_ediv_of_nonneg hji10l]; rfl) | rfl | (simp only [List.length_drop, List.length_take]; rfl)) ?_; (with_reducible refine (sinc_Lanczos.calls k (wrap64 ((wrap64 ((wrap64 ((wrap64 (2 * a2)) * a4)) - (wrap64 ((wrap64 ((wrap64 (2 * a3)) + 1)) * a1)))) + a2)) (wrap64 (2 * (ji10))) t159 _ A14.out).mono ?_); rintro e w15 ⟨rfl, hb⟩; refine ⟨_, rfl, ?_⟩; have n0_ := Aside0.mk (below_step zB hb); clear HB; have HB := n0_; clear n0_; (try clear hb); (try clear hb2); (try clear hk); (try clear hi)))
   go_ret
   exact ⟨by first | rfl | (simp [errW_none, errW_some] <;> rfl) | (simp only [← hji10]; first | rfl | (simp [errW_none, errW_some] <;> rfl)) | (simp [*, errW_none, errW_some] <;> rfl), zB⟩
def raw_Row.l0 : Nat → Int → Int → Int → Int → Int → List Int → Int → Int → Option (Int × List Int)
 | 0, _, _, _, _, _, _, _, _ => none
 | k + 1, x0, x1, x2, x3, x8, x9, x20, x21 => if x21 < x20 then ((raw_weigh.f k x0 x1 x2 x3 (wrap64 (x8 + x21))).bind fun t162 => (if x9.length < 17592186044416 then (raw_Row.l0 k x0 x1 x2 x3 x8 (x9 ++ [t162]) x20 (wrap64 (x21 + 1))) else (none))) else (some (x8, x9))
def raw_Row.f (k : Nat) (a0 : Int) (a1 : Int) (a2 : Int) (a3 : Int) : Option (Int × List Int) := (raw_Window.f k a0 a1 a2 a3).bind fun bt160 => (raw_Row.l0 k a0 a1 a2 a3 bt160.1 ([] : List Int) bt160.2 0)
theorem raw_Row.mono_l : ∀ k, (∀ y0 y1 y2 y3 y4 y5 y6 y7, LeO (raw_Row.l0 k y0 y1 y2 y3 y4 y5 y6 y7) (raw_Row.l0 (k + 1) y0 y1 y2 y3 y4 y5 y6 y7))
 | 0 => fun _ _ _ _ _ _ _ _ r h => by simp [raw_Row.l0] at h
 | k + 1 => by
  have ih0 := raw_Row.mono_l k
  ·intro y0 y1 y2 y3 y4 y5 y6 y7
   unfold raw_Row.l0
   repeat' (with_reducible first | exact ih0 _ _ _ _ _ _ _ _ | exact raw_Window.mono _ _ _ _ _ | exact raw_weigh.mono _ _ _ _ _ _ | exact zM | refine LeO.ite ?_ ?_ | refine LeO.bind ?_ (fun _ => ?_))
theorem raw_Row.mono : ∀ a0 a1 a2 a3 k, LeO (raw_Row.f k a0 a1 a2 a3) (raw_Row.f (k + 1) a0 a1 a2 a3) := by
 intro a0 a1 a2 a3 k
 have ih0 := raw_Row.mono_l k
 unfold raw_Row.f
 repeat' (with_reducible first | exact ih0 _ _ _ _ _ _ _ _ | exact raw_Window.mono _ _ _ _ _ | exact raw_weigh.mono _ _ _ _ _ _ | exact zM | refine LeO.ite ?_ ?_ | refine LeO.bind ?_ (fun _ => ?_))
set_option maxHeartbeats 8000000 in
set_option maxRecDepth 100000 in
theorem raw_Row.calls (k : Nat) (a0 : Int) (a1 : Int) (a2 : Int) (a3 : Int) (r1 : Int) (r2 : List Int) (w : World) (hG : GL w) (h : raw_Row.f k a0 a1 a2 a3 = some (r1, r2)) :
  Calls Tryd.prog 26 #[.int .i64 a0, .int .i64 a1, .int .i64 a2, .int .i64 a3] w fun e w' => ∃ v1_ : Value, e = .returned (.tuple #[.int .i64 r1, v1_]) ∧ Kd.R (Kd.int .i64) 2 w' w.heap.size (fun _ => True) v1_ r2 ∧ Below w.heap.size w w' := by
 have HB := Aside0.mk (Below.refl w.heap.size w)
 have H : ((raw_Window.f k a0 a1 a2 a3).bind fun bt160 => (raw_Row.l0 k a0 a1 a2 a3 bt160.1 ([] : List Int) bt160.2 0)) = some (r1, r2) := h
 clear h
 replace H := Option.bind_eq_some_iff.mp H
 obtain ⟨⟨t160, t161⟩, A50, H⟩ := H
 try dsimp only at H
 have A5 := Aside0.mk A50
 clear A50
 have H' := Aside0.mk H
 clear H
 go_enter Tryd.func26, Tryd.ntmps26
 go_wp2_with (first | ((with_reducible refine gate_callee (f := 37) rfl ?_); refine goesL_ (some 17) rfl rfl Tryd.func37 (by kernel_rfl) rfl #[.int .i64 a0, .int .i64 a1, .int .i64 a2, .int .i64 a3] rfl zL ?_; (with_reducible refine (raw_Window.calls k a0 a1 a2 a3 t160 t161 _ (by exact GL.below hG (by repeat (first | (with_reducible first | exact HB.out | apply below_alloc | apply pw_below_drewN | apply below_drew1) | exact HB.out | exact Below.refl _ _))) A5.out).mono ?_); rintro e w6 ⟨rfl, hb⟩; refine ⟨_, rfl, ?_⟩; have n0_ := Aside0.mk (below_step zB hb); clear HB; have HB := n0_; clear n0_; (try clear hb); (try clear hb2); (try clear hk); (try clear hi)))
 go_loopg [9, 21] k (fun kq v9 v21 w' => ∃ (x9_1 : List Int) (x21_1 : Int), v21 = .int .i64 x21_1 ∧ Aside0 (raw_Row.l0 kq a0 a1 a2 a3 t160 x9_1 t161 x21_1 = some (r1, r2)) ∧ Aside0 (kq ≤ k) ∧ Aside0 (Kd.R (Kd.int .i64) 2 w' w.heap.size (fun _ => True) v9 x9_1) ∧ Aside0 (Below w.heap.size w w'))
 case atStart => exact ⟨(([] : List Int)), (0), zT, H', ⟨Nat.le_refl _⟩, ⟨by first | exact Kd.R_nil _ _ _ _ _ | exact Kd.N_nil _ _ _ _ _ | exact Kd.V_nil _ _ _ _ _ | exact Kd.Q_nil _ _ _ _ _ | exact Kd.S_nil _ _ _ _ _⟩, ⟨zB⟩⟩
 case round =>
  clear H'
  try clear c2
  try clear p2
  try clear c3
  obtain ⟨x9_1, x21_1, rfl, HA, HK1, HO_9, HB⟩ := hrel
  cases gk with
  | zero => exact absurd HA.out (by simp [raw_Row.l0])
  | succ k1 =>
   have H := HA.out
   clear HA
   simp only [raw_Row.l0] at H
   by_cases c7 : x21_1 < t161
   ·rw [if_pos c7] at H
    have c7b0 : decide (x21_1 < t161) = true := decide_eq_true c7
    clear c7
    replace H := Option.bind_eq_some_iff.mp H
    obtain ⟨t162, A80, H⟩ := H
    try dsimp only at H
    have A8 := Aside0.mk A80
    clear A80
    by_cases c9 : x9_1.length < 17592186044416
    ·rw [if_pos c9] at H
     have LMc9 := Aside0.mk c9
     clear c9
     obtain ⟨y163, hy163⟩ : ∃ y_ : List Int, y_ = (x9_1 ++ [t162]) := ⟨_, rfl⟩
     replace H : (raw_Row.l0 k1 a0 a1 a2 a3 t160 y163 t161 (wrap64 (x21_1 + 1))) = some (r1, r2) := by first | (rw [hy163]; with_reducible exact H) | (have H2_ := (Option.bind_some _ _).symm.trans H; rw [hy163]; with_reducible exact H2_) | (have H2_ := (Option.bind_some _ _).symm.trans H; with_reducible exact H2_) | with_reducible exact H | (rw [hy163]; exact H) | exact H
     have Ny163 := Aside0.mk hy163
     clear hy163
     have H' := Aside0.mk H
     clear H
     go_wp2_with (first | ((with_reducible refine gate_callee (f := 38) rfl ?_); refine goesL_ (some 32) rfl rfl Tryd.func38 (by kernel_rfl) rfl #[.int .i64 a0, .int .i64 a1, .int .i64 a2, .int .i64 a3, .int .i64 (wrap64 (t160 + x21_1))] rfl zL ?_; (with_reducible refine (raw_weigh.calls k1 a0 a1 a2 a3 (wrap64 (t160 + x21_1)) t162 _ A8.out).mono ?_); rintro e w10 ⟨rfl, hb⟩; refine ⟨_, rfl, ?_⟩; have n0_ := Aside0.mk (Kd.R_below (by (with_reducible repeat (first | apply Kd.R_alloc | apply Kd.R_drewN | apply Kd.R_drew)); exact HO_9.out) hb); have n1_ := Aside0.mk (below_step zB hb); clear HO_9; clear HB; have HO_9 := n0_; have HB := n1_; clear n0_ n1_; (try clear hb); (try clear hb2); (try clear hk); (try clear hi)) | ((with_reducible refine gate_builtin (b := .append) (xs := #[.tmp 24, .tmp 33]) rfl ?_); at_builtin; refine Kd.R_append (Kd.int .i64) (w0 := w) w.heap.size rfl (.tmp 24) (.tmp 33) 29 2 (.int .i64 0) 8 rfl Tryd.underlying29 info2 rfl (by decide) (by omega) u9 x9_1 t162 [.int .i64 t162] (fun _ => True) (fun _ => False) rfl rfl ?aP (fun _ hk => hk.elim) ?aF ?aO ?aB ?aS ?aL ?_; (case aP => exact rfl); (case aB => exact zB); (case aF => exact (fun _ _ => trivial)); (case aO => exact (by (with_reducible repeat (first | apply Kd.R_alloc | apply Kd.R_drewN | apply Kd.R_drew)); exact HO_9.out)); (case aS => exact (below_size zB)); (case aL => have := LMc9.out; omega); intro v164 w11 ho hb hg hat; rw [← Ny163.out] at ho; have n0_ := Aside0.mk (hb); have n1_ := Aside0.mk (ho); clear HB; clear HO_9; have HB := n0_; have HO165 := n1_; clear n0_ n1_; clear ho hb hg hat))
     go_roundg k1
     case measure => have := HK1.out; omega
     case rel => exact ⟨(y163), (wrap64 (x21_1 + 1)), zT, H', ⟨by have := HK1.out; omega⟩, ⟨by (with_reducible repeat (first | apply Kd.R_alloc | apply Kd.R_drewN | apply Kd.R_drew)); exact HO165.out⟩, ⟨zB⟩⟩
    ·rw [if_neg c9] at H
     exact absurd H (by simp)
   ·rw [if_neg c7] at H
    have c7b0 : decide (x21_1 < t161) = false := decide_eq_false c7
    clear c7
    simp only [Option.some.injEq, Prod.mk.injEq] at H
    obtain ⟨rfl, rfl⟩ := H
    go_wp2
    go_ret2
    exact ⟨_, zS, by (with_reducible repeat (first | apply Kd.R_alloc | apply Kd.R_drewN | apply Kd.R_drew)); exact HO_9.out, zB⟩
end Go.Proofs.YthaajkpiknbdbaaDoor.QA

namespace Go.Proofs.YthaajkpiknbdbaaDoor.QA
open Go.Proofs.YthaajkpiknbdbaaDoor.T
open Go.RowKit Go.Proofs.YthaajkpiknbdbaaDoorW.PrintWords Go.Proofs.YthaajkpiknbdbaaDoorW.PrintLast Go.Proofs.YthaajkpiknbdbaaDoorW.PrintMore
attribute [local go_sem] ext_call max2_int min2_int max_two min_two max_three min_three max_four min_four   -- for this text's walks alone
set_option linter.unusedVariables false
set_option linter.unusedSimpArgs false
def smaltolaw05_Lives.f (k : Nat)  : Option (Bool) := (raw_Row.f k 0 4 2 1).bind fun bt184 => (if bt184.1 = 2 then (if (bt184.2.length : Int) = 2 then (if 0 < (bt184.2.length : Int) then (if (rd bt184.2 0) = 536870912 then (if 1 < (bt184.2.length : Int) then (if (rd bt184.2 1) = 536870912 then ((raw_Keys.f k 0 1).bind fun t190 => (if t190 = 1073741824 then ((raw_Keys.f k 1 2).bind fun t191 => (some (t191 == 603979776))) else (some false))) else (some false)) else (none)) else (some false)) else (none)) else (some false)) else (some false))
theorem smaltolaw05_Lives.mono : ∀ k, LeO (smaltolaw05_Lives.f k ) (smaltolaw05_Lives.f (k + 1) ) := by
 intro  k
 unfold smaltolaw05_Lives.f
 repeat' (with_reducible first | exact raw_Keys.mono _ _ _ | exact raw_Row.mono _ _ _ _ _ | exact zM | refine LeO.ite ?_ ?_ | refine LeO.bind ?_ (fun _ => ?_))
set_option maxHeartbeats 8000000 in
set_option maxRecDepth 100000 in
theorem smaltolaw05_Lives.calls (k : Nat)  (r : Bool) (w : World) (hG : GL w) (h : smaltolaw05_Lives.f k  = some r) :
  Calls Tryd.prog 22 #[] w fun e w' => e = .returned (.bool r) ∧ Below w.heap.size w w' := by
 have HB := Aside0.mk (Below.refl w.heap.size w)
 have H : ((raw_Row.f k 0 4 2 1).bind fun bt184 => (if bt184.1 = 2 then (if (bt184.2.length : Int) = 2 then (if 0 < (bt184.2.length : Int) then (if (rd bt184.2 0) = 536870912 then (if 1 < (bt184.2.length : Int) then (if (rd bt184.2 1) = 536870912 then ((raw_Keys.f k 0 1).bind fun t190 => (if t190 = 1073741824 then ((raw_Keys.f k 1 2).bind fun t191 => (some (t191 == 603979776))) else (some false))) else (some false)) else (none)) else (some false)) else (none)) else (some false)) else (some false))) = some r := h
 clear h
 replace H := Option.bind_eq_some_iff.mp H
 obtain ⟨⟨t184, t185⟩, A10, H⟩ := H
 try dsimp only at H
 have A1 := Aside0.mk A10
 clear A10
 by_cases c2 : t184 = 2
 ·rw [if_pos c2] at H
  have c2b0 : (t184 == 2) = true := beq_iff_eq.mpr c2
  have c2b1 : (t184 != 2) = false := bne_eq_false_iff_eq.mpr c2
  clear c2
  by_cases c3 : (t185.length : Int) = 2
  ·rw [if_pos c3] at H
   have c3b0 : ((t185.length : Int) == 2) = true := beq_iff_eq.mpr c3
   have c3b1 : ((t185.length : Int) != 2) = false := bne_eq_false_iff_eq.mpr c3
   clear c3
   by_cases c4 : 0 < (t185.length : Int)
   ·rw [if_pos c4] at H
    have c4b0 : decide (0 < (t185.length : Int)) = true := decide_eq_true c4
    have c4b1 : decide (0 < t185.length) = true := decide_eq_true (by omega)
    clear c4
    by_cases c5 : (rd t185 0) = 536870912
    ·rw [if_pos c5] at H
     have c5b0 : ((rd t185 0) == 536870912) = true := beq_iff_eq.mpr c5
     have c5b1 : ((rd t185 0) != 536870912) = false := bne_eq_false_iff_eq.mpr c5
     clear c5
     by_cases c6 : 1 < (t185.length : Int)
     ·rw [if_pos c6] at H
      have c6b0 : decide (1 < (t185.length : Int)) = true := decide_eq_true c6
      have c6b1 : decide (1 < t185.length) = true := decide_eq_true (by omega)
      clear c6
      by_cases c7 : (rd t185 1) = 536870912
      ·rw [if_pos c7] at H
       have c7b0 : ((rd t185 1) == 536870912) = true := beq_iff_eq.mpr c7
       have c7b1 : ((rd t185 1) != 536870912) = false := bne_eq_false_iff_eq.mpr c7
       clear c7
       replace H := Option.bind_eq_some_iff.mp H
       obtain ⟨t190, A80, H⟩ := H
       try dsimp only at H
       have A8 := Aside0.mk A80
       clear A80
       by_cases c9 : t190 = 1073741824
       ·rw [if_pos c9] at H
        have c9b0 : (t190 == 1073741824) = true := beq_iff_eq.mpr c9
        have c9b1 : (t190 != 1073741824) = false := bne_eq_false_iff_eq.mpr c9
        clear c9
        replace H := Option.bind_eq_some_iff.mp H
        obtain ⟨t191, A100, H⟩ := H
        try dsimp only at H
        have A10 := Aside0.mk A100
        clear A100
        obtain rfl := Option.some.inj H
        go_enter Tryd.func22, Tryd.ntmps22
        go_wp2_with (first | ((with_reducible refine gate_callee (f := 26) rfl ?_); refine goesL_ (some 4) rfl rfl Tryd.func26 (by kernel_rfl) rfl #[.int .i64 0, .int .i64 4, .int .i64 2, .int .i64 1] rfl zL ?_; (with_reducible refine (raw_Row.calls k 0 4 2 1 t184 t185 _ (by exact GL.below hG (by repeat (first | (with_reducible first | exact HB.out | apply below_alloc | apply pw_below_drewN | apply below_drew1) | exact HB.out | exact Below.refl _ _))) A1.out).mono ?_); rintro e w11 ⟨v186, rfl, ho0, hb⟩; refine ⟨_, rfl, ?_⟩; have n0_ := Aside0.mk (Kd.R_lower ho0 (below_size zB)); have n1_ := Aside0.mk (below_step zB hb); clear HB; have HO187 := n0_; have HB := n1_; clear n0_ n1_; (try clear hb); (try clear hb2); (try clear hk); (try clear hi); (try clear ho0); obtain ⟨Ao12, co12, eo12⟩ := Kd.R_slice HO187.out; subst eo12; have p188 : 0 ≤ (0 : Int) := (by omega); have q188 : 0 < (t185.length : Int) := of_decide_eq_true (by first | (with_reducible assumption) | assumption); obtain ⟨ad188, e188, hx188_0⟩ := Kd.at_int (Kd.R_reads' HO187.out).2.2 0 p188 q188; cases e188; have qi188 : (0 < t185.length) = True := eq_true (by omega); (try rw [show ((0 : Int)).toNat = 0 from rfl] at hx188_0); (try rw [Addr.add_zero'] at hx188_0); replace p188 := eq_true p188; replace q188 := eq_true q188; have p189 : 0 ≤ (1 : Int) := (by omega); have q189 : 1 < (t185.length : Int) := of_decide_eq_true (by first | (with_reducible assumption) | assumption); obtain ⟨ad189, e189, hx189_0⟩ := Kd.at_int (Kd.R_reads' HO187.out).2.2 1 p189 q189; obtain rfl : ad188 = ad189 := (by injection e189); (try simp only [show (1 : Int).toNat = 1 from rfl, Nat.reduceMul, Nat.reduceEqDiff, Go.Addr.add, ↓reduceIte] at hx189_0); have qi189 : (1 < t185.length) = True := eq_true (by omega); (try rw [show ((1 : Int)).toNat = 1 from rfl] at hx189_0); replace p189 := eq_true p189; replace q189 := eq_true q189) | (go_at_call 35; (with_reducible refine (raw_Keys.calls k 0 1 t190 _ A8.out).mono ?_); rintro e w13 ⟨rfl, hb⟩; have n0_ := Aside0.mk (Kd.R_below (by (with_reducible repeat (first | apply Kd.R_alloc | apply Kd.R_drewN | apply Kd.R_drew)); exact HO187.out) hb); have n1_ := Aside0.mk (below_step zB hb); clear HO187; clear HB; have HO187 := n0_; have HB := n1_; clear n0_ n1_; (try clear hb); (try clear hb2); (try clear hk); (try clear hi)) | (go_at_call 35; (with_reducible refine (raw_Keys.calls k 1 2 t191 _ A10.out).mono ?_); rintro e w14 ⟨rfl, hb⟩; have n0_ := Aside0.mk (Kd.R_below (by (with_reducible repeat (first | apply Kd.R_alloc | apply Kd.R_drewN | apply Kd.R_drew)); exact HO187.out) hb); have n1_ := Aside0.mk (below_step zB hb); clear HO187; clear HB; have HO187 := n0_; have HB := n1_; clear n0_ n1_; (try clear hb); (try clear hb2); (try clear hk); (try clear hi)))
        go_ret
        exact ⟨zS, zB⟩
       ·rw [if_neg c9] at H
        have c9b0 : (t190 == 1073741824) = false := beq_eq_false_iff_ne.mpr c9
        have c9b1 : (t190 != 1073741824) = true := bne_iff_ne.mpr c9
        obtain rfl := Option.some.inj H
        go_enter Tryd.func22, Tryd.ntmps22
        go_wp2_with (first | ((with_reducible refine gate_callee (f := 26) rfl ?_); refine goesL_ (some 4) rfl rfl Tryd.func26 (by kernel_rfl) rfl #[.int .i64 0, .int .i64 4, .int .i64 2, .int .i64 1] rfl zL ?_; (with_reducible refine (raw_Row.calls k 0 4 2 1 t184 t185 _ (by exact GL.below hG (by repeat (first | (with_reducible first | exact HB.out | apply below_alloc | apply pw_below_drewN | apply below_drew1) | exact HB.out | exact Below.refl _ _))) A1.out).mono ?_); rintro e w15 ⟨v186, rfl, ho0, hb⟩; refine ⟨_, rfl, ?_⟩; have n0_ := Aside0.mk (Kd.R_lower ho0 (below_size zB)); have n1_ := Aside0.mk (below_step zB hb); clear HB; have HO187 := n0_; have HB := n1_; clear n0_ n1_; (try clear hb); (try clear hb2); (try clear hk); (try clear hi); (try clear ho0); obtain ⟨Ao16, co16, eo16⟩ := Kd.R_slice HO187.out; subst eo16; have p188 : 0 ≤ (0 : Int) := (by omega); have q188 : 0 < (t185.length : Int) := of_decide_eq_true (by first | (with_reducible assumption) | assumption); obtain ⟨ad188, e188, hx188_0⟩ := Kd.at_int (Kd.R_reads' HO187.out).2.2 0 p188 q188; cases e188; have qi188 : (0 < t185.length) = True := eq_true (by omega); (try rw [show ((0 : Int)).toNat = 0 from rfl] at hx188_0); (try rw [Addr.add_zero'] at hx188_0); replace p188 := eq_true p188; replace q188 := eq_true q188; have p189 : 0 ≤ (1 : Int) := (by omega); have q189 : 1 < (t185.length : Int) := of_decide_eq_true (by first | (with_reducible assumption) | assumption); obtain ⟨ad189, e189, hx189_0⟩ := Kd.at_int (Kd.R_reads' HO187.out).2.2 1 p189 q189; obtain rfl : ad188 = ad189 := (by injection e189); (try simp only [show (1 : Int).toNat = 1 from rfl, Nat.reduceMul, Nat.reduceEqDiff, Go.Addr.add, ↓reduceIte] at hx189_0); have qi189 : (1 < t185.length) = True := eq_true (by omega); (try rw [show ((1 : Int)).toNat = 1 from rfl] at hx189_0); replace p189 := eq_true p189; replace q189 := eq_true q189) | (go_at_call 35; (with_reducible refine (raw_Keys.calls k 0 1 t190 _ A8.out).mono ?_); rintro e w17 ⟨rfl, hb⟩; have n0_ := Aside0.mk (Kd.R_below (by (with_reducible repeat (first | apply Kd.R_alloc | apply Kd.R_drewN | apply Kd.R_drew)); exact HO187.out) hb); have n1_ := Aside0.mk (below_step zB hb); clear HO187; clear HB; have HO187 := n0_; have HB := n1_; clear n0_ n1_; (try clear hb); (try clear hb2); (try clear hk); (try clear hi)))
        go_ret
        exact ⟨zS, zB⟩
      ·rw [if_neg c7] at H
       have c7b0 : ((rd t185 1) == 536870912) = false := beq_eq_false_iff_ne.mpr c7
       have c7b1 : ((rd t185 1) != 536870912) = true := bne_iff_ne.mpr c7
       obtain rfl := Option.some.inj H
       go_enter Tryd.func22, Tryd.ntmps22
       go_wp2_with (first | ((with_reducible refine gate_callee (f := 26) rfl ?_); refine goesL_ (some 4) rfl rfl Tryd.func26 (by kernel_rfl) rfl #[.int .i64 0, .int .i64 4, .int .i64 2, .int .i64 1] rfl zL ?_; (with_reducible refine (raw_Row.calls k 0 4 2 1 t184 t185 _ (by exact GL.below hG (by repeat (first | (with_reducible first | exact HB.out | apply below_alloc | apply pw_below_drewN | apply below_drew1) | exact HB.out | exact Below.refl _ _))) A1.out).mono ?_); rintro e w18 ⟨v186, rfl, ho0, hb⟩; refine ⟨_, rfl, ?_⟩; have n0_ := Aside0.mk (Kd.R_lower ho0 (below_size zB)); have n1_ := Aside0.mk (below_step zB hb); clear HB; have HO187 := n0_; have HB := n1_; clear n0_ n1_; (try clear hb); (try clear hb2); (try clear hk); (try clear hi); (try clear ho0); obtain ⟨Ao19, co19, eo19⟩ := Kd.R_slice HO187.out; subst eo19; have p188 : 0 ≤ (0 : Int) := (by omega); have q188 : 0 < (t185.length : Int) := of_decide_eq_true (by first | (with_reducible assumption) | assumption); obtain ⟨ad188, e188, hx188_0⟩ := Kd.at_int (Kd.R_reads' HO187.out).2.2 0 p188 q188; cases e188; have qi188 : (0 < t185.length) = True := eq_true (by omega); (try rw [show ((0 : Int)).toNat = 0 from rfl] at hx188_0); (try rw [Addr.add_zero'] at hx188_0); replace p188 := eq_true p188; replace q188 := eq_true q188; have p189 : 0 ≤ (1 : Int) := (by omega); have q189 : 1 < (t185.length : Int) := of_decide_eq_true (by first | (with_reducible assumption) | assumption); obtain ⟨ad189, e189, hx189_0⟩ := Kd.at_int (Kd.R_reads' HO187.out).2.2 1 p189 q189; obtain rfl : ad188 = ad189 := (by injection e189); (try simp only [show (1 : Int).toNat = 1 from rfl, Nat.reduceMul, Nat.reduceEqDiff, Go.Addr.add, ↓reduceIte] at hx189_0); have qi189 : (1 < t185.length) = True := eq_true (by omega); (try rw [show ((1 : Int)).toNat = 1 from rfl] at hx189_0); replace p189 := eq_true p189; replace q189 := eq_true q189))
       go_ret
       exact ⟨zS, zB⟩
     ·rw [if_neg c6] at H
      exact absurd H (by simp)
    ·rw [if_neg c5] at H
     have c5b0 : ((rd t185 0) == 536870912) = false := beq_eq_false_iff_ne.mpr c5
     have c5b1 : ((rd t185 0) != 536870912) = true := bne_iff_ne.mpr c5
     obtain rfl := Option.some.inj H
     go_enter Tryd.func22, Tryd.ntmps22
     go_wp2_with (first | ((with_reducible refine gate_callee (f := 26) rfl ?_); refine goesL_ (some 4) rfl rfl Tryd.func26 (by kernel_rfl) rfl #[.int .i64 0, .int .i64 4, .int .i64 2, .int .i64 1] rfl zL ?_; (with_reducible refine (raw_Row.calls k 0 4 2 1 t184 t185 _ (by exact GL.below hG (by repeat (first | (with_reducible first | exact HB.out | apply below_alloc | apply pw_below_drewN | apply below_drew1) | exact HB.out | exact Below.refl _ _))) A1.out).mono ?_); rintro e w20 ⟨v186, rfl, ho0, hb⟩; refine ⟨_, rfl, ?_⟩; have n0_ := Aside0.mk (Kd.R_lower ho0 (below_size zB)); have n1_ := Aside0.mk (below_step zB hb); clear HB; have HO187 := n0_; have HB := n1_; clear n0_ n1_; (try clear hb); (try clear hb2); (try clear hk); (try clear hi); (try clear ho0); obtain ⟨Ao21, co21, eo21⟩ := Kd.R_slice HO187.out; subst eo21; have p188 : 0 ≤ (0 : Int) := (by omega); have q188 : 0 < (t185.length : Int) := of_decide_eq_true (by first | (with_reducible assumption) | assumption); obtain ⟨ad188, e188, hx188_0⟩ := Kd.at_int (Kd.R_reads' HO187.out).2.2 0 p188 q188; cases e188; have qi188 : (0 < t185.length) = True := eq_true (by omega); (try rw [show ((0 : Int)).toNat = 0 from rfl] at hx188_0); (try rw [Addr.add_zero'] at hx188_0); replace p188 := eq_true p188; replace q188 := eq_true q188))
     go_ret
     exact ⟨zS, zB⟩
   ·rw [if_neg c4] at H
    exact absurd H (by simp)
  ·rw [if_neg c3] at H
   have c3b0 : ((t185.length : Int) == 2) = false := beq_eq_false_iff_ne.mpr c3
   have c3b1 : ((t185.length : Int) != 2) = true := bne_iff_ne.mpr c3
   obtain rfl := Option.some.inj H
   go_enter Tryd.func22, Tryd.ntmps22
   go_wp2_with (first | ((with_reducible refine gate_callee (f := 26) rfl ?_); refine goesL_ (some 4) rfl rfl Tryd.func26 (by kernel_rfl) rfl #[.int .i64 0, .int .i64 4, .int .i64 2, .int .i64 1] rfl zL ?_; (with_reducible refine (raw_Row.calls k 0 4 2 1 t184 t185 _ (by exact GL.below hG (by repeat (first | (with_reducible first | exact HB.out | apply below_alloc | apply pw_below_drewN | apply below_drew1) | exact HB.out | exact Below.refl _ _))) A1.out).mono ?_); rintro e w22 ⟨v186, rfl, ho0, hb⟩; refine ⟨_, rfl, ?_⟩; have n0_ := Aside0.mk (Kd.R_lower ho0 (below_size zB)); have n1_ := Aside0.mk (below_step zB hb); clear HB; have HO187 := n0_; have HB := n1_; clear n0_ n1_; (try clear hb); (try clear hb2); (try clear hk); (try clear hi); (try clear ho0); obtain ⟨Ao23, co23, eo23⟩ := Kd.R_slice HO187.out; subst eo23))
   go_ret
   exact ⟨zS, zB⟩
 ·rw [if_neg c2] at H
  have c2b0 : (t184 == 2) = false := beq_eq_false_iff_ne.mpr c2
  have c2b1 : (t184 != 2) = true := bne_iff_ne.mpr c2
  obtain rfl := Option.some.inj H
  go_enter Tryd.func22, Tryd.ntmps22
  go_wp2_with (first | ((with_reducible refine gate_callee (f := 26) rfl ?_); refine goesL_ (some 4) rfl rfl Tryd.func26 (by kernel_rfl) rfl #[.int .i64 0, .int .i64 4, .int .i64 2, .int .i64 1] rfl zL ?_; (with_reducible refine (raw_Row.calls k 0 4 2 1 t184 t185 _ (by exact GL.below hG (by repeat (first | (with_reducible first | exact HB.out | apply below_alloc | apply pw_below_drewN | apply below_drew1) | exact HB.out | exact Below.refl _ _))) A1.out).mono ?_); rintro e w24 ⟨v186, rfl, ho0, hb⟩; refine ⟨_, rfl, ?_⟩; have n0_ := Aside0.mk (Kd.R_lower ho0 (below_size zB)); have n1_ := Aside0.mk (below_step zB hb); clear HB; have HO187 := n0_; have HB := n1_; clear n0_ n1_; (try clear hb); (try clear hb2); (try clear hk); (try clear hi); (try clear ho0)))
  go_ret
  exact ⟨zS, zB⟩
def expo_Exp.l0 : Nat → Int → Int → Int → Int → Int → Option (Int)
 | 0, _, _, _, _, _ => none
 | k + 1, x3, x4, x5, x6, x14 => if x14 < 16 then ((wide_MulDiv.f k x6 x4 (wrap64 ((wrap64 (x14 + 1)) * 1099511627776))).bind fun t192 => (if (Int.tmod x14 2) = 0 then (expo_Exp.l0 k x3 x4 (wrap64 (x5 - t192)) t192 (wrap64 (x14 + 1))) else (expo_Exp.l0 k x3 x4 (wrap64 (x5 + t192)) t192 (wrap64 (x14 + 1))))) else ((fixed_Shift.f x5 x3).bind fun t193 => (some t193))
def expo_Exp.f (k : Nat) (a0 : Int) : Option (Int) := expo_Exp.l0 k (wrap64 ((mx 0 a0) / 762123384786)) ((mx 0 a0) % 762123384786) 1099511627776 1099511627776 0
theorem expo_Exp.mono_l : ∀ k, (∀ y0 y1 y2 y3 y4, LeO (expo_Exp.l0 k y0 y1 y2 y3 y4) (expo_Exp.l0 (k + 1) y0 y1 y2 y3 y4))
 | 0 => fun _ _ _ _ _ r h => by simp [expo_Exp.l0] at h
 | k + 1 => by
  have ih0 := expo_Exp.mono_l k
  ·intro y0 y1 y2 y3 y4
   unfold expo_Exp.l0
   repeat' (with_reducible first | exact ih0 _ _ _ _ _ | exact wide_MulDiv.mono _ _ _ _ | exact zM | refine LeO.ite ?_ ?_ | refine LeO.bind ?_ (fun _ => ?_))
theorem expo_Exp.mono : ∀ a0 k, LeO (expo_Exp.f k a0) (expo_Exp.f (k + 1) a0) := by
 intro a0 k
 have ih0 := expo_Exp.mono_l k
 unfold expo_Exp.f
 repeat' (with_reducible first | exact ih0 _ _ _ _ _ | exact wide_MulDiv.mono _ _ _ _ | exact zM | refine LeO.ite ?_ ?_ | refine LeO.bind ?_ (fun _ => ?_))
set_option maxHeartbeats 8000000 in
set_option maxRecDepth 100000 in
theorem expo_Exp.calls (k : Nat) (a0 : Int) (r : Int) (w : World) (h : expo_Exp.f k a0 = some r) :
  Calls Tryd.prog 81 #[.int .i64 a0] w fun e w' => e = .returned (.int .i64 r) ∧ Below w.heap.size w w' := by
 have HB := Aside0.mk (Below.refl w.heap.size w)
 have H : (expo_Exp.l0 k (wrap64 ((mx 0 a0) / 762123384786)) ((mx 0 a0) % 762123384786) 1099511627776 1099511627776 0) = some r := h
 clear h
 obtain ⟨ji2, hji2⟩ : ∃ j_ : Int, (mx 0 a0) = j_ := ⟨_, rfl⟩
 replace H : (expo_Exp.l0 k (wrap64 ((ji2) / 762123384786)) ((ji2) % 762123384786) 1099511627776 1099511627776 0) = some r := by first | (rw [hji2] at H; exact H) | (simp only [hji2] at H ⊢; exact H)
 (try (have hji2l : 0 ≤ ji2 := by (rw [← hji2]; unfold mx; (repeat' split) <;> omega)))
 (try (have hji2m : 0 ≤ ji2 := by omega))
 have hji2_ : (if 0 < a0 then a0 else 0) = ji2 := hji2
 have H' := Aside0.mk H
 clear H
 go_enter Tryd.func81, Tryd.ntmps81
 go_wp2
 go_loopg [5, 6, 14] k (fun kq v5 v6 v14 w' => ∃ (x5_1 : Int) (x6_1 : Int) (x14_1 : Int), v5 = .int .i64 x5_1 ∧ v6 = .int .i64 x6_1 ∧ v14 = .int .i64 x14_1 ∧ Aside0 (expo_Exp.l0 kq (wrap64 ((ji2) / 762123384786)) ((ji2) % 762123384786) x5_1 x6_1 x14_1 = some r) ∧ Aside0 (kq ≤ k) ∧ Aside0 (Below w.heap.size w w'))
 case atStart => exact ⟨(1099511627776), (1099511627776), (0), zT, zT, zT, H', ⟨Nat.le_refl _⟩, ⟨zB⟩⟩
 case round =>
  clear H'
  try clear p2
  obtain ⟨x5_1, x6_1, x14_1, rfl, rfl, rfl, HA, HK1, HB⟩ := hrel
  cases gk with
  | zero => exact absurd HA.out (by simp [expo_Exp.l0])
  | succ k1 =>
   have H := HA.out
   clear HA
   simp only [expo_Exp.l0] at H
   by_cases c3 : x14_1 < 16
   ·rw [if_pos c3] at H
    have c3b0 : decide (x14_1 < 16) = true := decide_eq_true c3
    clear c3
    replace H := Option.bind_eq_some_iff.mp H
    obtain ⟨t192, A40, H⟩ := H
    try dsimp only at H
    have A4 := Aside0.mk A40
    clear A40
    by_cases c5 : (Int.tmod x14_1 2) = 0
    ·rw [if_pos c5] at H
     have c5b0 : ((Int.tmod x14_1 2) == 0) = true := beq_iff_eq.mpr c5
     have c5b1 : ((Int.tmod x14_1 2) != 0) = false := bne_eq_false_iff_eq.mpr c5
     clear c5
     have H' := Aside0.mk H
     clear H
     go_wp2_with (first | ((with_reducible refine gate_callee (f := 54) rfl ?_); refine goesL_ (some 22) rfl rfl Tryd.func54 (by kernel_rfl) rfl #[.int .i64 x6_1, .int .i64 ((ji2) % 762123384786), .int .i64 (wrap64 ((wrap64 (x14_1 + 1)) * 1099511627776))] rfl (by (try simp only [List.map_toArray, List.map_cons, List.map_nil]); first | done | (simp only [hji2]; rfl) | (simp only [Int.tdiv_eq_ediv_of_nonneg hji2l]; rfl) | rfl | (simp only [List.length_drop, List.length_take]; rfl)) ?_; (with_reducible refine (wide_MulDiv.calls k1 x6_1 ((ji2) % 762123384786) (wrap64 ((wrap64 (x14_1 + 1)) * 1099511627776)) t192 _ A4.out).mono ?_); rintro e w' ⟨rfl, ⟨nd, rfl⟩⟩; refine ⟨_, rfl, ?_⟩))
     go_roundg k1
     case measure => have := HK1.out; omega
     case rel => exact ⟨(wrap64 (x5_1 - t192)), (t192), (wrap64 (x14_1 + 1)), zT, zT, zT, H', ⟨by have := HK1.out; omega⟩, ⟨zB⟩⟩
    ·rw [if_neg c5] at H
     have c5b0 : ((Int.tmod x14_1 2) == 0) = false := beq_eq_false_iff_ne.mpr c5
     have c5b1 : ((Int.tmod x14_1 2) != 0) = true := bne_iff_ne.mpr c5
     have H' := Aside0.mk H
     clear H
     go_wp2_with (first | ((with_reducible refine gate_callee (f := 54) rfl ?_); refine goesL_ (some 22) rfl rfl Tryd.func54 (by kernel_rfl) rfl #[.int .i64 x6_1, .int .i64 ((ji2) % 762123384786), .int .i64 (wrap64 ((wrap64 (x14_1 + 1)) * 1099511627776))] rfl (by (try simp only [List.map_toArray, List.map_cons, List.map_nil]); first | done | (simp only [hji2]; rfl) | (simp only [Int.tdiv_eq_ediv_of_nonneg hji2l]; rfl) | rfl | (simp only [List.length_drop, List.length_take]; rfl)) ?_; (with_reducible refine (wide_MulDiv.calls k1 x6_1 ((ji2) % 762123384786) (wrap64 ((wrap64 (x14_1 + 1)) * 1099511627776)) t192 _ A4.out).mono ?_); rintro e w' ⟨rfl, ⟨nd, rfl⟩⟩; refine ⟨_, rfl, ?_⟩))
     go_roundg k1
     case measure => have := HK1.out; omega
     case rel => exact ⟨(wrap64 (x5_1 + t192)), (t192), (wrap64 (x14_1 + 1)), zT, zT, zT, H', ⟨by have := HK1.out; omega⟩, ⟨zB⟩⟩
   ·rw [if_neg c3] at H
    have c3b0 : decide (x14_1 < 16) = false := decide_eq_false c3
    clear c3
    replace H := Option.bind_eq_some_iff.mp H
    obtain ⟨t193, A60, H⟩ := H
    try dsimp only at H
    have A6 := Aside0.mk A60
    clear A60
    obtain rfl := Option.some.inj H
    go_wp2_with (first | ((with_reducible refine gate_callee (f := 80) rfl ?_); refine goesL_ (some 35) rfl rfl Tryd.func80 (by kernel_rfl) rfl #[.int .i64 x5_1, .int .i64 (wrap64 ((ji2) / 762123384786))] rfl (by (try simp only [List.map_toArray, List.map_cons, List.map_nil]); first | done | (simp only [hji2]; rfl) | (simp only [Int.tdiv_eq_ediv_of_nonneg hji2l]; rfl) | rfl | (simp only [List.length_drop, List.length_take]; rfl)) ?_; (with_reducible refine (fixed_Shift.calls x5_1 (wrap64 ((ji2) / 762123384786)) t193 _ A6.out).mono ?_); rintro e w' ⟨rfl, ⟨nd, rfl⟩⟩; refine ⟨_, rfl, ?_⟩))
    go_ret
    exact ⟨by first | rfl | (simp [errW_none, errW_some] <;> rfl) | (simp only [← hji2]; first | rfl | (simp [errW_none, errW_some] <;> rfl)) | (simp [*, errW_none, errW_some] <;> rfl), zB⟩
def expo_Ratio.f (k : Nat) (a0 : Int) (a1 : Int) : Option (Int) := if a1 < 1 then (some 9223372036854775807) else (if a1 > 4194304 then (some 9223372036854775807) else (if a0 < (-16384) then (some 9223372036854775807) else (if a0 > 16384 then (some 9223372036854775807) else ((wide_MulDiv.f k (wrap64 ((wrap64 (a0 * a0)) * 2147483648)) 1099511627776 (wrap64 (a1 * a1))).bind fun t194 => (some t194)))))
theorem expo_Ratio.mono : ∀ a0 a1 k, LeO (expo_Ratio.f k a0 a1) (expo_Ratio.f (k + 1) a0 a1) := by
 intro a0 a1 k
 unfold expo_Ratio.f
 repeat' (with_reducible first | exact wide_MulDiv.mono _ _ _ _ | exact zM | refine LeO.ite ?_ ?_ | refine LeO.bind ?_ (fun _ => ?_))
set_option maxHeartbeats 8000000 in
set_option maxRecDepth 100000 in
theorem expo_Ratio.calls (k : Nat) (a0 : Int) (a1 : Int) (r : Int) (w : World) (h : expo_Ratio.f k a0 a1 = some r) :
  Calls Tryd.prog 82 #[.int .i64 a0, .int .i64 a1] w fun e w' => e = .returned (.int .i64 r) ∧ Drawn0 w w' := by
 have H : (if a1 < 1 then (some 9223372036854775807) else (if a1 > 4194304 then (some 9223372036854775807) else (if a0 < (-16384) then (some 9223372036854775807) else (if a0 > 16384 then (some 9223372036854775807) else ((wide_MulDiv.f k (wrap64 ((wrap64 (a0 * a0)) * 2147483648)) 1099511627776 (wrap64 (a1 * a1))).bind fun t194 => (some t194)))))) = some r := h
 clear h
 by_cases c3 : a1 < 1
 ·rw [if_pos c3] at H
  have c3b0 : decide (a1 < 1) = true := decide_eq_true c3
  clear c3
  obtain rfl := Option.some.inj H
  go_enter Tryd.func82, Tryd.ntmps82
  go_wp2
  go_ret
  exact ⟨zT, zW⟩
 ·rw [if_neg c3] at H
  have c3b0 : decide (a1 < 1) = false := decide_eq_false c3
  clear c3
  by_cases c4 : a1 > 4194304
  ·rw [if_pos c4] at H
   have c4b0 : decide (4194304 < a1) = true := decide_eq_true c4
   clear c4
   obtain rfl := Option.some.inj H
   go_enter Tryd.func82, Tryd.ntmps82
   go_wp2
   go_ret
   exact ⟨zT, zW⟩
  ·rw [if_neg c4] at H
   have c4b0 : decide (4194304 < a1) = false := decide_eq_false c4
   clear c4
   by_cases c5 : a0 < (-16384)
   ·rw [if_pos c5] at H
    have c5b0 : decide (a0 < (-16384)) = true := decide_eq_true c5
    clear c5
    obtain rfl := Option.some.inj H
    go_enter Tryd.func82, Tryd.ntmps82
    go_wp2
    go_ret
    exact ⟨zT, zW⟩
   ·rw [if_neg c5] at H
    have c5b0 : decide (a0 < (-16384)) = false := decide_eq_false c5
    clear c5
    by_cases c6 : a0 > 16384
    ·rw [if_pos c6] at H
     have c6b0 : decide (16384 < a0) = true := decide_eq_true c6
     clear c6
     obtain rfl := Option.some.inj H
     go_enter Tryd.func82, Tryd.ntmps82
     go_wp2
     go_ret
     exact ⟨zT, zW⟩
    ·rw [if_neg c6] at H
     have c6b0 : decide (16384 < a0) = false := decide_eq_false c6
     clear c6
     replace H := Option.bind_eq_some_iff.mp H
     obtain ⟨t194, A70, H⟩ := H
     try dsimp only at H
     have A7 := Aside0.mk A70
     clear A70
     obtain rfl := Option.some.inj H
     go_enter Tryd.func82, Tryd.ntmps82
     go_wp2_with (first | ((with_reducible refine gate_callee (f := 54) rfl ?_); refine goesL_ (some 26) rfl rfl Tryd.func54 (by kernel_rfl) rfl #[.int .i64 (wrap64 ((wrap64 (a0 * a0)) * 2147483648)), .int .i64 1099511627776, .int .i64 (wrap64 (a1 * a1))] rfl zL ?_; (with_reducible refine (wide_MulDiv.calls k (wrap64 ((wrap64 (a0 * a0)) * 2147483648)) 1099511627776 (wrap64 (a1 * a1)) t194 _ A7.out).mono ?_); rintro e w' ⟨rfl, ⟨nd, rfl⟩⟩; refine ⟨_, rfl, ?_⟩))
     go_ret
     exact ⟨zT, zW⟩
def expo_Gauss.f (k : Nat) (a0 : Int) (a1 : Int) : Option (Int) := (expo_Ratio.f k a0 a1).bind fun t195 => ((expo_Exp.f k t195).bind fun t196 => ((fixed_Shift.f t196 10).bind fun t197 => (some t197)))
theorem expo_Gauss.mono : ∀ a0 a1 k, LeO (expo_Gauss.f k a0 a1) (expo_Gauss.f (k + 1) a0 a1) := by
 intro a0 a1 k
 unfold expo_Gauss.f
 repeat' (with_reducible first | exact expo_Exp.mono _ _ | exact expo_Ratio.mono _ _ _ | exact zM | refine LeO.ite ?_ ?_ | refine LeO.bind ?_ (fun _ => ?_))
set_option maxHeartbeats 8000000 in
set_option maxRecDepth 100000 in
theorem expo_Gauss.calls (k : Nat) (a0 : Int) (a1 : Int) (r : Int) (w : World) (h : expo_Gauss.f k a0 a1 = some r) :
  Calls Tryd.prog 55 #[.int .i64 a0, .int .i64 a1] w fun e w' => e = .returned (.int .i64 r) ∧ Below w.heap.size w w' := by
 have HB := Aside0.mk (Below.refl w.heap.size w)
 have H : ((expo_Ratio.f k a0 a1).bind fun t195 => ((expo_Exp.f k t195).bind fun t196 => ((fixed_Shift.f t196 10).bind fun t197 => (some t197)))) = some r := h
 clear h
 replace H := Option.bind_eq_some_iff.mp H
 obtain ⟨t195, A30, H⟩ := H
 try dsimp only at H
 have A3 := Aside0.mk A30
 clear A30
 replace H := Option.bind_eq_some_iff.mp H
 obtain ⟨t196, A40, H⟩ := H
 try dsimp only at H
 have A4 := Aside0.mk A40
 clear A40
 replace H := Option.bind_eq_some_iff.mp H
 obtain ⟨t197, A50, H⟩ := H
 try dsimp only at H
 have A5 := Aside0.mk A50
 clear A50
 obtain rfl := Option.some.inj H
 go_enter Tryd.func55, Tryd.ntmps55
 go_wp2_with (first | ((with_reducible refine gate_callee (f := 82) rfl ?_); refine goesL_ (some 7) rfl rfl Tryd.func82 (by kernel_rfl) rfl #[.int .i64 a0, .int .i64 a1] rfl zL ?_; (with_reducible refine (expo_Ratio.calls k a0 a1 t195 _ A3.out).mono ?_); rintro e w' ⟨rfl, ⟨nd, rfl⟩⟩; refine ⟨_, rfl, ?_⟩) | ((with_reducible refine gate_callee (f := 81) rfl ?_); refine goesL_ (some 8) rfl rfl Tryd.func81 (by kernel_rfl) rfl #[.int .i64 t195] rfl zL ?_; (with_reducible refine (expo_Exp.calls k t195 t196 _ A4.out).mono ?_); rintro e w6 ⟨rfl, hb⟩; refine ⟨_, rfl, ?_⟩; have n0_ := Aside0.mk (below_step zB hb); clear HB; have HB := n0_; clear n0_; (try clear hb); (try clear hb2); (try clear hk); (try clear hi)) | ((with_reducible refine gate_callee (f := 80) rfl ?_); refine goesL_ (some 9) rfl rfl Tryd.func80 (by kernel_rfl) rfl #[.int .i64 t196, .int .i64 10] rfl zL ?_; (with_reducible refine (fixed_Shift.calls t196 10 t197 _ A5.out).mono ?_); rintro e w' ⟨rfl, ⟨nd, rfl⟩⟩; refine ⟨_, rfl, ?_⟩))
 go_ret
 exact ⟨zS, zB⟩
end Go.Proofs.YthaajkpiknbdbaaDoor.QA
