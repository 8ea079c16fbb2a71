-- Written by wip/tools/pp.py over the kit's print.py; not trusted: Lean checks it.
import Derived.Test.YtofmgoihoaookaaQAx0
namespace Go.Proofs.Ytofmgoihoaookaa.QA
open Go.Proofs.Ytofmgoihoaookaa.T
open Go.RowKit Go.Proofs.YtofmgoihoaookaaW.PrintWords Go.Proofs.YtofmgoihoaookaaW.PrintLast Go.Proofs.YtofmgoihoaookaaW.PrintMore
attribute [local go_sem] max2_int min2_int max_two min_two max_three min_three max_four min_four   -- for this text's walks alone
set_option linter.unusedVariables false
set_option linter.unusedSimpArgs false

/-! ### smaltoref07_At: function 14 -/
mutual
def smaltoref07_At.j0 : Nat → Int → Int → Int → Bool → Option (Int)
  | 0, _, _, _, _ => none
  | k + 1, x0, x1, x2, x21 => if x21 = true then (some 0) else (if x1 ≥ 0 then (smaltoref07_At.j1 k x0 x1 x2 (decide (x1 < x2))) else (smaltoref07_At.j1 k x0 x1 x2 false))
def smaltoref07_At.j1 : Nat → Int → Int → Int → Bool → Option (Int)
  | 0, _, _, _, _ => none
  | k + 1, x0, x1, x2, x28 => if x28 = true then (some x1) else (if x0 = 0 then (if x1 < 0 then (some 0) else (some (wrap64 (x2 - 1)))) else (if (wrap64 (2 * x2)) = 0 then (none) else (smaltoref07_At.l0 k x0 x2 (Int.tmod x1 (wrap64 (2 * x2))))))
def smaltoref07_At.l0 : Nat → Int → Int → Int → Option (Int)
  | 0, _, _, _ => none
  | k + 1, x0, x2, x7 => if x7 < 0 then (smaltoref07_At.l0 k x0 x2 (wrap64 (x7 + (wrap64 (2 * x2))))) else (if x7 < x2 then (some x7) else (if x0 = 2 then (some (wrap64 (x7 - x2))) else (some (wrap64 ((wrap64 ((wrap64 (2 * x2)) - 1)) - x7)))))
end
def smaltoref07_At.f (k : Nat) (a0 : Int) (a1 : Int) (a2 : Int) : Option (Int) := if a2 < 1 then (smaltoref07_At.j0 k a0 a1 a2 true) else (if a2 > 65536 then (smaltoref07_At.j0 k a0 a1 a2 true) else (if a0 < 0 then (smaltoref07_At.j0 k a0 a1 a2 true) else (smaltoref07_At.j0 k a0 a1 a2 (decide (a0 > 2)))))
theorem smaltoref07_At.mono_l : ∀ k, (∀ y0 y1 y2 y3, LeO (smaltoref07_At.j0 k y0 y1 y2 y3) (smaltoref07_At.j0 (k + 1) y0 y1 y2 y3)) ∧ (∀ y0 y1 y2 y3, LeO (smaltoref07_At.j1 k y0 y1 y2 y3) (smaltoref07_At.j1 (k + 1) y0 y1 y2 y3)) ∧ (∀ y0 y1 y2, LeO (smaltoref07_At.l0 k y0 y1 y2) (smaltoref07_At.l0 (k + 1) y0 y1 y2))
  | 0 => ⟨fun _ _ _ _ r h => by simp [smaltoref07_At.j0] at h, fun _ _ _ _ r h => by simp [smaltoref07_At.j1] at h, fun _ _ _ r h => by simp [smaltoref07_At.l0] at h⟩
  | k + 1 => by
    obtain ⟨ih0, ih1, ih2⟩ := smaltoref07_At.mono_l k
    refine ⟨?_, ?_, ?_⟩
    · intro y0 y1 y2 y3
      unfold smaltoref07_At.j0
      repeat' first
      | (with_reducible exact ih0 _ _ _ _)
      | (with_reducible exact ih1 _ _ _ _)
      | (with_reducible exact ih2 _ _ _)
      | (with_reducible exact LeO.refl _)
      | (with_reducible exact LeO.none _)
      | (with_reducible refine LeO.ite ?_ ?_)
      | (with_reducible refine LeO.bind ?_ (fun _ => ?_))
      | exact ih0 _ _ _ _
      | exact ih1 _ _ _ _
      | exact ih2 _ _ _
      | exact LeO.none _
      | refine LeO.ite ?_ ?_
      | refine LeO.bind ?_ (fun _ => ?_)
    · intro y0 y1 y2 y3
      unfold smaltoref07_At.j1
      repeat' first
      | (with_reducible exact ih0 _ _ _ _)
      | (with_reducible exact ih1 _ _ _ _)
      | (with_reducible exact ih2 _ _ _)
      | (with_reducible exact LeO.refl _)
      | (with_reducible exact LeO.none _)
      | (with_reducible refine LeO.ite ?_ ?_)
      | (with_reducible refine LeO.bind ?_ (fun _ => ?_))
      | exact ih0 _ _ _ _
      | exact ih1 _ _ _ _
      | exact ih2 _ _ _
      | exact LeO.none _
      | refine LeO.ite ?_ ?_
      | refine LeO.bind ?_ (fun _ => ?_)
    · intro y0 y1 y2
      unfold smaltoref07_At.l0
      repeat' first
      | (with_reducible exact ih0 _ _ _ _)
      | (with_reducible exact ih1 _ _ _ _)
      | (with_reducible exact ih2 _ _ _)
      | (with_reducible exact LeO.refl _)
      | (with_reducible exact LeO.none _)
      | (with_reducible refine LeO.ite ?_ ?_)
      | (with_reducible refine LeO.bind ?_ (fun _ => ?_))
      | exact ih0 _ _ _ _
      | exact ih1 _ _ _ _
      | exact ih2 _ _ _
      | exact LeO.none _
      | refine LeO.ite ?_ ?_
      | refine LeO.bind ?_ (fun _ => ?_)
theorem smaltoref07_At.mono : ∀ a0 a1 a2 k, LeO (smaltoref07_At.f k a0 a1 a2) (smaltoref07_At.f (k + 1) a0 a1 a2) := by
  intro a0 a1 a2 k
  obtain ⟨ih0, ih1, ih2⟩ := smaltoref07_At.mono_l k
  unfold smaltoref07_At.f
  repeat' first
      | (with_reducible exact ih0 _ _ _ _)
      | (with_reducible exact ih1 _ _ _ _)
      | (with_reducible exact ih2 _ _ _)
      | (with_reducible exact LeO.refl _)
      | (with_reducible exact LeO.none _)
      | (with_reducible refine LeO.ite ?_ ?_)
      | (with_reducible refine LeO.bind ?_ (fun _ => ?_))
      | exact ih0 _ _ _ _
      | exact ih1 _ _ _ _
      | exact ih2 _ _ _
      | exact LeO.none _
      | refine LeO.ite ?_ ?_
      | refine LeO.bind ?_ (fun _ => ?_)
set_option maxHeartbeats 8000000 in
set_option maxRecDepth 100000 in
theorem smaltoref07_At.calls (k : Nat) (a0 : Int) (a1 : Int) (a2 : Int) (r : Int) (w : World) (h : smaltoref07_At.f k a0 a1 a2 = some r) :
    Calls Try.prog 14 #[.int .i64 a0, .int .i64 a1, .int .i64 a2] w fun e w' => e = .returned (.int .i64 r) ∧ Drawn0 w w' := by
  have H : (if a2 < 1 then (smaltoref07_At.j0 k a0 a1 a2 true) else (if a2 > 65536 then (smaltoref07_At.j0 k a0 a1 a2 true) else (if a0 < 0 then (smaltoref07_At.j0 k a0 a1 a2 true) else (smaltoref07_At.j0 k a0 a1 a2 (decide (a0 > 2)))))) = some r := h
  clear h
  have HC4 := Aside0.mk H
  clear H
  go_enter Try.func14, Try.ntmps14
  go_upto_region 1 with (fail)
  go_cut [21] (fun v21 wc => ∃ (kq : Nat) (x21_3 : Bool), v21 = .bool x21_3 ∧ Aside0 (smaltoref07_At.j0 kq a0 a1 a2 x21_3 = some r) ∧ Aside0 (kq ≤ k) ∧ Drawn0 w wc)
  case first =>
    have H := HC4.out
    clear HC4
    by_cases c5 : a2 < 1
    · rw [if_pos c5] at H
      have c5b0 : decide (a2 < 1) = true := decide_eq_true c5
      clear c5
      (first | rw [c5b0] | (simp only [i64_w, i32_w]; rw [c5b0]) | skip)
      have H' := Aside0.mk H
      clear H
      go_wp2
      go_meet
      case rel => exact ⟨_, (true), (by first | rfl | (simp; done) | (simp [*]; done)), H', ⟨by first | omega | exact Nat.le_refl _⟩, by repeat (first | exact Drawn0.refl _ | apply Drawn0.step)⟩
    · rw [if_neg c5] at H
      have c5b0 : decide (a2 < 1) = false := decide_eq_false c5
      clear c5
      (first | rw [c5b0] | (simp only [i64_w, i32_w]; rw [c5b0]) | skip)
      by_cases c6 : a2 > 65536
      · rw [if_pos c6] at H
        have c6b0 : decide (65536 < a2) = true := decide_eq_true c6
        clear c6
        have H' := Aside0.mk H
        clear H
        go_wp2
        go_meet
        case rel => exact ⟨_, (true), (by first | rfl | (simp; done) | (simp [*]; done)), H', ⟨by first | omega | exact Nat.le_refl _⟩, by repeat (first | exact Drawn0.refl _ | apply Drawn0.step)⟩
      · rw [if_neg c6] at H
        have c6b0 : decide (65536 < a2) = false := decide_eq_false c6
        clear c6
        by_cases c7 : a0 < 0
        · rw [if_pos c7] at H
          have c7b0 : decide (a0 < 0) = true := decide_eq_true c7
          clear c7
          have H' := Aside0.mk H
          clear H
          go_wp2
          go_meet
          case rel => exact ⟨_, (true), (by first | rfl | (simp; done) | (simp [*]; done)), H', ⟨by first | omega | exact Nat.le_refl _⟩, by repeat (first | exact Drawn0.refl _ | apply Drawn0.step)⟩
        · rw [if_neg c7] at H
          have c7b0 : decide (a0 < 0) = false := decide_eq_false c7
          clear c7
          have H' := Aside0.mk H
          clear H
          go_wp2
          go_meet
          case rel => exact ⟨_, (decide (a0 > 2)), (by first | rfl | (simp; done) | (simp [*]; done)), H', ⟨by first | omega | exact Nat.le_refl _⟩, by repeat (first | exact Drawn0.refl _ | apply Drawn0.step)⟩
  case rest =>
    clear HC4
    try clear c1
    try clear p2
    try clear c5
    try clear c5b0
    try clear c6
    try clear c6b0
    try clear c7
    try clear c7b0
    obtain ⟨kq, x21_3, rfl, HA, HJ3, ⟨mc3, rfl⟩⟩ := hcut
    cases kq with
    | zero => exact absurd HA.out (by simp [smaltoref07_At.j0])
    | succ kj3 =>
      have H := HA.out
      clear HA
      simp only [smaltoref07_At.j0] at H
      by_cases c8 : x21_3 = true
      · subst c8
        have H1 : (some 0) = some r := by rw [if_pos rfl] at H; exact H
        clear H
        have H := H1
        clear H1
        obtain rfl := Option.some.inj H
        go_wp2
        go_ret
        exact ⟨by first | rfl | (simp; done) | (simp [*]; done), by repeat (first | exact Drawn0.refl _ | apply Drawn0.step)⟩
      · replace c8 := Bool.eq_false_iff.mpr c8
        subst c8
        have H1 : (if a1 ≥ 0 then (smaltoref07_At.j1 kj3 a0 a1 a2 (decide (a1 < a2))) else (smaltoref07_At.j1 kj3 a0 a1 a2 false)) = some r := by rw [if_neg (show ¬ (false = true) by decide)] at H; exact H
        clear H
        have H := H1
        clear H1
        have HC9 := Aside0.mk H
        clear H
        go_upto_region 3 with (fail)
        go_cut [28] (fun v28 wc => ∃ (kq : Nat) (x28_8 : Bool), v28 = .bool x28_8 ∧ Aside0 (smaltoref07_At.j1 kq a0 a1 a2 x28_8 = some r) ∧ Aside0 (kq ≤ kj3) ∧ Drawn0 w wc)
        case first =>
          have H := HC9.out
          clear HC9
          by_cases c10 : a1 ≥ 0
          · rw [if_pos c10] at H
            have c10b0 : decide (0 ≤ a1) = true := decide_eq_true c10
            clear c10
            (first | rw [c10b0] | (simp only [i64_w, i32_w]; rw [c10b0]) | skip)
            have H' := Aside0.mk H
            clear H
            go_wp2
            go_meet
            case rel => exact ⟨_, (decide (a1 < a2)), (by first | rfl | (simp; done) | (simp [*]; done)), H', ⟨by have := HJ3.out; first | omega | exact Nat.le_refl _⟩, by repeat (first | exact Drawn0.refl _ | apply Drawn0.step)⟩
          · rw [if_neg c10] at H
            have c10b0 : decide (0 ≤ a1) = false := decide_eq_false c10
            clear c10
            (first | rw [c10b0] | (simp only [i64_w, i32_w]; rw [c10b0]) | skip)
            have H' := Aside0.mk H
            clear H
            go_wp2
            go_meet
            case rel => exact ⟨_, (false), (by first | rfl | (simp; done) | (simp [*]; done)), H', ⟨by have := HJ3.out; first | omega | exact Nat.le_refl _⟩, by repeat (first | exact Drawn0.refl _ | apply Drawn0.step)⟩
        case rest =>
          clear HC9
          try clear c1
          try clear p2
          try clear c3
          try clear c5
          try clear c5b0
          try clear c6
          try clear c6b0
          try clear c7
          try clear c7b0
          try clear c8
          try clear c10
          try clear c10b0
          try clear p2
          obtain ⟨kq, x28_8, rfl, HA, HJ8, ⟨mc8, rfl⟩⟩ := hcut
          cases kq with
          | zero => exact absurd HA.out (by simp [smaltoref07_At.j1])
          | succ kj8 =>
            have H := HA.out
            clear HA
            simp only [smaltoref07_At.j1] at H
            by_cases c11 : x28_8 = true
            · subst c11
              have H1 : (some a1) = some r := by rw [if_pos rfl] at H; exact H
              clear H
              have H := H1
              clear H1
              obtain rfl := Option.some.inj H
              go_wp2
              go_ret
              exact ⟨by first | rfl | (simp; done) | (simp [*]; done), by repeat (first | exact Drawn0.refl _ | apply Drawn0.step)⟩
            · replace c11 := Bool.eq_false_iff.mpr c11
              subst c11
              have H1 : (if a0 = 0 then (if a1 < 0 then (some 0) else (some (wrap64 (a2 - 1)))) else (if (wrap64 (2 * a2)) = 0 then (none) else (smaltoref07_At.l0 kj8 a0 a2 (Int.tmod a1 (wrap64 (2 * a2)))))) = some r := by rw [if_neg (show ¬ (false = true) by decide)] at H; exact H
              clear H
              have H := H1
              clear H1
              by_cases c12 : a0 = 0
              · rw [if_pos c12] at H
                have c12b0 : (a0 == 0) = true := beq_iff_eq.mpr c12
                have c12b1 : (a0 != 0) = false := bne_eq_false_iff_eq.mpr c12
                clear c12
                by_cases c13 : a1 < 0
                · rw [if_pos c13] at H
                  have c13b0 : decide (a1 < 0) = true := decide_eq_true c13
                  clear c13
                  obtain rfl := Option.some.inj H
                  go_wp2
                  go_ret
                  exact ⟨by first | rfl | (simp; done) | (simp [*]; done), by repeat (first | exact Drawn0.refl _ | apply Drawn0.step)⟩
                · rw [if_neg c13] at H
                  have c13b0 : decide (a1 < 0) = false := decide_eq_false c13
                  clear c13
                  obtain rfl := Option.some.inj H
                  go_wp2
                  go_ret
                  exact ⟨by first | rfl | (simp; done) | (simp [*]; done), by repeat (first | exact Drawn0.refl _ | apply Drawn0.step)⟩
              · rw [if_neg c12] at H
                have c12b0 : (a0 == 0) = false := beq_eq_false_iff_ne.mpr c12
                have c12b1 : (a0 != 0) = true := bne_iff_ne.mpr c12
                by_cases c14 : (wrap64 (2 * a2)) = 0
                · rw [if_pos c14] at H
                  exact absurd H (by simp)
                · rw [if_neg c14] at H
                  have c14b0 : ((wrap64 (2 * a2)) == 0) = false := beq_eq_false_iff_ne.mpr c14
                  have c14b1 : ((wrap64 (2 * a2)) != 0) = true := bne_iff_ne.mpr c14
                  have H' := Aside0.mk H
                  clear H
                  go_wp2
                  go_loopg [7] kj8 (fun kq v7 w' => ∃ (x7_3 : Int), v7 = .int .i64 x7_3 ∧ Aside0 (smaltoref07_At.l0 kq a0 a2 x7_3 = some r) ∧ Aside0 (kq ≤ kj8) ∧ Drawn0 w w')
                  case atStart => exact ⟨(Int.tmod a1 (wrap64 (2 * a2))), (by first | rfl | (simp; done) | (simp [*]; done)), H', ⟨Nat.le_refl _⟩, by repeat (first | exact Drawn0.refl _ | apply Drawn0.step)⟩
                  case round =>
                    clear H'
                    try clear c1
                    try clear p2
                    try clear c3
                    try clear c5
                    try clear c5b0
                    try clear c6
                    try clear c6b0
                    try clear p6
                    try clear c7
                    try clear c7b0
                    try clear c8
                    try clear c10
                    try clear c10b0
                    try clear c11
                    try clear c12
                    try clear c12b0
                    try clear c12b1
                    try clear c13
                    try clear c13b0
                    try clear c14
                    try clear c14b0
                    try clear c14b1
                    try clear p2
                    obtain ⟨x7_3, rfl, HA, HK3, ⟨m3, rfl⟩⟩ := hrel
                    cases gk with
                    | zero => exact absurd HA.out (by simp [smaltoref07_At.l0])
                    | succ k3 =>
                      have H := HA.out
                      clear HA
                      simp only [smaltoref07_At.l0] at H
                      by_cases c15 : x7_3 < 0
                      · rw [if_pos c15] at H
                        have c15b0 : decide (x7_3 < 0) = true := decide_eq_true c15
                        clear c15
                        have H' := Aside0.mk H
                        clear H
                        go_wp2
                        go_roundg k3
                        case measure => have := HJ3.out; have := HJ8.out; have := HK3.out; omega
                        case rel => exact ⟨(wrap64 (x7_3 + (wrap64 (2 * a2)))), (by first | rfl | (simp; done) | (simp [*]; done)), H', ⟨by have := HJ3.out; have := HJ8.out; have := HK3.out; omega⟩, by repeat (first | exact Drawn0.refl _ | apply Drawn0.step)⟩
                      · rw [if_neg c15] at H
                        have c15b0 : decide (x7_3 < 0) = false := decide_eq_false c15
                        clear c15
                        by_cases c16 : x7_3 < a2
                        · rw [if_pos c16] at H
                          have c16b0 : decide (x7_3 < a2) = true := decide_eq_true c16
                          clear c16
                          obtain rfl := Option.some.inj H
                          go_wp2
                          go_ret
                          exact ⟨by first | rfl | (simp; done) | (simp [*]; done), by repeat (first | exact Drawn0.refl _ | apply Drawn0.step)⟩
                        · rw [if_neg c16] at H
                          have c16b0 : decide (x7_3 < a2) = false := decide_eq_false c16
                          clear c16
                          by_cases c17 : a0 = 2
                          · rw [if_pos c17] at H
                            have c17b0 : (a0 == 2) = true := beq_iff_eq.mpr c17
                            have c17b1 : (a0 != 2) = false := bne_eq_false_iff_eq.mpr c17
                            clear c17
                            obtain rfl := Option.some.inj H
                            go_wp2
                            go_ret
                            exact ⟨by first | rfl | (simp; done) | (simp [*]; done), by repeat (first | exact Drawn0.refl _ | apply Drawn0.step)⟩
                          · rw [if_neg c17] at H
                            have c17b0 : (a0 == 2) = false := beq_eq_false_iff_ne.mpr c17
                            have c17b1 : (a0 != 2) = true := bne_iff_ne.mpr c17
                            obtain rfl := Option.some.inj H
                            go_wp2
                            go_ret
                            exact ⟨by first | rfl | (simp; done) | (simp [*]; done), by repeat (first | exact Drawn0.refl _ | apply Drawn0.step)⟩

end Go.Proofs.Ytofmgoihoaookaa.QA
