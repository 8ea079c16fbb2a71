-- Written by wip/tools/pp.py over the kit's print.py; not trusted: Lean checks it.
import Derived.Test.YtofmgoihoaookaaQAx0
import Derived.Test.YtofmgoihoaookaaQAx1
import Derived.Test.YtofmgoihoaookaaQAx8
import Derived.Test.YtofmgoihoaookaaQAx9
namespace Go.Proofs.Ytofmgoihoaookaa.QA
open Go.Proofs.Ytofmgoihoaookaa.T
open Go.RowKit Go.Proofs.YtofmgoihoaookaaW.PrintWords Go.Proofs.YtofmgoihoaookaaW.PrintLast Go.Proofs.YtofmgoihoaookaaW.PrintMore
attribute [local go_sem] max2_int min2_int max_two min_two max_three min_three max_four min_four   -- for this text's walks alone
set_option linter.unusedVariables false
set_option linter.unusedSimpArgs false

/-! ### smaltolaw01_FixedMods: function 8 -/
def smaltolaw01_FixedMods.f (k : Nat) (a0 : Int) (a1 : Int) : Option (Bool) := (smaltolaw01_Lives.f k).bind fun t221 => (if t221 = true then ((fixed_Mod.f k a0 a1).bind fun t222 => (if a1 = 0 then (some (t222 == 0)) else (if a1 > 0 then (if t222 < 0 then (some false) else (if t222 ≥ a1 then (some false) else (if a1 < 0 then (if t222 > 0 then (some false) else (if t222 ≤ a1 then (some false) else (if a1 = (-1) then (if t222 = 0 then (some true) else ((fixed_Floor.f k a0 a1).bind fun t223 => (some ((wrap64 ((wrap64 (t223 * a1)) + t222)) == a0)))) else ((fixed_Floor.f k a0 a1).bind fun t224 => (some ((wrap64 ((wrap64 (t224 * a1)) + t222)) == a0)))))) else (if a1 = (-1) then (if t222 = 0 then (some true) else ((fixed_Floor.f k a0 a1).bind fun t225 => (some ((wrap64 ((wrap64 (t225 * a1)) + t222)) == a0)))) else ((fixed_Floor.f k a0 a1).bind fun t226 => (some ((wrap64 ((wrap64 (t226 * a1)) + t222)) == a0))))))) else (if a1 < 0 then (if t222 > 0 then (some false) else (if t222 ≤ a1 then (some false) else (if a1 = (-1) then (if t222 = 0 then (some true) else ((fixed_Floor.f k a0 a1).bind fun t227 => (some ((wrap64 ((wrap64 (t227 * a1)) + t222)) == a0)))) else ((fixed_Floor.f k a0 a1).bind fun t228 => (some ((wrap64 ((wrap64 (t228 * a1)) + t222)) == a0)))))) else (if a1 = (-1) then (if t222 = 0 then (some true) else ((fixed_Floor.f k a0 a1).bind fun t229 => (some ((wrap64 ((wrap64 (t229 * a1)) + t222)) == a0)))) else ((fixed_Floor.f k a0 a1).bind fun t230 => (some ((wrap64 ((wrap64 (t230 * a1)) + t222)) == a0)))))))) else (some false))
theorem smaltolaw01_FixedMods.mono : ∀ a0 a1 k, LeO (smaltolaw01_FixedMods.f k a0 a1) (smaltolaw01_FixedMods.f (k + 1) a0 a1) := by
  intro a0 a1 k
  unfold smaltolaw01_FixedMods.f
  repeat' first
      | (with_reducible exact fixed_Floor.mono _ _ _)
      | (with_reducible exact fixed_Mod.mono _ _ _)
      | (with_reducible exact smaltolaw01_Lives.mono _)
      | (with_reducible exact LeO.refl _)
      | (with_reducible exact LeO.none _)
      | (with_reducible refine LeO.ite ?_ ?_)
      | (with_reducible refine LeO.bind ?_ (fun _ => ?_))
      | exact fixed_Floor.mono _ _ _
      | exact fixed_Mod.mono _ _ _
      | exact smaltolaw01_Lives.mono _
      | exact LeO.none _
      | refine LeO.ite ?_ ?_
      | refine LeO.bind ?_ (fun _ => ?_)
set_option maxHeartbeats 8000000 in
set_option maxRecDepth 100000 in
theorem smaltolaw01_FixedMods.calls (k : Nat) (a0 : Int) (a1 : Int) (r : Bool) (w : World) (h : smaltolaw01_FixedMods.f k a0 a1 = some r) :
    Calls Try.prog 8 #[.int .i64 a0, .int .i64 a1] w fun e w' => e = .returned (.bool r) ∧ Drawn0 w w' := by
  have H : ((smaltolaw01_Lives.f k).bind fun t221 => (if t221 = true then ((fixed_Mod.f k a0 a1).bind fun t222 => (if a1 = 0 then (some (t222 == 0)) else (if a1 > 0 then (if t222 < 0 then (some false) else (if t222 ≥ a1 then (some false) else (if a1 < 0 then (if t222 > 0 then (some false) else (if t222 ≤ a1 then (some false) else (if a1 = (-1) then (if t222 = 0 then (some true) else ((fixed_Floor.f k a0 a1).bind fun t223 => (some ((wrap64 ((wrap64 (t223 * a1)) + t222)) == a0)))) else ((fixed_Floor.f k a0 a1).bind fun t224 => (some ((wrap64 ((wrap64 (t224 * a1)) + t222)) == a0)))))) else (if a1 = (-1) then (if t222 = 0 then (some true) else ((fixed_Floor.f k a0 a1).bind fun t225 => (some ((wrap64 ((wrap64 (t225 * a1)) + t222)) == a0)))) else ((fixed_Floor.f k a0 a1).bind fun t226 => (some ((wrap64 ((wrap64 (t226 * a1)) + t222)) == a0))))))) else (if a1 < 0 then (if t222 > 0 then (some false) else (if t222 ≤ a1 then (some false) else (if a1 = (-1) then (if t222 = 0 then (some true) else ((fixed_Floor.f k a0 a1).bind fun t227 => (some ((wrap64 ((wrap64 (t227 * a1)) + t222)) == a0)))) else ((fixed_Floor.f k a0 a1).bind fun t228 => (some ((wrap64 ((wrap64 (t228 * a1)) + t222)) == a0)))))) else (if a1 = (-1) then (if t222 = 0 then (some true) else ((fixed_Floor.f k a0 a1).bind fun t229 => (some ((wrap64 ((wrap64 (t229 * a1)) + t222)) == a0)))) else ((fixed_Floor.f k a0 a1).bind fun t230 => (some ((wrap64 ((wrap64 (t230 * a1)) + t222)) == a0)))))))) else (some false))) = some r := h
  clear h
  replace H := Option.bind_eq_some_iff.mp H
  obtain ⟨t221, A30, H⟩ := H
  replace H : (if t221 = true then ((fixed_Mod.f k a0 a1).bind fun t222 => (if a1 = 0 then (some (t222 == 0)) else (if a1 > 0 then (if t222 < 0 then (some false) else (if t222 ≥ a1 then (some false) else (if a1 < 0 then (if t222 > 0 then (some false) else (if t222 ≤ a1 then (some false) else (if a1 = (-1) then (if t222 = 0 then (some true) else ((fixed_Floor.f k a0 a1).bind fun t223 => (some ((wrap64 ((wrap64 (t223 * a1)) + t222)) == a0)))) else ((fixed_Floor.f k a0 a1).bind fun t224 => (some ((wrap64 ((wrap64 (t224 * a1)) + t222)) == a0)))))) else (if a1 = (-1) then (if t222 = 0 then (some true) else ((fixed_Floor.f k a0 a1).bind fun t225 => (some ((wrap64 ((wrap64 (t225 * a1)) + t222)) == a0)))) else ((fixed_Floor.f k a0 a1).bind fun t226 => (some ((wrap64 ((wrap64 (t226 * a1)) + t222)) == a0))))))) else (if a1 < 0 then (if t222 > 0 then (some false) else (if t222 ≤ a1 then (some false) else (if a1 = (-1) then (if t222 = 0 then (some true) else ((fixed_Floor.f k a0 a1).bind fun t227 => (some ((wrap64 ((wrap64 (t227 * a1)) + t222)) == a0)))) else ((fixed_Floor.f k a0 a1).bind fun t228 => (some ((wrap64 ((wrap64 (t228 * a1)) + t222)) == a0)))))) else (if a1 = (-1) then (if t222 = 0 then (some true) else ((fixed_Floor.f k a0 a1).bind fun t229 => (some ((wrap64 ((wrap64 (t229 * a1)) + t222)) == a0)))) else ((fixed_Floor.f k a0 a1).bind fun t230 => (some ((wrap64 ((wrap64 (t230 * a1)) + t222)) == a0)))))))) else (some false)) = some r := H
  have A3 := Aside0.mk A30
  clear A30
  by_cases c4 : t221 = true
  · subst c4
    have H1 : ((fixed_Mod.f k a0 a1).bind fun t222 => (if a1 = 0 then (some (t222 == 0)) else (if a1 > 0 then (if t222 < 0 then (some false) else (if t222 ≥ a1 then (some false) else (if a1 < 0 then (if t222 > 0 then (some false) else (if t222 ≤ a1 then (some false) else (if a1 = (-1) then (if t222 = 0 then (some true) else ((fixed_Floor.f k a0 a1).bind fun t223 => (some ((wrap64 ((wrap64 (t223 * a1)) + t222)) == a0)))) else ((fixed_Floor.f k a0 a1).bind fun t224 => (some ((wrap64 ((wrap64 (t224 * a1)) + t222)) == a0)))))) else (if a1 = (-1) then (if t222 = 0 then (some true) else ((fixed_Floor.f k a0 a1).bind fun t225 => (some ((wrap64 ((wrap64 (t225 * a1)) + t222)) == a0)))) else ((fixed_Floor.f k a0 a1).bind fun t226 => (some ((wrap64 ((wrap64 (t226 * a1)) + t222)) == a0))))))) else (if a1 < 0 then (if t222 > 0 then (some false) else (if t222 ≤ a1 then (some false) else (if a1 = (-1) then (if t222 = 0 then (some true) else ((fixed_Floor.f k a0 a1).bind fun t227 => (some ((wrap64 ((wrap64 (t227 * a1)) + t222)) == a0)))) else ((fixed_Floor.f k a0 a1).bind fun t228 => (some ((wrap64 ((wrap64 (t228 * a1)) + t222)) == a0)))))) else (if a1 = (-1) then (if t222 = 0 then (some true) else ((fixed_Floor.f k a0 a1).bind fun t229 => (some ((wrap64 ((wrap64 (t229 * a1)) + t222)) == a0)))) else ((fixed_Floor.f k a0 a1).bind fun t230 => (some ((wrap64 ((wrap64 (t230 * a1)) + t222)) == a0)))))))) = some r := by rw [if_pos rfl] at H; exact H
    clear H
    have H := H1
    clear H1
    replace H := Option.bind_eq_some_iff.mp H
    obtain ⟨t222, A50, H⟩ := H
    replace H : (if a1 = 0 then (some (t222 == 0)) else (if a1 > 0 then (if t222 < 0 then (some false) else (if t222 ≥ a1 then (some false) else (if a1 < 0 then (if t222 > 0 then (some false) else (if t222 ≤ a1 then (some false) else (if a1 = (-1) then (if t222 = 0 then (some true) else ((fixed_Floor.f k a0 a1).bind fun t223 => (some ((wrap64 ((wrap64 (t223 * a1)) + t222)) == a0)))) else ((fixed_Floor.f k a0 a1).bind fun t224 => (some ((wrap64 ((wrap64 (t224 * a1)) + t222)) == a0)))))) else (if a1 = (-1) then (if t222 = 0 then (some true) else ((fixed_Floor.f k a0 a1).bind fun t225 => (some ((wrap64 ((wrap64 (t225 * a1)) + t222)) == a0)))) else ((fixed_Floor.f k a0 a1).bind fun t226 => (some ((wrap64 ((wrap64 (t226 * a1)) + t222)) == a0))))))) else (if a1 < 0 then (if t222 > 0 then (some false) else (if t222 ≤ a1 then (some false) else (if a1 = (-1) then (if t222 = 0 then (some true) else ((fixed_Floor.f k a0 a1).bind fun t227 => (some ((wrap64 ((wrap64 (t227 * a1)) + t222)) == a0)))) else ((fixed_Floor.f k a0 a1).bind fun t228 => (some ((wrap64 ((wrap64 (t228 * a1)) + t222)) == a0)))))) else (if a1 = (-1) then (if t222 = 0 then (some true) else ((fixed_Floor.f k a0 a1).bind fun t229 => (some ((wrap64 ((wrap64 (t229 * a1)) + t222)) == a0)))) else ((fixed_Floor.f k a0 a1).bind fun t230 => (some ((wrap64 ((wrap64 (t230 * a1)) + t222)) == a0))))))) = some r := H
    have A5 := Aside0.mk A50
    clear A50
    by_cases c6 : a1 = 0
    · rw [if_pos c6] at H
      have c6b0 : (a1 == 0) = true := beq_iff_eq.mpr c6
      have c6b1 : (a1 != 0) = false := bne_eq_false_iff_eq.mpr c6
      clear c6
      obtain rfl := Option.some.inj H
      go_enter Try.func8, Try.ntmps8
      go_wp2_with (first | ((with_reducible refine gate_callee (f := 17) rfl ?_); refine goesL_ (some 6) rfl rfl Try.func17 (by kernel_rfl) rfl #[] rfl (by (try simp only [List.map_toArray, List.map_cons, List.map_nil]); first | done | rfl | (simp only [List.length_drop, List.length_take]; rfl)) ?_; (with_reducible refine (smaltolaw01_Lives.calls k  true _ A3.out).mono ?_); rintro e w' ⟨rfl, ⟨nd, rfl⟩⟩; refine ⟨_, rfl, ?_⟩) | ((with_reducible refine gate_callee (f := 22) rfl ?_); refine goesL_ (some 10) rfl rfl Try.func22 (by kernel_rfl) rfl #[.int .i64 a0, .int .i64 a1] rfl (by (try simp only [List.map_toArray, List.map_cons, List.map_nil]); first | done | rfl | (simp only [List.length_drop, List.length_take]; rfl)) ?_; (with_reducible refine (fixed_Mod.calls k a0 a1 t222 _ A5.out).mono ?_); rintro e w' ⟨rfl, ⟨nd, rfl⟩⟩; refine ⟨_, rfl, ?_⟩))
      go_ret
      exact ⟨by first | rfl | (simp; done) | (simp [*]; done), by repeat (first | exact Drawn0.refl _ | apply Drawn0.step)⟩
    · rw [if_neg c6] at H
      have c6b0 : (a1 == 0) = false := beq_eq_false_iff_ne.mpr c6
      have c6b1 : (a1 != 0) = true := bne_iff_ne.mpr c6
      by_cases c7 : a1 > 0
      · rw [if_pos c7] at H
        have c7b0 : decide (0 < a1) = true := decide_eq_true c7
        clear c7
        by_cases c8 : t222 < 0
        · rw [if_pos c8] at H
          have c8b0 : decide (t222 < 0) = true := decide_eq_true c8
          clear c8
          obtain rfl := Option.some.inj H
          go_enter Try.func8, Try.ntmps8
          go_wp2_with (first | ((with_reducible refine gate_callee (f := 17) rfl ?_); refine goesL_ (some 6) rfl rfl Try.func17 (by kernel_rfl) rfl #[] rfl (by (try simp only [List.map_toArray, List.map_cons, List.map_nil]); first | done | rfl | (simp only [List.length_drop, List.length_take]; rfl)) ?_; (with_reducible refine (smaltolaw01_Lives.calls k  true _ A3.out).mono ?_); rintro e w' ⟨rfl, ⟨nd, rfl⟩⟩; refine ⟨_, rfl, ?_⟩) | ((with_reducible refine gate_callee (f := 22) rfl ?_); refine goesL_ (some 10) rfl rfl Try.func22 (by kernel_rfl) rfl #[.int .i64 a0, .int .i64 a1] rfl (by (try simp only [List.map_toArray, List.map_cons, List.map_nil]); first | done | rfl | (simp only [List.length_drop, List.length_take]; rfl)) ?_; (with_reducible refine (fixed_Mod.calls k a0 a1 t222 _ A5.out).mono ?_); rintro e w' ⟨rfl, ⟨nd, rfl⟩⟩; refine ⟨_, rfl, ?_⟩))
          go_ret
          exact ⟨by first | rfl | (simp; done) | (simp [*]; done), by repeat (first | exact Drawn0.refl _ | apply Drawn0.step)⟩
        · rw [if_neg c8] at H
          have c8b0 : decide (t222 < 0) = false := decide_eq_false c8
          clear c8
          by_cases c9 : t222 ≥ a1
          · rw [if_pos c9] at H
            have c9b0 : decide (a1 ≤ t222) = true := decide_eq_true c9
            clear c9
            obtain rfl := Option.some.inj H
            go_enter Try.func8, Try.ntmps8
            go_wp2_with (first | ((with_reducible refine gate_callee (f := 17) rfl ?_); refine goesL_ (some 6) rfl rfl Try.func17 (by kernel_rfl) rfl #[] rfl (by (try simp only [List.map_toArray, List.map_cons, List.map_nil]); first | done | rfl | (simp only [List.length_drop, List.length_take]; rfl)) ?_; (with_reducible refine (smaltolaw01_Lives.calls k  true _ A3.out).mono ?_); rintro e w' ⟨rfl, ⟨nd, rfl⟩⟩; refine ⟨_, rfl, ?_⟩) | ((with_reducible refine gate_callee (f := 22) rfl ?_); refine goesL_ (some 10) rfl rfl Try.func22 (by kernel_rfl) rfl #[.int .i64 a0, .int .i64 a1] rfl (by (try simp only [List.map_toArray, List.map_cons, List.map_nil]); first | done | rfl | (simp only [List.length_drop, List.length_take]; rfl)) ?_; (with_reducible refine (fixed_Mod.calls k a0 a1 t222 _ A5.out).mono ?_); rintro e w' ⟨rfl, ⟨nd, rfl⟩⟩; refine ⟨_, rfl, ?_⟩))
            go_ret
            exact ⟨by first | rfl | (simp; done) | (simp [*]; done), by repeat (first | exact Drawn0.refl _ | apply Drawn0.step)⟩
          · rw [if_neg c9] at H
            have c9b0 : decide (a1 ≤ t222) = false := decide_eq_false c9
            clear c9
            by_cases c10 : a1 < 0
            · rw [if_pos c10] at H
              have c10b0 : decide (a1 < 0) = true := decide_eq_true c10
              clear c10
              by_cases c11 : t222 > 0
              · rw [if_pos c11] at H
                have c11b0 : decide (0 < t222) = true := decide_eq_true c11
                clear c11
                obtain rfl := Option.some.inj H
                go_enter Try.func8, Try.ntmps8
                go_wp2_with (first | ((with_reducible refine gate_callee (f := 17) rfl ?_); refine goesL_ (some 6) rfl rfl Try.func17 (by kernel_rfl) rfl #[] rfl (by (try simp only [List.map_toArray, List.map_cons, List.map_nil]); first | done | rfl | (simp only [List.length_drop, List.length_take]; rfl)) ?_; (with_reducible refine (smaltolaw01_Lives.calls k  true _ A3.out).mono ?_); rintro e w' ⟨rfl, ⟨nd, rfl⟩⟩; refine ⟨_, rfl, ?_⟩) | ((with_reducible refine gate_callee (f := 22) rfl ?_); refine goesL_ (some 10) rfl rfl Try.func22 (by kernel_rfl) rfl #[.int .i64 a0, .int .i64 a1] rfl (by (try simp only [List.map_toArray, List.map_cons, List.map_nil]); first | done | rfl | (simp only [List.length_drop, List.length_take]; rfl)) ?_; (with_reducible refine (fixed_Mod.calls k a0 a1 t222 _ A5.out).mono ?_); rintro e w' ⟨rfl, ⟨nd, rfl⟩⟩; refine ⟨_, rfl, ?_⟩))
                go_ret
                exact ⟨by first | rfl | (simp; done) | (simp [*]; done), by repeat (first | exact Drawn0.refl _ | apply Drawn0.step)⟩
              · rw [if_neg c11] at H
                have c11b0 : decide (0 < t222) = false := decide_eq_false c11
                clear c11
                by_cases c12 : t222 ≤ a1
                · rw [if_pos c12] at H
                  have c12b0 : decide (t222 ≤ a1) = true := decide_eq_true c12
                  clear c12
                  obtain rfl := Option.some.inj H
                  go_enter Try.func8, Try.ntmps8
                  go_wp2_with (first | ((with_reducible refine gate_callee (f := 17) rfl ?_); refine goesL_ (some 6) rfl rfl Try.func17 (by kernel_rfl) rfl #[] rfl (by (try simp only [List.map_toArray, List.map_cons, List.map_nil]); first | done | rfl | (simp only [List.length_drop, List.length_take]; rfl)) ?_; (with_reducible refine (smaltolaw01_Lives.calls k  true _ A3.out).mono ?_); rintro e w' ⟨rfl, ⟨nd, rfl⟩⟩; refine ⟨_, rfl, ?_⟩) | ((with_reducible refine gate_callee (f := 22) rfl ?_); refine goesL_ (some 10) rfl rfl Try.func22 (by kernel_rfl) rfl #[.int .i64 a0, .int .i64 a1] rfl (by (try simp only [List.map_toArray, List.map_cons, List.map_nil]); first | done | rfl | (simp only [List.length_drop, List.length_take]; rfl)) ?_; (with_reducible refine (fixed_Mod.calls k a0 a1 t222 _ A5.out).mono ?_); rintro e w' ⟨rfl, ⟨nd, rfl⟩⟩; refine ⟨_, rfl, ?_⟩))
                  go_ret
                  exact ⟨by first | rfl | (simp; done) | (simp [*]; done), by repeat (first | exact Drawn0.refl _ | apply Drawn0.step)⟩
                · rw [if_neg c12] at H
                  have c12b0 : decide (t222 ≤ a1) = false := decide_eq_false c12
                  clear c12
                  by_cases c13 : a1 = (-1)
                  · rw [if_pos c13] at H
                    have c13b0 : (a1 == (-1)) = true := beq_iff_eq.mpr c13
                    have c13b1 : (a1 != (-1)) = false := bne_eq_false_iff_eq.mpr c13
                    clear c13
                    by_cases c14 : t222 = 0
                    · rw [if_pos c14] at H
                      have c14b0 : (t222 == 0) = true := beq_iff_eq.mpr c14
                      have c14b1 : (t222 != 0) = false := bne_eq_false_iff_eq.mpr c14
                      clear c14
                      obtain rfl := Option.some.inj H
                      go_enter Try.func8, Try.ntmps8
                      go_wp2_with (first | ((with_reducible refine gate_callee (f := 17) rfl ?_); refine goesL_ (some 6) rfl rfl Try.func17 (by kernel_rfl) rfl #[] rfl (by (try simp only [List.map_toArray, List.map_cons, List.map_nil]); first | done | rfl | (simp only [List.length_drop, List.length_take]; rfl)) ?_; (with_reducible refine (smaltolaw01_Lives.calls k  true _ A3.out).mono ?_); rintro e w' ⟨rfl, ⟨nd, rfl⟩⟩; refine ⟨_, rfl, ?_⟩) | ((with_reducible refine gate_callee (f := 22) rfl ?_); refine goesL_ (some 10) rfl rfl Try.func22 (by kernel_rfl) rfl #[.int .i64 a0, .int .i64 a1] rfl (by (try simp only [List.map_toArray, List.map_cons, List.map_nil]); first | done | rfl | (simp only [List.length_drop, List.length_take]; rfl)) ?_; (with_reducible refine (fixed_Mod.calls k a0 a1 t222 _ A5.out).mono ?_); rintro e w' ⟨rfl, ⟨nd, rfl⟩⟩; refine ⟨_, rfl, ?_⟩))
                      go_ret
                      exact ⟨by first | rfl | (simp; done) | (simp [*]; done), by repeat (first | exact Drawn0.refl _ | apply Drawn0.step)⟩
                    · rw [if_neg c14] at H
                      have c14b0 : (t222 == 0) = false := beq_eq_false_iff_ne.mpr c14
                      have c14b1 : (t222 != 0) = true := bne_iff_ne.mpr c14
                      replace H := Option.bind_eq_some_iff.mp H
                      obtain ⟨t223, A150, H⟩ := H
                      replace H : (some ((wrap64 ((wrap64 (t223 * a1)) + t222)) == a0)) = some r := H
                      have A15 := Aside0.mk A150
                      clear A150
                      obtain rfl := Option.some.inj H
                      go_enter Try.func8, Try.ntmps8
                      go_wp2_with (first | ((with_reducible refine gate_callee (f := 17) rfl ?_); refine goesL_ (some 6) rfl rfl Try.func17 (by kernel_rfl) rfl #[] rfl (by (try simp only [List.map_toArray, List.map_cons, List.map_nil]); first | done | rfl | (simp only [List.length_drop, List.length_take]; rfl)) ?_; (with_reducible refine (smaltolaw01_Lives.calls k  true _ A3.out).mono ?_); rintro e w' ⟨rfl, ⟨nd, rfl⟩⟩; refine ⟨_, rfl, ?_⟩) | ((with_reducible refine gate_callee (f := 22) rfl ?_); refine goesL_ (some 10) rfl rfl Try.func22 (by kernel_rfl) rfl #[.int .i64 a0, .int .i64 a1] rfl (by (try simp only [List.map_toArray, List.map_cons, List.map_nil]); first | done | rfl | (simp only [List.length_drop, List.length_take]; rfl)) ?_; (with_reducible refine (fixed_Mod.calls k a0 a1 t222 _ A5.out).mono ?_); rintro e w' ⟨rfl, ⟨nd, rfl⟩⟩; refine ⟨_, rfl, ?_⟩) | (go_at_call 20; (with_reducible refine (fixed_Floor.calls k a0 a1 t223 _ A15.out).mono ?_); rintro e w' ⟨rfl, ⟨nd, rfl⟩⟩))
                      go_ret
                      exact ⟨by first | rfl | (simp; done) | (simp [*]; done), by repeat (first | exact Drawn0.refl _ | apply Drawn0.step)⟩
                  · rw [if_neg c13] at H
                    have c13b0 : (a1 == (-1)) = false := beq_eq_false_iff_ne.mpr c13
                    have c13b1 : (a1 != (-1)) = true := bne_iff_ne.mpr c13
                    replace H := Option.bind_eq_some_iff.mp H
                    obtain ⟨t224, A160, H⟩ := H
                    replace H : (some ((wrap64 ((wrap64 (t224 * a1)) + t222)) == a0)) = some r := H
                    have A16 := Aside0.mk A160
                    clear A160
                    obtain rfl := Option.some.inj H
                    go_enter Try.func8, Try.ntmps8
                    go_wp2_with (first | ((with_reducible refine gate_callee (f := 17) rfl ?_); refine goesL_ (some 6) rfl rfl Try.func17 (by kernel_rfl) rfl #[] rfl (by (try simp only [List.map_toArray, List.map_cons, List.map_nil]); first | done | rfl | (simp only [List.length_drop, List.length_take]; rfl)) ?_; (with_reducible refine (smaltolaw01_Lives.calls k  true _ A3.out).mono ?_); rintro e w' ⟨rfl, ⟨nd, rfl⟩⟩; refine ⟨_, rfl, ?_⟩) | ((with_reducible refine gate_callee (f := 22) rfl ?_); refine goesL_ (some 10) rfl rfl Try.func22 (by kernel_rfl) rfl #[.int .i64 a0, .int .i64 a1] rfl (by (try simp only [List.map_toArray, List.map_cons, List.map_nil]); first | done | rfl | (simp only [List.length_drop, List.length_take]; rfl)) ?_; (with_reducible refine (fixed_Mod.calls k a0 a1 t222 _ A5.out).mono ?_); rintro e w' ⟨rfl, ⟨nd, rfl⟩⟩; refine ⟨_, rfl, ?_⟩) | (go_at_call 20; (with_reducible refine (fixed_Floor.calls k a0 a1 t224 _ A16.out).mono ?_); rintro e w' ⟨rfl, ⟨nd, rfl⟩⟩))
                    go_ret
                    exact ⟨by first | rfl | (simp; done) | (simp [*]; done), by repeat (first | exact Drawn0.refl _ | apply Drawn0.step)⟩
            · rw [if_neg c10] at H
              have c10b0 : decide (a1 < 0) = false := decide_eq_false c10
              clear c10
              by_cases c17 : a1 = (-1)
              · rw [if_pos c17] at H
                have c17b0 : (a1 == (-1)) = true := beq_iff_eq.mpr c17
                have c17b1 : (a1 != (-1)) = false := bne_eq_false_iff_eq.mpr c17
                clear c17
                by_cases c18 : t222 = 0
                · rw [if_pos c18] at H
                  have c18b0 : (t222 == 0) = true := beq_iff_eq.mpr c18
                  have c18b1 : (t222 != 0) = false := bne_eq_false_iff_eq.mpr c18
                  clear c18
                  obtain rfl := Option.some.inj H
                  go_enter Try.func8, Try.ntmps8
                  go_wp2_with (first | ((with_reducible refine gate_callee (f := 17) rfl ?_); refine goesL_ (some 6) rfl rfl Try.func17 (by kernel_rfl) rfl #[] rfl (by (try simp only [List.map_toArray, List.map_cons, List.map_nil]); first | done | rfl | (simp only [List.length_drop, List.length_take]; rfl)) ?_; (with_reducible refine (smaltolaw01_Lives.calls k  true _ A3.out).mono ?_); rintro e w' ⟨rfl, ⟨nd, rfl⟩⟩; refine ⟨_, rfl, ?_⟩) | ((with_reducible refine gate_callee (f := 22) rfl ?_); refine goesL_ (some 10) rfl rfl Try.func22 (by kernel_rfl) rfl #[.int .i64 a0, .int .i64 a1] rfl (by (try simp only [List.map_toArray, List.map_cons, List.map_nil]); first | done | rfl | (simp only [List.length_drop, List.length_take]; rfl)) ?_; (with_reducible refine (fixed_Mod.calls k a0 a1 t222 _ A5.out).mono ?_); rintro e w' ⟨rfl, ⟨nd, rfl⟩⟩; refine ⟨_, rfl, ?_⟩))
                  go_ret
                  exact ⟨by first | rfl | (simp; done) | (simp [*]; done), by repeat (first | exact Drawn0.refl _ | apply Drawn0.step)⟩
                · rw [if_neg c18] at H
                  have c18b0 : (t222 == 0) = false := beq_eq_false_iff_ne.mpr c18
                  have c18b1 : (t222 != 0) = true := bne_iff_ne.mpr c18
                  replace H := Option.bind_eq_some_iff.mp H
                  obtain ⟨t225, A190, H⟩ := H
                  replace H : (some ((wrap64 ((wrap64 (t225 * a1)) + t222)) == a0)) = some r := H
                  have A19 := Aside0.mk A190
                  clear A190
                  obtain rfl := Option.some.inj H
                  go_enter Try.func8, Try.ntmps8
                  go_wp2_with (first | ((with_reducible refine gate_callee (f := 17) rfl ?_); refine goesL_ (some 6) rfl rfl Try.func17 (by kernel_rfl) rfl #[] rfl (by (try simp only [List.map_toArray, List.map_cons, List.map_nil]); first | done | rfl | (simp only [List.length_drop, List.length_take]; rfl)) ?_; (with_reducible refine (smaltolaw01_Lives.calls k  true _ A3.out).mono ?_); rintro e w' ⟨rfl, ⟨nd, rfl⟩⟩; refine ⟨_, rfl, ?_⟩) | ((with_reducible refine gate_callee (f := 22) rfl ?_); refine goesL_ (some 10) rfl rfl Try.func22 (by kernel_rfl) rfl #[.int .i64 a0, .int .i64 a1] rfl (by (try simp only [List.map_toArray, List.map_cons, List.map_nil]); first | done | rfl | (simp only [List.length_drop, List.length_take]; rfl)) ?_; (with_reducible refine (fixed_Mod.calls k a0 a1 t222 _ A5.out).mono ?_); rintro e w' ⟨rfl, ⟨nd, rfl⟩⟩; refine ⟨_, rfl, ?_⟩) | (go_at_call 20; (with_reducible refine (fixed_Floor.calls k a0 a1 t225 _ A19.out).mono ?_); rintro e w' ⟨rfl, ⟨nd, rfl⟩⟩))
                  go_ret
                  exact ⟨by first | rfl | (simp; done) | (simp [*]; done), by repeat (first | exact Drawn0.refl _ | apply Drawn0.step)⟩
              · rw [if_neg c17] at H
                have c17b0 : (a1 == (-1)) = false := beq_eq_false_iff_ne.mpr c17
                have c17b1 : (a1 != (-1)) = true := bne_iff_ne.mpr c17
                replace H := Option.bind_eq_some_iff.mp H
                obtain ⟨t226, A200, H⟩ := H
                replace H : (some ((wrap64 ((wrap64 (t226 * a1)) + t222)) == a0)) = some r := H
                have A20 := Aside0.mk A200
                clear A200
                obtain rfl := Option.some.inj H
                go_enter Try.func8, Try.ntmps8
                go_wp2_with (first | ((with_reducible refine gate_callee (f := 17) rfl ?_); refine goesL_ (some 6) rfl rfl Try.func17 (by kernel_rfl) rfl #[] rfl (by (try simp only [List.map_toArray, List.map_cons, List.map_nil]); first | done | rfl | (simp only [List.length_drop, List.length_take]; rfl)) ?_; (with_reducible refine (smaltolaw01_Lives.calls k  true _ A3.out).mono ?_); rintro e w' ⟨rfl, ⟨nd, rfl⟩⟩; refine ⟨_, rfl, ?_⟩) | ((with_reducible refine gate_callee (f := 22) rfl ?_); refine goesL_ (some 10) rfl rfl Try.func22 (by kernel_rfl) rfl #[.int .i64 a0, .int .i64 a1] rfl (by (try simp only [List.map_toArray, List.map_cons, List.map_nil]); first | done | rfl | (simp only [List.length_drop, List.length_take]; rfl)) ?_; (with_reducible refine (fixed_Mod.calls k a0 a1 t222 _ A5.out).mono ?_); rintro e w' ⟨rfl, ⟨nd, rfl⟩⟩; refine ⟨_, rfl, ?_⟩) | (go_at_call 20; (with_reducible refine (fixed_Floor.calls k a0 a1 t226 _ A20.out).mono ?_); rintro e w' ⟨rfl, ⟨nd, rfl⟩⟩))
                go_ret
                exact ⟨by first | rfl | (simp; done) | (simp [*]; done), by repeat (first | exact Drawn0.refl _ | apply Drawn0.step)⟩
      · rw [if_neg c7] at H
        have c7b0 : decide (0 < a1) = false := decide_eq_false c7
        clear c7
        by_cases c21 : a1 < 0
        · rw [if_pos c21] at H
          have c21b0 : decide (a1 < 0) = true := decide_eq_true c21
          clear c21
          by_cases c22 : t222 > 0
          · rw [if_pos c22] at H
            have c22b0 : decide (0 < t222) = true := decide_eq_true c22
            clear c22
            obtain rfl := Option.some.inj H
            go_enter Try.func8, Try.ntmps8
            go_wp2_with (first | ((with_reducible refine gate_callee (f := 17) rfl ?_); refine goesL_ (some 6) rfl rfl Try.func17 (by kernel_rfl) rfl #[] rfl (by (try simp only [List.map_toArray, List.map_cons, List.map_nil]); first | done | rfl | (simp only [List.length_drop, List.length_take]; rfl)) ?_; (with_reducible refine (smaltolaw01_Lives.calls k  true _ A3.out).mono ?_); rintro e w' ⟨rfl, ⟨nd, rfl⟩⟩; refine ⟨_, rfl, ?_⟩) | ((with_reducible refine gate_callee (f := 22) rfl ?_); refine goesL_ (some 10) rfl rfl Try.func22 (by kernel_rfl) rfl #[.int .i64 a0, .int .i64 a1] rfl (by (try simp only [List.map_toArray, List.map_cons, List.map_nil]); first | done | rfl | (simp only [List.length_drop, List.length_take]; rfl)) ?_; (with_reducible refine (fixed_Mod.calls k a0 a1 t222 _ A5.out).mono ?_); rintro e w' ⟨rfl, ⟨nd, rfl⟩⟩; refine ⟨_, rfl, ?_⟩))
            go_ret
            exact ⟨by first | rfl | (simp; done) | (simp [*]; done), by repeat (first | exact Drawn0.refl _ | apply Drawn0.step)⟩
          · rw [if_neg c22] at H
            have c22b0 : decide (0 < t222) = false := decide_eq_false c22
            clear c22
            by_cases c23 : t222 ≤ a1
            · rw [if_pos c23] at H
              have c23b0 : decide (t222 ≤ a1) = true := decide_eq_true c23
              clear c23
              obtain rfl := Option.some.inj H
              go_enter Try.func8, Try.ntmps8
              go_wp2_with (first | ((with_reducible refine gate_callee (f := 17) rfl ?_); refine goesL_ (some 6) rfl rfl Try.func17 (by kernel_rfl) rfl #[] rfl (by (try simp only [List.map_toArray, List.map_cons, List.map_nil]); first | done | rfl | (simp only [List.length_drop, List.length_take]; rfl)) ?_; (with_reducible refine (smaltolaw01_Lives.calls k  true _ A3.out).mono ?_); rintro e w' ⟨rfl, ⟨nd, rfl⟩⟩; refine ⟨_, rfl, ?_⟩) | ((with_reducible refine gate_callee (f := 22) rfl ?_); refine goesL_ (some 10) rfl rfl Try.func22 (by kernel_rfl) rfl #[.int .i64 a0, .int .i64 a1] rfl (by (try simp only [List.map_toArray, List.map_cons, List.map_nil]); first | done | rfl | (simp only [List.length_drop, List.length_take]; rfl)) ?_; (with_reducible refine (fixed_Mod.calls k a0 a1 t222 _ A5.out).mono ?_); rintro e w' ⟨rfl, ⟨nd, rfl⟩⟩; refine ⟨_, rfl, ?_⟩))
              go_ret
              exact ⟨by first | rfl | (simp; done) | (simp [*]; done), by repeat (first | exact Drawn0.refl _ | apply Drawn0.step)⟩
            · rw [if_neg c23] at H
              have c23b0 : decide (t222 ≤ a1) = false := decide_eq_false c23
              clear c23
              by_cases c24 : a1 = (-1)
              · rw [if_pos c24] at H
                have c24b0 : (a1 == (-1)) = true := beq_iff_eq.mpr c24
                have c24b1 : (a1 != (-1)) = false := bne_eq_false_iff_eq.mpr c24
                clear c24
                by_cases c25 : t222 = 0
                · rw [if_pos c25] at H
                  have c25b0 : (t222 == 0) = true := beq_iff_eq.mpr c25
                  have c25b1 : (t222 != 0) = false := bne_eq_false_iff_eq.mpr c25
                  clear c25
                  obtain rfl := Option.some.inj H
                  go_enter Try.func8, Try.ntmps8
                  go_wp2_with (first | ((with_reducible refine gate_callee (f := 17) rfl ?_); refine goesL_ (some 6) rfl rfl Try.func17 (by kernel_rfl) rfl #[] rfl (by (try simp only [List.map_toArray, List.map_cons, List.map_nil]); first | done | rfl | (simp only [List.length_drop, List.length_take]; rfl)) ?_; (with_reducible refine (smaltolaw01_Lives.calls k  true _ A3.out).mono ?_); rintro e w' ⟨rfl, ⟨nd, rfl⟩⟩; refine ⟨_, rfl, ?_⟩) | ((with_reducible refine gate_callee (f := 22) rfl ?_); refine goesL_ (some 10) rfl rfl Try.func22 (by kernel_rfl) rfl #[.int .i64 a0, .int .i64 a1] rfl (by (try simp only [List.map_toArray, List.map_cons, List.map_nil]); first | done | rfl | (simp only [List.length_drop, List.length_take]; rfl)) ?_; (with_reducible refine (fixed_Mod.calls k a0 a1 t222 _ A5.out).mono ?_); rintro e w' ⟨rfl, ⟨nd, rfl⟩⟩; refine ⟨_, rfl, ?_⟩))
                  go_ret
                  exact ⟨by first | rfl | (simp; done) | (simp [*]; done), by repeat (first | exact Drawn0.refl _ | apply Drawn0.step)⟩
                · rw [if_neg c25] at H
                  have c25b0 : (t222 == 0) = false := beq_eq_false_iff_ne.mpr c25
                  have c25b1 : (t222 != 0) = true := bne_iff_ne.mpr c25
                  replace H := Option.bind_eq_some_iff.mp H
                  obtain ⟨t227, A260, H⟩ := H
                  replace H : (some ((wrap64 ((wrap64 (t227 * a1)) + t222)) == a0)) = some r := H
                  have A26 := Aside0.mk A260
                  clear A260
                  obtain rfl := Option.some.inj H
                  go_enter Try.func8, Try.ntmps8
                  go_wp2_with (first | ((with_reducible refine gate_callee (f := 17) rfl ?_); refine goesL_ (some 6) rfl rfl Try.func17 (by kernel_rfl) rfl #[] rfl (by (try simp only [List.map_toArray, List.map_cons, List.map_nil]); first | done | rfl | (simp only [List.length_drop, List.length_take]; rfl)) ?_; (with_reducible refine (smaltolaw01_Lives.calls k  true _ A3.out).mono ?_); rintro e w' ⟨rfl, ⟨nd, rfl⟩⟩; refine ⟨_, rfl, ?_⟩) | ((with_reducible refine gate_callee (f := 22) rfl ?_); refine goesL_ (some 10) rfl rfl Try.func22 (by kernel_rfl) rfl #[.int .i64 a0, .int .i64 a1] rfl (by (try simp only [List.map_toArray, List.map_cons, List.map_nil]); first | done | rfl | (simp only [List.length_drop, List.length_take]; rfl)) ?_; (with_reducible refine (fixed_Mod.calls k a0 a1 t222 _ A5.out).mono ?_); rintro e w' ⟨rfl, ⟨nd, rfl⟩⟩; refine ⟨_, rfl, ?_⟩) | (go_at_call 20; (with_reducible refine (fixed_Floor.calls k a0 a1 t227 _ A26.out).mono ?_); rintro e w' ⟨rfl, ⟨nd, rfl⟩⟩))
                  go_ret
                  exact ⟨by first | rfl | (simp; done) | (simp [*]; done), by repeat (first | exact Drawn0.refl _ | apply Drawn0.step)⟩
              · rw [if_neg c24] at H
                have c24b0 : (a1 == (-1)) = false := beq_eq_false_iff_ne.mpr c24
                have c24b1 : (a1 != (-1)) = true := bne_iff_ne.mpr c24
                replace H := Option.bind_eq_some_iff.mp H
                obtain ⟨t228, A270, H⟩ := H
                replace H : (some ((wrap64 ((wrap64 (t228 * a1)) + t222)) == a0)) = some r := H
                have A27 := Aside0.mk A270
                clear A270
                obtain rfl := Option.some.inj H
                go_enter Try.func8, Try.ntmps8
                go_wp2_with (first | ((with_reducible refine gate_callee (f := 17) rfl ?_); refine goesL_ (some 6) rfl rfl Try.func17 (by kernel_rfl) rfl #[] rfl (by (try simp only [List.map_toArray, List.map_cons, List.map_nil]); first | done | rfl | (simp only [List.length_drop, List.length_take]; rfl)) ?_; (with_reducible refine (smaltolaw01_Lives.calls k  true _ A3.out).mono ?_); rintro e w' ⟨rfl, ⟨nd, rfl⟩⟩; refine ⟨_, rfl, ?_⟩) | ((with_reducible refine gate_callee (f := 22) rfl ?_); refine goesL_ (some 10) rfl rfl Try.func22 (by kernel_rfl) rfl #[.int .i64 a0, .int .i64 a1] rfl (by (try simp only [List.map_toArray, List.map_cons, List.map_nil]); first | done | rfl | (simp only [List.length_drop, List.length_take]; rfl)) ?_; (with_reducible refine (fixed_Mod.calls k a0 a1 t222 _ A5.out).mono ?_); rintro e w' ⟨rfl, ⟨nd, rfl⟩⟩; refine ⟨_, rfl, ?_⟩) | (go_at_call 20; (with_reducible refine (fixed_Floor.calls k a0 a1 t228 _ A27.out).mono ?_); rintro e w' ⟨rfl, ⟨nd, rfl⟩⟩))
                go_ret
                exact ⟨by first | rfl | (simp; done) | (simp [*]; done), by repeat (first | exact Drawn0.refl _ | apply Drawn0.step)⟩
        · rw [if_neg c21] at H
          have c21b0 : decide (a1 < 0) = false := decide_eq_false c21
          clear c21
          by_cases c28 : a1 = (-1)
          · rw [if_pos c28] at H
            have c28b0 : (a1 == (-1)) = true := beq_iff_eq.mpr c28
            have c28b1 : (a1 != (-1)) = false := bne_eq_false_iff_eq.mpr c28
            clear c28
            by_cases c29 : t222 = 0
            · rw [if_pos c29] at H
              have c29b0 : (t222 == 0) = true := beq_iff_eq.mpr c29
              have c29b1 : (t222 != 0) = false := bne_eq_false_iff_eq.mpr c29
              clear c29
              obtain rfl := Option.some.inj H
              go_enter Try.func8, Try.ntmps8
              go_wp2_with (first | ((with_reducible refine gate_callee (f := 17) rfl ?_); refine goesL_ (some 6) rfl rfl Try.func17 (by kernel_rfl) rfl #[] rfl (by (try simp only [List.map_toArray, List.map_cons, List.map_nil]); first | done | rfl | (simp only [List.length_drop, List.length_take]; rfl)) ?_; (with_reducible refine (smaltolaw01_Lives.calls k  true _ A3.out).mono ?_); rintro e w' ⟨rfl, ⟨nd, rfl⟩⟩; refine ⟨_, rfl, ?_⟩) | ((with_reducible refine gate_callee (f := 22) rfl ?_); refine goesL_ (some 10) rfl rfl Try.func22 (by kernel_rfl) rfl #[.int .i64 a0, .int .i64 a1] rfl (by (try simp only [List.map_toArray, List.map_cons, List.map_nil]); first | done | rfl | (simp only [List.length_drop, List.length_take]; rfl)) ?_; (with_reducible refine (fixed_Mod.calls k a0 a1 t222 _ A5.out).mono ?_); rintro e w' ⟨rfl, ⟨nd, rfl⟩⟩; refine ⟨_, rfl, ?_⟩))
              go_ret
              exact ⟨by first | rfl | (simp; done) | (simp [*]; done), by repeat (first | exact Drawn0.refl _ | apply Drawn0.step)⟩
            · rw [if_neg c29] at H
              have c29b0 : (t222 == 0) = false := beq_eq_false_iff_ne.mpr c29
              have c29b1 : (t222 != 0) = true := bne_iff_ne.mpr c29
              replace H := Option.bind_eq_some_iff.mp H
              obtain ⟨t229, A300, H⟩ := H
              replace H : (some ((wrap64 ((wrap64 (t229 * a1)) + t222)) == a0)) = some r := H
              have A30 := Aside0.mk A300
              clear A300
              obtain rfl := Option.some.inj H
              go_enter Try.func8, Try.ntmps8
              go_wp2_with (first | ((with_reducible refine gate_callee (f := 17) rfl ?_); refine goesL_ (some 6) rfl rfl Try.func17 (by kernel_rfl) rfl #[] rfl (by (try simp only [List.map_toArray, List.map_cons, List.map_nil]); first | done | rfl | (simp only [List.length_drop, List.length_take]; rfl)) ?_; (with_reducible refine (smaltolaw01_Lives.calls k  true _ A3.out).mono ?_); rintro e w' ⟨rfl, ⟨nd, rfl⟩⟩; refine ⟨_, rfl, ?_⟩) | ((with_reducible refine gate_callee (f := 22) rfl ?_); refine goesL_ (some 10) rfl rfl Try.func22 (by kernel_rfl) rfl #[.int .i64 a0, .int .i64 a1] rfl (by (try simp only [List.map_toArray, List.map_cons, List.map_nil]); first | done | rfl | (simp only [List.length_drop, List.length_take]; rfl)) ?_; (with_reducible refine (fixed_Mod.calls k a0 a1 t222 _ A5.out).mono ?_); rintro e w' ⟨rfl, ⟨nd, rfl⟩⟩; refine ⟨_, rfl, ?_⟩) | (go_at_call 20; (with_reducible refine (fixed_Floor.calls k a0 a1 t229 _ A30.out).mono ?_); rintro e w' ⟨rfl, ⟨nd, rfl⟩⟩))
              go_ret
              exact ⟨by first | rfl | (simp; done) | (simp [*]; done), by repeat (first | exact Drawn0.refl _ | apply Drawn0.step)⟩
          · rw [if_neg c28] at H
            have c28b0 : (a1 == (-1)) = false := beq_eq_false_iff_ne.mpr c28
            have c28b1 : (a1 != (-1)) = true := bne_iff_ne.mpr c28
            replace H := Option.bind_eq_some_iff.mp H
            obtain ⟨t230, A310, H⟩ := H
            replace H : (some ((wrap64 ((wrap64 (t230 * a1)) + t222)) == a0)) = some r := H
            have A31 := Aside0.mk A310
            clear A310
            obtain rfl := Option.some.inj H
            go_enter Try.func8, Try.ntmps8
            go_wp2_with (first | ((with_reducible refine gate_callee (f := 17) rfl ?_); refine goesL_ (some 6) rfl rfl Try.func17 (by kernel_rfl) rfl #[] rfl (by (try simp only [List.map_toArray, List.map_cons, List.map_nil]); first | done | rfl | (simp only [List.length_drop, List.length_take]; rfl)) ?_; (with_reducible refine (smaltolaw01_Lives.calls k  true _ A3.out).mono ?_); rintro e w' ⟨rfl, ⟨nd, rfl⟩⟩; refine ⟨_, rfl, ?_⟩) | ((with_reducible refine gate_callee (f := 22) rfl ?_); refine goesL_ (some 10) rfl rfl Try.func22 (by kernel_rfl) rfl #[.int .i64 a0, .int .i64 a1] rfl (by (try simp only [List.map_toArray, List.map_cons, List.map_nil]); first | done | rfl | (simp only [List.length_drop, List.length_take]; rfl)) ?_; (with_reducible refine (fixed_Mod.calls k a0 a1 t222 _ A5.out).mono ?_); rintro e w' ⟨rfl, ⟨nd, rfl⟩⟩; refine ⟨_, rfl, ?_⟩) | (go_at_call 20; (with_reducible refine (fixed_Floor.calls k a0 a1 t230 _ A31.out).mono ?_); rintro e w' ⟨rfl, ⟨nd, rfl⟩⟩))
            go_ret
            exact ⟨by first | rfl | (simp; done) | (simp [*]; done), by repeat (first | exact Drawn0.refl _ | apply Drawn0.step)⟩
  · replace c4 := Bool.eq_false_iff.mpr c4
    subst c4
    have H1 : (some false) = some r := by rw [if_neg (show ¬ (false = true) by decide)] at H; exact H
    clear H
    have H := H1
    clear H1
    obtain rfl := Option.some.inj H
    go_enter Try.func8, Try.ntmps8
    go_wp2_with (first | ((with_reducible refine gate_callee (f := 17) rfl ?_); refine goesL_ (some 6) rfl rfl Try.func17 (by kernel_rfl) rfl #[] rfl (by (try simp only [List.map_toArray, List.map_cons, List.map_nil]); first | done | rfl | (simp only [List.length_drop, List.length_take]; rfl)) ?_; (with_reducible refine (smaltolaw01_Lives.calls k  false _ A3.out).mono ?_); rintro e w' ⟨rfl, ⟨nd, rfl⟩⟩; refine ⟨_, rfl, ?_⟩))
    go_ret
    exact ⟨by first | rfl | (simp; done) | (simp [*]; done), by repeat (first | exact Drawn0.refl _ | apply Drawn0.step)⟩

/-- THE ONE PURE STATEMENT of smaltolaw01_FixedMods: yours. -/
def smaltolaw01_FixedMods.Pure : Prop := ∀ (a0 : Int) (a1 : Int), (Lit.int .i64 a0).wf = true → (Lit.int .i64 a1).wf = true → ∃ k, smaltolaw01_FixedMods.f k a0 a1 = some true
theorem smaltolaw01_FixedMods.walk (P : smaltolaw01_FixedMods.Pure) (a0 : Int) (a1 : Int) (w : World) (w0 : (Lit.int .i64 a0).wf = true) (w1 : (Lit.int .i64 a1).wf = true) :
    Calls Try.prog 8 #[.int .i64 a0, .int .i64 a1] w fun e w' => e = .returned (.bool true) ∧ Below w.heap.size w w' := by
  obtain ⟨k, h⟩ := P a0 a1 w0 w1
  refine (smaltolaw01_FixedMods.calls k a0 a1 true w h).mono ?_
  rintro e w' ⟨rfl, hd⟩
  exact ⟨rfl, hd.below⟩

end Go.Proofs.Ytofmgoihoaookaa.QA
