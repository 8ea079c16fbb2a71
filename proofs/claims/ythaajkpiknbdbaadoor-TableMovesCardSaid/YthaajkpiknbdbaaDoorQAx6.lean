-- Written by wip/tools/pp.py over the kit's print.py; not trusted: Lean checks it.
import Derived.Test.YthaajkpiknbdbaaDoorQAx0
namespace Go.Proofs.YthaajkpiknbdbaaDoor.QA
open Go.Proofs.YthaajkpiknbdbaaDoor.T
open Go.RowKit Go.Proofs.YthaajkpiknbdbaaDoorW.PrintWords Go.Proofs.YthaajkpiknbdbaaDoorW.PrintLast Go.Proofs.YthaajkpiknbdbaaDoorW.PrintMore
attribute [local go_sem] ext_call max2_int min2_int max_two min_two max_three min_three max_four min_four   -- for this text's walks alone
set_option linter.unusedVariables false
set_option linter.unusedSimpArgs false

/-! ### fixed_Shift: function 80 -/
def fixed_Shift.f (a0 : Int) (a1 : Int) : Option (Int) := if a1 ≤ 0 then (some a0) else (if a1 ≥ 64 then (some 0) else (if 0 ≤ a1 then (if 0 ≤ (wrap64 (a1 - 1)) then (some (wrap64 ((shr .i64 a0 a1) + (Go.bits .and .i64 (shr .i64 a0 (wrap64 (a1 - 1))) 1)))) else (none)) else (none)))
set_option maxHeartbeats 8000000 in
set_option maxRecDepth 100000 in
theorem fixed_Shift.calls (a0 : Int) (a1 : Int) (r : Int) (w : World) (h : fixed_Shift.f a0 a1 = some r) :
  Calls Tryd.prog 80 #[.int .i64 a0, .int .i64 a1] w fun e w' => e = .returned (.int .i64 r) ∧ Drawn0 w w' := by
 have H : (if a1 ≤ 0 then (some a0) else (if a1 ≥ 64 then (some 0) else (if 0 ≤ a1 then (if 0 ≤ (wrap64 (a1 - 1)) then (some (wrap64 ((shr .i64 a0 a1) + (Go.bits .and .i64 (shr .i64 a0 (wrap64 (a1 - 1))) 1)))) else (none)) else (none)))) = some r := h
 clear h
 by_cases c3 : a1 ≤ 0
 ·rw [if_pos c3] at H
  have c3b0 : decide (a1 ≤ 0) = true := decide_eq_true c3
  clear c3
  obtain rfl := Option.some.inj H
  go_enter Tryd.func80, Tryd.ntmps80
  go_wp2
  repeat (go_quiet (fail); try go_wp2)
  go_ret
  exact ⟨by first | rfl | (simp; done) | (simp [*]; done), by repeat (first | exact Drawn0.refl _ | apply Drawn0.step)⟩
 ·rw [if_neg c3] at H
  have c3b0 : decide (a1 ≤ 0) = false := decide_eq_false c3
  clear c3
  by_cases c4 : a1 ≥ 64
  ·rw [if_pos c4] at H
   have c4b0 : decide (64 ≤ a1) = true := decide_eq_true c4
   clear c4
   obtain rfl := Option.some.inj H
   go_enter Tryd.func80, Tryd.ntmps80
   go_wp2
   repeat (go_quiet (fail); try go_wp2)
   go_ret
   exact ⟨by first | rfl | (simp; done) | (simp [*]; done), by repeat (first | exact Drawn0.refl _ | apply Drawn0.step)⟩
  ·rw [if_neg c4] at H
   have c4b0 : decide (64 ≤ a1) = false := decide_eq_false c4
   clear c4
   by_cases c5 : 0 ≤ a1
   ·rw [if_pos c5] at H
    have c5b0 := eq_true c5
    have c5b1 : decide (0 ≤ a1) = true := decide_eq_true c5
    clear c5
    obtain ⟨ji6, hji6⟩ : ∃ j_ : Int, (shr .i64 a0 a1) = j_ := ⟨_, rfl⟩
    replace H : (if 0 ≤ (wrap64 (a1 - 1)) then (some (wrap64 ((ji6) + (Go.bits .and .i64 (shr .i64 a0 (wrap64 (a1 - 1))) 1)))) else (none)) = some r := by first | (rw [hji6] at H; exact H) | (simp only [hji6] at H ⊢; exact H)
    have hji6_ : (a0 / 2 ^ min a1.toNat 64) = ji6 := hji6
    have hji6z : a1 ≤ 64 → (a0 / 2 ^ a1.toNat) = ji6 := shr_small hji6
    obtain ⟨ji7, hji7⟩ : ∃ j_ : Int, (wrap64 (a1 - 1)) = j_ := ⟨_, rfl⟩
    replace H : (if 0 ≤ (ji7) then (some (wrap64 ((ji6) + (Go.bits .and .i64 (shr .i64 a0 (ji7)) 1)))) else (none)) = some r := by first | (rw [hji7] at H; exact H) | (simp only [hji7] at H ⊢; exact H)
    have hji7w : (IntKind.i64.wrap (a1 - 1)) = ji7 := (i64_w _).trans hji7
    by_cases c8 : 0 ≤ (ji7)
    ·rw [if_pos c8] at H
     have c8b0 := eq_true c8
     have c8b1 : decide (0 ≤ (ji7)) = true := decide_eq_true c8
     clear c8
     obtain ⟨ji9, hji9⟩ : ∃ j_ : Int, (shr .i64 a0 (ji7)) = j_ := ⟨_, rfl⟩
     replace H : (some (wrap64 ((ji6) + (Go.bits .and .i64 (ji9) 1)))) = some r := by first | (rw [hji9] at H; exact H) | (simp only [hji9] at H ⊢; exact H)
     have hji9_ : (a0 / 2 ^ min (ji7).toNat 64) = ji9 := hji9
     have hji9z : (ji7) ≤ 64 → (a0 / 2 ^ (ji7).toNat) = ji9 := shr_small hji9
     obtain rfl := Option.some.inj H
     go_enter Tryd.func80, Tryd.ntmps80
     go_wp2
     repeat (go_quiet (fail); try go_wp2)
     go_ret
     exact ⟨by first | rfl | (simp; done) | (simp only [← hji6, ← hji7, ← hji9] <;> (first | rfl | simp)) | (simp [*]; done), by repeat (first | exact Drawn0.refl _ | apply Drawn0.step)⟩
    ·rw [if_neg c8] at H
     exact absurd H (by simp)
   ·rw [if_neg c5] at H
    exact absurd H (by simp)

/-! ### sinc_May: function 83 -/
def sinc_May.f (a0 : Int) (a1 : Int) : Option (Bool) := if a1 ≥ 1 then (if a1 ≤ 1048576 then (if a0 ≥ (wrap64 ((-4) * a1)) then (some (decide (a0 ≤ (wrap64 (4 * a1))))) else (some false)) else (some false)) else (some false)
set_option maxHeartbeats 8000000 in
set_option maxRecDepth 100000 in
theorem sinc_May.calls (a0 : Int) (a1 : Int) (r : Bool) (w : World) (h : sinc_May.f a0 a1 = some r) :
  Calls Tryd.prog 83 #[.int .i64 a0, .int .i64 a1] w fun e w' => e = .returned (.bool r) ∧ Drawn0 w w' := by
 have H : (if a1 ≥ 1 then (if a1 ≤ 1048576 then (if a0 ≥ (wrap64 ((-4) * a1)) then (some (decide (a0 ≤ (wrap64 (4 * a1))))) else (some false)) else (some false)) else (some false)) = some r := h
 clear h
 by_cases c3 : a1 ≥ 1
 ·rw [if_pos c3] at H
  have c3b0 : decide (1 ≤ a1) = true := decide_eq_true c3
  clear c3
  by_cases c4 : a1 ≤ 1048576
  ·rw [if_pos c4] at H
   have c4b0 : decide (a1 ≤ 1048576) = true := decide_eq_true c4
   clear c4
   by_cases c5 : a0 ≥ (wrap64 ((-4) * a1))
   ·rw [if_pos c5] at H
    have c5b0 : decide ((wrap64 ((-4) * a1)) ≤ a0) = true := decide_eq_true c5
    clear c5
    obtain rfl := Option.some.inj H
    go_enter Tryd.func83, Tryd.ntmps83
    go_wp2
    go_ret
    exact ⟨by first | rfl | (simp; done) | (simp [*]; done), by repeat (first | exact Drawn0.refl _ | apply Drawn0.step)⟩
   ·rw [if_neg c5] at H
    have c5b0 : decide ((wrap64 ((-4) * a1)) ≤ a0) = false := decide_eq_false c5
    clear c5
    obtain rfl := Option.some.inj H
    go_enter Tryd.func83, Tryd.ntmps83
    go_wp2
    go_ret
    exact ⟨by first | rfl | (simp; done) | (simp [*]; done), by repeat (first | exact Drawn0.refl _ | apply Drawn0.step)⟩
  ·rw [if_neg c4] at H
   have c4b0 : decide (a1 ≤ 1048576) = false := decide_eq_false c4
   clear c4
   obtain rfl := Option.some.inj H
   go_enter Tryd.func83, Tryd.ntmps83
   go_wp2
   go_ret
   exact ⟨by first | rfl | (simp; done) | (simp [*]; done), by repeat (first | exact Drawn0.refl _ | apply Drawn0.step)⟩
 ·rw [if_neg c3] at H
  have c3b0 : decide (1 ≤ a1) = false := decide_eq_false c3
  clear c3
  obtain rfl := Option.some.inj H
  go_enter Tryd.func83, Tryd.ntmps83
  go_wp2
  go_ret
  exact ⟨by first | rfl | (simp; done) | (simp [*]; done), by repeat (first | exact Drawn0.refl _ | apply Drawn0.step)⟩

/-! ### sinc_size: function 84 -/
def sinc_size.f (a0 : Int) : Option (Int) := some (mx a0 (wrap64 (-a0)))
set_option maxHeartbeats 8000000 in
set_option maxRecDepth 100000 in
theorem sinc_size.calls (a0 : Int) (r : Int) (w : World) (h : sinc_size.f a0 = some r) :
  Calls Tryd.prog 84 #[.int .i64 a0] w fun e w' => e = .returned (.int .i64 r) ∧ Below w.heap.size w w' := by
 have HB := Aside0.mk (Below.refl w.heap.size w)
 have H : (some (mx a0 (wrap64 (-a0)))) = some r := h
 clear h
 obtain ⟨ji2, hji2⟩ : ∃ j_ : Int, (mx a0 (wrap64 (-a0))) = j_ := ⟨_, rfl⟩
 replace H : (some ji2) = some r := by first | (rw [hji2] at H; exact H) | (simp only [hji2] at H ⊢; exact H)
 have hji2_ : (if a0 < (wrap64 (-a0)) then (wrap64 (-a0)) else a0) = ji2 := hji2
 obtain rfl := Option.some.inj H
 go_enter Tryd.func84, Tryd.ntmps84
 go_wp2
 go_ret
 exact ⟨by first | rfl | (simp [errW_none, errW_some] <;> rfl) | (simp only [← hji2]; first | rfl | (simp [errW_none, errW_some] <;> rfl)) | (simp [*, errW_none, errW_some] <;> rfl), by repeat (first | (with_reducible first | exact HB.out | apply below_alloc | apply pw_below_drewN | apply below_drew1) | exact HB.out)⟩

/-! ### wide_shift: function 103 -/
def wide_shift.f (a0 : Int) (a1 : Int) (a2 : Int) : Option (Int × Int) := if a2 ≥ 64 then (if 0 ≤ (wrap64 (a2 - 64)) then (some (0, shr .u64 a0 (wrap64 (a2 - 64)))) else (none)) else (if 0 ≤ a2 then (if 0 ≤ (wrap64 (64 - a2)) then (some (shr .u64 a0 a2, Go.bits .or .u64 (shr .u64 a1 a2) (shl .u64 a0 (wrap64 (64 - a2))))) else (none)) else (none))
set_option maxHeartbeats 8000000 in
set_option maxRecDepth 100000 in
theorem wide_shift.calls (a0 : Int) (a1 : Int) (a2 : Int) (r1 : Int) (r2 : Int) (w : World) (h : wide_shift.f a0 a1 a2 = some (r1, r2)) :
  Calls Tryd.prog 103 #[.int .u64 a0, .int .u64 a1, .int .i64 a2] w fun e w' => e = .returned (.tuple #[.int .u64 r1, .int .u64 r2]) ∧ Drawn0 w w' := by
 have H : (if a2 ≥ 64 then (if 0 ≤ (wrap64 (a2 - 64)) then (some (0, shr .u64 a0 (wrap64 (a2 - 64)))) else (none)) else (if 0 ≤ a2 then (if 0 ≤ (wrap64 (64 - a2)) then (some (shr .u64 a0 a2, Go.bits .or .u64 (shr .u64 a1 a2) (shl .u64 a0 (wrap64 (64 - a2))))) else (none)) else (none))) = some (r1, r2) := h
 clear h
 by_cases c4 : a2 ≥ 64
 ·rw [if_pos c4] at H
  have c4b0 : decide (64 ≤ a2) = true := decide_eq_true c4
  clear c4
  obtain ⟨ji5, hji5⟩ : ∃ j_ : Int, (wrap64 (a2 - 64)) = j_ := ⟨_, rfl⟩
  replace H : (if 0 ≤ (ji5) then (some (0, shr .u64 a0 (ji5))) else (none)) = some (r1, r2) := by first | (rw [hji5] at H; exact H) | (simp only [hji5] at H ⊢; exact H)
  have hji5w : (IntKind.i64.wrap (a2 - 64)) = ji5 := (i64_w _).trans hji5
  by_cases c6 : 0 ≤ (ji5)
  ·rw [if_pos c6] at H
   have c6b0 := eq_true c6
   have c6b1 : decide (0 ≤ (ji5)) = true := decide_eq_true c6
   clear c6
   obtain ⟨ji7, hji7⟩ : ∃ j_ : Int, (shr .u64 a0 (ji5)) = j_ := ⟨_, rfl⟩
   replace H : (some (0, ji7)) = some (r1, r2) := by first | (rw [hji7] at H; exact H) | (simp only [hji7] at H ⊢; exact H)
   have hji7_ : (a0 / 2 ^ min (ji5).toNat 64) = ji7 := hji7
   have hji7z : (ji5) ≤ 64 → (a0 / 2 ^ (ji5).toNat) = ji7 := shr_small hji7
   simp only [Option.some.injEq, Prod.mk.injEq] at H
   obtain ⟨rfl, rfl⟩ := H
   go_enter Tryd.func103, Tryd.ntmps103
   go_wp2
   repeat (go_quiet (fail); try go_wp2)
   go_ret2
   exact ⟨by first | rfl | (simp; done) | (simp only [← hji5, ← hji7] <;> (first | rfl | simp)) | (simp [*]; done), by repeat (first | exact Drawn0.refl _ | apply Drawn0.step)⟩
  ·rw [if_neg c6] at H
   exact absurd H (by simp)
 ·rw [if_neg c4] at H
  have c4b0 : decide (64 ≤ a2) = false := decide_eq_false c4
  clear c4
  by_cases c8 : 0 ≤ a2
  ·rw [if_pos c8] at H
   have c8b0 := eq_true c8
   have c8b1 : decide (0 ≤ a2) = true := decide_eq_true c8
   clear c8
   obtain ⟨ji9, hji9⟩ : ∃ j_ : Int, (shr .u64 a0 a2) = j_ := ⟨_, rfl⟩
   replace H : (if 0 ≤ (wrap64 (64 - a2)) then (some (ji9, Go.bits .or .u64 (shr .u64 a1 a2) (shl .u64 a0 (wrap64 (64 - a2))))) else (none)) = some (r1, r2) := by first | (rw [hji9] at H; exact H) | (simp only [hji9] at H ⊢; exact H)
   have hji9_ : (a0 / 2 ^ min a2.toNat 64) = ji9 := hji9
   have hji9z : a2 ≤ 64 → (a0 / 2 ^ a2.toNat) = ji9 := shr_small hji9
   have c10b0 := eq_true (of_decide_eq_true (by first | (with_reducible assumption) | assumption) : 0 ≤ a2)
   obtain ⟨ji11, hji11⟩ : ∃ j_ : Int, (shr .u64 a1 a2) = j_ := ⟨_, rfl⟩
   replace H : (if 0 ≤ (wrap64 (64 - a2)) then (some (ji9, Go.bits .or .u64 (ji11) (shl .u64 a0 (wrap64 (64 - a2))))) else (none)) = some (r1, r2) := by first | (rw [hji11] at H; exact H) | (simp only [hji11] at H ⊢; exact H)
   have hji11_ : (a1 / 2 ^ min a2.toNat 64) = ji11 := hji11
   have hji11z : a2 ≤ 64 → (a1 / 2 ^ a2.toNat) = ji11 := shr_small hji11
   obtain ⟨ji12, hji12⟩ : ∃ j_ : Int, (wrap64 (64 - a2)) = j_ := ⟨_, rfl⟩
   replace H : (if 0 ≤ (ji12) then (some (ji9, Go.bits .or .u64 (ji11) (shl .u64 a0 (ji12)))) else (none)) = some (r1, r2) := by first | (rw [hji12] at H; exact H) | (simp only [hji12] at H ⊢; exact H)
   have hji12w : (IntKind.i64.wrap (64 - a2)) = ji12 := (i64_w _).trans hji12
   by_cases c13 : 0 ≤ (ji12)
   ·rw [if_pos c13] at H
    have c13b0 := eq_true c13
    have c13b1 : decide (0 ≤ (ji12)) = true := decide_eq_true c13
    clear c13
    obtain ⟨ji14, hji14⟩ : ∃ j_ : Int, (shl .u64 a0 (ji12)) = j_ := ⟨_, rfl⟩
    replace H : (some (ji9, Go.bits .or .u64 (ji11) (ji14))) = some (r1, r2) := by first | (rw [hji14] at H; exact H) | (simp only [hji14] at H ⊢; exact H)
    have hji14_ : (IntKind.u64.wrap (a0 * 2 ^ min (ji12).toNat 64)) = ji14 := hji14
    have hji14z : (ji12) ≤ 64 → (IntKind.u64.wrap (a0 * 2 ^ (ji12).toNat)) = ji14 := shl_small hji14
    simp only [Option.some.injEq, Prod.mk.injEq] at H
    obtain ⟨rfl, rfl⟩ := H
    go_enter Tryd.func103, Tryd.ntmps103
    go_wp2
    repeat (go_quiet (fail); try go_wp2)
    go_ret2
    exact ⟨by first | rfl | (simp; done) | (simp only [← hji9, ← hji11, ← hji12, ← hji14] <;> (first | rfl | simp)) | (simp [*]; done), by repeat (first | exact Drawn0.refl _ | apply Drawn0.step)⟩
   ·rw [if_neg c13] at H
    exact absurd H (by simp)
  ·rw [if_neg c8] at H
   exact absurd H (by simp)

/-! ### wide_exact: function 104 -/
def wide_exact.f (a0 : Int) (a1 : Int) (a2 : Int) : Option (Bool) := if a2 ≥ 64 then (if a1 = 0 then (if 0 ≤ (wrap64 (128 - a2)) then (some ((shl .u64 a0 (wrap64 (128 - a2))) == 0)) else (none)) else (some false)) else (if 0 ≤ (wrap64 (64 - a2)) then (some ((shl .u64 a1 (wrap64 (64 - a2))) == 0)) else (none))
set_option maxHeartbeats 8000000 in
set_option maxRecDepth 100000 in
theorem wide_exact.calls (a0 : Int) (a1 : Int) (a2 : Int) (r : Bool) (w : World) (h : wide_exact.f a0 a1 a2 = some r) :
  Calls Tryd.prog 104 #[.int .u64 a0, .int .u64 a1, .int .i64 a2] w fun e w' => e = .returned (.bool r) ∧ Drawn0 w w' := by
 have H : (if a2 ≥ 64 then (if a1 = 0 then (if 0 ≤ (wrap64 (128 - a2)) then (some ((shl .u64 a0 (wrap64 (128 - a2))) == 0)) else (none)) else (some false)) else (if 0 ≤ (wrap64 (64 - a2)) then (some ((shl .u64 a1 (wrap64 (64 - a2))) == 0)) else (none))) = some r := h
 clear h
 by_cases c4 : a2 ≥ 64
 ·rw [if_pos c4] at H
  have c4b0 : decide (64 ≤ a2) = true := decide_eq_true c4
  clear c4
  by_cases c5 : a1 = 0
  ·rw [if_pos c5] at H
   have c5b0 : (a1 == 0) = true := beq_iff_eq.mpr c5
   have c5b1 : (a1 != 0) = false := bne_eq_false_iff_eq.mpr c5
   clear c5
   obtain ⟨ji6, hji6⟩ : ∃ j_ : Int, (wrap64 (128 - a2)) = j_ := ⟨_, rfl⟩
   replace H : (if 0 ≤ (ji6) then (some ((shl .u64 a0 (ji6)) == 0)) else (none)) = some r := by first | (rw [hji6] at H; exact H) | (simp only [hji6] at H ⊢; exact H)
   have hji6w : (IntKind.i64.wrap (128 - a2)) = ji6 := (i64_w _).trans hji6
   by_cases c7 : 0 ≤ (ji6)
   ·rw [if_pos c7] at H
    have c7b0 := eq_true c7
    have c7b1 : decide (0 ≤ (ji6)) = true := decide_eq_true c7
    clear c7
    obtain ⟨ji8, hji8⟩ : ∃ j_ : Int, (shl .u64 a0 (ji6)) = j_ := ⟨_, rfl⟩
    replace H : (some ((ji8) == 0)) = some r := by first | (rw [hji8] at H; exact H) | (simp only [hji8] at H ⊢; exact H)
    have hji8_ : (IntKind.u64.wrap (a0 * 2 ^ min (ji6).toNat 64)) = ji8 := hji8
    have hji8z : (ji6) ≤ 64 → (IntKind.u64.wrap (a0 * 2 ^ (ji6).toNat)) = ji8 := shl_small hji8
    obtain rfl := Option.some.inj H
    go_enter Tryd.func104, Tryd.ntmps104
    go_wp2
    go_ret
    exact ⟨by first | rfl | (simp; done) | (simp only [← hji6, ← hji8] <;> (first | rfl | simp)) | (simp [*]; done), by repeat (first | exact Drawn0.refl _ | apply Drawn0.step)⟩
   ·rw [if_neg c7] at H
    exact absurd H (by simp)
  ·rw [if_neg c5] at H
   have c5b0 : (a1 == 0) = false := beq_eq_false_iff_ne.mpr c5
   have c5b1 : (a1 != 0) = true := bne_iff_ne.mpr c5
   obtain rfl := Option.some.inj H
   go_enter Tryd.func104, Tryd.ntmps104
   go_wp2
   go_ret
   exact ⟨by first | rfl | (simp; done) | (simp [*]; done), by repeat (first | exact Drawn0.refl _ | apply Drawn0.step)⟩
 ·rw [if_neg c4] at H
  have c4b0 : decide (64 ≤ a2) = false := decide_eq_false c4
  clear c4
  obtain ⟨ji9, hji9⟩ : ∃ j_ : Int, (wrap64 (64 - a2)) = j_ := ⟨_, rfl⟩
  replace H : (if 0 ≤ (ji9) then (some ((shl .u64 a1 (ji9)) == 0)) else (none)) = some r := by first | (rw [hji9] at H; exact H) | (simp only [hji9] at H ⊢; exact H)
  have hji9w : (IntKind.i64.wrap (64 - a2)) = ji9 := (i64_w _).trans hji9
  by_cases c10 : 0 ≤ (ji9)
  ·rw [if_pos c10] at H
   have c10b0 := eq_true c10
   have c10b1 : decide (0 ≤ (ji9)) = true := decide_eq_true c10
   clear c10
   obtain ⟨ji11, hji11⟩ : ∃ j_ : Int, (shl .u64 a1 (ji9)) = j_ := ⟨_, rfl⟩
   replace H : (some ((ji11) == 0)) = some r := by first | (rw [hji11] at H; exact H) | (simp only [hji11] at H ⊢; exact H)
   have hji11_ : (IntKind.u64.wrap (a1 * 2 ^ min (ji9).toNat 64)) = ji11 := hji11
   have hji11z : (ji9) ≤ 64 → (IntKind.u64.wrap (a1 * 2 ^ (ji9).toNat)) = ji11 := shl_small hji11
   obtain rfl := Option.some.inj H
   go_enter Tryd.func104, Tryd.ntmps104
   go_wp2
   go_ret
   exact ⟨by first | rfl | (simp; done) | (simp only [← hji9, ← hji11] <;> (first | rfl | simp)) | (simp [*]; done), by repeat (first | exact Drawn0.refl _ | apply Drawn0.step)⟩
  ·rw [if_neg c10] at H
   exact absurd H (by simp)

end Go.Proofs.YthaajkpiknbdbaaDoor.QA
