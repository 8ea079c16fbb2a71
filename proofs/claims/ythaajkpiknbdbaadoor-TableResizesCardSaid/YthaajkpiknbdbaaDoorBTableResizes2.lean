/- Joined by wip/tools/bundle.py out of: QAx1 QAx3 QAx10 QAx12 TCore S06P S06W. -/
import Derived.Test.YthaajkpiknbdbaaDoorBTableResizes1
import Derived.RowKit
import Derived.Laws.BitsLemmas
import Derived.Sort.Defs
import Derived.Sort.Row
import Derived.Sort.WalkC
import Derived.Test.YthaajkpiknbdbaaDoorProg
import Derived.Shelf.SlSortCmp.Kit1
import Derived.Sort.WalkA
import Derived.Sort.WalkB2
import Derived.Sort.WalkB12
import Derived.Deep.LoopGhost
import Derived.KernelRfl
namespace Go.Proofs.YthaajkpiknbdbaaDoor.QA
open Go.Proofs.YthaajkpiknbdbaaDoor.T
open Go.RowKit Go.Proofs.YthaajkpiknbdbaaDoorW.PrintWords Go.Proofs.YthaajkpiknbdbaaDoorW.PrintLast Go.Proofs.YthaajkpiknbdbaaDoorW.PrintMore
attribute [local go_sem] ext_call max2_int min2_int max_two min_two max_three min_three max_four min_four   -- for this text's walks alone
set_option linter.unusedVariables false
set_option linter.unusedSimpArgs false
def raw_Name_at0.f : Option (ByteArray) := some (⟨#[98, 111, 120]⟩ : ByteArray)
set_option maxHeartbeats 8000000 in
set_option maxRecDepth 100000 in
theorem raw_Name_at0.calls (r : ByteArray) (w : World) (hG : GL w) (h : raw_Name_at0.f = some r) :
  Calls Tryd.prog 24 #[.int .i64 0] w fun e w' => e = .returned (.string r) ∧ Drawn0 w w' := by
 have H : (some (⟨#[98, 111, 120]⟩ : ByteArray)) = some r := h
 clear h
 obtain ⟨h0_0, h0_1, h0_2, h0_3, h0_4, h0_5⟩ := hG
 obtain rfl := Option.some.inj H
 go_enter Tryd.func24, Tryd.ntmps24
 go_wp2
 go_ret
 exact ⟨zT, zW⟩
def raw_Name_at1.f : Option (ByteArray) := some (⟨#[99, 117, 98, 105, 99]⟩ : ByteArray)
set_option maxHeartbeats 8000000 in
set_option maxRecDepth 100000 in
theorem raw_Name_at1.calls (r : ByteArray) (w : World) (hG : GL w) (h : raw_Name_at1.f = some r) :
  Calls Tryd.prog 24 #[.int .i64 1] w fun e w' => e = .returned (.string r) ∧ Drawn0 w w' := by
 have H : (some (⟨#[99, 117, 98, 105, 99]⟩ : ByteArray)) = some r := h
 clear h
 obtain ⟨h0_0, h0_1, h0_2, h0_3, h0_4, h0_5⟩ := hG
 obtain rfl := Option.some.inj H
 go_enter Tryd.func24, Tryd.ntmps24
 go_wp2
 go_ret
 exact ⟨zT, zW⟩
def raw_Name_at2.f : Option (ByteArray) := some (⟨#[108, 97, 110, 99, 122, 111, 115]⟩ : ByteArray)
set_option maxHeartbeats 8000000 in
set_option maxRecDepth 100000 in
theorem raw_Name_at2.calls (r : ByteArray) (w : World) (hG : GL w) (h : raw_Name_at2.f = some r) :
  Calls Tryd.prog 24 #[.int .i64 2] w fun e w' => e = .returned (.string r) ∧ Drawn0 w w' := by
 have H : (some (⟨#[108, 97, 110, 99, 122, 111, 115]⟩ : ByteArray)) = some r := h
 clear h
 obtain ⟨h0_0, h0_1, h0_2, h0_3, h0_4, h0_5⟩ := hG
 obtain rfl := Option.some.inj H
 go_enter Tryd.func24, Tryd.ntmps24
 go_wp2
 go_ret
 exact ⟨zT, zW⟩
def raw_Name_gen.f (a0 : Int) : Option (ByteArray) := if a0 < 0 then (some (⟨#[]⟩ : ByteArray)) else (if a0 ≥ 3 then (some (⟨#[]⟩ : ByteArray)) else (none))
set_option maxHeartbeats 8000000 in
set_option maxRecDepth 100000 in
theorem raw_Name_gen.calls (a0 : Int) (r : ByteArray) (w : World) (hG : GL w) (h : raw_Name_gen.f a0 = some r) :
  Calls Tryd.prog 24 #[.int .i64 a0] w fun e w' => e = .returned (.string r) ∧ Drawn0 w w' := by
 have H : (if a0 < 0 then (some (⟨#[]⟩ : ByteArray)) else (if a0 ≥ 3 then (some (⟨#[]⟩ : ByteArray)) else (none))) = some r := h
 clear h
 obtain ⟨h0_0, h0_1, h0_2, h0_3, h0_4, h0_5⟩ := hG
 by_cases c2 : a0 < 0
 ·rw [if_pos c2] at H
  have c2b0 : decide (a0 < 0) = true := decide_eq_true c2
  clear c2
  obtain rfl := Option.some.inj H
  go_enter Tryd.func24, Tryd.ntmps24
  go_wp2
  go_ret
  exact ⟨zT, zW⟩
 ·rw [if_neg c2] at H
  have c2b0 : decide (a0 < 0) = false := decide_eq_false c2
  clear c2
  by_cases c3 : a0 ≥ 3
  ·rw [if_pos c3] at H
   have c3b0 : decide (3 ≤ a0) = true := decide_eq_true c3
   clear c3
   obtain rfl := Option.some.inj H
   go_enter Tryd.func24, Tryd.ntmps24
   go_wp2
   go_ret
   exact ⟨zT, zW⟩
  ·rw [if_neg c3] at H
   exact absurd H (by simp)
def raw_Name.f (a0 : Int) : Option (ByteArray) := if a0 = 0 then raw_Name_at0.f else if a0 = 1 then raw_Name_at1.f else if a0 = 2 then raw_Name_at2.f else raw_Name_gen.f a0
theorem raw_Name.calls (a0 : Int) (r : ByteArray) (w : World) (hG : GL w) (h : raw_Name.f a0 = some r) :
  Calls Tryd.prog 24 #[.int .i64 a0] w fun e w' => e = .returned (.string r) ∧ Drawn0 w w' := by
 unfold raw_Name.f at h
 by_cases c0 : a0 = 0
 ·subst c0; exact raw_Name_at0.calls r w hG (by rw [if_pos rfl] at h; exact h)
 ·rw [if_neg c0] at h
  by_cases c1 : a0 = 1
  ·subst c1; exact raw_Name_at1.calls r w hG (by rw [if_pos rfl] at h; exact h)
  ·rw [if_neg c1] at h
   by_cases c2 : a0 = 2
   ·subst c2; exact raw_Name_at2.calls r w hG (by rw [if_pos rfl] at h; exact h)
   ·rw [if_neg c2] at h
    exact raw_Name_gen.calls a0 r w hG h
def table_side.f (a0 : Int) : Option (Bool) := if a0 ≥ 1 then (some (decide (a0 ≤ 65536))) else (some false)
set_option maxHeartbeats 8000000 in
set_option maxRecDepth 100000 in
theorem table_side.calls (a0 : Int) (r : Bool) (w : World) (h : table_side.f a0 = some r) :
  Calls Tryd.prog 25 #[.int .i64 a0] w fun e w' => e = .returned (.bool r) ∧ Drawn0 w w' := by
 have H : (if a0 ≥ 1 then (some (decide (a0 ≤ 65536))) else (some false)) = some r := h
 clear h
 by_cases c2 : a0 ≥ 1
 ·rw [if_pos c2] at H
  have c2b0 : decide (1 ≤ a0) = true := decide_eq_true c2
  clear c2
  obtain rfl := Option.some.inj H
  go_enter Tryd.func25, Tryd.ntmps25
  go_wp2
  go_ret
  exact ⟨zT, zW⟩
 ·rw [if_neg c2] at H
  have c2b0 : decide (1 ≤ a0) = false := decide_eq_false c2
  clear c2
  obtain rfl := Option.some.inj H
  go_enter Tryd.func25, Tryd.ntmps25
  go_wp2
  go_ret
  exact ⟨zT, zW⟩
def fixed_size.f (a0 : Int) : Option (Int) := if a0 < 0 then (some (IntKind.u64.wrap (-(IntKind.u64.wrap (a0))))) else (some (IntKind.u64.wrap (a0)))
set_option maxHeartbeats 8000000 in
set_option maxRecDepth 100000 in
theorem fixed_size.calls (a0 : Int) (r : Int) (w : World) (h : fixed_size.f a0 = some r) :
  Calls Tryd.prog 63 #[.int .i64 a0] w fun e w' => e = .returned (.int .u64 r) ∧ Drawn0 w w' := by
 have H : (if a0 < 0 then (some (IntKind.u64.wrap (-(IntKind.u64.wrap (a0))))) else (some (IntKind.u64.wrap (a0)))) = some r := h
 clear h
 by_cases c2 : a0 < 0
 ·rw [if_pos c2] at H
  have c2b0 : decide (a0 < 0) = true := decide_eq_true c2
  clear c2
  obtain rfl := Option.some.inj H
  go_enter Tryd.func63, Tryd.ntmps63
  go_wp2
  go_ret
  exact ⟨zT, zW⟩
 ·rw [if_neg c2] at H
  have c2b0 : decide (a0 < 0) = false := decide_eq_false c2
  clear c2
  obtain rfl := Option.some.inj H
  go_enter Tryd.func63, Tryd.ntmps63
  go_wp2
  go_ret
  exact ⟨zT, zW⟩
def fixed_hold.j0 : Nat → Int → Bool → Bool → Option (Int)
 | 0, _, _, _ => none
 | k + 1, x0, x1, x5 => if x5 = true then (some (-9223372036854775808)) else (if x1 = true then (some (wrap64 (-(wrap64 (x0))))) else (if x0 > 9223372036854775807 then (some 9223372036854775807) else (some (wrap64 (x0)))))
def fixed_hold.f (k : Nat) (a0 : Int) (a1 : Bool) : Option (Int) := if a1 = true then (fixed_hold.j0 k a0 a1 (decide (a0 ≥ 9223372036854775808))) else (fixed_hold.j0 k a0 a1 false)
theorem fixed_hold.mono_l : ∀ k, (∀ y0 y1 y2, LeO (fixed_hold.j0 k y0 y1 y2) (fixed_hold.j0 (k + 1) y0 y1 y2))
 | 0 => fun _ _ _ r h => by simp [fixed_hold.j0] at h
 | k + 1 => by
  have ih0 := fixed_hold.mono_l k
  ·intro y0 y1 y2
   unfold fixed_hold.j0
   repeat' (with_reducible first | exact ih0 _ _ _ | exact zM | refine LeO.ite ?_ ?_ | refine LeO.bind ?_ (fun _ => ?_))
theorem fixed_hold.mono : ∀ a0 a1 k, LeO (fixed_hold.f k a0 a1) (fixed_hold.f (k + 1) a0 a1) := by
 intro a0 a1 k
 have ih0 := fixed_hold.mono_l k
 unfold fixed_hold.f
 repeat' (with_reducible first | exact ih0 _ _ _ | exact zM | refine LeO.ite ?_ ?_ | refine LeO.bind ?_ (fun _ => ?_))
set_option maxHeartbeats 8000000 in
set_option maxRecDepth 100000 in
theorem fixed_hold.calls (k : Nat) (a0 : Int) (a1 : Bool) (r : Int) (w : World) (h : fixed_hold.f k a0 a1 = some r) :
  Calls Tryd.prog 64 #[.int .u64 a0, .bool a1] w fun e w' => e = .returned (.int .i64 r) ∧ Drawn0 w w' := by
 have H : (if a1 = true then (fixed_hold.j0 k a0 a1 (decide (a0 ≥ 9223372036854775808))) else (fixed_hold.j0 k a0 a1 false)) = some r := h
 clear h
 have HC3 := Aside0.mk H
 clear H
 go_enter Tryd.func64, Tryd.ntmps64
 go_upto_region 1 with (fail)
 go_cut [5] (fun v5 wc => ∃ (kq : Nat) (x5_2 : Bool), v5 = .bool x5_2 ∧ Aside0 (fixed_hold.j0 kq a0 a1 x5_2 = some r) ∧ Aside0 (kq ≤ k) ∧ Drawn0 w wc)
 case first =>
  have H := HC3.out
  clear HC3
  by_cases c4 : a1 = true
  ·subst c4
   have H1 := H; rw [if_pos rfl] at H1; try dsimp only at H1
   clear H
   have H := H1
   clear H1
   have H' := Aside0.mk H
   clear H
   go_wp2
   go_meet
   case rel => exact ⟨_, (decide (a0 ≥ 9223372036854775808)), zT, H', ⟨by first | omega | exact Nat.le_refl _⟩, zW⟩
  ·replace c4 := Bool.eq_false_iff.mpr c4
   subst c4
   have H1 := H; rw [if_neg (show ¬ (false = true) by decide)] at H1; try dsimp only at H1
   clear H
   have H := H1
   clear H1
   have H' := Aside0.mk H
   clear H
   go_wp2
   go_meet
   case rel => exact ⟨_, (false), zT, H', ⟨by first | omega | exact Nat.le_refl _⟩, zW⟩
 case rest =>
  clear HC3
  try clear p2
  try clear c4
  obtain ⟨kq, x5_2, rfl, HA, HJ2, ⟨mc2, rfl⟩⟩ := hcut
  cases kq with
  | zero => exact absurd HA.out (by simp [fixed_hold.j0])
  | succ kj2 =>
   have H := HA.out
   clear HA
   simp only [fixed_hold.j0] at H
   by_cases c5 : x5_2 = true
   ·subst c5
    have H1 := H; rw [if_pos rfl] at H1; try dsimp only at H1
    clear H
    have H := H1
    clear H1
    obtain rfl := Option.some.inj H
    go_wp2
    go_ret
    exact ⟨zT, zW⟩
   ·replace c5 := Bool.eq_false_iff.mpr c5
    subst c5
    have H1 := H; rw [if_neg (show ¬ (false = true) by decide)] at H1; try dsimp only at H1
    clear H
    have H := H1
    clear H1
    by_cases c6 : a1 = true
    ·subst c6
     have H1 := H; rw [if_pos rfl] at H1; try dsimp only at H1
     clear H
     have H := H1
     clear H1
     obtain rfl := Option.some.inj H
     go_wp2
     go_ret
     exact ⟨zT, zW⟩
    ·replace c6 := Bool.eq_false_iff.mpr c6
     subst c6
     have H1 := H; rw [if_neg (show ¬ (false = true) by decide)] at H1; try dsimp only at H1
     clear H
     have H := H1
     clear H1
     by_cases c7 : a0 > 9223372036854775807
     ·rw [if_pos c7] at H
      have c7b0 : decide (9223372036854775807 < a0) = true := decide_eq_true c7
      clear c7
      obtain rfl := Option.some.inj H
      go_wp2
      go_ret
      exact ⟨zT, zW⟩
     ·rw [if_neg c7] at H
      have c7b0 : decide (9223372036854775807 < a0) = false := decide_eq_false c7
      clear c7
      obtain rfl := Option.some.inj H
      go_wp2
      go_ret
      exact ⟨zT, zW⟩
def fixed_Floor.f (k : Nat) (a0 : Int) (a1 : Int) : Option (Int) := if a1 = 0 then (some 0) else ((fixed_size.f a0).bind fun t101 => ((fixed_size.f a1).bind fun t102 => (if t102 = 0 then (none) else (if ((decide (a0 < 0)) != (decide (a1 < 0))) = true then (if (Int.tmod t101 t102) = 0 then ((fixed_hold.f k (IntKind.u64.wrap (Int.tdiv t101 t102)) true).bind fun t103 => (some t103)) else ((fixed_hold.f k (IntKind.u64.wrap ((IntKind.u64.wrap (Int.tdiv t101 t102)) + 1)) true).bind fun t104 => (some t104))) else ((fixed_hold.f k (IntKind.u64.wrap (Int.tdiv t101 t102)) false).bind fun t105 => (some t105))))))
theorem fixed_Floor.mono : ∀ a0 a1 k, LeO (fixed_Floor.f k a0 a1) (fixed_Floor.f (k + 1) a0 a1) := by
 intro a0 a1 k
 unfold fixed_Floor.f
 repeat' (with_reducible first | exact fixed_hold.mono _ _ _ | exact zM | refine LeO.ite ?_ ?_ | refine LeO.bind ?_ (fun _ => ?_))
set_option maxHeartbeats 8000000 in
set_option maxRecDepth 100000 in
theorem fixed_Floor.calls (k : Nat) (a0 : Int) (a1 : Int) (r : Int) (w : World) (h : fixed_Floor.f k a0 a1 = some r) :
  Calls Tryd.prog 41 #[.int .i64 a0, .int .i64 a1] w fun e w' => e = .returned (.int .i64 r) ∧ Drawn0 w w' := by
 have H : (if a1 = 0 then (some 0) else ((fixed_size.f a0).bind fun t101 => ((fixed_size.f a1).bind fun t102 => (if t102 = 0 then (none) else (if ((decide (a0 < 0)) != (decide (a1 < 0))) = true then (if (Int.tmod t101 t102) = 0 then ((fixed_hold.f k (IntKind.u64.wrap (Int.tdiv t101 t102)) true).bind fun t103 => (some t103)) else ((fixed_hold.f k (IntKind.u64.wrap ((IntKind.u64.wrap (Int.tdiv t101 t102)) + 1)) true).bind fun t104 => (some t104))) else ((fixed_hold.f k (IntKind.u64.wrap (Int.tdiv t101 t102)) false).bind fun t105 => (some t105))))))) = some r := h
 clear h
 by_cases c3 : a1 = 0
 ·rw [if_pos c3] at H
  have c3b0 : (a1 == 0) = true := beq_iff_eq.mpr c3
  have c3b1 : (a1 != 0) = false := bne_eq_false_iff_eq.mpr c3
  clear c3
  obtain rfl := Option.some.inj H
  go_enter Tryd.func41, Tryd.ntmps41
  go_wp2
  repeat (go_quiet (fail); try go_wp2)
  go_ret
  exact ⟨zT, zW⟩
 ·rw [if_neg c3] at H
  have c3b0 : (a1 == 0) = false := beq_eq_false_iff_ne.mpr c3
  have c3b1 : (a1 != 0) = true := bne_iff_ne.mpr c3
  replace H := Option.bind_eq_some_iff.mp H
  obtain ⟨t101, A40, H⟩ := H
  try dsimp only at H
  have A4 := Aside0.mk A40
  clear A40
  replace H := Option.bind_eq_some_iff.mp H
  obtain ⟨t102, A50, H⟩ := H
  try dsimp only at H
  have A5 := Aside0.mk A50
  clear A50
  by_cases c6 : t102 = 0
  ·rw [if_pos c6] at H
   exact absurd H (by simp)
  ·rw [if_neg c6] at H
   have c6b0 : (t102 == 0) = false := beq_eq_false_iff_ne.mpr c6
   have c6b1 : (t102 != 0) = true := bne_iff_ne.mpr c6
   by_cases c7 : ((decide (a0 < 0)) != (decide (a1 < 0))) = true
   ·rw [if_pos c7] at H
    have c7b0 : ((decide (a0 < 0)) != (decide (a1 < 0))) = true := c7
    (try (have c7b1 : decide ((decide (a0 < 0)) = (decide (a1 < 0))) = false := by simpa using c7))
    (try (have c7b2 : ((decide (a0 < 0)) == (decide (a1 < 0))) = false := by simpa using c7))
    (try (have c7b3 : ¬ ((decide (a0 < 0)) = (decide (a1 < 0))) := by simpa using c7))
    clear c7
    by_cases c8 : (Int.tmod t101 t102) = 0
    ·rw [if_pos c8] at H
     have c8b0 : ((Int.tmod t101 t102) == 0) = true := beq_iff_eq.mpr c8
     have c8b1 : ((Int.tmod t101 t102) != 0) = false := bne_eq_false_iff_eq.mpr c8
     clear c8
     replace H := Option.bind_eq_some_iff.mp H
     obtain ⟨t103, A90, H⟩ := H
     try dsimp only at H
     have A9 := Aside0.mk A90
     clear A90
     obtain rfl := Option.some.inj H
     go_enter Tryd.func41, Tryd.ntmps41
     go_wp2_with (first | (go_at_call 63; (with_reducible refine (fixed_size.calls a0 t101 _ A4.out).mono ?_); rintro e w' ⟨rfl, ⟨nd, rfl⟩⟩; (try exact ⟨rfl, _, zN⟩)) | (go_at_call 63; (with_reducible refine (fixed_size.calls a1 t102 _ A5.out).mono ?_); rintro e w' ⟨rfl, ⟨nd, rfl⟩⟩; (try exact ⟨rfl, _, zN⟩)) | (go_at_call 64; (with_reducible refine (fixed_hold.calls k (IntKind.u64.wrap (Int.tdiv t101 t102)) true t103 _ A9.out).mono ?_); rintro e w' ⟨rfl, ⟨nd, rfl⟩⟩; (try exact ⟨rfl, _, zN⟩)))
     repeat (go_quiet (first | (go_at_call 63; (with_reducible refine (fixed_size.calls a0 t101 _ A4.out).mono ?_); rintro e w' ⟨rfl, ⟨nd, rfl⟩⟩; (try exact ⟨rfl, _, zN⟩)) | (go_at_call 63; (with_reducible refine (fixed_size.calls a1 t102 _ A5.out).mono ?_); rintro e w' ⟨rfl, ⟨nd, rfl⟩⟩; (try exact ⟨rfl, _, zN⟩)) | (go_at_call 64; (with_reducible refine (fixed_hold.calls k (IntKind.u64.wrap (Int.tdiv t101 t102)) true t103 _ A9.out).mono ?_); rintro e w' ⟨rfl, ⟨nd, rfl⟩⟩; (try exact ⟨rfl, _, zN⟩))); try go_wp2_with (first | (go_at_call 63; (with_reducible refine (fixed_size.calls a0 t101 _ A4.out).mono ?_); rintro e w' ⟨rfl, ⟨nd, rfl⟩⟩; (try exact ⟨rfl, _, zN⟩)) | (go_at_call 63; (with_reducible refine (fixed_size.calls a1 t102 _ A5.out).mono ?_); rintro e w' ⟨rfl, ⟨nd, rfl⟩⟩; (try exact ⟨rfl, _, zN⟩)) | (go_at_call 64; (with_reducible refine (fixed_hold.calls k (IntKind.u64.wrap (Int.tdiv t101 t102)) true t103 _ A9.out).mono ?_); rintro e w' ⟨rfl, ⟨nd, rfl⟩⟩; (try exact ⟨rfl, _, zN⟩))))
     go_ret
     exact ⟨zT, zW⟩
    ·rw [if_neg c8] at H
     have c8b0 : ((Int.tmod t101 t102) == 0) = false := beq_eq_false_iff_ne.mpr c8
     have c8b1 : ((Int.tmod t101 t102) != 0) = true := bne_iff_ne.mpr c8
     replace H := Option.bind_eq_some_iff.mp H
     obtain ⟨t104, A100, H⟩ := H
     try dsimp only at H
     have A10 := Aside0.mk A100
     clear A100
     obtain rfl := Option.some.inj H
     go_enter Tryd.func41, Tryd.ntmps41
     go_wp2_with (first | (go_at_call 63; (with_reducible refine (fixed_size.calls a0 t101 _ A4.out).mono ?_); rintro e w' ⟨rfl, ⟨nd, rfl⟩⟩; (try exact ⟨rfl, _, zN⟩)) | (go_at_call 63; (with_reducible refine (fixed_size.calls a1 t102 _ A5.out).mono ?_); rintro e w' ⟨rfl, ⟨nd, rfl⟩⟩; (try exact ⟨rfl, _, zN⟩)) | (go_at_call 64; (with_reducible refine (fixed_hold.calls k (IntKind.u64.wrap ((IntKind.u64.wrap (Int.tdiv t101 t102)) + 1)) true t104 _ A10.out).mono ?_); rintro e w' ⟨rfl, ⟨nd, rfl⟩⟩; (try exact ⟨rfl, _, zN⟩)))
     repeat (go_quiet (first | (go_at_call 63; (with_reducible refine (fixed_size.calls a0 t101 _ A4.out).mono ?_); rintro e w' ⟨rfl, ⟨nd, rfl⟩⟩; (try exact ⟨rfl, _, zN⟩)) | (go_at_call 63; (with_reducible refine (fixed_size.calls a1 t102 _ A5.out).mono ?_); rintro e w' ⟨rfl, ⟨nd, rfl⟩⟩; (try exact ⟨rfl, _, zN⟩)) | (go_at_call 64; (with_reducible refine (fixed_hold.calls k (IntKind.u64.wrap ((IntKind.u64.wrap (Int.tdiv t101 t102)) + 1)) true t104 _ A10.out).mono ?_); rintro e w' ⟨rfl, ⟨nd, rfl⟩⟩; (try exact ⟨rfl, _, zN⟩))); try go_wp2_with (first | (go_at_call 63; (with_reducible refine (fixed_size.calls a0 t101 _ A4.out).mono ?_); rintro e w' ⟨rfl, ⟨nd, rfl⟩⟩; (try exact ⟨rfl, _, zN⟩)) | (go_at_call 63; (with_reducible refine (fixed_size.calls a1 t102 _ A5.out).mono ?_); rintro e w' ⟨rfl, ⟨nd, rfl⟩⟩; (try exact ⟨rfl, _, zN⟩)) | (go_at_call 64; (with_reducible refine (fixed_hold.calls k (IntKind.u64.wrap ((IntKind.u64.wrap (Int.tdiv t101 t102)) + 1)) true t104 _ A10.out).mono ?_); rintro e w' ⟨rfl, ⟨nd, rfl⟩⟩; (try exact ⟨rfl, _, zN⟩))))
     go_ret
     exact ⟨zT, zW⟩
   ·rw [if_neg c7] at H
    have c7b0 : ((decide (a0 < 0)) != (decide (a1 < 0))) = false := by simpa using c7
    (try (have c7b1 : decide ((decide (a0 < 0)) = (decide (a1 < 0))) = true := by simpa using c7))
    (try (have c7b2 : ((decide (a0 < 0)) == (decide (a1 < 0))) = true := by simpa using c7))
    clear c7
    replace H := Option.bind_eq_some_iff.mp H
    obtain ⟨t105, A110, H⟩ := H
    try dsimp only at H
    have A11 := Aside0.mk A110
    clear A110
    obtain rfl := Option.some.inj H
    go_enter Tryd.func41, Tryd.ntmps41
    go_wp2_with (first | (go_at_call 63; (with_reducible refine (fixed_size.calls a0 t101 _ A4.out).mono ?_); rintro e w' ⟨rfl, ⟨nd, rfl⟩⟩; (try exact ⟨rfl, _, zN⟩)) | (go_at_call 63; (with_reducible refine (fixed_size.calls a1 t102 _ A5.out).mono ?_); rintro e w' ⟨rfl, ⟨nd, rfl⟩⟩; (try exact ⟨rfl, _, zN⟩)) | (go_at_call 64; (with_reducible refine (fixed_hold.calls k (IntKind.u64.wrap (Int.tdiv t101 t102)) false t105 _ A11.out).mono ?_); rintro e w' ⟨rfl, ⟨nd, rfl⟩⟩; (try exact ⟨rfl, _, zN⟩)))
    repeat (go_quiet (first | (go_at_call 63; (with_reducible refine (fixed_size.calls a0 t101 _ A4.out).mono ?_); rintro e w' ⟨rfl, ⟨nd, rfl⟩⟩; (try exact ⟨rfl, _, zN⟩)) | (go_at_call 63; (with_reducible refine (fixed_size.calls a1 t102 _ A5.out).mono ?_); rintro e w' ⟨rfl, ⟨nd, rfl⟩⟩; (try exact ⟨rfl, _, zN⟩)) | (go_at_call 64; (with_reducible refine (fixed_hold.calls k (IntKind.u64.wrap (Int.tdiv t101 t102)) false t105 _ A11.out).mono ?_); rintro e w' ⟨rfl, ⟨nd, rfl⟩⟩; (try exact ⟨rfl, _, zN⟩))); try go_wp2_with (first | (go_at_call 63; (with_reducible refine (fixed_size.calls a0 t101 _ A4.out).mono ?_); rintro e w' ⟨rfl, ⟨nd, rfl⟩⟩; (try exact ⟨rfl, _, zN⟩)) | (go_at_call 63; (with_reducible refine (fixed_size.calls a1 t102 _ A5.out).mono ?_); rintro e w' ⟨rfl, ⟨nd, rfl⟩⟩; (try exact ⟨rfl, _, zN⟩)) | (go_at_call 64; (with_reducible refine (fixed_hold.calls k (IntKind.u64.wrap (Int.tdiv t101 t102)) false t105 _ A11.out).mono ?_); rintro e w' ⟨rfl, ⟨nd, rfl⟩⟩; (try exact ⟨rfl, _, zN⟩))))
    go_ret
    exact ⟨zT, zW⟩
end Go.Proofs.YthaajkpiknbdbaaDoor.QA

namespace Go.Proofs.YthaajkpiknbdbaaDoor.QA
open Go.Proofs.YthaajkpiknbdbaaDoor.T
open Go.RowKit Go.Proofs.YthaajkpiknbdbaaDoorW.PrintWords Go.Proofs.YthaajkpiknbdbaaDoorW.PrintLast Go.Proofs.YthaajkpiknbdbaaDoorW.PrintMore
attribute [local go_sem] ext_call max2_int min2_int max_two min_two max_three min_three max_four min_four   -- for this text's walks alone
set_option linter.unusedVariables false
set_option linter.unusedSimpArgs false
def wide_size.f (a0 : Int) : Option (Int) := if a0 < 0 then (some (IntKind.u64.wrap (-(IntKind.u64.wrap (a0))))) else (some (IntKind.u64.wrap (a0)))
set_option maxHeartbeats 8000000 in
set_option maxRecDepth 100000 in
theorem wide_size.calls (a0 : Int) (r : Int) (w : World) (h : wide_size.f a0 = some r) :
  Calls Tryd.prog 76 #[.int .i64 a0] w fun e w' => e = .returned (.int .u64 r) ∧ Drawn0 w w' := by
 have H : (if a0 < 0 then (some (IntKind.u64.wrap (-(IntKind.u64.wrap (a0))))) else (some (IntKind.u64.wrap (a0)))) = some r := h
 clear h
 by_cases c2 : a0 < 0
 ·rw [if_pos c2] at H
  have c2b0 : decide (a0 < 0) = true := decide_eq_true c2
  clear c2
  obtain rfl := Option.some.inj H
  go_enter Tryd.func76, Tryd.ntmps76
  go_wp2
  go_ret
  exact ⟨zT, zW⟩
 ·rw [if_neg c2] at H
  have c2b0 : decide (a0 < 0) = false := decide_eq_false c2
  clear c2
  obtain rfl := Option.some.inj H
  go_enter Tryd.func76, Tryd.ntmps76
  go_wp2
  go_ret
  exact ⟨zT, zW⟩
def bits_Mul64.f (a0 : Int) (a1 : Int) : Option (Int × Int) := if 0 ≤ a0 ∧ a0 < 18446744073709551616 ∧ 0 ≤ a1 ∧ a1 < 18446744073709551616 then some (a0 * a1 / 18446744073709551616, a0 * a1 % 18446744073709551616) else none
theorem bits_Mul64.calls (a0 : Int) (a1 : Int) (r1 : Int) (r2 : Int) (w : World) (h : bits_Mul64.f a0 a1 = some (r1, r2)) :
  Calls Tryd.prog 101 #[.int .u64 a0, .int .u64 a1] w fun e w' => e = .returned (.tuple #[.int .u64 r1, .int .u64 r2]) ∧ Drawn0 w w' := by
 unfold bits_Mul64.f at h
 by_cases c : 0 ≤ a0 ∧ a0 < 18446744073709551616 ∧ 0 ≤ a1 ∧ a1 < 18446744073709551616
 ·rw [if_pos c] at h
  obtain ⟨h0, h1, h2, h3⟩ := c
  obtain ⟨rfl, rfl⟩ := Prod.mk.inj (Option.some.inj h)
  obtain ⟨x, rfl⟩ := Int.eq_ofNat_of_zero_le h0
  obtain ⟨y, rfl⟩ := Int.eq_ofNat_of_zero_le h2
  exact (Tryd.bits_Mul64 x y (by omega) (by omega) w).mono fun e w' ⟨he, hw⟩ => ⟨by rw [he]; congr 4, by rw [hw]; exact Drawn0.refl _⟩
 ·rw [if_neg c] at h; exact absurd h (by simp)
def wide_product.f (a0 : Int) (a1 : Int) : Option (Int × Int × Bool) := (wide_size.f a0).bind fun t120 => ((wide_size.f a1).bind fun t121 => ((bits_Mul64.f t120 t121).bind fun bt122 => (some (bt122.1, bt122.2, ((decide (a0 < 0)) != (decide (a1 < 0)))))))
set_option maxHeartbeats 8000000 in
set_option maxRecDepth 100000 in
theorem wide_product.calls (a0 : Int) (a1 : Int) (r1 : Int) (r2 : Int) (r3 : Bool) (w : World) (h : wide_product.f a0 a1 = some (r1, r2, r3)) :
  Calls Tryd.prog 75 #[.int .i64 a0, .int .i64 a1] w fun e w' => e = .returned (.tuple #[.int .u64 r1, .int .u64 r2, .bool r3]) ∧ Drawn0 w w' := by
 have H : ((wide_size.f a0).bind fun t120 => ((wide_size.f a1).bind fun t121 => ((bits_Mul64.f t120 t121).bind fun bt122 => (some (bt122.1, bt122.2, ((decide (a0 < 0)) != (decide (a1 < 0)))))))) = some (r1, r2, r3) := h
 clear h
 replace H := Option.bind_eq_some_iff.mp H
 obtain ⟨t120, A30, H⟩ := H
 try dsimp only at H
 have A3 := Aside0.mk A30
 clear A30
 replace H := Option.bind_eq_some_iff.mp H
 obtain ⟨t121, A40, H⟩ := H
 try dsimp only at H
 have A4 := Aside0.mk A40
 clear A40
 replace H := Option.bind_eq_some_iff.mp H
 obtain ⟨⟨t122, t123⟩, A50, H⟩ := H
 try dsimp only at H
 have A5 := Aside0.mk A50
 clear A50
 simp only [Option.some.injEq, Prod.mk.injEq] at H
 obtain ⟨rfl, rfl, rfl⟩ := H
 go_enter Tryd.func75, Tryd.ntmps75
 go_wp2_with (first | ((with_reducible refine gate_callee (f := 76) rfl ?_); refine goesL_ (some 9) rfl rfl Tryd.func76 (by kernel_rfl) rfl #[.int .i64 a0] rfl zL ?_; (with_reducible refine (wide_size.calls a0 t120 _ A3.out).mono ?_); rintro e w' ⟨rfl, ⟨nd, rfl⟩⟩; refine ⟨_, rfl, ?_⟩) | ((with_reducible refine gate_callee (f := 76) rfl ?_); refine goesL_ (some 11) rfl rfl Tryd.func76 (by kernel_rfl) rfl #[.int .i64 a1] rfl zL ?_; (with_reducible refine (wide_size.calls a1 t121 _ A4.out).mono ?_); rintro e w' ⟨rfl, ⟨nd, rfl⟩⟩; refine ⟨_, rfl, ?_⟩) | ((with_reducible refine gate_callee (f := 101) rfl ?_); refine goesL_ (some 12) rfl rfl Tryd.func101 (by kernel_rfl) rfl #[.int .u64 t120, .int .u64 t121] rfl zL ?_; (with_reducible refine (bits_Mul64.calls t120 t121 t122 t123 _ A5.out).mono ?_); rintro e w' ⟨rfl, ⟨nd, rfl⟩⟩; refine ⟨_, rfl, ?_⟩))
 go_ret3
 exact ⟨zT, zW⟩
def wide_signed.j0 : Nat → Int → Int → Bool → Bool → Option (Int)
 | 0, _, _, _, _ => none
 | k + 1, x0, x1, x2, x7 => if x7 = true then (some (-9223372036854775808)) else (if x2 = true then (some (wrap64 (IntKind.u64.wrap (-x1)))) else (if x0 > 0 then (some 9223372036854775807) else (if x1 > 9223372036854775807 then (some 9223372036854775807) else (some (wrap64 (x1))))))
def wide_signed.f (k : Nat) (a0 : Int) (a1 : Int) (a2 : Bool) : Option (Int) := if a2 = true then (if a0 > 0 then (wide_signed.j0 k a0 a1 a2 true) else (wide_signed.j0 k a0 a1 a2 (decide (a1 > 9223372036854775808)))) else (wide_signed.j0 k a0 a1 a2 false)
theorem wide_signed.mono_l : ∀ k, (∀ y0 y1 y2 y3, LeO (wide_signed.j0 k y0 y1 y2 y3) (wide_signed.j0 (k + 1) y0 y1 y2 y3))
 | 0 => fun _ _ _ _ r h => by simp [wide_signed.j0] at h
 | k + 1 => by
  have ih0 := wide_signed.mono_l k
  ·intro y0 y1 y2 y3
   unfold wide_signed.j0
   repeat' (with_reducible first | exact ih0 _ _ _ _ | exact zM | refine LeO.ite ?_ ?_ | refine LeO.bind ?_ (fun _ => ?_))
theorem wide_signed.mono : ∀ a0 a1 a2 k, LeO (wide_signed.f k a0 a1 a2) (wide_signed.f (k + 1) a0 a1 a2) := by
 intro a0 a1 a2 k
 have ih0 := wide_signed.mono_l k
 unfold wide_signed.f
 repeat' (with_reducible first | exact ih0 _ _ _ _ | exact zM | refine LeO.ite ?_ ?_ | refine LeO.bind ?_ (fun _ => ?_))
set_option maxHeartbeats 8000000 in
set_option maxRecDepth 100000 in
theorem wide_signed.calls (k : Nat) (a0 : Int) (a1 : Int) (a2 : Bool) (r : Int) (w : World) (h : wide_signed.f k a0 a1 a2 = some r) :
  Calls Tryd.prog 77 #[.int .u64 a0, .int .u64 a1, .bool a2] w fun e w' => e = .returned (.int .i64 r) ∧ Drawn0 w w' := by
 have H : (if a2 = true then (if a0 > 0 then (wide_signed.j0 k a0 a1 a2 true) else (wide_signed.j0 k a0 a1 a2 (decide (a1 > 9223372036854775808)))) else (wide_signed.j0 k a0 a1 a2 false)) = some r := h
 clear h
 have HC4 := Aside0.mk H
 clear H
 go_enter Tryd.func77, Tryd.ntmps77
 go_upto_region 1 with (fail)
 go_cut [7] (fun v7 wc => ∃ (kq : Nat) (x7_3 : Bool), v7 = .bool x7_3 ∧ Aside0 (wide_signed.j0 kq a0 a1 a2 x7_3 = some r) ∧ Aside0 (kq ≤ k) ∧ Drawn0 w wc)
 case first =>
  have H := HC4.out
  clear HC4
  by_cases c5 : a2 = true
  ·subst c5
   have H1 := H; rw [if_pos rfl] at H1; try dsimp only at H1
   clear H
   have H := H1
   clear H1
   by_cases c6 : a0 > 0
   ·rw [if_pos c6] at H
    have c6b0 : decide (0 < a0) = true := decide_eq_true c6
    clear c6
    (first | rw [c6b0] | (simp only [i64_w, i32_w]; rw [c6b0]) | skip)
    have H' := Aside0.mk H
    clear H
    go_wp2
    go_meet
    case rel => exact ⟨_, (true), zT, H', ⟨by first | omega | exact Nat.le_refl _⟩, zW⟩
   ·rw [if_neg c6] at H
    have c6b0 : decide (0 < a0) = false := decide_eq_false c6
    clear c6
    (first | rw [c6b0] | (simp only [i64_w, i32_w]; rw [c6b0]) | skip)
    have H' := Aside0.mk H
    clear H
    go_wp2
    go_meet
    case rel => exact ⟨_, (decide (a1 > 9223372036854775808)), zT, H', ⟨by first | omega | exact Nat.le_refl _⟩, zW⟩
  ·replace c5 := Bool.eq_false_iff.mpr c5
   subst c5
   have H1 := H; rw [if_neg (show ¬ (false = true) by decide)] at H1; try dsimp only at H1
   clear H
   have H := H1
   clear H1
   have H' := Aside0.mk H
   clear H
   go_wp2
   go_meet
   case rel => exact ⟨_, (false), zT, H', ⟨by first | omega | exact Nat.le_refl _⟩, zW⟩
 case rest =>
  clear HC4
  try clear p2
  try clear c5
  try clear c6
  try clear c6b0
  obtain ⟨kq, x7_3, rfl, HA, HJ3, ⟨mc3, rfl⟩⟩ := hcut
  cases kq with
  | zero => exact absurd HA.out (by simp [wide_signed.j0])
  | succ kj3 =>
   have H := HA.out
   clear HA
   simp only [wide_signed.j0] at H
   by_cases c7 : x7_3 = true
   ·subst c7
    have H1 := H; rw [if_pos rfl] at H1; try dsimp only at H1
    clear H
    have H := H1
    clear H1
    obtain rfl := Option.some.inj H
    go_wp2
    go_ret
    exact ⟨zT, zW⟩
   ·replace c7 := Bool.eq_false_iff.mpr c7
    subst c7
    have H1 := H; rw [if_neg (show ¬ (false = true) by decide)] at H1; try dsimp only at H1
    clear H
    have H := H1
    clear H1
    by_cases c8 : a2 = true
    ·subst c8
     have H1 := H; rw [if_pos rfl] at H1; try dsimp only at H1
     clear H
     have H := H1
     clear H1
     obtain rfl := Option.some.inj H
     go_wp2
     go_ret
     exact ⟨zT, zW⟩
    ·replace c8 := Bool.eq_false_iff.mpr c8
     subst c8
     have H1 := H; rw [if_neg (show ¬ (false = true) by decide)] at H1; try dsimp only at H1
     clear H
     have H := H1
     clear H1
     by_cases c9 : a0 > 0
     ·rw [if_pos c9] at H
      have c9b0 : decide (0 < a0) = true := decide_eq_true c9
      clear c9
      obtain rfl := Option.some.inj H
      go_wp2
      go_ret
      exact ⟨zT, zW⟩
     ·rw [if_neg c9] at H
      have c9b0 : decide (0 < a0) = false := decide_eq_false c9
      clear c9
      by_cases c10 : a1 > 9223372036854775807
      ·rw [if_pos c10] at H
       have c10b0 : decide (9223372036854775807 < a1) = true := decide_eq_true c10
       clear c10
       obtain rfl := Option.some.inj H
       go_wp2
       go_ret
       exact ⟨zT, zW⟩
      ·rw [if_neg c10] at H
       have c10b0 : decide (9223372036854775807 < a1) = false := decide_eq_false c10
       clear c10
       obtain rfl := Option.some.inj H
       go_wp2
       go_ret
       exact ⟨zT, zW⟩
def bits_LeadingZeros64.f (a0 : Int) : Option (Int) := if 0 ≤ a0 then (if a0 ≤ 18446744073709551615 then (some (64 - (Lib.bitLen a0.toNat : Int))) else (none)) else (none)
theorem bits_LeadingZeros64.calls (a0 : Int) (r : Int) (w : World) (h : bits_LeadingZeros64.f a0 = some r) :
  Calls Tryd.prog 102 #[.int .u64 a0] w fun e w' => e = .returned (.int .i64 r) ∧ Drawn0 w w' := by
 unfold bits_LeadingZeros64.f at h
 by_cases h0 : 0 ≤ a0
 ·rw [if_pos h0] at h
  by_cases h1 : a0 ≤ 18446744073709551615
  ·rw [if_pos h1] at h
   obtain rfl := Option.some.inj h
   exact (Tryd.bits_LeadingZeros64 a0 w h0 h1).mono fun e w' ⟨he, hw⟩ => ⟨he, by rw [hw]; exact Drawn0.refl _⟩
  ·rw [if_neg h1] at h; exact absurd h (by simp)
 ·rw [if_neg h0] at h; exact absurd h (by simp)
end Go.Proofs.YthaajkpiknbdbaaDoor.QA

namespace Go.Proofs.YthaajkpiknbdbaaDoor.QA
open Go.Proofs.YthaajkpiknbdbaaDoor.T
open Go.RowKit Go.Proofs.YthaajkpiknbdbaaDoorW.PrintWords Go.Proofs.YthaajkpiknbdbaaDoorW.PrintLast Go.Proofs.YthaajkpiknbdbaaDoorW.PrintMore
attribute [local go_sem] ext_call max2_int min2_int max_two min_two max_three min_three max_four min_four   -- for this text's walks alone
set_option linter.unusedVariables false
set_option linter.unusedSimpArgs false
def fixed_Mul.f (k : Nat) (a0 : Int) (a1 : Int) : Option (Int) := (fixed_size.f a0).bind fun t168 => ((fixed_size.f a1).bind fun t169 => ((bits_Mul64.f t168 t169).bind fun bt170 => (if bt170.1 = 0 then ((fixed_hold.f k bt170.2 ((decide (a0 < 0)) != (decide (a1 < 0)))).bind fun t172 => (some t172)) else ((fixed_hold.f k 18446744073709551615 ((decide (a0 < 0)) != (decide (a1 < 0)))).bind fun t173 => (some t173)))))
theorem fixed_Mul.mono : ∀ a0 a1 k, LeO (fixed_Mul.f k a0 a1) (fixed_Mul.f (k + 1) a0 a1) := by
 intro a0 a1 k
 unfold fixed_Mul.f
 repeat' (with_reducible first | exact fixed_hold.mono _ _ _ | exact zM | refine LeO.ite ?_ ?_ | refine LeO.bind ?_ (fun _ => ?_))
set_option maxHeartbeats 8000000 in
set_option maxRecDepth 100000 in
theorem fixed_Mul.calls (k : Nat) (a0 : Int) (a1 : Int) (r : Int) (w : World) (h : fixed_Mul.f k a0 a1 = some r) :
  Calls Tryd.prog 88 #[.int .i64 a0, .int .i64 a1] w fun e w' => e = .returned (.int .i64 r) ∧ Drawn0 w w' := by
 have H : ((fixed_size.f a0).bind fun t168 => ((fixed_size.f a1).bind fun t169 => ((bits_Mul64.f t168 t169).bind fun bt170 => (if bt170.1 = 0 then ((fixed_hold.f k bt170.2 ((decide (a0 < 0)) != (decide (a1 < 0)))).bind fun t172 => (some t172)) else ((fixed_hold.f k 18446744073709551615 ((decide (a0 < 0)) != (decide (a1 < 0)))).bind fun t173 => (some t173)))))) = some r := h
 clear h
 replace H := Option.bind_eq_some_iff.mp H
 obtain ⟨t168, A30, H⟩ := H
 try dsimp only at H
 have A3 := Aside0.mk A30
 clear A30
 replace H := Option.bind_eq_some_iff.mp H
 obtain ⟨t169, A40, H⟩ := H
 try dsimp only at H
 have A4 := Aside0.mk A40
 clear A40
 replace H := Option.bind_eq_some_iff.mp H
 obtain ⟨⟨t170, t171⟩, A50, H⟩ := H
 try dsimp only at H
 have A5 := Aside0.mk A50
 clear A50
 by_cases c6 : t170 = 0
 ·rw [if_pos c6] at H
  have c6b0 : (t170 == 0) = true := beq_iff_eq.mpr c6
  have c6b1 : (t170 != 0) = false := bne_eq_false_iff_eq.mpr c6
  clear c6
  replace H := Option.bind_eq_some_iff.mp H
  obtain ⟨t172, A70, H⟩ := H
  try dsimp only at H
  have A7 := Aside0.mk A70
  clear A70
  obtain rfl := Option.some.inj H
  go_enter Tryd.func88, Tryd.ntmps88
  go_wp2_with (first | ((with_reducible refine gate_callee (f := 63) rfl ?_); refine goesL_ (some 9) rfl rfl Tryd.func63 (by kernel_rfl) rfl #[.int .i64 a0] rfl zL ?_; (with_reducible refine (fixed_size.calls a0 t168 _ A3.out).mono ?_); rintro e w' ⟨rfl, ⟨nd, rfl⟩⟩; refine ⟨_, rfl, ?_⟩) | ((with_reducible refine gate_callee (f := 63) rfl ?_); refine goesL_ (some 11) rfl rfl Tryd.func63 (by kernel_rfl) rfl #[.int .i64 a1] rfl zL ?_; (with_reducible refine (fixed_size.calls a1 t169 _ A4.out).mono ?_); rintro e w' ⟨rfl, ⟨nd, rfl⟩⟩; refine ⟨_, rfl, ?_⟩) | ((with_reducible refine gate_callee (f := 101) rfl ?_); refine goesL_ (some 12) rfl rfl Tryd.func101 (by kernel_rfl) rfl #[.int .u64 t168, .int .u64 t169] rfl zL ?_; (with_reducible refine (bits_Mul64.calls t168 t169 t170 t171 _ A5.out).mono ?_); rintro e w' ⟨rfl, ⟨nd, rfl⟩⟩; refine ⟨_, rfl, ?_⟩) | ((with_reducible refine gate_callee (f := 64) rfl ?_); refine goesL_ (some 23) rfl rfl Tryd.func64 (by kernel_rfl) rfl #[.int .u64 t171, .bool ((decide (a0 < 0)) != (decide (a1 < 0)))] rfl zL ?_; (with_reducible refine (fixed_hold.calls k t171 ((decide (a0 < 0)) != (decide (a1 < 0))) t172 _ A7.out).mono ?_); rintro e w' ⟨rfl, ⟨nd, rfl⟩⟩; refine ⟨_, rfl, ?_⟩))
  go_ret
  exact ⟨zT, zW⟩
 ·rw [if_neg c6] at H
  have c6b0 : (t170 == 0) = false := beq_eq_false_iff_ne.mpr c6
  have c6b1 : (t170 != 0) = true := bne_iff_ne.mpr c6
  replace H := Option.bind_eq_some_iff.mp H
  obtain ⟨t173, A80, H⟩ := H
  try dsimp only at H
  have A8 := Aside0.mk A80
  clear A80
  obtain rfl := Option.some.inj H
  go_enter Tryd.func88, Tryd.ntmps88
  go_wp2_with (first | ((with_reducible refine gate_callee (f := 63) rfl ?_); refine goesL_ (some 9) rfl rfl Tryd.func63 (by kernel_rfl) rfl #[.int .i64 a0] rfl zL ?_; (with_reducible refine (fixed_size.calls a0 t168 _ A3.out).mono ?_); rintro e w' ⟨rfl, ⟨nd, rfl⟩⟩; refine ⟨_, rfl, ?_⟩) | ((with_reducible refine gate_callee (f := 63) rfl ?_); refine goesL_ (some 11) rfl rfl Tryd.func63 (by kernel_rfl) rfl #[.int .i64 a1] rfl zL ?_; (with_reducible refine (fixed_size.calls a1 t169 _ A4.out).mono ?_); rintro e w' ⟨rfl, ⟨nd, rfl⟩⟩; refine ⟨_, rfl, ?_⟩) | ((with_reducible refine gate_callee (f := 101) rfl ?_); refine goesL_ (some 12) rfl rfl Tryd.func101 (by kernel_rfl) rfl #[.int .u64 t168, .int .u64 t169] rfl zL ?_; (with_reducible refine (bits_Mul64.calls t168 t169 t170 t171 _ A5.out).mono ?_); rintro e w' ⟨rfl, ⟨nd, rfl⟩⟩; refine ⟨_, rfl, ?_⟩) | ((with_reducible refine gate_callee (f := 64) rfl ?_); refine goesL_ (some 23) rfl rfl Tryd.func64 (by kernel_rfl) rfl #[.int .u64 18446744073709551615, .bool ((decide (a0 < 0)) != (decide (a1 < 0)))] rfl zL ?_; (with_reducible refine (fixed_hold.calls k 18446744073709551615 ((decide (a0 < 0)) != (decide (a1 < 0))) t173 _ A8.out).mono ?_); rintro e w' ⟨rfl, ⟨nd, rfl⟩⟩; refine ⟨_, rfl, ?_⟩))
  go_ret
  exact ⟨zT, zW⟩
def taps_size.f (k : Nat) (a0 : Int) : Option (Int) := (fixed_Mul.f k a0 (-1)).bind fun t174 => (some (mx a0 t174))
theorem taps_size.mono : ∀ a0 k, LeO (taps_size.f k a0) (taps_size.f (k + 1) a0) := by
 intro a0 k
 unfold taps_size.f
 repeat' (with_reducible first | exact fixed_Mul.mono _ _ _ | exact zM | refine LeO.ite ?_ ?_ | refine LeO.bind ?_ (fun _ => ?_))
set_option maxHeartbeats 8000000 in
set_option maxRecDepth 100000 in
theorem taps_size.calls (k : Nat) (a0 : Int) (r : Int) (w : World) (h : taps_size.f k a0 = some r) :
  Calls Tryd.prog 61 #[.int .i64 a0] w fun e w' => e = .returned (.int .i64 r) ∧ Below w.heap.size w w' := by
 have HB := Aside0.mk (Below.refl w.heap.size w)
 have H : ((fixed_Mul.f k a0 (-1)).bind fun t174 => (some (mx a0 t174))) = some r := h
 clear h
 replace H := Option.bind_eq_some_iff.mp H
 obtain ⟨t174, A20, H⟩ := H
 try dsimp only at H
 have A2 := Aside0.mk A20
 clear A20
 obtain ⟨ji3, hji3⟩ : ∃ j_ : Int, (mx a0 t174) = j_ := ⟨_, rfl⟩
 replace H : (some ji3) = some r := by first | (rw [hji3] at H; exact H) | (simp only [hji3] at H ⊢; exact H)
 (try rw [hji3] at A2)
 have hji3_ : (if a0 < t174 then t174 else a0) = ji3 := hji3
 obtain rfl := Option.some.inj H
 go_enter Tryd.func61, Tryd.ntmps61
 go_wp2_with (first | ((with_reducible refine gate_callee (f := 88) rfl ?_); refine goesL_ (some 5) rfl rfl Tryd.func88 (by kernel_rfl) rfl #[.int .i64 a0, .int .i64 (-1)] rfl zL ?_; (with_reducible refine (fixed_Mul.calls k a0 (-1) t174 _ A2.out).mono ?_); rintro e w' ⟨rfl, ⟨nd, rfl⟩⟩; refine ⟨_, rfl, ?_⟩))
 go_ret
 exact ⟨by first | rfl | (simp [errW_none, errW_some] <;> rfl) | (simp only [← hji3]; first | rfl | (simp [errW_none, errW_some] <;> rfl)) | (simp [*, errW_none, errW_some] <;> rfl), zB⟩
end Go.Proofs.YthaajkpiknbdbaaDoor.QA

namespace Go.Proofs.YthaajkpiknbdbaaDoor.QA
open Go.Proofs.YthaajkpiknbdbaaDoor.T
open Go.RowKit Go.Proofs.YthaajkpiknbdbaaDoorW.PrintWords Go.Proofs.YthaajkpiknbdbaaDoorW.PrintLast Go.Proofs.YthaajkpiknbdbaaDoorW.PrintMore
attribute [local go_sem] ext_call max2_int min2_int max_two min_two max_three min_three max_four min_four   -- for this text's walks alone
set_option linter.unusedVariables false
set_option linter.unusedSimpArgs false
def taps_Size.l0 : Nat → Int → List Int → Int → Int → Option (Int)
 | 0, _, _, _, _ => none
 | k + 1, x3, x6, x7, x8 => if x8 < x7 then (if 0 ≤ x8 then (if x8 < (x6.length : Int) then ((taps_size.f k (rd x6 x8)).bind fun t176 => ((fixed_Add.f k x3 t176).bind fun t177 => (taps_Size.l0 k t177 x6 x7 (wrap64 (x8 + 1))))) else (none)) else (none)) else (some x3)
def taps_Size.f (k : Nat) (l0 : List Int) : Option (Int) := taps_Size.l0 k 0 l0 (l0.length : Int) 0
theorem taps_Size.mono_l : ∀ k, (∀ y0 y1 y2 y3, LeO (taps_Size.l0 k y0 y1 y2 y3) (taps_Size.l0 (k + 1) y0 y1 y2 y3))
 | 0 => fun _ _ _ _ r h => by simp [taps_Size.l0] at h
 | k + 1 => by
  have ih0 := taps_Size.mono_l k
  ·intro y0 y1 y2 y3
   unfold taps_Size.l0
   repeat' (with_reducible first | exact ih0 _ _ _ _ | exact fixed_Add.mono _ _ _ | exact taps_size.mono _ _ | exact zM | refine LeO.ite ?_ ?_ | refine LeO.bind ?_ (fun _ => ?_))
theorem taps_Size.mono : ∀ a0 k, LeO (taps_Size.f k a0) (taps_Size.f (k + 1) a0) := by
 intro a0 k
 have ih0 := taps_Size.mono_l k
 unfold taps_Size.f
 repeat' (with_reducible first | exact ih0 _ _ _ _ | exact fixed_Add.mono _ _ _ | exact taps_size.mono _ _ | exact zM | refine LeO.ite ?_ ?_ | refine LeO.bind ?_ (fun _ => ?_))
set_option maxHeartbeats 8000000 in
set_option maxRecDepth 100000 in
theorem taps_Size.calls (k : Nat) (A0 : Option Addr) (c0 : Nat) (l0 : List Int) (r : Int) (w : World) (hr0 : Kd.C (Kd.int .i64) w A0 l0.length l0) (hc0 : l0.length ≤ c0) (h : taps_Size.f k l0 = some r) :
  Calls Tryd.prog 46 #[.slice A0 l0.length c0] w fun e w' => e = .returned (.int .i64 r) ∧ Below w.heap.size w w' := by
 have HR0 := Aside0.mk hr0
 have HC0 := Aside0.mk hc0
 clear hr0 hc0
 have HB := Aside0.mk (Below.refl w.heap.size w)
 have H : (taps_Size.l0 k 0 l0 (l0.length : Int) 0) = some r := h
 clear h
 have H' := Aside0.mk H
 clear H
 go_enter Tryd.func46, Tryd.ntmps46
 go_wp2
 go_loopg [3, 8] k (fun kq v3 v8 w' => ∃ (x3_1 : Int) (x8_1 : Int), v3 = .int .i64 x3_1 ∧ v8 = .int .i64 x8_1 ∧ Aside0 (taps_Size.l0 kq x3_1 l0 (l0.length : Int) x8_1 = some r) ∧ Aside0 (kq ≤ k) ∧ Aside0 (Below w.heap.size w w'))
 case atStart => exact ⟨(0), (0), zT, zT, H', ⟨Nat.le_refl _⟩, ⟨zB⟩⟩
 case round =>
  clear H'
  obtain ⟨x3_1, x8_1, rfl, rfl, HA, HK1, HB⟩ := hrel
  cases gk with
  | zero => exact absurd HA.out (by simp [taps_Size.l0])
  | succ k1 =>
   have H := HA.out
   clear HA
   simp only [taps_Size.l0] at H
   by_cases c2 : x8_1 < (l0.length : Int)
   ·rw [if_pos c2] at H
    have c2b0 : decide (x8_1 < (l0.length : Int)) = true := decide_eq_true c2
    clear c2
    by_cases c3 : 0 ≤ x8_1
    ·rw [if_pos c3] at H
     have c3b0 : decide (0 ≤ x8_1) = true := decide_eq_true c3
     clear c3
     by_cases c4 : x8_1 < (l0.length : Int)
     ·rw [if_pos c4] at H
      have c4b0 : decide (x8_1 < (l0.length : Int)) = true := decide_eq_true c4
      clear c4
      replace H := Option.bind_eq_some_iff.mp H
      obtain ⟨t176, A50, H⟩ := H
      try dsimp only at H
      have A5 := Aside0.mk A50
      clear A50
      replace H := Option.bind_eq_some_iff.mp H
      obtain ⟨t177, A60, H⟩ := H
      try dsimp only at H
      have A6 := Aside0.mk A60
      clear A60
      have H' := Aside0.mk H
      clear H
      have p175 : 0 ≤ (x8_1 : Int) := of_decide_eq_true (by first | (with_reducible assumption) | assumption)
      have q175 : x8_1 < (l0.length : Int) := of_decide_eq_true (by first | (with_reducible assumption) | assumption)
      obtain ⟨ad175, e175, hx175_0⟩ := Kd.at_int HR0.out x8_1 p175 q175
      cases e175
      replace hx175_0 := (HB.out.cell (World.block_lt_of_cell? w _ hx175_0)).trans hx175_0
      replace p175 := eq_true p175
      replace q175 := eq_true q175
      go_wp2_with (first | ((with_reducible refine gate_callee (f := 61) rfl ?_); refine goesL_ (some 14) rfl rfl Tryd.func61 (by kernel_rfl) rfl #[.int .i64 (rd l0 x8_1)] rfl zL ?_; (with_reducible refine (taps_size.calls k1 (rd l0 x8_1) t176 _ A5.out).mono ?_); rintro e w7 ⟨rfl, hb⟩; refine ⟨_, rfl, ?_⟩; have n0_ := Aside0.mk (below_step zB hb); clear HB; have HB := n0_; clear n0_; (try clear hb); (try clear hb2); (try clear hk); (try clear hi)) | ((with_reducible refine gate_callee (f := 62) rfl ?_); refine goesL_ (some 15) rfl rfl Tryd.func62 (by kernel_rfl) rfl #[.int .i64 x3_1, .int .i64 t176] rfl zL ?_; (with_reducible refine (fixed_Add.calls k1 x3_1 t176 t177 _ A6.out).mono ?_); rintro e w' ⟨rfl, ⟨nd, rfl⟩⟩; refine ⟨_, rfl, ?_⟩))
      go_roundg k1
      case measure => have := HK1.out; omega
      case rel => exact ⟨(t177), (wrap64 (x8_1 + 1)), zT, zT, H', ⟨by have := HK1.out; omega⟩, ⟨zB⟩⟩
     ·rw [if_neg c4] at H
      exact absurd H (by simp)
    ·rw [if_neg c3] at H
     exact absurd H (by simp)
   ·rw [if_neg c2] at H
    have c2b0 : decide (x8_1 < (l0.length : Int)) = false := decide_eq_false c2
    clear c2
    obtain rfl := Option.some.inj H
    go_wp2
    go_ret
    exact ⟨zS, zB⟩
def smaltoref06_Same.l0 : Nat → List Int → List Int → Int → Int → Option (Bool)
 | 0, _, _, _, _ => none
 | k + 1, x0, x1, x12, x13 => if x13 < x12 then (if 0 ≤ x13 then (if x13 < (x0.length : Int) then (if x13 < (x1.length : Int) then (if (rd x0 x13) = (rd x1 x13) then (smaltoref06_Same.l0 k x0 x1 x12 (wrap64 (x13 + 1))) else (some false)) else (none)) else (none)) else (none)) else (some true)
def smaltoref06_Same.f (k : Nat) (l0 : List Int) (l1 : List Int) : Option (Bool) := if (l0.length : Int) = (l1.length : Int) then (smaltoref06_Same.l0 k l0 l1 (l0.length : Int) 0) else (some false)
theorem smaltoref06_Same.mono_l : ∀ k, (∀ y0 y1 y2 y3, LeO (smaltoref06_Same.l0 k y0 y1 y2 y3) (smaltoref06_Same.l0 (k + 1) y0 y1 y2 y3))
 | 0 => fun _ _ _ _ r h => by simp [smaltoref06_Same.l0] at h
 | k + 1 => by
  have ih0 := smaltoref06_Same.mono_l k
  ·intro y0 y1 y2 y3
   unfold smaltoref06_Same.l0
   repeat' (with_reducible first | exact ih0 _ _ _ _ | exact zM | refine LeO.ite ?_ ?_ | refine LeO.bind ?_ (fun _ => ?_))
theorem smaltoref06_Same.mono : ∀ a0 a1 k, LeO (smaltoref06_Same.f k a0 a1) (smaltoref06_Same.f (k + 1) a0 a1) := by
 intro a0 a1 k
 have ih0 := smaltoref06_Same.mono_l k
 unfold smaltoref06_Same.f
 repeat' (with_reducible first | exact ih0 _ _ _ _ | exact zM | refine LeO.ite ?_ ?_ | refine LeO.bind ?_ (fun _ => ?_))
set_option maxHeartbeats 8000000 in
set_option maxRecDepth 100000 in
theorem smaltoref06_Same.calls (k : Nat) (A0 : Option Addr) (c0 : Nat) (l0 : List Int) (A1 : Option Addr) (c1 : Nat) (l1 : List Int) (r : Bool) (w : World) (hr0 : Kd.C (Kd.int .i64) w A0 l0.length l0) (hc0 : l0.length ≤ c0) (hr1 : Kd.C (Kd.int .i64) w A1 l1.length l1) (hc1 : l1.length ≤ c1) (h : smaltoref06_Same.f k l0 l1 = some r) :
  Calls Tryd.prog 20 #[.slice A0 l0.length c0, .slice A1 l1.length c1] w fun e w' => e = .returned (.bool r) ∧ Drawn0 w w' := by
 have HR0 := Aside0.mk hr0
 have HC0 := Aside0.mk hc0
 clear hr0 hc0
 have HR1 := Aside0.mk hr1
 have HC1 := Aside0.mk hc1
 clear hr1 hc1
 have H : (if (l0.length : Int) = (l1.length : Int) then (smaltoref06_Same.l0 k l0 l1 (l0.length : Int) 0) else (some false)) = some r := h
 clear h
 by_cases c3 : (l0.length : Int) = (l1.length : Int)
 ·rw [if_pos c3] at H
  have c3b0 : ((l0.length : Int) == (l1.length : Int)) = true := beq_iff_eq.mpr c3
  have c3b1 : ((l0.length : Int) != (l1.length : Int)) = false := bne_eq_false_iff_eq.mpr c3
  have c3b2 : (l0.length == l1.length) = true := by first | simpa using c3 | (simp at c3 ⊢; omega)
  clear c3
  have H' := Aside0.mk H
  clear H
  go_enter Tryd.func20, Tryd.ntmps20
  go_wp2
  repeat (go_quiet (fail); try go_wp2)
  go_loopg [13] k (fun kq v13 w' => ∃ (x13_1 : Int), v13 = .int .i64 x13_1 ∧ Aside0 (smaltoref06_Same.l0 kq l0 l1 (l0.length : Int) x13_1 = some r) ∧ Aside0 (kq ≤ k) ∧ Drawn0 w w')
  case atStart => exact ⟨(0), zT, H', ⟨Nat.le_refl _⟩, zW⟩
  case round =>
   clear H'
   try clear c1
   try clear c2
   try clear p2
   try clear c3
   try clear c3b0
   try clear c3b1
   try clear c3b2
   obtain ⟨x13_1, rfl, HA, HK1, ⟨m1, rfl⟩⟩ := hrel
   cases gk with
   | zero => exact absurd HA.out (by simp [smaltoref06_Same.l0])
   | succ k1 =>
    have H := HA.out
    clear HA
    simp only [smaltoref06_Same.l0] at H
    by_cases c4 : x13_1 < (l0.length : Int)
    ·rw [if_pos c4] at H
     have c4b0 : decide (x13_1 < (l0.length : Int)) = true := decide_eq_true c4
     clear c4
     by_cases c5 : 0 ≤ x13_1
     ·rw [if_pos c5] at H
      have c5b0 : decide (0 ≤ x13_1) = true := decide_eq_true c5
      clear c5
      by_cases c6 : x13_1 < (l0.length : Int)
      ·rw [if_pos c6] at H
       have c6b0 : decide (x13_1 < (l0.length : Int)) = true := decide_eq_true c6
       clear c6
       by_cases c7 : x13_1 < (l1.length : Int)
       ·rw [if_pos c7] at H
        have c7b0 : decide (x13_1 < (l1.length : Int)) = true := decide_eq_true c7
        clear c7
        by_cases c8 : (rd l0 x13_1) = (rd l1 x13_1)
        ·rw [if_pos c8] at H
         have c8b0 : ((rd l0 x13_1) == (rd l1 x13_1)) = true := beq_iff_eq.mpr c8
         have c8b1 : ((rd l0 x13_1) != (rd l1 x13_1)) = false := bne_eq_false_iff_eq.mpr c8
         clear c8
         have H' := Aside0.mk H
         clear H
         have p182 : 0 ≤ (x13_1 : Int) := of_decide_eq_true (by first | (with_reducible assumption) | assumption)
         have q182 : x13_1 < (l0.length : Int) := of_decide_eq_true (by first | (with_reducible assumption) | assumption)
         obtain ⟨ad182, e182, hx182_0⟩ := Kd.at_int HR0.out x13_1 p182 q182
         cases e182
         replace p182 := eq_true p182
         replace q182 := eq_true q182
         have p183 : 0 ≤ (x13_1 : Int) := of_decide_eq_true (by first | (with_reducible assumption) | assumption)
         have q183 : x13_1 < (l1.length : Int) := of_decide_eq_true (by first | (with_reducible assumption) | assumption)
         obtain ⟨ad183, e183, hx183_0⟩ := Kd.at_int HR1.out x13_1 p183 q183
         cases e183
         replace p183 := eq_true p183
         replace q183 := eq_true q183
         go_wp2
         repeat (go_quiet (fail); try go_wp2)
         go_roundg k1
         case measure => have := HK1.out; omega
         case rel => exact ⟨(wrap64 (x13_1 + 1)), zT, H', ⟨by have := HK1.out; omega⟩, zW⟩
        ·rw [if_neg c8] at H
         have c8b0 : ((rd l0 x13_1) == (rd l1 x13_1)) = false := beq_eq_false_iff_ne.mpr c8
         have c8b1 : ((rd l0 x13_1) != (rd l1 x13_1)) = true := bne_iff_ne.mpr c8
         obtain rfl := Option.some.inj H
         have p182 : 0 ≤ (x13_1 : Int) := of_decide_eq_true (by first | (with_reducible assumption) | assumption)
         have q182 : x13_1 < (l0.length : Int) := of_decide_eq_true (by first | (with_reducible assumption) | assumption)
         obtain ⟨ad182, e182, hx182_0⟩ := Kd.at_int HR0.out x13_1 p182 q182
         cases e182
         replace p182 := eq_true p182
         replace q182 := eq_true q182
         have p183 : 0 ≤ (x13_1 : Int) := of_decide_eq_true (by first | (with_reducible assumption) | assumption)
         have q183 : x13_1 < (l1.length : Int) := of_decide_eq_true (by first | (with_reducible assumption) | assumption)
         obtain ⟨ad183, e183, hx183_0⟩ := Kd.at_int HR1.out x13_1 p183 q183
         cases e183
         replace p183 := eq_true p183
         replace q183 := eq_true q183
         go_wp2
         repeat (go_quiet (fail); try go_wp2)
         go_ret
         exact ⟨zT, zW⟩
       ·rw [if_neg c7] at H
        exact absurd H (by simp)
      ·rw [if_neg c6] at H
       exact absurd H (by simp)
     ·rw [if_neg c5] at H
      exact absurd H (by simp)
    ·rw [if_neg c4] at H
     have c4b0 : decide (x13_1 < (l0.length : Int)) = false := decide_eq_false c4
     clear c4
     obtain rfl := Option.some.inj H
     go_wp2
     repeat (go_quiet (fail); try go_wp2)
     go_ret
     exact ⟨zT, zW⟩
 ·rw [if_neg c3] at H
  have c3b0 : ((l0.length : Int) == (l1.length : Int)) = false := beq_eq_false_iff_ne.mpr c3
  have c3b1 : ((l0.length : Int) != (l1.length : Int)) = true := bne_iff_ne.mpr c3
  have c3b2 : (l0.length == l1.length) = false := by first | simpa using c3 | (simp at c3 ⊢; omega)
  obtain rfl := Option.some.inj H
  go_enter Tryd.func20, Tryd.ntmps20
  go_wp2
  repeat (go_quiet (fail); try go_wp2)
  go_ret
  exact ⟨zT, zW⟩
end Go.Proofs.YthaajkpiknbdbaaDoor.QA

namespace Go.Proofs.YthaajkpiknbdbaaDoor.T
open Go.RowKit Go.Proofs.YthaajkpiknbdbaaDoorW.PrintWords Go.Proofs.YthaajkpiknbdbaaDoorW.PrintLast Go.Proofs.YthaajkpiknbdbaaDoorW.PrintMore
theorem u64w (n : Int) : IntKind.u64.wrap n = n % 18446744073709551616 := by simp [IntKind.wrap, IntKind.bits, IntKind.signed]
theorem i64w (n : Int) : IntKind.i64.wrap n = wrap64 n := by rw [IntKind.wrap_i64]; unfold wrap64; omega
theorem wf64 {x : Int} (h : (Lit.int .i64 x).wf = true) : -9223372036854775808 ≤ x ∧ x ≤ 9223372036854775807 := by
  simp [Lit.wf, IntKind.min, IntKind.max, IntKind.bits, IntKind.signed] at h; exact h
theorem wfu64 {x : Int} (h : (Lit.int .u64 x).wf = true) : 0 ≤ x ∧ x ≤ 18446744073709551615 := by
  simp [Lit.wf, IntKind.min, IntKind.max, IntKind.bits, IntKind.signed] at h; exact h
theorem wfu8 {x : Int} (h : (Lit.int .u8 x).wf = true) : 0 ≤ x ∧ x ≤ 255 := by
  simp [Lit.wf, IntKind.min, IntKind.max, IntKind.bits, IntKind.signed] at h; exact h
theorem wfu16 {x : Int} (h : (Lit.int .u16 x).wf = true) : 0 ≤ x ∧ x ≤ 65535 := by
  simp [Lit.wf, IntKind.min, IntKind.max, IntKind.bits, IntKind.signed] at h; exact h
theorem wfu32 {x : Int} (h : (Lit.int .u32 x).wf = true) : 0 ≤ x ∧ x ≤ 4294967295 := by
  simp [Lit.wf, IntKind.min, IntKind.max, IntKind.bits, IntKind.signed] at h; exact h
theorem wfi32 {x : Int} (h : (Lit.int .i32 x).wf = true) : -2147483648 ≤ x ∧ x ≤ 2147483647 := by
  simp [Lit.wf, IntKind.min, IntKind.max, IntKind.bits, IntKind.signed] at h; exact h
theorem wfi16 {x : Int} (h : (Lit.int .i16 x).wf = true) : -32768 ≤ x ∧ x ≤ 32767 := by
  simp [Lit.wf, IntKind.min, IntKind.max, IntKind.bits, IntKind.signed] at h; exact h
theorem w64_id {x : Int} (h0 : -9223372036854775808 ≤ x) (h1 : x ≤ 9223372036854775807) : wrap64 x = x := by unfold wrap64; omega
/-- Masks of low bits, of any sign. -/
theorem and_mask (k : IntKind) (x : Int) (i : Nat) (hi : i ≤ k.bits) (hw : k.wrap (x % 2 ^ i) = x % 2 ^ i) : bits .and k x (2 ^ i - 1) = x % 2 ^ i := by
  have hc : ((2 : Int) ^ i - 1) = ((2 ^ i - 1 : Nat) : Int) := by
    rw [Int.natCast_sub (Nat.two_pow_pos i)]; simp
  have h1 : (BitVec.ofInt k.bits (2 ^ i - 1)).toNat = 2 ^ i - 1 := by
    rw [hc, BitVec.ofInt_natCast, BitVec.toNat_ofNat, Nat.mod_eq_of_lt]
    exact Nat.lt_of_lt_of_le (Nat.sub_lt (Nat.two_pow_pos i) (by decide)) (Nat.pow_le_pow_right (by decide) hi)
  have h2 : (((BitVec.ofInt k.bits x).toNat : Nat) : Int) = x % 2 ^ k.bits := by
    rw [BitVec.toNat_ofInt, Int.toNat_of_nonneg (Int.emod_nonneg _ (by have := Nat.two_pow_pos k.bits; omega))]
    simp
  have h3 : ((((BitVec.ofInt k.bits x) &&& (BitVec.ofInt k.bits (2 ^ i - 1))).toNat : Nat) : Int) = x % 2 ^ i := by
    rw [BitVec.toNat_and, h1, Nat.and_two_pow_sub_one_eq_mod]
    rw [Int.natCast_emod, h2]
    simp only [Int.natCast_pow, Int.cast_ofNat_Int]
    exact Int.emod_emod_of_dvd x ⟨2 ^ (k.bits - i), by rw [← Int.pow_add]; congr 1; omega⟩
  simp only [bits]
  rw [h3, hw]
theorem u64and1 (x : Int) : bits .and .u64 x 1 = x % 2 := by
  have := and_mask .u64 x 1 (by decide) (by rw [u64w]; omega)
  simpa using this
theorem i64and1 (x : Int) : bits .and .i64 x 1 = x % 2 := by
  have := and_mask .i64 x 1 (by decide) (by rw [i64w]; unfold wrap64; omega)
  simpa using this
theorem u64and32 (x : Int) : bits .and .u64 x 4294967295 = x % 4294967296 := by
  have := and_mask .u64 x 32 (by decide) (by rw [u64w]; omega)
  simpa using this
/-- Held within 64 bits. -/
def hold (m : Int) : Int := if m < -9223372036854775808 then -9223372036854775808 else if m > 9223372036854775807 then 9223372036854775807 else m
theorem hold_ge (m : Int) : -9223372036854775808 ≤ hold m := by unfold hold; split <;> (try split) <;> omega
theorem hold_le (m : Int) : hold m ≤ 9223372036854775807 := by unfold hold; split <;> (try split) <;> omega
theorem hold_id {m : Int} (h0 : -9223372036854775808 ≤ m) (h1 : m ≤ 9223372036854775807) : hold m = m := by unfold hold; rw [if_neg (by omega), if_neg (by omega)]
/-- The quotient downwards, of any signs. -/
def flo (a b : Int) : Int := if 0 < b then a / b else (-a) / (-b)
/-- The nearest number to a quotient; of two the greater one. -/
def rdiv (a b : Int) : Int := if 0 < b then (2 * a + b) / (2 * b) else (2 * (-a) + (-b)) / (2 * (-b))
/-- What is left, of any signs. -/
def fmo (a b : Int) : Int := a - b * flo a b
/-- Without sign. -/
def siz (x : Int) : Int := if x < 0 then -x else x
theorem siz_nonneg (x : Int) : 0 ≤ siz x := by unfold siz; split <;> omega
/-- Rounded, without sign: the half goes up (of a number that isn't below), or down (of one that is). -/
theorem near_up {p d : Int} (_hp : 0 ≤ p) (hd : 0 < d) : (2 * p + d) / (2 * d) = if p % d ≥ d - p % d then p / d + 1 else p / d := by
  have e := Int.mul_ediv_add_emod p d
  have r0 := Int.emod_nonneg p (Int.ne_of_gt hd)
  have r1 := Int.emod_lt_of_pos p hd
  have e2 : 2 * p + d = (2 * d) * (p / d) + (2 * (p % d) + d) := by rw [Int.mul_assoc]; omega
  rw [e2, Int.add_comm, Int.add_mul_ediv_left _ _ (by omega)]
  split
  · have : (2 * (p % d) + d) / (2 * d) = 1 := by
      rw [show 2 * (p % d) + d = (2 * (p % d) - d) + (2 * d) * 1 from by omega, Int.add_mul_ediv_left _ _ (by omega), Int.ediv_eq_zero_of_lt (by omega) (by omega)]; omega
    omega
  · have : (2 * (p % d) + d) / (2 * d) = 0 := Int.ediv_eq_zero_of_lt (by omega) (by omega)
    omega
theorem near_dn {p d : Int} (_hp : 0 ≤ p) (hd : 0 < d) : (2 * (-p) + d) / (2 * d) = if p % d > d - p % d then -(p / d + 1) else -(p / d) := by
  have e := Int.mul_ediv_add_emod p d
  have r0 := Int.emod_nonneg p (Int.ne_of_gt hd)
  have r1 := Int.emod_lt_of_pos p hd
  have e2 : 2 * (-p) + d = (2 * d) * (-(p / d)) + (d - 2 * (p % d)) := by rw [Int.mul_assoc, Int.mul_neg, Int.mul_neg]; omega
  rw [e2, Int.add_comm, Int.add_mul_ediv_left _ _ (by omega)]
  split
  · have : (d - 2 * (p % d)) / (2 * d) = -1 := by
      rw [show d - 2 * (p % d) = (3 * d - 2 * (p % d)) + (2 * d) * (-1) from by omega, Int.add_mul_ediv_left _ _ (by omega), Int.ediv_eq_zero_of_lt (by omega) (by omega)]; omega
    omega
  · have : (d - 2 * (p % d)) / (2 * d) = 0 := Int.ediv_eq_zero_of_lt (by omega) (by omega)
    omega
/-- A product's or a number's sign. -/
def sgn (below : Bool) (m : Int) : Int := if below = true then -m else m
theorem sgn_siz2 (a b : Int) : sgn ((decide (a < 0)) != (decide (b < 0))) (siz a * siz b) = a * b := by
  unfold sgn siz
  by_cases h : a < 0 <;> by_cases k : b < 0 <;> simp [h, k, Int.neg_mul, Int.mul_neg]
theorem sgn_siz (a : Int) : sgn (decide (a < 0)) (siz a) = a := by
  unfold sgn siz
  by_cases h : a < 0 <;> simp [h]
theorem sgn_xor (x : Bool) (d p : Int) (_hd : d ≠ 0) : rdiv (sgn (x != decide (d < 0)) p) (siz d) = rdiv (sgn x p) d := by
  unfold sgn siz rdiv
  by_cases k : d < 0
  · rw [if_pos k]
    rw [if_pos (show 0 < -d from by omega), if_neg (show ¬ 0 < d from by omega)]
    cases x <;> simp [k]
  · simp [k]
theorem flo_xor (x : Bool) (d p : Int) (_hd : d ≠ 0) : flo (sgn (x != decide (d < 0)) p) (siz d) = flo (sgn x p) d := by
  unfold sgn siz flo
  by_cases k : d < 0
  · rw [if_pos k]
    rw [if_pos (show 0 < -d from by omega), if_neg (show ¬ 0 < d from by omega)]
    cases x <;> simp [k]
  · simp [k]
theorem rdiv_sgn (below : Bool) {p d : Int} (hp : 0 ≤ p) (hd : 0 < d) :
    rdiv (sgn below p) d = sgn below (if below = true then (if p % d > d - p % d then p / d + 1 else p / d) else (if p % d ≥ d - p % d then p / d + 1 else p / d)) := by
  unfold rdiv sgn
  rw [if_pos hd]
  cases below
  · simp only [Bool.false_eq_true, if_false]; exact near_up hp hd
  · simp only [if_true]; rw [near_dn hp hd]; split <;> rfl
theorem neg_ediv {p d : Int} (hd : 0 < d) : (-p) / d = if p % d = 0 then -(p / d) else -(p / d + 1) := by
  have e := Int.mul_ediv_add_emod p d
  have r0 := Int.emod_nonneg p (Int.ne_of_gt hd)
  have r1 := Int.emod_lt_of_pos p hd
  rw [show -p = -(p % d) + d * (-(p / d)) from by rw [Int.mul_neg]; omega, Int.add_mul_ediv_left _ _ (by omega)]
  split
  · rename_i h; rw [h]; simp
  · have : (-(p % d)) / d = -1 := by
      rw [show -(p % d) = (d - p % d) + d * (-1) from by omega, Int.add_mul_ediv_left _ _ (by omega), Int.ediv_eq_zero_of_lt (by omega) (by omega)]; omega
    omega
theorem flo_sgn (below : Bool) {p d : Int} (hd : 0 < d) :
    flo (sgn below p) d = sgn below (if below = true ∧ p % d ≠ 0 then p / d + 1 else p / d) := by
  unfold flo sgn
  rw [if_pos hd]
  cases below
  · simp
  · simp only [if_true, true_and]; rw [neg_ediv hd]; by_cases h : p % d = 0 <;> simp [h]
/-- Within 64 bits; without sign. -/
abbrev I64 (x : Int) : Prop := -9223372036854775808 ≤ x ∧ x ≤ 9223372036854775807
abbrev U64 (x : Int) : Prop := 0 ≤ x ∧ x < 18446744073709551616
theorem siz_u {a : Int} (h : I64 a) : 0 ≤ siz a ∧ siz a ≤ 9223372036854775808 := by unfold siz; split <;> omega
theorem siz_zero {a : Int} : siz a = 0 ↔ a = 0 := by unfold siz; split <;> omega
theorem hold_i (m : Int) : I64 (hold m) := ⟨hold_ge m, hold_le m⟩
theorem tmod_pos (a : Int) {b : Int} (hb : 0 < b) : a.tmod b = if 0 ≤ a ∨ a % b = 0 then a % b else a % b - b := by
  have e := Int.tmod_eq_emod (a := a) (b := b)
  have hdv := Int.dvd_iff_emod_eq_zero (a := b) (b := a)
  rw [e]
  simp only [hdv]
  split
  · simp
  · rw [Int.natAbs_of_nonneg (by omega)]
/-- What is left. -/
def md (a b : Int) : Int := if b = 0 then 0 else if 0 < b then a % b else -((-a) % (-b))
/-- By bits, rounded. -/
def sh (x n : Int) : Int := if n ≤ 0 then x else rdiv x (2 ^ n.toNat)
theorem pow_pos (n : Nat) : (0 : Int) < 2 ^ n := Int.pow_pos (by decide)
theorem pow_succ2 (n : Nat) : (2 : Int) ^ (n + 1) = 2 * 2 ^ n := by rw [Int.pow_succ, Int.mul_comm]
theorem pow_le {m n : Nat} (h : m ≤ n) : (2 : Int) ^ m ≤ 2 ^ n := by
  obtain ⟨d, rfl⟩ := Nat.exists_eq_add_of_le h
  rw [Int.pow_add]
  have h1 := pow_pos m
  have h2 := pow_pos d
  calc (2 : Int) ^ m = 2 ^ m * 1 := by rw [Int.mul_one]
    _ ≤ 2 ^ m * 2 ^ d := Int.mul_le_mul_of_nonneg_left (by omega) (by omega)
/-- Rounded by a power of two: the part below and its highest bit. -/
theorem rdiv_pow (x : Int) (n : Nat) (hn : 1 ≤ n) : rdiv x (2 ^ n) = x / 2 ^ n + x / 2 ^ (n - 1) % 2 := by
  obtain ⟨m, rfl⟩ : ∃ m, n = m + 1 := ⟨n - 1, by omega⟩
  rw [Nat.add_sub_cancel]
  have hp := pow_pos m
  unfold rdiv
  rw [if_pos (pow_pos _), pow_succ2]
  have e1 : (2 * x + 2 * 2 ^ m) / (2 * (2 * 2 ^ m)) = (x + 2 ^ m) / (2 * 2 ^ m) := by
    rw [← Int.mul_add]; exact Int.mul_ediv_mul_of_pos _ _ (by omega)
  have e2 : (x + 2 ^ m) / (2 * 2 ^ m) = (x / 2 ^ m + 1) / 2 := by
    rw [Int.mul_comm, ← Int.ediv_ediv_of_nonneg (by omega)]
    congr 1
    have := Int.add_mul_ediv_right x 1 (show (2 : Int) ^ m ≠ 0 from by omega)
    rw [Int.one_mul] at this; exact this
  have e3 : x / (2 * 2 ^ m) = x / 2 ^ m / 2 := by rw [Int.mul_comm, ← Int.ediv_ediv_of_nonneg (by omega)]
  rw [e1, e2, e3]
  omega
theorem rdiv_far {x d : Int} (hd : 18446744073709551616 ≤ d) (hx : I64 x) : rdiv x d = 0 := by
  unfold rdiv
  rw [if_pos (by omega)]
  exact Int.ediv_eq_zero_of_lt (by omega) (by omega)
theorem rdiv_one (x : Int) : rdiv x 1 = x := by unfold rdiv; rw [if_pos (by decide)]; omega
theorem div_unique {a d q r : Int} (h : q * d + r = a) (h0 : 0 ≤ r) (h1 : r < d) : a / d = q ∧ a % d = r := by
  subst h
  constructor
  · rw [Int.add_comm, Int.add_mul_ediv_right _ _ (by omega), Int.ediv_eq_zero_of_lt h0 h1]; omega
  · rw [Int.add_comm, Int.add_mul_emod_self_right, Int.emod_eq_of_lt h0 h1]
theorem half_pow (a : Int) (n : Nat) : a / 2 ^ n = 2 * (a / 2 ^ (n + 1)) + a / 2 ^ n % 2 := by
  have e : a / 2 ^ (n + 1) = a / 2 ^ n / 2 := by rw [pow_succ2, Int.mul_comm, ← Int.ediv_ediv_of_nonneg (by have := pow_pos n; omega)]
  rw [e]; omega
theorem sh_range {x n : Int} (hx : I64 x) : I64 (sh x n) := by
  unfold sh
  split
  · exact hx
  · by_cases h : 64 ≤ n
    · rw [rdiv_far (x := x) _ hx]
      · constructor <;> omega
      · calc (18446744073709551616 : Int) = 2 ^ 64 := by decide
          _ ≤ 2 ^ n.toNat := pow_le (by omega)
    · rw [rdiv_pow x n.toNat (by omega)]
      have hp := pow_pos n.toNat
      have h2 : (2 : Int) ≤ 2 ^ n.toNat := by
        calc (2 : Int) = 2 ^ 1 := by decide
          _ ≤ 2 ^ n.toNat := pow_le (by omega)
      have a : -9223372036854775808 ≤ x / 2 ^ n.toNat := by
        rw [Int.le_ediv_iff_mul_le hp]
        have : -9223372036854775808 * 2 ^ n.toNat ≤ -9223372036854775808 * 1 := Int.mul_le_mul_of_nonpos_left (by decide) (by omega)
        omega
      have b : x / 2 ^ n.toNat < 4611686018427387904 := by
        rw [Int.ediv_lt_iff_lt_mul hp]
        calc x < 4611686018427387904 * 2 := by omega
          _ ≤ 4611686018427387904 * 2 ^ n.toNat := Int.mul_le_mul_of_nonneg_left h2 (by decide)
      constructor <;> omega
end Go.Proofs.YthaajkpiknbdbaaDoor.T

namespace Go.Proofs.YthaajkpiknbdbaaDoor.S
open Go.Sort
variable {α : Type} [Inhabited α]
set_option linter.unusedVariables false
set_option linter.unusedSectionVars false
theorem swp_size (d : Array α) (i j : Nat) : (swp d i j).size = d.size := by unfold swp; simp
theorem swp_get (d : Array α) {i j : Nat} (hi : i < d.size) (hj : j < d.size) (k : Nat) : (swp d i j)[k]! = if k = j then d[i]! else if k = i then d[j]! else d[k]! := by
  unfold swp
  by_cases h : k = j
  · subst h; rw [if_pos rfl, getElem!_set_same _ _ _ (by simpa using hj)]
  · rw [if_neg h, getElem!_set_other _ _ _ _ h]
    by_cases g : k = i
    · subst g; rw [if_pos rfl, getElem!_set_same _ _ _ hi]
    · rw [if_neg g, getElem!_set_other _ _ _ _ g]
/-- Two stretches exchanged, from the first place on. -/
def swpRange (d : Array α) (a b : Nat) : Nat → Array α
  | 0 => d
  | n + 1 => swp (swpRange d a b n) (a + n) (b + n)
theorem swpRange_size (d : Array α) (a b : Nat) : ∀ n, (swpRange d a b n).size = d.size
  | 0 => rfl
  | n + 1 => by rw [swpRange, swp_size, swpRange_size d a b n]
theorem swpRange_get (d : Array α) (a b : Nat) : ∀ n, a + n ≤ b → b + n ≤ d.size → ∀ k, (swpRange d a b n)[k]! = if a ≤ k ∧ k < a + n then d[k - a + b]! else if b ≤ k ∧ k < b + n then d[k - b + a]! else d[k]! := by
  intro n
  induction n with
  | zero => intro h1 h2 k; rw [if_neg (by omega), if_neg (by omega)]; rfl
  | succ n ih =>
    intro h1 h2 k
    have hz := swpRange_size d a b n
    rw [swpRange, swp_get _ (by omega) (by omega)]
    have i1 := ih (by omega) (by omega)
    by_cases c1 : k = b + n
    · rw [if_pos c1, i1, if_neg (by omega), if_neg (by omega), if_neg (by omega), if_pos (by omega)]
      exact congrArg (fun q => d[q]!) (by omega)
    rw [if_neg c1]
    by_cases c2 : k = a + n
    · rw [if_pos c2, i1, if_neg (by omega), if_neg (by omega), if_pos (by omega)]
      exact congrArg (fun q => d[q]!) (by omega)
    rw [if_neg c2, i1]
    by_cases c3 : a ≤ k ∧ k < a + n
    · rw [if_pos c3, if_pos (by omega)]
    rw [if_neg c3, if_neg (show ¬ (a ≤ k ∧ k < a + (n + 1)) from by omega)]
    by_cases c4 : b ≤ k ∧ k < b + n
    · rw [if_pos c4, if_pos (by omega)]
    rw [if_neg c4, if_neg (by omega)]
/-- A stretch turned about its middle m: i behind it, j ahead. -/
def rotLoop (m : Nat) : Nat → Array α → Nat → Nat → Array α
  | 0, d, i, _ => swpRange d (m - i) m i
  | f + 1, d, i, j => if i = j then swpRange d (m - i) m i else if j < i then rotLoop m f (swpRange d (m - i) m j) (i - j) j else rotLoop m f (swpRange d (m - i) (m + j - i) i) i (j - i)
theorem rotLoop_size (m : Nat) : ∀ f (d : Array α) i j, (rotLoop m f d i j).size = d.size := by
  intro f
  induction f with
  | zero => intro d i j; exact swpRange_size _ _ _ _
  | succ f ih =>
    intro d i j
    rw [rotLoop]
    split
    · exact swpRange_size _ _ _ _
    · split
      · rw [ih, swpRange_size]
      · rw [ih, swpRange_size]
theorem rotLoop_get (m : Nat) : ∀ f (d : Array α) i j, i + j ≤ f + 1 → 1 ≤ i → 1 ≤ j → i ≤ m → m + j ≤ d.size → ∀ k, (rotLoop m f d i j)[k]! = if m - i ≤ k ∧ k < m - i + j then d[k + i]! else if m - i + j ≤ k ∧ k < m + j then d[k - j]! else d[k]! := by
  intro f
  induction f with
  | zero => intro d i j hf hi hj; omega
  | succ f ih =>
    intro d i j hf hi hj him hmj k
    rw [rotLoop]
    by_cases c : i = j
    · subst c
      rw [if_pos rfl, swpRange_get _ _ _ _ (by omega) (by omega)]
      by_cases c1 : m - i ≤ k ∧ k < m - i + i
      · rw [if_pos c1, if_pos c1]; exact congrArg (fun q => d[q]!) (by omega)
      rw [if_neg c1, if_neg c1]
      by_cases c2 : m ≤ k ∧ k < m + i
      · rw [if_pos c2, if_pos (by omega)]; exact congrArg (fun q => d[q]!) (by omega)
      rw [if_neg c2, if_neg (by omega)]
    rw [if_neg c]
    by_cases c0 : j < i
    · rw [if_pos c0, ih _ _ _ (by omega) (by omega) hj (by omega) (by rw [swpRange_size]; omega)]
      have g := swpRange_get d (m - i) m j (by omega) (by omega)
      by_cases c1 : m - (i - j) ≤ k ∧ k < m - (i - j) + j
      · rw [if_pos c1, g, if_neg (show ¬ (m - i ≤ k + (i - j) ∧ k + (i - j) < m - i + j) from by omega), if_pos (show m ≤ k + (i - j) ∧ k + (i - j) < m + j from by omega),
          if_neg (show ¬ (m - i ≤ k ∧ k < m - i + j) from by omega), if_pos (show m - i + j ≤ k ∧ k < m + j from by omega)]
        exact congrArg (fun q => d[q]!) (by omega)
      rw [if_neg c1]
      by_cases c2 : m - (i - j) + j ≤ k ∧ k < m + j
      · rw [if_pos c2, g, if_neg (show ¬ (m - i ≤ k - j ∧ k - j < m - i + j) from by omega), if_neg (show ¬ (m ≤ k - j ∧ k - j < m + j) from by omega),
          if_neg (show ¬ (m - i ≤ k ∧ k < m - i + j) from by omega), if_pos (show m - i + j ≤ k ∧ k < m + j from by omega)]
      rw [if_neg c2, g]
      by_cases c3 : m - i ≤ k ∧ k < m - i + j
      · rw [if_pos c3, if_pos c3]; exact congrArg (fun q => d[q]!) (by omega)
      rw [if_neg c3, if_neg c3, if_neg (show ¬ (m ≤ k ∧ k < m + j) from by omega), if_neg (show ¬ (m - i + j ≤ k ∧ k < m + j) from by omega)]
    · rw [if_neg c0, ih _ _ _ (by omega) hi (by omega) (by omega) (by rw [swpRange_size]; omega)]
      have g := swpRange_get d (m - i) (m + j - i) i (by omega) (by omega)
      by_cases c1 : m - i ≤ k ∧ k < m - i + (j - i)
      · rw [if_pos c1, g, if_neg (show ¬ (m - i ≤ k + i ∧ k + i < m - i + i) from by omega), if_neg (show ¬ (m + j - i ≤ k + i ∧ k + i < m + j - i + i) from by omega), if_pos (show m - i ≤ k ∧ k < m - i + j from by omega)]
      rw [if_neg c1]
      by_cases c2 : m - i + (j - i) ≤ k ∧ k < m + (j - i)
      · rw [if_pos c2, g, if_pos (show m - i ≤ k - (j - i) ∧ k - (j - i) < m - i + i from by omega), if_pos (show m - i ≤ k ∧ k < m - i + j from by omega)]
        exact congrArg (fun q => d[q]!) (by omega)
      rw [if_neg c2, g]
      by_cases c4 : m - i + j ≤ k ∧ k < m + j
      · rw [if_neg (show ¬ (m - i ≤ k ∧ k < m - i + i) from by omega), if_pos (show m + j - i ≤ k ∧ k < m + j - i + i from by omega), if_neg (show ¬ (m - i ≤ k ∧ k < m - i + j) from by omega), if_pos c4]
        exact congrArg (fun q => d[q]!) (by omega)
      rw [if_neg (show ¬ (m - i ≤ k ∧ k < m - i + i) from by omega), if_neg (show ¬ (m + j - i ≤ k ∧ k < m + j - i + i) from by omega), if_neg (show ¬ (m - i ≤ k ∧ k < m - i + j) from by omega), if_neg c4]
/-- The order that a stable sort by falling keys comes to: the greater key first, of two alike the one that was ahead. -/
def Lx (key : α → Int) (idx : α → Nat) (x y : α) : Prop := key y < key x ∨ key x = key y ∧ idx x < idx y
theorem Lx.trans {key : α → Int} {idx : α → Nat} {x y z : α} (h : Lx key idx x y) (g : Lx key idx y z) : Lx key idx x z := by
  unfold Lx at *; omega
theorem Lx.irrefl {key : α → Int} {idx : α → Nat} {x : α} (h : Lx key idx x x) : False := by
  unfold Lx at *; omega
/-- A stretch in order. -/
def Srt (key : α → Int) (idx : α → Nat) (d : Array α) (a b : Nat) : Prop := ∀ i j, a ≤ i → i < j → j < b → Lx key idx d[i]! d[j]!
/-- The same elements in a stretch, and outside it all as it was. -/
def Sam (d d' : Array α) (a b : Nat) : Prop := d'.size = d.size ∧ (∀ k, k < a ∨ b ≤ k → d'[k]! = d[k]!) ∧ (∀ k, a ≤ k → k < b → ∃ l, a ≤ l ∧ l < b ∧ d'[k]! = d[l]!) ∧ (∀ k, a ≤ k → k < b → ∃ l, a ≤ l ∧ l < b ∧ d[k]! = d'[l]!)
theorem Sam.refl (d : Array α) (a b : Nat) : Sam d d a b := ⟨rfl, fun _ _ => rfl, fun k h1 h2 => ⟨k, h1, h2, rfl⟩, fun k h1 h2 => ⟨k, h1, h2, rfl⟩⟩
theorem Sam.trans {d d' d'' : Array α} {a b : Nat} (h : Sam d d' a b) (g : Sam d' d'' a b) : Sam d d'' a b := by
  obtain ⟨h1, h2, h3, h4⟩ := h
  obtain ⟨g1, g2, g3, g4⟩ := g
  refine ⟨g1.trans h1, fun k hk => (g2 k hk).trans (h2 k hk), fun k a1 a2 => ?_, fun k a1 a2 => ?_⟩
  · obtain ⟨l, l1, l2, l3⟩ := g3 k a1 a2
    obtain ⟨m, m1, m2, m3⟩ := h3 l l1 l2
    exact ⟨m, m1, m2, l3.trans m3⟩
  · obtain ⟨l, l1, l2, l3⟩ := h4 k a1 a2
    obtain ⟨m, m1, m2, m3⟩ := g4 l l1 l2
    exact ⟨m, m1, m2, l3.trans m3⟩
theorem Sam.wide {d d' : Array α} {a b c e : Nat} (h : Sam d d' a b) (hc : c ≤ a) (he : b ≤ e) : Sam d d' c e := by
  obtain ⟨h1, h2, h3, h4⟩ := h
  refine ⟨h1, fun k hk => h2 k (by omega), fun k a1 a2 => ?_, fun k a1 a2 => ?_⟩
  · by_cases c1 : a ≤ k ∧ k < b
    · obtain ⟨l, l1, l2, l3⟩ := h3 k c1.1 c1.2; exact ⟨l, by omega, by omega, l3⟩
    · exact ⟨k, a1, a2, h2 k (by omega)⟩
  · by_cases c1 : a ≤ k ∧ k < b
    · obtain ⟨l, l1, l2, l3⟩ := h4 k c1.1 c1.2; exact ⟨l, by omega, by omega, l3⟩
    · exact ⟨k, a1, a2, (h2 k (by omega)).symm⟩
/-- What all of a stretch meet, all of it meet behind a change of places. -/
theorem Sam.all {d d' : Array α} {a b : Nat} (h : Sam d d' a b) {p : α → Prop} (hp : ∀ k, a ≤ k → k < b → p d[k]!) : ∀ k, a ≤ k → k < b → p d'[k]! := by
  intro k h1 h2
  obtain ⟨l, l1, l2, l3⟩ := h.2.2.1 k h1 h2
  rw [l3]; exact hp l l1 l2
theorem Sam.srt {key : α → Int} {idx : α → Nat} {d d' : Array α} {a b c e : Nat} (h : Sam d d' a b) (hs : Srt key idx d c e) (hd : e ≤ a ∨ b ≤ c) : Srt key idx d' c e := by
  intro i j h1 h2 h3
  rw [h.2.1 i (by omega), h.2.1 j (by omega)]; exact hs i j h1 h2 h3
theorem Sam.swp {d : Array α} {a b i j : Nat} (hi : a ≤ i ∧ i < b) (hj : a ≤ j ∧ j < b) (hb : b ≤ d.size) : Sam d (swp d i j) a b := by
  have g := swp_get d (i := i) (j := j) (by omega) (by omega)
  refine ⟨swp_size _ _ _, fun k hk => ?_, fun k a1 a2 => ?_, fun k a1 a2 => ?_⟩
  · rw [g, if_neg (by omega), if_neg (by omega)]
  · rw [g]
    by_cases c : k = j
    · rw [if_pos c]; exact ⟨i, hi.1, hi.2, rfl⟩
    · rw [if_neg c]
      by_cases c2 : k = i
      · rw [if_pos c2]; exact ⟨j, hj.1, hj.2, rfl⟩
      · rw [if_neg c2]; exact ⟨k, a1, a2, rfl⟩
  · by_cases c : k = i
    · subst c; exact ⟨j, hj.1, hj.2, by rw [g, if_pos rfl]⟩
    · by_cases c2 : k = j
      · subst c2
        refine ⟨i, hi.1, hi.2, ?_⟩
        rw [g, if_neg (by omega), if_pos rfl]
      · exact ⟨k, a1, a2, by rw [g, if_neg c2, if_neg c]⟩
theorem Sam.rot {d : Array α} {m i j : Nat} (hi : 1 ≤ i) (hj : 1 ≤ j) (him : i ≤ m) (hmj : m + j ≤ d.size) : Sam d (rotLoop m (i + j) d i j) (m - i) (m + j) := by
  have g := rotLoop_get m (i + j) d i j (by omega) hi hj him hmj
  refine ⟨rotLoop_size _ _ _ _ _, fun k hk => ?_, fun k a1 a2 => ?_, fun k a1 a2 => ?_⟩
  · rw [g, if_neg (by omega), if_neg (by omega)]
  · rw [g]
    by_cases c : m - i ≤ k ∧ k < m - i + j
    · rw [if_pos c]; exact ⟨k + i, by omega, by omega, rfl⟩
    · rw [if_neg c, if_pos (by omega)]; exact ⟨k - j, by omega, by omega, rfl⟩
  · by_cases c : k < m
    · refine ⟨k + j, by omega, by omega, ?_⟩
      rw [g, if_neg (by omega), if_pos (by omega)]; exact congrArg (fun q => d[q]!) (by omega)
    · refine ⟨k - i, by omega, by omega, ?_⟩
      rw [g, if_pos (by omega)]; exact congrArg (fun q => d[q]!) (by omega)
/-- What a merge asks: two ordered stretches, the first's elements all from ahead of the second's. -/
def Mrg (key : α → Int) (idx : α → Nat) (d : Array α) (a m b : Nat) : Prop :=
  Srt key idx d a m ∧ Srt key idx d m b ∧ (∀ i j, a ≤ i → i < m → m ≤ j → j < b → idx d[i]! < idx d[j]!)
theorem lx_of_idx {key : α → Int} {idx : α → Nat} {x y : α} (h : idx x < idx y) : (key x < key y ↔ Lx key idx y x) ∧ (¬ key x < key y ↔ Lx key idx x y) := by
  unfold Lx; omega
/-- Two ordered stretches, all of the first ahead of all of the second, are one. -/
theorem Srt.join {key : α → Int} {idx : α → Nat} {d : Array α} {a m b : Nat} (h1 : Srt key idx d a m) (h2 : Srt key idx d m b) (h : ∀ i j, a ≤ i → i < m → m ≤ j → j < b → Lx key idx d[i]! d[j]!) : Srt key idx d a b := by
  intro i j hi hij hj
  by_cases c : j < m
  · exact h1 i j hi hij c
  · by_cases c2 : m ≤ i
    · exact h2 i j c2 hij hj
    · exact h i j hi (by omega) (by omega) hj
/-- The first of the two stretches is one element: it goes to its place i (all from m to i are ahead of it, none from i on). -/
def shl1 (a : Nat) : Nat → Array α → Array α
  | 0, d => d
  | n + 1, d => swp (shl1 a n d) (a + n) (a + n + 1)
theorem shl1_size (a : Nat) : ∀ n (d : Array α), (shl1 a n d).size = d.size
  | 0, _ => rfl
  | n + 1, d => by rw [shl1, swp_size, shl1_size a n d]
theorem shl1_get (a : Nat) (d : Array α) : ∀ n, a + n < d.size → ∀ k, (shl1 a n d)[k]! = if a ≤ k ∧ k < a + n then d[k + 1]! else if k = a + n then d[a]! else d[k]! := by
  intro n
  induction n with
  | zero =>
    intro h k
    rw [if_neg (by omega)]
    by_cases c : k = a + 0
    · rw [if_pos c]; subst c; rfl
    · rw [if_neg c]; rfl
  | succ n ih =>
    intro h k
    have hz := shl1_size a n d
    have i1 := ih (by omega)
    rw [shl1, swp_get _ (by omega) (by omega)]
    by_cases c1 : k = a + n + 1
    · rw [if_pos c1, i1, if_neg (by omega), if_pos rfl, if_neg (by omega), if_pos (by omega)]
    rw [if_neg c1]
    by_cases c2 : k = a + n
    · rw [if_pos c2, i1, if_neg (by omega), if_neg (by omega), if_pos (by omega)]; exact congrArg (fun q => d[q]!) (by omega)
    rw [if_neg c2, i1]
    by_cases c3 : a ≤ k ∧ k < a + n
    · rw [if_pos c3, if_pos (by omega)]
    rw [if_neg c3, if_neg (by omega), if_neg (by omega), if_neg (by omega)]
/-- The last of a stretch goes n places down. -/
def shr1 (m : Nat) : Nat → Array α → Array α
  | 0, d => d
  | n + 1, d => swp (shr1 m n d) (m - n) (m - n - 1)
theorem shr1_size (m : Nat) : ∀ n (d : Array α), (shr1 m n d).size = d.size
  | 0, _ => rfl
  | n + 1, d => by rw [shr1, swp_size, shr1_size m n d]
theorem shr1_get (m : Nat) (d : Array α) (hm : m < d.size) : ∀ n, n ≤ m → ∀ k, (shr1 m n d)[k]! = if m - n < k ∧ k ≤ m then d[k - 1]! else if k = m - n then d[m]! else d[k]! := by
  intro n
  induction n with
  | zero =>
    intro h k
    rw [if_neg (by omega)]
    by_cases c : k = m - 0
    · rw [if_pos c]; subst c; rfl
    · rw [if_neg c]; rfl
  | succ n ih =>
    intro h k
    have hz := shr1_size m n d
    have i1 := ih (by omega)
    rw [shr1, swp_get _ (by omega) (by omega)]
    by_cases c1 : k = m - n - 1
    · rw [if_pos c1, i1, if_neg (by omega), if_pos rfl, if_neg (by omega), if_pos (by omega)]
    rw [if_neg c1]
    by_cases c2 : k = m - n
    · rw [if_pos c2, i1, if_neg (by omega), if_neg (by omega), if_pos (by omega)]; exact congrArg (fun q => d[q]!) (by omega)
    rw [if_neg c2, i1]
    by_cases c3 : m - n < k ∧ k ≤ m
    · rw [if_pos c3, if_pos (by omega)]
    rw [if_neg c3, if_neg (by omega), if_neg (by omega), if_neg (by omega)]
theorem Sam.shl1 {d : Array α} {a n b : Nat} (hn : a + n < b) (hb : b ≤ d.size) : ∀ q, q ≤ n → Sam d (shl1 a q d) a b
  | 0, _ => Sam.refl _ _ _
  | q + 1, h => (Sam.shl1 hn hb q (by omega)).trans (Sam.swp ⟨by omega, by omega⟩ ⟨by omega, by omega⟩ (by rw [shl1_size]; exact hb))
theorem Sam.shr1 {d : Array α} {a m n b : Nat} (hn : a + n ≤ m) (hm : m < b) (hb : b ≤ d.size) : ∀ q, q ≤ n → Sam d (shr1 m q d) a b
  | 0, _ => Sam.refl _ _ _
  | q + 1, h => (Sam.shr1 hn hm hb q (by omega)).trans (Sam.swp ⟨by omega, by omega⟩ ⟨by omega, by omega⟩ (by rw [shr1_size]; exact hb))
/-- One element, and an ordered stretch behind it: it goes behind those that are ahead of it. -/
theorem one_first {key : α → Int} {idx : α → Nat} {d : Array α} {a b i : Nat} (hM : Mrg key idx d a (a + 1) b) (hb : b ≤ d.size) (hi : a + 1 ≤ i ∧ i ≤ b)
    (h1 : i = a + 1 ∨ Lx key idx d[i - 1]! d[a]!) (h2 : i = b ∨ Lx key idx d[a]! d[i]!) : Srt key idx (shl1 a (i - 1 - a) d) a b := by
  obtain ⟨_, s2, _⟩ := hM
  have g := shl1_get a d (i - 1 - a) (by omega)
  have lo : ∀ k, a + 1 ≤ k → k < i → Lx key idx d[k]! d[a]! := by
    intro k k1 k2
    rcases h1 with h | h
    · omega
    · by_cases c : k = i - 1
      · subst c; exact h
      · exact (s2 k (i - 1) k1 (by omega) (by omega)).trans h
  have hi2 : ∀ k, i ≤ k → k < b → Lx key idx d[a]! d[k]! := by
    intro k k1 k2
    rcases h2 with h | h
    · omega
    · by_cases c : k = i
      · subst c; exact h
      · exact h.trans (s2 i k (by omega) (by omega) k2)
  intro p q hp hpq hq
  rw [g, g]
  by_cases c1 : a ≤ p ∧ p < a + (i - 1 - a)
  · rw [if_pos c1]
    by_cases c2 : a ≤ q ∧ q < a + (i - 1 - a)
    · rw [if_pos c2]; exact s2 _ _ (by omega) (by omega) (by omega)
    · rw [if_neg c2]
      by_cases c3 : q = a + (i - 1 - a)
      · rw [if_pos c3]; exact lo _ (by omega) (by omega)
      · rw [if_neg c3]; exact s2 _ _ (by omega) (by omega) (by omega)
  · rw [if_neg c1, if_neg (show ¬ (a ≤ q ∧ q < a + (i - 1 - a)) from by omega), if_neg (show ¬ q = a + (i - 1 - a) from by omega)]
    by_cases c3 : p = a + (i - 1 - a)
    · rw [if_pos c3]; exact hi2 _ (by omega) hq
    · rw [if_neg c3]; exact s2 _ _ (by omega) (by omega) hq
/-- An ordered stretch, and one element behind it. -/
theorem one_last {key : α → Int} {idx : α → Nat} {d : Array α} {a m i : Nat} (hM : Mrg key idx d a m (m + 1)) (hb : m + 1 ≤ d.size) (hi : a ≤ i ∧ i ≤ m)
    (h1 : i = a ∨ Lx key idx d[i - 1]! d[m]!) (h2 : i = m ∨ Lx key idx d[m]! d[i]!) : Srt key idx (shr1 m (m - i) d) a (m + 1) := by
  obtain ⟨s1, _, _⟩ := hM
  have g := shr1_get m d (by omega) (m - i) (by omega)
  have lo : ∀ k, a ≤ k → k < i → Lx key idx d[k]! d[m]! := by
    intro k k1 k2
    rcases h1 with h | h
    · omega
    · by_cases c : k = i - 1
      · subst c; exact h
      · exact (s1 k (i - 1) k1 (by omega) (by omega)).trans h
  have hi2 : ∀ k, i ≤ k → k < m → Lx key idx d[m]! d[k]! := by
    intro k k1 k2
    rcases h2 with h | h
    · omega
    · by_cases c : k = i
      · subst c; exact h
      · exact h.trans (s1 i k (by omega) (by omega) k2)
  intro p q hp hpq hq
  rw [g, g]
  by_cases c1 : m - (m - i) < p ∧ p ≤ m
  · rw [if_pos c1, if_pos (by omega)]; exact s1 _ _ (by omega) (by omega) (by omega)
  · rw [if_neg c1]
    by_cases c3 : p = m - (m - i)
    · rw [if_pos c3, if_pos (by omega)]; exact hi2 _ (by omega) (by omega)
    · rw [if_neg c3]
      by_cases c2 : m - (m - i) < q ∧ q ≤ m
      · rw [if_pos c2]; exact s1 _ _ (by omega) (by omega) (by omega)
      · rw [if_neg c2]
        by_cases c4 : q = m - (m - i)
        · rw [if_pos c4]; exact lo _ hp (by omega)
        · rw [if_neg c4]; exact s1 _ _ (by omega) (by omega) (by omega)
/-- Behind the turn about m of the stretch from s to e (s + e = m + mid): two merges are left, and all of the first is ahead of all of the second. -/
theorem turned {key : α → Int} {idx : α → Nat} {d d' : Array α} {a m b mid s e : Nat} (hM : Mrg key idx d a m b) (ha : a ≤ s ∧ s ≤ m) (he : m ≤ e ∧ e ≤ b) (hse : s + e = m + mid) (hb : b ≤ d.size)
    (hmid : a ≤ mid ∧ mid ≤ b) (h1 : s = a ∨ e = b ∨ Lx key idx d[s - 1]! d[e]!) (h2 : s = m ∨ e = m ∨ Lx key idx d[e - 1]! d[s]!)
    (hd : (s < m ∧ m < e ∧ d' = rotLoop m (m - s + (e - m)) d (m - s) (e - m)) ∨ ((s = m ∨ e = m) ∧ d' = d)) :
    Sam d d' a b ∧ Mrg key idx d' a s mid ∧ Mrg key idx d' mid e b ∧ ∀ i j, a ≤ i → i < mid → mid ≤ j → j < b → Lx key idx d'[i]! d'[j]! := by
  obtain ⟨s1, s2, s3⟩ := hM
  have A1 : ∀ k l, a ≤ k → k < s → e ≤ l → l < b → Lx key idx d[k]! d[l]! := by
    intro k l k1 k2 l1 l2
    rcases h1 with h | h | h
    · omega
    · omega
    · have x : Lx key idx d[k]! d[e]! := by
        by_cases c : k = s - 1
        · subst c; exact h
        · exact (s1 k (s - 1) k1 (by omega) (by omega)).trans h
      by_cases c : l = e
      · subst c; exact x
      · exact x.trans (s2 e l (by omega) (by omega) l2)
  have A2 : ∀ k l, m ≤ k → k < e → s ≤ l → l < m → Lx key idx d[k]! d[l]! := by
    intro k l k1 k2 l1 l2
    rcases h2 with h | h | h
    · omega
    · omega
    · have x : Lx key idx d[k]! d[s]! := by
        by_cases c : k = e - 1
        · subst c; exact h
        · exact (s2 k (e - 1) k1 (by omega) (by omega)).trans h
      by_cases c : l = s
      · subst c; exact x
      · exact x.trans (s1 s l (by omega) (by omega) l2)
  have G : Sam d d' a b ∧ ∀ k, d'[k]! = if s ≤ k ∧ k < mid then d[k + m - s]! else if mid ≤ k ∧ k < e then d[k + s - mid]! else d[k]! := by
    rcases hd with ⟨c1, c2, rfl⟩ | ⟨c1, rfl⟩
    · have g := rotLoop_get m (m - s + (e - m)) d (m - s) (e - m) (by omega) (by omega) (by omega) (by omega) (by omega)
      refine ⟨(Sam.rot (d := d) (m := m) (i := m - s) (j := e - m) (by omega) (by omega) (by omega) (by omega)).wide (by omega) (by omega), fun k => ?_⟩
      rw [g]
      by_cases x1 : s ≤ k ∧ k < mid
      · rw [if_pos x1, if_pos (by omega)]; exact congrArg (fun q => d[q]!) (by omega)
      rw [if_neg x1, if_neg (by omega)]
      by_cases x2 : mid ≤ k ∧ k < e
      · rw [if_pos x2, if_pos (by omega)]; exact congrArg (fun q => d[q]!) (by omega)
      rw [if_neg x2, if_neg (by omega)]
    · refine ⟨Sam.refl _ _ _, fun k => ?_⟩
      by_cases x1 : s ≤ k ∧ k < mid
      · rw [if_pos x1]; exact congrArg (fun q => d'[q]!) (by omega)
      rw [if_neg x1]
      by_cases x2 : mid ≤ k ∧ k < e
      · rw [if_pos x2]; exact congrArg (fun q => d'[q]!) (by omega)
      rw [if_neg x2]
  obtain ⟨GS, g⟩ := G
  have p1 : ∀ k, a ≤ k → k < s → d'[k]! = d[k]! := fun k k1 k2 => by rw [g, if_neg (by omega), if_neg (by omega)]
  have p2 : ∀ k, s ≤ k → k < mid → d'[k]! = d[k + m - s]! := fun k k1 k2 => by rw [g, if_pos (by omega)]
  have p3 : ∀ k, mid ≤ k → k < e → d'[k]! = d[k + s - mid]! := fun k k1 k2 => by rw [g, if_neg (by omega), if_pos (by omega)]
  have p4 : ∀ k, e ≤ k → k < b → d'[k]! = d[k]! := fun k k1 k2 => by rw [g, if_neg (by omega), if_neg (by omega)]
  refine ⟨GS, ⟨?_, ?_, ?_⟩, ⟨?_, ?_, ?_⟩, ?_⟩
  · intro i j i1 i2 i3; rw [p1 i i1 (by omega), p1 j (by omega) i3]; exact s1 i j i1 i2 (by omega)
  · intro i j i1 i2 i3; rw [p2 i i1 (by omega), p2 j (by omega) i3]; exact s2 _ _ (by omega) (by omega) (by omega)
  · intro i j i1 i2 i3 i4; rw [p1 i i1 i2, p2 j i3 i4]; exact s3 _ _ i1 (by omega) (by omega) (by omega)
  · intro i j i1 i2 i3; rw [p3 i i1 (by omega), p3 j (by omega) i3]; exact s1 _ _ (by omega) (by omega) (by omega)
  · intro i j i1 i2 i3; rw [p4 i i1 (by omega), p4 j (by omega) i3]; exact s2 _ _ (by omega) (by omega) (by omega)
  · intro i j i1 i2 i3 i4; rw [p3 i i1 i2, p4 j i3 i4]; exact s3 _ _ (by omega) (by omega) (by omega) (by omega)
  · intro i j i1 i2 i3 i4
    by_cases x1 : i < s
    · rw [p1 i i1 x1]
      by_cases x2 : j < e
      · rw [p3 j i3 x2]; exact s1 _ _ i1 (by omega) (by omega)
      · rw [p4 j (by omega) i4]; exact A1 _ _ i1 x1 (by omega) i4
    · rw [p2 i (by omega) i2]
      by_cases x2 : j < e
      · rw [p3 j i3 x2]; exact A2 _ _ (by omega) (by omega) (by omega) (by omega)
      · rw [p4 j (by omega) i4]; exact s2 _ _ (by omega) (by omega) i4
theorem Mrg.of_sam {key : α → Int} {idx : α → Nat} {d d' : Array α} {a m b c e : Nat} (h : Mrg key idx d a m b) (g : Sam d d' c e) (hm : a ≤ m ∧ m ≤ b) (hd : b ≤ c ∨ e ≤ a) : Mrg key idx d' a m b := by
  obtain ⟨s1, s2, s3⟩ := h
  have q : ∀ k, a ≤ k → k < b → d'[k]! = d[k]! := fun k k1 k2 => g.2.1 k (by omega)
  refine ⟨fun i j i1 i2 i3 => ?_, fun i j i1 i2 i3 => ?_, fun i j i1 i2 i3 i4 => ?_⟩
  · rw [q i i1 (by omega), q j (by omega) (by omega)]; exact s1 i j i1 i2 i3
  · rw [q i (by omega) (by omega), q j (by omega) i3]; exact s2 i j i1 i2 i3
  · rw [q i i1 (by omega), q j (by omega) i4]; exact s3 i j i1 i2 i3 i4
end Go.Proofs.YthaajkpiknbdbaaDoor.S

namespace Go.Proofs.YthaajkpiknbdbaaDoor.S
open Go.Shelf Go.RowKit Go.Lib Go.Sort
set_option linter.unusedVariables false
variable {α : Type} [Inhabited α]
set_option maxHeartbeats 4000000 in
set_option maxRecDepth 1000000 in
/-- slices.swapRangeCmpFunc: two stretches exchanged. -/
theorem swapRange_s (enc : α → Value) (g : Nat) (cb : Array Value) (blk off cap a b n : Nat) (d0 d : Array α) (w0 w : World)
    (R : Row1 enc w0 blk off d0) (hs : d0.size = d.size) (S : SW enc w0 blk off d w) (ha : a + n ≤ d.size) (hb : b + n ≤ d.size) (hsz : d.size < 4611686018427387904) :
    Calls Tryd.prog 107 #[.slice (some ⟨blk, off, none⟩) d.size cap, .int .i64 a, .int .i64 b, .int .i64 n, .func (.func g) #[] cb] w fun e w' => e = .returned (.tuple #[]) ∧ SW enc w0 blk off (swpRange d a b n) w' := by
  have mixed : Tryd.prog.follows .mixedOrders = true := by kernel_rfl
  have hcl0 := R.hO.cells
  simp only [Value.cells] at hcl0
  have hst := R.hO.store Tryd.prog
  have S0 : Aside (SW enc w0 blk off d w) := S
  clear S
  go_enter Tryd.func107, Tryd.ntmps107
  go_wp2
  go_loopg [10] n (fun kx s10 wr => ∃ (i : Nat), s10 = .int .i64 i ∧ i ≤ n ∧ n - i ≤ kx ∧ Aside (SW enc w0 blk off (swpRange d a b i) wr))
  case atStart => exact ⟨0, rfl, by omega, by omega, S0⟩
  case round =>
    clear S0
    obtain ⟨i, rfl, hin, hkx, S1⟩ := hrel
    have hds : (swpRange d a b i).size = d.size := swpRange_size _ _ _ _
    obtain ⟨dk, hdk⟩ : ∃ dk, dk = swpRange d a b i := ⟨_, rfl⟩
    rw [← hdk] at S1 hds
    by_cases hlt : (i : Int) < (n : Int)
    · go_wp2_with fail
      obtain ⟨iN, hiN⟩ : ∃ q, q = a + i := ⟨_, rfl⟩
      obtain ⟨jN, hjN⟩ : ∃ q, q = b + i := ⟨_, rfl⟩
      have ea : ((a : Int) + (i : Int)).toNat = iN := by omega
      have pa : (0 : Int) ≤ (a : Int) + (i : Int) := by omega
      have ba : (a : Int) + (i : Int) < (d.size : Int) := by omega
      have ra : IntKind.i64.wrap ((a : Int) + (i : Int)) = (a : Int) + (i : Int) := by rw [IntKind.wrap_i64]; omega
      have ec : ((b : Int) + (i : Int)).toNat = jN := by omega
      have pc : (0 : Int) ≤ (b : Int) + (i : Int) := by omega
      have bc : (b : Int) + (i : Int) < (d.size : Int) := by omega
      have rc : IntKind.i64.wrap ((b : Int) + (i : Int)) = (b : Int) + (i : Int) := by rw [IntKind.wrap_i64]; omega
      obtain ⟨x, hx⟩ : ∃ x, x = dk[a + i]! := ⟨_, rfl⟩
      obtain ⟨y, hy⟩ : ∃ x, x = dk[b + i]! := ⟨_, rfl⟩
      have S2 : Aside (SW enc w0 blk off (swp dk (a + i) (b + i)) ((wr.setCell ⟨blk, off + iN, none⟩ (enc y)).setCell ⟨blk, off + jN, none⟩ (enc x)).drew) := by rw [hiN, hjN, hx, hy]; exact S1.out.swapped R (a + i) (b + i) (by omega) (by omega)
      have c1a := S1.out.c1 R (by omega) (a + i) (by omega)
      have c1b := S1.out.c1 R (by omega) (b + i) (by omega)
      have f1a := S1.out.f1 R (by omega) (a + i) (by omega)
      have f1b := S1.out.f1 R (by omega) (b + i) (by omega)
      obtain ⟨u, c1c⟩ := S1.out.c2 R (by omega) (a + i) (b + i) (by omega) (by omega) (enc y)
      rw [← hjN, ← hiN] at c1c
      rw [← hx, ← hiN] at c1a
      rw [← hy, ← hjN] at c1b
      rw [← hiN] at f1a
      rw [← hjN] at f1b
      clear S1 hx hy hiN hjN
      go_wp2_with fail
      go_big_region_o
      clear c1a c1b c1c f1a f1b
      generalize ((wr.setCell ⟨blk, off + iN, none⟩ (enc y)).setCell ⟨blk, off + jN, none⟩ (enc x)).drew = w2 at S2 ⊢
      clear ea ec
      go_wp2
      go_roundg (n - (i + 1))
      case measure => omega
      case rel => exact ⟨i + 1, by simp, by omega, Nat.le_refl _, by rw [swpRange, ← hdk]; exact S2⟩
    · go_wp2
      go_end0
      have : i = n := by omega
      subst this
      exact ⟨rfl, by rw [← hdk]; exact S1.out⟩
set_option maxHeartbeats 4000000 in
set_option maxRecDepth 1000000 in
/-- slices.rotateCmpFunc: a stretch turned about its middle. -/
theorem rotate_s (enc : α → Value) (g : Nat) (cb : Array Value) (blk off cap a m b : Nat) (d0 d : Array α) (w0 w : World)
    (R : Row1 enc w0 blk off d0) (hs : d0.size = d.size) (S : SW enc w0 blk off d w) (ha : a < m) (hm : m < b) (hb : b ≤ d.size) (hsz : d.size < 4611686018427387904) :
    Calls Tryd.prog 105 #[.slice (some ⟨blk, off, none⟩) d.size cap, .int .i64 a, .int .i64 m, .int .i64 b, .func (.func g) #[] cb] w fun e w' => e = .returned (.tuple #[]) ∧ SW enc w0 blk off (rotLoop m (m - a + (b - m)) d (m - a) (b - m)) w' := by
  have mixed : Tryd.prog.follows .mixedOrders = true := by kernel_rfl
  have hcl0 := R.hO.cells
  simp only [Value.cells] at hcl0
  have hst := R.hO.store Tryd.prog
  have S0 : Aside (SW enc w0 blk off d w) := S
  clear S
  have eSR : ∀ args w, (callFunc 107 args).run Tryd.prog w = .ok (.enter 107 args) w := enters_of Tryd.func107 (by kernel_rfl) rfl
  have e1 : ((m - a : Nat) : Int) = (m : Int) - (a : Int) := by omega
  have e2 : ((b - m : Nat) : Int) = (b : Int) - (m : Int) := by omega
  have n1 : IntKind.i64.wrap ((m : Int) - (a : Int)) = (m : Int) - (a : Int) := by rw [IntKind.wrap_i64]; omega
  have n2 : IntKind.i64.wrap ((b : Int) - (m : Int)) = (b : Int) - (m : Int) := by rw [IntKind.wrap_i64]; omega
  go_enter Tryd.func105, Tryd.ntmps105
  go_wp2
  go_loopg [10, 11] (m - a + (b - m)) (fun kx s10 s11 wr => ∃ (i j : Nat) (dk : Array α), s10 = .int .i64 i ∧ s11 = .int .i64 j ∧ 1 ≤ i ∧ 1 ≤ j ∧ i ≤ m ∧ m + j ≤ d.size ∧ i + j ≤ kx + 1 ∧ dk.size = d.size ∧ Aside (SW enc w0 blk off dk wr) ∧
    Hid (rotLoop m kx dk i j = rotLoop m (m - a + (b - m)) d (m - a) (b - m)))
  case atStart => exact ⟨m - a, b - m, d, by simp [e1], by simp [e2], by omega, by omega, by omega, by omega, by omega, rfl, S0, rfl⟩
  case round =>
    clear S0 n1 n2 e1 e2
    obtain ⟨i, j, dk, rfl, rfl, hi, hj, him, hmj, hkx, hds, S1, HE⟩ := hrel
    have zmi : ((m - i : Nat) : Int) = (m : Int) - (i : Int) := by omega
    have wmi : IntKind.i64.wrap ((m : Int) - (i : Int)) = (m : Int) - (i : Int) := by rw [IntKind.wrap_i64]; omega
    by_cases hij : i = j
    · subst hij
      have hneq : ¬ ((i : Int) ≠ (i : Int)) := by omega
      have hcall := swapRange_s enc g cb blk off cap (m - i) m i d0 dk w0 wr R (by omega) S1.out (by omega) (by omega) (by omega)
      rw [hds, zmi] at hcall
      have hend : rotLoop m gk dk i i = swpRange dk (m - i) m i := by
        cases gk with
        | zero => rfl
        | succ f => rw [rotLoop, if_pos rfl]
      clear S1
      go_wp2_with (go_at_fn 107; refine hcall.mono ?_; rintro e w1 ⟨rfl, S3⟩)
      go_end0
      refine ⟨rfl, ?_⟩
      rw [← HE.out, hend]; exact S3
    · have hneq : ¬ ((i : Int) = (j : Int)) := by omega
      cases gk with
      | zero => omega
      | succ f =>
        by_cases hlt : j < i
        · have hgt : (j : Int) < (i : Int) := by omega
          have zij : ((i - j : Nat) : Int) = (i : Int) - (j : Int) := by omega
          have hcall := swapRange_s enc g cb blk off cap (m - i) m j d0 dk w0 wr R (by omega) S1.out (by omega) (by omega) (by omega)
          rw [hds, zmi] at hcall
          have hstep : rotLoop m (f + 1) dk i j = rotLoop m f (swpRange dk (m - i) m j) (i - j) j := by rw [rotLoop, if_neg hij, if_pos hlt]
          rw [hstep] at HE
          clear S1
          go_wp2_with (go_at_fn 107; refine hcall.mono ?_; rintro e w1 ⟨rfl, S3⟩)
          go_roundg f
          case measure => omega
          case rel => exact ⟨i - j, j, _, by first | rw [zij] | simp [zij], rfl, by omega, hj, by omega, hmj, by omega, by rw [swpRange_size]; exact hds, S3, HE⟩
        · have hgt : ¬ (j : Int) < (i : Int) := by omega
          have zji : ((j - i : Nat) : Int) = (j : Int) - (i : Int) := by omega
          have wmj : IntKind.i64.wrap ((m : Int) + (j : Int)) = (m : Int) + (j : Int) := by rw [IntKind.wrap_i64]; omega
          have wmji : IntKind.i64.wrap ((m : Int) + (j : Int) - (i : Int)) = (m : Int) + (j : Int) - (i : Int) := by rw [IntKind.wrap_i64]; omega
          have zmji : ((m + j - i : Nat) : Int) = (m : Int) + (j : Int) - (i : Int) := by omega
          have hcall := swapRange_s enc g cb blk off cap (m - i) (m + j - i) i d0 dk w0 wr R (by omega) S1.out (by omega) (by omega) (by omega)
          rw [hds, zmi, zmji] at hcall
          have hstep : rotLoop m (f + 1) dk i j = rotLoop m f (swpRange dk (m - i) (m + j - i) i) i (j - i) := by rw [rotLoop, if_neg hij, if_neg hlt]
          rw [hstep] at HE
          clear S1
          go_wp2_with (go_at_fn 107; refine hcall.mono ?_; rintro e w1 ⟨rfl, S3⟩)
          go_roundg f
          case measure => omega
          case rel => exact ⟨i, j - i, _, rfl, by first | rw [zji] | simp [zji], hi, by omega, him, by omega, by omega, by rw [swpRange_size]; exact hds, S3, HE⟩
end Go.Proofs.YthaajkpiknbdbaaDoor.S
