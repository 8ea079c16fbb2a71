/- Joined by wip/tools/bundle.py out of: QAx1 QAx2 QAx3 QAx4 QAx5. -/
import Derived.Test.YtjenkaobmlpbgaaDoorBOpChains0
namespace Go.Proofs.YtjenkaobmlpbgaaDoor.QA
open Go.Proofs.YtjenkaobmlpbgaaDoor.T
open Go.RowKit Go.Proofs.YtjenkaobmlpbgaaDoorW.PrintWords Go.Proofs.YtjenkaobmlpbgaaDoorW.PrintLast Go.Proofs.YtjenkaobmlpbgaaDoorW.PrintMore
attribute [local go_sem] ext_call max2_int min2_int max_two min_two max_three min_three max_four min_four   -- for this text's walks alone
set_option linter.unusedVariables false
set_option linter.unusedSimpArgs false
def op_side.f (a0 : Int) : Option (Bool) := if a0 ≥ 1 then (some (decide (a0 ≤ 65536))) else (some false)
set_option maxHeartbeats 8000000 in
set_option maxRecDepth 100000 in
theorem op_side.calls (a0 : Int) (r : Bool) (w : World) (h : op_side.f a0 = some r) :
  Calls Tryd.prog 17 #[.int .i64 a0] w fun e w' => e = .returned (.bool r) ∧ Drawn0 w w' := by
 have H : (if a0 ≥ 1 then (some (decide (a0 ≤ 65536))) else (some false)) = some r := h
 clear h
 by_cases c2 : a0 ≥ 1
 ·rw [if_pos c2] at H
  have c2b0 : decide (1 ≤ a0) = true := decide_eq_true c2
  clear c2
  obtain rfl := Option.some.inj H
  go_enter Tryd.func17, Tryd.ntmps17
  go_wp2
  go_ret
  exact ⟨by first | rfl | (simp; done) | (simp [*]; done), by repeat (first | exact Drawn0.refl _ | apply Drawn0.step)⟩
 ·rw [if_neg c2] at H
  have c2b0 : decide (1 ≤ a0) = false := decide_eq_false c2
  clear c2
  obtain rfl := Option.some.inj H
  go_enter Tryd.func17, Tryd.ntmps17
  go_wp2
  go_ret
  exact ⟨by first | rfl | (simp; done) | (simp [*]; done), by repeat (first | exact Drawn0.refl _ | apply Drawn0.step)⟩
def border_Name_at0.f : Option (ByteArray) := some (⟨#[99, 108, 97, 109, 112]⟩ : ByteArray)
set_option maxHeartbeats 8000000 in
set_option maxRecDepth 100000 in
theorem border_Name_at0.calls (r : ByteArray) (w : World) (hG : GL w) (h : border_Name_at0.f = some r) :
  Calls Tryd.prog 27 #[.int .i64 0] w fun e w' => e = .returned (.string r) ∧ Drawn0 w w' := by
 have H : (some (⟨#[99, 108, 97, 109, 112]⟩ : ByteArray)) = some r := h
 clear h
 obtain ⟨⟨h0_0, h0_1, h0_2, h0_3, h0_4, h0_5⟩, ⟨ga1_, gc1_, gl1_, gs1_, h1_0, h1_1, h1_2⟩⟩ := hG
 obtain rfl := Option.some.inj H
 go_enter Tryd.func27, Tryd.ntmps27
 go_wp2
 go_ret
 exact ⟨by first | rfl | (simp; done) | (simp [*]; done), by repeat (first | exact Drawn0.refl _ | apply Drawn0.step)⟩
def border_Name_at1.f : Option (ByteArray) := some (⟨#[109, 105, 114, 114, 111, 114]⟩ : ByteArray)
set_option maxHeartbeats 8000000 in
set_option maxRecDepth 100000 in
theorem border_Name_at1.calls (r : ByteArray) (w : World) (hG : GL w) (h : border_Name_at1.f = some r) :
  Calls Tryd.prog 27 #[.int .i64 1] w fun e w' => e = .returned (.string r) ∧ Drawn0 w w' := by
 have H : (some (⟨#[109, 105, 114, 114, 111, 114]⟩ : ByteArray)) = some r := h
 clear h
 obtain ⟨⟨h0_0, h0_1, h0_2, h0_3, h0_4, h0_5⟩, ⟨ga1_, gc1_, gl1_, gs1_, h1_0, h1_1, h1_2⟩⟩ := hG
 obtain rfl := Option.some.inj H
 go_enter Tryd.func27, Tryd.ntmps27
 go_wp2
 go_ret
 exact ⟨by first | rfl | (simp; done) | (simp [*]; done), by repeat (first | exact Drawn0.refl _ | apply Drawn0.step)⟩
def border_Name_at2.f : Option (ByteArray) := some (⟨#[119, 114, 97, 112]⟩ : ByteArray)
set_option maxHeartbeats 8000000 in
set_option maxRecDepth 100000 in
theorem border_Name_at2.calls (r : ByteArray) (w : World) (hG : GL w) (h : border_Name_at2.f = some r) :
  Calls Tryd.prog 27 #[.int .i64 2] w fun e w' => e = .returned (.string r) ∧ Drawn0 w w' := by
 have H : (some (⟨#[119, 114, 97, 112]⟩ : ByteArray)) = some r := h
 clear h
 obtain ⟨⟨h0_0, h0_1, h0_2, h0_3, h0_4, h0_5⟩, ⟨ga1_, gc1_, gl1_, gs1_, h1_0, h1_1, h1_2⟩⟩ := hG
 obtain rfl := Option.some.inj H
 go_enter Tryd.func27, Tryd.ntmps27
 go_wp2
 go_ret
 exact ⟨by first | rfl | (simp; done) | (simp [*]; done), by repeat (first | exact Drawn0.refl _ | apply Drawn0.step)⟩
def border_Name_gen.f (a0 : Int) : Option (ByteArray) := if a0 < 0 then (some (⟨#[]⟩ : ByteArray)) else (if a0 ≥ 3 then (some (⟨#[]⟩ : ByteArray)) else (none))
set_option maxHeartbeats 8000000 in
set_option maxRecDepth 100000 in
theorem border_Name_gen.calls (a0 : Int) (r : ByteArray) (w : World) (hG : GL w) (h : border_Name_gen.f a0 = some r) :
  Calls Tryd.prog 27 #[.int .i64 a0] w fun e w' => e = .returned (.string r) ∧ Drawn0 w w' := by
 have H : (if a0 < 0 then (some (⟨#[]⟩ : ByteArray)) else (if a0 ≥ 3 then (some (⟨#[]⟩ : ByteArray)) else (none))) = some r := h
 clear h
 obtain ⟨⟨h0_0, h0_1, h0_2, h0_3, h0_4, h0_5⟩, ⟨ga1_, gc1_, gl1_, gs1_, h1_0, h1_1, h1_2⟩⟩ := hG
 by_cases c2 : a0 < 0
 ·rw [if_pos c2] at H
  have c2b0 : decide (a0 < 0) = true := decide_eq_true c2
  clear c2
  obtain rfl := Option.some.inj H
  go_enter Tryd.func27, Tryd.ntmps27
  go_wp2
  go_ret
  exact ⟨by first | rfl | (simp; done) | (simp [*]; done), by repeat (first | exact Drawn0.refl _ | apply Drawn0.step)⟩
 ·rw [if_neg c2] at H
  have c2b0 : decide (a0 < 0) = false := decide_eq_false c2
  clear c2
  by_cases c3 : a0 ≥ 3
  ·rw [if_pos c3] at H
   have c3b0 : decide (3 ≤ a0) = true := decide_eq_true c3
   clear c3
   obtain rfl := Option.some.inj H
   go_enter Tryd.func27, Tryd.ntmps27
   go_wp2
   go_ret
   exact ⟨by first | rfl | (simp; done) | (simp [*]; done), by repeat (first | exact Drawn0.refl _ | apply Drawn0.step)⟩
  ·rw [if_neg c3] at H
   exact absurd H (by simp)
def border_Name.f (a0 : Int) : Option (ByteArray) := if a0 = 0 then border_Name_at0.f else if a0 = 1 then border_Name_at1.f else if a0 = 2 then border_Name_at2.f else border_Name_gen.f a0
theorem border_Name.calls (a0 : Int) (r : ByteArray) (w : World) (hG : GL w) (h : border_Name.f a0 = some r) :
  Calls Tryd.prog 27 #[.int .i64 a0] w fun e w' => e = .returned (.string r) ∧ Drawn0 w w' := by
 unfold border_Name.f at h
 by_cases c0 : a0 = 0
 ·subst c0; exact border_Name_at0.calls r w hG (by rw [if_pos rfl] at h; exact h)
 ·rw [if_neg c0] at h
  by_cases c1 : a0 = 1
  ·subst c1; exact border_Name_at1.calls r w hG (by rw [if_pos rfl] at h; exact h)
  ·rw [if_neg c1] at h
   by_cases c2 : a0 = 2
   ·subst c2; exact border_Name_at2.calls r w hG (by rw [if_pos rfl] at h; exact h)
   ·rw [if_neg c2] at h
    exact border_Name_gen.calls a0 r w hG h
def raw_Name_at0.f : Option (ByteArray) := some (⟨#[98, 111, 120]⟩ : ByteArray)
set_option maxHeartbeats 8000000 in
set_option maxRecDepth 100000 in
theorem raw_Name_at0.calls (r : ByteArray) (w : World) (hG : GL w) (h : raw_Name_at0.f = some r) :
  Calls Tryd.prog 28 #[.int .i64 0] w fun e w' => e = .returned (.string r) ∧ Drawn0 w w' := by
 have H : (some (⟨#[98, 111, 120]⟩ : ByteArray)) = some r := h
 clear h
 obtain ⟨⟨h0_0, h0_1, h0_2, h0_3, h0_4, h0_5⟩, ⟨ga1_, gc1_, gl1_, gs1_, h1_0, h1_1, h1_2⟩⟩ := hG
 obtain rfl := Option.some.inj H
 go_enter Tryd.func28, Tryd.ntmps28
 go_wp2
 go_ret
 exact ⟨by first | rfl | (simp; done) | (simp [*]; done), by repeat (first | exact Drawn0.refl _ | apply Drawn0.step)⟩
def raw_Name_at1.f : Option (ByteArray) := some (⟨#[99, 117, 98, 105, 99]⟩ : ByteArray)
set_option maxHeartbeats 8000000 in
set_option maxRecDepth 100000 in
theorem raw_Name_at1.calls (r : ByteArray) (w : World) (hG : GL w) (h : raw_Name_at1.f = some r) :
  Calls Tryd.prog 28 #[.int .i64 1] w fun e w' => e = .returned (.string r) ∧ Drawn0 w w' := by
 have H : (some (⟨#[99, 117, 98, 105, 99]⟩ : ByteArray)) = some r := h
 clear h
 obtain ⟨⟨h0_0, h0_1, h0_2, h0_3, h0_4, h0_5⟩, ⟨ga1_, gc1_, gl1_, gs1_, h1_0, h1_1, h1_2⟩⟩ := hG
 obtain rfl := Option.some.inj H
 go_enter Tryd.func28, Tryd.ntmps28
 go_wp2
 go_ret
 exact ⟨by first | rfl | (simp; done) | (simp [*]; done), by repeat (first | exact Drawn0.refl _ | apply Drawn0.step)⟩
def raw_Name_at2.f : Option (ByteArray) := some (⟨#[108, 97, 110, 99, 122, 111, 115]⟩ : ByteArray)
set_option maxHeartbeats 8000000 in
set_option maxRecDepth 100000 in
theorem raw_Name_at2.calls (r : ByteArray) (w : World) (hG : GL w) (h : raw_Name_at2.f = some r) :
  Calls Tryd.prog 28 #[.int .i64 2] w fun e w' => e = .returned (.string r) ∧ Drawn0 w w' := by
 have H : (some (⟨#[108, 97, 110, 99, 122, 111, 115]⟩ : ByteArray)) = some r := h
 clear h
 obtain ⟨⟨h0_0, h0_1, h0_2, h0_3, h0_4, h0_5⟩, ⟨ga1_, gc1_, gl1_, gs1_, h1_0, h1_1, h1_2⟩⟩ := hG
 obtain rfl := Option.some.inj H
 go_enter Tryd.func28, Tryd.ntmps28
 go_wp2
 go_ret
 exact ⟨by first | rfl | (simp; done) | (simp [*]; done), by repeat (first | exact Drawn0.refl _ | apply Drawn0.step)⟩
def raw_Name_gen.f (a0 : Int) : Option (ByteArray) := if a0 < 0 then (some (⟨#[]⟩ : ByteArray)) else (if a0 ≥ 3 then (some (⟨#[]⟩ : ByteArray)) else (none))
set_option maxHeartbeats 8000000 in
set_option maxRecDepth 100000 in
theorem raw_Name_gen.calls (a0 : Int) (r : ByteArray) (w : World) (hG : GL w) (h : raw_Name_gen.f a0 = some r) :
  Calls Tryd.prog 28 #[.int .i64 a0] w fun e w' => e = .returned (.string r) ∧ Drawn0 w w' := by
 have H : (if a0 < 0 then (some (⟨#[]⟩ : ByteArray)) else (if a0 ≥ 3 then (some (⟨#[]⟩ : ByteArray)) else (none))) = some r := h
 clear h
 obtain ⟨⟨h0_0, h0_1, h0_2, h0_3, h0_4, h0_5⟩, ⟨ga1_, gc1_, gl1_, gs1_, h1_0, h1_1, h1_2⟩⟩ := hG
 by_cases c2 : a0 < 0
 ·rw [if_pos c2] at H
  have c2b0 : decide (a0 < 0) = true := decide_eq_true c2
  clear c2
  obtain rfl := Option.some.inj H
  go_enter Tryd.func28, Tryd.ntmps28
  go_wp2
  go_ret
  exact ⟨by first | rfl | (simp; done) | (simp [*]; done), by repeat (first | exact Drawn0.refl _ | apply Drawn0.step)⟩
 ·rw [if_neg c2] at H
  have c2b0 : decide (a0 < 0) = false := decide_eq_false c2
  clear c2
  by_cases c3 : a0 ≥ 3
  ·rw [if_pos c3] at H
   have c3b0 : decide (3 ≤ a0) = true := decide_eq_true c3
   clear c3
   obtain rfl := Option.some.inj H
   go_enter Tryd.func28, Tryd.ntmps28
   go_wp2
   go_ret
   exact ⟨by first | rfl | (simp; done) | (simp [*]; done), by repeat (first | exact Drawn0.refl _ | apply Drawn0.step)⟩
  ·rw [if_neg c3] at H
   exact absurd H (by simp)
def raw_Name.f (a0 : Int) : Option (ByteArray) := if a0 = 0 then raw_Name_at0.f else if a0 = 1 then raw_Name_at1.f else if a0 = 2 then raw_Name_at2.f else raw_Name_gen.f a0
theorem raw_Name.calls (a0 : Int) (r : ByteArray) (w : World) (hG : GL w) (h : raw_Name.f a0 = some r) :
  Calls Tryd.prog 28 #[.int .i64 a0] w fun e w' => e = .returned (.string r) ∧ Drawn0 w w' := by
 unfold raw_Name.f at h
 by_cases c0 : a0 = 0
 ·subst c0; exact raw_Name_at0.calls r w hG (by rw [if_pos rfl] at h; exact h)
 ·rw [if_neg c0] at h
  by_cases c1 : a0 = 1
  ·subst c1; exact raw_Name_at1.calls r w hG (by rw [if_pos rfl] at h; exact h)
  ·rw [if_neg c1] at h
   by_cases c2 : a0 = 2
   ·subst c2; exact raw_Name_at2.calls r w hG (by rw [if_pos rfl] at h; exact h)
   ·rw [if_neg c2] at h
    exact raw_Name_gen.calls a0 r w hG h
end Go.Proofs.YtjenkaobmlpbgaaDoor.QA

namespace Go.Proofs.YtjenkaobmlpbgaaDoor.QA
open Go.Proofs.YtjenkaobmlpbgaaDoor.T
open Go.RowKit Go.Proofs.YtjenkaobmlpbgaaDoorW.PrintWords Go.Proofs.YtjenkaobmlpbgaaDoorW.PrintLast Go.Proofs.YtjenkaobmlpbgaaDoorW.PrintMore
attribute [local go_sem] ext_call max2_int min2_int max_two min_two max_three min_three max_four min_four   -- for this text's walks alone
set_option linter.unusedVariables false
set_option linter.unusedSimpArgs false
def op_may.j0 : Nat → Bool → Int → Int → Int → Int → List Int → List Int → Int → Int → Int → Option (Bool)
 | 0, _, _, _, _, _, _, _, _, _, _ => none
 | k + 1, x16, x102000, x102001, x102002, x102003, x102004, x102005, x102006, x102007, x102008 => if x16 = true then (some false) else (if x102000 = 3 then ((op_side.f x102007).bind fun t103 => (if t103 = true then ((op_side.f x102008).bind fun t104 => (if t104 = true then ((raw_Name.f x102006).bind fun t105 => (some (t105.toList != ([] : List UInt8)))) else (some false))) else (some false))) else (some true))
def op_may.f (k : Nat) (a0_0 : Int) (a0_1 : Int) (a0_2 : Int) (a0_3 : Int) (l0_4 : List Int) (l0_5 : List Int) (a0_6 : Int) (a0_7 : Int) (a0_8 : Int) : Option (Bool) := if a0_0 < 0 then (op_may.j0 k true a0_0 a0_1 a0_2 a0_3 l0_4 l0_5 a0_6 a0_7 a0_8) else (if a0_0 ≥ 4 then (op_may.j0 k true a0_0 a0_1 a0_2 a0_3 l0_4 l0_5 a0_6 a0_7 a0_8) else ((border_Name.f a0_1).bind fun t102 => (op_may.j0 k (t102.toList == ([] : List UInt8)) a0_0 a0_1 a0_2 a0_3 l0_4 l0_5 a0_6 a0_7 a0_8)))
set_option maxHeartbeats 8000000 in
set_option maxRecDepth 100000 in
theorem op_may.calls (k : Nat) (a0_0 : Int) (a0_1 : Int) (a0_2 : Int) (a0_3 : Int) (A0_4 : Option Addr) (c0_4 : Nat) (l0_4 : List Int) (A0_5 : Option Addr) (c0_5 : Nat) (l0_5 : List Int) (a0_6 : Int) (a0_7 : Int) (a0_8 : Int) (r : Bool) (w : World) (hr0_4 : Kd.C (Kd.int .i64) w A0_4 l0_4.length l0_4) (hc0_4 : l0_4.length ≤ c0_4) (hr0_5 : Kd.C (Kd.int .i64) w A0_5 l0_5.length l0_5) (hc0_5 : l0_5.length ≤ c0_5) (hG : GL w) (h : op_may.f k a0_0 a0_1 a0_2 a0_3 l0_4 l0_5 a0_6 a0_7 a0_8 = some r) :
  Calls Tryd.prog 16 #[.agg #[.int .i64 a0_0, .int .i64 a0_1, .int .i64 a0_2, .int .i64 a0_3, .slice A0_4 l0_4.length c0_4, .slice A0_5 l0_5.length c0_5, .int .i64 a0_6, .int .i64 a0_7, .int .i64 a0_8]] w fun e w' => e = .returned (.bool r) ∧ Below w.heap.size w w' := by
 have hu34 := Tryd.underlying34
 have HR0_4 := Aside0.mk hr0_4
 have HC0_4 := Aside0.mk hc0_4
 clear hr0_4 hc0_4
 have HR0_5 := Aside0.mk hr0_5
 have HC0_5 := Aside0.mk hc0_5
 clear hr0_5 hc0_5
 have HB := Aside0.mk (Below.refl w.heap.size w)
 have H : (if a0_0 < 0 then (op_may.j0 k true a0_0 a0_1 a0_2 a0_3 l0_4 l0_5 a0_6 a0_7 a0_8) else (if a0_0 ≥ 4 then (op_may.j0 k true a0_0 a0_1 a0_2 a0_3 l0_4 l0_5 a0_6 a0_7 a0_8) else ((border_Name.f a0_1).bind fun t102 => (op_may.j0 k (t102.toList == ([] : List UInt8)) a0_0 a0_1 a0_2 a0_3 l0_4 l0_5 a0_6 a0_7 a0_8)))) = some r := h
 clear h
 have HC2 := Aside0.mk H
 clear H
 go_enter Tryd.func16, Tryd.ntmps16
 go_upto_region 1 with (first | ((with_reducible refine gate_dst (N := 1) rfl ?_); refine box_event ?hg (N := 1) ?hd (cs := #[.int .i64 a0_0, .int .i64 a0_1, .int .i64 a0_2, .int .i64 a0_3, .slice A0_4 l0_4.length c0_4, .slice A0_5 l0_5.length c0_5, .int .i64 a0_6, .int .i64 a0_7, .int .i64 a0_8]) (t := 34) ?hr ?_; (case hd => rfl); (case hg => rfl); (case hr => first | (go_simp; done) | (go_simp; rfl)); intro gb101 hg w3 hbox hb; have n0_ := Aside0.mk (below_step (by repeat (first | (with_reducible first | exact HB.out | apply below_alloc | apply pw_below_drewN | apply below_drew1) | exact HB.out)) hb); have n1_ := Aside0.mk (hbox); have n2_ := Aside0.mk ((by rw [hg]; exact (below_size (by repeat (first | (with_reducible first | exact HB.out | apply below_alloc | apply pw_below_drewN | apply below_drew1) | exact HB.out))) : w.heap.size ≤ gb101)); have n3_ := Aside0.mk ((by rw [hg]; exact (below_size (by repeat (first | (with_reducible first | exact HB.out | apply below_alloc | apply pw_below_drewN | apply below_drew1) | exact HB.out))) : w.heap.size ≤ gb101)); clear HB; have HB := n0_; have BK101 := n1_; have GW101 := n2_; have GE101 := n3_; clear n0_ n1_ n2_ n3_; clear hb hbox hg))
 (try simp only [Act.put, List.setIfInBounds_toArray, List.set_cons_zero, List.set_cons_succ])
 go_cut [16] (fun v16 wc => ∃ (kq : Nat) (x16_1 : Bool), v16 = .bool x16_1 ∧ Aside0 (op_may.j0 kq x16_1 a0_0 a0_1 a0_2 a0_3 l0_4 l0_5 a0_6 a0_7 a0_8 = some r) ∧ Aside0 (kq ≤ k) ∧ Aside0 (wc.heap[gb101]? = some (.cells #[.int .i64 a0_0, .int .i64 a0_1, .int .i64 a0_2, .int .i64 a0_3, (.slice A0_4 l0_4.length c0_4), (.slice A0_5 l0_5.length c0_5), .int .i64 a0_6, .int .i64 a0_7, .int .i64 a0_8] 34 (0, 0))) ∧ Aside0 (Below w.heap.size w wc))
 case first =>
  have H := HC2.out
  clear HC2
  by_cases c4 : a0_0 < 0
  ·rw [if_pos c4] at H
   have c4b0 : decide (a0_0 < 0) = true := decide_eq_true c4
   clear c4
   (first | rw [c4b0] | (simp only [i64_w, i32_w]; rw [c4b0]) | skip)
   have H' := Aside0.mk H
   clear H
   have hcz5_0 : w3.cell? ⟨gb101, 0, none⟩ = some (.int .i64 a0_0) := (blk_cell BK101.out 0).trans rfl
   have hcz5_1 : w3.cell? ⟨gb101, 1, none⟩ = some (.int .i64 a0_1) := (blk_cell BK101.out 1).trans rfl
   have hcz5_2 : w3.cell? ⟨gb101, 2, none⟩ = some (.int .i64 a0_2) := (blk_cell BK101.out 2).trans rfl
   have hcz5_3 : w3.cell? ⟨gb101, 3, none⟩ = some (.int .i64 a0_3) := (blk_cell BK101.out 3).trans rfl
   have hcz5_4 : w3.cell? ⟨gb101, 4, none⟩ = some (.slice A0_4 l0_4.length c0_4) := (blk_cell BK101.out 4).trans rfl
   have hcz5_5 : w3.cell? ⟨gb101, 5, none⟩ = some (.slice A0_5 l0_5.length c0_5) := (blk_cell BK101.out 5).trans rfl
   have hcz5_6 : w3.cell? ⟨gb101, 6, none⟩ = some (.int .i64 a0_6) := (blk_cell BK101.out 6).trans rfl
   have hcz5_7 : w3.cell? ⟨gb101, 7, none⟩ = some (.int .i64 a0_7) := (blk_cell BK101.out 7).trans rfl
   have hcz5_8 : w3.cell? ⟨gb101, 8, none⟩ = some (.int .i64 a0_8) := (blk_cell BK101.out 8).trans rfl
   have hfz5_0 := blk_frozen BK101.out 0
   have hfz5_1 := blk_frozen BK101.out 1
   have hfz5_2 := blk_frozen BK101.out 2
   have hfz5_3 := blk_frozen BK101.out 3
   have hfz5_4 := blk_frozen BK101.out 4
   have hfz5_5 := blk_frozen BK101.out 5
   have hfz5_6 := blk_frozen BK101.out 6
   have hfz5_7 := blk_frozen BK101.out 7
   have hfz5_8 := blk_frozen BK101.out 8
   go_wp2
   go_meet
   case rel => exact ⟨_, (true), (by first | rfl | (simp; done) | (simp [*]; done)), H', ⟨by first | omega | exact Nat.le_refl _⟩, ⟨by (with_reducible repeat (first | refine blk_drewN ?_ _ | refine blk_drew ?_ | refine blk_alloc ?_ _)); exact BK101.out⟩, ⟨by repeat (first | (with_reducible first | exact HB.out | apply below_alloc | apply pw_below_drewN | apply below_drew1 | refine below_set ?_ GE101.out) | exact HB.out)⟩⟩
  ·rw [if_neg c4] at H
   have c4b0 : decide (a0_0 < 0) = false := decide_eq_false c4
   clear c4
   (first | rw [c4b0] | (simp only [i64_w, i32_w]; rw [c4b0]) | skip)
   by_cases c6 : a0_0 ≥ 4
   ·rw [if_pos c6] at H
    have c6b0 : decide (4 ≤ a0_0) = true := decide_eq_true c6
    clear c6
    have H' := Aside0.mk H
    clear H
    have hcz7_0 : w3.cell? ⟨gb101, 0, none⟩ = some (.int .i64 a0_0) := (blk_cell BK101.out 0).trans rfl
    have hcz7_1 : w3.cell? ⟨gb101, 1, none⟩ = some (.int .i64 a0_1) := (blk_cell BK101.out 1).trans rfl
    have hcz7_2 : w3.cell? ⟨gb101, 2, none⟩ = some (.int .i64 a0_2) := (blk_cell BK101.out 2).trans rfl
    have hcz7_3 : w3.cell? ⟨gb101, 3, none⟩ = some (.int .i64 a0_3) := (blk_cell BK101.out 3).trans rfl
    have hcz7_4 : w3.cell? ⟨gb101, 4, none⟩ = some (.slice A0_4 l0_4.length c0_4) := (blk_cell BK101.out 4).trans rfl
    have hcz7_5 : w3.cell? ⟨gb101, 5, none⟩ = some (.slice A0_5 l0_5.length c0_5) := (blk_cell BK101.out 5).trans rfl
    have hcz7_6 : w3.cell? ⟨gb101, 6, none⟩ = some (.int .i64 a0_6) := (blk_cell BK101.out 6).trans rfl
    have hcz7_7 : w3.cell? ⟨gb101, 7, none⟩ = some (.int .i64 a0_7) := (blk_cell BK101.out 7).trans rfl
    have hcz7_8 : w3.cell? ⟨gb101, 8, none⟩ = some (.int .i64 a0_8) := (blk_cell BK101.out 8).trans rfl
    have hfz7_0 := blk_frozen BK101.out 0
    have hfz7_1 := blk_frozen BK101.out 1
    have hfz7_2 := blk_frozen BK101.out 2
    have hfz7_3 := blk_frozen BK101.out 3
    have hfz7_4 := blk_frozen BK101.out 4
    have hfz7_5 := blk_frozen BK101.out 5
    have hfz7_6 := blk_frozen BK101.out 6
    have hfz7_7 := blk_frozen BK101.out 7
    have hfz7_8 := blk_frozen BK101.out 8
    go_wp2
    go_meet
    case rel => exact ⟨_, (true), (by first | rfl | (simp; done) | (simp [*]; done)), H', ⟨by first | omega | exact Nat.le_refl _⟩, ⟨by (with_reducible repeat (first | refine blk_drewN ?_ _ | refine blk_drew ?_ | refine blk_alloc ?_ _)); exact BK101.out⟩, ⟨by repeat (first | (with_reducible first | exact HB.out | apply below_alloc | apply pw_below_drewN | apply below_drew1 | refine below_set ?_ GE101.out) | exact HB.out)⟩⟩
   ·rw [if_neg c6] at H
    have c6b0 : decide (4 ≤ a0_0) = false := decide_eq_false c6
    clear c6
    replace H := Option.bind_eq_some_iff.mp H
    obtain ⟨t102, A80, H⟩ := H
    replace H : (op_may.j0 k (t102.toList == ([] : List UInt8)) a0_0 a0_1 a0_2 a0_3 l0_4 l0_5 a0_6 a0_7 a0_8) = some r := H
    have A8 := Aside0.mk A80
    clear A80
    have H' := Aside0.mk H
    clear H
    have hcz9_0 : w3.cell? ⟨gb101, 0, none⟩ = some (.int .i64 a0_0) := (blk_cell BK101.out 0).trans rfl
    have hcz9_1 : w3.cell? ⟨gb101, 1, none⟩ = some (.int .i64 a0_1) := (blk_cell BK101.out 1).trans rfl
    have hcz9_2 : w3.cell? ⟨gb101, 2, none⟩ = some (.int .i64 a0_2) := (blk_cell BK101.out 2).trans rfl
    have hcz9_3 : w3.cell? ⟨gb101, 3, none⟩ = some (.int .i64 a0_3) := (blk_cell BK101.out 3).trans rfl
    have hcz9_4 : w3.cell? ⟨gb101, 4, none⟩ = some (.slice A0_4 l0_4.length c0_4) := (blk_cell BK101.out 4).trans rfl
    have hcz9_5 : w3.cell? ⟨gb101, 5, none⟩ = some (.slice A0_5 l0_5.length c0_5) := (blk_cell BK101.out 5).trans rfl
    have hcz9_6 : w3.cell? ⟨gb101, 6, none⟩ = some (.int .i64 a0_6) := (blk_cell BK101.out 6).trans rfl
    have hcz9_7 : w3.cell? ⟨gb101, 7, none⟩ = some (.int .i64 a0_7) := (blk_cell BK101.out 7).trans rfl
    have hcz9_8 : w3.cell? ⟨gb101, 8, none⟩ = some (.int .i64 a0_8) := (blk_cell BK101.out 8).trans rfl
    have hfz9_0 := blk_frozen BK101.out 0
    have hfz9_1 := blk_frozen BK101.out 1
    have hfz9_2 := blk_frozen BK101.out 2
    have hfz9_3 := blk_frozen BK101.out 3
    have hfz9_4 := blk_frozen BK101.out 4
    have hfz9_5 := blk_frozen BK101.out 5
    have hfz9_6 := blk_frozen BK101.out 6
    have hfz9_7 := blk_frozen BK101.out 7
    have hfz9_8 := blk_frozen BK101.out 8
    go_wp2_with (first | (go_at_call 27; (with_reducible refine (border_Name.calls a0_1 t102 _ (by exact GL.below hG (by repeat (first | (with_reducible first | exact HB.out | apply below_alloc | apply pw_below_drewN | apply below_drew1 | refine below_set ?_ GE101.out) | exact HB.out | exact Below.refl _ _))) A8.out).mono ?_); rintro e w' ⟨rfl, ⟨nd, rfl⟩⟩))
    go_meet
    case rel => exact ⟨_, ((t102.toList == ([] : List UInt8))), (by first | rfl | (simp; done) | (simp [*]; done)), H', ⟨by first | omega | exact Nat.le_refl _⟩, ⟨by (with_reducible repeat (first | refine blk_drewN ?_ _ | refine blk_drew ?_ | refine blk_alloc ?_ _)); exact BK101.out⟩, ⟨by repeat (first | (with_reducible first | exact HB.out | apply below_alloc | apply pw_below_drewN | apply below_drew1 | refine below_set ?_ GE101.out) | exact HB.out)⟩⟩
 case rest =>
  clear HC2
  try clear c1
  try clear p2
  try clear c4
  try clear c4b0
  try clear c6
  try clear c6b0
  try clear hcz5_0
  try clear hcz5_1
  try clear hcz5_2
  try clear hcz5_3
  try clear hcz5_4
  try clear hcz5_5
  try clear hcz5_6
  try clear hcz5_7
  try clear hcz5_8
  try clear hcz7_0
  try clear hcz7_1
  try clear hcz7_2
  try clear hcz7_3
  try clear hcz7_4
  try clear hcz7_5
  try clear hcz7_6
  try clear hcz7_7
  try clear hcz7_8
  try clear hcz9_0
  try clear hcz9_1
  try clear hcz9_2
  try clear hcz9_3
  try clear hcz9_4
  try clear hcz9_5
  try clear hcz9_6
  try clear hcz9_7
  try clear hcz9_8
  try clear hfz5_0
  try clear hfz5_1
  try clear hfz5_2
  try clear hfz5_3
  try clear hfz5_4
  try clear hfz5_5
  try clear hfz5_6
  try clear hfz5_7
  try clear hfz5_8
  try clear hfz7_0
  try clear hfz7_1
  try clear hfz7_2
  try clear hfz7_3
  try clear hfz7_4
  try clear hfz7_5
  try clear hfz7_6
  try clear hfz7_7
  try clear hfz7_8
  try clear hfz9_0
  try clear hfz9_1
  try clear hfz9_2
  try clear hfz9_3
  try clear hfz9_4
  try clear hfz9_5
  try clear hfz9_6
  try clear hfz9_7
  try clear hfz9_8
  obtain ⟨kq, x16_1, rfl, HA, HJ1, BK101, HB⟩ := hcut
  cases kq with
  | zero => exact absurd HA.out (by simp [op_may.j0])
  | succ kj1 =>
   have H := HA.out
   clear HA
   simp only [op_may.j0] at H
   by_cases c10 : x16_1 = true
   ·subst c10
    have H1 : (some false) = some r := by rw [if_pos rfl] at H; exact H
    clear H
    have H := H1
    clear H1
    obtain rfl := Option.some.inj H
    go_wp2
    go_ret
    exact ⟨by first | rfl | (simp [errW_none, errW_some] <;> rfl) | (simp [*, errW_none, errW_some] <;> rfl) | (simp; cases t105.toList <;> rfl), by repeat (first | (with_reducible first | exact HB.out | apply below_alloc | apply pw_below_drewN | apply below_drew1 | refine below_set ?_ GE101.out) | exact HB.out)⟩
   ·replace c10 := Bool.eq_false_iff.mpr c10
    subst c10
    have H1 : (if a0_0 = 3 then ((op_side.f a0_7).bind fun t103 => (if t103 = true then ((op_side.f a0_8).bind fun t104 => (if t104 = true then ((raw_Name.f a0_6).bind fun t105 => (some (t105.toList != ([] : List UInt8)))) else (some false))) else (some false))) else (some true)) = some r := by rw [if_neg (show ¬ (false = true) by decide)] at H; exact H
    clear H
    have H := H1
    clear H1
    by_cases c11 : a0_0 = 3
    ·rw [if_pos c11] at H
     have c11b0 : (a0_0 == 3) = true := beq_iff_eq.mpr c11
     have c11b1 : (a0_0 != 3) = false := bne_eq_false_iff_eq.mpr c11
     clear c11
     replace H := Option.bind_eq_some_iff.mp H
     obtain ⟨t103, A120, H⟩ := H
     replace H : (if t103 = true then ((op_side.f a0_8).bind fun t104 => (if t104 = true then ((raw_Name.f a0_6).bind fun t105 => (some (t105.toList != ([] : List UInt8)))) else (some false))) else (some false)) = some r := H
     have A12 := Aside0.mk A120
     clear A120
     by_cases c13 : t103 = true
     ·subst c13
      have H1 : ((op_side.f a0_8).bind fun t104 => (if t104 = true then ((raw_Name.f a0_6).bind fun t105 => (some (t105.toList != ([] : List UInt8)))) else (some false))) = some r := by rw [if_pos rfl] at H; exact H
      clear H
      have H := H1
      clear H1
      replace H := Option.bind_eq_some_iff.mp H
      obtain ⟨t104, A140, H⟩ := H
      replace H : (if t104 = true then ((raw_Name.f a0_6).bind fun t105 => (some (t105.toList != ([] : List UInt8)))) else (some false)) = some r := H
      have A14 := Aside0.mk A140
      clear A140
      by_cases c15 : t104 = true
      ·subst c15
       have H1 : ((raw_Name.f a0_6).bind fun t105 => (some (t105.toList != ([] : List UInt8)))) = some r := by rw [if_pos rfl] at H; exact H
       clear H
       have H := H1
       clear H1
       replace H := Option.bind_eq_some_iff.mp H
       obtain ⟨t105, A160, H⟩ := H
       replace H : (some (t105.toList != ([] : List UInt8))) = some r := H
       have A16 := Aside0.mk A160
       clear A160
       obtain rfl := Option.some.inj H
       have hcz17_0 : wc.cell? ⟨gb101, 0, none⟩ = some (.int .i64 a0_0) := (blk_cell BK101.out 0).trans rfl
       have hcz17_1 : wc.cell? ⟨gb101, 1, none⟩ = some (.int .i64 a0_1) := (blk_cell BK101.out 1).trans rfl
       have hcz17_2 : wc.cell? ⟨gb101, 2, none⟩ = some (.int .i64 a0_2) := (blk_cell BK101.out 2).trans rfl
       have hcz17_3 : wc.cell? ⟨gb101, 3, none⟩ = some (.int .i64 a0_3) := (blk_cell BK101.out 3).trans rfl
       have hcz17_4 : wc.cell? ⟨gb101, 4, none⟩ = some (.slice A0_4 l0_4.length c0_4) := (blk_cell BK101.out 4).trans rfl
       have hcz17_5 : wc.cell? ⟨gb101, 5, none⟩ = some (.slice A0_5 l0_5.length c0_5) := (blk_cell BK101.out 5).trans rfl
       have hcz17_6 : wc.cell? ⟨gb101, 6, none⟩ = some (.int .i64 a0_6) := (blk_cell BK101.out 6).trans rfl
       have hcz17_7 : wc.cell? ⟨gb101, 7, none⟩ = some (.int .i64 a0_7) := (blk_cell BK101.out 7).trans rfl
       have hcz17_8 : wc.cell? ⟨gb101, 8, none⟩ = some (.int .i64 a0_8) := (blk_cell BK101.out 8).trans rfl
       have hfz17_0 := blk_frozen BK101.out 0
       have hfz17_1 := blk_frozen BK101.out 1
       have hfz17_2 := blk_frozen BK101.out 2
       have hfz17_3 := blk_frozen BK101.out 3
       have hfz17_4 := blk_frozen BK101.out 4
       have hfz17_5 := blk_frozen BK101.out 5
       have hfz17_6 := blk_frozen BK101.out 6
       have hfz17_7 := blk_frozen BK101.out 7
       have hfz17_8 := blk_frozen BK101.out 8
       go_wp2_with (first | (go_at_call 17; (with_reducible refine (op_side.calls a0_7 true _ A12.out).mono ?_); rintro e w' ⟨rfl, ⟨nd, rfl⟩⟩) | (go_at_call 17; (with_reducible refine (op_side.calls a0_8 true _ A14.out).mono ?_); rintro e w' ⟨rfl, ⟨nd, rfl⟩⟩) | (go_at_call 28; (with_reducible refine (raw_Name.calls a0_6 t105 _ (by exact GL.below hG (by repeat (first | (with_reducible first | exact HB.out | apply below_alloc | apply pw_below_drewN | apply below_drew1 | refine below_set ?_ GE101.out) | exact HB.out | exact Below.refl _ _))) A16.out).mono ?_); rintro e w' ⟨rfl, ⟨nd, rfl⟩⟩))
       go_ret
       exact ⟨by first | rfl | (simp [errW_none, errW_some] <;> rfl) | (simp [*, errW_none, errW_some] <;> rfl) | (simp; cases t105.toList <;> rfl), by repeat (first | (with_reducible first | exact HB.out | apply below_alloc | apply pw_below_drewN | apply below_drew1 | refine below_set ?_ GE101.out) | exact HB.out)⟩
      ·replace c15 := Bool.eq_false_iff.mpr c15
       subst c15
       have H1 : (some false) = some r := by rw [if_neg (show ¬ (false = true) by decide)] at H; exact H
       clear H
       have H := H1
       clear H1
       obtain rfl := Option.some.inj H
       have hcz18_0 : wc.cell? ⟨gb101, 0, none⟩ = some (.int .i64 a0_0) := (blk_cell BK101.out 0).trans rfl
       have hcz18_1 : wc.cell? ⟨gb101, 1, none⟩ = some (.int .i64 a0_1) := (blk_cell BK101.out 1).trans rfl
       have hcz18_2 : wc.cell? ⟨gb101, 2, none⟩ = some (.int .i64 a0_2) := (blk_cell BK101.out 2).trans rfl
       have hcz18_3 : wc.cell? ⟨gb101, 3, none⟩ = some (.int .i64 a0_3) := (blk_cell BK101.out 3).trans rfl
       have hcz18_4 : wc.cell? ⟨gb101, 4, none⟩ = some (.slice A0_4 l0_4.length c0_4) := (blk_cell BK101.out 4).trans rfl
       have hcz18_5 : wc.cell? ⟨gb101, 5, none⟩ = some (.slice A0_5 l0_5.length c0_5) := (blk_cell BK101.out 5).trans rfl
       have hcz18_6 : wc.cell? ⟨gb101, 6, none⟩ = some (.int .i64 a0_6) := (blk_cell BK101.out 6).trans rfl
       have hcz18_7 : wc.cell? ⟨gb101, 7, none⟩ = some (.int .i64 a0_7) := (blk_cell BK101.out 7).trans rfl
       have hcz18_8 : wc.cell? ⟨gb101, 8, none⟩ = some (.int .i64 a0_8) := (blk_cell BK101.out 8).trans rfl
       have hfz18_0 := blk_frozen BK101.out 0
       have hfz18_1 := blk_frozen BK101.out 1
       have hfz18_2 := blk_frozen BK101.out 2
       have hfz18_3 := blk_frozen BK101.out 3
       have hfz18_4 := blk_frozen BK101.out 4
       have hfz18_5 := blk_frozen BK101.out 5
       have hfz18_6 := blk_frozen BK101.out 6
       have hfz18_7 := blk_frozen BK101.out 7
       have hfz18_8 := blk_frozen BK101.out 8
       go_wp2_with (first | (go_at_call 17; (with_reducible refine (op_side.calls a0_7 true _ A12.out).mono ?_); rintro e w' ⟨rfl, ⟨nd, rfl⟩⟩) | (go_at_call 17; (with_reducible refine (op_side.calls a0_8 false _ A14.out).mono ?_); rintro e w' ⟨rfl, ⟨nd, rfl⟩⟩))
       go_ret
       exact ⟨by first | rfl | (simp [errW_none, errW_some] <;> rfl) | (simp [*, errW_none, errW_some] <;> rfl) | (simp; cases t105.toList <;> rfl), by repeat (first | (with_reducible first | exact HB.out | apply below_alloc | apply pw_below_drewN | apply below_drew1 | refine below_set ?_ GE101.out) | exact HB.out)⟩
     ·replace c13 := Bool.eq_false_iff.mpr c13
      subst c13
      have H1 : (some false) = some r := by rw [if_neg (show ¬ (false = true) by decide)] at H; exact H
      clear H
      have H := H1
      clear H1
      obtain rfl := Option.some.inj H
      have hcz19_0 : wc.cell? ⟨gb101, 0, none⟩ = some (.int .i64 a0_0) := (blk_cell BK101.out 0).trans rfl
      have hcz19_1 : wc.cell? ⟨gb101, 1, none⟩ = some (.int .i64 a0_1) := (blk_cell BK101.out 1).trans rfl
      have hcz19_2 : wc.cell? ⟨gb101, 2, none⟩ = some (.int .i64 a0_2) := (blk_cell BK101.out 2).trans rfl
      have hcz19_3 : wc.cell? ⟨gb101, 3, none⟩ = some (.int .i64 a0_3) := (blk_cell BK101.out 3).trans rfl
      have hcz19_4 : wc.cell? ⟨gb101, 4, none⟩ = some (.slice A0_4 l0_4.length c0_4) := (blk_cell BK101.out 4).trans rfl
      have hcz19_5 : wc.cell? ⟨gb101, 5, none⟩ = some (.slice A0_5 l0_5.length c0_5) := (blk_cell BK101.out 5).trans rfl
      have hcz19_6 : wc.cell? ⟨gb101, 6, none⟩ = some (.int .i64 a0_6) := (blk_cell BK101.out 6).trans rfl
      have hcz19_7 : wc.cell? ⟨gb101, 7, none⟩ = some (.int .i64 a0_7) := (blk_cell BK101.out 7).trans rfl
      have hcz19_8 : wc.cell? ⟨gb101, 8, none⟩ = some (.int .i64 a0_8) := (blk_cell BK101.out 8).trans rfl
      have hfz19_0 := blk_frozen BK101.out 0
      have hfz19_1 := blk_frozen BK101.out 1
      have hfz19_2 := blk_frozen BK101.out 2
      have hfz19_3 := blk_frozen BK101.out 3
      have hfz19_4 := blk_frozen BK101.out 4
      have hfz19_5 := blk_frozen BK101.out 5
      have hfz19_6 := blk_frozen BK101.out 6
      have hfz19_7 := blk_frozen BK101.out 7
      have hfz19_8 := blk_frozen BK101.out 8
      go_wp2_with (first | (go_at_call 17; (with_reducible refine (op_side.calls a0_7 false _ A12.out).mono ?_); rintro e w' ⟨rfl, ⟨nd, rfl⟩⟩))
      go_ret
      exact ⟨by first | rfl | (simp [errW_none, errW_some] <;> rfl) | (simp [*, errW_none, errW_some] <;> rfl) | (simp; cases t105.toList <;> rfl), by repeat (first | (with_reducible first | exact HB.out | apply below_alloc | apply pw_below_drewN | apply below_drew1 | refine below_set ?_ GE101.out) | exact HB.out)⟩
    ·rw [if_neg c11] at H
     have c11b0 : (a0_0 == 3) = false := beq_eq_false_iff_ne.mpr c11
     have c11b1 : (a0_0 != 3) = true := bne_iff_ne.mpr c11
     obtain rfl := Option.some.inj H
     have hcz20_0 : wc.cell? ⟨gb101, 0, none⟩ = some (.int .i64 a0_0) := (blk_cell BK101.out 0).trans rfl
     have hcz20_1 : wc.cell? ⟨gb101, 1, none⟩ = some (.int .i64 a0_1) := (blk_cell BK101.out 1).trans rfl
     have hcz20_2 : wc.cell? ⟨gb101, 2, none⟩ = some (.int .i64 a0_2) := (blk_cell BK101.out 2).trans rfl
     have hcz20_3 : wc.cell? ⟨gb101, 3, none⟩ = some (.int .i64 a0_3) := (blk_cell BK101.out 3).trans rfl
     have hcz20_4 : wc.cell? ⟨gb101, 4, none⟩ = some (.slice A0_4 l0_4.length c0_4) := (blk_cell BK101.out 4).trans rfl
     have hcz20_5 : wc.cell? ⟨gb101, 5, none⟩ = some (.slice A0_5 l0_5.length c0_5) := (blk_cell BK101.out 5).trans rfl
     have hcz20_6 : wc.cell? ⟨gb101, 6, none⟩ = some (.int .i64 a0_6) := (blk_cell BK101.out 6).trans rfl
     have hcz20_7 : wc.cell? ⟨gb101, 7, none⟩ = some (.int .i64 a0_7) := (blk_cell BK101.out 7).trans rfl
     have hcz20_8 : wc.cell? ⟨gb101, 8, none⟩ = some (.int .i64 a0_8) := (blk_cell BK101.out 8).trans rfl
     have hfz20_0 := blk_frozen BK101.out 0
     have hfz20_1 := blk_frozen BK101.out 1
     have hfz20_2 := blk_frozen BK101.out 2
     have hfz20_3 := blk_frozen BK101.out 3
     have hfz20_4 := blk_frozen BK101.out 4
     have hfz20_5 := blk_frozen BK101.out 5
     have hfz20_6 := blk_frozen BK101.out 6
     have hfz20_7 := blk_frozen BK101.out 7
     have hfz20_8 := blk_frozen BK101.out 8
     go_wp2
     go_ret
     exact ⟨by first | rfl | (simp [errW_none, errW_some] <;> rfl) | (simp [*, errW_none, errW_some] <;> rfl) | (simp; cases t105.toList <;> rfl), by repeat (first | (with_reducible first | exact HB.out | apply below_alloc | apply pw_below_drewN | apply below_drew1 | refine below_set ?_ GE101.out) | exact HB.out)⟩
def table_side.f (a0 : Int) : Option (Bool) := if a0 ≥ 1 then (some (decide (a0 ≤ 65536))) else (some false)
set_option maxHeartbeats 8000000 in
set_option maxRecDepth 100000 in
theorem table_side.calls (a0 : Int) (r : Bool) (w : World) (h : table_side.f a0 = some r) :
  Calls Tryd.prog 36 #[.int .i64 a0] w fun e w' => e = .returned (.bool r) ∧ Drawn0 w w' := by
 have H : (if a0 ≥ 1 then (some (decide (a0 ≤ 65536))) else (some false)) = some r := h
 clear h
 by_cases c2 : a0 ≥ 1
 ·rw [if_pos c2] at H
  have c2b0 : decide (1 ≤ a0) = true := decide_eq_true c2
  clear c2
  obtain rfl := Option.some.inj H
  go_enter Tryd.func36, Tryd.ntmps36
  go_wp2
  go_ret
  exact ⟨by first | rfl | (simp; done) | (simp [*]; done), by repeat (first | exact Drawn0.refl _ | apply Drawn0.step)⟩
 ·rw [if_neg c2] at H
  have c2b0 : decide (1 ≤ a0) = false := decide_eq_false c2
  clear c2
  obtain rfl := Option.some.inj H
  go_enter Tryd.func36, Tryd.ntmps36
  go_wp2
  go_ret
  exact ⟨by first | rfl | (simp; done) | (simp [*]; done), by repeat (first | exact Drawn0.refl _ | apply Drawn0.step)⟩
end Go.Proofs.YtjenkaobmlpbgaaDoor.QA

namespace Go.Proofs.YtjenkaobmlpbgaaDoor.QA
open Go.Proofs.YtjenkaobmlpbgaaDoor.T
open Go.RowKit Go.Proofs.YtjenkaobmlpbgaaDoorW.PrintWords Go.Proofs.YtjenkaobmlpbgaaDoorW.PrintLast Go.Proofs.YtjenkaobmlpbgaaDoorW.PrintMore
attribute [local go_sem] ext_call max2_int min2_int max_two min_two max_three min_three max_four min_four   -- for this text's walks alone
set_option linter.unusedVariables false
set_option linter.unusedSimpArgs false
def fixed_size.f (a0 : Int) : Option (Int) := if a0 < 0 then (some (IntKind.u64.wrap (-(IntKind.u64.wrap (a0))))) else (some (IntKind.u64.wrap (a0)))
set_option maxHeartbeats 8000000 in
set_option maxRecDepth 100000 in
theorem fixed_size.calls (a0 : Int) (r : Int) (w : World) (h : fixed_size.f a0 = some r) :
  Calls Tryd.prog 65 #[.int .i64 a0] w fun e w' => e = .returned (.int .u64 r) ∧ Drawn0 w w' := by
 have H : (if a0 < 0 then (some (IntKind.u64.wrap (-(IntKind.u64.wrap (a0))))) else (some (IntKind.u64.wrap (a0)))) = some r := h
 clear h
 by_cases c2 : a0 < 0
 ·rw [if_pos c2] at H
  have c2b0 : decide (a0 < 0) = true := decide_eq_true c2
  clear c2
  obtain rfl := Option.some.inj H
  go_enter Tryd.func65, Tryd.ntmps65
  go_wp2
  go_ret
  exact ⟨by first | rfl | (simp; done) | (simp [*]; done), by repeat (first | exact Drawn0.refl _ | apply Drawn0.step)⟩
 ·rw [if_neg c2] at H
  have c2b0 : decide (a0 < 0) = false := decide_eq_false c2
  clear c2
  obtain rfl := Option.some.inj H
  go_enter Tryd.func65, Tryd.ntmps65
  go_wp2
  go_ret
  exact ⟨by first | rfl | (simp; done) | (simp [*]; done), by repeat (first | exact Drawn0.refl _ | apply Drawn0.step)⟩
def fixed_hold.j0 : Nat → Int → Bool → Bool → Option (Int)
 | 0, _, _, _ => none
 | k + 1, x0, x1, x5 => if x5 = true then (some (-9223372036854775808)) else (if x1 = true then (some (wrap64 (-(wrap64 (x0))))) else (if x0 > 9223372036854775807 then (some 9223372036854775807) else (some (wrap64 (x0)))))
def fixed_hold.f (k : Nat) (a0 : Int) (a1 : Bool) : Option (Int) := if a1 = true then (fixed_hold.j0 k a0 a1 (decide (a0 ≥ 9223372036854775808))) else (fixed_hold.j0 k a0 a1 false)
theorem fixed_hold.mono_l : ∀ k, (∀ y0 y1 y2, LeO (fixed_hold.j0 k y0 y1 y2) (fixed_hold.j0 (k + 1) y0 y1 y2))
 | 0 => fun _ _ _ r h => by simp [fixed_hold.j0] at h
 | k + 1 => by
  have ih0 := fixed_hold.mono_l k
  ·intro y0 y1 y2
   unfold fixed_hold.j0
   repeat' first
   | (with_reducible exact ih0 _ _ _)
   | (with_reducible exact LeO.refl _)
   | (with_reducible exact LeO.none _)
   | (with_reducible refine LeO.ite ?_ ?_)
   | (with_reducible refine LeO.bind ?_ (fun _ => ?_))
   | exact ih0 _ _ _
   | exact LeO.none _
   | refine LeO.ite ?_ ?_
   | refine LeO.bind ?_ (fun _ => ?_)
theorem fixed_hold.mono : ∀ a0 a1 k, LeO (fixed_hold.f k a0 a1) (fixed_hold.f (k + 1) a0 a1) := by
 intro a0 a1 k
 have ih0 := fixed_hold.mono_l k
 unfold fixed_hold.f
 repeat' first
   | (with_reducible exact ih0 _ _ _)
   | (with_reducible exact LeO.refl _)
   | (with_reducible exact LeO.none _)
   | (with_reducible refine LeO.ite ?_ ?_)
   | (with_reducible refine LeO.bind ?_ (fun _ => ?_))
   | exact ih0 _ _ _
   | exact LeO.none _
   | refine LeO.ite ?_ ?_
   | refine LeO.bind ?_ (fun _ => ?_)
set_option maxHeartbeats 8000000 in
set_option maxRecDepth 100000 in
theorem fixed_hold.calls (k : Nat) (a0 : Int) (a1 : Bool) (r : Int) (w : World) (h : fixed_hold.f k a0 a1 = some r) :
  Calls Tryd.prog 66 #[.int .u64 a0, .bool a1] w fun e w' => e = .returned (.int .i64 r) ∧ Drawn0 w w' := by
 have H : (if a1 = true then (fixed_hold.j0 k a0 a1 (decide (a0 ≥ 9223372036854775808))) else (fixed_hold.j0 k a0 a1 false)) = some r := h
 clear h
 have HC3 := Aside0.mk H
 clear H
 go_enter Tryd.func66, Tryd.ntmps66
 go_upto_region 1 with (fail)
 go_cut [5] (fun v5 wc => ∃ (kq : Nat) (x5_2 : Bool), v5 = .bool x5_2 ∧ Aside0 (fixed_hold.j0 kq a0 a1 x5_2 = some r) ∧ Aside0 (kq ≤ k) ∧ Drawn0 w wc)
 case first =>
  have H := HC3.out
  clear HC3
  by_cases c4 : a1 = true
  ·subst c4
   have H1 : (fixed_hold.j0 k a0 true (decide (a0 ≥ 9223372036854775808))) = some r := by rw [if_pos rfl] at H; exact H
   clear H
   have H := H1
   clear H1
   have H' := Aside0.mk H
   clear H
   go_wp2
   go_meet
   case rel => exact ⟨_, (decide (a0 ≥ 9223372036854775808)), (by first | rfl | (simp; done) | (simp [*]; done)), H', ⟨by first | omega | exact Nat.le_refl _⟩, by repeat (first | exact Drawn0.refl _ | apply Drawn0.step)⟩
  ·replace c4 := Bool.eq_false_iff.mpr c4
   subst c4
   have H1 : (fixed_hold.j0 k a0 false false) = some r := by rw [if_neg (show ¬ (false = true) by decide)] at H; exact H
   clear H
   have H := H1
   clear H1
   have H' := Aside0.mk H
   clear H
   go_wp2
   go_meet
   case rel => exact ⟨_, (false), (by first | rfl | (simp; done) | (simp [*]; done)), H', ⟨by first | omega | exact Nat.le_refl _⟩, by repeat (first | exact Drawn0.refl _ | apply Drawn0.step)⟩
 case rest =>
  clear HC3
  try clear p2
  try clear c4
  obtain ⟨kq, x5_2, rfl, HA, HJ2, ⟨mc2, rfl⟩⟩ := hcut
  cases kq with
  | zero => exact absurd HA.out (by simp [fixed_hold.j0])
  | succ kj2 =>
   have H := HA.out
   clear HA
   simp only [fixed_hold.j0] at H
   by_cases c5 : x5_2 = true
   ·subst c5
    have H1 : (some (-9223372036854775808)) = some r := by rw [if_pos rfl] at H; exact H
    clear H
    have H := H1
    clear H1
    obtain rfl := Option.some.inj H
    go_wp2
    go_ret
    exact ⟨by first | rfl | (simp; done) | (simp [*]; done), by repeat (first | exact Drawn0.refl _ | apply Drawn0.step)⟩
   ·replace c5 := Bool.eq_false_iff.mpr c5
    subst c5
    have H1 : (if a1 = true then (some (wrap64 (-(wrap64 (a0))))) else (if a0 > 9223372036854775807 then (some 9223372036854775807) else (some (wrap64 (a0))))) = some r := by rw [if_neg (show ¬ (false = true) by decide)] at H; exact H
    clear H
    have H := H1
    clear H1
    by_cases c6 : a1 = true
    ·subst c6
     have H1 : (some (wrap64 (-(wrap64 (a0))))) = some r := by rw [if_pos rfl] at H; exact H
     clear H
     have H := H1
     clear H1
     obtain rfl := Option.some.inj H
     go_wp2
     go_ret
     exact ⟨by first | rfl | (simp; done) | (simp [*]; done), by repeat (first | exact Drawn0.refl _ | apply Drawn0.step)⟩
    ·replace c6 := Bool.eq_false_iff.mpr c6
     subst c6
     have H1 : (if a0 > 9223372036854775807 then (some 9223372036854775807) else (some (wrap64 (a0)))) = some r := by rw [if_neg (show ¬ (false = true) by decide)] at H; exact H
     clear H
     have H := H1
     clear H1
     by_cases c7 : a0 > 9223372036854775807
     ·rw [if_pos c7] at H
      have c7b0 : decide (9223372036854775807 < a0) = true := decide_eq_true c7
      clear c7
      obtain rfl := Option.some.inj H
      go_wp2
      go_ret
      exact ⟨by first | rfl | (simp; done) | (simp [*]; done), by repeat (first | exact Drawn0.refl _ | apply Drawn0.step)⟩
     ·rw [if_neg c7] at H
      have c7b0 : decide (9223372036854775807 < a0) = false := decide_eq_false c7
      clear c7
      obtain rfl := Option.some.inj H
      go_wp2
      go_ret
      exact ⟨by first | rfl | (simp; done) | (simp [*]; done), by repeat (first | exact Drawn0.refl _ | apply Drawn0.step)⟩
def fixed_Floor.f (k : Nat) (a0 : Int) (a1 : Int) : Option (Int) := if a1 = 0 then (some 0) else ((fixed_size.f a0).bind fun t106 => ((fixed_size.f a1).bind fun t107 => (if t107 = 0 then (none) else (if ((decide (a0 < 0)) != (decide (a1 < 0))) = true then (if (Int.tmod t106 t107) = 0 then ((fixed_hold.f k (IntKind.u64.wrap (Int.tdiv t106 t107)) true).bind fun t108 => (some t108)) else ((fixed_hold.f k (IntKind.u64.wrap ((IntKind.u64.wrap (Int.tdiv t106 t107)) + 1)) true).bind fun t109 => (some t109))) else ((fixed_hold.f k (IntKind.u64.wrap (Int.tdiv t106 t107)) false).bind fun t110 => (some t110))))))
theorem fixed_Floor.mono : ∀ a0 a1 k, LeO (fixed_Floor.f k a0 a1) (fixed_Floor.f (k + 1) a0 a1) := by
 intro a0 a1 k
 unfold fixed_Floor.f
 repeat' first
   | (with_reducible exact fixed_hold.mono _ _ _)
   | (with_reducible exact LeO.refl _)
   | (with_reducible exact LeO.none _)
   | (with_reducible refine LeO.ite ?_ ?_)
   | (with_reducible refine LeO.bind ?_ (fun _ => ?_))
   | exact fixed_hold.mono _ _ _
   | exact LeO.none _
   | refine LeO.ite ?_ ?_
   | refine LeO.bind ?_ (fun _ => ?_)
set_option maxHeartbeats 8000000 in
set_option maxRecDepth 100000 in
theorem fixed_Floor.calls (k : Nat) (a0 : Int) (a1 : Int) (r : Int) (w : World) (h : fixed_Floor.f k a0 a1 = some r) :
  Calls Tryd.prog 49 #[.int .i64 a0, .int .i64 a1] w fun e w' => e = .returned (.int .i64 r) ∧ Drawn0 w w' := by
 have H : (if a1 = 0 then (some 0) else ((fixed_size.f a0).bind fun t106 => ((fixed_size.f a1).bind fun t107 => (if t107 = 0 then (none) else (if ((decide (a0 < 0)) != (decide (a1 < 0))) = true then (if (Int.tmod t106 t107) = 0 then ((fixed_hold.f k (IntKind.u64.wrap (Int.tdiv t106 t107)) true).bind fun t108 => (some t108)) else ((fixed_hold.f k (IntKind.u64.wrap ((IntKind.u64.wrap (Int.tdiv t106 t107)) + 1)) true).bind fun t109 => (some t109))) else ((fixed_hold.f k (IntKind.u64.wrap (Int.tdiv t106 t107)) false).bind fun t110 => (some t110))))))) = some r := h
 clear h
 by_cases c3 : a1 = 0
 ·rw [if_pos c3] at H
  have c3b0 : (a1 == 0) = true := beq_iff_eq.mpr c3
  have c3b1 : (a1 != 0) = false := bne_eq_false_iff_eq.mpr c3
  clear c3
  obtain rfl := Option.some.inj H
  go_enter Tryd.func49, Tryd.ntmps49
  go_wp2
  repeat (go_quiet (fail); try go_wp2)
  go_ret
  exact ⟨by first | rfl | (simp; done) | (simp [*]; done), by repeat (first | exact Drawn0.refl _ | apply Drawn0.step)⟩
 ·rw [if_neg c3] at H
  have c3b0 : (a1 == 0) = false := beq_eq_false_iff_ne.mpr c3
  have c3b1 : (a1 != 0) = true := bne_iff_ne.mpr c3
  replace H := Option.bind_eq_some_iff.mp H
  obtain ⟨t106, A40, H⟩ := H
  replace H : ((fixed_size.f a1).bind fun t107 => (if t107 = 0 then (none) else (if ((decide (a0 < 0)) != (decide (a1 < 0))) = true then (if (Int.tmod t106 t107) = 0 then ((fixed_hold.f k (IntKind.u64.wrap (Int.tdiv t106 t107)) true).bind fun t108 => (some t108)) else ((fixed_hold.f k (IntKind.u64.wrap ((IntKind.u64.wrap (Int.tdiv t106 t107)) + 1)) true).bind fun t109 => (some t109))) else ((fixed_hold.f k (IntKind.u64.wrap (Int.tdiv t106 t107)) false).bind fun t110 => (some t110))))) = some r := H
  have A4 := Aside0.mk A40
  clear A40
  replace H := Option.bind_eq_some_iff.mp H
  obtain ⟨t107, A50, H⟩ := H
  replace H : (if t107 = 0 then (none) else (if ((decide (a0 < 0)) != (decide (a1 < 0))) = true then (if (Int.tmod t106 t107) = 0 then ((fixed_hold.f k (IntKind.u64.wrap (Int.tdiv t106 t107)) true).bind fun t108 => (some t108)) else ((fixed_hold.f k (IntKind.u64.wrap ((IntKind.u64.wrap (Int.tdiv t106 t107)) + 1)) true).bind fun t109 => (some t109))) else ((fixed_hold.f k (IntKind.u64.wrap (Int.tdiv t106 t107)) false).bind fun t110 => (some t110)))) = some r := H
  have A5 := Aside0.mk A50
  clear A50
  by_cases c6 : t107 = 0
  ·rw [if_pos c6] at H
   exact absurd H (by simp)
  ·rw [if_neg c6] at H
   have c6b0 : (t107 == 0) = false := beq_eq_false_iff_ne.mpr c6
   have c6b1 : (t107 != 0) = true := bne_iff_ne.mpr c6
   by_cases c7 : ((decide (a0 < 0)) != (decide (a1 < 0))) = true
   ·rw [if_pos c7] at H
    have c7b0 : ((decide (a0 < 0)) != (decide (a1 < 0))) = true := c7
    (try (have c7b1 : decide ((decide (a0 < 0)) = (decide (a1 < 0))) = false := by simpa using c7))
    (try (have c7b2 : ((decide (a0 < 0)) == (decide (a1 < 0))) = false := by simpa using c7))
    (try (have c7b3 : ¬ ((decide (a0 < 0)) = (decide (a1 < 0))) := by simpa using c7))
    clear c7
    by_cases c8 : (Int.tmod t106 t107) = 0
    ·rw [if_pos c8] at H
     have c8b0 : ((Int.tmod t106 t107) == 0) = true := beq_iff_eq.mpr c8
     have c8b1 : ((Int.tmod t106 t107) != 0) = false := bne_eq_false_iff_eq.mpr c8
     clear c8
     replace H := Option.bind_eq_some_iff.mp H
     obtain ⟨t108, A90, H⟩ := H
     replace H : (some t108) = some r := H
     have A9 := Aside0.mk A90
     clear A90
     obtain rfl := Option.some.inj H
     go_enter Tryd.func49, Tryd.ntmps49
     go_wp2_with (first | (go_at_call 65; (with_reducible refine (fixed_size.calls a0 t106 _ A4.out).mono ?_); rintro e w' ⟨rfl, ⟨nd, rfl⟩⟩; (try first | exact ⟨rfl, _, World.drewN_drewN _ _ _⟩ | exact ⟨rfl, _, Eq.trans (World.drewN_drewN _ _ _) (congrArg (World.drewN _) (Nat.add_assoc _ _ _))⟩)) | (go_at_call 65; (with_reducible refine (fixed_size.calls a1 t107 _ A5.out).mono ?_); rintro e w' ⟨rfl, ⟨nd, rfl⟩⟩; (try first | exact ⟨rfl, _, World.drewN_drewN _ _ _⟩ | exact ⟨rfl, _, Eq.trans (World.drewN_drewN _ _ _) (congrArg (World.drewN _) (Nat.add_assoc _ _ _))⟩)) | (go_at_call 66; (with_reducible refine (fixed_hold.calls k (IntKind.u64.wrap (Int.tdiv t106 t107)) true t108 _ A9.out).mono ?_); rintro e w' ⟨rfl, ⟨nd, rfl⟩⟩; (try first | exact ⟨rfl, _, World.drewN_drewN _ _ _⟩ | exact ⟨rfl, _, Eq.trans (World.drewN_drewN _ _ _) (congrArg (World.drewN _) (Nat.add_assoc _ _ _))⟩)))
     repeat (go_quiet (first | (go_at_call 65; (with_reducible refine (fixed_size.calls a0 t106 _ A4.out).mono ?_); rintro e w' ⟨rfl, ⟨nd, rfl⟩⟩; (try first | exact ⟨rfl, _, World.drewN_drewN _ _ _⟩ | exact ⟨rfl, _, Eq.trans (World.drewN_drewN _ _ _) (congrArg (World.drewN _) (Nat.add_assoc _ _ _))⟩)) | (go_at_call 65; (with_reducible refine (fixed_size.calls a1 t107 _ A5.out).mono ?_); rintro e w' ⟨rfl, ⟨nd, rfl⟩⟩; (try first | exact ⟨rfl, _, World.drewN_drewN _ _ _⟩ | exact ⟨rfl, _, Eq.trans (World.drewN_drewN _ _ _) (congrArg (World.drewN _) (Nat.add_assoc _ _ _))⟩)) | (go_at_call 66; (with_reducible refine (fixed_hold.calls k (IntKind.u64.wrap (Int.tdiv t106 t107)) true t108 _ A9.out).mono ?_); rintro e w' ⟨rfl, ⟨nd, rfl⟩⟩; (try first | exact ⟨rfl, _, World.drewN_drewN _ _ _⟩ | exact ⟨rfl, _, Eq.trans (World.drewN_drewN _ _ _) (congrArg (World.drewN _) (Nat.add_assoc _ _ _))⟩))); try go_wp2_with (first | (go_at_call 65; (with_reducible refine (fixed_size.calls a0 t106 _ A4.out).mono ?_); rintro e w' ⟨rfl, ⟨nd, rfl⟩⟩; (try first | exact ⟨rfl, _, World.drewN_drewN _ _ _⟩ | exact ⟨rfl, _, Eq.trans (World.drewN_drewN _ _ _) (congrArg (World.drewN _) (Nat.add_assoc _ _ _))⟩)) | (go_at_call 65; (with_reducible refine (fixed_size.calls a1 t107 _ A5.out).mono ?_); rintro e w' ⟨rfl, ⟨nd, rfl⟩⟩; (try first | exact ⟨rfl, _, World.drewN_drewN _ _ _⟩ | exact ⟨rfl, _, Eq.trans (World.drewN_drewN _ _ _) (congrArg (World.drewN _) (Nat.add_assoc _ _ _))⟩)) | (go_at_call 66; (with_reducible refine (fixed_hold.calls k (IntKind.u64.wrap (Int.tdiv t106 t107)) true t108 _ A9.out).mono ?_); rintro e w' ⟨rfl, ⟨nd, rfl⟩⟩; (try first | exact ⟨rfl, _, World.drewN_drewN _ _ _⟩ | exact ⟨rfl, _, Eq.trans (World.drewN_drewN _ _ _) (congrArg (World.drewN _) (Nat.add_assoc _ _ _))⟩))))
     go_ret
     exact ⟨by first | rfl | (simp; done) | (simp [*]; done), by repeat (first | exact Drawn0.refl _ | apply Drawn0.step)⟩
    ·rw [if_neg c8] at H
     have c8b0 : ((Int.tmod t106 t107) == 0) = false := beq_eq_false_iff_ne.mpr c8
     have c8b1 : ((Int.tmod t106 t107) != 0) = true := bne_iff_ne.mpr c8
     replace H := Option.bind_eq_some_iff.mp H
     obtain ⟨t109, A100, H⟩ := H
     replace H : (some t109) = some r := H
     have A10 := Aside0.mk A100
     clear A100
     obtain rfl := Option.some.inj H
     go_enter Tryd.func49, Tryd.ntmps49
     go_wp2_with (first | (go_at_call 65; (with_reducible refine (fixed_size.calls a0 t106 _ A4.out).mono ?_); rintro e w' ⟨rfl, ⟨nd, rfl⟩⟩; (try first | exact ⟨rfl, _, World.drewN_drewN _ _ _⟩ | exact ⟨rfl, _, Eq.trans (World.drewN_drewN _ _ _) (congrArg (World.drewN _) (Nat.add_assoc _ _ _))⟩)) | (go_at_call 65; (with_reducible refine (fixed_size.calls a1 t107 _ A5.out).mono ?_); rintro e w' ⟨rfl, ⟨nd, rfl⟩⟩; (try first | exact ⟨rfl, _, World.drewN_drewN _ _ _⟩ | exact ⟨rfl, _, Eq.trans (World.drewN_drewN _ _ _) (congrArg (World.drewN _) (Nat.add_assoc _ _ _))⟩)) | (go_at_call 66; (with_reducible refine (fixed_hold.calls k (IntKind.u64.wrap ((IntKind.u64.wrap (Int.tdiv t106 t107)) + 1)) true t109 _ A10.out).mono ?_); rintro e w' ⟨rfl, ⟨nd, rfl⟩⟩; (try first | exact ⟨rfl, _, World.drewN_drewN _ _ _⟩ | exact ⟨rfl, _, Eq.trans (World.drewN_drewN _ _ _) (congrArg (World.drewN _) (Nat.add_assoc _ _ _))⟩)))
     repeat (go_quiet (first | (go_at_call 65; (with_reducible refine (fixed_size.calls a0 t106 _ A4.out).mono ?_); rintro e w' ⟨rfl, ⟨nd, rfl⟩⟩; (try first | exact ⟨rfl, _, World.drewN_drewN _ _ _⟩ | exact ⟨rfl, _, Eq.trans (World.drewN_drewN _ _ _) (congrArg (World.drewN _) (Nat.add_assoc _ _ _))⟩)) | (go_at_call 65; (with_reducible refine (fixed_size.calls a1 t107 _ A5.out).mono ?_); rintro e w' ⟨rfl, ⟨nd, rfl⟩⟩; (try first | exact ⟨rfl, _, World.drewN_drewN _ _ _⟩ | exact ⟨rfl, _, Eq.trans (World.drewN_drewN _ _ _) (congrArg (World.drewN _) (Nat.add_assoc _ _ _))⟩)) | (go_at_call 66; (with_reducible refine (fixed_hold.calls k (IntKind.u64.wrap ((IntKind.u64.wrap (Int.tdiv t106 t107)) + 1)) true t109 _ A10.out).mono ?_); rintro e w' ⟨rfl, ⟨nd, rfl⟩⟩; (try first | exact ⟨rfl, _, World.drewN_drewN _ _ _⟩ | exact ⟨rfl, _, Eq.trans (World.drewN_drewN _ _ _) (congrArg (World.drewN _) (Nat.add_assoc _ _ _))⟩))); try go_wp2_with (first | (go_at_call 65; (with_reducible refine (fixed_size.calls a0 t106 _ A4.out).mono ?_); rintro e w' ⟨rfl, ⟨nd, rfl⟩⟩; (try first | exact ⟨rfl, _, World.drewN_drewN _ _ _⟩ | exact ⟨rfl, _, Eq.trans (World.drewN_drewN _ _ _) (congrArg (World.drewN _) (Nat.add_assoc _ _ _))⟩)) | (go_at_call 65; (with_reducible refine (fixed_size.calls a1 t107 _ A5.out).mono ?_); rintro e w' ⟨rfl, ⟨nd, rfl⟩⟩; (try first | exact ⟨rfl, _, World.drewN_drewN _ _ _⟩ | exact ⟨rfl, _, Eq.trans (World.drewN_drewN _ _ _) (congrArg (World.drewN _) (Nat.add_assoc _ _ _))⟩)) | (go_at_call 66; (with_reducible refine (fixed_hold.calls k (IntKind.u64.wrap ((IntKind.u64.wrap (Int.tdiv t106 t107)) + 1)) true t109 _ A10.out).mono ?_); rintro e w' ⟨rfl, ⟨nd, rfl⟩⟩; (try first | exact ⟨rfl, _, World.drewN_drewN _ _ _⟩ | exact ⟨rfl, _, Eq.trans (World.drewN_drewN _ _ _) (congrArg (World.drewN _) (Nat.add_assoc _ _ _))⟩))))
     go_ret
     exact ⟨by first | rfl | (simp; done) | (simp [*]; done), by repeat (first | exact Drawn0.refl _ | apply Drawn0.step)⟩
   ·rw [if_neg c7] at H
    have c7b0 : ((decide (a0 < 0)) != (decide (a1 < 0))) = false := by simpa using c7
    (try (have c7b1 : decide ((decide (a0 < 0)) = (decide (a1 < 0))) = true := by simpa using c7))
    (try (have c7b2 : ((decide (a0 < 0)) == (decide (a1 < 0))) = true := by simpa using c7))
    clear c7
    replace H := Option.bind_eq_some_iff.mp H
    obtain ⟨t110, A110, H⟩ := H
    replace H : (some t110) = some r := H
    have A11 := Aside0.mk A110
    clear A110
    obtain rfl := Option.some.inj H
    go_enter Tryd.func49, Tryd.ntmps49
    go_wp2_with (first | (go_at_call 65; (with_reducible refine (fixed_size.calls a0 t106 _ A4.out).mono ?_); rintro e w' ⟨rfl, ⟨nd, rfl⟩⟩; (try first | exact ⟨rfl, _, World.drewN_drewN _ _ _⟩ | exact ⟨rfl, _, Eq.trans (World.drewN_drewN _ _ _) (congrArg (World.drewN _) (Nat.add_assoc _ _ _))⟩)) | (go_at_call 65; (with_reducible refine (fixed_size.calls a1 t107 _ A5.out).mono ?_); rintro e w' ⟨rfl, ⟨nd, rfl⟩⟩; (try first | exact ⟨rfl, _, World.drewN_drewN _ _ _⟩ | exact ⟨rfl, _, Eq.trans (World.drewN_drewN _ _ _) (congrArg (World.drewN _) (Nat.add_assoc _ _ _))⟩)) | (go_at_call 66; (with_reducible refine (fixed_hold.calls k (IntKind.u64.wrap (Int.tdiv t106 t107)) false t110 _ A11.out).mono ?_); rintro e w' ⟨rfl, ⟨nd, rfl⟩⟩; (try first | exact ⟨rfl, _, World.drewN_drewN _ _ _⟩ | exact ⟨rfl, _, Eq.trans (World.drewN_drewN _ _ _) (congrArg (World.drewN _) (Nat.add_assoc _ _ _))⟩)))
    repeat (go_quiet (first | (go_at_call 65; (with_reducible refine (fixed_size.calls a0 t106 _ A4.out).mono ?_); rintro e w' ⟨rfl, ⟨nd, rfl⟩⟩; (try first | exact ⟨rfl, _, World.drewN_drewN _ _ _⟩ | exact ⟨rfl, _, Eq.trans (World.drewN_drewN _ _ _) (congrArg (World.drewN _) (Nat.add_assoc _ _ _))⟩)) | (go_at_call 65; (with_reducible refine (fixed_size.calls a1 t107 _ A5.out).mono ?_); rintro e w' ⟨rfl, ⟨nd, rfl⟩⟩; (try first | exact ⟨rfl, _, World.drewN_drewN _ _ _⟩ | exact ⟨rfl, _, Eq.trans (World.drewN_drewN _ _ _) (congrArg (World.drewN _) (Nat.add_assoc _ _ _))⟩)) | (go_at_call 66; (with_reducible refine (fixed_hold.calls k (IntKind.u64.wrap (Int.tdiv t106 t107)) false t110 _ A11.out).mono ?_); rintro e w' ⟨rfl, ⟨nd, rfl⟩⟩; (try first | exact ⟨rfl, _, World.drewN_drewN _ _ _⟩ | exact ⟨rfl, _, Eq.trans (World.drewN_drewN _ _ _) (congrArg (World.drewN _) (Nat.add_assoc _ _ _))⟩))); try go_wp2_with (first | (go_at_call 65; (with_reducible refine (fixed_size.calls a0 t106 _ A4.out).mono ?_); rintro e w' ⟨rfl, ⟨nd, rfl⟩⟩; (try first | exact ⟨rfl, _, World.drewN_drewN _ _ _⟩ | exact ⟨rfl, _, Eq.trans (World.drewN_drewN _ _ _) (congrArg (World.drewN _) (Nat.add_assoc _ _ _))⟩)) | (go_at_call 65; (with_reducible refine (fixed_size.calls a1 t107 _ A5.out).mono ?_); rintro e w' ⟨rfl, ⟨nd, rfl⟩⟩; (try first | exact ⟨rfl, _, World.drewN_drewN _ _ _⟩ | exact ⟨rfl, _, Eq.trans (World.drewN_drewN _ _ _) (congrArg (World.drewN _) (Nat.add_assoc _ _ _))⟩)) | (go_at_call 66; (with_reducible refine (fixed_hold.calls k (IntKind.u64.wrap (Int.tdiv t106 t107)) false t110 _ A11.out).mono ?_); rintro e w' ⟨rfl, ⟨nd, rfl⟩⟩; (try first | exact ⟨rfl, _, World.drewN_drewN _ _ _⟩ | exact ⟨rfl, _, Eq.trans (World.drewN_drewN _ _ _) (congrArg (World.drewN _) (Nat.add_assoc _ _ _))⟩))))
    go_ret
    exact ⟨by first | rfl | (simp; done) | (simp [*]; done), by repeat (first | exact Drawn0.refl _ | apply Drawn0.step)⟩
def raw_may.f (a0 : Int) (a1 : Int) (a2 : Int) (a3 : Int) : Option (Bool) := if a0 ≥ 0 then (if a0 < 3 then (if a1 ≥ 1 then (if a1 ≤ 65536 then (if a2 ≥ 1 then (if a2 ≤ 65536 then (if a3 ≥ 0 then (some (decide (a3 < a2))) else (some false)) else (some false)) else (some false)) else (some false)) else (some false)) else (some false)) else (some false)
set_option maxHeartbeats 8000000 in
set_option maxRecDepth 100000 in
theorem raw_may.calls (a0 : Int) (a1 : Int) (a2 : Int) (a3 : Int) (r : Bool) (w : World) (h : raw_may.f a0 a1 a2 a3 = some r) :
  Calls Tryd.prog 58 #[.int .i64 a0, .int .i64 a1, .int .i64 a2, .int .i64 a3] w fun e w' => e = .returned (.bool r) ∧ Drawn0 w w' := by
 have H : (if a0 ≥ 0 then (if a0 < 3 then (if a1 ≥ 1 then (if a1 ≤ 65536 then (if a2 ≥ 1 then (if a2 ≤ 65536 then (if a3 ≥ 0 then (some (decide (a3 < a2))) else (some false)) else (some false)) else (some false)) else (some false)) else (some false)) else (some false)) else (some false)) = some r := h
 clear h
 by_cases c5 : a0 ≥ 0
 ·rw [if_pos c5] at H
  have c5b0 : decide (0 ≤ a0) = true := decide_eq_true c5
  clear c5
  by_cases c6 : a0 < 3
  ·rw [if_pos c6] at H
   have c6b0 : decide (a0 < 3) = true := decide_eq_true c6
   clear c6
   by_cases c7 : a1 ≥ 1
   ·rw [if_pos c7] at H
    have c7b0 : decide (1 ≤ a1) = true := decide_eq_true c7
    clear c7
    by_cases c8 : a1 ≤ 65536
    ·rw [if_pos c8] at H
     have c8b0 : decide (a1 ≤ 65536) = true := decide_eq_true c8
     clear c8
     by_cases c9 : a2 ≥ 1
     ·rw [if_pos c9] at H
      have c9b0 : decide (1 ≤ a2) = true := decide_eq_true c9
      clear c9
      by_cases c10 : a2 ≤ 65536
      ·rw [if_pos c10] at H
       have c10b0 : decide (a2 ≤ 65536) = true := decide_eq_true c10
       clear c10
       by_cases c11 : a3 ≥ 0
       ·rw [if_pos c11] at H
        have c11b0 : decide (0 ≤ a3) = true := decide_eq_true c11
        clear c11
        obtain rfl := Option.some.inj H
        go_enter Tryd.func58, Tryd.ntmps58
        go_wp2
        go_ret
        exact ⟨by first | rfl | (simp; done) | (simp [*]; done), by repeat (first | exact Drawn0.refl _ | apply Drawn0.step)⟩
       ·rw [if_neg c11] at H
        have c11b0 : decide (0 ≤ a3) = false := decide_eq_false c11
        clear c11
        obtain rfl := Option.some.inj H
        go_enter Tryd.func58, Tryd.ntmps58
        go_wp2
        go_ret
        exact ⟨by first | rfl | (simp; done) | (simp [*]; done), by repeat (first | exact Drawn0.refl _ | apply Drawn0.step)⟩
      ·rw [if_neg c10] at H
       have c10b0 : decide (a2 ≤ 65536) = false := decide_eq_false c10
       clear c10
       obtain rfl := Option.some.inj H
       go_enter Tryd.func58, Tryd.ntmps58
       go_wp2
       go_ret
       exact ⟨by first | rfl | (simp; done) | (simp [*]; done), by repeat (first | exact Drawn0.refl _ | apply Drawn0.step)⟩
     ·rw [if_neg c9] at H
      have c9b0 : decide (1 ≤ a2) = false := decide_eq_false c9
      clear c9
      obtain rfl := Option.some.inj H
      go_enter Tryd.func58, Tryd.ntmps58
      go_wp2
      go_ret
      exact ⟨by first | rfl | (simp; done) | (simp [*]; done), by repeat (first | exact Drawn0.refl _ | apply Drawn0.step)⟩
    ·rw [if_neg c8] at H
     have c8b0 : decide (a1 ≤ 65536) = false := decide_eq_false c8
     clear c8
     obtain rfl := Option.some.inj H
     go_enter Tryd.func58, Tryd.ntmps58
     go_wp2
     go_ret
     exact ⟨by first | rfl | (simp; done) | (simp [*]; done), by repeat (first | exact Drawn0.refl _ | apply Drawn0.step)⟩
   ·rw [if_neg c7] at H
    have c7b0 : decide (1 ≤ a1) = false := decide_eq_false c7
    clear c7
    obtain rfl := Option.some.inj H
    go_enter Tryd.func58, Tryd.ntmps58
    go_wp2
    go_ret
    exact ⟨by first | rfl | (simp; done) | (simp [*]; done), by repeat (first | exact Drawn0.refl _ | apply Drawn0.step)⟩
  ·rw [if_neg c6] at H
   have c6b0 : decide (a0 < 3) = false := decide_eq_false c6
   clear c6
   obtain rfl := Option.some.inj H
   go_enter Tryd.func58, Tryd.ntmps58
   go_wp2
   go_ret
   exact ⟨by first | rfl | (simp; done) | (simp [*]; done), by repeat (first | exact Drawn0.refl _ | apply Drawn0.step)⟩
 ·rw [if_neg c5] at H
  have c5b0 : decide (0 ≤ a0) = false := decide_eq_false c5
  clear c5
  obtain rfl := Option.some.inj H
  go_enter Tryd.func58, Tryd.ntmps58
  go_wp2
  go_ret
  exact ⟨by first | rfl | (simp; done) | (simp [*]; done), by repeat (first | exact Drawn0.refl _ | apply Drawn0.step)⟩
def raw_ceil.f (k : Nat) (a0 : Int) (a1 : Int) : Option (Int) := (fixed_Floor.f k (wrap64 (-a0)) a1).bind fun t111 => (some (wrap64 (-t111)))
theorem raw_ceil.mono : ∀ a0 a1 k, LeO (raw_ceil.f k a0 a1) (raw_ceil.f (k + 1) a0 a1) := by
 intro a0 a1 k
 unfold raw_ceil.f
 repeat' first
   | (with_reducible exact fixed_Floor.mono _ _ _)
   | (with_reducible exact LeO.refl _)
   | (with_reducible exact LeO.none _)
   | (with_reducible refine LeO.ite ?_ ?_)
   | (with_reducible refine LeO.bind ?_ (fun _ => ?_))
   | exact fixed_Floor.mono _ _ _
   | exact LeO.none _
   | refine LeO.ite ?_ ?_
   | refine LeO.bind ?_ (fun _ => ?_)
set_option maxHeartbeats 8000000 in
set_option maxRecDepth 100000 in
theorem raw_ceil.calls (k : Nat) (a0 : Int) (a1 : Int) (r : Int) (w : World) (h : raw_ceil.f k a0 a1 = some r) :
  Calls Tryd.prog 59 #[.int .i64 a0, .int .i64 a1] w fun e w' => e = .returned (.int .i64 r) ∧ Drawn0 w w' := by
 have H : ((fixed_Floor.f k (wrap64 (-a0)) a1).bind fun t111 => (some (wrap64 (-t111)))) = some r := h
 clear h
 replace H := Option.bind_eq_some_iff.mp H
 obtain ⟨t111, A30, H⟩ := H
 replace H : (some (wrap64 (-t111))) = some r := H
 have A3 := Aside0.mk A30
 clear A30
 obtain rfl := Option.some.inj H
 go_enter Tryd.func59, Tryd.ntmps59
 go_wp2_with (first | ((with_reducible refine gate_callee (f := 49) rfl ?_); refine goesL_ (some 8) rfl rfl Tryd.func49 (by kernel_rfl) rfl #[.int .i64 (wrap64 (-a0)), .int .i64 a1] rfl (by (try simp only [List.map_toArray, List.map_cons, List.map_nil]); first | done | rfl | (simp only [List.length_drop, List.length_take]; rfl)) ?_; (with_reducible refine (fixed_Floor.calls k (wrap64 (-a0)) a1 t111 _ A3.out).mono ?_); rintro e w' ⟨rfl, ⟨nd, rfl⟩⟩; refine ⟨_, rfl, ?_⟩))
 go_ret
 exact ⟨by first | rfl | (simp; done) | (simp [*]; done), by repeat (first | exact Drawn0.refl _ | apply Drawn0.step)⟩
end Go.Proofs.YtjenkaobmlpbgaaDoor.QA

namespace Go.Proofs.YtjenkaobmlpbgaaDoor.QA
open Go.Proofs.YtjenkaobmlpbgaaDoor.T
open Go.RowKit Go.Proofs.YtjenkaobmlpbgaaDoorW.PrintWords Go.Proofs.YtjenkaobmlpbgaaDoorW.PrintLast Go.Proofs.YtjenkaobmlpbgaaDoorW.PrintMore
attribute [local go_sem] ext_call max2_int min2_int max_two min_two max_three min_three max_four min_four   -- for this text's walks alone
set_option linter.unusedVariables false
set_option linter.unusedSimpArgs false
def raw_Window_at1.f (k : Nat) (a1 : Int) (a2 : Int) (a3 : Int) : Option (Int × Int) := (raw_may.f 1 a1 a2 a3).bind fun t112 => (if t112 = true then ((fixed_Floor.f k (wrap64 (a3 * a1)) a2).bind fun t113 => ((raw_ceil.f k (wrap64 ((wrap64 (a3 + 1)) * a1)) a2).bind fun t114 => ((fixed_Floor.f k (wrap64 ((wrap64 ((wrap64 ((wrap64 ((wrap64 (2 * a3)) + 1)) * a1)) - a2)) - (wrap64 (4 * (mx a1 a2))))) (wrap64 (2 * a2))).bind fun t115 => ((raw_ceil.f k (wrap64 ((wrap64 ((wrap64 ((wrap64 ((wrap64 (2 * a3)) + 1)) * a1)) - a2)) + (wrap64 (4 * (mx a1 a2))))) (wrap64 (2 * a2))).bind fun t116 => (some (wrap64 (t115 + 1), wrap64 (t116 - (wrap64 (t115 + 1))))))))) else (some (0, 0)))
theorem raw_Window_at1.mono : ∀ a1 a2 a3 k, LeO (raw_Window_at1.f k a1 a2 a3) (raw_Window_at1.f (k + 1) a1 a2 a3) := by
 intro a1 a2 a3 k
 unfold raw_Window_at1.f
 repeat' first
   | (with_reducible exact fixed_Floor.mono _ _ _)
   | (with_reducible exact raw_ceil.mono _ _ _)
   | (with_reducible exact LeO.refl _)
   | (with_reducible exact LeO.none _)
   | (with_reducible refine LeO.ite ?_ ?_)
   | (with_reducible refine LeO.bind ?_ (fun _ => ?_))
   | exact fixed_Floor.mono _ _ _
   | exact raw_ceil.mono _ _ _
   | exact LeO.none _
   | refine LeO.ite ?_ ?_
   | refine LeO.bind ?_ (fun _ => ?_)
set_option maxHeartbeats 8000000 in
set_option maxRecDepth 100000 in
theorem raw_Window_at1.calls (k : Nat) (a1 : Int) (a2 : Int) (a3 : Int) (r1 : Int) (r2 : Int) (w : World) (hG : GL w) (h : raw_Window_at1.f k a1 a2 a3 = some (r1, r2)) :
  Calls Tryd.prog 45 #[.int .i64 1, .int .i64 a1, .int .i64 a2, .int .i64 a3] w fun e w' => e = .returned (.tuple #[.int .i64 r1, .int .i64 r2]) ∧ Below w.heap.size w w' := by
 have HB := Aside0.mk (Below.refl w.heap.size w)
 have H : ((raw_may.f 1 a1 a2 a3).bind fun t112 => (if t112 = true then ((fixed_Floor.f k (wrap64 (a3 * a1)) a2).bind fun t113 => ((raw_ceil.f k (wrap64 ((wrap64 (a3 + 1)) * a1)) a2).bind fun t114 => ((fixed_Floor.f k (wrap64 ((wrap64 ((wrap64 ((wrap64 ((wrap64 (2 * a3)) + 1)) * a1)) - a2)) - (wrap64 (4 * (mx a1 a2))))) (wrap64 (2 * a2))).bind fun t115 => ((raw_ceil.f k (wrap64 ((wrap64 ((wrap64 ((wrap64 ((wrap64 (2 * a3)) + 1)) * a1)) - a2)) + (wrap64 (4 * (mx a1 a2))))) (wrap64 (2 * a2))).bind fun t116 => (some (wrap64 (t115 + 1), wrap64 (t116 - (wrap64 (t115 + 1))))))))) else (some (0, 0)))) = some (r1, r2) := h
 clear h
 obtain ⟨⟨h0_0, h0_1, h0_2, h0_3, h0_4, h0_5⟩, ⟨ga1_, gc1_, gl1_, gs1_, h1_0, h1_1, h1_2⟩⟩ := hG
 replace H := Option.bind_eq_some_iff.mp H
 obtain ⟨t112, A50, H⟩ := H
 replace H : (if t112 = true then ((fixed_Floor.f k (wrap64 (a3 * a1)) a2).bind fun t113 => ((raw_ceil.f k (wrap64 ((wrap64 (a3 + 1)) * a1)) a2).bind fun t114 => ((fixed_Floor.f k (wrap64 ((wrap64 ((wrap64 ((wrap64 ((wrap64 (2 * a3)) + 1)) * a1)) - a2)) - (wrap64 (4 * (mx a1 a2))))) (wrap64 (2 * a2))).bind fun t115 => ((raw_ceil.f k (wrap64 ((wrap64 ((wrap64 ((wrap64 ((wrap64 (2 * a3)) + 1)) * a1)) - a2)) + (wrap64 (4 * (mx a1 a2))))) (wrap64 (2 * a2))).bind fun t116 => (some (wrap64 (t115 + 1), wrap64 (t116 - (wrap64 (t115 + 1))))))))) else (some (0, 0))) = some (r1, r2) := H
 have A5 := Aside0.mk A50
 clear A50
 by_cases c6 : t112 = true
 ·subst c6
  have H1 : ((fixed_Floor.f k (wrap64 (a3 * a1)) a2).bind fun t113 => ((raw_ceil.f k (wrap64 ((wrap64 (a3 + 1)) * a1)) a2).bind fun t114 => ((fixed_Floor.f k (wrap64 ((wrap64 ((wrap64 ((wrap64 ((wrap64 (2 * a3)) + 1)) * a1)) - a2)) - (wrap64 (4 * (mx a1 a2))))) (wrap64 (2 * a2))).bind fun t115 => ((raw_ceil.f k (wrap64 ((wrap64 ((wrap64 ((wrap64 ((wrap64 (2 * a3)) + 1)) * a1)) - a2)) + (wrap64 (4 * (mx a1 a2))))) (wrap64 (2 * a2))).bind fun t116 => (some (wrap64 (t115 + 1), wrap64 (t116 - (wrap64 (t115 + 1))))))))) = some (r1, r2) := by rw [if_pos rfl] at H; exact H
  clear H
  have H := H1
  clear H1
  replace H := Option.bind_eq_some_iff.mp H
  obtain ⟨t113, A70, H⟩ := H
  replace H : ((raw_ceil.f k (wrap64 ((wrap64 (a3 + 1)) * a1)) a2).bind fun t114 => ((fixed_Floor.f k (wrap64 ((wrap64 ((wrap64 ((wrap64 ((wrap64 (2 * a3)) + 1)) * a1)) - a2)) - (wrap64 (4 * (mx a1 a2))))) (wrap64 (2 * a2))).bind fun t115 => ((raw_ceil.f k (wrap64 ((wrap64 ((wrap64 ((wrap64 ((wrap64 (2 * a3)) + 1)) * a1)) - a2)) + (wrap64 (4 * (mx a1 a2))))) (wrap64 (2 * a2))).bind fun t116 => (some (wrap64 (t115 + 1), wrap64 (t116 - (wrap64 (t115 + 1)))))))) = some (r1, r2) := H
  have A7 := Aside0.mk A70
  clear A70
  replace H := Option.bind_eq_some_iff.mp H
  obtain ⟨t114, A80, H⟩ := H
  replace H : ((fixed_Floor.f k (wrap64 ((wrap64 ((wrap64 ((wrap64 ((wrap64 (2 * a3)) + 1)) * a1)) - a2)) - (wrap64 (4 * (mx a1 a2))))) (wrap64 (2 * a2))).bind fun t115 => ((raw_ceil.f k (wrap64 ((wrap64 ((wrap64 ((wrap64 ((wrap64 (2 * a3)) + 1)) * a1)) - a2)) + (wrap64 (4 * (mx a1 a2))))) (wrap64 (2 * a2))).bind fun t116 => (some (wrap64 (t115 + 1), wrap64 (t116 - (wrap64 (t115 + 1))))))) = some (r1, r2) := H
  have A8 := Aside0.mk A80
  clear A80
  obtain ⟨ji9, hji9⟩ : ∃ j_ : Int, (mx a1 a2) = j_ := ⟨_, rfl⟩
  replace H : ((fixed_Floor.f k (wrap64 ((wrap64 ((wrap64 ((wrap64 ((wrap64 (2 * a3)) + 1)) * a1)) - a2)) - (wrap64 (4 * (ji9))))) (wrap64 (2 * a2))).bind fun t115 => ((raw_ceil.f k (wrap64 ((wrap64 ((wrap64 ((wrap64 ((wrap64 (2 * a3)) + 1)) * a1)) - a2)) + (wrap64 (4 * (ji9))))) (wrap64 (2 * a2))).bind fun t116 => (some (wrap64 (t115 + 1), wrap64 (t116 - (wrap64 (t115 + 1))))))) = some (r1, r2) := by first | (rw [hji9] at H; exact H) | (simp only [hji9] at H ⊢; exact H)
  (try rw [hji9] at A5)
  (try rw [hji9] at A7)
  (try rw [hji9] at A8)
  have hji9_ : (if a1 < a2 then a2 else a1) = ji9 := hji9
  replace H := Option.bind_eq_some_iff.mp H
  obtain ⟨t115, A100, H⟩ := H
  replace H : ((raw_ceil.f k (wrap64 ((wrap64 ((wrap64 ((wrap64 ((wrap64 (2 * a3)) + 1)) * a1)) - a2)) + (wrap64 (4 * (ji9))))) (wrap64 (2 * a2))).bind fun t116 => (some (wrap64 (t115 + 1), wrap64 (t116 - (wrap64 (t115 + 1)))))) = some (r1, r2) := H
  have A10 := Aside0.mk A100
  clear A100
  replace H := Option.bind_eq_some_iff.mp H
  obtain ⟨t116, A110, H⟩ := H
  replace H : (some (wrap64 (t115 + 1), wrap64 (t116 - (wrap64 (t115 + 1))))) = some (r1, r2) := H
  have A11 := Aside0.mk A110
  clear A110
  simp only [Option.some.injEq, Prod.mk.injEq] at H
  obtain ⟨rfl, rfl⟩ := H
  go_enter Tryd.func45, Tryd.ntmps45
  go_wp2_with (first | (go_at_call 58; (with_reducible refine (raw_may.calls 1 a1 a2 a3 true _ A5.out).mono ?_); rintro e w' ⟨rfl, ⟨nd, rfl⟩⟩; (try first | exact ⟨rfl, _, World.drewN_drewN _ _ _⟩ | exact ⟨rfl, _, Eq.trans (World.drewN_drewN _ _ _) (congrArg (World.drewN _) (Nat.add_assoc _ _ _))⟩)) | (go_at_call 49; (with_reducible refine (fixed_Floor.calls k (wrap64 (a3 * a1)) a2 t113 _ A7.out).mono ?_); rintro e w' ⟨rfl, ⟨nd, rfl⟩⟩; (try first | exact ⟨rfl, _, World.drewN_drewN _ _ _⟩ | exact ⟨rfl, _, Eq.trans (World.drewN_drewN _ _ _) (congrArg (World.drewN _) (Nat.add_assoc _ _ _))⟩)) | (go_at_call 59; (with_reducible refine (raw_ceil.calls k (wrap64 ((wrap64 (a3 + 1)) * a1)) a2 t114 _ A8.out).mono ?_); rintro e w' ⟨rfl, ⟨nd, rfl⟩⟩; (try first | exact ⟨rfl, _, World.drewN_drewN _ _ _⟩ | exact ⟨rfl, _, Eq.trans (World.drewN_drewN _ _ _) (congrArg (World.drewN _) (Nat.add_assoc _ _ _))⟩)) | (go_at_call 49; (with_reducible refine (fixed_Floor.calls k (wrap64 ((wrap64 ((wrap64 ((wrap64 ((wrap64 (2 * a3)) + 1)) * a1)) - a2)) - (wrap64 (4 * (ji9))))) (wrap64 (2 * a2)) t115 _ A10.out).mono ?_); rintro e w' ⟨rfl, ⟨nd, rfl⟩⟩; (try first | exact ⟨rfl, _, World.drewN_drewN _ _ _⟩ | exact ⟨rfl, _, Eq.trans (World.drewN_drewN _ _ _) (congrArg (World.drewN _) (Nat.add_assoc _ _ _))⟩)) | (go_at_call 59; (with_reducible refine (raw_ceil.calls k (wrap64 ((wrap64 ((wrap64 ((wrap64 ((wrap64 (2 * a3)) + 1)) * a1)) - a2)) + (wrap64 (4 * (ji9))))) (wrap64 (2 * a2)) t116 _ A11.out).mono ?_); rintro e w' ⟨rfl, ⟨nd, rfl⟩⟩; (try first | exact ⟨rfl, _, World.drewN_drewN _ _ _⟩ | exact ⟨rfl, _, Eq.trans (World.drewN_drewN _ _ _) (congrArg (World.drewN _) (Nat.add_assoc _ _ _))⟩)))
  repeat (go_quiet (first | (go_at_call 58; (with_reducible refine (raw_may.calls 1 a1 a2 a3 true _ A5.out).mono ?_); rintro e w' ⟨rfl, ⟨nd, rfl⟩⟩; (try first | exact ⟨rfl, _, World.drewN_drewN _ _ _⟩ | exact ⟨rfl, _, Eq.trans (World.drewN_drewN _ _ _) (congrArg (World.drewN _) (Nat.add_assoc _ _ _))⟩)) | (go_at_call 49; (with_reducible refine (fixed_Floor.calls k (wrap64 (a3 * a1)) a2 t113 _ A7.out).mono ?_); rintro e w' ⟨rfl, ⟨nd, rfl⟩⟩; (try first | exact ⟨rfl, _, World.drewN_drewN _ _ _⟩ | exact ⟨rfl, _, Eq.trans (World.drewN_drewN _ _ _) (congrArg (World.drewN _) (Nat.add_assoc _ _ _))⟩)) | (go_at_call 59; (with_reducible refine (raw_ceil.calls k (wrap64 ((wrap64 (a3 + 1)) * a1)) a2 t114 _ A8.out).mono ?_); rintro e w' ⟨rfl, ⟨nd, rfl⟩⟩; (try first | exact ⟨rfl, _, World.drewN_drewN _ _ _⟩ | exact ⟨rfl, _, Eq.trans (World.drewN_drewN _ _ _) (congrArg (World.drewN _) (Nat.add_assoc _ _ _))⟩)) | (go_at_call 49; (with_reducible refine (fixed_Floor.calls k (wrap64 ((wrap64 ((wrap64 ((wrap64 ((wrap64 (2 * a3)) + 1)) * a1)) - a2)) - (wrap64 (4 * (ji9))))) (wrap64 (2 * a2)) t115 _ A10.out).mono ?_); rintro e w' ⟨rfl, ⟨nd, rfl⟩⟩; (try first | exact ⟨rfl, _, World.drewN_drewN _ _ _⟩ | exact ⟨rfl, _, Eq.trans (World.drewN_drewN _ _ _) (congrArg (World.drewN _) (Nat.add_assoc _ _ _))⟩)) | (go_at_call 59; (with_reducible refine (raw_ceil.calls k (wrap64 ((wrap64 ((wrap64 ((wrap64 ((wrap64 (2 * a3)) + 1)) * a1)) - a2)) + (wrap64 (4 * (ji9))))) (wrap64 (2 * a2)) t116 _ A11.out).mono ?_); rintro e w' ⟨rfl, ⟨nd, rfl⟩⟩; (try first | exact ⟨rfl, _, World.drewN_drewN _ _ _⟩ | exact ⟨rfl, _, Eq.trans (World.drewN_drewN _ _ _) (congrArg (World.drewN _) (Nat.add_assoc _ _ _))⟩))); try go_wp2_with (first | (go_at_call 58; (with_reducible refine (raw_may.calls 1 a1 a2 a3 true _ A5.out).mono ?_); rintro e w' ⟨rfl, ⟨nd, rfl⟩⟩; (try first | exact ⟨rfl, _, World.drewN_drewN _ _ _⟩ | exact ⟨rfl, _, Eq.trans (World.drewN_drewN _ _ _) (congrArg (World.drewN _) (Nat.add_assoc _ _ _))⟩)) | (go_at_call 49; (with_reducible refine (fixed_Floor.calls k (wrap64 (a3 * a1)) a2 t113 _ A7.out).mono ?_); rintro e w' ⟨rfl, ⟨nd, rfl⟩⟩; (try first | exact ⟨rfl, _, World.drewN_drewN _ _ _⟩ | exact ⟨rfl, _, Eq.trans (World.drewN_drewN _ _ _) (congrArg (World.drewN _) (Nat.add_assoc _ _ _))⟩)) | (go_at_call 59; (with_reducible refine (raw_ceil.calls k (wrap64 ((wrap64 (a3 + 1)) * a1)) a2 t114 _ A8.out).mono ?_); rintro e w' ⟨rfl, ⟨nd, rfl⟩⟩; (try first | exact ⟨rfl, _, World.drewN_drewN _ _ _⟩ | exact ⟨rfl, _, Eq.trans (World.drewN_drewN _ _ _) (congrArg (World.drewN _) (Nat.add_assoc _ _ _))⟩)) | (go_at_call 49; (with_reducible refine (fixed_Floor.calls k (wrap64 ((wrap64 ((wrap64 ((wrap64 ((wrap64 (2 * a3)) + 1)) * a1)) - a2)) - (wrap64 (4 * (ji9))))) (wrap64 (2 * a2)) t115 _ A10.out).mono ?_); rintro e w' ⟨rfl, ⟨nd, rfl⟩⟩; (try first | exact ⟨rfl, _, World.drewN_drewN _ _ _⟩ | exact ⟨rfl, _, Eq.trans (World.drewN_drewN _ _ _) (congrArg (World.drewN _) (Nat.add_assoc _ _ _))⟩)) | (go_at_call 59; (with_reducible refine (raw_ceil.calls k (wrap64 ((wrap64 ((wrap64 ((wrap64 ((wrap64 (2 * a3)) + 1)) * a1)) - a2)) + (wrap64 (4 * (ji9))))) (wrap64 (2 * a2)) t116 _ A11.out).mono ?_); rintro e w' ⟨rfl, ⟨nd, rfl⟩⟩; (try first | exact ⟨rfl, _, World.drewN_drewN _ _ _⟩ | exact ⟨rfl, _, Eq.trans (World.drewN_drewN _ _ _) (congrArg (World.drewN _) (Nat.add_assoc _ _ _))⟩))))
  go_ret2
  exact ⟨by first | rfl | (simp [errW_none, errW_some] <;> rfl) | (simp only [← hji9]; first | rfl | (simp [errW_none, errW_some] <;> rfl)) | (simp [*, errW_none, errW_some] <;> rfl), by repeat (first | (with_reducible first | exact HB.out | apply below_alloc | apply pw_below_drewN | apply below_drew1) | exact HB.out)⟩
 ·replace c6 := Bool.eq_false_iff.mpr c6
  subst c6
  have H1 : (some (0, 0)) = some (r1, r2) := by rw [if_neg (show ¬ (false = true) by decide)] at H; exact H
  clear H
  have H := H1
  clear H1
  simp only [Option.some.injEq, Prod.mk.injEq] at H
  obtain ⟨rfl, rfl⟩ := H
  go_enter Tryd.func45, Tryd.ntmps45
  go_wp2_with (first | (go_at_call 58; (with_reducible refine (raw_may.calls 1 a1 a2 a3 false _ A5.out).mono ?_); rintro e w' ⟨rfl, ⟨nd, rfl⟩⟩; (try first | exact ⟨rfl, _, World.drewN_drewN _ _ _⟩ | exact ⟨rfl, _, Eq.trans (World.drewN_drewN _ _ _) (congrArg (World.drewN _) (Nat.add_assoc _ _ _))⟩)))
  repeat (go_quiet (first | (go_at_call 58; (with_reducible refine (raw_may.calls 1 a1 a2 a3 false _ A5.out).mono ?_); rintro e w' ⟨rfl, ⟨nd, rfl⟩⟩; (try first | exact ⟨rfl, _, World.drewN_drewN _ _ _⟩ | exact ⟨rfl, _, Eq.trans (World.drewN_drewN _ _ _) (congrArg (World.drewN _) (Nat.add_assoc _ _ _))⟩))); try go_wp2_with (first | (go_at_call 58; (with_reducible refine (raw_may.calls 1 a1 a2 a3 false _ A5.out).mono ?_); rintro e w' ⟨rfl, ⟨nd, rfl⟩⟩; (try first | exact ⟨rfl, _, World.drewN_drewN _ _ _⟩ | exact ⟨rfl, _, Eq.trans (World.drewN_drewN _ _ _) (congrArg (World.drewN _) (Nat.add_assoc _ _ _))⟩))))
  go_ret2
  exact ⟨by first | rfl | (simp [errW_none, errW_some] <;> rfl) | (simp [*, errW_none, errW_some] <;> rfl), by repeat (first | (with_reducible first | exact HB.out | apply below_alloc | apply pw_below_drewN | apply below_drew1) | exact HB.out)⟩
def raw_Window_at2.f (k : Nat) (a1 : Int) (a2 : Int) (a3 : Int) : Option (Int × Int) := (raw_may.f 2 a1 a2 a3).bind fun t117 => (if t117 = true then ((fixed_Floor.f k (wrap64 (a3 * a1)) a2).bind fun t118 => ((raw_ceil.f k (wrap64 ((wrap64 (a3 + 1)) * a1)) a2).bind fun t119 => ((fixed_Floor.f k (wrap64 ((wrap64 ((wrap64 ((wrap64 ((wrap64 (2 * a3)) + 1)) * a1)) - a2)) - (wrap64 (6 * (mx a1 a2))))) (wrap64 (2 * a2))).bind fun t120 => ((raw_ceil.f k (wrap64 ((wrap64 ((wrap64 ((wrap64 ((wrap64 (2 * a3)) + 1)) * a1)) - a2)) + (wrap64 (6 * (mx a1 a2))))) (wrap64 (2 * a2))).bind fun t121 => (some (wrap64 (t120 + 1), wrap64 (t121 - (wrap64 (t120 + 1))))))))) else (some (0, 0)))
theorem raw_Window_at2.mono : ∀ a1 a2 a3 k, LeO (raw_Window_at2.f k a1 a2 a3) (raw_Window_at2.f (k + 1) a1 a2 a3) := by
 intro a1 a2 a3 k
 unfold raw_Window_at2.f
 repeat' first
   | (with_reducible exact fixed_Floor.mono _ _ _)
   | (with_reducible exact raw_ceil.mono _ _ _)
   | (with_reducible exact LeO.refl _)
   | (with_reducible exact LeO.none _)
   | (with_reducible refine LeO.ite ?_ ?_)
   | (with_reducible refine LeO.bind ?_ (fun _ => ?_))
   | exact fixed_Floor.mono _ _ _
   | exact raw_ceil.mono _ _ _
   | exact LeO.none _
   | refine LeO.ite ?_ ?_
   | refine LeO.bind ?_ (fun _ => ?_)
set_option maxHeartbeats 8000000 in
set_option maxRecDepth 100000 in
theorem raw_Window_at2.calls (k : Nat) (a1 : Int) (a2 : Int) (a3 : Int) (r1 : Int) (r2 : Int) (w : World) (hG : GL w) (h : raw_Window_at2.f k a1 a2 a3 = some (r1, r2)) :
  Calls Tryd.prog 45 #[.int .i64 2, .int .i64 a1, .int .i64 a2, .int .i64 a3] w fun e w' => e = .returned (.tuple #[.int .i64 r1, .int .i64 r2]) ∧ Below w.heap.size w w' := by
 have HB := Aside0.mk (Below.refl w.heap.size w)
 have H : ((raw_may.f 2 a1 a2 a3).bind fun t117 => (if t117 = true then ((fixed_Floor.f k (wrap64 (a3 * a1)) a2).bind fun t118 => ((raw_ceil.f k (wrap64 ((wrap64 (a3 + 1)) * a1)) a2).bind fun t119 => ((fixed_Floor.f k (wrap64 ((wrap64 ((wrap64 ((wrap64 ((wrap64 (2 * a3)) + 1)) * a1)) - a2)) - (wrap64 (6 * (mx a1 a2))))) (wrap64 (2 * a2))).bind fun t120 => ((raw_ceil.f k (wrap64 ((wrap64 ((wrap64 ((wrap64 ((wrap64 (2 * a3)) + 1)) * a1)) - a2)) + (wrap64 (6 * (mx a1 a2))))) (wrap64 (2 * a2))).bind fun t121 => (some (wrap64 (t120 + 1), wrap64 (t121 - (wrap64 (t120 + 1))))))))) else (some (0, 0)))) = some (r1, r2) := h
 clear h
 obtain ⟨⟨h0_0, h0_1, h0_2, h0_3, h0_4, h0_5⟩, ⟨ga1_, gc1_, gl1_, gs1_, h1_0, h1_1, h1_2⟩⟩ := hG
 replace H := Option.bind_eq_some_iff.mp H
 obtain ⟨t117, A50, H⟩ := H
 replace H : (if t117 = true then ((fixed_Floor.f k (wrap64 (a3 * a1)) a2).bind fun t118 => ((raw_ceil.f k (wrap64 ((wrap64 (a3 + 1)) * a1)) a2).bind fun t119 => ((fixed_Floor.f k (wrap64 ((wrap64 ((wrap64 ((wrap64 ((wrap64 (2 * a3)) + 1)) * a1)) - a2)) - (wrap64 (6 * (mx a1 a2))))) (wrap64 (2 * a2))).bind fun t120 => ((raw_ceil.f k (wrap64 ((wrap64 ((wrap64 ((wrap64 ((wrap64 (2 * a3)) + 1)) * a1)) - a2)) + (wrap64 (6 * (mx a1 a2))))) (wrap64 (2 * a2))).bind fun t121 => (some (wrap64 (t120 + 1), wrap64 (t121 - (wrap64 (t120 + 1))))))))) else (some (0, 0))) = some (r1, r2) := H
 have A5 := Aside0.mk A50
 clear A50
 by_cases c6 : t117 = true
 ·subst c6
  have H1 : ((fixed_Floor.f k (wrap64 (a3 * a1)) a2).bind fun t118 => ((raw_ceil.f k (wrap64 ((wrap64 (a3 + 1)) * a1)) a2).bind fun t119 => ((fixed_Floor.f k (wrap64 ((wrap64 ((wrap64 ((wrap64 ((wrap64 (2 * a3)) + 1)) * a1)) - a2)) - (wrap64 (6 * (mx a1 a2))))) (wrap64 (2 * a2))).bind fun t120 => ((raw_ceil.f k (wrap64 ((wrap64 ((wrap64 ((wrap64 ((wrap64 (2 * a3)) + 1)) * a1)) - a2)) + (wrap64 (6 * (mx a1 a2))))) (wrap64 (2 * a2))).bind fun t121 => (some (wrap64 (t120 + 1), wrap64 (t121 - (wrap64 (t120 + 1))))))))) = some (r1, r2) := by rw [if_pos rfl] at H; exact H
  clear H
  have H := H1
  clear H1
  replace H := Option.bind_eq_some_iff.mp H
  obtain ⟨t118, A70, H⟩ := H
  replace H : ((raw_ceil.f k (wrap64 ((wrap64 (a3 + 1)) * a1)) a2).bind fun t119 => ((fixed_Floor.f k (wrap64 ((wrap64 ((wrap64 ((wrap64 ((wrap64 (2 * a3)) + 1)) * a1)) - a2)) - (wrap64 (6 * (mx a1 a2))))) (wrap64 (2 * a2))).bind fun t120 => ((raw_ceil.f k (wrap64 ((wrap64 ((wrap64 ((wrap64 ((wrap64 (2 * a3)) + 1)) * a1)) - a2)) + (wrap64 (6 * (mx a1 a2))))) (wrap64 (2 * a2))).bind fun t121 => (some (wrap64 (t120 + 1), wrap64 (t121 - (wrap64 (t120 + 1)))))))) = some (r1, r2) := H
  have A7 := Aside0.mk A70
  clear A70
  replace H := Option.bind_eq_some_iff.mp H
  obtain ⟨t119, A80, H⟩ := H
  replace H : ((fixed_Floor.f k (wrap64 ((wrap64 ((wrap64 ((wrap64 ((wrap64 (2 * a3)) + 1)) * a1)) - a2)) - (wrap64 (6 * (mx a1 a2))))) (wrap64 (2 * a2))).bind fun t120 => ((raw_ceil.f k (wrap64 ((wrap64 ((wrap64 ((wrap64 ((wrap64 (2 * a3)) + 1)) * a1)) - a2)) + (wrap64 (6 * (mx a1 a2))))) (wrap64 (2 * a2))).bind fun t121 => (some (wrap64 (t120 + 1), wrap64 (t121 - (wrap64 (t120 + 1))))))) = some (r1, r2) := H
  have A8 := Aside0.mk A80
  clear A80
  obtain ⟨ji9, hji9⟩ : ∃ j_ : Int, (mx a1 a2) = j_ := ⟨_, rfl⟩
  replace H : ((fixed_Floor.f k (wrap64 ((wrap64 ((wrap64 ((wrap64 ((wrap64 (2 * a3)) + 1)) * a1)) - a2)) - (wrap64 (6 * (ji9))))) (wrap64 (2 * a2))).bind fun t120 => ((raw_ceil.f k (wrap64 ((wrap64 ((wrap64 ((wrap64 ((wrap64 (2 * a3)) + 1)) * a1)) - a2)) + (wrap64 (6 * (ji9))))) (wrap64 (2 * a2))).bind fun t121 => (some (wrap64 (t120 + 1), wrap64 (t121 - (wrap64 (t120 + 1))))))) = some (r1, r2) := by first | (rw [hji9] at H; exact H) | (simp only [hji9] at H ⊢; exact H)
  (try rw [hji9] at A5)
  (try rw [hji9] at A7)
  (try rw [hji9] at A8)
  have hji9_ : (if a1 < a2 then a2 else a1) = ji9 := hji9
  replace H := Option.bind_eq_some_iff.mp H
  obtain ⟨t120, A100, H⟩ := H
  replace H : ((raw_ceil.f k (wrap64 ((wrap64 ((wrap64 ((wrap64 ((wrap64 (2 * a3)) + 1)) * a1)) - a2)) + (wrap64 (6 * (ji9))))) (wrap64 (2 * a2))).bind fun t121 => (some (wrap64 (t120 + 1), wrap64 (t121 - (wrap64 (t120 + 1)))))) = some (r1, r2) := H
  have A10 := Aside0.mk A100
  clear A100
  replace H := Option.bind_eq_some_iff.mp H
  obtain ⟨t121, A110, H⟩ := H
  replace H : (some (wrap64 (t120 + 1), wrap64 (t121 - (wrap64 (t120 + 1))))) = some (r1, r2) := H
  have A11 := Aside0.mk A110
  clear A110
  simp only [Option.some.injEq, Prod.mk.injEq] at H
  obtain ⟨rfl, rfl⟩ := H
  go_enter Tryd.func45, Tryd.ntmps45
  go_wp2_with (first | (go_at_call 58; (with_reducible refine (raw_may.calls 2 a1 a2 a3 true _ A5.out).mono ?_); rintro e w' ⟨rfl, ⟨nd, rfl⟩⟩; (try first | exact ⟨rfl, _, World.drewN_drewN _ _ _⟩ | exact ⟨rfl, _, Eq.trans (World.drewN_drewN _ _ _) (congrArg (World.drewN _) (Nat.add_assoc _ _ _))⟩)) | (go_at_call 49; (with_reducible refine (fixed_Floor.calls k (wrap64 (a3 * a1)) a2 t118 _ A7.out).mono ?_); rintro e w' ⟨rfl, ⟨nd, rfl⟩⟩; (try first | exact ⟨rfl, _, World.drewN_drewN _ _ _⟩ | exact ⟨rfl, _, Eq.trans (World.drewN_drewN _ _ _) (congrArg (World.drewN _) (Nat.add_assoc _ _ _))⟩)) | (go_at_call 59; (with_reducible refine (raw_ceil.calls k (wrap64 ((wrap64 (a3 + 1)) * a1)) a2 t119 _ A8.out).mono ?_); rintro e w' ⟨rfl, ⟨nd, rfl⟩⟩; (try first | exact ⟨rfl, _, World.drewN_drewN _ _ _⟩ | exact ⟨rfl, _, Eq.trans (World.drewN_drewN _ _ _) (congrArg (World.drewN _) (Nat.add_assoc _ _ _))⟩)) | (go_at_call 49; (with_reducible refine (fixed_Floor.calls k (wrap64 ((wrap64 ((wrap64 ((wrap64 ((wrap64 (2 * a3)) + 1)) * a1)) - a2)) - (wrap64 (6 * (ji9))))) (wrap64 (2 * a2)) t120 _ A10.out).mono ?_); rintro e w' ⟨rfl, ⟨nd, rfl⟩⟩; (try first | exact ⟨rfl, _, World.drewN_drewN _ _ _⟩ | exact ⟨rfl, _, Eq.trans (World.drewN_drewN _ _ _) (congrArg (World.drewN _) (Nat.add_assoc _ _ _))⟩)) | (go_at_call 59; (with_reducible refine (raw_ceil.calls k (wrap64 ((wrap64 ((wrap64 ((wrap64 ((wrap64 (2 * a3)) + 1)) * a1)) - a2)) + (wrap64 (6 * (ji9))))) (wrap64 (2 * a2)) t121 _ A11.out).mono ?_); rintro e w' ⟨rfl, ⟨nd, rfl⟩⟩; (try first | exact ⟨rfl, _, World.drewN_drewN _ _ _⟩ | exact ⟨rfl, _, Eq.trans (World.drewN_drewN _ _ _) (congrArg (World.drewN _) (Nat.add_assoc _ _ _))⟩)))
  repeat (go_quiet (first | (go_at_call 58; (with_reducible refine (raw_may.calls 2 a1 a2 a3 true _ A5.out).mono ?_); rintro e w' ⟨rfl, ⟨nd, rfl⟩⟩; (try first | exact ⟨rfl, _, World.drewN_drewN _ _ _⟩ | exact ⟨rfl, _, Eq.trans (World.drewN_drewN _ _ _) (congrArg (World.drewN _) (Nat.add_assoc _ _ _))⟩)) | (go_at_call 49; (with_reducible refine (fixed_Floor.calls k (wrap64 (a3 * a1)) a2 t118 _ A7.out).mono ?_); rintro e w' ⟨rfl, ⟨nd, rfl⟩⟩; (try first | exact ⟨rfl, _, World.drewN_drewN _ _ _⟩ | exact ⟨rfl, _, Eq.trans (World.drewN_drewN _ _ _) (congrArg (World.drewN _) (Nat.add_assoc _ _ _))⟩)) | (go_at_call 59; (with_reducible refine (raw_ceil.calls k (wrap64 ((wrap64 (a3 + 1)) * a1)) a2 t119 _ A8.out).mono ?_); rintro e w' ⟨rfl, ⟨nd, rfl⟩⟩; (try first | exact ⟨rfl, _, World.drewN_drewN _ _ _⟩ | exact ⟨rfl, _, Eq.trans (World.drewN_drewN _ _ _) (congrArg (World.drewN _) (Nat.add_assoc _ _ _))⟩)) | (go_at_call 49; (with_reducible refine (fixed_Floor.calls k (wrap64 ((wrap64 ((wrap64 ((wrap64 ((wrap64 (2 * a3)) + 1)) * a1)) - a2)) - (wrap64 (6 * (ji9))))) (wrap64 (2 * a2)) t120 _ A10.out).mono ?_); rintro e w' ⟨rfl, ⟨nd, rfl⟩⟩; (try first | exact ⟨rfl, _, World.drewN_drewN _ _ _⟩ | exact ⟨rfl, _, Eq.trans (World.drewN_drewN _ _ _) (congrArg (World.drewN _) (Nat.add_assoc _ _ _))⟩)) | (go_at_call 59; (with_reducible refine (raw_ceil.calls k (wrap64 ((wrap64 ((wrap64 ((wrap64 ((wrap64 (2 * a3)) + 1)) * a1)) - a2)) + (wrap64 (6 * (ji9))))) (wrap64 (2 * a2)) t121 _ A11.out).mono ?_); rintro e w' ⟨rfl, ⟨nd, rfl⟩⟩; (try first | exact ⟨rfl, _, World.drewN_drewN _ _ _⟩ | exact ⟨rfl, _, Eq.trans (World.drewN_drewN _ _ _) (congrArg (World.drewN _) (Nat.add_assoc _ _ _))⟩))); try go_wp2_with (first | (go_at_call 58; (with_reducible refine (raw_may.calls 2 a1 a2 a3 true _ A5.out).mono ?_); rintro e w' ⟨rfl, ⟨nd, rfl⟩⟩; (try first | exact ⟨rfl, _, World.drewN_drewN _ _ _⟩ | exact ⟨rfl, _, Eq.trans (World.drewN_drewN _ _ _) (congrArg (World.drewN _) (Nat.add_assoc _ _ _))⟩)) | (go_at_call 49; (with_reducible refine (fixed_Floor.calls k (wrap64 (a3 * a1)) a2 t118 _ A7.out).mono ?_); rintro e w' ⟨rfl, ⟨nd, rfl⟩⟩; (try first | exact ⟨rfl, _, World.drewN_drewN _ _ _⟩ | exact ⟨rfl, _, Eq.trans (World.drewN_drewN _ _ _) (congrArg (World.drewN _) (Nat.add_assoc _ _ _))⟩)) | (go_at_call 59; (with_reducible refine (raw_ceil.calls k (wrap64 ((wrap64 (a3 + 1)) * a1)) a2 t119 _ A8.out).mono ?_); rintro e w' ⟨rfl, ⟨nd, rfl⟩⟩; (try first | exact ⟨rfl, _, World.drewN_drewN _ _ _⟩ | exact ⟨rfl, _, Eq.trans (World.drewN_drewN _ _ _) (congrArg (World.drewN _) (Nat.add_assoc _ _ _))⟩)) | (go_at_call 49; (with_reducible refine (fixed_Floor.calls k (wrap64 ((wrap64 ((wrap64 ((wrap64 ((wrap64 (2 * a3)) + 1)) * a1)) - a2)) - (wrap64 (6 * (ji9))))) (wrap64 (2 * a2)) t120 _ A10.out).mono ?_); rintro e w' ⟨rfl, ⟨nd, rfl⟩⟩; (try first | exact ⟨rfl, _, World.drewN_drewN _ _ _⟩ | exact ⟨rfl, _, Eq.trans (World.drewN_drewN _ _ _) (congrArg (World.drewN _) (Nat.add_assoc _ _ _))⟩)) | (go_at_call 59; (with_reducible refine (raw_ceil.calls k (wrap64 ((wrap64 ((wrap64 ((wrap64 ((wrap64 (2 * a3)) + 1)) * a1)) - a2)) + (wrap64 (6 * (ji9))))) (wrap64 (2 * a2)) t121 _ A11.out).mono ?_); rintro e w' ⟨rfl, ⟨nd, rfl⟩⟩; (try first | exact ⟨rfl, _, World.drewN_drewN _ _ _⟩ | exact ⟨rfl, _, Eq.trans (World.drewN_drewN _ _ _) (congrArg (World.drewN _) (Nat.add_assoc _ _ _))⟩))))
  go_ret2
  exact ⟨by first | rfl | (simp [errW_none, errW_some] <;> rfl) | (simp only [← hji9]; first | rfl | (simp [errW_none, errW_some] <;> rfl)) | (simp [*, errW_none, errW_some] <;> rfl), by repeat (first | (with_reducible first | exact HB.out | apply below_alloc | apply pw_below_drewN | apply below_drew1) | exact HB.out)⟩
 ·replace c6 := Bool.eq_false_iff.mpr c6
  subst c6
  have H1 : (some (0, 0)) = some (r1, r2) := by rw [if_neg (show ¬ (false = true) by decide)] at H; exact H
  clear H
  have H := H1
  clear H1
  simp only [Option.some.injEq, Prod.mk.injEq] at H
  obtain ⟨rfl, rfl⟩ := H
  go_enter Tryd.func45, Tryd.ntmps45
  go_wp2_with (first | (go_at_call 58; (with_reducible refine (raw_may.calls 2 a1 a2 a3 false _ A5.out).mono ?_); rintro e w' ⟨rfl, ⟨nd, rfl⟩⟩; (try first | exact ⟨rfl, _, World.drewN_drewN _ _ _⟩ | exact ⟨rfl, _, Eq.trans (World.drewN_drewN _ _ _) (congrArg (World.drewN _) (Nat.add_assoc _ _ _))⟩)))
  repeat (go_quiet (first | (go_at_call 58; (with_reducible refine (raw_may.calls 2 a1 a2 a3 false _ A5.out).mono ?_); rintro e w' ⟨rfl, ⟨nd, rfl⟩⟩; (try first | exact ⟨rfl, _, World.drewN_drewN _ _ _⟩ | exact ⟨rfl, _, Eq.trans (World.drewN_drewN _ _ _) (congrArg (World.drewN _) (Nat.add_assoc _ _ _))⟩))); try go_wp2_with (first | (go_at_call 58; (with_reducible refine (raw_may.calls 2 a1 a2 a3 false _ A5.out).mono ?_); rintro e w' ⟨rfl, ⟨nd, rfl⟩⟩; (try first | exact ⟨rfl, _, World.drewN_drewN _ _ _⟩ | exact ⟨rfl, _, Eq.trans (World.drewN_drewN _ _ _) (congrArg (World.drewN _) (Nat.add_assoc _ _ _))⟩))))
  go_ret2
  exact ⟨by first | rfl | (simp [errW_none, errW_some] <;> rfl) | (simp [*, errW_none, errW_some] <;> rfl), by repeat (first | (with_reducible first | exact HB.out | apply below_alloc | apply pw_below_drewN | apply below_drew1) | exact HB.out)⟩
def raw_Window_gen.f (k : Nat) (a0 : Int) (a1 : Int) (a2 : Int) (a3 : Int) : Option (Int × Int) := (raw_may.f a0 a1 a2 a3).bind fun t122 => (if t122 = true then ((fixed_Floor.f k (wrap64 (a3 * a1)) a2).bind fun t123 => ((raw_ceil.f k (wrap64 ((wrap64 (a3 + 1)) * a1)) a2).bind fun t124 => (if a0 = 0 then (some (t123, wrap64 (t124 - t123))) else (none)))) else (some (0, 0)))
theorem raw_Window_gen.mono : ∀ a0 a1 a2 a3 k, LeO (raw_Window_gen.f k a0 a1 a2 a3) (raw_Window_gen.f (k + 1) a0 a1 a2 a3) := by
 intro a0 a1 a2 a3 k
 unfold raw_Window_gen.f
 repeat' first
   | (with_reducible exact fixed_Floor.mono _ _ _)
   | (with_reducible exact raw_ceil.mono _ _ _)
   | (with_reducible exact LeO.refl _)
   | (with_reducible exact LeO.none _)
   | (with_reducible refine LeO.ite ?_ ?_)
   | (with_reducible refine LeO.bind ?_ (fun _ => ?_))
   | exact fixed_Floor.mono _ _ _
   | exact raw_ceil.mono _ _ _
   | exact LeO.none _
   | refine LeO.ite ?_ ?_
   | refine LeO.bind ?_ (fun _ => ?_)
set_option maxHeartbeats 8000000 in
set_option maxRecDepth 100000 in
theorem raw_Window_gen.calls (k : Nat) (a0 : Int) (a1 : Int) (a2 : Int) (a3 : Int) (r1 : Int) (r2 : Int) (w : World) (hG : GL w) (h : raw_Window_gen.f k a0 a1 a2 a3 = some (r1, r2)) :
  Calls Tryd.prog 45 #[.int .i64 a0, .int .i64 a1, .int .i64 a2, .int .i64 a3] w fun e w' => e = .returned (.tuple #[.int .i64 r1, .int .i64 r2]) ∧ Below w.heap.size w w' := by
 have HB := Aside0.mk (Below.refl w.heap.size w)
 have H : ((raw_may.f a0 a1 a2 a3).bind fun t122 => (if t122 = true then ((fixed_Floor.f k (wrap64 (a3 * a1)) a2).bind fun t123 => ((raw_ceil.f k (wrap64 ((wrap64 (a3 + 1)) * a1)) a2).bind fun t124 => (if a0 = 0 then (some (t123, wrap64 (t124 - t123))) else (none)))) else (some (0, 0)))) = some (r1, r2) := h
 clear h
 obtain ⟨⟨h0_0, h0_1, h0_2, h0_3, h0_4, h0_5⟩, ⟨ga1_, gc1_, gl1_, gs1_, h1_0, h1_1, h1_2⟩⟩ := hG
 replace H := Option.bind_eq_some_iff.mp H
 obtain ⟨t122, A50, H⟩ := H
 replace H : (if t122 = true then ((fixed_Floor.f k (wrap64 (a3 * a1)) a2).bind fun t123 => ((raw_ceil.f k (wrap64 ((wrap64 (a3 + 1)) * a1)) a2).bind fun t124 => (if a0 = 0 then (some (t123, wrap64 (t124 - t123))) else (none)))) else (some (0, 0))) = some (r1, r2) := H
 have A5 := Aside0.mk A50
 clear A50
 by_cases c6 : t122 = true
 ·subst c6
  have H1 : ((fixed_Floor.f k (wrap64 (a3 * a1)) a2).bind fun t123 => ((raw_ceil.f k (wrap64 ((wrap64 (a3 + 1)) * a1)) a2).bind fun t124 => (if a0 = 0 then (some (t123, wrap64 (t124 - t123))) else (none)))) = some (r1, r2) := by rw [if_pos rfl] at H; exact H
  clear H
  have H := H1
  clear H1
  replace H := Option.bind_eq_some_iff.mp H
  obtain ⟨t123, A70, H⟩ := H
  replace H : ((raw_ceil.f k (wrap64 ((wrap64 (a3 + 1)) * a1)) a2).bind fun t124 => (if a0 = 0 then (some (t123, wrap64 (t124 - t123))) else (none))) = some (r1, r2) := H
  have A7 := Aside0.mk A70
  clear A70
  replace H := Option.bind_eq_some_iff.mp H
  obtain ⟨t124, A80, H⟩ := H
  replace H : (if a0 = 0 then (some (t123, wrap64 (t124 - t123))) else (none)) = some (r1, r2) := H
  have A8 := Aside0.mk A80
  clear A80
  by_cases c9 : a0 = 0
  ·rw [if_pos c9] at H
   have c9b0 : (a0 == 0) = true := beq_iff_eq.mpr c9
   have c9b1 : (a0 != 0) = false := bne_eq_false_iff_eq.mpr c9
   clear c9
   simp only [Option.some.injEq, Prod.mk.injEq] at H
   obtain ⟨rfl, rfl⟩ := H
   go_enter Tryd.func45, Tryd.ntmps45
   go_wp2_with (first | (go_at_call 58; (with_reducible refine (raw_may.calls a0 a1 a2 a3 true _ A5.out).mono ?_); rintro e w' ⟨rfl, ⟨nd, rfl⟩⟩; (try first | exact ⟨rfl, _, World.drewN_drewN _ _ _⟩ | exact ⟨rfl, _, Eq.trans (World.drewN_drewN _ _ _) (congrArg (World.drewN _) (Nat.add_assoc _ _ _))⟩)) | (go_at_call 49; (with_reducible refine (fixed_Floor.calls k (wrap64 (a3 * a1)) a2 t123 _ A7.out).mono ?_); rintro e w' ⟨rfl, ⟨nd, rfl⟩⟩; (try first | exact ⟨rfl, _, World.drewN_drewN _ _ _⟩ | exact ⟨rfl, _, Eq.trans (World.drewN_drewN _ _ _) (congrArg (World.drewN _) (Nat.add_assoc _ _ _))⟩)) | (go_at_call 59; (with_reducible refine (raw_ceil.calls k (wrap64 ((wrap64 (a3 + 1)) * a1)) a2 t124 _ A8.out).mono ?_); rintro e w' ⟨rfl, ⟨nd, rfl⟩⟩; (try first | exact ⟨rfl, _, World.drewN_drewN _ _ _⟩ | exact ⟨rfl, _, Eq.trans (World.drewN_drewN _ _ _) (congrArg (World.drewN _) (Nat.add_assoc _ _ _))⟩)))
   repeat (go_quiet (first | (go_at_call 58; (with_reducible refine (raw_may.calls a0 a1 a2 a3 true _ A5.out).mono ?_); rintro e w' ⟨rfl, ⟨nd, rfl⟩⟩; (try first | exact ⟨rfl, _, World.drewN_drewN _ _ _⟩ | exact ⟨rfl, _, Eq.trans (World.drewN_drewN _ _ _) (congrArg (World.drewN _) (Nat.add_assoc _ _ _))⟩)) | (go_at_call 49; (with_reducible refine (fixed_Floor.calls k (wrap64 (a3 * a1)) a2 t123 _ A7.out).mono ?_); rintro e w' ⟨rfl, ⟨nd, rfl⟩⟩; (try first | exact ⟨rfl, _, World.drewN_drewN _ _ _⟩ | exact ⟨rfl, _, Eq.trans (World.drewN_drewN _ _ _) (congrArg (World.drewN _) (Nat.add_assoc _ _ _))⟩)) | (go_at_call 59; (with_reducible refine (raw_ceil.calls k (wrap64 ((wrap64 (a3 + 1)) * a1)) a2 t124 _ A8.out).mono ?_); rintro e w' ⟨rfl, ⟨nd, rfl⟩⟩; (try first | exact ⟨rfl, _, World.drewN_drewN _ _ _⟩ | exact ⟨rfl, _, Eq.trans (World.drewN_drewN _ _ _) (congrArg (World.drewN _) (Nat.add_assoc _ _ _))⟩))); try go_wp2_with (first | (go_at_call 58; (with_reducible refine (raw_may.calls a0 a1 a2 a3 true _ A5.out).mono ?_); rintro e w' ⟨rfl, ⟨nd, rfl⟩⟩; (try first | exact ⟨rfl, _, World.drewN_drewN _ _ _⟩ | exact ⟨rfl, _, Eq.trans (World.drewN_drewN _ _ _) (congrArg (World.drewN _) (Nat.add_assoc _ _ _))⟩)) | (go_at_call 49; (with_reducible refine (fixed_Floor.calls k (wrap64 (a3 * a1)) a2 t123 _ A7.out).mono ?_); rintro e w' ⟨rfl, ⟨nd, rfl⟩⟩; (try first | exact ⟨rfl, _, World.drewN_drewN _ _ _⟩ | exact ⟨rfl, _, Eq.trans (World.drewN_drewN _ _ _) (congrArg (World.drewN _) (Nat.add_assoc _ _ _))⟩)) | (go_at_call 59; (with_reducible refine (raw_ceil.calls k (wrap64 ((wrap64 (a3 + 1)) * a1)) a2 t124 _ A8.out).mono ?_); rintro e w' ⟨rfl, ⟨nd, rfl⟩⟩; (try first | exact ⟨rfl, _, World.drewN_drewN _ _ _⟩ | exact ⟨rfl, _, Eq.trans (World.drewN_drewN _ _ _) (congrArg (World.drewN _) (Nat.add_assoc _ _ _))⟩))))
   go_ret2
   exact ⟨by first | rfl | (simp [errW_none, errW_some] <;> rfl) | (simp [*, errW_none, errW_some] <;> rfl), by repeat (first | (with_reducible first | exact HB.out | apply below_alloc | apply pw_below_drewN | apply below_drew1) | exact HB.out)⟩
  ·rw [if_neg c9] at H
   exact absurd H (by simp)
 ·replace c6 := Bool.eq_false_iff.mpr c6
  subst c6
  have H1 : (some (0, 0)) = some (r1, r2) := by rw [if_neg (show ¬ (false = true) by decide)] at H; exact H
  clear H
  have H := H1
  clear H1
  simp only [Option.some.injEq, Prod.mk.injEq] at H
  obtain ⟨rfl, rfl⟩ := H
  go_enter Tryd.func45, Tryd.ntmps45
  go_wp2_with (first | (go_at_call 58; (with_reducible refine (raw_may.calls a0 a1 a2 a3 false _ A5.out).mono ?_); rintro e w' ⟨rfl, ⟨nd, rfl⟩⟩; (try first | exact ⟨rfl, _, World.drewN_drewN _ _ _⟩ | exact ⟨rfl, _, Eq.trans (World.drewN_drewN _ _ _) (congrArg (World.drewN _) (Nat.add_assoc _ _ _))⟩)))
  repeat (go_quiet (first | (go_at_call 58; (with_reducible refine (raw_may.calls a0 a1 a2 a3 false _ A5.out).mono ?_); rintro e w' ⟨rfl, ⟨nd, rfl⟩⟩; (try first | exact ⟨rfl, _, World.drewN_drewN _ _ _⟩ | exact ⟨rfl, _, Eq.trans (World.drewN_drewN _ _ _) (congrArg (World.drewN _) (Nat.add_assoc _ _ _))⟩))); try go_wp2_with (first | (go_at_call 58; (with_reducible refine (raw_may.calls a0 a1 a2 a3 false _ A5.out).mono ?_); rintro e w' ⟨rfl, ⟨nd, rfl⟩⟩; (try first | exact ⟨rfl, _, World.drewN_drewN _ _ _⟩ | exact ⟨rfl, _, Eq.trans (World.drewN_drewN _ _ _) (congrArg (World.drewN _) (Nat.add_assoc _ _ _))⟩))))
  go_ret2
  exact ⟨by first | rfl | (simp [errW_none, errW_some] <;> rfl) | (simp [*, errW_none, errW_some] <;> rfl), by repeat (first | (with_reducible first | exact HB.out | apply below_alloc | apply pw_below_drewN | apply below_drew1) | exact HB.out)⟩
def raw_Window.f (k : Nat) (a0 : Int) (a1 : Int) (a2 : Int) (a3 : Int) : Option (Int × Int) := if a0 = 1 then raw_Window_at1.f k a1 a2 a3 else if a0 = 2 then raw_Window_at2.f k a1 a2 a3 else raw_Window_gen.f k a0 a1 a2 a3
theorem raw_Window.mono : ∀ a0 a1 a2 a3 k, LeO (raw_Window.f k a0 a1 a2 a3) (raw_Window.f (k + 1) a0 a1 a2 a3) := by
 intro a0 a1 a2 a3 k
 unfold raw_Window.f
 exact LeO.ite (raw_Window_at1.mono _ _ _ _) (LeO.ite (raw_Window_at2.mono _ _ _ _) (raw_Window_gen.mono _ _ _ _ _))
theorem raw_Window.calls (k : Nat) (a0 : Int) (a1 : Int) (a2 : Int) (a3 : Int) (r1 : Int) (r2 : Int) (w : World) (hG : GL w) (h : raw_Window.f k a0 a1 a2 a3 = some (r1, r2)) :
  Calls Tryd.prog 45 #[.int .i64 a0, .int .i64 a1, .int .i64 a2, .int .i64 a3] w fun e w' => e = .returned (.tuple #[.int .i64 r1, .int .i64 r2]) ∧ Below w.heap.size w w' := by
 unfold raw_Window.f at h
 by_cases c1 : a0 = 1
 ·subst c1; exact raw_Window_at1.calls k a1 a2 a3 r1 r2 w hG (by rw [if_pos rfl] at h; exact h)
 ·rw [if_neg c1] at h
  by_cases c2 : a0 = 2
  ·subst c2; exact raw_Window_at2.calls k a1 a2 a3 r1 r2 w hG (by rw [if_pos rfl] at h; exact h)
  ·rw [if_neg c2] at h
   exact raw_Window_gen.calls k a0 a1 a2 a3 r1 r2 w hG h
def wide_size.f (a0 : Int) : Option (Int) := if a0 < 0 then (some (IntKind.u64.wrap (-(IntKind.u64.wrap (a0))))) else (some (IntKind.u64.wrap (a0)))
set_option maxHeartbeats 8000000 in
set_option maxRecDepth 100000 in
theorem wide_size.calls (a0 : Int) (r : Int) (w : World) (h : wide_size.f a0 = some r) :
  Calls Tryd.prog 74 #[.int .i64 a0] w fun e w' => e = .returned (.int .u64 r) ∧ Drawn0 w w' := by
 have H : (if a0 < 0 then (some (IntKind.u64.wrap (-(IntKind.u64.wrap (a0))))) else (some (IntKind.u64.wrap (a0)))) = some r := h
 clear h
 by_cases c2 : a0 < 0
 ·rw [if_pos c2] at H
  have c2b0 : decide (a0 < 0) = true := decide_eq_true c2
  clear c2
  obtain rfl := Option.some.inj H
  go_enter Tryd.func74, Tryd.ntmps74
  go_wp2
  go_ret
  exact ⟨by first | rfl | (simp; done) | (simp [*]; done), by repeat (first | exact Drawn0.refl _ | apply Drawn0.step)⟩
 ·rw [if_neg c2] at H
  have c2b0 : decide (a0 < 0) = false := decide_eq_false c2
  clear c2
  obtain rfl := Option.some.inj H
  go_enter Tryd.func74, Tryd.ntmps74
  go_wp2
  go_ret
  exact ⟨by first | rfl | (simp; done) | (simp [*]; done), by repeat (first | exact Drawn0.refl _ | apply Drawn0.step)⟩
def bits_Mul64.f (a0 : Int) (a1 : Int) : Option (Int × Int) := if 0 ≤ a0 ∧ a0 < 18446744073709551616 ∧ 0 ≤ a1 ∧ a1 < 18446744073709551616 then some (a0 * a1 / 18446744073709551616, a0 * a1 % 18446744073709551616) else none
theorem bits_Mul64.calls (a0 : Int) (a1 : Int) (r1 : Int) (r2 : Int) (w : World) (h : bits_Mul64.f a0 a1 = some (r1, r2)) :
  Calls Tryd.prog 87 #[.int .u64 a0, .int .u64 a1] w fun e w' => e = .returned (.tuple #[.int .u64 r1, .int .u64 r2]) ∧ Drawn0 w w' := by
 unfold bits_Mul64.f at h
 by_cases c : 0 ≤ a0 ∧ a0 < 18446744073709551616 ∧ 0 ≤ a1 ∧ a1 < 18446744073709551616
 ·rw [if_pos c] at h
  obtain ⟨h0, h1, h2, h3⟩ := c
  obtain ⟨rfl, rfl⟩ := Prod.mk.inj (Option.some.inj h)
  obtain ⟨x, rfl⟩ := Int.eq_ofNat_of_zero_le h0
  obtain ⟨y, rfl⟩ := Int.eq_ofNat_of_zero_le h2
  exact (Tryd.bits_Mul64 x y (by omega) (by omega) w).mono fun e w' ⟨he, hw⟩ => ⟨by rw [he]; congr 4, by rw [hw]; exact Drawn0.refl _⟩
 ·rw [if_neg c] at h; exact absurd h (by simp)
def wide_product.f (a0 : Int) (a1 : Int) : Option (Int × Int × Bool) := (wide_size.f a0).bind fun t125 => ((wide_size.f a1).bind fun t126 => ((bits_Mul64.f t125 t126).bind fun bt127 => (some (bt127.1, bt127.2, ((decide (a0 < 0)) != (decide (a1 < 0)))))))
set_option maxHeartbeats 8000000 in
set_option maxRecDepth 100000 in
theorem wide_product.calls (a0 : Int) (a1 : Int) (r1 : Int) (r2 : Int) (r3 : Bool) (w : World) (h : wide_product.f a0 a1 = some (r1, r2, r3)) :
  Calls Tryd.prog 73 #[.int .i64 a0, .int .i64 a1] w fun e w' => e = .returned (.tuple #[.int .u64 r1, .int .u64 r2, .bool r3]) ∧ Drawn0 w w' := by
 have H : ((wide_size.f a0).bind fun t125 => ((wide_size.f a1).bind fun t126 => ((bits_Mul64.f t125 t126).bind fun bt127 => (some (bt127.1, bt127.2, ((decide (a0 < 0)) != (decide (a1 < 0)))))))) = some (r1, r2, r3) := h
 clear h
 replace H := Option.bind_eq_some_iff.mp H
 obtain ⟨t125, A30, H⟩ := H
 replace H : ((wide_size.f a1).bind fun t126 => ((bits_Mul64.f t125 t126).bind fun bt127 => (some (bt127.1, bt127.2, ((decide (a0 < 0)) != (decide (a1 < 0))))))) = some (r1, r2, r3) := H
 have A3 := Aside0.mk A30
 clear A30
 replace H := Option.bind_eq_some_iff.mp H
 obtain ⟨t126, A40, H⟩ := H
 replace H : ((bits_Mul64.f t125 t126).bind fun bt127 => (some (bt127.1, bt127.2, ((decide (a0 < 0)) != (decide (a1 < 0)))))) = some (r1, r2, r3) := H
 have A4 := Aside0.mk A40
 clear A40
 replace H := Option.bind_eq_some_iff.mp H
 obtain ⟨⟨t127, t128⟩, A50, H⟩ := H
 replace H : (some (t127, t128, ((decide (a0 < 0)) != (decide (a1 < 0))))) = some (r1, r2, r3) := H
 have A5 := Aside0.mk A50
 clear A50
 simp only [Option.some.injEq, Prod.mk.injEq] at H
 obtain ⟨rfl, rfl, rfl⟩ := H
 go_enter Tryd.func73, Tryd.ntmps73
 go_wp2_with (first | ((with_reducible refine gate_callee (f := 74) rfl ?_); refine goesL_ (some 9) rfl rfl Tryd.func74 (by kernel_rfl) rfl #[.int .i64 a0] rfl (by (try simp only [List.map_toArray, List.map_cons, List.map_nil]); first | done | rfl | (simp only [List.length_drop, List.length_take]; rfl)) ?_; (with_reducible refine (wide_size.calls a0 t125 _ A3.out).mono ?_); rintro e w' ⟨rfl, ⟨nd, rfl⟩⟩; refine ⟨_, rfl, ?_⟩) | ((with_reducible refine gate_callee (f := 74) rfl ?_); refine goesL_ (some 11) rfl rfl Tryd.func74 (by kernel_rfl) rfl #[.int .i64 a1] rfl (by (try simp only [List.map_toArray, List.map_cons, List.map_nil]); first | done | rfl | (simp only [List.length_drop, List.length_take]; rfl)) ?_; (with_reducible refine (wide_size.calls a1 t126 _ A4.out).mono ?_); rintro e w' ⟨rfl, ⟨nd, rfl⟩⟩; refine ⟨_, rfl, ?_⟩) | ((with_reducible refine gate_callee (f := 87) rfl ?_); refine goesL_ (some 12) rfl rfl Tryd.func87 (by kernel_rfl) rfl #[.int .u64 t125, .int .u64 t126] rfl (by (try simp only [List.map_toArray, List.map_cons, List.map_nil]); first | done | rfl | (simp only [List.length_drop, List.length_take]; rfl)) ?_; (with_reducible refine (bits_Mul64.calls t125 t126 t127 t128 _ A5.out).mono ?_); rintro e w' ⟨rfl, ⟨nd, rfl⟩⟩; refine ⟨_, rfl, ?_⟩))
 go_ret3
 exact ⟨by first | rfl | (simp; done) | (simp [*]; done), by repeat (first | exact Drawn0.refl _ | apply Drawn0.step)⟩
end Go.Proofs.YtjenkaobmlpbgaaDoor.QA

namespace Go.Proofs.YtjenkaobmlpbgaaDoor.QA
open Go.Proofs.YtjenkaobmlpbgaaDoor.T
open Go.RowKit Go.Proofs.YtjenkaobmlpbgaaDoorW.PrintWords Go.Proofs.YtjenkaobmlpbgaaDoorW.PrintLast Go.Proofs.YtjenkaobmlpbgaaDoorW.PrintMore
attribute [local go_sem] ext_call max2_int min2_int max_two min_two max_three min_three max_four min_four   -- for this text's walks alone
set_option linter.unusedVariables false
set_option linter.unusedSimpArgs false
def wide_signed.j0 : Nat → Int → Int → Bool → Bool → Option (Int)
 | 0, _, _, _, _ => none
 | k + 1, x0, x1, x2, x7 => if x7 = true then (some (-9223372036854775808)) else (if x2 = true then (some (wrap64 (IntKind.u64.wrap (-x1)))) else (if x0 > 0 then (some 9223372036854775807) else (if x1 > 9223372036854775807 then (some 9223372036854775807) else (some (wrap64 (x1))))))
def wide_signed.f (k : Nat) (a0 : Int) (a1 : Int) (a2 : Bool) : Option (Int) := if a2 = true then (if a0 > 0 then (wide_signed.j0 k a0 a1 a2 true) else (wide_signed.j0 k a0 a1 a2 (decide (a1 > 9223372036854775808)))) else (wide_signed.j0 k a0 a1 a2 false)
theorem wide_signed.mono_l : ∀ k, (∀ y0 y1 y2 y3, LeO (wide_signed.j0 k y0 y1 y2 y3) (wide_signed.j0 (k + 1) y0 y1 y2 y3))
 | 0 => fun _ _ _ _ r h => by simp [wide_signed.j0] at h
 | k + 1 => by
  have ih0 := wide_signed.mono_l k
  ·intro y0 y1 y2 y3
   unfold wide_signed.j0
   repeat' first
   | (with_reducible exact ih0 _ _ _ _)
   | (with_reducible exact LeO.refl _)
   | (with_reducible exact LeO.none _)
   | (with_reducible refine LeO.ite ?_ ?_)
   | (with_reducible refine LeO.bind ?_ (fun _ => ?_))
   | exact ih0 _ _ _ _
   | exact LeO.none _
   | refine LeO.ite ?_ ?_
   | refine LeO.bind ?_ (fun _ => ?_)
theorem wide_signed.mono : ∀ a0 a1 a2 k, LeO (wide_signed.f k a0 a1 a2) (wide_signed.f (k + 1) a0 a1 a2) := by
 intro a0 a1 a2 k
 have ih0 := wide_signed.mono_l k
 unfold wide_signed.f
 repeat' first
   | (with_reducible exact ih0 _ _ _ _)
   | (with_reducible exact LeO.refl _)
   | (with_reducible exact LeO.none _)
   | (with_reducible refine LeO.ite ?_ ?_)
   | (with_reducible refine LeO.bind ?_ (fun _ => ?_))
   | exact ih0 _ _ _ _
   | exact LeO.none _
   | refine LeO.ite ?_ ?_
   | refine LeO.bind ?_ (fun _ => ?_)
set_option maxHeartbeats 8000000 in
set_option maxRecDepth 100000 in
theorem wide_signed.calls (k : Nat) (a0 : Int) (a1 : Int) (a2 : Bool) (r : Int) (w : World) (h : wide_signed.f k a0 a1 a2 = some r) :
  Calls Tryd.prog 75 #[.int .u64 a0, .int .u64 a1, .bool a2] w fun e w' => e = .returned (.int .i64 r) ∧ Drawn0 w w' := by
 have H : (if a2 = true then (if a0 > 0 then (wide_signed.j0 k a0 a1 a2 true) else (wide_signed.j0 k a0 a1 a2 (decide (a1 > 9223372036854775808)))) else (wide_signed.j0 k a0 a1 a2 false)) = some r := h
 clear h
 have HC4 := Aside0.mk H
 clear H
 go_enter Tryd.func75, Tryd.ntmps75
 go_upto_region 1 with (fail)
 go_cut [7] (fun v7 wc => ∃ (kq : Nat) (x7_3 : Bool), v7 = .bool x7_3 ∧ Aside0 (wide_signed.j0 kq a0 a1 a2 x7_3 = some r) ∧ Aside0 (kq ≤ k) ∧ Drawn0 w wc)
 case first =>
  have H := HC4.out
  clear HC4
  by_cases c5 : a2 = true
  ·subst c5
   have H1 : (if a0 > 0 then (wide_signed.j0 k a0 a1 true true) else (wide_signed.j0 k a0 a1 true (decide (a1 > 9223372036854775808)))) = some r := by rw [if_pos rfl] at H; exact H
   clear H
   have H := H1
   clear H1
   by_cases c6 : a0 > 0
   ·rw [if_pos c6] at H
    have c6b0 : decide (0 < a0) = true := decide_eq_true c6
    clear c6
    (first | rw [c6b0] | (simp only [i64_w, i32_w]; rw [c6b0]) | skip)
    have H' := Aside0.mk H
    clear H
    go_wp2
    go_meet
    case rel => exact ⟨_, (true), (by first | rfl | (simp; done) | (simp [*]; done)), H', ⟨by first | omega | exact Nat.le_refl _⟩, by repeat (first | exact Drawn0.refl _ | apply Drawn0.step)⟩
   ·rw [if_neg c6] at H
    have c6b0 : decide (0 < a0) = false := decide_eq_false c6
    clear c6
    (first | rw [c6b0] | (simp only [i64_w, i32_w]; rw [c6b0]) | skip)
    have H' := Aside0.mk H
    clear H
    go_wp2
    go_meet
    case rel => exact ⟨_, (decide (a1 > 9223372036854775808)), (by first | rfl | (simp; done) | (simp [*]; done)), H', ⟨by first | omega | exact Nat.le_refl _⟩, by repeat (first | exact Drawn0.refl _ | apply Drawn0.step)⟩
  ·replace c5 := Bool.eq_false_iff.mpr c5
   subst c5
   have H1 : (wide_signed.j0 k a0 a1 false false) = some r := by rw [if_neg (show ¬ (false = true) by decide)] at H; exact H
   clear H
   have H := H1
   clear H1
   have H' := Aside0.mk H
   clear H
   go_wp2
   go_meet
   case rel => exact ⟨_, (false), (by first | rfl | (simp; done) | (simp [*]; done)), H', ⟨by first | omega | exact Nat.le_refl _⟩, by repeat (first | exact Drawn0.refl _ | apply Drawn0.step)⟩
 case rest =>
  clear HC4
  try clear p2
  try clear c5
  try clear c6
  try clear c6b0
  obtain ⟨kq, x7_3, rfl, HA, HJ3, ⟨mc3, rfl⟩⟩ := hcut
  cases kq with
  | zero => exact absurd HA.out (by simp [wide_signed.j0])
  | succ kj3 =>
   have H := HA.out
   clear HA
   simp only [wide_signed.j0] at H
   by_cases c7 : x7_3 = true
   ·subst c7
    have H1 : (some (-9223372036854775808)) = some r := by rw [if_pos rfl] at H; exact H
    clear H
    have H := H1
    clear H1
    obtain rfl := Option.some.inj H
    go_wp2
    go_ret
    exact ⟨by first | rfl | (simp; done) | (simp [*]; done), by repeat (first | exact Drawn0.refl _ | apply Drawn0.step)⟩
   ·replace c7 := Bool.eq_false_iff.mpr c7
    subst c7
    have H1 : (if a2 = true then (some (wrap64 (IntKind.u64.wrap (-a1)))) else (if a0 > 0 then (some 9223372036854775807) else (if a1 > 9223372036854775807 then (some 9223372036854775807) else (some (wrap64 (a1)))))) = some r := by rw [if_neg (show ¬ (false = true) by decide)] at H; exact H
    clear H
    have H := H1
    clear H1
    by_cases c8 : a2 = true
    ·subst c8
     have H1 : (some (wrap64 (IntKind.u64.wrap (-a1)))) = some r := by rw [if_pos rfl] at H; exact H
     clear H
     have H := H1
     clear H1
     obtain rfl := Option.some.inj H
     go_wp2
     go_ret
     exact ⟨by first | rfl | (simp; done) | (simp [*]; done), by repeat (first | exact Drawn0.refl _ | apply Drawn0.step)⟩
    ·replace c8 := Bool.eq_false_iff.mpr c8
     subst c8
     have H1 : (if a0 > 0 then (some 9223372036854775807) else (if a1 > 9223372036854775807 then (some 9223372036854775807) else (some (wrap64 (a1))))) = some r := by rw [if_neg (show ¬ (false = true) by decide)] at H; exact H
     clear H
     have H := H1
     clear H1
     by_cases c9 : a0 > 0
     ·rw [if_pos c9] at H
      have c9b0 : decide (0 < a0) = true := decide_eq_true c9
      clear c9
      obtain rfl := Option.some.inj H
      go_wp2
      go_ret
      exact ⟨by first | rfl | (simp; done) | (simp [*]; done), by repeat (first | exact Drawn0.refl _ | apply Drawn0.step)⟩
     ·rw [if_neg c9] at H
      have c9b0 : decide (0 < a0) = false := decide_eq_false c9
      clear c9
      by_cases c10 : a1 > 9223372036854775807
      ·rw [if_pos c10] at H
       have c10b0 : decide (9223372036854775807 < a1) = true := decide_eq_true c10
       clear c10
       obtain rfl := Option.some.inj H
       go_wp2
       go_ret
       exact ⟨by first | rfl | (simp; done) | (simp [*]; done), by repeat (first | exact Drawn0.refl _ | apply Drawn0.step)⟩
      ·rw [if_neg c10] at H
       have c10b0 : decide (9223372036854775807 < a1) = false := decide_eq_false c10
       clear c10
       obtain rfl := Option.some.inj H
       go_wp2
       go_ret
       exact ⟨by first | rfl | (simp; done) | (simp [*]; done), by repeat (first | exact Drawn0.refl _ | apply Drawn0.step)⟩
def bits_LeadingZeros64.f (a0 : Int) : Option (Int) := if 0 ≤ a0 then (if a0 ≤ 18446744073709551615 then (some (64 - (Lib.bitLen a0.toNat : Int))) else (none)) else (none)
theorem bits_LeadingZeros64.calls (a0 : Int) (r : Int) (w : World) (h : bits_LeadingZeros64.f a0 = some r) :
  Calls Tryd.prog 88 #[.int .u64 a0] w fun e w' => e = .returned (.int .i64 r) ∧ Drawn0 w w' := by
 unfold bits_LeadingZeros64.f at h
 by_cases h0 : 0 ≤ a0
 ·rw [if_pos h0] at h
  by_cases h1 : a0 ≤ 18446744073709551615
  ·rw [if_pos h1] at h
   obtain rfl := Option.some.inj h
   exact (Tryd.bits_LeadingZeros64 a0 w h0 h1).mono fun e w' ⟨he, hw⟩ => ⟨he, by rw [hw]; exact Drawn0.refl _⟩
  ·rw [if_neg h1] at h; exact absurd h (by simp)
 ·rw [if_neg h0] at h; exact absurd h (by simp)
end Go.Proofs.YtjenkaobmlpbgaaDoor.QA
