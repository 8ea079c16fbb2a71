-- Written by wip/tools/pp.py over the kit's print.py; not trusted: Lean checks it.
import Derived.Test.YtbkbgpileogehaaDoorQAx0
import Derived.Test.YtbkbgpileogehaaDoorQAx8
import Derived.Test.YtbkbgpileogehaaDoorQAx10
namespace Go.Proofs.YtbkbgpileogehaaDoor.QA
open Go.Proofs.YtbkbgpileogehaaDoor.T
open Go.RowKit Go.Proofs.YtbkbgpileogehaaDoorW.PrintWords Go.Proofs.YtbkbgpileogehaaDoorW.PrintLast Go.Proofs.YtbkbgpileogehaaDoorW.PrintMore
attribute [local go_sem] ext_call max2_int min2_int max_two min_two max_three min_three max_four min_four   -- for this text's walks alone
set_option linter.unusedVariables false
set_option linter.unusedSimpArgs false

/-! ### raw_Name_gen: function 17 -/
def raw_Name_gen.f (a0 : Int) : Option (ByteArray) := if a0 < 0 then (some (⟨#[]⟩ : ByteArray)) else (if a0 ≥ 3 then (some (⟨#[]⟩ : ByteArray)) else (none))
set_option maxHeartbeats 8000000 in
set_option maxRecDepth 100000 in
theorem raw_Name_gen.calls (a0 : Int) (r : ByteArray) (w : World) (hG : GL w) (h : raw_Name_gen.f a0 = some r) :
  Calls Tryd.prog 17 #[.int .i64 a0] w fun e w' => e = .returned (.string r) ∧ Drawn0 w w' := by
 have H : (if a0 < 0 then (some (⟨#[]⟩ : ByteArray)) else (if a0 ≥ 3 then (some (⟨#[]⟩ : ByteArray)) else (none))) = some r := h
 clear h
 obtain ⟨h0_0, h0_1, h0_2, h0_3, h0_4, h0_5⟩ := hG
 by_cases c2 : a0 < 0
 ·rw [if_pos c2] at H
  have c2b0 : decide (a0 < 0) = true := decide_eq_true c2
  clear c2
  obtain rfl := Option.some.inj H
  go_enter Tryd.func17, Tryd.ntmps17
  go_wp2
  go_ret
  exact ⟨by first | rfl | (simp; done) | (simp [*]; done), by repeat (first | exact Drawn0.refl _ | apply Drawn0.step)⟩
 ·rw [if_neg c2] at H
  have c2b0 : decide (a0 < 0) = false := decide_eq_false c2
  clear c2
  by_cases c3 : a0 ≥ 3
  ·rw [if_pos c3] at H
   have c3b0 : decide (3 ≤ a0) = true := decide_eq_true c3
   clear c3
   obtain rfl := Option.some.inj H
   go_enter Tryd.func17, Tryd.ntmps17
   go_wp2
   go_ret
   exact ⟨by first | rfl | (simp; done) | (simp [*]; done), by repeat (first | exact Drawn0.refl _ | apply Drawn0.step)⟩
  ·rw [if_neg c3] at H
   exact absurd H (by simp)

/-! ### raw_Name: function 17 -/
def raw_Name.f (a0 : Int) : Option (ByteArray) := if a0 = 0 then raw_Name_at0.f else if a0 = 1 then raw_Name_at1.f else if a0 = 2 then raw_Name_at2.f else raw_Name_gen.f a0
theorem raw_Name.calls (a0 : Int) (r : ByteArray) (w : World) (hG : GL w) (h : raw_Name.f a0 = some r) :
  Calls Tryd.prog 17 #[.int .i64 a0] w fun e w' => e = .returned (.string r) ∧ Drawn0 w w' := by
 unfold raw_Name.f at h
 by_cases c0 : a0 = 0
 ·subst c0; exact raw_Name_at0.calls r w hG (by rw [if_pos rfl] at h; exact h)
 ·rw [if_neg c0] at h
  by_cases c1 : a0 = 1
  ·subst c1; exact raw_Name_at1.calls r w hG (by rw [if_pos rfl] at h; exact h)
  ·rw [if_neg c1] at h
   by_cases c2 : a0 = 2
   ·subst c2; exact raw_Name_at2.calls r w hG (by rw [if_pos rfl] at h; exact h)
   ·rw [if_neg c2] at h
    exact raw_Name_gen.calls a0 r w hG h

/-! ### smaltolaw05_RawNames: function 6 -/
def smaltolaw05_RawNames.f (k : Nat) (a0 : Int) : Option (Bool) := (smaltolaw05_Lives.f k).bind fun t197 => (if t197 = true then (if a0 ≥ 0 then (if a0 ≤ 2 then ((some (([(⟨#[98, 111, 120]⟩ : ByteArray), (⟨#[99, 117, 98, 105, 99]⟩ : ByteArray), (⟨#[108, 97, 110, 99, 122, 111, 115]⟩ : ByteArray)] : List ByteArray) : List ByteArray)).bind fun y198 => (if 0 ≤ a0 then (if a0 < (y198.length : Int) then ((raw_Name.f a0).bind fun t202 => (some (t202.toList == (rdOf ByteArray.empty y198 a0).toList))) else (none)) else (none))) else ((raw_Name.f a0).bind fun t203 => (some (t203.toList == ([] : List UInt8))))) else ((raw_Name.f a0).bind fun t204 => (some (t204.toList == ([] : List UInt8))))) else (some false))
theorem smaltolaw05_RawNames.mono : ∀ a0 k, LeO (smaltolaw05_RawNames.f k a0) (smaltolaw05_RawNames.f (k + 1) a0) := by
 intro a0 k
 unfold smaltolaw05_RawNames.f
 repeat' first
   | (with_reducible exact smaltolaw05_Lives.mono _)
   | (with_reducible exact LeO.refl _)
   | (with_reducible exact LeO.none _)
   | (with_reducible refine LeO.ite ?_ ?_)
   | (with_reducible refine LeO.bind ?_ (fun _ => ?_))
   | exact smaltolaw05_Lives.mono _
   | exact LeO.none _
   | refine LeO.ite ?_ ?_
   | refine LeO.bind ?_ (fun _ => ?_)
set_option maxHeartbeats 8000000 in
set_option maxRecDepth 100000 in
theorem smaltolaw05_RawNames.calls (k : Nat) (a0 : Int) (r : Bool) (w : World) (hG : GL w) (h : smaltolaw05_RawNames.f k a0 = some r) :
  Calls Tryd.prog 6 #[.int .i64 a0] w fun e w' => e = .returned (.bool r) ∧ Below w.heap.size w w' := by
 have HB := Aside0.mk (Below.refl w.heap.size w)
 have H : ((smaltolaw05_Lives.f k).bind fun t197 => (if t197 = true then (if a0 ≥ 0 then (if a0 ≤ 2 then ((some (([(⟨#[98, 111, 120]⟩ : ByteArray), (⟨#[99, 117, 98, 105, 99]⟩ : ByteArray), (⟨#[108, 97, 110, 99, 122, 111, 115]⟩ : ByteArray)] : List ByteArray) : List ByteArray)).bind fun y198 => (if 0 ≤ a0 then (if a0 < (y198.length : Int) then ((raw_Name.f a0).bind fun t202 => (some (t202.toList == (rdOf ByteArray.empty y198 a0).toList))) else (none)) else (none))) else ((raw_Name.f a0).bind fun t203 => (some (t203.toList == ([] : List UInt8))))) else ((raw_Name.f a0).bind fun t204 => (some (t204.toList == ([] : List UInt8))))) else (some false))) = some r := h
 clear h
 replace H := Option.bind_eq_some_iff.mp H
 obtain ⟨t197, A20, H⟩ := H
 replace H : (if t197 = true then (if a0 ≥ 0 then (if a0 ≤ 2 then ((some (([(⟨#[98, 111, 120]⟩ : ByteArray), (⟨#[99, 117, 98, 105, 99]⟩ : ByteArray), (⟨#[108, 97, 110, 99, 122, 111, 115]⟩ : ByteArray)] : List ByteArray) : List ByteArray)).bind fun y198 => (if 0 ≤ a0 then (if a0 < (y198.length : Int) then ((raw_Name.f a0).bind fun t202 => (some (t202.toList == (rdOf ByteArray.empty y198 a0).toList))) else (none)) else (none))) else ((raw_Name.f a0).bind fun t203 => (some (t203.toList == ([] : List UInt8))))) else ((raw_Name.f a0).bind fun t204 => (some (t204.toList == ([] : List UInt8))))) else (some false)) = some r := H
 have A2 := Aside0.mk A20
 clear A20
 by_cases c3 : t197 = true
 ·subst c3
  have H1 : (if a0 ≥ 0 then (if a0 ≤ 2 then ((some (([(⟨#[98, 111, 120]⟩ : ByteArray), (⟨#[99, 117, 98, 105, 99]⟩ : ByteArray), (⟨#[108, 97, 110, 99, 122, 111, 115]⟩ : ByteArray)] : List ByteArray) : List ByteArray)).bind fun y198 => (if 0 ≤ a0 then (if a0 < (y198.length : Int) then ((raw_Name.f a0).bind fun t202 => (some (t202.toList == (rdOf ByteArray.empty y198 a0).toList))) else (none)) else (none))) else ((raw_Name.f a0).bind fun t203 => (some (t203.toList == ([] : List UInt8))))) else ((raw_Name.f a0).bind fun t204 => (some (t204.toList == ([] : List UInt8))))) = some r := by rw [if_pos rfl] at H; exact H
  clear H
  have H := H1
  clear H1
  by_cases c4 : a0 ≥ 0
  ·rw [if_pos c4] at H
   have c4b0 : decide (0 ≤ a0) = true := decide_eq_true c4
   clear c4
   by_cases c5 : a0 ≤ 2
   ·rw [if_pos c5] at H
    have c5b0 : decide (a0 ≤ 2) = true := decide_eq_true c5
    clear c5
    obtain ⟨y198, hy198⟩ : ∃ y_ : List ByteArray, y_ = (([(⟨#[98, 111, 120]⟩ : ByteArray), (⟨#[99, 117, 98, 105, 99]⟩ : ByteArray), (⟨#[108, 97, 110, 99, 122, 111, 115]⟩ : ByteArray)] : List ByteArray)) := ⟨_, rfl⟩
    replace H : (if 0 ≤ a0 then (if a0 < (y198.length : Int) then ((raw_Name.f a0).bind fun t202 => (some (t202.toList == (rdOf ByteArray.empty y198 a0).toList))) else (none)) else (none)) = some r := by first | (rw [hy198]; with_reducible exact H) | (have H2_ := (Option.bind_some _ _).symm.trans H; rw [hy198]; with_reducible exact H2_) | (have H2_ := (Option.bind_some _ _).symm.trans H; with_reducible exact H2_) | with_reducible exact H | (rw [hy198]; exact H) | exact H
    have Ny198 := Aside0.mk hy198
    clear hy198
    by_cases c6 : 0 ≤ a0
    ·rw [if_pos c6] at H
     have c6b0 : decide (0 ≤ a0) = true := decide_eq_true c6
     clear c6
     by_cases c7 : a0 < (y198.length : Int)
     ·rw [if_pos c7] at H
      have c7b0 : decide (a0 < (y198.length : Int)) = true := decide_eq_true c7
      clear c7
      replace H := Option.bind_eq_some_iff.mp H
      obtain ⟨t202, A80, H⟩ := H
      replace H : (some (t202.toList == (rdOf ByteArray.empty y198 a0).toList)) = some r := H
      have A8 := Aside0.mk A80
      clear A80
      obtain rfl := Option.some.inj H
      go_enter Tryd.func6, Tryd.ntmps6
      go_wp2_with (first | ((with_reducible refine gate_callee (f := 10) rfl ?_); refine goesL_ (some 4) rfl rfl Tryd.func10 (by kernel_rfl) rfl #[] rfl (by (try simp only [List.map_toArray, List.map_cons, List.map_nil]); first | done | rfl | (simp only [List.length_drop, List.length_take]; rfl)) ?_; (with_reducible refine (smaltolaw05_Lives.calls k  true _ (by exact GL.below hG (by repeat (first | (with_reducible first | exact HB.out | apply below_alloc | apply pw_below_drewN | apply below_drew1) | exact HB.out | exact Below.refl _ _))) A2.out).mono ?_); rintro e w9 ⟨rfl, hb⟩; refine ⟨_, rfl, ?_⟩; have n0_ := Aside0.mk (below_step (by repeat (first | (with_reducible first | exact HB.out | apply below_alloc | apply pw_below_drewN | apply below_drew1) | exact HB.out)) hb); clear HB; have HB := n0_; clear n0_; (try clear hb); (try clear hb2); (try clear hk); (try clear hi)) | ((with_reducible refine gate_dst (N := 12) rfl ?_); refine Kd.R_lit Kd.string _ 9 ?hg (N := 12) ?hd (xs := ([(⟨#[98, 111, 120]⟩ : ByteArray), (⟨#[99, 117, 98, 105, 99]⟩ : ByteArray), (⟨#[108, 97, 110, 99, 122, 111, 115]⟩ : ByteArray)] : List ByteArray)) (inner := [.string (⟨#[98, 111, 120]⟩ : ByteArray), .string (⟨#[99, 117, 98, 105, 99]⟩ : ByteArray), .string (⟨#[108, 97, 110, 99, 122, 111, 115]⟩ : ByteArray)]) (ok := fun _ => True) (okp := fun _ => True) ?hr ?hp (fun _ hk => hk) trivial (Below.refl _ _) (Nat.le_refl _) (by simp) ?_; (case hd => rfl); (case hg => rfl); (case hr => first | (go_simp; done) | (go_simp; rfl)); (case hp => exact (Reps.one (show Kd.M Kd.string _ _ _ (⟨#[98, 111, 120]⟩ : ByteArray) [.string (⟨#[98, 111, 120]⟩ : ByteArray)] from rfl) (Reps.one (show Kd.M Kd.string _ _ _ (⟨#[99, 117, 98, 105, 99]⟩ : ByteArray) [.string (⟨#[99, 117, 98, 105, 99]⟩ : ByteArray)] from rfl) (Reps.one (show Kd.M Kd.string _ _ _ (⟨#[108, 97, 110, 99, 122, 111, 115]⟩ : ByteArray) [.string (⟨#[108, 97, 110, 99, 122, 111, 115]⟩ : ByteArray)] from rfl) (Reps.none _ _))))); intro v199 w10 ho11 hb hg_ hnew_; clear hg_ hnew_; (first | rw [← Ny198.out] at ho11 | (simp only [Int.reduceToNat] at ho11; rw [← Ny198.out] at ho11)); have n0_ := Aside0.mk (Kd.R_lower ho11 (below_size (by repeat (first | (with_reducible first | exact HB.out | apply below_alloc | apply pw_below_drewN | apply below_drew1) | exact HB.out)))); have n1_ := Aside0.mk (below_step (by repeat (first | (with_reducible first | exact HB.out | apply below_alloc | apply pw_below_drewN | apply below_drew1) | exact HB.out)) hb); clear HB; have HO200 := n0_; have HB := n1_; clear n0_ n1_; clear hb ho11; obtain ⟨Ao12, co12, eo12⟩ := Kd.R_slice HO200.out; subst eo12; have p201 : 0 ≤ (a0 : Int) := of_decide_eq_true (by first | (with_reducible assumption) | assumption); have q201 : a0 < (y198.length : Int) := of_decide_eq_true (by first | (with_reducible assumption) | assumption); obtain ⟨ad201, e201, hx201_0⟩ := Kd.at_string (Kd.R_reads' HO200.out).2.2 a0 p201 q201; cases e201; replace p201 := eq_true p201; replace q201 := eq_true q201) | ((with_reducible refine gate_callee (f := 17) rfl ?_); refine goesL_ (some 17) rfl rfl Tryd.func17 (by kernel_rfl) rfl #[.int .i64 a0] rfl (by (try simp only [List.map_toArray, List.map_cons, List.map_nil]); first | done | rfl | (simp only [List.length_drop, List.length_take]; rfl)) ?_; (with_reducible refine (raw_Name.calls a0 t202 _ (by exact GL.below hG (by repeat (first | (with_reducible first | exact HB.out | apply below_alloc | apply pw_below_drewN | apply below_drew1) | exact HB.out | exact Below.refl _ _))) A8.out).mono ?_); rintro e w' ⟨rfl, ⟨nd, rfl⟩⟩; refine ⟨_, rfl, ?_⟩))
      go_ret
      exact ⟨by first | rfl | (simp [errW_none, errW_some] <;> rfl) | (simp [*, errW_none, errW_some] <;> rfl), by repeat (first | (with_reducible first | exact HB.out | apply below_alloc | apply pw_below_drewN | apply below_drew1) | exact HB.out)⟩
     ·rw [if_neg c7] at H
      exact absurd H (by simp)
    ·rw [if_neg c6] at H
     exact absurd H (by simp)
   ·rw [if_neg c5] at H
    have c5b0 : decide (a0 ≤ 2) = false := decide_eq_false c5
    clear c5
    replace H := Option.bind_eq_some_iff.mp H
    obtain ⟨t203, A130, H⟩ := H
    replace H : (some (t203.toList == ([] : List UInt8))) = some r := H
    have A13 := Aside0.mk A130
    clear A130
    obtain rfl := Option.some.inj H
    go_enter Tryd.func6, Tryd.ntmps6
    go_wp2_with (first | ((with_reducible refine gate_callee (f := 10) rfl ?_); refine goesL_ (some 4) rfl rfl Tryd.func10 (by kernel_rfl) rfl #[] rfl (by (try simp only [List.map_toArray, List.map_cons, List.map_nil]); first | done | rfl | (simp only [List.length_drop, List.length_take]; rfl)) ?_; (with_reducible refine (smaltolaw05_Lives.calls k  true _ (by exact GL.below hG (by repeat (first | (with_reducible first | exact HB.out | apply below_alloc | apply pw_below_drewN | apply below_drew1) | exact HB.out | exact Below.refl _ _))) A2.out).mono ?_); rintro e w14 ⟨rfl, hb⟩; refine ⟨_, rfl, ?_⟩; have n0_ := Aside0.mk (below_step (by repeat (first | (with_reducible first | exact HB.out | apply below_alloc | apply pw_below_drewN | apply below_drew1) | exact HB.out)) hb); clear HB; have HB := n0_; clear n0_; (try clear hb); (try clear hb2); (try clear hk); (try clear hi)) | ((with_reducible refine gate_callee (f := 17) rfl ?_); refine goesL_ (some 17) rfl rfl Tryd.func17 (by kernel_rfl) rfl #[.int .i64 a0] rfl (by (try simp only [List.map_toArray, List.map_cons, List.map_nil]); first | done | rfl | (simp only [List.length_drop, List.length_take]; rfl)) ?_; (with_reducible refine (raw_Name.calls a0 t203 _ (by exact GL.below hG (by repeat (first | (with_reducible first | exact HB.out | apply below_alloc | apply pw_below_drewN | apply below_drew1) | exact HB.out | exact Below.refl _ _))) A13.out).mono ?_); rintro e w' ⟨rfl, ⟨nd, rfl⟩⟩; refine ⟨_, rfl, ?_⟩))
    go_ret
    exact ⟨by first | rfl | (simp [errW_none, errW_some] <;> rfl) | (simp [*, errW_none, errW_some] <;> rfl), by repeat (first | (with_reducible first | exact HB.out | apply below_alloc | apply pw_below_drewN | apply below_drew1) | exact HB.out)⟩
  ·rw [if_neg c4] at H
   have c4b0 : decide (0 ≤ a0) = false := decide_eq_false c4
   clear c4
   replace H := Option.bind_eq_some_iff.mp H
   obtain ⟨t204, A150, H⟩ := H
   replace H : (some (t204.toList == ([] : List UInt8))) = some r := H
   have A15 := Aside0.mk A150
   clear A150
   obtain rfl := Option.some.inj H
   go_enter Tryd.func6, Tryd.ntmps6
   go_wp2_with (first | ((with_reducible refine gate_callee (f := 10) rfl ?_); refine goesL_ (some 4) rfl rfl Tryd.func10 (by kernel_rfl) rfl #[] rfl (by (try simp only [List.map_toArray, List.map_cons, List.map_nil]); first | done | rfl | (simp only [List.length_drop, List.length_take]; rfl)) ?_; (with_reducible refine (smaltolaw05_Lives.calls k  true _ (by exact GL.below hG (by repeat (first | (with_reducible first | exact HB.out | apply below_alloc | apply pw_below_drewN | apply below_drew1) | exact HB.out | exact Below.refl _ _))) A2.out).mono ?_); rintro e w16 ⟨rfl, hb⟩; refine ⟨_, rfl, ?_⟩; have n0_ := Aside0.mk (below_step (by repeat (first | (with_reducible first | exact HB.out | apply below_alloc | apply pw_below_drewN | apply below_drew1) | exact HB.out)) hb); clear HB; have HB := n0_; clear n0_; (try clear hb); (try clear hb2); (try clear hk); (try clear hi)) | ((with_reducible refine gate_callee (f := 17) rfl ?_); refine goesL_ (some 17) rfl rfl Tryd.func17 (by kernel_rfl) rfl #[.int .i64 a0] rfl (by (try simp only [List.map_toArray, List.map_cons, List.map_nil]); first | done | rfl | (simp only [List.length_drop, List.length_take]; rfl)) ?_; (with_reducible refine (raw_Name.calls a0 t204 _ (by exact GL.below hG (by repeat (first | (with_reducible first | exact HB.out | apply below_alloc | apply pw_below_drewN | apply below_drew1) | exact HB.out | exact Below.refl _ _))) A15.out).mono ?_); rintro e w' ⟨rfl, ⟨nd, rfl⟩⟩; refine ⟨_, rfl, ?_⟩))
   go_ret
   exact ⟨by first | rfl | (simp [errW_none, errW_some] <;> rfl) | (simp [*, errW_none, errW_some] <;> rfl), by repeat (first | (with_reducible first | exact HB.out | apply below_alloc | apply pw_below_drewN | apply below_drew1) | exact HB.out)⟩
 ·replace c3 := Bool.eq_false_iff.mpr c3
  subst c3
  have H1 : (some false) = some r := by rw [if_neg (show ¬ (false = true) by decide)] at H; exact H
  clear H
  have H := H1
  clear H1
  obtain rfl := Option.some.inj H
  go_enter Tryd.func6, Tryd.ntmps6
  go_wp2_with (first | ((with_reducible refine gate_callee (f := 10) rfl ?_); refine goesL_ (some 4) rfl rfl Tryd.func10 (by kernel_rfl) rfl #[] rfl (by (try simp only [List.map_toArray, List.map_cons, List.map_nil]); first | done | rfl | (simp only [List.length_drop, List.length_take]; rfl)) ?_; (with_reducible refine (smaltolaw05_Lives.calls k  false _ (by exact GL.below hG (by repeat (first | (with_reducible first | exact HB.out | apply below_alloc | apply pw_below_drewN | apply below_drew1) | exact HB.out | exact Below.refl _ _))) A2.out).mono ?_); rintro e w17 ⟨rfl, hb⟩; refine ⟨_, rfl, ?_⟩; have n0_ := Aside0.mk (below_step (by repeat (first | (with_reducible first | exact HB.out | apply below_alloc | apply pw_below_drewN | apply below_drew1) | exact HB.out)) hb); clear HB; have HB := n0_; clear n0_; (try clear hb); (try clear hb2); (try clear hk); (try clear hi)))
  go_ret
  exact ⟨by first | rfl | (simp [errW_none, errW_some] <;> rfl) | (simp [*, errW_none, errW_some] <;> rfl), by repeat (first | (with_reducible first | exact HB.out | apply below_alloc | apply pw_below_drewN | apply below_drew1) | exact HB.out)⟩

/-- THE ONE PURE STATEMENT of smaltolaw05_RawNames: yours. -/
def smaltolaw05_RawNames.Pure : Prop := ∀ (a0 : Int), (Lit.int .i64 a0).wf = true → ∃ k, smaltolaw05_RawNames.f k a0 = some true
theorem smaltolaw05_RawNames.walk (P : smaltolaw05_RawNames.Pure) (a0 : Int) (w : World) (hG : GL w) (w0 : (Lit.int .i64 a0).wf = true) :
  Calls Tryd.prog 6 #[.int .i64 a0] w fun e w' => e = .returned (.bool true) ∧ Below w.heap.size w w' := by
 obtain ⟨k, h⟩ := P a0 w0
 refine (smaltolaw05_RawNames.calls k a0 true w hG h).mono ?_
 rintro e w' ⟨rfl, hd⟩
 exact ⟨rfl, hd⟩

/-! ### smaltoref05_May: function 18 -/
def smaltoref05_May.f (a0 : Int) (a1 : Int) (a2 : Int) (a3 : Int) : Option (Bool) := if a0 ≥ 0 then (if a0 ≤ 2 then (if a1 ≥ 1 then (if a1 ≤ 65536 then (if a2 ≥ 1 then (if a2 ≤ 65536 then (if a3 ≥ 0 then (some (decide (a3 < a2))) else (some false)) else (some false)) else (some false)) else (some false)) else (some false)) else (some false)) else (some false)
set_option maxHeartbeats 8000000 in
set_option maxRecDepth 100000 in
theorem smaltoref05_May.calls (a0 : Int) (a1 : Int) (a2 : Int) (a3 : Int) (r : Bool) (w : World) (h : smaltoref05_May.f a0 a1 a2 a3 = some r) :
  Calls Tryd.prog 18 #[.int .i64 a0, .int .i64 a1, .int .i64 a2, .int .i64 a3] w fun e w' => e = .returned (.bool r) ∧ Drawn0 w w' := by
 have H : (if a0 ≥ 0 then (if a0 ≤ 2 then (if a1 ≥ 1 then (if a1 ≤ 65536 then (if a2 ≥ 1 then (if a2 ≤ 65536 then (if a3 ≥ 0 then (some (decide (a3 < a2))) else (some false)) else (some false)) else (some false)) else (some false)) else (some false)) else (some false)) else (some false)) = some r := h
 clear h
 by_cases c5 : a0 ≥ 0
 ·rw [if_pos c5] at H
  have c5b0 : decide (0 ≤ a0) = true := decide_eq_true c5
  clear c5
  by_cases c6 : a0 ≤ 2
  ·rw [if_pos c6] at H
   have c6b0 : decide (a0 ≤ 2) = true := decide_eq_true c6
   clear c6
   by_cases c7 : a1 ≥ 1
   ·rw [if_pos c7] at H
    have c7b0 : decide (1 ≤ a1) = true := decide_eq_true c7
    clear c7
    by_cases c8 : a1 ≤ 65536
    ·rw [if_pos c8] at H
     have c8b0 : decide (a1 ≤ 65536) = true := decide_eq_true c8
     clear c8
     by_cases c9 : a2 ≥ 1
     ·rw [if_pos c9] at H
      have c9b0 : decide (1 ≤ a2) = true := decide_eq_true c9
      clear c9
      by_cases c10 : a2 ≤ 65536
      ·rw [if_pos c10] at H
       have c10b0 : decide (a2 ≤ 65536) = true := decide_eq_true c10
       clear c10
       by_cases c11 : a3 ≥ 0
       ·rw [if_pos c11] at H
        have c11b0 : decide (0 ≤ a3) = true := decide_eq_true c11
        clear c11
        obtain rfl := Option.some.inj H
        go_enter Tryd.func18, Tryd.ntmps18
        go_wp2
        go_ret
        exact ⟨by first | rfl | (simp; done) | (simp [*]; done), by repeat (first | exact Drawn0.refl _ | apply Drawn0.step)⟩
       ·rw [if_neg c11] at H
        have c11b0 : decide (0 ≤ a3) = false := decide_eq_false c11
        clear c11
        obtain rfl := Option.some.inj H
        go_enter Tryd.func18, Tryd.ntmps18
        go_wp2
        go_ret
        exact ⟨by first | rfl | (simp; done) | (simp [*]; done), by repeat (first | exact Drawn0.refl _ | apply Drawn0.step)⟩
      ·rw [if_neg c10] at H
       have c10b0 : decide (a2 ≤ 65536) = false := decide_eq_false c10
       clear c10
       obtain rfl := Option.some.inj H
       go_enter Tryd.func18, Tryd.ntmps18
       go_wp2
       go_ret
       exact ⟨by first | rfl | (simp; done) | (simp [*]; done), by repeat (first | exact Drawn0.refl _ | apply Drawn0.step)⟩
     ·rw [if_neg c9] at H
      have c9b0 : decide (1 ≤ a2) = false := decide_eq_false c9
      clear c9
      obtain rfl := Option.some.inj H
      go_enter Tryd.func18, Tryd.ntmps18
      go_wp2
      go_ret
      exact ⟨by first | rfl | (simp; done) | (simp [*]; done), by repeat (first | exact Drawn0.refl _ | apply Drawn0.step)⟩
    ·rw [if_neg c8] at H
     have c8b0 : decide (a1 ≤ 65536) = false := decide_eq_false c8
     clear c8
     obtain rfl := Option.some.inj H
     go_enter Tryd.func18, Tryd.ntmps18
     go_wp2
     go_ret
     exact ⟨by first | rfl | (simp; done) | (simp [*]; done), by repeat (first | exact Drawn0.refl _ | apply Drawn0.step)⟩
   ·rw [if_neg c7] at H
    have c7b0 : decide (1 ≤ a1) = false := decide_eq_false c7
    clear c7
    obtain rfl := Option.some.inj H
    go_enter Tryd.func18, Tryd.ntmps18
    go_wp2
    go_ret
    exact ⟨by first | rfl | (simp; done) | (simp [*]; done), by repeat (first | exact Drawn0.refl _ | apply Drawn0.step)⟩
  ·rw [if_neg c6] at H
   have c6b0 : decide (a0 ≤ 2) = false := decide_eq_false c6
   clear c6
   obtain rfl := Option.some.inj H
   go_enter Tryd.func18, Tryd.ntmps18
   go_wp2
   go_ret
   exact ⟨by first | rfl | (simp; done) | (simp [*]; done), by repeat (first | exact Drawn0.refl _ | apply Drawn0.step)⟩
 ·rw [if_neg c5] at H
  have c5b0 : decide (0 ≤ a0) = false := decide_eq_false c5
  clear c5
  obtain rfl := Option.some.inj H
  go_enter Tryd.func18, Tryd.ntmps18
  go_wp2
  go_ret
  exact ⟨by first | rfl | (simp; done) | (simp [*]; done), by repeat (first | exact Drawn0.refl _ | apply Drawn0.step)⟩

/-! ### smaltoref05_fraction: function 51 -/
def smaltoref05_fraction.f (a0 : Int) (a1 : Int) (a2 : Int) (a3 : Int) : Option (Int × Int) := if a1 > a0 then (some (wrap64 ((wrap64 ((wrap64 ((wrap64 (2 * a1)) * a3)) - (wrap64 ((wrap64 ((wrap64 (2 * a2)) + 1)) * a0)))) + a1), wrap64 (2 * a1))) else (some (wrap64 ((wrap64 ((wrap64 ((wrap64 (2 * a1)) * a3)) - (wrap64 ((wrap64 ((wrap64 (2 * a2)) + 1)) * a0)))) + a1), wrap64 (2 * a0)))
set_option maxHeartbeats 8000000 in
set_option maxRecDepth 100000 in
theorem smaltoref05_fraction.calls (a0 : Int) (a1 : Int) (a2 : Int) (a3 : Int) (r1 : Int) (r2 : Int) (w : World) (h : smaltoref05_fraction.f a0 a1 a2 a3 = some (r1, r2)) :
  Calls Tryd.prog 51 #[.int .i64 a0, .int .i64 a1, .int .i64 a2, .int .i64 a3] w fun e w' => e = .returned (.tuple #[.int .i64 r1, .int .i64 r2]) ∧ Drawn0 w w' := by
 have H : (if a1 > a0 then (some (wrap64 ((wrap64 ((wrap64 ((wrap64 (2 * a1)) * a3)) - (wrap64 ((wrap64 ((wrap64 (2 * a2)) + 1)) * a0)))) + a1), wrap64 (2 * a1))) else (some (wrap64 ((wrap64 ((wrap64 ((wrap64 (2 * a1)) * a3)) - (wrap64 ((wrap64 ((wrap64 (2 * a2)) + 1)) * a0)))) + a1), wrap64 (2 * a0)))) = some (r1, r2) := h
 clear h
 by_cases c5 : a1 > a0
 ·rw [if_pos c5] at H
  have c5b0 : decide (a0 < a1) = true := decide_eq_true c5
  clear c5
  simp only [Option.some.injEq, Prod.mk.injEq] at H
  obtain ⟨rfl, rfl⟩ := H
  go_enter Tryd.func51, Tryd.ntmps51
  go_wp2
  go_ret2
  exact ⟨by first | rfl | (simp; done) | (simp [*]; done), by repeat (first | exact Drawn0.refl _ | apply Drawn0.step)⟩
 ·rw [if_neg c5] at H
  have c5b0 : decide (a0 < a1) = false := decide_eq_false c5
  clear c5
  simp only [Option.some.injEq, Prod.mk.injEq] at H
  obtain ⟨rfl, rfl⟩ := H
  go_enter Tryd.func51, Tryd.ntmps51
  go_wp2
  go_ret2
  exact ⟨by first | rfl | (simp; done) | (simp [*]; done), by repeat (first | exact Drawn0.refl _ | apply Drawn0.step)⟩

/-! ### smaltoref05_In: function 32 -/
def smaltoref05_In.f (a0 : Int) (a1 : Int) (a2 : Int) (a3 : Int) (a4 : Int) : Option (Bool) := if a0 = 0 then (if (wrap64 ((wrap64 (a4 + 1)) * a2)) > (wrap64 (a3 * a1)) then (some (decide ((wrap64 (a4 * a2)) < (wrap64 ((wrap64 (a3 + 1)) * a1))))) else (some false)) else ((smaltoref05_fraction.f a1 a2 a3 a4).bind fun bt205 => (if a0 = 2 then (if bt205.1 < (wrap64 (3 * bt205.2)) then (some (decide (bt205.1 > (wrap64 (-(wrap64 (3 * bt205.2))))))) else (some false)) else (if bt205.1 < (wrap64 (2 * bt205.2)) then (some (decide (bt205.1 > (wrap64 (-(wrap64 (2 * bt205.2))))))) else (some false))))
set_option maxHeartbeats 8000000 in
set_option maxRecDepth 100000 in
theorem smaltoref05_In.calls (a0 : Int) (a1 : Int) (a2 : Int) (a3 : Int) (a4 : Int) (r : Bool) (w : World) (h : smaltoref05_In.f a0 a1 a2 a3 a4 = some r) :
  Calls Tryd.prog 32 #[.int .i64 a0, .int .i64 a1, .int .i64 a2, .int .i64 a3, .int .i64 a4] w fun e w' => e = .returned (.bool r) ∧ Drawn0 w w' := by
 have H : (if a0 = 0 then (if (wrap64 ((wrap64 (a4 + 1)) * a2)) > (wrap64 (a3 * a1)) then (some (decide ((wrap64 (a4 * a2)) < (wrap64 ((wrap64 (a3 + 1)) * a1))))) else (some false)) else ((smaltoref05_fraction.f a1 a2 a3 a4).bind fun bt205 => (if a0 = 2 then (if bt205.1 < (wrap64 (3 * bt205.2)) then (some (decide (bt205.1 > (wrap64 (-(wrap64 (3 * bt205.2))))))) else (some false)) else (if bt205.1 < (wrap64 (2 * bt205.2)) then (some (decide (bt205.1 > (wrap64 (-(wrap64 (2 * bt205.2))))))) else (some false))))) = some r := h
 clear h
 by_cases c6 : a0 = 0
 ·rw [if_pos c6] at H
  have c6b0 : (a0 == 0) = true := beq_iff_eq.mpr c6
  have c6b1 : (a0 != 0) = false := bne_eq_false_iff_eq.mpr c6
  clear c6
  by_cases c7 : (wrap64 ((wrap64 (a4 + 1)) * a2)) > (wrap64 (a3 * a1))
  ·rw [if_pos c7] at H
   have c7b0 : decide ((wrap64 (a3 * a1)) < (wrap64 ((wrap64 (a4 + 1)) * a2))) = true := decide_eq_true c7
   clear c7
   obtain rfl := Option.some.inj H
   go_enter Tryd.func32, Tryd.ntmps32
   go_wp2
   go_ret
   exact ⟨by first | rfl | (simp; done) | (simp [*]; done), by repeat (first | exact Drawn0.refl _ | apply Drawn0.step)⟩
  ·rw [if_neg c7] at H
   have c7b0 : decide ((wrap64 (a3 * a1)) < (wrap64 ((wrap64 (a4 + 1)) * a2))) = false := decide_eq_false c7
   clear c7
   obtain rfl := Option.some.inj H
   go_enter Tryd.func32, Tryd.ntmps32
   go_wp2
   go_ret
   exact ⟨by first | rfl | (simp; done) | (simp [*]; done), by repeat (first | exact Drawn0.refl _ | apply Drawn0.step)⟩
 ·rw [if_neg c6] at H
  have c6b0 : (a0 == 0) = false := beq_eq_false_iff_ne.mpr c6
  have c6b1 : (a0 != 0) = true := bne_iff_ne.mpr c6
  replace H := Option.bind_eq_some_iff.mp H
  obtain ⟨⟨t205, t206⟩, A80, H⟩ := H
  replace H : (if a0 = 2 then (if t205 < (wrap64 (3 * t206)) then (some (decide (t205 > (wrap64 (-(wrap64 (3 * t206))))))) else (some false)) else (if t205 < (wrap64 (2 * t206)) then (some (decide (t205 > (wrap64 (-(wrap64 (2 * t206))))))) else (some false))) = some r := H
  have A8 := Aside0.mk A80
  clear A80
  by_cases c9 : a0 = 2
  ·rw [if_pos c9] at H
   have c9b0 : (a0 == 2) = true := beq_iff_eq.mpr c9
   have c9b1 : (a0 != 2) = false := bne_eq_false_iff_eq.mpr c9
   clear c9
   by_cases c10 : t205 < (wrap64 (3 * t206))
   ·rw [if_pos c10] at H
    have c10b0 : decide (t205 < (wrap64 (3 * t206))) = true := decide_eq_true c10
    clear c10
    obtain rfl := Option.some.inj H
    go_enter Tryd.func32, Tryd.ntmps32
    go_wp2_with (first | ((with_reducible refine gate_callee (f := 51) rfl ?_); refine goesL_ (some 39) rfl rfl Tryd.func51 (by kernel_rfl) rfl #[.int .i64 a1, .int .i64 a2, .int .i64 a3, .int .i64 a4] rfl (by (try simp only [List.map_toArray, List.map_cons, List.map_nil]); first | done | rfl | (simp only [List.length_drop, List.length_take]; rfl)) ?_; (with_reducible refine (smaltoref05_fraction.calls a1 a2 a3 a4 t205 t206 _ A8.out).mono ?_); rintro e w' ⟨rfl, ⟨nd, rfl⟩⟩; refine ⟨_, rfl, ?_⟩))
    go_ret
    exact ⟨by first | rfl | (simp; done) | (simp [*]; done), by repeat (first | exact Drawn0.refl _ | apply Drawn0.step)⟩
   ·rw [if_neg c10] at H
    have c10b0 : decide (t205 < (wrap64 (3 * t206))) = false := decide_eq_false c10
    clear c10
    obtain rfl := Option.some.inj H
    go_enter Tryd.func32, Tryd.ntmps32
    go_wp2_with (first | ((with_reducible refine gate_callee (f := 51) rfl ?_); refine goesL_ (some 39) rfl rfl Tryd.func51 (by kernel_rfl) rfl #[.int .i64 a1, .int .i64 a2, .int .i64 a3, .int .i64 a4] rfl (by (try simp only [List.map_toArray, List.map_cons, List.map_nil]); first | done | rfl | (simp only [List.length_drop, List.length_take]; rfl)) ?_; (with_reducible refine (smaltoref05_fraction.calls a1 a2 a3 a4 t205 t206 _ A8.out).mono ?_); rintro e w' ⟨rfl, ⟨nd, rfl⟩⟩; refine ⟨_, rfl, ?_⟩))
    go_ret
    exact ⟨by first | rfl | (simp; done) | (simp [*]; done), by repeat (first | exact Drawn0.refl _ | apply Drawn0.step)⟩
  ·rw [if_neg c9] at H
   have c9b0 : (a0 == 2) = false := beq_eq_false_iff_ne.mpr c9
   have c9b1 : (a0 != 2) = true := bne_iff_ne.mpr c9
   by_cases c11 : t205 < (wrap64 (2 * t206))
   ·rw [if_pos c11] at H
    have c11b0 : decide (t205 < (wrap64 (2 * t206))) = true := decide_eq_true c11
    clear c11
    obtain rfl := Option.some.inj H
    go_enter Tryd.func32, Tryd.ntmps32
    go_wp2_with (first | ((with_reducible refine gate_callee (f := 51) rfl ?_); refine goesL_ (some 39) rfl rfl Tryd.func51 (by kernel_rfl) rfl #[.int .i64 a1, .int .i64 a2, .int .i64 a3, .int .i64 a4] rfl (by (try simp only [List.map_toArray, List.map_cons, List.map_nil]); first | done | rfl | (simp only [List.length_drop, List.length_take]; rfl)) ?_; (with_reducible refine (smaltoref05_fraction.calls a1 a2 a3 a4 t205 t206 _ A8.out).mono ?_); rintro e w' ⟨rfl, ⟨nd, rfl⟩⟩; refine ⟨_, rfl, ?_⟩))
    go_ret
    exact ⟨by first | rfl | (simp; done) | (simp [*]; done), by repeat (first | exact Drawn0.refl _ | apply Drawn0.step)⟩
   ·rw [if_neg c11] at H
    have c11b0 : decide (t205 < (wrap64 (2 * t206))) = false := decide_eq_false c11
    clear c11
    obtain rfl := Option.some.inj H
    go_enter Tryd.func32, Tryd.ntmps32
    go_wp2_with (first | ((with_reducible refine gate_callee (f := 51) rfl ?_); refine goesL_ (some 39) rfl rfl Tryd.func51 (by kernel_rfl) rfl #[.int .i64 a1, .int .i64 a2, .int .i64 a3, .int .i64 a4] rfl (by (try simp only [List.map_toArray, List.map_cons, List.map_nil]); first | done | rfl | (simp only [List.length_drop, List.length_take]; rfl)) ?_; (with_reducible refine (smaltoref05_fraction.calls a1 a2 a3 a4 t205 t206 _ A8.out).mono ?_); rintro e w' ⟨rfl, ⟨nd, rfl⟩⟩; refine ⟨_, rfl, ?_⟩))
    go_ret
    exact ⟨by first | rfl | (simp; done) | (simp [*]; done), by repeat (first | exact Drawn0.refl _ | apply Drawn0.step)⟩

/-! ### smaltoref01_Twice: function 61 -/
def smaltoref01_Twice.f (a0_0 : Int) (a0_1 : Int) (a1 : Int) : Option (Int × Int) := some (IntKind.u64.wrap ((IntKind.u64.wrap (a0_0 * 2)) + (a0_1 / 9223372036854775808)), IntKind.u64.wrap ((IntKind.u64.wrap (a0_1 * 2)) + a1))
set_option maxHeartbeats 8000000 in
set_option maxRecDepth 100000 in
theorem smaltoref01_Twice.calls (a0_0 : Int) (a0_1 : Int) (a1 : Int) (r1 : Int) (r2 : Int) (w : World) (h : smaltoref01_Twice.f a0_0 a0_1 a1 = some (r1, r2)) :
  Calls Tryd.prog 61 #[.agg #[.int .u64 a0_0, .int .u64 a0_1], .int .u64 a1] w fun e w' => e = .returned (.agg #[.int .u64 r1, .int .u64 r2]) ∧ Below w.heap.size w w' := by
 have hu65 := Tryd.underlying65
 have HB := Aside0.mk (Below.refl w.heap.size w)
 have H : (some (IntKind.u64.wrap ((IntKind.u64.wrap (a0_0 * 2)) + (a0_1 / 9223372036854775808)), IntKind.u64.wrap ((IntKind.u64.wrap (a0_1 * 2)) + a1))) = some (r1, r2) := h
 clear h
 simp only [Option.some.injEq, Prod.mk.injEq] at H
 obtain ⟨rfl, rfl⟩ := H
 go_enter Tryd.func61, Tryd.ntmps61
 go_wp2_with (first | ((with_reducible refine gate_dst (N := 2) rfl ?_); refine box_event ?hg (N := 2) ?hd (cs := #[.int .u64 a0_0, .int .u64 a0_1]) (t := 65) ?hr ?_; (case hd => rfl); (case hg => rfl); (case hr => first | (go_simp; done) | (go_simp; rfl)); intro gb207 hg w3 hbox hb; have n0_ := Aside0.mk (below_step (by repeat (first | (with_reducible first | exact HB.out | apply below_alloc | apply pw_below_drewN | apply below_drew1) | exact HB.out)) hb); have n1_ := Aside0.mk (hbox); have n2_ := Aside0.mk ((by rw [hg]; exact (below_size (by repeat (first | (with_reducible first | exact HB.out | apply below_alloc | apply pw_below_drewN | apply below_drew1) | exact HB.out))) : w.heap.size ≤ gb207)); have n3_ := Aside0.mk ((by rw [hg]; exact (below_size (by repeat (first | (with_reducible first | exact HB.out | apply below_alloc | apply pw_below_drewN | apply below_drew1) | exact HB.out))) : w.heap.size ≤ gb207)); clear HB; have HB := n0_; have BK207 := n1_; have GW207 := n2_; have GE207 := n3_; clear n0_ n1_ n2_ n3_; clear hb hbox hg) | ((with_reducible refine gate_dst (N := 4) rfl ?_); refine box_event ?hg (N := 4) ?hd (cs := #[.int .u64 0, .int .u64 0]) (t := 65) ?hr ?_; (case hd => rfl); (case hg => rfl); (case hr => first | (go_simp; done) | (go_simp; rfl)); intro gb208 hg w4 hbox hb; have n0_ := Aside0.mk (blk_below (g := gb207) (o := .cells #[.int .u64 a0_0, .int .u64 a0_1] 65 (0, 0)) (by (with_reducible repeat (first | refine blk_drewN ?_ _ | refine blk_drew ?_ | refine blk_alloc ?_ _)); exact BK207.out) hb); have n1_ := Aside0.mk (below_step (by repeat (first | (with_reducible first | exact HB.out | apply below_alloc | apply pw_below_drewN | apply below_drew1 | refine below_set ?_ GE207.out) | exact HB.out)) hb); have n2_ := Aside0.mk (hbox); have n3_ := Aside0.mk ((by rw [hg]; exact (below_size (by repeat (first | (with_reducible first | exact HB.out | apply below_alloc | apply pw_below_drewN | apply below_drew1 | refine below_set ?_ GE207.out) | exact HB.out))) : w.heap.size ≤ gb208)); have n4_ := Aside0.mk ((by rw [hg]; exact (below_size (by repeat (first | (with_reducible first | exact HB.out | apply below_alloc | apply pw_below_drewN | apply below_drew1 | refine below_set ?_ GE207.out) | exact HB.out))) : w.heap.size ≤ gb208)); have n5_ := Aside0.mk ((by rw [hg]; exact Nat.ne_of_lt (blk_lt (g := gb207) (o := .cells #[.int .u64 a0_0, .int .u64 a0_1] 65 (0, 0)) (by (with_reducible repeat (first | refine blk_drewN ?_ _ | refine blk_drew ?_ | refine blk_alloc ?_ _)); exact BK207.out)) : gb207 ≠ gb208)); have n6_ := Aside0.mk ((by rw [hg]; exact Nat.ne_of_gt (blk_lt (g := gb207) (o := .cells #[.int .u64 a0_0, .int .u64 a0_1] 65 (0, 0)) (by (with_reducible repeat (first | refine blk_drewN ?_ _ | refine blk_drew ?_ | refine blk_alloc ?_ _)); exact BK207.out)) : gb208 ≠ gb207)); clear BK207; clear HB; have BK207 := n0_; have HB := n1_; have BK208 := n2_; have GW208 := n3_; have GE208 := n4_; have NB207_208 := n5_; have NB208_207 := n6_; clear n0_ n1_ n2_ n3_ n4_ n5_ n6_; clear hb hbox hg; have hnb5 := NB207_208.out; have hnc5 := NB208_207.out; have hcz6_0 : w4.cell? ⟨gb207, 0, none⟩ = some (.int .u64 a0_0) := (blk_cell BK207.out 0).trans rfl; have hcz6_1 : w4.cell? ⟨gb207, 1, none⟩ = some (.int .u64 a0_1) := (blk_cell BK207.out 1).trans rfl; have hfz6_0 := blk_frozen BK207.out 0; have hfz6_1 := blk_frozen BK207.out 1; have hcz7_0 : w4.cell? ⟨gb208, 0, none⟩ = some (.int .u64 0) := (blk_cell BK208.out 0).trans rfl; have hcz7_1 : w4.cell? ⟨gb208, 1, none⟩ = some (.int .u64 0) := (blk_cell BK208.out 1).trans rfl; have hfz7_0 := blk_frozen BK208.out 0; have hfz7_1 := blk_frozen BK208.out 1))
 refine bodyPost_ret (results_cell_row rfl _ _ gb208 65 #[.int .u64 (IntKind.u64.wrap ((IntKind.u64.wrap (a0_0 * 2)) + (a0_1 / 9223372036854775808))), .int .u64 (IntKind.u64.wrap ((IntKind.u64.wrap (a0_1 * 2)) + a1))] (0, 0) _ rfl (by (with_reducible repeat (first | refine blk_drewN ?_ _ | refine blk_drew ?_ | refine blk_alloc ?_ _)); refine blk_put (cs := #[.int .u64 (IntKind.u64.wrap ((IntKind.u64.wrap (a0_0 * 2)) + (a0_1 / 9223372036854775808))), .int .u64 0]) ?_ 1 _ rfl; (with_reducible repeat (first | refine blk_drewN ?_ _ | refine blk_drew ?_ | refine blk_alloc ?_ _)); refine blk_put (cs := #[.int .u64 0, .int .u64 0]) ?_ 0 _ rfl; (with_reducible repeat (first | refine blk_drewN ?_ _ | refine blk_drew ?_ | refine blk_alloc ?_ _)); exact BK208.out) Tryd.underlying65 rfl (by kernel_rfl)) rfl ?_
 exact ⟨by first | rfl | (simp [errW_none, errW_some] <;> rfl) | (simp [*, errW_none, errW_some] <;> rfl), by repeat (first | (with_reducible first | exact HB.out | apply below_alloc | apply pw_below_drewN | apply below_drew1 | refine below_set ?_ GE207.out | refine below_set ?_ GE208.out) | exact HB.out)⟩

end Go.Proofs.YtbkbgpileogehaaDoor.QA
