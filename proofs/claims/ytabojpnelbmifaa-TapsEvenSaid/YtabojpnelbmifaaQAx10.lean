-- Written by wip/tools/pp.py over the kit's print.py; not trusted: Lean checks it.
import Derived.Test.YtabojpnelbmifaaQAx0
import Derived.Test.YtabojpnelbmifaaQAx3
import Derived.Test.YtabojpnelbmifaaQAx8
namespace Go.Proofs.Ytabojpnelbmifaa.QA
open Go.Proofs.Ytabojpnelbmifaa.T
open Go.RowKit Go.Proofs.YtabojpnelbmifaaW.PrintWords Go.Proofs.YtabojpnelbmifaaW.PrintLast Go.Proofs.YtabojpnelbmifaaW.PrintMore
attribute [local go_sem] ext_call max2_int min2_int max_two min_two max_three min_three max_four min_four   -- for this text's walks alone
set_option linter.unusedVariables false
set_option linter.unusedSimpArgs false

/-! ### smaltolaw06_TapsSum: function 4 -/
mutual
def smaltolaw06_TapsSum.j0 : Nat → List Int → Bool → Option (Bool)
 | 0, _, _ => none
 | k + 1, x0, x19 => if x19 = true then ((smaltolaw06_Lives.f k).bind fun t172 => (some t172)) else ((taps_Apportion.f x0).bind fun bt173 => (if bt173.2 = 0 then (if (bt173.1.length : Int) = (x0.length : Int) then (smaltolaw06_TapsSum.l0 k x0 bt173.1 0 0 (x0.length : Int) 0) else (some false)) else (some ((bt173.1.length : Int) == 0))))
def smaltolaw06_TapsSum.l0 : Nat → List Int → List Int → Int → Int → Int → Int → Option (Bool)
 | 0, _, _, _, _, _, _ => none
 | k + 1, x0, x3, x5, x6, x37, x38 => if x38 < x37 then (if 0 ≤ x38 then (if x38 < (x0.length : Int) then (if x38 < (x3.length : Int) then (smaltolaw06_TapsSum.l0 k x0 x3 (wrap64 (x5 + (rd x0 x38))) (wrap64 (x6 + (rd x3 x38))) x37 (wrap64 (x38 + 1))) else (none)) else (none)) else (none)) else (if x6 = 16384 then (smaltolaw06_TapsSum.j2 k x0 x3 x5 (decide (x5 < 268435456))) else (smaltolaw06_TapsSum.j2 k x0 x3 x5 true))
def smaltolaw06_TapsSum.j2 : Nat → List Int → List Int → Int → Bool → Option (Bool)
 | 0, _, _, _, _ => none
 | k + 1, x0, x3, x5, x59 => if x59 = true then (some false) else (smaltolaw06_TapsSum.l1 k x0 x3 x5 x0 (x0.length : Int) 0)
def smaltolaw06_TapsSum.l1 : Nat → List Int → List Int → Int → List Int → Int → Int → Option (Bool)
 | 0, _, _, _, _, _, _ => none
 | k + 1, x0, x3, x5, x60, x61, x62 => if x62 < x61 then (if 0 ≤ x62 then (if x62 < (x60.length : Int) then (if x62 < (x3.length : Int) then (if (wrap64 ((wrap64 ((rd x3 x62) * x5)) - (wrap64 ((rd x60 x62) * 16384)))) ≥ x5 then (smaltolaw06_TapsSum.j4 k x0 x3 x5 x62 (rd x60 x62) x60 x61 x62 true) else (smaltolaw06_TapsSum.j4 k x0 x3 x5 x62 (rd x60 x62) x60 x61 x62 (decide ((wrap64 ((wrap64 ((rd x3 x62) * x5)) - (wrap64 ((rd x60 x62) * 16384)))) ≤ (wrap64 (-x5)))))) else (none)) else (none)) else (none)) else (some true)
def smaltolaw06_TapsSum.j4 : Nat → List Int → List Int → Int → Int → Int → List Int → Int → Int → Bool → Option (Bool)
 | 0, _, _, _, _, _, _, _, _, _ => none
 | k + 1, x0, x3, x5, x8, x9, x60, x61, x62, x84 => if x84 = true then (some false) else (smaltolaw06_TapsSum.l2 k x0 x3 x5 x8 x9 x60 x61 x62 x0 (x0.length : Int) 0)
def smaltolaw06_TapsSum.l2 : Nat → List Int → List Int → Int → Int → Int → List Int → Int → Int → List Int → Int → Int → Option (Bool)
 | 0, _, _, _, _, _, _, _, _, _, _, _ => none
 | k + 1, x0, x3, x5, x8, x9, x60, x61, x62, x85, x86, x87 => if x87 < x86 then (if 0 ≤ x87 then (if x87 < (x85.length : Int) then (if x9 > (rd x85 x87) then (if 0 ≤ x8 then (if x8 < (x3.length : Int) then (if x87 < (x3.length : Int) then (if (rd x3 x8) < (rd x3 x87) then (some false) else (smaltolaw06_TapsSum.l2 k x0 x3 x5 x8 x9 x60 x61 x62 x85 x86 (wrap64 (x87 + 1)))) else (none)) else (none)) else (none)) else (smaltolaw06_TapsSum.l2 k x0 x3 x5 x8 x9 x60 x61 x62 x85 x86 (wrap64 (x87 + 1)))) else (none)) else (none)) else (smaltolaw06_TapsSum.l1 k x0 x3 x5 x60 x61 (wrap64 (x62 + 1)))
end
def smaltolaw06_TapsSum.f (k : Nat) (l0 : List Int) : Option (Bool) := (smaltolaw06_Lives.f k).bind fun t171 => (if t171 = true then (smaltolaw06_TapsSum.j0 k l0 (decide ((l0.length : Int) > 200))) else (smaltolaw06_TapsSum.j0 k l0 true))
theorem smaltolaw06_TapsSum.mono_l : ∀ k, (∀ y0 y1, LeO (smaltolaw06_TapsSum.j0 k y0 y1) (smaltolaw06_TapsSum.j0 (k + 1) y0 y1)) ∧ (∀ y0 y1 y2 y3 y4 y5, LeO (smaltolaw06_TapsSum.l0 k y0 y1 y2 y3 y4 y5) (smaltolaw06_TapsSum.l0 (k + 1) y0 y1 y2 y3 y4 y5)) ∧ (∀ y0 y1 y2 y3, LeO (smaltolaw06_TapsSum.j2 k y0 y1 y2 y3) (smaltolaw06_TapsSum.j2 (k + 1) y0 y1 y2 y3)) ∧ (∀ y0 y1 y2 y3 y4 y5, LeO (smaltolaw06_TapsSum.l1 k y0 y1 y2 y3 y4 y5) (smaltolaw06_TapsSum.l1 (k + 1) y0 y1 y2 y3 y4 y5)) ∧ (∀ y0 y1 y2 y3 y4 y5 y6 y7 y8, LeO (smaltolaw06_TapsSum.j4 k y0 y1 y2 y3 y4 y5 y6 y7 y8) (smaltolaw06_TapsSum.j4 (k + 1) y0 y1 y2 y3 y4 y5 y6 y7 y8)) ∧ (∀ y0 y1 y2 y3 y4 y5 y6 y7 y8 y9 y10, LeO (smaltolaw06_TapsSum.l2 k y0 y1 y2 y3 y4 y5 y6 y7 y8 y9 y10) (smaltolaw06_TapsSum.l2 (k + 1) y0 y1 y2 y3 y4 y5 y6 y7 y8 y9 y10))
 | 0 => ⟨fun _ _ r h => by simp [smaltolaw06_TapsSum.j0] at h, fun _ _ _ _ _ _ r h => by simp [smaltolaw06_TapsSum.l0] at h, fun _ _ _ _ r h => by simp [smaltolaw06_TapsSum.j2] at h, fun _ _ _ _ _ _ r h => by simp [smaltolaw06_TapsSum.l1] at h, fun _ _ _ _ _ _ _ _ _ r h => by simp [smaltolaw06_TapsSum.j4] at h, fun _ _ _ _ _ _ _ _ _ _ _ r h => by simp [smaltolaw06_TapsSum.l2] at h⟩
 | k + 1 => by
  obtain ⟨ih0, ih1, ih2, ih3, ih4, ih5⟩ := smaltolaw06_TapsSum.mono_l k
  refine ⟨?_, ?_, ?_, ?_, ?_, ?_⟩
  ·intro y0 y1
   unfold smaltolaw06_TapsSum.j0
   repeat' first
   | (with_reducible exact ih0 _ _)
   | (with_reducible exact ih1 _ _ _ _ _ _)
   | (with_reducible exact ih2 _ _ _ _)
   | (with_reducible exact ih3 _ _ _ _ _ _)
   | (with_reducible exact ih4 _ _ _ _ _ _ _ _ _)
   | (with_reducible exact ih5 _ _ _ _ _ _ _ _ _ _ _)
   | (with_reducible exact smaltolaw06_Lives.mono _)
   | (with_reducible exact LeO.refl _)
   | (with_reducible exact LeO.none _)
   | (with_reducible refine LeO.ite ?_ ?_)
   | (with_reducible refine LeO.bind ?_ (fun _ => ?_))
   | exact ih0 _ _
   | exact ih1 _ _ _ _ _ _
   | exact ih2 _ _ _ _
   | exact ih3 _ _ _ _ _ _
   | exact ih4 _ _ _ _ _ _ _ _ _
   | exact ih5 _ _ _ _ _ _ _ _ _ _ _
   | exact smaltolaw06_Lives.mono _
   | exact LeO.none _
   | refine LeO.ite ?_ ?_
   | refine LeO.bind ?_ (fun _ => ?_)
  ·intro y0 y1 y2 y3 y4 y5
   unfold smaltolaw06_TapsSum.l0
   repeat' first
   | (with_reducible exact ih0 _ _)
   | (with_reducible exact ih1 _ _ _ _ _ _)
   | (with_reducible exact ih2 _ _ _ _)
   | (with_reducible exact ih3 _ _ _ _ _ _)
   | (with_reducible exact ih4 _ _ _ _ _ _ _ _ _)
   | (with_reducible exact ih5 _ _ _ _ _ _ _ _ _ _ _)
   | (with_reducible exact smaltolaw06_Lives.mono _)
   | (with_reducible exact LeO.refl _)
   | (with_reducible exact LeO.none _)
   | (with_reducible refine LeO.ite ?_ ?_)
   | (with_reducible refine LeO.bind ?_ (fun _ => ?_))
   | exact ih0 _ _
   | exact ih1 _ _ _ _ _ _
   | exact ih2 _ _ _ _
   | exact ih3 _ _ _ _ _ _
   | exact ih4 _ _ _ _ _ _ _ _ _
   | exact ih5 _ _ _ _ _ _ _ _ _ _ _
   | exact smaltolaw06_Lives.mono _
   | exact LeO.none _
   | refine LeO.ite ?_ ?_
   | refine LeO.bind ?_ (fun _ => ?_)
  ·intro y0 y1 y2 y3
   unfold smaltolaw06_TapsSum.j2
   repeat' first
   | (with_reducible exact ih0 _ _)
   | (with_reducible exact ih1 _ _ _ _ _ _)
   | (with_reducible exact ih2 _ _ _ _)
   | (with_reducible exact ih3 _ _ _ _ _ _)
   | (with_reducible exact ih4 _ _ _ _ _ _ _ _ _)
   | (with_reducible exact ih5 _ _ _ _ _ _ _ _ _ _ _)
   | (with_reducible exact smaltolaw06_Lives.mono _)
   | (with_reducible exact LeO.refl _)
   | (with_reducible exact LeO.none _)
   | (with_reducible refine LeO.ite ?_ ?_)
   | (with_reducible refine LeO.bind ?_ (fun _ => ?_))
   | exact ih0 _ _
   | exact ih1 _ _ _ _ _ _
   | exact ih2 _ _ _ _
   | exact ih3 _ _ _ _ _ _
   | exact ih4 _ _ _ _ _ _ _ _ _
   | exact ih5 _ _ _ _ _ _ _ _ _ _ _
   | exact smaltolaw06_Lives.mono _
   | exact LeO.none _
   | refine LeO.ite ?_ ?_
   | refine LeO.bind ?_ (fun _ => ?_)
  ·intro y0 y1 y2 y3 y4 y5
   unfold smaltolaw06_TapsSum.l1
   repeat' first
   | (with_reducible exact ih0 _ _)
   | (with_reducible exact ih1 _ _ _ _ _ _)
   | (with_reducible exact ih2 _ _ _ _)
   | (with_reducible exact ih3 _ _ _ _ _ _)
   | (with_reducible exact ih4 _ _ _ _ _ _ _ _ _)
   | (with_reducible exact ih5 _ _ _ _ _ _ _ _ _ _ _)
   | (with_reducible exact smaltolaw06_Lives.mono _)
   | (with_reducible exact LeO.refl _)
   | (with_reducible exact LeO.none _)
   | (with_reducible refine LeO.ite ?_ ?_)
   | (with_reducible refine LeO.bind ?_ (fun _ => ?_))
   | exact ih0 _ _
   | exact ih1 _ _ _ _ _ _
   | exact ih2 _ _ _ _
   | exact ih3 _ _ _ _ _ _
   | exact ih4 _ _ _ _ _ _ _ _ _
   | exact ih5 _ _ _ _ _ _ _ _ _ _ _
   | exact smaltolaw06_Lives.mono _
   | exact LeO.none _
   | refine LeO.ite ?_ ?_
   | refine LeO.bind ?_ (fun _ => ?_)
  ·intro y0 y1 y2 y3 y4 y5 y6 y7 y8
   unfold smaltolaw06_TapsSum.j4
   repeat' first
   | (with_reducible exact ih0 _ _)
   | (with_reducible exact ih1 _ _ _ _ _ _)
   | (with_reducible exact ih2 _ _ _ _)
   | (with_reducible exact ih3 _ _ _ _ _ _)
   | (with_reducible exact ih4 _ _ _ _ _ _ _ _ _)
   | (with_reducible exact ih5 _ _ _ _ _ _ _ _ _ _ _)
   | (with_reducible exact smaltolaw06_Lives.mono _)
   | (with_reducible exact LeO.refl _)
   | (with_reducible exact LeO.none _)
   | (with_reducible refine LeO.ite ?_ ?_)
   | (with_reducible refine LeO.bind ?_ (fun _ => ?_))
   | exact ih0 _ _
   | exact ih1 _ _ _ _ _ _
   | exact ih2 _ _ _ _
   | exact ih3 _ _ _ _ _ _
   | exact ih4 _ _ _ _ _ _ _ _ _
   | exact ih5 _ _ _ _ _ _ _ _ _ _ _
   | exact smaltolaw06_Lives.mono _
   | exact LeO.none _
   | refine LeO.ite ?_ ?_
   | refine LeO.bind ?_ (fun _ => ?_)
  ·intro y0 y1 y2 y3 y4 y5 y6 y7 y8 y9 y10
   unfold smaltolaw06_TapsSum.l2
   repeat' first
   | (with_reducible exact ih0 _ _)
   | (with_reducible exact ih1 _ _ _ _ _ _)
   | (with_reducible exact ih2 _ _ _ _)
   | (with_reducible exact ih3 _ _ _ _ _ _)
   | (with_reducible exact ih4 _ _ _ _ _ _ _ _ _)
   | (with_reducible exact ih5 _ _ _ _ _ _ _ _ _ _ _)
   | (with_reducible exact smaltolaw06_Lives.mono _)
   | (with_reducible exact LeO.refl _)
   | (with_reducible exact LeO.none _)
   | (with_reducible refine LeO.ite ?_ ?_)
   | (with_reducible refine LeO.bind ?_ (fun _ => ?_))
   | exact ih0 _ _
   | exact ih1 _ _ _ _ _ _
   | exact ih2 _ _ _ _
   | exact ih3 _ _ _ _ _ _
   | exact ih4 _ _ _ _ _ _ _ _ _
   | exact ih5 _ _ _ _ _ _ _ _ _ _ _
   | exact smaltolaw06_Lives.mono _
   | exact LeO.none _
   | refine LeO.ite ?_ ?_
   | refine LeO.bind ?_ (fun _ => ?_)
theorem smaltolaw06_TapsSum.mono : ∀ a0 k, LeO (smaltolaw06_TapsSum.f k a0) (smaltolaw06_TapsSum.f (k + 1) a0) := by
 intro a0 k
 obtain ⟨ih0, ih1, ih2, ih3, ih4, ih5⟩ := smaltolaw06_TapsSum.mono_l k
 unfold smaltolaw06_TapsSum.f
 repeat' first
   | (with_reducible exact ih0 _ _)
   | (with_reducible exact ih1 _ _ _ _ _ _)
   | (with_reducible exact ih2 _ _ _ _)
   | (with_reducible exact ih3 _ _ _ _ _ _)
   | (with_reducible exact ih4 _ _ _ _ _ _ _ _ _)
   | (with_reducible exact ih5 _ _ _ _ _ _ _ _ _ _ _)
   | (with_reducible exact smaltolaw06_Lives.mono _)
   | (with_reducible exact LeO.refl _)
   | (with_reducible exact LeO.none _)
   | (with_reducible refine LeO.ite ?_ ?_)
   | (with_reducible refine LeO.bind ?_ (fun _ => ?_))
   | exact ih0 _ _
   | exact ih1 _ _ _ _ _ _
   | exact ih2 _ _ _ _
   | exact ih3 _ _ _ _ _ _
   | exact ih4 _ _ _ _ _ _ _ _ _
   | exact ih5 _ _ _ _ _ _ _ _ _ _ _
   | exact smaltolaw06_Lives.mono _
   | exact LeO.none _
   | refine LeO.ite ?_ ?_
   | refine LeO.bind ?_ (fun _ => ?_)
set_option maxHeartbeats 8000000 in
set_option maxRecDepth 100000 in
theorem smaltolaw06_TapsSum.calls (k : Nat) (A0 : Option Addr) (c0 : Nat) (l0 : List Int) (r : Bool) (w : World) (hr0 : Kd.C (Kd.int .i64) w A0 l0.length l0) (hc0 : l0.length ≤ c0) (h : smaltolaw06_TapsSum.f k l0 = some r) :
  Calls Try.prog 4 #[.slice A0 l0.length c0] w fun e w' => e = .returned (.bool r) ∧ Below w.heap.size w w' := by
 have HR0 := Aside0.mk hr0
 have HC0 := Aside0.mk hc0
 clear hr0 hc0
 have HB := Aside0.mk (Below.refl w.heap.size w)
 have H : ((smaltolaw06_Lives.f k).bind fun t171 => (if t171 = true then (smaltolaw06_TapsSum.j0 k l0 (decide ((l0.length : Int) > 200))) else (smaltolaw06_TapsSum.j0 k l0 true))) = some r := h
 clear h
 have HC2 := Aside0.mk H
 clear H
 go_enter Try.func4, Try.ntmps4
 go_upto_region 1 with (fail)
 repeat (go_quiet (fail); go_upto_region 1 with (fail))
 go_cut [19] (fun v19 wc => ∃ (kq : Nat) (x19_1 : Bool), v19 = .bool x19_1 ∧ Aside0 (smaltolaw06_TapsSum.j0 kq l0 x19_1 = some r) ∧ Aside0 (kq ≤ k) ∧ Aside0 (Below w.heap.size w wc))
 case first =>
  have H := HC2.out
  clear HC2
  replace H := Option.bind_eq_some_iff.mp H
  obtain ⟨t171, A30, H⟩ := H
  replace H : (if t171 = true then (smaltolaw06_TapsSum.j0 k l0 (decide ((l0.length : Int) > 200))) else (smaltolaw06_TapsSum.j0 k l0 true)) = some r := H
  have A3 := Aside0.mk A30
  clear A30
  by_cases c4 : t171 = true
  ·subst c4
   have H1 : (smaltolaw06_TapsSum.j0 k l0 (decide ((l0.length : Int) > 200))) = some r := by rw [if_pos rfl] at H; exact H
   clear H
   have H := H1
   clear H1
   have H' := Aside0.mk H
   clear H
   go_wp2_with (first | (go_at_call 9; (with_reducible refine (smaltolaw06_Lives.calls k  true _ A3.out).mono ?_); rintro e w5 ⟨rfl, hb⟩; have n0_ := Aside0.mk (below_step (by repeat (first | (with_reducible first | exact HB.out | apply below_alloc | apply pw_below_drewN | apply below_drew1) | exact HB.out)) hb); clear HB; have HB := n0_; clear n0_; (try clear hb); (try clear hb2); (try clear hk); (try clear hi)))
   repeat (go_quiet (first | (go_at_call 9; (with_reducible refine (smaltolaw06_Lives.calls k  true _ A3.out).mono ?_); rintro e w5 ⟨rfl, hb⟩; have n0_ := Aside0.mk (below_step (by repeat (first | (with_reducible first | exact HB.out | apply below_alloc | apply pw_below_drewN | apply below_drew1) | exact HB.out)) hb); clear HB; have HB := n0_; clear n0_; (try clear hb); (try clear hb2); (try clear hk); (try clear hi))); try go_wp2_with (first | (go_at_call 9; (with_reducible refine (smaltolaw06_Lives.calls k  true _ A3.out).mono ?_); rintro e w5 ⟨rfl, hb⟩; have n0_ := Aside0.mk (below_step (by repeat (first | (with_reducible first | exact HB.out | apply below_alloc | apply pw_below_drewN | apply below_drew1) | exact HB.out)) hb); clear HB; have HB := n0_; clear n0_; (try clear hb); (try clear hb2); (try clear hk); (try clear hi))))
   go_meet
   case rel => exact ⟨_, (decide ((l0.length : Int) > 200)), (by first | rfl | (simp; done) | (simp [*]; done)), H', ⟨by first | omega | exact Nat.le_refl _⟩, ⟨by repeat (first | (with_reducible first | exact HB.out | apply below_alloc | apply pw_below_drewN | apply below_drew1) | exact HB.out)⟩⟩
  ·replace c4 := Bool.eq_false_iff.mpr c4
   subst c4
   have H1 : (smaltolaw06_TapsSum.j0 k l0 true) = some r := by rw [if_neg (show ¬ (false = true) by decide)] at H; exact H
   clear H
   have H := H1
   clear H1
   have H' := Aside0.mk H
   clear H
   go_wp2_with (first | (go_at_call 9; (with_reducible refine (smaltolaw06_Lives.calls k  false _ A3.out).mono ?_); rintro e w6 ⟨rfl, hb⟩; have n0_ := Aside0.mk (below_step (by repeat (first | (with_reducible first | exact HB.out | apply below_alloc | apply pw_below_drewN | apply below_drew1) | exact HB.out)) hb); clear HB; have HB := n0_; clear n0_; (try clear hb); (try clear hb2); (try clear hk); (try clear hi)))
   repeat (go_quiet (first | (go_at_call 9; (with_reducible refine (smaltolaw06_Lives.calls k  false _ A3.out).mono ?_); rintro e w6 ⟨rfl, hb⟩; have n0_ := Aside0.mk (below_step (by repeat (first | (with_reducible first | exact HB.out | apply below_alloc | apply pw_below_drewN | apply below_drew1) | exact HB.out)) hb); clear HB; have HB := n0_; clear n0_; (try clear hb); (try clear hb2); (try clear hk); (try clear hi))); try go_wp2_with (first | (go_at_call 9; (with_reducible refine (smaltolaw06_Lives.calls k  false _ A3.out).mono ?_); rintro e w6 ⟨rfl, hb⟩; have n0_ := Aside0.mk (below_step (by repeat (first | (with_reducible first | exact HB.out | apply below_alloc | apply pw_below_drewN | apply below_drew1) | exact HB.out)) hb); clear HB; have HB := n0_; clear n0_; (try clear hb); (try clear hb2); (try clear hk); (try clear hi))))
   go_meet
   case rel => exact ⟨_, (true), (by first | rfl | (simp; done) | (simp [*]; done)), H', ⟨by first | omega | exact Nat.le_refl _⟩, ⟨by repeat (first | (with_reducible first | exact HB.out | apply below_alloc | apply pw_below_drewN | apply below_drew1) | exact HB.out)⟩⟩
 case rest =>
  clear HC2
  try clear p2
  try clear c4
  obtain ⟨kq, x19_1, rfl, HA, HJ1, HB⟩ := hcut
  cases kq with
  | zero => exact absurd HA.out (by simp [smaltolaw06_TapsSum.j0])
  | succ kj1 =>
   have H := HA.out
   clear HA
   simp only [smaltolaw06_TapsSum.j0] at H
   by_cases c7 : x19_1 = true
   ·subst c7
    have H1 : ((smaltolaw06_Lives.f kj1).bind fun t172 => (some t172)) = some r := by rw [if_pos rfl] at H; exact H
    clear H
    have H := H1
    clear H1
    replace H := Option.bind_eq_some_iff.mp H
    obtain ⟨t172, A80, H⟩ := H
    replace H : (some t172) = some r := H
    have A8 := Aside0.mk A80
    clear A80
    obtain rfl := Option.some.inj H
    go_wp2_with (first | (go_at_call 9; (with_reducible refine (smaltolaw06_Lives.calls kj1  t172 _ A8.out).mono ?_); rintro e w9 ⟨rfl, hb⟩; have n0_ := Aside0.mk (below_step (by repeat (first | (with_reducible first | exact HB.out | apply below_alloc | apply pw_below_drewN | apply below_drew1) | exact HB.out)) hb); clear HB; have HB := n0_; clear n0_; (try clear hb); (try clear hb2); (try clear hk); (try clear hi)))
    repeat (go_quiet (first | (go_at_call 9; (with_reducible refine (smaltolaw06_Lives.calls kj1  t172 _ A8.out).mono ?_); rintro e w9 ⟨rfl, hb⟩; have n0_ := Aside0.mk (below_step (by repeat (first | (with_reducible first | exact HB.out | apply below_alloc | apply pw_below_drewN | apply below_drew1) | exact HB.out)) hb); clear HB; have HB := n0_; clear n0_; (try clear hb); (try clear hb2); (try clear hk); (try clear hi))); try go_wp2_with (first | (go_at_call 9; (with_reducible refine (smaltolaw06_Lives.calls kj1  t172 _ A8.out).mono ?_); rintro e w9 ⟨rfl, hb⟩; have n0_ := Aside0.mk (below_step (by repeat (first | (with_reducible first | exact HB.out | apply below_alloc | apply pw_below_drewN | apply below_drew1) | exact HB.out)) hb); clear HB; have HB := n0_; clear n0_; (try clear hb); (try clear hb2); (try clear hk); (try clear hi))))
    go_ret
    exact ⟨by first | rfl | (simp [errW_none, errW_some] <;> rfl) | (simp [*, errW_none, errW_some] <;> rfl), by repeat (first | (with_reducible first | exact HB.out | apply below_alloc | apply pw_below_drewN | apply below_drew1) | exact HB.out)⟩
   ·replace c7 := Bool.eq_false_iff.mpr c7
    subst c7
    have H1 : ((taps_Apportion.f l0).bind fun bt173 => (if bt173.2 = 0 then (if (bt173.1.length : Int) = (l0.length : Int) then (smaltolaw06_TapsSum.l0 kj1 l0 bt173.1 0 0 (l0.length : Int) 0) else (some false)) else (some ((bt173.1.length : Int) == 0)))) = some r := by rw [if_neg (show ¬ (false = true) by decide)] at H; exact H
    clear H
    have H := H1
    clear H1
    replace H := Option.bind_eq_some_iff.mp H
    obtain ⟨⟨t173, t174⟩, A100, H⟩ := H
    replace H : (if t174 = 0 then (if (t173.length : Int) = (l0.length : Int) then (smaltolaw06_TapsSum.l0 kj1 l0 t173 0 0 (l0.length : Int) 0) else (some false)) else (some ((t173.length : Int) == 0))) = some r := H
    have A10 := Aside0.mk A100
    clear A100
    by_cases c11 : t174 = 0
    ·rw [if_pos c11] at H
     have c11b0 : (t174 == 0) = true := beq_iff_eq.mpr c11
     have c11b1 : (t174 != 0) = false := bne_eq_false_iff_eq.mpr c11
     clear c11
     by_cases c12 : (t173.length : Int) = (l0.length : Int)
     ·rw [if_pos c12] at H
      have c12b0 : ((t173.length : Int) == (l0.length : Int)) = true := beq_iff_eq.mpr c12
      have c12b1 : ((t173.length : Int) != (l0.length : Int)) = false := bne_eq_false_iff_eq.mpr c12
      have c12b2 : (t173.length == l0.length) = true := by first | simpa using c12 | (simp at c12 ⊢; omega)
      clear c12
      have H' := Aside0.mk H
      clear H
      go_wp2_with (first | (go_at_call 10; (with_reducible refine (taps_Apportion.calls _ _ l0 t173 t174 _ ?side1 ?side2 A10.out).mono ?_); (case side1 => repeat (first | exact (Kd.C_below HR0.out HB.out) | (with_reducible refine Kd.C_alloc ?_ _) | (with_reducible refine Kd.C_drewN ?_ _) | (with_reducible refine Kd.C_drew ?_))); (case side2 => exact HC0.out); rintro e w13 ⟨v175, rfl, ho0, hb⟩; have n0_ := Aside0.mk (Kd.R_lower ho0 (below_size (by repeat (first | (with_reducible first | exact HB.out | apply below_alloc | apply pw_below_drewN | apply below_drew1) | exact HB.out)))); have n1_ := Aside0.mk (below_step (by repeat (first | (with_reducible first | exact HB.out | apply below_alloc | apply pw_below_drewN | apply below_drew1) | exact HB.out)) hb); clear HB; have HO176 := n0_; have HB := n1_; clear n0_ n1_; (try clear hb); (try clear hb2); (try clear hk); (try clear hi); (try clear ho0); obtain ⟨Ao14, co14, eo14⟩ := Kd.R_slice HO176.out; subst eo14))
      repeat (go_quiet (first | (go_at_call 10; (with_reducible refine (taps_Apportion.calls _ _ l0 t173 t174 _ ?side1 ?side2 A10.out).mono ?_); (case side1 => repeat (first | exact (Kd.C_below HR0.out HB.out) | (with_reducible refine Kd.C_alloc ?_ _) | (with_reducible refine Kd.C_drewN ?_ _) | (with_reducible refine Kd.C_drew ?_))); (case side2 => exact HC0.out); rintro e w13 ⟨v175, rfl, ho0, hb⟩; have n0_ := Aside0.mk (Kd.R_lower ho0 (below_size (by repeat (first | (with_reducible first | exact HB.out | apply below_alloc | apply pw_below_drewN | apply below_drew1) | exact HB.out)))); have n1_ := Aside0.mk (below_step (by repeat (first | (with_reducible first | exact HB.out | apply below_alloc | apply pw_below_drewN | apply below_drew1) | exact HB.out)) hb); clear HB; have HO176 := n0_; have HB := n1_; clear n0_ n1_; (try clear hb); (try clear hb2); (try clear hk); (try clear hi); (try clear ho0); obtain ⟨Ao14, co14, eo14⟩ := Kd.R_slice HO176.out; subst eo14)); try go_wp2_with (first | (go_at_call 10; (with_reducible refine (taps_Apportion.calls _ _ l0 t173 t174 _ ?side1 ?side2 A10.out).mono ?_); (case side1 => repeat (first | exact (Kd.C_below HR0.out HB.out) | (with_reducible refine Kd.C_alloc ?_ _) | (with_reducible refine Kd.C_drewN ?_ _) | (with_reducible refine Kd.C_drew ?_))); (case side2 => exact HC0.out); rintro e w13 ⟨v175, rfl, ho0, hb⟩; have n0_ := Aside0.mk (Kd.R_lower ho0 (below_size (by repeat (first | (with_reducible first | exact HB.out | apply below_alloc | apply pw_below_drewN | apply below_drew1) | exact HB.out)))); have n1_ := Aside0.mk (below_step (by repeat (first | (with_reducible first | exact HB.out | apply below_alloc | apply pw_below_drewN | apply below_drew1) | exact HB.out)) hb); clear HB; have HO176 := n0_; have HB := n1_; clear n0_ n1_; (try clear hb); (try clear hb2); (try clear hk); (try clear hi); (try clear ho0); obtain ⟨Ao14, co14, eo14⟩ := Kd.R_slice HO176.out; subst eo14)))
      go_loopg [5, 6, 38] kj1 (fun kq v5 v6 v38 w' => ∃ (x5_2 : Int) (x6_2 : Int) (x38_2 : Int), v5 = .int .i64 x5_2 ∧ v6 = .int .i64 x6_2 ∧ v38 = .int .i64 x38_2 ∧ Aside0 (smaltolaw06_TapsSum.l0 kq l0 t173 x5_2 x6_2 (l0.length : Int) x38_2 = some r) ∧ Aside0 (kq ≤ kj1) ∧ Aside0 (Kd.R (Kd.int .i64) 2 w' w.heap.size (fun _ => True) (.slice Ao14 t173.length co14) t173) ∧ Aside0 (Below w.heap.size w w'))
      case atStart => exact ⟨(0), (0), (0), (by first | rfl | (simp; done) | (simp [*]; done)), (by first | rfl | (simp; done) | (simp [*]; done)), (by first | rfl | (simp; done) | (simp [*]; done)), H', ⟨Nat.le_refl _⟩, ⟨by (with_reducible repeat (first | apply Kd.R_alloc | apply Kd.R_drewN | apply Kd.R_drew)); exact HO176.out⟩, ⟨by repeat (first | (with_reducible first | exact HB.out | apply below_alloc | apply pw_below_drewN | apply below_drew1) | exact HB.out)⟩⟩
      case round =>
       clear H'
       try clear c1
       try clear p2
       try clear c4
       try clear c7
       try clear c11
       try clear c11b0
       try clear c11b1
       try clear c12
       try clear c12b0
       try clear c12b1
       try clear c12b2
       try clear p2
       obtain ⟨x5_2, x6_2, x38_2, rfl, rfl, rfl, HA, HK2, HO_3, HB⟩ := hrel
       cases gk with
       | zero => exact absurd HA.out (by simp [smaltolaw06_TapsSum.l0])
       | succ k2 =>
        have H := HA.out
        clear HA
        simp only [smaltolaw06_TapsSum.l0] at H
        by_cases c15 : x38_2 < (l0.length : Int)
        ·rw [if_pos c15] at H
         have c15b0 : decide (x38_2 < (l0.length : Int)) = true := decide_eq_true c15
         clear c15
         by_cases c16 : 0 ≤ x38_2
         ·rw [if_pos c16] at H
          have c16b0 : decide (0 ≤ x38_2) = true := decide_eq_true c16
          clear c16
          by_cases c17 : x38_2 < (l0.length : Int)
          ·rw [if_pos c17] at H
           have c17b0 : decide (x38_2 < (l0.length : Int)) = true := decide_eq_true c17
           clear c17
           by_cases c18 : x38_2 < (t173.length : Int)
           ·rw [if_pos c18] at H
            have c18b0 : decide (x38_2 < (t173.length : Int)) = true := decide_eq_true c18
            clear c18
            have H' := Aside0.mk H
            clear H
            have p177 : 0 ≤ (x38_2 : Int) := of_decide_eq_true (by first | (with_reducible assumption) | assumption)
            have q177 : x38_2 < (l0.length : Int) := of_decide_eq_true (by first | (with_reducible assumption) | assumption)
            obtain ⟨ad177, e177, hx177_0⟩ := Kd.at_int HR0.out x38_2 p177 q177
            cases e177
            replace hx177_0 := (HB.out.cell (World.block_lt_of_cell? w _ hx177_0)).trans hx177_0
            replace p177 := eq_true p177
            replace q177 := eq_true q177
            have p178 : 0 ≤ (x38_2 : Int) := of_decide_eq_true (by first | (with_reducible assumption) | assumption)
            have q178 : x38_2 < (t173.length : Int) := of_decide_eq_true (by first | (with_reducible assumption) | assumption)
            obtain ⟨ad178, e178, hx178_0⟩ := Kd.at_int (Kd.R_reads' HO_3.out).2.2 x38_2 p178 q178
            cases e178
            replace p178 := eq_true p178
            replace q178 := eq_true q178
            go_wp2
            repeat (go_quiet (fail); try go_wp2)
            go_roundg k2
            case measure => have := HJ1.out; have := HK2.out; omega
            case rel => exact ⟨(wrap64 (x5_2 + (rd l0 x38_2))), (wrap64 (x6_2 + (rd t173 x38_2))), (wrap64 (x38_2 + 1)), (by first | rfl | (simp; done) | (simp [*]; done)), (by first | rfl | (simp; done) | (simp [*]; done)), (by first | rfl | (simp; done) | (simp [*]; done)), H', ⟨by have := HJ1.out; have := HK2.out; omega⟩, ⟨by (with_reducible repeat (first | apply Kd.R_alloc | apply Kd.R_drewN | apply Kd.R_drew)); exact HO_3.out⟩, ⟨by repeat (first | (with_reducible first | exact HB.out | apply below_alloc | apply pw_below_drewN | apply below_drew1) | exact HB.out)⟩⟩
           ·rw [if_neg c18] at H
            exact absurd H (by simp)
          ·rw [if_neg c17] at H
           exact absurd H (by simp)
         ·rw [if_neg c16] at H
          exact absurd H (by simp)
        ·rw [if_neg c15] at H
         have c15b0 : decide (x38_2 < (l0.length : Int)) = false := decide_eq_false c15
         clear c15
         have HC19 := Aside0.mk H
         clear H
         go_upto_region 15 with (fail)
         repeat (go_quiet (fail); go_upto_region 15 with (fail))
         go_cut [59] (fun v59 wc => ∃ (kq : Nat) (x59_18 : Bool), v59 = .bool x59_18 ∧ Aside0 (smaltolaw06_TapsSum.j2 kq l0 t173 x5_2 x59_18 = some r) ∧ Aside0 (kq ≤ k2) ∧ Aside0 (Kd.R (Kd.int .i64) 2 wc w.heap.size (fun _ => True) (.slice Ao14 t173.length co14) t173) ∧ Aside0 (Below w.heap.size w wc))
         case first =>
          have H := HC19.out
          clear HC19
          by_cases c20 : x6_2 = 16384
          ·rw [if_pos c20] at H
           have c20b0 : (x6_2 == 16384) = true := beq_iff_eq.mpr c20
           have c20b1 : (x6_2 != 16384) = false := bne_eq_false_iff_eq.mpr c20
           clear c20
           (first | rw [c20b0] | (simp only [i64_w, i32_w]; rw [c20b0]) | skip)
           have H' := Aside0.mk H
           clear H
           go_wp2
           repeat (go_quiet (fail); try go_wp2)
           go_meet
           case rel => exact ⟨_, (decide (x5_2 < 268435456)), (by first | rfl | (simp; done) | (simp [*]; done)), H', ⟨by have := HJ1.out; have := HK2.out; first | omega | exact Nat.le_refl _⟩, ⟨by (with_reducible repeat (first | apply Kd.R_alloc | apply Kd.R_drewN | apply Kd.R_drew)); exact HO_3.out⟩, ⟨by repeat (first | (with_reducible first | exact HB.out | apply below_alloc | apply pw_below_drewN | apply below_drew1) | exact HB.out)⟩⟩
          ·rw [if_neg c20] at H
           have c20b0 : (x6_2 == 16384) = false := beq_eq_false_iff_ne.mpr c20
           have c20b1 : (x6_2 != 16384) = true := bne_iff_ne.mpr c20
           (first | rw [c20b0] | (simp only [i64_w, i32_w]; rw [c20b0]) | skip)
           have H' := Aside0.mk H
           clear H
           go_wp2
           repeat (go_quiet (fail); try go_wp2)
           go_meet
           case rel => exact ⟨_, (true), (by first | rfl | (simp; done) | (simp [*]; done)), H', ⟨by have := HJ1.out; have := HK2.out; first | omega | exact Nat.le_refl _⟩, ⟨by (with_reducible repeat (first | apply Kd.R_alloc | apply Kd.R_drewN | apply Kd.R_drew)); exact HO_3.out⟩, ⟨by repeat (first | (with_reducible first | exact HB.out | apply below_alloc | apply pw_below_drewN | apply below_drew1) | exact HB.out)⟩⟩
         case rest =>
          clear HC19
          try clear c1
          try clear p1
          try clear q1
          try clear hx1
          try clear c2
          try clear p2
          try clear c4
          try clear p6
          try clear c7
          try clear c11
          try clear c11b0
          try clear c11b1
          try clear c12
          try clear c12b0
          try clear c12b1
          try clear c12b2
          try clear c15
          try clear c15b0
          try clear c16
          try clear c16b0
          try clear c17
          try clear c17b0
          try clear p17
          try clear q17
          try clear hx17
          try clear c18
          try clear c18b0
          try clear c20
          try clear c20b0
          try clear c20b1
          try clear hx177_0
          try clear hx178_0
          try clear p177
          try clear p178
          try clear p2
          try clear q177
          try clear q178
          obtain ⟨kq, x59_18, rfl, HA, HJ18, HO_3, HB⟩ := hcut
          cases kq with
          | zero => exact absurd HA.out (by simp [smaltolaw06_TapsSum.j2])
          | succ kj18 =>
           have H := HA.out
           clear HA
           simp only [smaltolaw06_TapsSum.j2] at H
           by_cases c21 : x59_18 = true
           ·subst c21
            have H1 : (some false) = some r := by rw [if_pos rfl] at H; exact H
            clear H
            have H := H1
            clear H1
            obtain rfl := Option.some.inj H
            go_wp2
            repeat (go_quiet (fail); try go_wp2)
            go_ret
            exact ⟨by first | rfl | (simp [errW_none, errW_some] <;> rfl) | (simp [*, errW_none, errW_some] <;> rfl), by repeat (first | (with_reducible first | exact HB.out | apply below_alloc | apply pw_below_drewN | apply below_drew1) | exact HB.out)⟩
           ·replace c21 := Bool.eq_false_iff.mpr c21
            subst c21
            have H1 : (smaltolaw06_TapsSum.l1 kj18 l0 t173 x5_2 l0 (l0.length : Int) 0) = some r := by rw [if_neg (show ¬ (false = true) by decide)] at H; exact H
            clear H
            have H := H1
            clear H1
            have H' := Aside0.mk H
            clear H
            go_wp2
            repeat (go_quiet (fail); try go_wp2)
            go_loopg [62] kj18 (fun kq v62 w' => ∃ (x62_4 : Int), v62 = .int .i64 x62_4 ∧ Aside0 (smaltolaw06_TapsSum.l1 kq l0 t173 x5_2 l0 (l0.length : Int) x62_4 = some r) ∧ Aside0 (kq ≤ kj18) ∧ Aside0 (Kd.R (Kd.int .i64) 2 w' w.heap.size (fun _ => True) (.slice Ao14 t173.length co14) t173) ∧ Aside0 (Below w.heap.size w w'))
            case atStart => exact ⟨(0), (by first | rfl | (simp; done) | (simp [*]; done)), H', ⟨Nat.le_refl _⟩, ⟨by (with_reducible repeat (first | apply Kd.R_alloc | apply Kd.R_drewN | apply Kd.R_drew)); exact HO_3.out⟩, ⟨by repeat (first | (with_reducible first | exact HB.out | apply below_alloc | apply pw_below_drewN | apply below_drew1) | exact HB.out)⟩⟩
            case round =>
             clear H'
             try clear c1
             try clear p1
             try clear q1
             try clear hx1
             try clear c2
             try clear p2
             try clear c4
             try clear p6
             try clear c7
             try clear c11
             try clear c11b0
             try clear c11b1
             try clear c12
             try clear c12b0
             try clear c12b1
             try clear c12b2
             try clear c15
             try clear c15b0
             try clear c16
             try clear c16b0
             try clear c17
             try clear c17b0
             try clear p17
             try clear q17
             try clear hx17
             try clear c18
             try clear c18b0
             try clear c20
             try clear c20b0
             try clear c20b1
             try clear c21
             try clear hx177_0
             try clear hx178_0
             try clear p1
             try clear p17
             try clear p177
             try clear p178
             try clear p2
             try clear p6
             try clear q1
             try clear q17
             try clear q177
             try clear q178
             obtain ⟨x62_4, rfl, HA, HK4, HO_3, HB⟩ := hrel
             cases gk with
             | zero => exact absurd HA.out (by simp [smaltolaw06_TapsSum.l1])
             | succ k4 =>
              have H := HA.out
              clear HA
              simp only [smaltolaw06_TapsSum.l1] at H
              by_cases c22 : x62_4 < (l0.length : Int)
              ·rw [if_pos c22] at H
               have c22b0 : decide (x62_4 < (l0.length : Int)) = true := decide_eq_true c22
               clear c22
               by_cases c23 : 0 ≤ x62_4
               ·rw [if_pos c23] at H
                have c23b0 : decide (0 ≤ x62_4) = true := decide_eq_true c23
                clear c23
                by_cases c24 : x62_4 < (l0.length : Int)
                ·rw [if_pos c24] at H
                 have c24b0 : decide (x62_4 < (l0.length : Int)) = true := decide_eq_true c24
                 clear c24
                 by_cases c25 : x62_4 < (t173.length : Int)
                 ·rw [if_pos c25] at H
                  have c25b0 : decide (x62_4 < (t173.length : Int)) = true := decide_eq_true c25
                  clear c25
                  have HC26 := Aside0.mk H
                  clear H
                  have p179 : 0 ≤ (x62_4 : Int) := of_decide_eq_true (by first | (with_reducible assumption) | assumption)
                  have q179 : x62_4 < (l0.length : Int) := of_decide_eq_true (by first | (with_reducible assumption) | assumption)
                  obtain ⟨ad179, e179, hx179_0⟩ := Kd.at_int HR0.out x62_4 p179 q179
                  cases e179
                  replace hx179_0 := (HB.out.cell (World.block_lt_of_cell? w _ hx179_0)).trans hx179_0
                  replace p179 := eq_true p179
                  replace q179 := eq_true q179
                  have p180 : 0 ≤ (x62_4 : Int) := of_decide_eq_true (by first | (with_reducible assumption) | assumption)
                  have q180 : x62_4 < (t173.length : Int) := of_decide_eq_true (by first | (with_reducible assumption) | assumption)
                  obtain ⟨ad180, e180, hx180_0⟩ := Kd.at_int (Kd.R_reads' HO_3.out).2.2 x62_4 p180 q180
                  cases e180
                  replace p180 := eq_true p180
                  replace q180 := eq_true q180
                  go_upto_region 21 with (fail)
                  repeat (go_quiet (fail); go_upto_region 21 with (fail))
                  go_cut [84] (fun v84 wc => ∃ (kq : Nat) (x84_25 : Bool), v84 = .bool x84_25 ∧ Aside0 (smaltolaw06_TapsSum.j4 kq l0 t173 x5_2 x62_4 (rd l0 x62_4) l0 (l0.length : Int) x62_4 x84_25 = some r) ∧ Aside0 (kq ≤ k4) ∧ Aside0 (Kd.R (Kd.int .i64) 2 wc w.heap.size (fun _ => True) (.slice (some ad180) t173.length co14) t173) ∧ Aside0 (Below w.heap.size w wc))
                  case first =>
                   have H := HC26.out
                   clear HC26
                   by_cases c27 : (wrap64 ((wrap64 ((rd t173 x62_4) * x5_2)) - (wrap64 ((rd l0 x62_4) * 16384)))) ≥ x5_2
                   ·rw [if_pos c27] at H
                    have c27b0 : decide (x5_2 ≤ (wrap64 ((wrap64 ((rd t173 x62_4) * x5_2)) - (wrap64 ((rd l0 x62_4) * 16384))))) = true := decide_eq_true c27
                    clear c27
                    (first | rw [c27b0] | (simp only [i64_w, i32_w]; rw [c27b0]) | skip)
                    have H' := Aside0.mk H
                    clear H
                    go_wp2
                    repeat (go_quiet (fail); try go_wp2)
                    go_meet
                    case rel => exact ⟨_, (true), (by first | rfl | (simp; done) | (simp [*]; done)), H', ⟨by have := HJ1.out; have := HK2.out; have := HJ18.out; have := HK4.out; first | omega | exact Nat.le_refl _⟩, ⟨by (with_reducible repeat (first | apply Kd.R_alloc | apply Kd.R_drewN | apply Kd.R_drew)); exact HO_3.out⟩, ⟨by repeat (first | (with_reducible first | exact HB.out | apply below_alloc | apply pw_below_drewN | apply below_drew1) | exact HB.out)⟩⟩
                   ·rw [if_neg c27] at H
                    have c27b0 : decide (x5_2 ≤ (wrap64 ((wrap64 ((rd t173 x62_4) * x5_2)) - (wrap64 ((rd l0 x62_4) * 16384))))) = false := decide_eq_false c27
                    clear c27
                    (first | rw [c27b0] | (simp only [i64_w, i32_w]; rw [c27b0]) | skip)
                    have H' := Aside0.mk H
                    clear H
                    go_wp2
                    repeat (go_quiet (fail); try go_wp2)
                    go_meet
                    case rel => exact ⟨_, (decide ((wrap64 ((wrap64 ((rd t173 x62_4) * x5_2)) - (wrap64 ((rd l0 x62_4) * 16384)))) ≤ (wrap64 (-x5_2)))), (by first | rfl | (simp; done) | (simp [*]; done)), H', ⟨by have := HJ1.out; have := HK2.out; have := HJ18.out; have := HK4.out; first | omega | exact Nat.le_refl _⟩, ⟨by (with_reducible repeat (first | apply Kd.R_alloc | apply Kd.R_drewN | apply Kd.R_drew)); exact HO_3.out⟩, ⟨by repeat (first | (with_reducible first | exact HB.out | apply below_alloc | apply pw_below_drewN | apply below_drew1) | exact HB.out)⟩⟩
                  case rest =>
                   clear HC26
                   try clear c1
                   try clear p1
                   try clear q1
                   try clear hx1
                   try clear c2
                   try clear p2
                   try clear c4
                   try clear p6
                   try clear c7
                   try clear c11
                   try clear c11b0
                   try clear c11b1
                   try clear c12
                   try clear c12b0
                   try clear c12b1
                   try clear c12b2
                   try clear c15
                   try clear c15b0
                   try clear c16
                   try clear c16b0
                   try clear c17
                   try clear c17b0
                   try clear p17
                   try clear q17
                   try clear hx17
                   try clear c18
                   try clear c18b0
                   try clear p18
                   try clear q18
                   try clear hx18
                   try clear c20
                   try clear c20b0
                   try clear c20b1
                   try clear c21
                   try clear c22
                   try clear c22b0
                   try clear c23
                   try clear c23b0
                   try clear c24
                   try clear c24b0
                   try clear c25
                   try clear c25b0
                   try clear c27
                   try clear c27b0
                   try clear hx177_0
                   try clear hx178_0
                   try clear hx179_0
                   try clear hx180_0
                   try clear p1
                   try clear p17
                   try clear p177
                   try clear p178
                   try clear p179
                   try clear p180
                   try clear p2
                   try clear p6
                   try clear q1
                   try clear q17
                   try clear q177
                   try clear q178
                   try clear q179
                   try clear q180
                   obtain ⟨kq, x84_25, rfl, HA, HJ25, HO_3, HB⟩ := hcut
                   cases kq with
                   | zero => exact absurd HA.out (by simp [smaltolaw06_TapsSum.j4])
                   | succ kj25 =>
                    have H := HA.out
                    clear HA
                    simp only [smaltolaw06_TapsSum.j4] at H
                    by_cases c28 : x84_25 = true
                    ·subst c28
                     have H1 : (some false) = some r := by rw [if_pos rfl] at H; exact H
                     clear H
                     have H := H1
                     clear H1
                     obtain rfl := Option.some.inj H
                     go_wp2
                     repeat (go_quiet (fail); try go_wp2)
                     go_ret
                     exact ⟨by first | rfl | (simp [errW_none, errW_some] <;> rfl) | (simp [*, errW_none, errW_some] <;> rfl), by repeat (first | (with_reducible first | exact HB.out | apply below_alloc | apply pw_below_drewN | apply below_drew1) | exact HB.out)⟩
                    ·replace c28 := Bool.eq_false_iff.mpr c28
                     subst c28
                     have H1 : (smaltolaw06_TapsSum.l2 kj25 l0 t173 x5_2 x62_4 (rd l0 x62_4) l0 (l0.length : Int) x62_4 l0 (l0.length : Int) 0) = some r := by rw [if_neg (show ¬ (false = true) by decide)] at H; exact H
                     clear H
                     have H := H1
                     clear H1
                     have H' := Aside0.mk H
                     clear H
                     go_wp2
                     repeat (go_quiet (fail); try go_wp2)
                     go_loopg [87] kj25 (fun kq v87 w' => ∃ (x87_6 : Int), v87 = .int .i64 x87_6 ∧ Aside0 (smaltolaw06_TapsSum.l2 kq l0 t173 x5_2 x62_4 (rd l0 x62_4) l0 (l0.length : Int) x62_4 l0 (l0.length : Int) x87_6 = some r) ∧ Aside0 (kq ≤ kj25) ∧ Aside0 (Kd.R (Kd.int .i64) 2 w' w.heap.size (fun _ => True) (.slice (some ad180) t173.length co14) t173) ∧ Aside0 (Below w.heap.size w w'))
                     case atStart => exact ⟨(0), (by first | rfl | (simp; done) | (simp [*]; done)), H', ⟨Nat.le_refl _⟩, ⟨by (with_reducible repeat (first | apply Kd.R_alloc | apply Kd.R_drewN | apply Kd.R_drew)); exact HO_3.out⟩, ⟨by repeat (first | (with_reducible first | exact HB.out | apply below_alloc | apply pw_below_drewN | apply below_drew1) | exact HB.out)⟩⟩
                     case round =>
                      clear H'
                      try clear c1
                      try clear p1
                      try clear q1
                      try clear hx1
                      try clear c2
                      try clear p2
                      try clear c4
                      try clear p6
                      try clear c7
                      try clear c11
                      try clear c11b0
                      try clear c11b1
                      try clear c12
                      try clear c12b0
                      try clear c12b1
                      try clear c12b2
                      try clear c15
                      try clear c15b0
                      try clear c16
                      try clear c16b0
                      try clear c17
                      try clear c17b0
                      try clear p17
                      try clear q17
                      try clear hx17
                      try clear c18
                      try clear c18b0
                      try clear p18
                      try clear q18
                      try clear hx18
                      try clear c20
                      try clear c20b0
                      try clear c20b1
                      try clear c21
                      try clear c22
                      try clear c22b0
                      try clear c23
                      try clear c23b0
                      try clear c24
                      try clear c24b0
                      try clear c25
                      try clear c25b0
                      try clear c27
                      try clear c27b0
                      try clear c28
                      try clear hx177_0
                      try clear hx178_0
                      try clear hx179_0
                      try clear hx180_0
                      try clear p1
                      try clear p17
                      try clear p177
                      try clear p178
                      try clear p179
                      try clear p18
                      try clear p180
                      try clear p2
                      try clear p6
                      try clear q1
                      try clear q17
                      try clear q177
                      try clear q178
                      try clear q179
                      try clear q18
                      try clear q180
                      obtain ⟨x87_6, rfl, HA, HK6, HO_3, HB⟩ := hrel
                      cases gk with
                      | zero => exact absurd HA.out (by simp [smaltolaw06_TapsSum.l2])
                      | succ k6 =>
                       have H := HA.out
                       clear HA
                       simp only [smaltolaw06_TapsSum.l2] at H
                       by_cases c29 : x87_6 < (l0.length : Int)
                       ·rw [if_pos c29] at H
                        have c29b0 : decide (x87_6 < (l0.length : Int)) = true := decide_eq_true c29
                        clear c29
                        by_cases c30 : 0 ≤ x87_6
                        ·rw [if_pos c30] at H
                         have c30b0 : decide (0 ≤ x87_6) = true := decide_eq_true c30
                         clear c30
                         by_cases c31 : x87_6 < (l0.length : Int)
                         ·rw [if_pos c31] at H
                          have c31b0 : decide (x87_6 < (l0.length : Int)) = true := decide_eq_true c31
                          clear c31
                          by_cases c32 : (rd l0 x62_4) > (rd l0 x87_6)
                          ·rw [if_pos c32] at H
                           have c32b0 : decide ((rd l0 x87_6) < (rd l0 x62_4)) = true := decide_eq_true c32
                           clear c32
                           by_cases c33 : 0 ≤ x62_4
                           ·rw [if_pos c33] at H
                            have c33b0 : decide (0 ≤ x62_4) = true := decide_eq_true c33
                            clear c33
                            by_cases c34 : x62_4 < (t173.length : Int)
                            ·rw [if_pos c34] at H
                             have c34b0 : decide (x62_4 < (t173.length : Int)) = true := decide_eq_true c34
                             clear c34
                             by_cases c35 : x87_6 < (t173.length : Int)
                             ·rw [if_pos c35] at H
                              have c35b0 : decide (x87_6 < (t173.length : Int)) = true := decide_eq_true c35
                              clear c35
                              by_cases c36 : (rd t173 x62_4) < (rd t173 x87_6)
                              ·rw [if_pos c36] at H
                               have c36b0 : decide ((rd t173 x62_4) < (rd t173 x87_6)) = true := decide_eq_true c36
                               clear c36
                               obtain rfl := Option.some.inj H
                               have p181 : 0 ≤ (x87_6 : Int) := of_decide_eq_true (by first | (with_reducible assumption) | assumption)
                               have q181 : x87_6 < (l0.length : Int) := of_decide_eq_true (by first | (with_reducible assumption) | assumption)
                               obtain ⟨ad181, e181, hx181_0⟩ := Kd.at_int HR0.out x87_6 p181 q181
                               obtain rfl : ad179 = ad181 := (by injection e181)
                               replace hx181_0 := (HB.out.cell (World.block_lt_of_cell? w _ hx181_0)).trans hx181_0
                               replace p181 := eq_true p181
                               replace q181 := eq_true q181
                               have p182 : 0 ≤ (x62_4 : Int) := of_decide_eq_true (by first | (with_reducible assumption) | assumption)
                               have q182 : x62_4 < (t173.length : Int) := of_decide_eq_true (by first | (with_reducible assumption) | assumption)
                               obtain ⟨ad182, e182, hx182_0⟩ := Kd.at_int (Kd.R_reads' HO_3.out).2.2 x62_4 p182 q182
                               obtain rfl : ad180 = ad182 := (by injection e182)
                               replace p182 := eq_true p182
                               replace q182 := eq_true q182
                               have p183 : 0 ≤ (x87_6 : Int) := of_decide_eq_true (by first | (with_reducible assumption) | assumption)
                               have q183 : x87_6 < (t173.length : Int) := of_decide_eq_true (by first | (with_reducible assumption) | assumption)
                               obtain ⟨ad183, e183, hx183_0⟩ := Kd.at_int (Kd.R_reads' HO_3.out).2.2 x87_6 p183 q183
                               obtain rfl : ad180 = ad183 := (by injection e183)
                               replace p183 := eq_true p183
                               replace q183 := eq_true q183
                               go_wp2
                               repeat (go_quiet (fail); try go_wp2)
                               go_ret
                               exact ⟨by first | rfl | (simp [errW_none, errW_some] <;> rfl) | (simp [*, errW_none, errW_some] <;> rfl), by repeat (first | (with_reducible first | exact HB.out | apply below_alloc | apply pw_below_drewN | apply below_drew1) | exact HB.out)⟩
                              ·rw [if_neg c36] at H
                               have c36b0 : decide ((rd t173 x62_4) < (rd t173 x87_6)) = false := decide_eq_false c36
                               clear c36
                               have H' := Aside0.mk H
                               clear H
                               have p181 : 0 ≤ (x87_6 : Int) := of_decide_eq_true (by first | (with_reducible assumption) | assumption)
                               have q181 : x87_6 < (l0.length : Int) := of_decide_eq_true (by first | (with_reducible assumption) | assumption)
                               obtain ⟨ad181, e181, hx181_0⟩ := Kd.at_int HR0.out x87_6 p181 q181
                               obtain rfl : ad179 = ad181 := (by injection e181)
                               replace hx181_0 := (HB.out.cell (World.block_lt_of_cell? w _ hx181_0)).trans hx181_0
                               replace p181 := eq_true p181
                               replace q181 := eq_true q181
                               have p182 : 0 ≤ (x62_4 : Int) := of_decide_eq_true (by first | (with_reducible assumption) | assumption)
                               have q182 : x62_4 < (t173.length : Int) := of_decide_eq_true (by first | (with_reducible assumption) | assumption)
                               obtain ⟨ad182, e182, hx182_0⟩ := Kd.at_int (Kd.R_reads' HO_3.out).2.2 x62_4 p182 q182
                               obtain rfl : ad180 = ad182 := (by injection e182)
                               replace p182 := eq_true p182
                               replace q182 := eq_true q182
                               have p183 : 0 ≤ (x87_6 : Int) := of_decide_eq_true (by first | (with_reducible assumption) | assumption)
                               have q183 : x87_6 < (t173.length : Int) := of_decide_eq_true (by first | (with_reducible assumption) | assumption)
                               obtain ⟨ad183, e183, hx183_0⟩ := Kd.at_int (Kd.R_reads' HO_3.out).2.2 x87_6 p183 q183
                               obtain rfl : ad180 = ad183 := (by injection e183)
                               replace p183 := eq_true p183
                               replace q183 := eq_true q183
                               go_wp2
                               repeat (go_quiet (fail); try go_wp2)
                               go_roundg k6
                               case measure => have := HJ1.out; have := HK2.out; have := HJ18.out; have := HK4.out; have := HJ25.out; have := HK6.out; omega
                               case rel => exact ⟨(wrap64 (x87_6 + 1)), (by first | rfl | (simp; done) | (simp [*]; done)), H', ⟨by have := HJ1.out; have := HK2.out; have := HJ18.out; have := HK4.out; have := HJ25.out; have := HK6.out; omega⟩, ⟨by (with_reducible repeat (first | apply Kd.R_alloc | apply Kd.R_drewN | apply Kd.R_drew)); exact HO_3.out⟩, ⟨by repeat (first | (with_reducible first | exact HB.out | apply below_alloc | apply pw_below_drewN | apply below_drew1) | exact HB.out)⟩⟩
                             ·rw [if_neg c35] at H
                              exact absurd H (by simp)
                            ·rw [if_neg c34] at H
                             exact absurd H (by simp)
                           ·rw [if_neg c33] at H
                            exact absurd H (by simp)
                          ·rw [if_neg c32] at H
                           have c32b0 : decide ((rd l0 x87_6) < (rd l0 x62_4)) = false := decide_eq_false c32
                           clear c32
                           have H' := Aside0.mk H
                           clear H
                           have p181 : 0 ≤ (x87_6 : Int) := of_decide_eq_true (by first | (with_reducible assumption) | assumption)
                           have q181 : x87_6 < (l0.length : Int) := of_decide_eq_true (by first | (with_reducible assumption) | assumption)
                           obtain ⟨ad181, e181, hx181_0⟩ := Kd.at_int HR0.out x87_6 p181 q181
                           obtain rfl : ad179 = ad181 := (by injection e181)
                           replace hx181_0 := (HB.out.cell (World.block_lt_of_cell? w _ hx181_0)).trans hx181_0
                           replace p181 := eq_true p181
                           replace q181 := eq_true q181
                           go_wp2
                           repeat (go_quiet (fail); try go_wp2)
                           go_roundg k6
                           case measure => have := HJ1.out; have := HK2.out; have := HJ18.out; have := HK4.out; have := HJ25.out; have := HK6.out; omega
                           case rel => exact ⟨(wrap64 (x87_6 + 1)), (by first | rfl | (simp; done) | (simp [*]; done)), H', ⟨by have := HJ1.out; have := HK2.out; have := HJ18.out; have := HK4.out; have := HJ25.out; have := HK6.out; omega⟩, ⟨by (with_reducible repeat (first | apply Kd.R_alloc | apply Kd.R_drewN | apply Kd.R_drew)); exact HO_3.out⟩, ⟨by repeat (first | (with_reducible first | exact HB.out | apply below_alloc | apply pw_below_drewN | apply below_drew1) | exact HB.out)⟩⟩
                         ·rw [if_neg c31] at H
                          exact absurd H (by simp)
                        ·rw [if_neg c30] at H
                         exact absurd H (by simp)
                       ·rw [if_neg c29] at H
                        have c29b0 : decide (x87_6 < (l0.length : Int)) = false := decide_eq_false c29
                        clear c29
                        have H' := Aside0.mk H
                        clear H
                        go_wp2
                        repeat (go_quiet (fail); try go_wp2)
                        go_roundg k6
                        case measure => have := HJ1.out; have := HK2.out; have := HJ18.out; have := HK4.out; have := HJ25.out; have := HK6.out; omega
                        case rel => exact ⟨(wrap64 (x62_4 + 1)), (by first | rfl | (simp; done) | (simp [*]; done)), H', ⟨by have := HJ1.out; have := HK2.out; have := HJ18.out; have := HK4.out; have := HJ25.out; have := HK6.out; omega⟩, ⟨by (with_reducible repeat (first | apply Kd.R_alloc | apply Kd.R_drewN | apply Kd.R_drew)); exact HO_3.out⟩, ⟨by repeat (first | (with_reducible first | exact HB.out | apply below_alloc | apply pw_below_drewN | apply below_drew1) | exact HB.out)⟩⟩
                 ·rw [if_neg c25] at H
                  exact absurd H (by simp)
                ·rw [if_neg c24] at H
                 exact absurd H (by simp)
               ·rw [if_neg c23] at H
                exact absurd H (by simp)
              ·rw [if_neg c22] at H
               have c22b0 : decide (x62_4 < (l0.length : Int)) = false := decide_eq_false c22
               clear c22
               obtain rfl := Option.some.inj H
               go_wp2
               repeat (go_quiet (fail); try go_wp2)
               go_ret
               exact ⟨by first | rfl | (simp [errW_none, errW_some] <;> rfl) | (simp [*, errW_none, errW_some] <;> rfl), by repeat (first | (with_reducible first | exact HB.out | apply below_alloc | apply pw_below_drewN | apply below_drew1) | exact HB.out)⟩
     ·rw [if_neg c12] at H
      have c12b0 : ((t173.length : Int) == (l0.length : Int)) = false := beq_eq_false_iff_ne.mpr c12
      have c12b1 : ((t173.length : Int) != (l0.length : Int)) = true := bne_iff_ne.mpr c12
      have c12b2 : (t173.length == l0.length) = false := by first | simpa using c12 | (simp at c12 ⊢; omega)
      obtain rfl := Option.some.inj H
      go_wp2_with (first | (go_at_call 10; (with_reducible refine (taps_Apportion.calls _ _ l0 t173 t174 _ ?side1 ?side2 A10.out).mono ?_); (case side1 => repeat (first | exact (Kd.C_below HR0.out HB.out) | (with_reducible refine Kd.C_alloc ?_ _) | (with_reducible refine Kd.C_drewN ?_ _) | (with_reducible refine Kd.C_drew ?_))); (case side2 => exact HC0.out); rintro e w37 ⟨v175, rfl, ho0, hb⟩; have n0_ := Aside0.mk (Kd.R_lower ho0 (below_size (by repeat (first | (with_reducible first | exact HB.out | apply below_alloc | apply pw_below_drewN | apply below_drew1) | exact HB.out)))); have n1_ := Aside0.mk (below_step (by repeat (first | (with_reducible first | exact HB.out | apply below_alloc | apply pw_below_drewN | apply below_drew1) | exact HB.out)) hb); clear HB; have HO176 := n0_; have HB := n1_; clear n0_ n1_; (try clear hb); (try clear hb2); (try clear hk); (try clear hi); (try clear ho0); obtain ⟨Ao38, co38, eo38⟩ := Kd.R_slice HO176.out; subst eo38))
      repeat (go_quiet (first | (go_at_call 10; (with_reducible refine (taps_Apportion.calls _ _ l0 t173 t174 _ ?side1 ?side2 A10.out).mono ?_); (case side1 => repeat (first | exact (Kd.C_below HR0.out HB.out) | (with_reducible refine Kd.C_alloc ?_ _) | (with_reducible refine Kd.C_drewN ?_ _) | (with_reducible refine Kd.C_drew ?_))); (case side2 => exact HC0.out); rintro e w37 ⟨v175, rfl, ho0, hb⟩; have n0_ := Aside0.mk (Kd.R_lower ho0 (below_size (by repeat (first | (with_reducible first | exact HB.out | apply below_alloc | apply pw_below_drewN | apply below_drew1) | exact HB.out)))); have n1_ := Aside0.mk (below_step (by repeat (first | (with_reducible first | exact HB.out | apply below_alloc | apply pw_below_drewN | apply below_drew1) | exact HB.out)) hb); clear HB; have HO176 := n0_; have HB := n1_; clear n0_ n1_; (try clear hb); (try clear hb2); (try clear hk); (try clear hi); (try clear ho0); obtain ⟨Ao38, co38, eo38⟩ := Kd.R_slice HO176.out; subst eo38)); try go_wp2_with (first | (go_at_call 10; (with_reducible refine (taps_Apportion.calls _ _ l0 t173 t174 _ ?side1 ?side2 A10.out).mono ?_); (case side1 => repeat (first | exact (Kd.C_below HR0.out HB.out) | (with_reducible refine Kd.C_alloc ?_ _) | (with_reducible refine Kd.C_drewN ?_ _) | (with_reducible refine Kd.C_drew ?_))); (case side2 => exact HC0.out); rintro e w37 ⟨v175, rfl, ho0, hb⟩; have n0_ := Aside0.mk (Kd.R_lower ho0 (below_size (by repeat (first | (with_reducible first | exact HB.out | apply below_alloc | apply pw_below_drewN | apply below_drew1) | exact HB.out)))); have n1_ := Aside0.mk (below_step (by repeat (first | (with_reducible first | exact HB.out | apply below_alloc | apply pw_below_drewN | apply below_drew1) | exact HB.out)) hb); clear HB; have HO176 := n0_; have HB := n1_; clear n0_ n1_; (try clear hb); (try clear hb2); (try clear hk); (try clear hi); (try clear ho0); obtain ⟨Ao38, co38, eo38⟩ := Kd.R_slice HO176.out; subst eo38)))
      go_ret
      exact ⟨by first | rfl | (simp [errW_none, errW_some] <;> rfl) | (simp [*, errW_none, errW_some] <;> rfl), by repeat (first | (with_reducible first | exact HB.out | apply below_alloc | apply pw_below_drewN | apply below_drew1) | exact HB.out)⟩
    ·rw [if_neg c11] at H
     have c11b0 : (t174 == 0) = false := beq_eq_false_iff_ne.mpr c11
     have c11b1 : (t174 != 0) = true := bne_iff_ne.mpr c11
     obtain rfl := Option.some.inj H
     go_wp2_with (first | (go_at_call 10; (with_reducible refine (taps_Apportion.calls _ _ l0 t173 t174 _ ?side1 ?side2 A10.out).mono ?_); (case side1 => repeat (first | exact (Kd.C_below HR0.out HB.out) | (with_reducible refine Kd.C_alloc ?_ _) | (with_reducible refine Kd.C_drewN ?_ _) | (with_reducible refine Kd.C_drew ?_))); (case side2 => exact HC0.out); rintro e w39 ⟨v175, rfl, ho0, hb⟩; have n0_ := Aside0.mk (Kd.R_lower ho0 (below_size (by repeat (first | (with_reducible first | exact HB.out | apply below_alloc | apply pw_below_drewN | apply below_drew1) | exact HB.out)))); have n1_ := Aside0.mk (below_step (by repeat (first | (with_reducible first | exact HB.out | apply below_alloc | apply pw_below_drewN | apply below_drew1) | exact HB.out)) hb); clear HB; have HO176 := n0_; have HB := n1_; clear n0_ n1_; (try clear hb); (try clear hb2); (try clear hk); (try clear hi); (try clear ho0); obtain ⟨Ao40, co40, eo40⟩ := Kd.R_slice HO176.out; subst eo40))
     repeat (go_quiet (first | (go_at_call 10; (with_reducible refine (taps_Apportion.calls _ _ l0 t173 t174 _ ?side1 ?side2 A10.out).mono ?_); (case side1 => repeat (first | exact (Kd.C_below HR0.out HB.out) | (with_reducible refine Kd.C_alloc ?_ _) | (with_reducible refine Kd.C_drewN ?_ _) | (with_reducible refine Kd.C_drew ?_))); (case side2 => exact HC0.out); rintro e w39 ⟨v175, rfl, ho0, hb⟩; have n0_ := Aside0.mk (Kd.R_lower ho0 (below_size (by repeat (first | (with_reducible first | exact HB.out | apply below_alloc | apply pw_below_drewN | apply below_drew1) | exact HB.out)))); have n1_ := Aside0.mk (below_step (by repeat (first | (with_reducible first | exact HB.out | apply below_alloc | apply pw_below_drewN | apply below_drew1) | exact HB.out)) hb); clear HB; have HO176 := n0_; have HB := n1_; clear n0_ n1_; (try clear hb); (try clear hb2); (try clear hk); (try clear hi); (try clear ho0); obtain ⟨Ao40, co40, eo40⟩ := Kd.R_slice HO176.out; subst eo40)); try go_wp2_with (first | (go_at_call 10; (with_reducible refine (taps_Apportion.calls _ _ l0 t173 t174 _ ?side1 ?side2 A10.out).mono ?_); (case side1 => repeat (first | exact (Kd.C_below HR0.out HB.out) | (with_reducible refine Kd.C_alloc ?_ _) | (with_reducible refine Kd.C_drewN ?_ _) | (with_reducible refine Kd.C_drew ?_))); (case side2 => exact HC0.out); rintro e w39 ⟨v175, rfl, ho0, hb⟩; have n0_ := Aside0.mk (Kd.R_lower ho0 (below_size (by repeat (first | (with_reducible first | exact HB.out | apply below_alloc | apply pw_below_drewN | apply below_drew1) | exact HB.out)))); have n1_ := Aside0.mk (below_step (by repeat (first | (with_reducible first | exact HB.out | apply below_alloc | apply pw_below_drewN | apply below_drew1) | exact HB.out)) hb); clear HB; have HO176 := n0_; have HB := n1_; clear n0_ n1_; (try clear hb); (try clear hb2); (try clear hk); (try clear hi); (try clear ho0); obtain ⟨Ao40, co40, eo40⟩ := Kd.R_slice HO176.out; subst eo40)))
     go_ret
     exact ⟨by first | rfl | (simp [errW_none, errW_some] <;> rfl) | (simp [*, errW_none, errW_some] <;> rfl), by repeat (first | (with_reducible first | exact HB.out | apply below_alloc | apply pw_below_drewN | apply below_drew1) | exact HB.out)⟩

/-- THE ONE PURE STATEMENT of smaltolaw06_TapsSum: yours. -/
def smaltolaw06_TapsSum.Pure : Prop := ∀ (l0 : List Int), l0.length ≤ maxLen → l0.length * 8 ≤ 140737488351232 → (∀ x ∈ l0, (Lit.int .i64 x).wf = true) → ∃ k, smaltolaw06_TapsSum.f k l0 = some true
theorem smaltolaw06_TapsSum.walk (P : smaltolaw06_TapsSum.Pure) (a0 : Option Addr) (len0 cap0 : Nat) (z0 : List Int) (w : World) (w0 : (a0 = none ∧ len0 = 0 ∧ cap0 = 0 ∧ z0 = []) ∨ ∃ x, a0 = some x ∧ len0 ≤ cap0 ∧ cap0 ≤ maxLen ∧ z0.length = cap0 ∧ (∀ i, i < z0.length → w.cell? (x.add i) = some (.int .i64 (z0.getD i 0))) ∧ ∀ n ∈ z0, (Lit.int .i64 n).wf = true) (y0 : len0 * 8 ≤ 140737488351232) :
  Calls Try.prog 4 #[.slice a0 len0 cap0] w fun e w' => e = .returned (.bool true) ∧ Below w.heap.size w w' := by
 obtain ⟨l0, rfl, hr0, hm0, hw0, hc0⟩ := ReadsInt.ofRowC w0
 obtain ⟨k, h⟩ := P l0 hm0 y0 hw0
 refine (smaltolaw06_TapsSum.calls k _ _ l0 true w (Kd.C_of_reads (d := (0 : Int)) (h1 := fun _ => rfl) hr0) hc0 h).mono ?_
 rintro e w' ⟨rfl, hd⟩
 exact ⟨rfl, hd⟩

end Go.Proofs.Ytabojpnelbmifaa.QA
