-- Written by wip/tools/pp.py over the kit's print.py; not trusted: Lean checks it.
import Derived.Test.YtbkbgpileogehaaDoorQRx0
import Derived.Test.YtbkbgpileogehaaDoorQRx13
namespace Go.Proofs.YtbkbgpileogehaaDoor.QR
open Go.Proofs.YtbkbgpileogehaaDoor.T
open Go.RowKit Go.Proofs.YtbkbgpileogehaaDoorW.PrintWords Go.Proofs.YtbkbgpileogehaaDoorW.PrintLast Go.Proofs.YtbkbgpileogehaaDoorW.PrintMore
attribute [local go_sem] ext_call max2_int min2_int max_two min_two max_three min_three max_four min_four   -- for this text's walks alone
set_option linter.unusedVariables false
set_option linter.unusedSimpArgs false

/-! ### smaltoref04_Series: function 68 -/
mutual
def smaltoref04_Series.j0 : Nat → Int → Int → Option (Int)
 | 0, _, _ => none
 | k + 1, x0, x1 => (smaltoref02_MulDiv.f k 10851744800547 x0 x1).bind fun t247 => ((smaltoref02_MulDiv.f k t247 x0 x1).bind fun t248 => (smaltoref04_Series.l0 k t248 1099511627776 0 1099511627776 1))
def smaltoref04_Series.l0 : Nat → Int → Int → Int → Int → Int → Option (Int)
 | 0, _, _, _, _, _ => none
 | k + 1, x6, x7, x8, x9, x10 => if x10 ≤ 30 then ((smaltoref02_MulDiv.f k x9 x6 (wrap64 ((wrap64 ((wrap64 (2 * x10)) * (wrap64 ((wrap64 (2 * x10)) + 1)))) * 1099511627776))).bind fun t249 => (if (Int.tmod x10 2) = 1 then (smaltoref04_Series.l0 k x6 x7 (wrap64 (x8 + t249)) t249 (wrap64 (x10 + 1))) else (smaltoref04_Series.l0 k x6 (wrap64 (x7 + t249)) x8 t249 (wrap64 (x10 + 1))))) else (some (wrap64 (x7 - x8)))
end
def smaltoref04_Series.f (k : Nat) (a0 : Int) (a1 : Int) : Option (Int) := if a0 < 0 then (smaltoref04_Series.j0 k (wrap64 (-a0)) a1) else (smaltoref04_Series.j0 k a0 a1)
theorem smaltoref04_Series.mono_l : ∀ k, (∀ y0 y1, LeO (smaltoref04_Series.j0 k y0 y1) (smaltoref04_Series.j0 (k + 1) y0 y1)) ∧ (∀ y0 y1 y2 y3 y4, LeO (smaltoref04_Series.l0 k y0 y1 y2 y3 y4) (smaltoref04_Series.l0 (k + 1) y0 y1 y2 y3 y4))
 | 0 => ⟨fun _ _ r h => by simp [smaltoref04_Series.j0] at h, fun _ _ _ _ _ r h => by simp [smaltoref04_Series.l0] at h⟩
 | k + 1 => by
  obtain ⟨ih0, ih1⟩ := smaltoref04_Series.mono_l k
  refine ⟨?_, ?_⟩
  ·intro y0 y1
   unfold smaltoref04_Series.j0
   repeat' first
   | (with_reducible exact ih0 _ _)
   | (with_reducible exact ih1 _ _ _ _ _)
   | (with_reducible exact smaltoref02_MulDiv.mono _ _ _ _)
   | (with_reducible exact LeO.refl _)
   | (with_reducible exact LeO.none _)
   | (with_reducible refine LeO.ite ?_ ?_)
   | (with_reducible refine LeO.bind ?_ (fun _ => ?_))
   | exact ih0 _ _
   | exact ih1 _ _ _ _ _
   | exact smaltoref02_MulDiv.mono _ _ _ _
   | exact LeO.none _
   | refine LeO.ite ?_ ?_
   | refine LeO.bind ?_ (fun _ => ?_)
  ·intro y0 y1 y2 y3 y4
   unfold smaltoref04_Series.l0
   repeat' first
   | (with_reducible exact ih0 _ _)
   | (with_reducible exact ih1 _ _ _ _ _)
   | (with_reducible exact smaltoref02_MulDiv.mono _ _ _ _)
   | (with_reducible exact LeO.refl _)
   | (with_reducible exact LeO.none _)
   | (with_reducible refine LeO.ite ?_ ?_)
   | (with_reducible refine LeO.bind ?_ (fun _ => ?_))
   | exact ih0 _ _
   | exact ih1 _ _ _ _ _
   | exact smaltoref02_MulDiv.mono _ _ _ _
   | exact LeO.none _
   | refine LeO.ite ?_ ?_
   | refine LeO.bind ?_ (fun _ => ?_)
theorem smaltoref04_Series.mono : ∀ a0 a1 k, LeO (smaltoref04_Series.f k a0 a1) (smaltoref04_Series.f (k + 1) a0 a1) := by
 intro a0 a1 k
 obtain ⟨ih0, ih1⟩ := smaltoref04_Series.mono_l k
 unfold smaltoref04_Series.f
 repeat' first
   | (with_reducible exact ih0 _ _)
   | (with_reducible exact ih1 _ _ _ _ _)
   | (with_reducible exact smaltoref02_MulDiv.mono _ _ _ _)
   | (with_reducible exact LeO.refl _)
   | (with_reducible exact LeO.none _)
   | (with_reducible refine LeO.ite ?_ ?_)
   | (with_reducible refine LeO.bind ?_ (fun _ => ?_))
   | exact ih0 _ _
   | exact ih1 _ _ _ _ _
   | exact smaltoref02_MulDiv.mono _ _ _ _
   | exact LeO.none _
   | refine LeO.ite ?_ ?_
   | refine LeO.bind ?_ (fun _ => ?_)
set_option maxHeartbeats 8000000 in
set_option maxRecDepth 100000 in
theorem smaltoref04_Series.calls (k : Nat) (a0 : Int) (a1 : Int) (r : Int) (w : World) (h : smaltoref04_Series.f k a0 a1 = some r) :
  Calls Tryd.prog 68 #[.int .i64 a0, .int .i64 a1] w fun e w' => e = .returned (.int .i64 r) ∧ Below w.heap.size w w' := by
 have HB := Aside0.mk (Below.refl w.heap.size w)
 have H : (if a0 < 0 then (smaltoref04_Series.j0 k (wrap64 (-a0)) a1) else (smaltoref04_Series.j0 k a0 a1)) = some r := h
 clear h
 have HC3 := Aside0.mk H
 clear H
 go_enter Tryd.func68, Tryd.ntmps68
 go_upto_if 13 with (fail)
 go_cut [0] (fun v0 wc => ∃ (kq : Nat) (x0_2 : Int), v0 = .int .i64 x0_2 ∧ Aside0 (smaltoref04_Series.j0 kq x0_2 a1 = some r) ∧ Aside0 (kq ≤ k) ∧ Aside0 (Below w.heap.size w wc))
 case first =>
  have H := HC3.out
  clear HC3
  by_cases c4 : a0 < 0
  ·rw [if_pos c4] at H
   have c4b0 : decide (a0 < 0) = true := decide_eq_true c4
   clear c4
   (first | rw [c4b0] | (simp only [i64_w, i32_w]; rw [c4b0]) | skip)
   have H' := Aside0.mk H
   clear H
   go_wp2
   go_meet
   case rel => exact ⟨_, (wrap64 (-a0)), (by first | rfl | (simp; done) | (simp [*]; done)), H', ⟨by first | omega | exact Nat.le_refl _⟩, ⟨by repeat (first | (with_reducible first | exact HB.out | apply below_alloc | apply pw_below_drewN | apply below_drew1) | exact HB.out)⟩⟩
  ·rw [if_neg c4] at H
   have c4b0 : decide (a0 < 0) = false := decide_eq_false c4
   clear c4
   (first | rw [c4b0] | (simp only [i64_w, i32_w]; rw [c4b0]) | skip)
   have H' := Aside0.mk H
   clear H
   go_wp2
   go_meet
   case rel => exact ⟨_, (a0), (by first | rfl | (simp; done) | (simp [*]; done)), H', ⟨by first | omega | exact Nat.le_refl _⟩, ⟨by repeat (first | (with_reducible first | exact HB.out | apply below_alloc | apply pw_below_drewN | apply below_drew1) | exact HB.out)⟩⟩
 case rest =>
  clear HC3
  try clear p2
  try clear c4
  try clear c4b0
  obtain ⟨kq, x0_2, rfl, HA, HJ2, HB⟩ := hcut
  cases kq with
  | zero => exact absurd HA.out (by simp [smaltoref04_Series.j0])
  | succ kj2 =>
   have H := HA.out
   clear HA
   simp only [smaltoref04_Series.j0] at H
   replace H := Option.bind_eq_some_iff.mp H
   obtain ⟨t247, A50, H⟩ := H
   replace H : ((smaltoref02_MulDiv.f kj2 t247 x0_2 a1).bind fun t248 => (smaltoref04_Series.l0 kj2 t248 1099511627776 0 1099511627776 1)) = some r := H
   have A5 := Aside0.mk A50
   clear A50
   replace H := Option.bind_eq_some_iff.mp H
   obtain ⟨t248, A60, H⟩ := H
   replace H : (smaltoref04_Series.l0 kj2 t248 1099511627776 0 1099511627776 1) = some r := H
   have A6 := Aside0.mk A60
   clear A60
   have H' := Aside0.mk H
   clear H
   go_wp2_with (first | ((with_reducible refine gate_callee (f := 29) rfl ?_); refine goesL_ (some 18) rfl rfl Tryd.func29 (by kernel_rfl) rfl #[.int .i64 10851744800547, .int .i64 x0_2, .int .i64 a1] rfl (by (try simp only [List.map_toArray, List.map_cons, List.map_nil]); first | done | rfl | (simp only [List.length_drop, List.length_take]; rfl)) ?_; (with_reducible refine (smaltoref02_MulDiv.calls kj2 10851744800547 x0_2 a1 t247 _ A5.out).mono ?_); rintro e w7 ⟨rfl, hb⟩; refine ⟨_, rfl, ?_⟩; have n0_ := Aside0.mk (below_step (by repeat (first | (with_reducible first | exact HB.out | apply below_alloc | apply pw_below_drewN | apply below_drew1) | exact HB.out)) hb); clear HB; have HB := n0_; clear n0_; (try clear hb); (try clear hb2); (try clear hk); (try clear hi)) | ((with_reducible refine gate_callee (f := 29) rfl ?_); refine goesL_ (some 22) rfl rfl Tryd.func29 (by kernel_rfl) rfl #[.int .i64 t247, .int .i64 x0_2, .int .i64 a1] rfl (by (try simp only [List.map_toArray, List.map_cons, List.map_nil]); first | done | rfl | (simp only [List.length_drop, List.length_take]; rfl)) ?_; (with_reducible refine (smaltoref02_MulDiv.calls kj2 t247 x0_2 a1 t248 _ A6.out).mono ?_); rintro e w8 ⟨rfl, hb⟩; refine ⟨_, rfl, ?_⟩; have n0_ := Aside0.mk (below_step (by repeat (first | (with_reducible first | exact HB.out | apply below_alloc | apply pw_below_drewN | apply below_drew1) | exact HB.out)) hb); clear HB; have HB := n0_; clear n0_; (try clear hb); (try clear hb2); (try clear hk); (try clear hi)))
   go_loopg [7, 8, 9, 10] kj2 (fun kq v7 v8 v9 v10 w' => ∃ (x7_2 : Int) (x8_2 : Int) (x9_2 : Int) (x10_2 : Int), v7 = .int .i64 x7_2 ∧ v8 = .int .i64 x8_2 ∧ v9 = .int .i64 x9_2 ∧ v10 = .int .i64 x10_2 ∧ Aside0 (smaltoref04_Series.l0 kq t248 x7_2 x8_2 x9_2 x10_2 = some r) ∧ Aside0 (kq ≤ kj2) ∧ Aside0 (Below w.heap.size w w'))
   case atStart => exact ⟨(1099511627776), (0), (1099511627776), (1), (by first | rfl | (simp; done) | (simp [*]; done)), (by first | rfl | (simp; done) | (simp [*]; done)), (by first | rfl | (simp; done) | (simp [*]; done)), (by first | rfl | (simp; done) | (simp [*]; done)), H', ⟨Nat.le_refl _⟩, ⟨by repeat (first | (with_reducible first | exact HB.out | apply below_alloc | apply pw_below_drewN | apply below_drew1) | exact HB.out)⟩⟩
   case round =>
    clear H'
    try clear c2
    try clear p2
    try clear c4
    try clear c4b0
    try clear c6
    try clear p6
    try clear p2
    obtain ⟨x7_2, x8_2, x9_2, x10_2, rfl, rfl, rfl, rfl, HA, HK2, HB⟩ := hrel
    cases gk with
    | zero => exact absurd HA.out (by simp [smaltoref04_Series.l0])
    | succ k2 =>
     have H := HA.out
     clear HA
     simp only [smaltoref04_Series.l0] at H
     by_cases c9 : x10_2 ≤ 30
     ·rw [if_pos c9] at H
      have c9b0 : decide (x10_2 ≤ 30) = true := decide_eq_true c9
      clear c9
      replace H := Option.bind_eq_some_iff.mp H
      obtain ⟨t249, A100, H⟩ := H
      replace H : (if (Int.tmod x10_2 2) = 1 then (smaltoref04_Series.l0 k2 t248 x7_2 (wrap64 (x8_2 + t249)) t249 (wrap64 (x10_2 + 1))) else (smaltoref04_Series.l0 k2 t248 (wrap64 (x7_2 + t249)) x8_2 t249 (wrap64 (x10_2 + 1)))) = some r := H
      have A10 := Aside0.mk A100
      clear A100
      by_cases c11 : (Int.tmod x10_2 2) = 1
      ·rw [if_pos c11] at H
       have c11b0 : ((Int.tmod x10_2 2) == 1) = true := beq_iff_eq.mpr c11
       have c11b1 : ((Int.tmod x10_2 2) != 1) = false := bne_eq_false_iff_eq.mpr c11
       clear c11
       have H' := Aside0.mk H
       clear H
       go_wp2_with (first | ((with_reducible refine gate_callee (f := 29) rfl ?_); refine goesL_ (some 37) rfl rfl Tryd.func29 (by kernel_rfl) rfl #[.int .i64 x9_2, .int .i64 t248, .int .i64 (wrap64 ((wrap64 ((wrap64 (2 * x10_2)) * (wrap64 ((wrap64 (2 * x10_2)) + 1)))) * 1099511627776))] rfl (by (try simp only [List.map_toArray, List.map_cons, List.map_nil]); first | done | rfl | (simp only [List.length_drop, List.length_take]; rfl)) ?_; (with_reducible refine (smaltoref02_MulDiv.calls k2 x9_2 t248 (wrap64 ((wrap64 ((wrap64 (2 * x10_2)) * (wrap64 ((wrap64 (2 * x10_2)) + 1)))) * 1099511627776)) t249 _ A10.out).mono ?_); rintro e w12 ⟨rfl, hb⟩; refine ⟨_, rfl, ?_⟩; have n0_ := Aside0.mk (below_step (by repeat (first | (with_reducible first | exact HB.out | apply below_alloc | apply pw_below_drewN | apply below_drew1) | exact HB.out)) hb); clear HB; have HB := n0_; clear n0_; (try clear hb); (try clear hb2); (try clear hk); (try clear hi)))
       go_roundg k2
       case measure => have := HJ2.out; have := HK2.out; omega
       case rel => exact ⟨(x7_2), (wrap64 (x8_2 + t249)), (t249), (wrap64 (x10_2 + 1)), (by first | rfl | (simp; done) | (simp [*]; done)), (by first | rfl | (simp; done) | (simp [*]; done)), (by first | rfl | (simp; done) | (simp [*]; done)), (by first | rfl | (simp; done) | (simp [*]; done)), H', ⟨by have := HJ2.out; have := HK2.out; omega⟩, ⟨by repeat (first | (with_reducible first | exact HB.out | apply below_alloc | apply pw_below_drewN | apply below_drew1) | exact HB.out)⟩⟩
      ·rw [if_neg c11] at H
       have c11b0 : ((Int.tmod x10_2 2) == 1) = false := beq_eq_false_iff_ne.mpr c11
       have c11b1 : ((Int.tmod x10_2 2) != 1) = true := bne_iff_ne.mpr c11
       have H' := Aside0.mk H
       clear H
       go_wp2_with (first | ((with_reducible refine gate_callee (f := 29) rfl ?_); refine goesL_ (some 37) rfl rfl Tryd.func29 (by kernel_rfl) rfl #[.int .i64 x9_2, .int .i64 t248, .int .i64 (wrap64 ((wrap64 ((wrap64 (2 * x10_2)) * (wrap64 ((wrap64 (2 * x10_2)) + 1)))) * 1099511627776))] rfl (by (try simp only [List.map_toArray, List.map_cons, List.map_nil]); first | done | rfl | (simp only [List.length_drop, List.length_take]; rfl)) ?_; (with_reducible refine (smaltoref02_MulDiv.calls k2 x9_2 t248 (wrap64 ((wrap64 ((wrap64 (2 * x10_2)) * (wrap64 ((wrap64 (2 * x10_2)) + 1)))) * 1099511627776)) t249 _ A10.out).mono ?_); rintro e w13 ⟨rfl, hb⟩; refine ⟨_, rfl, ?_⟩; have n0_ := Aside0.mk (below_step (by repeat (first | (with_reducible first | exact HB.out | apply below_alloc | apply pw_below_drewN | apply below_drew1) | exact HB.out)) hb); clear HB; have HB := n0_; clear n0_; (try clear hb); (try clear hb2); (try clear hk); (try clear hi)))
       go_roundg k2
       case measure => have := HJ2.out; have := HK2.out; omega
       case rel => exact ⟨(wrap64 (x7_2 + t249)), (x8_2), (t249), (wrap64 (x10_2 + 1)), (by first | rfl | (simp; done) | (simp [*]; done)), (by first | rfl | (simp; done) | (simp [*]; done)), (by first | rfl | (simp; done) | (simp [*]; done)), (by first | rfl | (simp; done) | (simp [*]; done)), H', ⟨by have := HJ2.out; have := HK2.out; omega⟩, ⟨by repeat (first | (with_reducible first | exact HB.out | apply below_alloc | apply pw_below_drewN | apply below_drew1) | exact HB.out)⟩⟩
     ·rw [if_neg c9] at H
      have c9b0 : decide (x10_2 ≤ 30) = false := decide_eq_false c9
      clear c9
      obtain rfl := Option.some.inj H
      go_wp2
      go_ret
      exact ⟨by first | rfl | (simp [errW_none, errW_some] <;> rfl) | (simp [*, errW_none, errW_some] <;> rfl), by repeat (first | (with_reducible first | exact HB.out | apply below_alloc | apply pw_below_drewN | apply below_drew1) | exact HB.out)⟩

end Go.Proofs.YtbkbgpileogehaaDoor.QR
