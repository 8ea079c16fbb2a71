-- Written by wip/tools/pp.py over the kit's print.py; not trusted: Lean checks it.
import Derived.Test.YtbbheemfjfkagaaDoorQAx0
import Derived.Test.YtbbheemfjfkagaaDoorQAx12
namespace Go.Proofs.YtbbheemfjfkagaaDoor.QA
open Go.Proofs.YtbbheemfjfkagaaDoor.T
open Go.RowKit Go.Proofs.YtbbheemfjfkagaaDoorW.PrintWords Go.Proofs.YtbbheemfjfkagaaDoorW.PrintLast Go.Proofs.YtbbheemfjfkagaaDoorW.PrintMore
attribute [local go_sem] ext_call max2_int min2_int max_two min_two max_three min_three max_four min_four   -- for this text's walks alone
set_option linter.unusedVariables false
set_option linter.unusedSimpArgs false

/-! ### smaltoref05_Keys: function 6 -/
mutual
def smaltoref05_Keys.j0 : Nat → Int → Int → Bool → Option (Int)
 | 0, _, _, _ => none
 | k + 1, x0, x1, x14 => if x14 = true then (some 0) else (if x0 ≥ (wrap64 (2 * x1)) then (smaltoref05_Keys.j1 k x0 x1 true) else (smaltoref05_Keys.j1 k x0 x1 (decide (x0 ≤ (wrap64 ((-2) * x1))))))
def smaltoref05_Keys.j1 : Nat → Int → Int → Bool → Option (Int)
 | 0, _, _, _ => none
 | k + 1, x0, x1, x24 => if x24 = true then (some 0) else (if x0 < 0 then (smaltoref05_Keys.j2 k (wrap64 (-x0)) x1) else (smaltoref05_Keys.j2 k x0 x1))
def smaltoref05_Keys.j2 : Nat → Int → Int → Option (Int)
 | 0, _, _ => none
 | k + 1, x0, x1 => if x0 < x1 then ((smaltoref02_MulDiv.f k (wrap64 ((wrap64 ((wrap64 (3 * (wrap64 ((wrap64 (x0 * x0)) * x0)))) - (wrap64 ((wrap64 (5 * (wrap64 (x0 * x0)))) * x1)))) + (wrap64 (2 * (wrap64 ((wrap64 (x1 * x1)) * x1)))))) 1073741824 (wrap64 (2 * (wrap64 ((wrap64 (x1 * x1)) * x1))))).bind fun t227 => (some t227)) else ((smaltoref02_MulDiv.f k (wrap64 ((wrap64 ((wrap64 ((wrap64 ((wrap64 (5 * (wrap64 (x0 * x0)))) * x1)) - (wrap64 ((wrap64 (x0 * x0)) * x0)))) - (wrap64 ((wrap64 (8 * x0)) * (wrap64 (x1 * x1)))))) + (wrap64 (4 * (wrap64 ((wrap64 (x1 * x1)) * x1)))))) 1073741824 (wrap64 (2 * (wrap64 ((wrap64 (x1 * x1)) * x1))))).bind fun t228 => (some t228))
end
def smaltoref05_Keys.f (k : Nat) (a0 : Int) (a1 : Int) : Option (Int) := if a1 < 1 then (smaltoref05_Keys.j0 k a0 a1 true) else (smaltoref05_Keys.j0 k a0 a1 (decide (a1 > 262144)))
theorem smaltoref05_Keys.mono_l : ∀ k, (∀ y0 y1 y2, LeO (smaltoref05_Keys.j0 k y0 y1 y2) (smaltoref05_Keys.j0 (k + 1) y0 y1 y2)) ∧ (∀ y0 y1 y2, LeO (smaltoref05_Keys.j1 k y0 y1 y2) (smaltoref05_Keys.j1 (k + 1) y0 y1 y2)) ∧ (∀ y0 y1, LeO (smaltoref05_Keys.j2 k y0 y1) (smaltoref05_Keys.j2 (k + 1) y0 y1))
 | 0 => ⟨fun _ _ _ r h => by simp [smaltoref05_Keys.j0] at h, fun _ _ _ r h => by simp [smaltoref05_Keys.j1] at h, fun _ _ r h => by simp [smaltoref05_Keys.j2] at h⟩
 | k + 1 => by
  obtain ⟨ih0, ih1, ih2⟩ := smaltoref05_Keys.mono_l k
  refine ⟨?_, ?_, ?_⟩
  ·intro y0 y1 y2
   unfold smaltoref05_Keys.j0
   repeat' first
   | (with_reducible exact ih0 _ _ _)
   | (with_reducible exact ih1 _ _ _)
   | (with_reducible exact ih2 _ _)
   | (with_reducible exact smaltoref02_MulDiv.mono _ _ _ _)
   | (with_reducible exact LeO.refl _)
   | (with_reducible exact LeO.none _)
   | (with_reducible refine LeO.ite ?_ ?_)
   | (with_reducible refine LeO.bind ?_ (fun _ => ?_))
   | exact ih0 _ _ _
   | exact ih1 _ _ _
   | exact ih2 _ _
   | exact smaltoref02_MulDiv.mono _ _ _ _
   | exact LeO.none _
   | refine LeO.ite ?_ ?_
   | refine LeO.bind ?_ (fun _ => ?_)
  ·intro y0 y1 y2
   unfold smaltoref05_Keys.j1
   repeat' first
   | (with_reducible exact ih0 _ _ _)
   | (with_reducible exact ih1 _ _ _)
   | (with_reducible exact ih2 _ _)
   | (with_reducible exact smaltoref02_MulDiv.mono _ _ _ _)
   | (with_reducible exact LeO.refl _)
   | (with_reducible exact LeO.none _)
   | (with_reducible refine LeO.ite ?_ ?_)
   | (with_reducible refine LeO.bind ?_ (fun _ => ?_))
   | exact ih0 _ _ _
   | exact ih1 _ _ _
   | exact ih2 _ _
   | exact smaltoref02_MulDiv.mono _ _ _ _
   | exact LeO.none _
   | refine LeO.ite ?_ ?_
   | refine LeO.bind ?_ (fun _ => ?_)
  ·intro y0 y1
   unfold smaltoref05_Keys.j2
   repeat' first
   | (with_reducible exact ih0 _ _ _)
   | (with_reducible exact ih1 _ _ _)
   | (with_reducible exact ih2 _ _)
   | (with_reducible exact smaltoref02_MulDiv.mono _ _ _ _)
   | (with_reducible exact LeO.refl _)
   | (with_reducible exact LeO.none _)
   | (with_reducible refine LeO.ite ?_ ?_)
   | (with_reducible refine LeO.bind ?_ (fun _ => ?_))
   | exact ih0 _ _ _
   | exact ih1 _ _ _
   | exact ih2 _ _
   | exact smaltoref02_MulDiv.mono _ _ _ _
   | exact LeO.none _
   | refine LeO.ite ?_ ?_
   | refine LeO.bind ?_ (fun _ => ?_)
theorem smaltoref05_Keys.mono : ∀ a0 a1 k, LeO (smaltoref05_Keys.f k a0 a1) (smaltoref05_Keys.f (k + 1) a0 a1) := by
 intro a0 a1 k
 obtain ⟨ih0, ih1, ih2⟩ := smaltoref05_Keys.mono_l k
 unfold smaltoref05_Keys.f
 repeat' first
   | (with_reducible exact ih0 _ _ _)
   | (with_reducible exact ih1 _ _ _)
   | (with_reducible exact ih2 _ _)
   | (with_reducible exact smaltoref02_MulDiv.mono _ _ _ _)
   | (with_reducible exact LeO.refl _)
   | (with_reducible exact LeO.none _)
   | (with_reducible refine LeO.ite ?_ ?_)
   | (with_reducible refine LeO.bind ?_ (fun _ => ?_))
   | exact ih0 _ _ _
   | exact ih1 _ _ _
   | exact ih2 _ _
   | exact smaltoref02_MulDiv.mono _ _ _ _
   | exact LeO.none _
   | refine LeO.ite ?_ ?_
   | refine LeO.bind ?_ (fun _ => ?_)
set_option maxHeartbeats 8000000 in
set_option maxRecDepth 100000 in
theorem smaltoref05_Keys.calls (k : Nat) (a0 : Int) (a1 : Int) (r : Int) (w : World) (h : smaltoref05_Keys.f k a0 a1 = some r) :
  Calls Tryd.prog 6 #[.int .i64 a0, .int .i64 a1] w fun e w' => e = .returned (.int .i64 r) ∧ Below w.heap.size w w' := by
 have HB := Aside0.mk (Below.refl w.heap.size w)
 have H : (if a1 < 1 then (smaltoref05_Keys.j0 k a0 a1 true) else (smaltoref05_Keys.j0 k a0 a1 (decide (a1 > 262144)))) = some r := h
 clear h
 have HC3 := Aside0.mk H
 clear H
 go_enter Tryd.func6, Tryd.ntmps6
 go_upto_region 1 with (fail)
 go_cut [14] (fun v14 wc => ∃ (kq : Nat) (x14_2 : Bool), v14 = .bool x14_2 ∧ Aside0 (smaltoref05_Keys.j0 kq a0 a1 x14_2 = some r) ∧ Aside0 (kq ≤ k) ∧ Aside0 (Below w.heap.size w wc))
 case first =>
  have H := HC3.out
  clear HC3
  by_cases c4 : a1 < 1
  ·rw [if_pos c4] at H
   have c4b0 : decide (a1 < 1) = true := decide_eq_true c4
   clear c4
   (first | rw [c4b0] | (simp only [i64_w, i32_w]; rw [c4b0]) | skip)
   have H' := Aside0.mk H
   clear H
   go_wp2
   go_meet
   case rel => exact ⟨_, (true), (by first | rfl | (simp; done) | (simp [*]; done)), H', ⟨by first | omega | exact Nat.le_refl _⟩, ⟨by repeat (first | (with_reducible first | exact HB.out | apply below_alloc | apply pw_below_drewN | apply below_drew1) | exact HB.out)⟩⟩
  ·rw [if_neg c4] at H
   have c4b0 : decide (a1 < 1) = false := decide_eq_false c4
   clear c4
   (first | rw [c4b0] | (simp only [i64_w, i32_w]; rw [c4b0]) | skip)
   have H' := Aside0.mk H
   clear H
   go_wp2
   go_meet
   case rel => exact ⟨_, (decide (a1 > 262144)), (by first | rfl | (simp; done) | (simp [*]; done)), H', ⟨by first | omega | exact Nat.le_refl _⟩, ⟨by repeat (first | (with_reducible first | exact HB.out | apply below_alloc | apply pw_below_drewN | apply below_drew1) | exact HB.out)⟩⟩
 case rest =>
  clear HC3
  try clear p2
  try clear c4
  try clear c4b0
  obtain ⟨kq, x14_2, rfl, HA, HJ2, HB⟩ := hcut
  cases kq with
  | zero => exact absurd HA.out (by simp [smaltoref05_Keys.j0])
  | succ kj2 =>
   have H := HA.out
   clear HA
   simp only [smaltoref05_Keys.j0] at H
   by_cases c5 : x14_2 = true
   ·subst c5
    have H1 : (some 0) = some r := by rw [if_pos rfl] at H; exact H
    clear H
    have H := H1
    clear H1
    obtain rfl := Option.some.inj H
    go_wp2
    go_ret
    exact ⟨by first | rfl | (simp [errW_none, errW_some] <;> rfl) | (simp [*, errW_none, errW_some] <;> rfl), by repeat (first | (with_reducible first | exact HB.out | apply below_alloc | apply pw_below_drewN | apply below_drew1) | exact HB.out)⟩
   ·replace c5 := Bool.eq_false_iff.mpr c5
    subst c5
    have H1 : (if a0 ≥ (wrap64 (2 * a1)) then (smaltoref05_Keys.j1 kj2 a0 a1 true) else (smaltoref05_Keys.j1 kj2 a0 a1 (decide (a0 ≤ (wrap64 ((-2) * a1)))))) = some r := by rw [if_neg (show ¬ (false = true) by decide)] at H; exact H
    clear H
    have H := H1
    clear H1
    have HC6 := Aside0.mk H
    clear H
    go_upto_region 3 with (fail)
    go_cut [24] (fun v24 wc => ∃ (kq : Nat) (x24_5 : Bool), v24 = .bool x24_5 ∧ Aside0 (smaltoref05_Keys.j1 kq a0 a1 x24_5 = some r) ∧ Aside0 (kq ≤ kj2) ∧ Aside0 (Below w.heap.size w wc))
    case first =>
     have H := HC6.out
     clear HC6
     by_cases c7 : a0 ≥ (wrap64 (2 * a1))
     ·rw [if_pos c7] at H
      have c7b0 : decide ((wrap64 (2 * a1)) ≤ a0) = true := decide_eq_true c7
      clear c7
      (first | rw [c7b0] | (simp only [i64_w, i32_w]; rw [c7b0]) | skip)
      have H' := Aside0.mk H
      clear H
      go_wp2
      go_meet
      case rel => exact ⟨_, (true), (by first | rfl | (simp; done) | (simp [*]; done)), H', ⟨by have := HJ2.out; first | omega | exact Nat.le_refl _⟩, ⟨by repeat (first | (with_reducible first | exact HB.out | apply below_alloc | apply pw_below_drewN | apply below_drew1) | exact HB.out)⟩⟩
     ·rw [if_neg c7] at H
      have c7b0 : decide ((wrap64 (2 * a1)) ≤ a0) = false := decide_eq_false c7
      clear c7
      (first | rw [c7b0] | (simp only [i64_w, i32_w]; rw [c7b0]) | skip)
      have H' := Aside0.mk H
      clear H
      go_wp2
      go_meet
      case rel => exact ⟨_, (decide (a0 ≤ (wrap64 ((-2) * a1)))), (by first | rfl | (simp; done) | (simp [*]; done)), H', ⟨by have := HJ2.out; first | omega | exact Nat.le_refl _⟩, ⟨by repeat (first | (with_reducible first | exact HB.out | apply below_alloc | apply pw_below_drewN | apply below_drew1) | exact HB.out)⟩⟩
    case rest =>
     clear HC6
     try clear p2
     try clear c4
     try clear c4b0
     try clear c5
     try clear c6
     try clear p6
     try clear c7
     try clear c7b0
     try clear p2
     obtain ⟨kq, x24_5, rfl, HA, HJ5, HB⟩ := hcut
     cases kq with
     | zero => exact absurd HA.out (by simp [smaltoref05_Keys.j1])
     | succ kj5 =>
      have H := HA.out
      clear HA
      simp only [smaltoref05_Keys.j1] at H
      by_cases c8 : x24_5 = true
      ·subst c8
       have H1 : (some 0) = some r := by rw [if_pos rfl] at H; exact H
       clear H
       have H := H1
       clear H1
       obtain rfl := Option.some.inj H
       go_wp2
       go_ret
       exact ⟨by first | rfl | (simp [errW_none, errW_some] <;> rfl) | (simp [*, errW_none, errW_some] <;> rfl), by repeat (first | (with_reducible first | exact HB.out | apply below_alloc | apply pw_below_drewN | apply below_drew1) | exact HB.out)⟩
      ·replace c8 := Bool.eq_false_iff.mpr c8
       subst c8
       have H1 : (if a0 < 0 then (smaltoref05_Keys.j2 kj5 (wrap64 (-a0)) a1) else (smaltoref05_Keys.j2 kj5 a0 a1)) = some r := by rw [if_neg (show ¬ (false = true) by decide)] at H; exact H
       clear H
       have H := H1
       clear H1
       have HC9 := Aside0.mk H
       clear H
       go_upto_if 26 with (fail)
       go_cut [0] (fun v0 wc => ∃ (kq : Nat) (x0_8 : Int), v0 = .int .i64 x0_8 ∧ Aside0 (smaltoref05_Keys.j2 kq x0_8 a1 = some r) ∧ Aside0 (kq ≤ kj5) ∧ Aside0 (Below w.heap.size w wc))
       case first =>
        have H := HC9.out
        clear HC9
        by_cases c10 : a0 < 0
        ·rw [if_pos c10] at H
         have c10b0 : decide (a0 < 0) = true := decide_eq_true c10
         clear c10
         (first | rw [c10b0] | (simp only [i64_w, i32_w]; rw [c10b0]) | skip)
         have H' := Aside0.mk H
         clear H
         go_wp2
         go_meet
         case rel => exact ⟨_, (wrap64 (-a0)), (by first | rfl | (simp; done) | (simp [*]; done)), H', ⟨by have := HJ2.out; have := HJ5.out; first | omega | exact Nat.le_refl _⟩, ⟨by repeat (first | (with_reducible first | exact HB.out | apply below_alloc | apply pw_below_drewN | apply below_drew1) | exact HB.out)⟩⟩
        ·rw [if_neg c10] at H
         have c10b0 : decide (a0 < 0) = false := decide_eq_false c10
         clear c10
         (first | rw [c10b0] | (simp only [i64_w, i32_w]; rw [c10b0]) | skip)
         have H' := Aside0.mk H
         clear H
         go_wp2
         go_meet
         case rel => exact ⟨_, (a0), (by first | rfl | (simp; done) | (simp [*]; done)), H', ⟨by have := HJ2.out; have := HJ5.out; first | omega | exact Nat.le_refl _⟩, ⟨by repeat (first | (with_reducible first | exact HB.out | apply below_alloc | apply pw_below_drewN | apply below_drew1) | exact HB.out)⟩⟩
       case rest =>
        clear HC9
        try clear c1
        try clear p2
        try clear c4
        try clear c4b0
        try clear c5
        try clear c6
        try clear p6
        try clear c7
        try clear c7b0
        try clear c8
        try clear c10
        try clear c10b0
        try clear p2
        try clear p6
        obtain ⟨kq, x0_8, rfl, HA, HJ8, HB⟩ := hcut
        cases kq with
        | zero => exact absurd HA.out (by simp [smaltoref05_Keys.j2])
        | succ kj8 =>
         have H := HA.out
         clear HA
         simp only [smaltoref05_Keys.j2] at H
         by_cases c11 : x0_8 < a1
         ·rw [if_pos c11] at H
          have c11b0 : decide (x0_8 < a1) = true := decide_eq_true c11
          clear c11
          replace H := Option.bind_eq_some_iff.mp H
          obtain ⟨t227, A120, H⟩ := H
          replace H : (some t227) = some r := H
          have A12 := Aside0.mk A120
          clear A120
          obtain rfl := Option.some.inj H
          go_wp2_with (first | ((with_reducible refine gate_callee (f := 10) rfl ?_); refine goesL_ (some 56) rfl rfl Tryd.func10 (by kernel_rfl) rfl #[.int .i64 (wrap64 ((wrap64 ((wrap64 (3 * (wrap64 ((wrap64 (x0_8 * x0_8)) * x0_8)))) - (wrap64 ((wrap64 (5 * (wrap64 (x0_8 * x0_8)))) * a1)))) + (wrap64 (2 * (wrap64 ((wrap64 (a1 * a1)) * a1)))))), .int .i64 1073741824, .int .i64 (wrap64 (2 * (wrap64 ((wrap64 (a1 * a1)) * a1))))] rfl (by (try simp only [List.map_toArray, List.map_cons, List.map_nil]); first | done | rfl | (simp only [List.length_drop, List.length_take]; rfl)) ?_; (with_reducible refine (smaltoref02_MulDiv.calls kj8 (wrap64 ((wrap64 ((wrap64 (3 * (wrap64 ((wrap64 (x0_8 * x0_8)) * x0_8)))) - (wrap64 ((wrap64 (5 * (wrap64 (x0_8 * x0_8)))) * a1)))) + (wrap64 (2 * (wrap64 ((wrap64 (a1 * a1)) * a1)))))) 1073741824 (wrap64 (2 * (wrap64 ((wrap64 (a1 * a1)) * a1)))) t227 _ A12.out).mono ?_); rintro e w13 ⟨rfl, hb⟩; refine ⟨_, rfl, ?_⟩; have n0_ := Aside0.mk (below_step (by repeat (first | (with_reducible first | exact HB.out | apply below_alloc | apply pw_below_drewN | apply below_drew1) | exact HB.out)) hb); clear HB; have HB := n0_; clear n0_; (try clear hb); (try clear hb2); (try clear hk); (try clear hi)))
          go_ret
          exact ⟨by first | rfl | (simp [errW_none, errW_some] <;> rfl) | (simp [*, errW_none, errW_some] <;> rfl), by repeat (first | (with_reducible first | exact HB.out | apply below_alloc | apply pw_below_drewN | apply below_drew1) | exact HB.out)⟩
         ·rw [if_neg c11] at H
          have c11b0 : decide (x0_8 < a1) = false := decide_eq_false c11
          clear c11
          replace H := Option.bind_eq_some_iff.mp H
          obtain ⟨t228, A140, H⟩ := H
          replace H : (some t228) = some r := H
          have A14 := Aside0.mk A140
          clear A140
          obtain rfl := Option.some.inj H
          go_wp2_with (first | ((with_reducible refine gate_callee (f := 10) rfl ?_); refine goesL_ (some 73) rfl rfl Tryd.func10 (by kernel_rfl) rfl #[.int .i64 (wrap64 ((wrap64 ((wrap64 ((wrap64 ((wrap64 (5 * (wrap64 (x0_8 * x0_8)))) * a1)) - (wrap64 ((wrap64 (x0_8 * x0_8)) * x0_8)))) - (wrap64 ((wrap64 (8 * x0_8)) * (wrap64 (a1 * a1)))))) + (wrap64 (4 * (wrap64 ((wrap64 (a1 * a1)) * a1)))))), .int .i64 1073741824, .int .i64 (wrap64 (2 * (wrap64 ((wrap64 (a1 * a1)) * a1))))] rfl (by (try simp only [List.map_toArray, List.map_cons, List.map_nil]); first | done | rfl | (simp only [List.length_drop, List.length_take]; rfl)) ?_; (with_reducible refine (smaltoref02_MulDiv.calls kj8 (wrap64 ((wrap64 ((wrap64 ((wrap64 ((wrap64 (5 * (wrap64 (x0_8 * x0_8)))) * a1)) - (wrap64 ((wrap64 (x0_8 * x0_8)) * x0_8)))) - (wrap64 ((wrap64 (8 * x0_8)) * (wrap64 (a1 * a1)))))) + (wrap64 (4 * (wrap64 ((wrap64 (a1 * a1)) * a1)))))) 1073741824 (wrap64 (2 * (wrap64 ((wrap64 (a1 * a1)) * a1)))) t228 _ A14.out).mono ?_); rintro e w15 ⟨rfl, hb⟩; refine ⟨_, rfl, ?_⟩; have n0_ := Aside0.mk (below_step (by repeat (first | (with_reducible first | exact HB.out | apply below_alloc | apply pw_below_drewN | apply below_drew1) | exact HB.out)) hb); clear HB; have HB := n0_; clear n0_; (try clear hb); (try clear hb2); (try clear hk); (try clear hi)))
          go_ret
          exact ⟨by first | rfl | (simp [errW_none, errW_some] <;> rfl) | (simp [*, errW_none, errW_some] <;> rfl), by repeat (first | (with_reducible first | exact HB.out | apply below_alloc | apply pw_below_drewN | apply below_drew1) | exact HB.out)⟩

-- NOT PRINTED: function 11 (math_Float64frombits)

-- NOT PRINTED: function 12 (math_Float64bits)

-- NOT PRINTED: function 7 (math_Abs)

-- NOT PRINTED: function 3 (smaltolaw05_RawKeys)

end Go.Proofs.YtbbheemfjfkagaaDoor.QA
