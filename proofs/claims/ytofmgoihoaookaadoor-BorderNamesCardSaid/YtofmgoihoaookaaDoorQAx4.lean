-- Written by wip/tools/pp.py over the kit's print.py; not trusted: Lean checks it.
import Derived.Test.YtofmgoihoaookaaDoorQAx0
import Derived.Test.YtofmgoihoaookaaDoorQAx2
import Derived.Test.YtofmgoihoaookaaDoorQAx3
namespace Go.Proofs.YtofmgoihoaookaaDoor.QA
open Go.Proofs.YtofmgoihoaookaaDoor.T
open Go.RowKit Go.Proofs.YtofmgoihoaookaaDoorW.PrintWords Go.Proofs.YtofmgoihoaookaaDoorW.PrintLast Go.Proofs.YtofmgoihoaookaaDoorW.PrintMore
attribute [local go_sem] max2_int min2_int max_two min_two max_three min_three max_four min_four   -- for this text's walks alone
set_option linter.unusedVariables false
set_option linter.unusedSimpArgs false

/-! ### smaltolaw07_BorderNames: function 3 -/
mutual
def smaltolaw07_BorderNames.j0 : Nat → Int → ByteArray → List ByteArray → ByteArray → Bool → Option (Bool)
 | 0, _, _, _, _, _ => none
 | k + 1, x0, x1, x5, x6, x21 => if x21 = true then (if 0 ≤ x0 then (if x0 < (x5.length : Int) then (smaltolaw07_BorderNames.j1 k x0 x1 x5 (rdOf ByteArray.empty x5 x0)) else (none)) else (none)) else (smaltolaw07_BorderNames.j1 k x0 x1 x5 x6)
def smaltolaw07_BorderNames.j1 : Nat → Int → ByteArray → List ByteArray → ByteArray → Option (Bool)
 | 0, _, _, _, _ => none
 | k + 1, x0, x1, x5, x6 => (border_Name.f x0).bind fun t115 => (if t115.toList = x6.toList then (smaltolaw07_BorderNames.l0 k x1 x5 (x5.length : Int) 0) else (some false))
def smaltolaw07_BorderNames.l0 : Nat → ByteArray → List ByteArray → Int → Int → Option (Bool)
 | 0, _, _, _, _ => none
 | k + 1, x1, x30, x31, x32 => if x32 < x31 then (if 0 ≤ x32 then (if x32 < (x30.length : Int) then ((border_Named.f (rdOf ByteArray.empty x30 x32)).bind fun bt119 => (if bt119.2 = true then (smaltolaw07_BorderNames.j3 k x1 (rdOf ByteArray.empty x30 x32) x30 x31 x32 (bt119.1 != x32)) else (smaltolaw07_BorderNames.j3 k x1 (rdOf ByteArray.empty x30 x32) x30 x31 x32 true))) else (none)) else (none)) else ((border_Named.f x1).bind fun bt116 => (if bt116.2 = true then (some false) else (some (bt116.1 == 0))))
def smaltolaw07_BorderNames.j3 : Nat → ByteArray → ByteArray → List ByteArray → Int → Int → Bool → Option (Bool)
 | 0, _, _, _, _, _, _ => none
 | k + 1, x1, x8, x30, x31, x32, x48 => if x48 = true then (some false) else (if x8.toList = x1.toList then (some true) else (smaltolaw07_BorderNames.l0 k x1 x30 x31 (wrap64 (x32 + 1))))
end
def smaltolaw07_BorderNames.f (k : Nat) (a0 : Int) (a1 : ByteArray) : Option (Bool) := (smaltolaw07_lives.f k).bind fun t110 => (if t110 = true then ((some (([(⟨#[99, 108, 97, 109, 112]⟩ : ByteArray), (⟨#[109, 105, 114, 114, 111, 114]⟩ : ByteArray), (⟨#[119, 114, 97, 112]⟩ : ByteArray)] : List ByteArray) : List ByteArray)).bind fun y111 => (if a0 ≥ 0 then (smaltolaw07_BorderNames.j0 k a0 a1 y111 (⟨#[]⟩ : ByteArray) (decide (a0 < 3))) else (smaltolaw07_BorderNames.j0 k a0 a1 y111 (⟨#[]⟩ : ByteArray) false))) else (some false))
theorem smaltolaw07_BorderNames.mono_l : ∀ k, (∀ y0 y1 y2 y3 y4, LeO (smaltolaw07_BorderNames.j0 k y0 y1 y2 y3 y4) (smaltolaw07_BorderNames.j0 (k + 1) y0 y1 y2 y3 y4)) ∧ (∀ y0 y1 y2 y3, LeO (smaltolaw07_BorderNames.j1 k y0 y1 y2 y3) (smaltolaw07_BorderNames.j1 (k + 1) y0 y1 y2 y3)) ∧ (∀ y0 y1 y2 y3, LeO (smaltolaw07_BorderNames.l0 k y0 y1 y2 y3) (smaltolaw07_BorderNames.l0 (k + 1) y0 y1 y2 y3)) ∧ (∀ y0 y1 y2 y3 y4 y5, LeO (smaltolaw07_BorderNames.j3 k y0 y1 y2 y3 y4 y5) (smaltolaw07_BorderNames.j3 (k + 1) y0 y1 y2 y3 y4 y5))
 | 0 => ⟨fun _ _ _ _ _ r h => by simp [smaltolaw07_BorderNames.j0] at h, fun _ _ _ _ r h => by simp [smaltolaw07_BorderNames.j1] at h, fun _ _ _ _ r h => by simp [smaltolaw07_BorderNames.l0] at h, fun _ _ _ _ _ _ r h => by simp [smaltolaw07_BorderNames.j3] at h⟩
 | k + 1 => by
  obtain ⟨ih0, ih1, ih2, ih3⟩ := smaltolaw07_BorderNames.mono_l k
  refine ⟨?_, ?_, ?_, ?_⟩
  ·intro y0 y1 y2 y3 y4
   unfold smaltolaw07_BorderNames.j0
   repeat' first
   | (with_reducible exact ih0 _ _ _ _ _)
   | (with_reducible exact ih1 _ _ _ _)
   | (with_reducible exact ih2 _ _ _ _)
   | (with_reducible exact ih3 _ _ _ _ _ _)
   | (with_reducible exact smaltolaw07_lives.mono _)
   | (with_reducible exact LeO.refl _)
   | (with_reducible exact LeO.none _)
   | (with_reducible refine LeO.ite ?_ ?_)
   | (with_reducible refine LeO.bind ?_ (fun _ => ?_))
   | exact ih0 _ _ _ _ _
   | exact ih1 _ _ _ _
   | exact ih2 _ _ _ _
   | exact ih3 _ _ _ _ _ _
   | exact smaltolaw07_lives.mono _
   | exact LeO.none _
   | refine LeO.ite ?_ ?_
   | refine LeO.bind ?_ (fun _ => ?_)
  ·intro y0 y1 y2 y3
   unfold smaltolaw07_BorderNames.j1
   repeat' first
   | (with_reducible exact ih0 _ _ _ _ _)
   | (with_reducible exact ih1 _ _ _ _)
   | (with_reducible exact ih2 _ _ _ _)
   | (with_reducible exact ih3 _ _ _ _ _ _)
   | (with_reducible exact smaltolaw07_lives.mono _)
   | (with_reducible exact LeO.refl _)
   | (with_reducible exact LeO.none _)
   | (with_reducible refine LeO.ite ?_ ?_)
   | (with_reducible refine LeO.bind ?_ (fun _ => ?_))
   | exact ih0 _ _ _ _ _
   | exact ih1 _ _ _ _
   | exact ih2 _ _ _ _
   | exact ih3 _ _ _ _ _ _
   | exact smaltolaw07_lives.mono _
   | exact LeO.none _
   | refine LeO.ite ?_ ?_
   | refine LeO.bind ?_ (fun _ => ?_)
  ·intro y0 y1 y2 y3
   unfold smaltolaw07_BorderNames.l0
   repeat' first
   | (with_reducible exact ih0 _ _ _ _ _)
   | (with_reducible exact ih1 _ _ _ _)
   | (with_reducible exact ih2 _ _ _ _)
   | (with_reducible exact ih3 _ _ _ _ _ _)
   | (with_reducible exact smaltolaw07_lives.mono _)
   | (with_reducible exact LeO.refl _)
   | (with_reducible exact LeO.none _)
   | (with_reducible refine LeO.ite ?_ ?_)
   | (with_reducible refine LeO.bind ?_ (fun _ => ?_))
   | exact ih0 _ _ _ _ _
   | exact ih1 _ _ _ _
   | exact ih2 _ _ _ _
   | exact ih3 _ _ _ _ _ _
   | exact smaltolaw07_lives.mono _
   | exact LeO.none _
   | refine LeO.ite ?_ ?_
   | refine LeO.bind ?_ (fun _ => ?_)
  ·intro y0 y1 y2 y3 y4 y5
   unfold smaltolaw07_BorderNames.j3
   repeat' first
   | (with_reducible exact ih0 _ _ _ _ _)
   | (with_reducible exact ih1 _ _ _ _)
   | (with_reducible exact ih2 _ _ _ _)
   | (with_reducible exact ih3 _ _ _ _ _ _)
   | (with_reducible exact smaltolaw07_lives.mono _)
   | (with_reducible exact LeO.refl _)
   | (with_reducible exact LeO.none _)
   | (with_reducible refine LeO.ite ?_ ?_)
   | (with_reducible refine LeO.bind ?_ (fun _ => ?_))
   | exact ih0 _ _ _ _ _
   | exact ih1 _ _ _ _
   | exact ih2 _ _ _ _
   | exact ih3 _ _ _ _ _ _
   | exact smaltolaw07_lives.mono _
   | exact LeO.none _
   | refine LeO.ite ?_ ?_
   | refine LeO.bind ?_ (fun _ => ?_)
theorem smaltolaw07_BorderNames.mono : ∀ a0 a1 k, LeO (smaltolaw07_BorderNames.f k a0 a1) (smaltolaw07_BorderNames.f (k + 1) a0 a1) := by
 intro a0 a1 k
 obtain ⟨ih0, ih1, ih2, ih3⟩ := smaltolaw07_BorderNames.mono_l k
 unfold smaltolaw07_BorderNames.f
 repeat' first
   | (with_reducible exact ih0 _ _ _ _ _)
   | (with_reducible exact ih1 _ _ _ _)
   | (with_reducible exact ih2 _ _ _ _)
   | (with_reducible exact ih3 _ _ _ _ _ _)
   | (with_reducible exact smaltolaw07_lives.mono _)
   | (with_reducible exact LeO.refl _)
   | (with_reducible exact LeO.none _)
   | (with_reducible refine LeO.ite ?_ ?_)
   | (with_reducible refine LeO.bind ?_ (fun _ => ?_))
   | exact ih0 _ _ _ _ _
   | exact ih1 _ _ _ _
   | exact ih2 _ _ _ _
   | exact ih3 _ _ _ _ _ _
   | exact smaltolaw07_lives.mono _
   | exact LeO.none _
   | refine LeO.ite ?_ ?_
   | refine LeO.bind ?_ (fun _ => ?_)
set_option maxHeartbeats 8000000 in
set_option maxRecDepth 100000 in
theorem smaltolaw07_BorderNames.calls (k : Nat) (a0 : Int) (a1 : ByteArray) (r : Bool) (w : World) (hG : GL w) (h : smaltolaw07_BorderNames.f k a0 a1 = some r) :
  Calls Tryd.prog 3 #[.int .i64 a0, .string a1] w fun e w' => e = .returned (.bool r) ∧ Below w.heap.size w w' := by
 have HB := Aside0.mk (Below.refl w.heap.size w)
 have H : ((smaltolaw07_lives.f k).bind fun t110 => (if t110 = true then ((some (([(⟨#[99, 108, 97, 109, 112]⟩ : ByteArray), (⟨#[109, 105, 114, 114, 111, 114]⟩ : ByteArray), (⟨#[119, 114, 97, 112]⟩ : ByteArray)] : List ByteArray) : List ByteArray)).bind fun y111 => (if a0 ≥ 0 then (smaltolaw07_BorderNames.j0 k a0 a1 y111 (⟨#[]⟩ : ByteArray) (decide (a0 < 3))) else (smaltolaw07_BorderNames.j0 k a0 a1 y111 (⟨#[]⟩ : ByteArray) false))) else (some false))) = some r := h
 clear h
 replace H := Option.bind_eq_some_iff.mp H
 obtain ⟨t110, A30, H⟩ := H
 replace H : (if t110 = true then ((some (([(⟨#[99, 108, 97, 109, 112]⟩ : ByteArray), (⟨#[109, 105, 114, 114, 111, 114]⟩ : ByteArray), (⟨#[119, 114, 97, 112]⟩ : ByteArray)] : List ByteArray) : List ByteArray)).bind fun y111 => (if a0 ≥ 0 then (smaltolaw07_BorderNames.j0 k a0 a1 y111 (⟨#[]⟩ : ByteArray) (decide (a0 < 3))) else (smaltolaw07_BorderNames.j0 k a0 a1 y111 (⟨#[]⟩ : ByteArray) false))) else (some false)) = some r := H
 have A3 := Aside0.mk A30
 clear A30
 by_cases c4 : t110 = true
 ·subst c4
  have H1 : ((some (([(⟨#[99, 108, 97, 109, 112]⟩ : ByteArray), (⟨#[109, 105, 114, 114, 111, 114]⟩ : ByteArray), (⟨#[119, 114, 97, 112]⟩ : ByteArray)] : List ByteArray) : List ByteArray)).bind fun y111 => (if a0 ≥ 0 then (smaltolaw07_BorderNames.j0 k a0 a1 y111 (⟨#[]⟩ : ByteArray) (decide (a0 < 3))) else (smaltolaw07_BorderNames.j0 k a0 a1 y111 (⟨#[]⟩ : ByteArray) false))) = some r := by rw [if_pos rfl] at H; exact H
  clear H
  have H := H1
  clear H1
  obtain ⟨y111, hy111⟩ : ∃ y_ : List ByteArray, y_ = (([(⟨#[99, 108, 97, 109, 112]⟩ : ByteArray), (⟨#[109, 105, 114, 114, 111, 114]⟩ : ByteArray), (⟨#[119, 114, 97, 112]⟩ : ByteArray)] : List ByteArray)) := ⟨_, rfl⟩
  replace H : (if a0 ≥ 0 then (smaltolaw07_BorderNames.j0 k a0 a1 y111 (⟨#[]⟩ : ByteArray) (decide (a0 < 3))) else (smaltolaw07_BorderNames.j0 k a0 a1 y111 (⟨#[]⟩ : ByteArray) false)) = some r := by first | (rw [hy111]; with_reducible exact H) | (have H2_ := (Option.bind_some _ _).symm.trans H; rw [hy111]; with_reducible exact H2_) | (have H2_ := (Option.bind_some _ _).symm.trans H; with_reducible exact H2_) | with_reducible exact H | (rw [hy111]; exact H) | exact H
  have Ny111 := Aside0.mk hy111
  clear hy111
  have HC5 := Aside0.mk H
  clear H
  go_enter Tryd.func3, Tryd.ntmps3
  go_upto_region 5 with (first | ((with_reducible refine gate_callee (f := 4) rfl ?_); refine goesL_ (some 13) rfl rfl Tryd.func4 (by kernel_rfl) rfl #[] rfl (by (try simp only [List.map_toArray, List.map_cons, List.map_nil]); first | done | rfl | (simp only [List.length_drop, List.length_take]; rfl)) ?_; (with_reducible refine (smaltolaw07_lives.calls k  true _ A3.out).mono ?_); rintro e w6 ⟨rfl, hb⟩; refine ⟨_, rfl, ?_⟩; have n0_ := Aside0.mk (below_step (by repeat (first | (with_reducible first | exact HB.out | apply below_alloc | apply pw_below_drewN | apply below_drew1) | exact HB.out)) hb); clear HB; have HB := n0_; clear n0_; (try clear hb); (try clear hb2); (try clear hk); (try clear hi)) | ((with_reducible refine gate_dst (N := 15) rfl ?_); refine Kd.R_lit Kd.string _ 9 ?hg (N := 15) ?hd (xs := ([(⟨#[99, 108, 97, 109, 112]⟩ : ByteArray), (⟨#[109, 105, 114, 114, 111, 114]⟩ : ByteArray), (⟨#[119, 114, 97, 112]⟩ : ByteArray)] : List ByteArray)) (inner := [.string (⟨#[99, 108, 97, 109, 112]⟩ : ByteArray), .string (⟨#[109, 105, 114, 114, 111, 114]⟩ : ByteArray), .string (⟨#[119, 114, 97, 112]⟩ : ByteArray)]) (ok := fun _ => True) (okp := fun _ => True) ?hr ?hp (fun _ hk => hk) trivial (Below.refl _ _) (Nat.le_refl _) (by simp) ?_; (case hd => rfl); (case hg => rfl); (case hr => first | (go_simp; done) | (go_simp; rfl)); (case hp => exact (Reps.one (show Kd.M Kd.string _ _ _ (⟨#[99, 108, 97, 109, 112]⟩ : ByteArray) [.string (⟨#[99, 108, 97, 109, 112]⟩ : ByteArray)] from rfl) (Reps.one (show Kd.M Kd.string _ _ _ (⟨#[109, 105, 114, 114, 111, 114]⟩ : ByteArray) [.string (⟨#[109, 105, 114, 114, 111, 114]⟩ : ByteArray)] from rfl) (Reps.one (show Kd.M Kd.string _ _ _ (⟨#[119, 114, 97, 112]⟩ : ByteArray) [.string (⟨#[119, 114, 97, 112]⟩ : ByteArray)] from rfl) (Reps.none _ _))))); intro v112 w7 ho8 hb hg_ hnew_; clear hg_ hnew_; (first | rw [← Ny111.out] at ho8 | (simp only [Int.reduceToNat] at ho8; rw [← Ny111.out] at ho8)); have n0_ := Aside0.mk (Kd.R_lower ho8 (below_size (by repeat (first | (with_reducible first | exact HB.out | apply below_alloc | apply pw_below_drewN | apply below_drew1) | exact HB.out)))); have n1_ := Aside0.mk (below_step (by repeat (first | (with_reducible first | exact HB.out | apply below_alloc | apply pw_below_drewN | apply below_drew1) | exact HB.out)) hb); clear HB; have HO113 := n0_; have HB := n1_; clear n0_ n1_; clear hb ho8))
  (try simp only [Act.put, List.setIfInBounds_toArray, List.set_cons_zero, List.set_cons_succ])
  go_cut [21] (fun v21 wc => ∃ (kq : Nat) (x21_4 : Bool), v21 = .bool x21_4 ∧ Aside0 (smaltolaw07_BorderNames.j0 kq a0 a1 y111 (⟨#[]⟩ : ByteArray) x21_4 = some r) ∧ Aside0 (kq ≤ k) ∧ Aside0 (Kd.R Kd.string 9 wc w.heap.size (fun _ => True) v112 y111) ∧ Aside0 (Below w.heap.size w wc))
  case first =>
   have H := HC5.out
   clear HC5
   by_cases c9 : a0 ≥ 0
   ·rw [if_pos c9] at H
    have c9b0 : decide (0 ≤ a0) = true := decide_eq_true c9
    clear c9
    (first | rw [c9b0] | (simp only [i64_w, i32_w]; rw [c9b0]) | skip)
    have H' := Aside0.mk H
    clear H
    go_wp2
    go_meet
    case rel => exact ⟨_, (decide (a0 < 3)), (by first | rfl | (simp; done) | (simp [*]; done)), H', ⟨by first | omega | exact Nat.le_refl _⟩, ⟨by (with_reducible repeat (first | apply Kd.R_alloc | apply Kd.R_drewN | apply Kd.R_drew)); exact HO113.out⟩, ⟨by repeat (first | (with_reducible first | exact HB.out | apply below_alloc | apply pw_below_drewN | apply below_drew1) | exact HB.out)⟩⟩
   ·rw [if_neg c9] at H
    have c9b0 : decide (0 ≤ a0) = false := decide_eq_false c9
    clear c9
    (first | rw [c9b0] | (simp only [i64_w, i32_w]; rw [c9b0]) | skip)
    have H' := Aside0.mk H
    clear H
    go_wp2
    go_meet
    case rel => exact ⟨_, (false), (by first | rfl | (simp; done) | (simp [*]; done)), H', ⟨by first | omega | exact Nat.le_refl _⟩, ⟨by (with_reducible repeat (first | apply Kd.R_alloc | apply Kd.R_drewN | apply Kd.R_drew)); exact HO113.out⟩, ⟨by repeat (first | (with_reducible first | exact HB.out | apply below_alloc | apply pw_below_drewN | apply below_drew1) | exact HB.out)⟩⟩
  case rest =>
   clear HC5
   try clear p2
   try clear c3
   try clear c4
   try clear c9
   try clear c9b0
   obtain ⟨kq, x21_4, rfl, HA, HJ4, HO_5, HB⟩ := hcut
   cases kq with
   | zero => exact absurd HA.out (by simp [smaltolaw07_BorderNames.j0])
   | succ kj4 =>
    have H := HA.out
    clear HA
    simp only [smaltolaw07_BorderNames.j0] at H
    have HC10 := Aside0.mk H
    clear H
    go_upto_if 21 with (fail)
    go_cut [6] (fun v6 wc => ∃ (kq : Nat) (x6_9 : ByteArray), v6 = .string x6_9 ∧ Aside0 (smaltolaw07_BorderNames.j1 kq a0 a1 y111 x6_9 = some r) ∧ Aside0 (kq ≤ kj4) ∧ Aside0 (Kd.R Kd.string 9 wc w.heap.size (fun _ => True) v112 y111) ∧ Aside0 (Below w.heap.size w wc))
    case first =>
     have H := HC10.out
     clear HC10
     by_cases c11 : x21_4 = true
     ·subst c11
      have H1 : (if 0 ≤ a0 then (if a0 < (y111.length : Int) then (smaltolaw07_BorderNames.j1 kj4 a0 a1 y111 (rdOf ByteArray.empty y111 a0)) else (none)) else (none)) = some r := by rw [if_pos rfl] at H; exact H
      clear H
      have H := H1
      clear H1
      by_cases c12 : 0 ≤ a0
      ·rw [if_pos c12] at H
       have c12b0 : decide (0 ≤ a0) = true := decide_eq_true c12
       clear c12
       (first | rw [c12b0] | (simp only [i64_w, i32_w]; rw [c12b0]) | skip)
       by_cases c13 : a0 < (y111.length : Int)
       ·rw [if_pos c13] at H
        have c13b0 : decide (a0 < (y111.length : Int)) = true := decide_eq_true c13
        clear c13
        have H' := Aside0.mk H
        clear H
        obtain ⟨Ao14, co14, eo14⟩ := Kd.R_slice HO_5.out
        subst eo14
        have p114 : 0 ≤ (a0 : Int) := of_decide_eq_true (by first | (with_reducible assumption) | assumption)
        have q114 : a0 < (y111.length : Int) := of_decide_eq_true (by first | (with_reducible assumption) | assumption)
        obtain ⟨ad114, e114, hx114_0⟩ := Kd.at_string (Kd.R_reads' HO_5.out).2.2 a0 p114 q114
        cases e114
        replace p114 := eq_true p114
        replace q114 := eq_true q114
        go_wp2
        go_meet
        case rel => exact ⟨_, (rdOf ByteArray.empty y111 a0), (by first | rfl | (simp; done) | (simp [*]; done)), H', ⟨by have := HJ4.out; first | omega | exact Nat.le_refl _⟩, ⟨by (with_reducible repeat (first | apply Kd.R_alloc | apply Kd.R_drewN | apply Kd.R_drew)); exact HO_5.out⟩, ⟨by repeat (first | (with_reducible first | exact HB.out | apply below_alloc | apply pw_below_drewN | apply below_drew1) | exact HB.out)⟩⟩
       ·rw [if_neg c13] at H
        exact absurd H (by simp)
      ·rw [if_neg c12] at H
       exact absurd H (by simp)
     ·replace c11 := Bool.eq_false_iff.mpr c11
      subst c11
      have H1 : (smaltolaw07_BorderNames.j1 kj4 a0 a1 y111 (⟨#[]⟩ : ByteArray)) = some r := by rw [if_neg (show ¬ (false = true) by decide)] at H; exact H
      clear H
      have H := H1
      clear H1
      have H' := Aside0.mk H
      clear H
      go_wp2
      go_meet
      case rel => exact ⟨_, ((⟨#[]⟩ : ByteArray)), (by first | rfl | (simp; done) | (simp [*]; done)), H', ⟨by have := HJ4.out; first | omega | exact Nat.le_refl _⟩, ⟨by (with_reducible repeat (first | apply Kd.R_alloc | apply Kd.R_drewN | apply Kd.R_drew)); exact HO_5.out⟩, ⟨by repeat (first | (with_reducible first | exact HB.out | apply below_alloc | apply pw_below_drewN | apply below_drew1) | exact HB.out)⟩⟩
    case rest =>
     clear HC10
     try clear c1
     try clear p1
     try clear q1
     try clear hx1
     try clear p2
     try clear c3
     try clear c4
     try clear c9
     try clear c9b0
     try clear c11
     try clear p11
     try clear q11
     try clear hx11
     try clear c12
     try clear c12b0
     try clear c13
     try clear c13b0
     try clear hx114_0
     try clear p114
     try clear p2
     try clear q114
     obtain ⟨kq, x6_9, rfl, HA, HJ9, HO_5, HB⟩ := hcut
     cases kq with
     | zero => exact absurd HA.out (by simp [smaltolaw07_BorderNames.j1])
     | succ kj9 =>
      have H := HA.out
      clear HA
      simp only [smaltolaw07_BorderNames.j1] at H
      replace H := Option.bind_eq_some_iff.mp H
      obtain ⟨t115, A150, H⟩ := H
      replace H : (if t115.toList = x6_9.toList then (smaltolaw07_BorderNames.l0 kj9 a1 y111 (y111.length : Int) 0) else (some false)) = some r := H
      have A15 := Aside0.mk A150
      clear A150
      by_cases c16 : t115.toList = x6_9.toList
      ·rw [if_pos c16] at H
       have c16b0 : (t115.toList == x6_9.toList) = true := beq_iff_eq.mpr c16
       have c16b1 : (t115.toList != x6_9.toList) = false := bne_eq_false_iff_eq.mpr c16
       clear c16
       have H' := Aside0.mk H
       clear H
       go_wp2_with (first | ((with_reducible refine gate_callee (f := 5) rfl ?_); refine goesL_ (some 27) rfl rfl Tryd.func5 (by kernel_rfl) rfl #[.int .i64 a0] rfl (by (try simp only [List.map_toArray, List.map_cons, List.map_nil]); first | done | rfl | (simp only [List.length_drop, List.length_take]; rfl)) ?_; (with_reducible refine (border_Name.calls a0 t115 _ (by exact GL.below hG (by repeat (first | (with_reducible first | exact HB.out | apply below_alloc | apply pw_below_drewN | apply below_drew1) | exact HB.out | exact Below.refl _ _))) A15.out).mono ?_); rintro e w' ⟨rfl, ⟨nd, rfl⟩⟩; refine ⟨_, rfl, ?_⟩; obtain ⟨Ao17, co17, eo17⟩ := Kd.R_slice HO_5.out; subst eo17))
       go_loopg [32] kj9 (fun kq v32 w' => ∃ (x32_3 : Int), v32 = .int .i64 x32_3 ∧ Aside0 (smaltolaw07_BorderNames.l0 kq a1 y111 (y111.length : Int) x32_3 = some r) ∧ Aside0 (kq ≤ kj9) ∧ Aside0 (Kd.R Kd.string 9 w' w.heap.size (fun _ => True) (.slice Ao17 y111.length co17) y111) ∧ Aside0 (Below w.heap.size w w'))
       case atStart => exact ⟨(0), (by first | rfl | (simp; done) | (simp [*]; done)), H', ⟨Nat.le_refl _⟩, ⟨by (with_reducible repeat (first | apply Kd.R_alloc | apply Kd.R_drewN | apply Kd.R_drew)); exact HO_5.out⟩, ⟨by repeat (first | (with_reducible first | exact HB.out | apply below_alloc | apply pw_below_drewN | apply below_drew1) | exact HB.out)⟩⟩
       case round =>
        clear H'
        try clear c1
        try clear p1
        try clear q1
        try clear hx1
        try clear p2
        try clear c3
        try clear c4
        try clear c5
        try clear c9
        try clear c9b0
        try clear c11
        try clear p11
        try clear q11
        try clear hx11
        try clear c12
        try clear c12b0
        try clear c13
        try clear c13b0
        try clear c16
        try clear c16b0
        try clear c16b1
        try clear hx114_0
        try clear p1
        try clear p11
        try clear p114
        try clear p2
        try clear q1
        try clear q11
        try clear q114
        obtain ⟨x32_3, rfl, HA, HK3, HO_30, HB⟩ := hrel
        cases gk with
        | zero => exact absurd HA.out (by simp [smaltolaw07_BorderNames.l0])
        | succ k3 =>
         have H := HA.out
         clear HA
         simp only [smaltolaw07_BorderNames.l0] at H
         by_cases c18 : x32_3 < (y111.length : Int)
         ·rw [if_pos c18] at H
          have c18b0 : decide (x32_3 < (y111.length : Int)) = true := decide_eq_true c18
          clear c18
          by_cases c19 : 0 ≤ x32_3
          ·rw [if_pos c19] at H
           have c19b0 : decide (0 ≤ x32_3) = true := decide_eq_true c19
           clear c19
           by_cases c20 : x32_3 < (y111.length : Int)
           ·rw [if_pos c20] at H
            have c20b0 : decide (x32_3 < (y111.length : Int)) = true := decide_eq_true c20
            clear c20
            replace H := Option.bind_eq_some_iff.mp H
            obtain ⟨⟨t119, t120⟩, A210, H⟩ := H
            replace H : (if t120 = true then (smaltolaw07_BorderNames.j3 k3 a1 (rdOf ByteArray.empty y111 x32_3) y111 (y111.length : Int) x32_3 (t119 != x32_3)) else (smaltolaw07_BorderNames.j3 k3 a1 (rdOf ByteArray.empty y111 x32_3) y111 (y111.length : Int) x32_3 true)) = some r := H
            have A21 := Aside0.mk A210
            clear A210
            have HC22 := Aside0.mk H
            clear H
            have p118 : 0 ≤ (x32_3 : Int) := of_decide_eq_true (by first | (with_reducible assumption) | assumption)
            have q118 : x32_3 < (y111.length : Int) := of_decide_eq_true (by first | (with_reducible assumption) | assumption)
            obtain ⟨ad118, e118, hx118_0⟩ := Kd.at_string (Kd.R_reads' HO_30.out).2.2 x32_3 p118 q118
            cases e118
            replace p118 := eq_true p118
            replace q118 := eq_true q118
            go_upto_region 13 with (first | ((with_reducible refine gate_callee (f := 6) rfl ?_); refine goesL_ (some 39) rfl rfl Tryd.func6 (by kernel_rfl) rfl #[.string (rdOf ByteArray.empty y111 x32_3)] rfl (by (try simp only [List.map_toArray, List.map_cons, List.map_nil]); first | done | rfl | (simp only [List.length_drop, List.length_take]; rfl)) ?_; (with_reducible refine (border_Named.calls (rdOf ByteArray.empty y111 x32_3) t119 t120 _ (by exact GL.below hG (by repeat (first | (with_reducible first | exact HB.out | apply below_alloc | apply pw_below_drewN | apply below_drew1) | exact HB.out | exact Below.refl _ _))) A21.out).mono ?_); rintro e w' ⟨rfl, ⟨nd, rfl⟩⟩; refine ⟨_, rfl, ?_⟩))
            (try simp only [Act.put, List.setIfInBounds_toArray, List.set_cons_zero, List.set_cons_succ])
            go_cut [48] (fun v48 wc => ∃ (kq : Nat) (x48_21 : Bool), v48 = .bool x48_21 ∧ Aside0 (smaltolaw07_BorderNames.j3 kq a1 (rdOf ByteArray.empty y111 x32_3) y111 (y111.length : Int) x32_3 x48_21 = some r) ∧ Aside0 (kq ≤ k3) ∧ Aside0 (Kd.R Kd.string 9 wc w.heap.size (fun _ => True) (.slice (some ad118) y111.length co17) y111) ∧ Aside0 (Below w.heap.size w wc))
            case first =>
             have H := HC22.out
             clear HC22
             by_cases c23 : t120 = true
             ·subst c23
              have H1 : (smaltolaw07_BorderNames.j3 k3 a1 (rdOf ByteArray.empty y111 x32_3) y111 (y111.length : Int) x32_3 (t119 != x32_3)) = some r := by rw [if_pos rfl] at H; exact H
              clear H
              have H := H1
              clear H1
              have H' := Aside0.mk H
              clear H
              go_wp2
              go_meet
              case rel => exact ⟨_, ((t119 != x32_3)), (by first | rfl | (simp; done) | (simp [*]; done)), H', ⟨by have := HJ4.out; have := HJ9.out; have := HK3.out; first | omega | exact Nat.le_refl _⟩, ⟨by (with_reducible repeat (first | apply Kd.R_alloc | apply Kd.R_drewN | apply Kd.R_drew)); exact HO_30.out⟩, ⟨by repeat (first | (with_reducible first | exact HB.out | apply below_alloc | apply pw_below_drewN | apply below_drew1) | exact HB.out)⟩⟩
             ·replace c23 := Bool.eq_false_iff.mpr c23
              subst c23
              have H1 : (smaltolaw07_BorderNames.j3 k3 a1 (rdOf ByteArray.empty y111 x32_3) y111 (y111.length : Int) x32_3 true) = some r := by rw [if_neg (show ¬ (false = true) by decide)] at H; exact H
              clear H
              have H := H1
              clear H1
              have H' := Aside0.mk H
              clear H
              go_wp2
              go_meet
              case rel => exact ⟨_, (true), (by first | rfl | (simp; done) | (simp [*]; done)), H', ⟨by have := HJ4.out; have := HJ9.out; have := HK3.out; first | omega | exact Nat.le_refl _⟩, ⟨by (with_reducible repeat (first | apply Kd.R_alloc | apply Kd.R_drewN | apply Kd.R_drew)); exact HO_30.out⟩, ⟨by repeat (first | (with_reducible first | exact HB.out | apply below_alloc | apply pw_below_drewN | apply below_drew1) | exact HB.out)⟩⟩
            case rest =>
             clear HC22
             try clear c1
             try clear p1
             try clear q1
             try clear hx1
             try clear c2
             try clear p2
             try clear c3
             try clear c4
             try clear c5
             try clear c6
             try clear c9
             try clear c9b0
             try clear c11
             try clear p11
             try clear q11
             try clear hx11
             try clear c12
             try clear c12b0
             try clear c13
             try clear c13b0
             try clear c16
             try clear c16b0
             try clear c16b1
             try clear c18
             try clear c18b0
             try clear c19
             try clear c19b0
             try clear c20
             try clear c20b0
             try clear c23
             try clear hx114_0
             try clear hx118_0
             try clear p1
             try clear p11
             try clear p114
             try clear p118
             try clear p2
             try clear q1
             try clear q11
             try clear q114
             try clear q118
             obtain ⟨kq, x48_21, rfl, HA, HJ21, HO_30, HB⟩ := hcut
             cases kq with
             | zero => exact absurd HA.out (by simp [smaltolaw07_BorderNames.j3])
             | succ kj21 =>
              have H := HA.out
              clear HA
              simp only [smaltolaw07_BorderNames.j3] at H
              by_cases c24 : x48_21 = true
              ·subst c24
               have H1 : (some false) = some r := by rw [if_pos rfl] at H; exact H
               clear H
               have H := H1
               clear H1
               obtain rfl := Option.some.inj H
               go_wp2
               go_ret
               exact ⟨by first | rfl | (simp [errW_none, errW_some] <;> rfl) | (simp [*, errW_none, errW_some] <;> rfl), by repeat (first | (with_reducible first | exact HB.out | apply below_alloc | apply pw_below_drewN | apply below_drew1) | exact HB.out)⟩
              ·replace c24 := Bool.eq_false_iff.mpr c24
               subst c24
               have H1 : (if (rdOf ByteArray.empty y111 x32_3).toList = a1.toList then (some true) else (smaltolaw07_BorderNames.l0 kj21 a1 y111 (y111.length : Int) (wrap64 (x32_3 + 1)))) = some r := by rw [if_neg (show ¬ (false = true) by decide)] at H; exact H
               clear H
               have H := H1
               clear H1
               by_cases c25 : (rdOf ByteArray.empty y111 x32_3).toList = a1.toList
               ·rw [if_pos c25] at H
                have c25b0 : ((rdOf ByteArray.empty y111 x32_3).toList == a1.toList) = true := beq_iff_eq.mpr c25
                have c25b1 : ((rdOf ByteArray.empty y111 x32_3).toList != a1.toList) = false := bne_eq_false_iff_eq.mpr c25
                clear c25
                obtain rfl := Option.some.inj H
                go_wp2
                go_ret
                exact ⟨by first | rfl | (simp [errW_none, errW_some] <;> rfl) | (simp [*, errW_none, errW_some] <;> rfl), by repeat (first | (with_reducible first | exact HB.out | apply below_alloc | apply pw_below_drewN | apply below_drew1) | exact HB.out)⟩
               ·rw [if_neg c25] at H
                have c25b0 : ((rdOf ByteArray.empty y111 x32_3).toList == a1.toList) = false := beq_eq_false_iff_ne.mpr c25
                have c25b1 : ((rdOf ByteArray.empty y111 x32_3).toList != a1.toList) = true := bne_iff_ne.mpr c25
                have H' := Aside0.mk H
                clear H
                go_wp2
                go_roundg kj21
                case measure => have := HJ4.out; have := HJ9.out; have := HK3.out; have := HJ21.out; omega
                case rel => exact ⟨(wrap64 (x32_3 + 1)), (by first | rfl | (simp; done) | (simp [*]; done)), H', ⟨by have := HJ4.out; have := HJ9.out; have := HK3.out; have := HJ21.out; omega⟩, ⟨by (with_reducible repeat (first | apply Kd.R_alloc | apply Kd.R_drewN | apply Kd.R_drew)); exact HO_30.out⟩, ⟨by repeat (first | (with_reducible first | exact HB.out | apply below_alloc | apply pw_below_drewN | apply below_drew1) | exact HB.out)⟩⟩
           ·rw [if_neg c20] at H
            exact absurd H (by simp)
          ·rw [if_neg c19] at H
           exact absurd H (by simp)
         ·rw [if_neg c18] at H
          have c18b0 : decide (x32_3 < (y111.length : Int)) = false := decide_eq_false c18
          clear c18
          replace H := Option.bind_eq_some_iff.mp H
          obtain ⟨⟨t116, t117⟩, A260, H⟩ := H
          replace H : (if t117 = true then (some false) else (some (t116 == 0))) = some r := H
          have A26 := Aside0.mk A260
          clear A260
          by_cases c27 : t117 = true
          ·subst c27
           have H1 : (some false) = some r := by rw [if_pos rfl] at H; exact H
           clear H
           have H := H1
           clear H1
           obtain rfl := Option.some.inj H
           go_wp2_with (first | ((with_reducible refine gate_callee (f := 6) rfl ?_); refine goesL_ (some 55) rfl rfl Tryd.func6 (by kernel_rfl) rfl #[.string a1] rfl (by (try simp only [List.map_toArray, List.map_cons, List.map_nil]); first | done | rfl | (simp only [List.length_drop, List.length_take]; rfl)) ?_; (with_reducible refine (border_Named.calls a1 t116 true _ (by exact GL.below hG (by repeat (first | (with_reducible first | exact HB.out | apply below_alloc | apply pw_below_drewN | apply below_drew1) | exact HB.out | exact Below.refl _ _))) A26.out).mono ?_); rintro e w' ⟨rfl, ⟨nd, rfl⟩⟩; refine ⟨_, rfl, ?_⟩))
           go_ret
           exact ⟨by first | rfl | (simp [errW_none, errW_some] <;> rfl) | (simp [*, errW_none, errW_some] <;> rfl), by repeat (first | (with_reducible first | exact HB.out | apply below_alloc | apply pw_below_drewN | apply below_drew1) | exact HB.out)⟩
          ·replace c27 := Bool.eq_false_iff.mpr c27
           subst c27
           have H1 : (some (t116 == 0)) = some r := by rw [if_neg (show ¬ (false = true) by decide)] at H; exact H
           clear H
           have H := H1
           clear H1
           obtain rfl := Option.some.inj H
           go_wp2_with (first | ((with_reducible refine gate_callee (f := 6) rfl ?_); refine goesL_ (some 55) rfl rfl Tryd.func6 (by kernel_rfl) rfl #[.string a1] rfl (by (try simp only [List.map_toArray, List.map_cons, List.map_nil]); first | done | rfl | (simp only [List.length_drop, List.length_take]; rfl)) ?_; (with_reducible refine (border_Named.calls a1 t116 false _ (by exact GL.below hG (by repeat (first | (with_reducible first | exact HB.out | apply below_alloc | apply pw_below_drewN | apply below_drew1) | exact HB.out | exact Below.refl _ _))) A26.out).mono ?_); rintro e w' ⟨rfl, ⟨nd, rfl⟩⟩; refine ⟨_, rfl, ?_⟩))
           go_ret
           exact ⟨by first | rfl | (simp [errW_none, errW_some] <;> rfl) | (simp [*, errW_none, errW_some] <;> rfl), by repeat (first | (with_reducible first | exact HB.out | apply below_alloc | apply pw_below_drewN | apply below_drew1) | exact HB.out)⟩
      ·rw [if_neg c16] at H
       have c16b0 : (t115.toList == x6_9.toList) = false := beq_eq_false_iff_ne.mpr c16
       have c16b1 : (t115.toList != x6_9.toList) = true := bne_iff_ne.mpr c16
       obtain rfl := Option.some.inj H
       go_wp2_with (first | ((with_reducible refine gate_callee (f := 5) rfl ?_); refine goesL_ (some 27) rfl rfl Tryd.func5 (by kernel_rfl) rfl #[.int .i64 a0] rfl (by (try simp only [List.map_toArray, List.map_cons, List.map_nil]); first | done | rfl | (simp only [List.length_drop, List.length_take]; rfl)) ?_; (with_reducible refine (border_Name.calls a0 t115 _ (by exact GL.below hG (by repeat (first | (with_reducible first | exact HB.out | apply below_alloc | apply pw_below_drewN | apply below_drew1) | exact HB.out | exact Below.refl _ _))) A15.out).mono ?_); rintro e w' ⟨rfl, ⟨nd, rfl⟩⟩; refine ⟨_, rfl, ?_⟩))
       go_ret
       exact ⟨by first | rfl | (simp [errW_none, errW_some] <;> rfl) | (simp [*, errW_none, errW_some] <;> rfl), by repeat (first | (with_reducible first | exact HB.out | apply below_alloc | apply pw_below_drewN | apply below_drew1) | exact HB.out)⟩
 ·replace c4 := Bool.eq_false_iff.mpr c4
  subst c4
  have H1 : (some false) = some r := by rw [if_neg (show ¬ (false = true) by decide)] at H; exact H
  clear H
  have H := H1
  clear H1
  obtain rfl := Option.some.inj H
  go_enter Tryd.func3, Tryd.ntmps3
  go_wp2_with (first | ((with_reducible refine gate_callee (f := 4) rfl ?_); refine goesL_ (some 13) rfl rfl Tryd.func4 (by kernel_rfl) rfl #[] rfl (by (try simp only [List.map_toArray, List.map_cons, List.map_nil]); first | done | rfl | (simp only [List.length_drop, List.length_take]; rfl)) ?_; (with_reducible refine (smaltolaw07_lives.calls k  false _ A3.out).mono ?_); rintro e w28 ⟨rfl, hb⟩; refine ⟨_, rfl, ?_⟩; have n0_ := Aside0.mk (below_step (by repeat (first | (with_reducible first | exact HB.out | apply below_alloc | apply pw_below_drewN | apply below_drew1) | exact HB.out)) hb); clear HB; have HB := n0_; clear n0_; (try clear hb); (try clear hb2); (try clear hk); (try clear hi)))
  go_ret
  exact ⟨by first | rfl | (simp [errW_none, errW_some] <;> rfl) | (simp [*, errW_none, errW_some] <;> rfl), by repeat (first | (with_reducible first | exact HB.out | apply below_alloc | apply pw_below_drewN | apply below_drew1) | exact HB.out)⟩

/-- THE ONE PURE STATEMENT of smaltolaw07_BorderNames: yours. -/
def smaltolaw07_BorderNames.Pure : Prop := ∀ (a0 : Int) (a1 : ByteArray), (Lit.int .i64 a0).wf = true → a1.size ≤ 140737488351232 → ∃ k, smaltolaw07_BorderNames.f k a0 a1 = some true
theorem smaltolaw07_BorderNames.walk (P : smaltolaw07_BorderNames.Pure) (a0 : Int) (a1 : ByteArray) (w : World) (hG : GL w) (w0 : (Lit.int .i64 a0).wf = true) (w1 : a1.size ≤ 140737488351232) :
  Calls Tryd.prog 3 #[.int .i64 a0, .string a1] w fun e w' => e = .returned (.bool true) ∧ Below w.heap.size w w' := by
 obtain ⟨k, h⟩ := P a0 a1 w0 w1
 refine (smaltolaw07_BorderNames.calls k a0 a1 true w hG h).mono ?_
 rintro e w' ⟨rfl, hd⟩
 exact ⟨rfl, hd⟩

end Go.Proofs.YtofmgoihoaookaaDoor.QA
