-- Written by wip/tools/pp.py over the kit's print.py; not trusted: Lean checks it.
import Derived.Test.YtbkbgpileogehaaDoorQAx0
import Derived.Test.YtbkbgpileogehaaDoorQAx8
namespace Go.Proofs.YtbkbgpileogehaaDoor.QA
open Go.Proofs.YtbkbgpileogehaaDoor.T
open Go.RowKit Go.Proofs.YtbkbgpileogehaaDoorW.PrintWords Go.Proofs.YtbkbgpileogehaaDoorW.PrintLast Go.Proofs.YtbkbgpileogehaaDoorW.PrintMore
attribute [local go_sem] ext_call max2_int min2_int max_two min_two max_three min_three max_four min_four   -- for this text's walks alone
set_option linter.unusedVariables false
set_option linter.unusedSimpArgs false

/-! ### smaltolaw05_RawMirror: function 4 -/
mutual
def smaltolaw05_RawMirror.j0 : Nat → List Int → List Int → Bool → Option (Bool)
 | 0, _, _, _ => none
 | k + 1, x14, x16, x70 => if x70 = true then (some false) else (smaltolaw05_RawMirror.l0 k x14 x16 (x14.length : Int) 0)
def smaltolaw05_RawMirror.l0 : Nat → List Int → List Int → Int → Int → Option (Bool)
 | 0, _, _, _, _ => none
 | k + 1, x14, x16, x72, x73 => if x73 < x72 then (if 0 ≤ x73 then (if x73 < (x14.length : Int) then (if 0 ≤ (wrap64 ((wrap64 ((x16.length : Int) - 1)) - x73)) then (if (wrap64 ((wrap64 ((x16.length : Int) - 1)) - x73)) < (x16.length : Int) then (if (rd x14 x73) = (rd x16 (wrap64 ((wrap64 ((x16.length : Int) - 1)) - x73))) then (smaltolaw05_RawMirror.l0 k x14 x16 x72 (wrap64 (x73 + 1))) else (some false)) else (none)) else (none)) else (none)) else (none)) else (some (decide ((x14.length : Int) > 0)))
end
def smaltolaw05_RawMirror.f (k : Nat) (a0 : Int) (a1 : Int) (a2 : Int) (a3 : Int) : Option (Bool) := (smaltolaw05_Lives.f k).bind fun t183 => (if t183 = true then ((smaltolaw05_side.f a1).bind fun t184 => ((smaltolaw05_side.f a2).bind fun t185 => ((smaltolaw05_small.f t184 t185).bind fun t186 => (if t186 = true then (if t185 = 0 then (none) else ((raw_Row.f k (wrap64 (Int.tmod a0 3)) t184 t185 (Int.tmod (wrap64 (a3)) t185)).bind fun bt187 => ((raw_Row.f k (wrap64 (Int.tmod a0 3)) t184 t185 (wrap64 ((wrap64 (t185 - 1)) - (Int.tmod (wrap64 (a3)) t185)))).bind fun bt191 => (if (bt187.2.length : Int) = (bt191.2.length : Int) then (smaltolaw05_RawMirror.j0 k bt187.2 bt191.2 ((wrap64 ((wrap64 (bt187.1 + (bt187.2.length : Int))) - 1)) != (wrap64 ((wrap64 (t184 - 1)) - bt191.1)))) else (smaltolaw05_RawMirror.j0 k bt187.2 bt191.2 true))))) else (some true))))) else (some false))
theorem smaltolaw05_RawMirror.mono_l : ∀ k, (∀ y0 y1 y2, LeO (smaltolaw05_RawMirror.j0 k y0 y1 y2) (smaltolaw05_RawMirror.j0 (k + 1) y0 y1 y2)) ∧ (∀ y0 y1 y2 y3, LeO (smaltolaw05_RawMirror.l0 k y0 y1 y2 y3) (smaltolaw05_RawMirror.l0 (k + 1) y0 y1 y2 y3))
 | 0 => ⟨fun _ _ _ r h => by simp [smaltolaw05_RawMirror.j0] at h, fun _ _ _ _ r h => by simp [smaltolaw05_RawMirror.l0] at h⟩
 | k + 1 => by
  obtain ⟨ih0, ih1⟩ := smaltolaw05_RawMirror.mono_l k
  refine ⟨?_, ?_⟩
  ·intro y0 y1 y2
   unfold smaltolaw05_RawMirror.j0
   repeat' first
   | (with_reducible exact ih0 _ _ _)
   | (with_reducible exact ih1 _ _ _ _)
   | (with_reducible exact raw_Row.mono _ _ _ _ _)
   | (with_reducible exact smaltolaw05_Lives.mono _)
   | (with_reducible exact LeO.refl _)
   | (with_reducible exact LeO.none _)
   | (with_reducible refine LeO.ite ?_ ?_)
   | (with_reducible refine LeO.bind ?_ (fun _ => ?_))
   | exact ih0 _ _ _
   | exact ih1 _ _ _ _
   | exact raw_Row.mono _ _ _ _ _
   | exact smaltolaw05_Lives.mono _
   | exact LeO.none _
   | refine LeO.ite ?_ ?_
   | refine LeO.bind ?_ (fun _ => ?_)
  ·intro y0 y1 y2 y3
   unfold smaltolaw05_RawMirror.l0
   repeat' first
   | (with_reducible exact ih0 _ _ _)
   | (with_reducible exact ih1 _ _ _ _)
   | (with_reducible exact raw_Row.mono _ _ _ _ _)
   | (with_reducible exact smaltolaw05_Lives.mono _)
   | (with_reducible exact LeO.refl _)
   | (with_reducible exact LeO.none _)
   | (with_reducible refine LeO.ite ?_ ?_)
   | (with_reducible refine LeO.bind ?_ (fun _ => ?_))
   | exact ih0 _ _ _
   | exact ih1 _ _ _ _
   | exact raw_Row.mono _ _ _ _ _
   | exact smaltolaw05_Lives.mono _
   | exact LeO.none _
   | refine LeO.ite ?_ ?_
   | refine LeO.bind ?_ (fun _ => ?_)
theorem smaltolaw05_RawMirror.mono : ∀ a0 a1 a2 a3 k, LeO (smaltolaw05_RawMirror.f k a0 a1 a2 a3) (smaltolaw05_RawMirror.f (k + 1) a0 a1 a2 a3) := by
 intro a0 a1 a2 a3 k
 obtain ⟨ih0, ih1⟩ := smaltolaw05_RawMirror.mono_l k
 unfold smaltolaw05_RawMirror.f
 repeat' first
   | (with_reducible exact ih0 _ _ _)
   | (with_reducible exact ih1 _ _ _ _)
   | (with_reducible exact raw_Row.mono _ _ _ _ _)
   | (with_reducible exact smaltolaw05_Lives.mono _)
   | (with_reducible exact LeO.refl _)
   | (with_reducible exact LeO.none _)
   | (with_reducible refine LeO.ite ?_ ?_)
   | (with_reducible refine LeO.bind ?_ (fun _ => ?_))
   | exact ih0 _ _ _
   | exact ih1 _ _ _ _
   | exact raw_Row.mono _ _ _ _ _
   | exact smaltolaw05_Lives.mono _
   | exact LeO.none _
   | refine LeO.ite ?_ ?_
   | refine LeO.bind ?_ (fun _ => ?_)
set_option maxHeartbeats 8000000 in
set_option maxRecDepth 100000 in
theorem smaltolaw05_RawMirror.calls (k : Nat) (a0 : Int) (a1 : Int) (a2 : Int) (a3 : Int) (r : Bool) (w : World) (hG : GL w) (h : smaltolaw05_RawMirror.f k a0 a1 a2 a3 = some r) :
  Calls Tryd.prog 4 #[.int .u8 a0, .int .u32 a1, .int .u32 a2, .int .u32 a3] w fun e w' => e = .returned (.bool r) ∧ Below w.heap.size w w' := by
 have HB := Aside0.mk (Below.refl w.heap.size w)
 have H : ((smaltolaw05_Lives.f k).bind fun t183 => (if t183 = true then ((smaltolaw05_side.f a1).bind fun t184 => ((smaltolaw05_side.f a2).bind fun t185 => ((smaltolaw05_small.f t184 t185).bind fun t186 => (if t186 = true then (if t185 = 0 then (none) else ((raw_Row.f k (wrap64 (Int.tmod a0 3)) t184 t185 (Int.tmod (wrap64 (a3)) t185)).bind fun bt187 => ((raw_Row.f k (wrap64 (Int.tmod a0 3)) t184 t185 (wrap64 ((wrap64 (t185 - 1)) - (Int.tmod (wrap64 (a3)) t185)))).bind fun bt191 => (if (bt187.2.length : Int) = (bt191.2.length : Int) then (smaltolaw05_RawMirror.j0 k bt187.2 bt191.2 ((wrap64 ((wrap64 (bt187.1 + (bt187.2.length : Int))) - 1)) != (wrap64 ((wrap64 (t184 - 1)) - bt191.1)))) else (smaltolaw05_RawMirror.j0 k bt187.2 bt191.2 true))))) else (some true))))) else (some false))) = some r := h
 clear h
 replace H := Option.bind_eq_some_iff.mp H
 obtain ⟨t183, A50, H⟩ := H
 replace H : (if t183 = true then ((smaltolaw05_side.f a1).bind fun t184 => ((smaltolaw05_side.f a2).bind fun t185 => ((smaltolaw05_small.f t184 t185).bind fun t186 => (if t186 = true then (if t185 = 0 then (none) else ((raw_Row.f k (wrap64 (Int.tmod a0 3)) t184 t185 (Int.tmod (wrap64 (a3)) t185)).bind fun bt187 => ((raw_Row.f k (wrap64 (Int.tmod a0 3)) t184 t185 (wrap64 ((wrap64 (t185 - 1)) - (Int.tmod (wrap64 (a3)) t185)))).bind fun bt191 => (if (bt187.2.length : Int) = (bt191.2.length : Int) then (smaltolaw05_RawMirror.j0 k bt187.2 bt191.2 ((wrap64 ((wrap64 (bt187.1 + (bt187.2.length : Int))) - 1)) != (wrap64 ((wrap64 (t184 - 1)) - bt191.1)))) else (smaltolaw05_RawMirror.j0 k bt187.2 bt191.2 true))))) else (some true))))) else (some false)) = some r := H
 have A5 := Aside0.mk A50
 clear A50
 by_cases c6 : t183 = true
 ·subst c6
  have H1 : ((smaltolaw05_side.f a1).bind fun t184 => ((smaltolaw05_side.f a2).bind fun t185 => ((smaltolaw05_small.f t184 t185).bind fun t186 => (if t186 = true then (if t185 = 0 then (none) else ((raw_Row.f k (wrap64 (Int.tmod a0 3)) t184 t185 (Int.tmod (wrap64 (a3)) t185)).bind fun bt187 => ((raw_Row.f k (wrap64 (Int.tmod a0 3)) t184 t185 (wrap64 ((wrap64 (t185 - 1)) - (Int.tmod (wrap64 (a3)) t185)))).bind fun bt191 => (if (bt187.2.length : Int) = (bt191.2.length : Int) then (smaltolaw05_RawMirror.j0 k bt187.2 bt191.2 ((wrap64 ((wrap64 (bt187.1 + (bt187.2.length : Int))) - 1)) != (wrap64 ((wrap64 (t184 - 1)) - bt191.1)))) else (smaltolaw05_RawMirror.j0 k bt187.2 bt191.2 true))))) else (some true))))) = some r := by rw [if_pos rfl] at H; exact H
  clear H
  have H := H1
  clear H1
  replace H := Option.bind_eq_some_iff.mp H
  obtain ⟨t184, A70, H⟩ := H
  replace H : ((smaltolaw05_side.f a2).bind fun t185 => ((smaltolaw05_small.f t184 t185).bind fun t186 => (if t186 = true then (if t185 = 0 then (none) else ((raw_Row.f k (wrap64 (Int.tmod a0 3)) t184 t185 (Int.tmod (wrap64 (a3)) t185)).bind fun bt187 => ((raw_Row.f k (wrap64 (Int.tmod a0 3)) t184 t185 (wrap64 ((wrap64 (t185 - 1)) - (Int.tmod (wrap64 (a3)) t185)))).bind fun bt191 => (if (bt187.2.length : Int) = (bt191.2.length : Int) then (smaltolaw05_RawMirror.j0 k bt187.2 bt191.2 ((wrap64 ((wrap64 (bt187.1 + (bt187.2.length : Int))) - 1)) != (wrap64 ((wrap64 (t184 - 1)) - bt191.1)))) else (smaltolaw05_RawMirror.j0 k bt187.2 bt191.2 true))))) else (some true)))) = some r := H
  have A7 := Aside0.mk A70
  clear A70
  replace H := Option.bind_eq_some_iff.mp H
  obtain ⟨t185, A80, H⟩ := H
  replace H : ((smaltolaw05_small.f t184 t185).bind fun t186 => (if t186 = true then (if t185 = 0 then (none) else ((raw_Row.f k (wrap64 (Int.tmod a0 3)) t184 t185 (Int.tmod (wrap64 (a3)) t185)).bind fun bt187 => ((raw_Row.f k (wrap64 (Int.tmod a0 3)) t184 t185 (wrap64 ((wrap64 (t185 - 1)) - (Int.tmod (wrap64 (a3)) t185)))).bind fun bt191 => (if (bt187.2.length : Int) = (bt191.2.length : Int) then (smaltolaw05_RawMirror.j0 k bt187.2 bt191.2 ((wrap64 ((wrap64 (bt187.1 + (bt187.2.length : Int))) - 1)) != (wrap64 ((wrap64 (t184 - 1)) - bt191.1)))) else (smaltolaw05_RawMirror.j0 k bt187.2 bt191.2 true))))) else (some true))) = some r := H
  have A8 := Aside0.mk A80
  clear A80
  replace H := Option.bind_eq_some_iff.mp H
  obtain ⟨t186, A90, H⟩ := H
  replace H : (if t186 = true then (if t185 = 0 then (none) else ((raw_Row.f k (wrap64 (Int.tmod a0 3)) t184 t185 (Int.tmod (wrap64 (a3)) t185)).bind fun bt187 => ((raw_Row.f k (wrap64 (Int.tmod a0 3)) t184 t185 (wrap64 ((wrap64 (t185 - 1)) - (Int.tmod (wrap64 (a3)) t185)))).bind fun bt191 => (if (bt187.2.length : Int) = (bt191.2.length : Int) then (smaltolaw05_RawMirror.j0 k bt187.2 bt191.2 ((wrap64 ((wrap64 (bt187.1 + (bt187.2.length : Int))) - 1)) != (wrap64 ((wrap64 (t184 - 1)) - bt191.1)))) else (smaltolaw05_RawMirror.j0 k bt187.2 bt191.2 true))))) else (some true)) = some r := H
  have A9 := Aside0.mk A90
  clear A90
  by_cases c10 : t186 = true
  ·subst c10
   have H1 : (if t185 = 0 then (none) else ((raw_Row.f k (wrap64 (Int.tmod a0 3)) t184 t185 (Int.tmod (wrap64 (a3)) t185)).bind fun bt187 => ((raw_Row.f k (wrap64 (Int.tmod a0 3)) t184 t185 (wrap64 ((wrap64 (t185 - 1)) - (Int.tmod (wrap64 (a3)) t185)))).bind fun bt191 => (if (bt187.2.length : Int) = (bt191.2.length : Int) then (smaltolaw05_RawMirror.j0 k bt187.2 bt191.2 ((wrap64 ((wrap64 (bt187.1 + (bt187.2.length : Int))) - 1)) != (wrap64 ((wrap64 (t184 - 1)) - bt191.1)))) else (smaltolaw05_RawMirror.j0 k bt187.2 bt191.2 true))))) = some r := by rw [if_pos rfl] at H; exact H
   clear H
   have H := H1
   clear H1
   by_cases c11 : t185 = 0
   ·rw [if_pos c11] at H
    exact absurd H (by simp)
   ·rw [if_neg c11] at H
    have c11b0 : (t185 == 0) = false := beq_eq_false_iff_ne.mpr c11
    have c11b1 : (t185 != 0) = true := bne_iff_ne.mpr c11
    replace H := Option.bind_eq_some_iff.mp H
    obtain ⟨⟨t187, t188⟩, A120, H⟩ := H
    replace H : ((raw_Row.f k (wrap64 (Int.tmod a0 3)) t184 t185 (wrap64 ((wrap64 (t185 - 1)) - (Int.tmod (wrap64 (a3)) t185)))).bind fun bt191 => (if (t188.length : Int) = (bt191.2.length : Int) then (smaltolaw05_RawMirror.j0 k t188 bt191.2 ((wrap64 ((wrap64 (t187 + (t188.length : Int))) - 1)) != (wrap64 ((wrap64 (t184 - 1)) - bt191.1)))) else (smaltolaw05_RawMirror.j0 k t188 bt191.2 true))) = some r := H
    have A12 := Aside0.mk A120
    clear A120
    replace H := Option.bind_eq_some_iff.mp H
    obtain ⟨⟨t191, t192⟩, A130, H⟩ := H
    replace H : (if (t188.length : Int) = (t192.length : Int) then (smaltolaw05_RawMirror.j0 k t188 t192 ((wrap64 ((wrap64 (t187 + (t188.length : Int))) - 1)) != (wrap64 ((wrap64 (t184 - 1)) - t191)))) else (smaltolaw05_RawMirror.j0 k t188 t192 true)) = some r := H
    have A13 := Aside0.mk A130
    clear A130
    have HC14 := Aside0.mk H
    clear H
    go_enter Tryd.func4, Tryd.ntmps4
    go_upto_region 10 with (first | (go_at_call 10; (with_reducible refine (smaltolaw05_Lives.calls k  true _ (by exact GL.below hG (by repeat (first | (with_reducible first | exact HB.out | apply below_alloc | apply pw_below_drewN | apply below_drew1) | exact HB.out | exact Below.refl _ _))) A5.out).mono ?_); rintro e w15 ⟨rfl, hb⟩; have n0_ := Aside0.mk (below_step (by repeat (first | (with_reducible first | exact HB.out | apply below_alloc | apply pw_below_drewN | apply below_drew1) | exact HB.out)) hb); clear HB; have HB := n0_; clear n0_; (try clear hb); (try clear hb2); (try clear hk); (try clear hi)) | (go_at_call 11; (with_reducible refine (smaltolaw05_side.calls a1 t184 _ A7.out).mono ?_); rintro e w' ⟨rfl, ⟨nd, rfl⟩⟩; (try first | exact ⟨rfl, _, World.drewN_drewN _ _ _⟩ | exact ⟨rfl, _, Eq.trans (World.drewN_drewN _ _ _) (congrArg (World.drewN _) (Nat.add_assoc _ _ _))⟩)) | (go_at_call 11; (with_reducible refine (smaltolaw05_side.calls a2 t185 _ A8.out).mono ?_); rintro e w' ⟨rfl, ⟨nd, rfl⟩⟩; (try first | exact ⟨rfl, _, World.drewN_drewN _ _ _⟩ | exact ⟨rfl, _, Eq.trans (World.drewN_drewN _ _ _) (congrArg (World.drewN _) (Nat.add_assoc _ _ _))⟩)) | (go_at_call 12; (with_reducible refine (smaltolaw05_small.calls t184 t185 true _ A9.out).mono ?_); rintro e w' ⟨rfl, ⟨nd, rfl⟩⟩; (try first | exact ⟨rfl, _, World.drewN_drewN _ _ _⟩ | exact ⟨rfl, _, Eq.trans (World.drewN_drewN _ _ _) (congrArg (World.drewN _) (Nat.add_assoc _ _ _))⟩)) | (go_at_call 13; (with_reducible refine (raw_Row.calls k (wrap64 (Int.tmod a0 3)) t184 t185 (Int.tmod (wrap64 (a3)) t185) t187 t188 _ (by exact GL.below hG (by repeat (first | (with_reducible first | exact HB.out | apply below_alloc | apply pw_below_drewN | apply below_drew1) | exact HB.out | exact Below.refl _ _))) A12.out).mono ?_); rintro e w16 ⟨v189, rfl, ho0, hb⟩; have n0_ := Aside0.mk (Kd.R_lower ho0 (below_size (by repeat (first | (with_reducible first | exact HB.out | apply below_alloc | apply pw_below_drewN | apply below_drew1) | exact HB.out)))); have n1_ := Aside0.mk (below_step (by repeat (first | (with_reducible first | exact HB.out | apply below_alloc | apply pw_below_drewN | apply below_drew1) | exact HB.out)) hb); clear HB; have HO190 := n0_; have HB := n1_; clear n0_ n1_; (try clear hb); (try clear hb2); (try clear hk); (try clear hi); (try clear ho0)) | (go_at_call 13; (with_reducible refine (raw_Row.calls k (wrap64 (Int.tmod a0 3)) t184 t185 (wrap64 ((wrap64 (t185 - 1)) - (Int.tmod (wrap64 (a3)) t185))) t191 t192 _ (by exact GL.below hG (by repeat (first | (with_reducible first | exact HB.out | apply below_alloc | apply pw_below_drewN | apply below_drew1) | exact HB.out | exact Below.refl _ _))) A13.out).mono ?_); rintro e w17 ⟨v193, rfl, ho0, hb⟩; have n0_ := Aside0.mk (Kd.R_elder' (by (with_reducible repeat (first | apply Kd.R_alloc | apply Kd.R_drewN | apply Kd.R_drew)); exact HO190.out) (Kd.R_base ho0) hb); have n1_ := Aside0.mk (Kd.R_lower (Kd.R_new' ho0 (Kd.R_lt (by (with_reducible repeat (first | apply Kd.R_alloc | apply Kd.R_drewN | apply Kd.R_drew)); exact HO190.out))) (below_size (by repeat (first | (with_reducible first | exact HB.out | apply below_alloc | apply pw_below_drewN | apply below_drew1) | exact HB.out)))); have n2_ := Aside0.mk (below_step (by repeat (first | (with_reducible first | exact HB.out | apply below_alloc | apply pw_below_drewN | apply below_drew1) | exact HB.out)) hb); clear HO190; clear HB; have HO190 := n0_; have HO194 := n1_; have HB := n2_; clear n0_ n1_ n2_; (try clear hb); (try clear hb2); (try clear hk); (try clear hi); (try clear ho0)))
    repeat (go_quiet (first | (go_at_call 10; (with_reducible refine (smaltolaw05_Lives.calls k  true _ (by exact GL.below hG (by repeat (first | (with_reducible first | exact HB.out | apply below_alloc | apply pw_below_drewN | apply below_drew1) | exact HB.out | exact Below.refl _ _))) A5.out).mono ?_); rintro e w15 ⟨rfl, hb⟩; have n0_ := Aside0.mk (below_step (by repeat (first | (with_reducible first | exact HB.out | apply below_alloc | apply pw_below_drewN | apply below_drew1) | exact HB.out)) hb); clear HB; have HB := n0_; clear n0_; (try clear hb); (try clear hb2); (try clear hk); (try clear hi)) | (go_at_call 11; (with_reducible refine (smaltolaw05_side.calls a1 t184 _ A7.out).mono ?_); rintro e w' ⟨rfl, ⟨nd, rfl⟩⟩; (try first | exact ⟨rfl, _, World.drewN_drewN _ _ _⟩ | exact ⟨rfl, _, Eq.trans (World.drewN_drewN _ _ _) (congrArg (World.drewN _) (Nat.add_assoc _ _ _))⟩)) | (go_at_call 11; (with_reducible refine (smaltolaw05_side.calls a2 t185 _ A8.out).mono ?_); rintro e w' ⟨rfl, ⟨nd, rfl⟩⟩; (try first | exact ⟨rfl, _, World.drewN_drewN _ _ _⟩ | exact ⟨rfl, _, Eq.trans (World.drewN_drewN _ _ _) (congrArg (World.drewN _) (Nat.add_assoc _ _ _))⟩)) | (go_at_call 12; (with_reducible refine (smaltolaw05_small.calls t184 t185 true _ A9.out).mono ?_); rintro e w' ⟨rfl, ⟨nd, rfl⟩⟩; (try first | exact ⟨rfl, _, World.drewN_drewN _ _ _⟩ | exact ⟨rfl, _, Eq.trans (World.drewN_drewN _ _ _) (congrArg (World.drewN _) (Nat.add_assoc _ _ _))⟩)) | (go_at_call 13; (with_reducible refine (raw_Row.calls k (wrap64 (Int.tmod a0 3)) t184 t185 (Int.tmod (wrap64 (a3)) t185) t187 t188 _ (by exact GL.below hG (by repeat (first | (with_reducible first | exact HB.out | apply below_alloc | apply pw_below_drewN | apply below_drew1) | exact HB.out | exact Below.refl _ _))) A12.out).mono ?_); rintro e w16 ⟨v189, rfl, ho0, hb⟩; have n0_ := Aside0.mk (Kd.R_lower ho0 (below_size (by repeat (first | (with_reducible first | exact HB.out | apply below_alloc | apply pw_below_drewN | apply below_drew1) | exact HB.out)))); have n1_ := Aside0.mk (below_step (by repeat (first | (with_reducible first | exact HB.out | apply below_alloc | apply pw_below_drewN | apply below_drew1) | exact HB.out)) hb); clear HB; have HO190 := n0_; have HB := n1_; clear n0_ n1_; (try clear hb); (try clear hb2); (try clear hk); (try clear hi); (try clear ho0)) | (go_at_call 13; (with_reducible refine (raw_Row.calls k (wrap64 (Int.tmod a0 3)) t184 t185 (wrap64 ((wrap64 (t185 - 1)) - (Int.tmod (wrap64 (a3)) t185))) t191 t192 _ (by exact GL.below hG (by repeat (first | (with_reducible first | exact HB.out | apply below_alloc | apply pw_below_drewN | apply below_drew1) | exact HB.out | exact Below.refl _ _))) A13.out).mono ?_); rintro e w17 ⟨v193, rfl, ho0, hb⟩; have n0_ := Aside0.mk (Kd.R_elder' (by (with_reducible repeat (first | apply Kd.R_alloc | apply Kd.R_drewN | apply Kd.R_drew)); exact HO190.out) (Kd.R_base ho0) hb); have n1_ := Aside0.mk (Kd.R_lower (Kd.R_new' ho0 (Kd.R_lt (by (with_reducible repeat (first | apply Kd.R_alloc | apply Kd.R_drewN | apply Kd.R_drew)); exact HO190.out))) (below_size (by repeat (first | (with_reducible first | exact HB.out | apply below_alloc | apply pw_below_drewN | apply below_drew1) | exact HB.out)))); have n2_ := Aside0.mk (below_step (by repeat (first | (with_reducible first | exact HB.out | apply below_alloc | apply pw_below_drewN | apply below_drew1) | exact HB.out)) hb); clear HO190; clear HB; have HO190 := n0_; have HO194 := n1_; have HB := n2_; clear n0_ n1_ n2_; (try clear hb); (try clear hb2); (try clear hk); (try clear hi); (try clear ho0))); go_upto_region 10 with (first | (go_at_call 10; (with_reducible refine (smaltolaw05_Lives.calls k  true _ (by exact GL.below hG (by repeat (first | (with_reducible first | exact HB.out | apply below_alloc | apply pw_below_drewN | apply below_drew1) | exact HB.out | exact Below.refl _ _))) A5.out).mono ?_); rintro e w15 ⟨rfl, hb⟩; have n0_ := Aside0.mk (below_step (by repeat (first | (with_reducible first | exact HB.out | apply below_alloc | apply pw_below_drewN | apply below_drew1) | exact HB.out)) hb); clear HB; have HB := n0_; clear n0_; (try clear hb); (try clear hb2); (try clear hk); (try clear hi)) | (go_at_call 11; (with_reducible refine (smaltolaw05_side.calls a1 t184 _ A7.out).mono ?_); rintro e w' ⟨rfl, ⟨nd, rfl⟩⟩; (try first | exact ⟨rfl, _, World.drewN_drewN _ _ _⟩ | exact ⟨rfl, _, Eq.trans (World.drewN_drewN _ _ _) (congrArg (World.drewN _) (Nat.add_assoc _ _ _))⟩)) | (go_at_call 11; (with_reducible refine (smaltolaw05_side.calls a2 t185 _ A8.out).mono ?_); rintro e w' ⟨rfl, ⟨nd, rfl⟩⟩; (try first | exact ⟨rfl, _, World.drewN_drewN _ _ _⟩ | exact ⟨rfl, _, Eq.trans (World.drewN_drewN _ _ _) (congrArg (World.drewN _) (Nat.add_assoc _ _ _))⟩)) | (go_at_call 12; (with_reducible refine (smaltolaw05_small.calls t184 t185 true _ A9.out).mono ?_); rintro e w' ⟨rfl, ⟨nd, rfl⟩⟩; (try first | exact ⟨rfl, _, World.drewN_drewN _ _ _⟩ | exact ⟨rfl, _, Eq.trans (World.drewN_drewN _ _ _) (congrArg (World.drewN _) (Nat.add_assoc _ _ _))⟩)) | (go_at_call 13; (with_reducible refine (raw_Row.calls k (wrap64 (Int.tmod a0 3)) t184 t185 (Int.tmod (wrap64 (a3)) t185) t187 t188 _ (by exact GL.below hG (by repeat (first | (with_reducible first | exact HB.out | apply below_alloc | apply pw_below_drewN | apply below_drew1) | exact HB.out | exact Below.refl _ _))) A12.out).mono ?_); rintro e w16 ⟨v189, rfl, ho0, hb⟩; have n0_ := Aside0.mk (Kd.R_lower ho0 (below_size (by repeat (first | (with_reducible first | exact HB.out | apply below_alloc | apply pw_below_drewN | apply below_drew1) | exact HB.out)))); have n1_ := Aside0.mk (below_step (by repeat (first | (with_reducible first | exact HB.out | apply below_alloc | apply pw_below_drewN | apply below_drew1) | exact HB.out)) hb); clear HB; have HO190 := n0_; have HB := n1_; clear n0_ n1_; (try clear hb); (try clear hb2); (try clear hk); (try clear hi); (try clear ho0)) | (go_at_call 13; (with_reducible refine (raw_Row.calls k (wrap64 (Int.tmod a0 3)) t184 t185 (wrap64 ((wrap64 (t185 - 1)) - (Int.tmod (wrap64 (a3)) t185))) t191 t192 _ (by exact GL.below hG (by repeat (first | (with_reducible first | exact HB.out | apply below_alloc | apply pw_below_drewN | apply below_drew1) | exact HB.out | exact Below.refl _ _))) A13.out).mono ?_); rintro e w17 ⟨v193, rfl, ho0, hb⟩; have n0_ := Aside0.mk (Kd.R_elder' (by (with_reducible repeat (first | apply Kd.R_alloc | apply Kd.R_drewN | apply Kd.R_drew)); exact HO190.out) (Kd.R_base ho0) hb); have n1_ := Aside0.mk (Kd.R_lower (Kd.R_new' ho0 (Kd.R_lt (by (with_reducible repeat (first | apply Kd.R_alloc | apply Kd.R_drewN | apply Kd.R_drew)); exact HO190.out))) (below_size (by repeat (first | (with_reducible first | exact HB.out | apply below_alloc | apply pw_below_drewN | apply below_drew1) | exact HB.out)))); have n2_ := Aside0.mk (below_step (by repeat (first | (with_reducible first | exact HB.out | apply below_alloc | apply pw_below_drewN | apply below_drew1) | exact HB.out)) hb); clear HO190; clear HB; have HO190 := n0_; have HO194 := n1_; have HB := n2_; clear n0_ n1_ n2_; (try clear hb); (try clear hb2); (try clear hk); (try clear hi); (try clear ho0))))
    (try simp only [Act.put, List.setIfInBounds_toArray, List.set_cons_zero, List.set_cons_succ])
    go_cut [70] (fun v70 wc => ∃ (kq : Nat) (x70_13 : Bool), v70 = .bool x70_13 ∧ Aside0 (smaltolaw05_RawMirror.j0 kq t188 t192 x70_13 = some r) ∧ Aside0 (kq ≤ k) ∧ Aside0 (Kd.R (Kd.int .i64) 2 wc w.heap.size (fun k_ => some k_ ≠ (v193 : Value).ownBlock) v189 t188) ∧ Aside0 (Kd.R (Kd.int .i64) 2 wc w.heap.size (fun k_ => some k_ ≠ (v189 : Value).ownBlock) v193 t192) ∧ Aside0 (Below w.heap.size w wc))
    case first =>
     have H := HC14.out
     clear HC14
     by_cases c18 : (t188.length : Int) = (t192.length : Int)
     ·rw [if_pos c18] at H
      have c18b0 : ((t188.length : Int) == (t192.length : Int)) = true := beq_iff_eq.mpr c18
      have c18b1 : ((t188.length : Int) != (t192.length : Int)) = false := bne_eq_false_iff_eq.mpr c18
      have c18b2 : (t188.length == t192.length) = true := by first | simpa using c18 | (simp at c18 ⊢; omega)
      clear c18
      (first | rw [c18b0] | (simp only [i64_w, i32_w]; rw [c18b0]) | skip)
      have H' := Aside0.mk H
      clear H
      obtain ⟨Ao19, co19, eo19⟩ := Kd.R_slice HO190.out
      subst eo19
      obtain ⟨Ao20, co20, eo20⟩ := Kd.R_slice HO194.out
      subst eo20
      go_wp2
      repeat (go_quiet (fail); try go_wp2)
      go_meet
      case rel => exact ⟨_, (((wrap64 ((wrap64 (t187 + (t188.length : Int))) - 1)) != (wrap64 ((wrap64 (t184 - 1)) - t191)))), (by first | rfl | (simp; done) | (simp [*]; done)), H', ⟨by first | omega | exact Nat.le_refl _⟩, ⟨by (with_reducible repeat (first | apply Kd.R_alloc | apply Kd.R_drewN | apply Kd.R_drew)); exact Kd.R_mono HO190.out (fun _ hk => hk.2)⟩, ⟨by (with_reducible repeat (first | apply Kd.R_alloc | apply Kd.R_drewN | apply Kd.R_drew)); exact Kd.R_mono HO194.out (fun _ hk => hk.2)⟩, ⟨by repeat (first | (with_reducible first | exact HB.out | apply below_alloc | apply pw_below_drewN | apply below_drew1) | exact HB.out)⟩⟩
     ·rw [if_neg c18] at H
      have c18b0 : ((t188.length : Int) == (t192.length : Int)) = false := beq_eq_false_iff_ne.mpr c18
      have c18b1 : ((t188.length : Int) != (t192.length : Int)) = true := bne_iff_ne.mpr c18
      have c18b2 : (t188.length == t192.length) = false := by first | simpa using c18 | (simp at c18 ⊢; omega)
      (first | rw [c18b0] | (simp only [i64_w, i32_w]; rw [c18b0]) | skip)
      have H' := Aside0.mk H
      clear H
      obtain ⟨Ao21, co21, eo21⟩ := Kd.R_slice HO190.out
      subst eo21
      obtain ⟨Ao22, co22, eo22⟩ := Kd.R_slice HO194.out
      subst eo22
      go_wp2
      repeat (go_quiet (fail); try go_wp2)
      go_meet
      case rel => exact ⟨_, (true), (by first | rfl | (simp; done) | (simp [*]; done)), H', ⟨by first | omega | exact Nat.le_refl _⟩, ⟨by (with_reducible repeat (first | apply Kd.R_alloc | apply Kd.R_drewN | apply Kd.R_drew)); exact Kd.R_mono HO190.out (fun _ hk => hk.2)⟩, ⟨by (with_reducible repeat (first | apply Kd.R_alloc | apply Kd.R_drewN | apply Kd.R_drew)); exact Kd.R_mono HO194.out (fun _ hk => hk.2)⟩, ⟨by repeat (first | (with_reducible first | exact HB.out | apply below_alloc | apply pw_below_drewN | apply below_drew1) | exact HB.out)⟩⟩
    case rest =>
     clear HC14
     try clear c1
     try clear p2
     try clear c4
     try clear c6
     try clear p6
     try clear c10
     try clear c11
     try clear c11b0
     try clear c11b1
     try clear c18
     try clear c18b0
     try clear c18b1
     try clear c18b2
     obtain ⟨kq, x70_13, rfl, HA, HJ13, HO_14, HO_16, HB⟩ := hcut
     cases kq with
     | zero => exact absurd HA.out (by simp [smaltolaw05_RawMirror.j0])
     | succ kj13 =>
      have H := HA.out
      clear HA
      simp only [smaltolaw05_RawMirror.j0] at H
      by_cases c23 : x70_13 = true
      ·subst c23
       have H1 : (some false) = some r := by rw [if_pos rfl] at H; exact H
       clear H
       have H := H1
       clear H1
       obtain rfl := Option.some.inj H
       go_wp2
       repeat (go_quiet (fail); try go_wp2)
       go_ret
       exact ⟨by first | rfl | (simp [errW_none, errW_some] <;> rfl) | (simp [*, errW_none, errW_some] <;> rfl), by repeat (first | (with_reducible first | exact HB.out | apply below_alloc | apply pw_below_drewN | apply below_drew1) | exact HB.out)⟩
      ·replace c23 := Bool.eq_false_iff.mpr c23
       subst c23
       have H1 : (smaltolaw05_RawMirror.l0 kj13 t188 t192 (t188.length : Int) 0) = some r := by rw [if_neg (show ¬ (false = true) by decide)] at H; exact H
       clear H
       have H := H1
       clear H1
       have H' := Aside0.mk H
       clear H
       obtain ⟨Ao24, co24, eo24⟩ := Kd.R_slice HO_14.out
       subst eo24
       go_wp2
       repeat (go_quiet (fail); try go_wp2)
       go_loopg [73] kj13 (fun kq v73 w' => ∃ (x73_2 : Int), v73 = .int .i64 x73_2 ∧ Aside0 (smaltolaw05_RawMirror.l0 kq t188 t192 (t188.length : Int) x73_2 = some r) ∧ Aside0 (kq ≤ kj13) ∧ Aside0 (Kd.R (Kd.int .i64) 2 w' w.heap.size (fun k_ => some k_ ≠ (v193 : Value).ownBlock) (.slice Ao24 t188.length co24) t188) ∧ Aside0 (Kd.R (Kd.int .i64) 2 w' w.heap.size (fun k_ => some k_ ≠ ((.slice Ao24 t188.length co24) : Value).ownBlock) v193 t192) ∧ Aside0 (Below w.heap.size w w'))
       case atStart => exact ⟨(0), (by first | rfl | (simp; done) | (simp [*]; done)), H', ⟨Nat.le_refl _⟩, ⟨by (with_reducible repeat (first | apply Kd.R_alloc | apply Kd.R_drewN | apply Kd.R_drew)); exact HO_14.out⟩, ⟨by (with_reducible repeat (first | apply Kd.R_alloc | apply Kd.R_drewN | apply Kd.R_drew)); exact HO_16.out⟩, ⟨by repeat (first | (with_reducible first | exact HB.out | apply below_alloc | apply pw_below_drewN | apply below_drew1) | exact HB.out)⟩⟩
       case round =>
        clear H'
        try clear c1
        try clear c2
        try clear p2
        try clear c4
        try clear c6
        try clear p6
        try clear c10
        try clear c11
        try clear c11b0
        try clear c11b1
        try clear c18
        try clear c18b0
        try clear c18b1
        try clear c18b2
        try clear c23
        try clear p2
        try clear p6
        obtain ⟨x73_2, rfl, HA, HK2, HO_14, HO_16, HB⟩ := hrel
        cases gk with
        | zero => exact absurd HA.out (by simp [smaltolaw05_RawMirror.l0])
        | succ k2 =>
         have H := HA.out
         clear HA
         simp only [smaltolaw05_RawMirror.l0] at H
         by_cases c25 : x73_2 < (t188.length : Int)
         ·rw [if_pos c25] at H
          have c25b0 : decide (x73_2 < (t188.length : Int)) = true := decide_eq_true c25
          clear c25
          by_cases c26 : 0 ≤ x73_2
          ·rw [if_pos c26] at H
           have c26b0 : decide (0 ≤ x73_2) = true := decide_eq_true c26
           clear c26
           by_cases c27 : x73_2 < (t188.length : Int)
           ·rw [if_pos c27] at H
            have c27b0 : decide (x73_2 < (t188.length : Int)) = true := decide_eq_true c27
            clear c27
            obtain ⟨ji28, hji28⟩ : ∃ j_ : Int, (wrap64 ((wrap64 ((t192.length : Int) - 1)) - x73_2)) = j_ := ⟨_, rfl⟩
            replace H : (if 0 ≤ (ji28) then (if (ji28) < (t192.length : Int) then (if (rd t188 x73_2) = (rd t192 (ji28)) then (smaltolaw05_RawMirror.l0 k2 t188 t192 (t188.length : Int) (wrap64 (x73_2 + 1))) else (some false)) else (none)) else (none)) = some r := by first | (rw [hji28] at H; exact H) | (simp only [hji28] at H ⊢; exact H)
            have hji28w : (IntKind.i64.wrap ((wrap64 ((t192.length : Int) - 1)) - x73_2)) = ji28 := (i64_w _).trans hji28
            by_cases c29 : 0 ≤ (ji28)
            ·rw [if_pos c29] at H
             have c29b0 : decide (0 ≤ (ji28)) = true := decide_eq_true c29
             clear c29
             by_cases c30 : (ji28) < (t192.length : Int)
             ·rw [if_pos c30] at H
              have c30b0 : decide ((ji28) < (t192.length : Int)) = true := decide_eq_true c30
              clear c30
              by_cases c31 : (rd t188 x73_2) = (rd t192 (ji28))
              ·rw [if_pos c31] at H
               have c31b0 : ((rd t188 x73_2) == (rd t192 (ji28))) = true := beq_iff_eq.mpr c31
               have c31b1 : ((rd t188 x73_2) != (rd t192 (ji28))) = false := bne_eq_false_iff_eq.mpr c31
               clear c31
               have H' := Aside0.mk H
               clear H
               have p195 : 0 ≤ (x73_2 : Int) := of_decide_eq_true (by first | (with_reducible assumption) | assumption)
               have q195 : x73_2 < (t188.length : Int) := of_decide_eq_true (by first | (with_reducible assumption) | assumption)
               obtain ⟨ad195, e195, hx195_0⟩ := Kd.at_int (Kd.R_reads' HO_14.out).2.2 x73_2 p195 q195
               cases e195
               replace p195 := eq_true p195
               replace q195 := eq_true q195
               obtain ⟨Ao32, co32, eo32⟩ := Kd.R_slice HO_16.out
               subst eo32
               have p196 : 0 ≤ ((ji28) : Int) := of_decide_eq_true (by first | (with_reducible assumption) | assumption)
               have q196 : (ji28) < (t192.length : Int) := of_decide_eq_true (by first | (with_reducible assumption) | assumption)
               obtain ⟨ad196, e196, hx196_0⟩ := Kd.at_int (Kd.R_reads' HO_16.out).2.2 (ji28) p196 q196
               cases e196
               replace p196 := eq_true p196
               replace q196 := eq_true q196
               go_wp2
               repeat (go_quiet (fail); try go_wp2)
               go_roundg k2
               case measure => have := HJ13.out; have := HK2.out; omega
               case rel => exact ⟨(wrap64 (x73_2 + 1)), (by first | rfl | (simp; done) | (simp [*]; done)), H', ⟨by have := HJ13.out; have := HK2.out; omega⟩, ⟨by (with_reducible repeat (first | apply Kd.R_alloc | apply Kd.R_drewN | apply Kd.R_drew)); exact HO_14.out⟩, ⟨by (with_reducible repeat (first | apply Kd.R_alloc | apply Kd.R_drewN | apply Kd.R_drew)); exact HO_16.out⟩, ⟨by repeat (first | (with_reducible first | exact HB.out | apply below_alloc | apply pw_below_drewN | apply below_drew1) | exact HB.out)⟩⟩
              ·rw [if_neg c31] at H
               have c31b0 : ((rd t188 x73_2) == (rd t192 (ji28))) = false := beq_eq_false_iff_ne.mpr c31
               have c31b1 : ((rd t188 x73_2) != (rd t192 (ji28))) = true := bne_iff_ne.mpr c31
               obtain rfl := Option.some.inj H
               have p195 : 0 ≤ (x73_2 : Int) := of_decide_eq_true (by first | (with_reducible assumption) | assumption)
               have q195 : x73_2 < (t188.length : Int) := of_decide_eq_true (by first | (with_reducible assumption) | assumption)
               obtain ⟨ad195, e195, hx195_0⟩ := Kd.at_int (Kd.R_reads' HO_14.out).2.2 x73_2 p195 q195
               cases e195
               replace p195 := eq_true p195
               replace q195 := eq_true q195
               obtain ⟨Ao33, co33, eo33⟩ := Kd.R_slice HO_16.out
               subst eo33
               have p196 : 0 ≤ ((ji28) : Int) := of_decide_eq_true (by first | (with_reducible assumption) | assumption)
               have q196 : (ji28) < (t192.length : Int) := of_decide_eq_true (by first | (with_reducible assumption) | assumption)
               obtain ⟨ad196, e196, hx196_0⟩ := Kd.at_int (Kd.R_reads' HO_16.out).2.2 (ji28) p196 q196
               cases e196
               replace p196 := eq_true p196
               replace q196 := eq_true q196
               go_wp2
               repeat (go_quiet (fail); try go_wp2)
               go_ret
               exact ⟨by first | rfl | (simp [errW_none, errW_some] <;> rfl) | (simp only [← hji28]; first | rfl | (simp [errW_none, errW_some] <;> rfl)) | (simp [*, errW_none, errW_some] <;> rfl), by repeat (first | (with_reducible first | exact HB.out | apply below_alloc | apply pw_below_drewN | apply below_drew1) | exact HB.out)⟩
             ·rw [if_neg c30] at H
              exact absurd H (by simp)
            ·rw [if_neg c29] at H
             exact absurd H (by simp)
           ·rw [if_neg c27] at H
            exact absurd H (by simp)
          ·rw [if_neg c26] at H
           exact absurd H (by simp)
         ·rw [if_neg c25] at H
          have c25b0 : decide (x73_2 < (t188.length : Int)) = false := decide_eq_false c25
          clear c25
          obtain rfl := Option.some.inj H
          go_wp2
          repeat (go_quiet (fail); try go_wp2)
          go_ret
          exact ⟨by first | rfl | (simp [errW_none, errW_some] <;> rfl) | (simp [*, errW_none, errW_some] <;> rfl), by repeat (first | (with_reducible first | exact HB.out | apply below_alloc | apply pw_below_drewN | apply below_drew1) | exact HB.out)⟩
  ·replace c10 := Bool.eq_false_iff.mpr c10
   subst c10
   have H1 : (some true) = some r := by rw [if_neg (show ¬ (false = true) by decide)] at H; exact H
   clear H
   have H := H1
   clear H1
   obtain rfl := Option.some.inj H
   go_enter Tryd.func4, Tryd.ntmps4
   go_wp2_with (first | (go_at_call 10; (with_reducible refine (smaltolaw05_Lives.calls k  true _ (by exact GL.below hG (by repeat (first | (with_reducible first | exact HB.out | apply below_alloc | apply pw_below_drewN | apply below_drew1) | exact HB.out | exact Below.refl _ _))) A5.out).mono ?_); rintro e w34 ⟨rfl, hb⟩; have n0_ := Aside0.mk (below_step (by repeat (first | (with_reducible first | exact HB.out | apply below_alloc | apply pw_below_drewN | apply below_drew1) | exact HB.out)) hb); clear HB; have HB := n0_; clear n0_; (try clear hb); (try clear hb2); (try clear hk); (try clear hi)) | (go_at_call 11; (with_reducible refine (smaltolaw05_side.calls a1 t184 _ A7.out).mono ?_); rintro e w' ⟨rfl, ⟨nd, rfl⟩⟩; (try first | exact ⟨rfl, _, World.drewN_drewN _ _ _⟩ | exact ⟨rfl, _, Eq.trans (World.drewN_drewN _ _ _) (congrArg (World.drewN _) (Nat.add_assoc _ _ _))⟩)) | (go_at_call 11; (with_reducible refine (smaltolaw05_side.calls a2 t185 _ A8.out).mono ?_); rintro e w' ⟨rfl, ⟨nd, rfl⟩⟩; (try first | exact ⟨rfl, _, World.drewN_drewN _ _ _⟩ | exact ⟨rfl, _, Eq.trans (World.drewN_drewN _ _ _) (congrArg (World.drewN _) (Nat.add_assoc _ _ _))⟩)) | (go_at_call 12; (with_reducible refine (smaltolaw05_small.calls t184 t185 false _ A9.out).mono ?_); rintro e w' ⟨rfl, ⟨nd, rfl⟩⟩; (try first | exact ⟨rfl, _, World.drewN_drewN _ _ _⟩ | exact ⟨rfl, _, Eq.trans (World.drewN_drewN _ _ _) (congrArg (World.drewN _) (Nat.add_assoc _ _ _))⟩)))
   repeat (go_quiet (first | (go_at_call 10; (with_reducible refine (smaltolaw05_Lives.calls k  true _ (by exact GL.below hG (by repeat (first | (with_reducible first | exact HB.out | apply below_alloc | apply pw_below_drewN | apply below_drew1) | exact HB.out | exact Below.refl _ _))) A5.out).mono ?_); rintro e w34 ⟨rfl, hb⟩; have n0_ := Aside0.mk (below_step (by repeat (first | (with_reducible first | exact HB.out | apply below_alloc | apply pw_below_drewN | apply below_drew1) | exact HB.out)) hb); clear HB; have HB := n0_; clear n0_; (try clear hb); (try clear hb2); (try clear hk); (try clear hi)) | (go_at_call 11; (with_reducible refine (smaltolaw05_side.calls a1 t184 _ A7.out).mono ?_); rintro e w' ⟨rfl, ⟨nd, rfl⟩⟩; (try first | exact ⟨rfl, _, World.drewN_drewN _ _ _⟩ | exact ⟨rfl, _, Eq.trans (World.drewN_drewN _ _ _) (congrArg (World.drewN _) (Nat.add_assoc _ _ _))⟩)) | (go_at_call 11; (with_reducible refine (smaltolaw05_side.calls a2 t185 _ A8.out).mono ?_); rintro e w' ⟨rfl, ⟨nd, rfl⟩⟩; (try first | exact ⟨rfl, _, World.drewN_drewN _ _ _⟩ | exact ⟨rfl, _, Eq.trans (World.drewN_drewN _ _ _) (congrArg (World.drewN _) (Nat.add_assoc _ _ _))⟩)) | (go_at_call 12; (with_reducible refine (smaltolaw05_small.calls t184 t185 false _ A9.out).mono ?_); rintro e w' ⟨rfl, ⟨nd, rfl⟩⟩; (try first | exact ⟨rfl, _, World.drewN_drewN _ _ _⟩ | exact ⟨rfl, _, Eq.trans (World.drewN_drewN _ _ _) (congrArg (World.drewN _) (Nat.add_assoc _ _ _))⟩))); try go_wp2_with (first | (go_at_call 10; (with_reducible refine (smaltolaw05_Lives.calls k  true _ (by exact GL.below hG (by repeat (first | (with_reducible first | exact HB.out | apply below_alloc | apply pw_below_drewN | apply below_drew1) | exact HB.out | exact Below.refl _ _))) A5.out).mono ?_); rintro e w34 ⟨rfl, hb⟩; have n0_ := Aside0.mk (below_step (by repeat (first | (with_reducible first | exact HB.out | apply below_alloc | apply pw_below_drewN | apply below_drew1) | exact HB.out)) hb); clear HB; have HB := n0_; clear n0_; (try clear hb); (try clear hb2); (try clear hk); (try clear hi)) | (go_at_call 11; (with_reducible refine (smaltolaw05_side.calls a1 t184 _ A7.out).mono ?_); rintro e w' ⟨rfl, ⟨nd, rfl⟩⟩; (try first | exact ⟨rfl, _, World.drewN_drewN _ _ _⟩ | exact ⟨rfl, _, Eq.trans (World.drewN_drewN _ _ _) (congrArg (World.drewN _) (Nat.add_assoc _ _ _))⟩)) | (go_at_call 11; (with_reducible refine (smaltolaw05_side.calls a2 t185 _ A8.out).mono ?_); rintro e w' ⟨rfl, ⟨nd, rfl⟩⟩; (try first | exact ⟨rfl, _, World.drewN_drewN _ _ _⟩ | exact ⟨rfl, _, Eq.trans (World.drewN_drewN _ _ _) (congrArg (World.drewN _) (Nat.add_assoc _ _ _))⟩)) | (go_at_call 12; (with_reducible refine (smaltolaw05_small.calls t184 t185 false _ A9.out).mono ?_); rintro e w' ⟨rfl, ⟨nd, rfl⟩⟩; (try first | exact ⟨rfl, _, World.drewN_drewN _ _ _⟩ | exact ⟨rfl, _, Eq.trans (World.drewN_drewN _ _ _) (congrArg (World.drewN _) (Nat.add_assoc _ _ _))⟩))))
   go_ret
   exact ⟨by first | rfl | (simp [errW_none, errW_some] <;> rfl) | (simp [*, errW_none, errW_some] <;> rfl), by repeat (first | (with_reducible first | exact HB.out | apply below_alloc | apply pw_below_drewN | apply below_drew1) | exact HB.out)⟩
 ·replace c6 := Bool.eq_false_iff.mpr c6
  subst c6
  have H1 : (some false) = some r := by rw [if_neg (show ¬ (false = true) by decide)] at H; exact H
  clear H
  have H := H1
  clear H1
  obtain rfl := Option.some.inj H
  go_enter Tryd.func4, Tryd.ntmps4
  go_wp2_with (first | (go_at_call 10; (with_reducible refine (smaltolaw05_Lives.calls k  false _ (by exact GL.below hG (by repeat (first | (with_reducible first | exact HB.out | apply below_alloc | apply pw_below_drewN | apply below_drew1) | exact HB.out | exact Below.refl _ _))) A5.out).mono ?_); rintro e w35 ⟨rfl, hb⟩; have n0_ := Aside0.mk (below_step (by repeat (first | (with_reducible first | exact HB.out | apply below_alloc | apply pw_below_drewN | apply below_drew1) | exact HB.out)) hb); clear HB; have HB := n0_; clear n0_; (try clear hb); (try clear hb2); (try clear hk); (try clear hi)))
  repeat (go_quiet (first | (go_at_call 10; (with_reducible refine (smaltolaw05_Lives.calls k  false _ (by exact GL.below hG (by repeat (first | (with_reducible first | exact HB.out | apply below_alloc | apply pw_below_drewN | apply below_drew1) | exact HB.out | exact Below.refl _ _))) A5.out).mono ?_); rintro e w35 ⟨rfl, hb⟩; have n0_ := Aside0.mk (below_step (by repeat (first | (with_reducible first | exact HB.out | apply below_alloc | apply pw_below_drewN | apply below_drew1) | exact HB.out)) hb); clear HB; have HB := n0_; clear n0_; (try clear hb); (try clear hb2); (try clear hk); (try clear hi))); try go_wp2_with (first | (go_at_call 10; (with_reducible refine (smaltolaw05_Lives.calls k  false _ (by exact GL.below hG (by repeat (first | (with_reducible first | exact HB.out | apply below_alloc | apply pw_below_drewN | apply below_drew1) | exact HB.out | exact Below.refl _ _))) A5.out).mono ?_); rintro e w35 ⟨rfl, hb⟩; have n0_ := Aside0.mk (below_step (by repeat (first | (with_reducible first | exact HB.out | apply below_alloc | apply pw_below_drewN | apply below_drew1) | exact HB.out)) hb); clear HB; have HB := n0_; clear n0_; (try clear hb); (try clear hb2); (try clear hk); (try clear hi))))
  go_ret
  exact ⟨by first | rfl | (simp [errW_none, errW_some] <;> rfl) | (simp [*, errW_none, errW_some] <;> rfl), by repeat (first | (with_reducible first | exact HB.out | apply below_alloc | apply pw_below_drewN | apply below_drew1) | exact HB.out)⟩

/-- THE ONE PURE STATEMENT of smaltolaw05_RawMirror: yours. -/
def smaltolaw05_RawMirror.Pure : Prop := ∀ (a0 : Int) (a1 : Int) (a2 : Int) (a3 : Int), (Lit.int .u8 a0).wf = true → (Lit.int .u32 a1).wf = true → (Lit.int .u32 a2).wf = true → (Lit.int .u32 a3).wf = true → ∃ k, smaltolaw05_RawMirror.f k a0 a1 a2 a3 = some true
theorem smaltolaw05_RawMirror.walk (P : smaltolaw05_RawMirror.Pure) (a0 : Int) (a1 : Int) (a2 : Int) (a3 : Int) (w : World) (hG : GL w) (w0 : (Lit.int .u8 a0).wf = true) (w1 : (Lit.int .u32 a1).wf = true) (w2 : (Lit.int .u32 a2).wf = true) (w3 : (Lit.int .u32 a3).wf = true) :
  Calls Tryd.prog 4 #[.int .u8 a0, .int .u32 a1, .int .u32 a2, .int .u32 a3] w fun e w' => e = .returned (.bool true) ∧ Below w.heap.size w w' := by
 obtain ⟨k, h⟩ := P a0 a1 a2 a3 w0 w1 w2 w3
 refine (smaltolaw05_RawMirror.calls k a0 a1 a2 a3 true w hG h).mono ?_
 rintro e w' ⟨rfl, hd⟩
 exact ⟨rfl, hd⟩

/-! ### raw_Name_at0: function 17 -/
def raw_Name_at0.f : Option (ByteArray) := some (⟨#[98, 111, 120]⟩ : ByteArray)
set_option maxHeartbeats 8000000 in
set_option maxRecDepth 100000 in
theorem raw_Name_at0.calls (r : ByteArray) (w : World) (hG : GL w) (h : raw_Name_at0.f = some r) :
  Calls Tryd.prog 17 #[.int .i64 0] w fun e w' => e = .returned (.string r) ∧ Drawn0 w w' := by
 have H : (some (⟨#[98, 111, 120]⟩ : ByteArray)) = some r := h
 clear h
 obtain ⟨h0_0, h0_1, h0_2, h0_3, h0_4, h0_5⟩ := hG
 obtain rfl := Option.some.inj H
 go_enter Tryd.func17, Tryd.ntmps17
 go_wp2
 go_ret
 exact ⟨by first | rfl | (simp; done) | (simp [*]; done), by repeat (first | exact Drawn0.refl _ | apply Drawn0.step)⟩

/-! ### raw_Name_at1: function 17 -/
def raw_Name_at1.f : Option (ByteArray) := some (⟨#[99, 117, 98, 105, 99]⟩ : ByteArray)
set_option maxHeartbeats 8000000 in
set_option maxRecDepth 100000 in
theorem raw_Name_at1.calls (r : ByteArray) (w : World) (hG : GL w) (h : raw_Name_at1.f = some r) :
  Calls Tryd.prog 17 #[.int .i64 1] w fun e w' => e = .returned (.string r) ∧ Drawn0 w w' := by
 have H : (some (⟨#[99, 117, 98, 105, 99]⟩ : ByteArray)) = some r := h
 clear h
 obtain ⟨h0_0, h0_1, h0_2, h0_3, h0_4, h0_5⟩ := hG
 obtain rfl := Option.some.inj H
 go_enter Tryd.func17, Tryd.ntmps17
 go_wp2
 go_ret
 exact ⟨by first | rfl | (simp; done) | (simp [*]; done), by repeat (first | exact Drawn0.refl _ | apply Drawn0.step)⟩

/-! ### raw_Name_at2: function 17 -/
def raw_Name_at2.f : Option (ByteArray) := some (⟨#[108, 97, 110, 99, 122, 111, 115]⟩ : ByteArray)
set_option maxHeartbeats 8000000 in
set_option maxRecDepth 100000 in
theorem raw_Name_at2.calls (r : ByteArray) (w : World) (hG : GL w) (h : raw_Name_at2.f = some r) :
  Calls Tryd.prog 17 #[.int .i64 2] w fun e w' => e = .returned (.string r) ∧ Drawn0 w w' := by
 have H : (some (⟨#[108, 97, 110, 99, 122, 111, 115]⟩ : ByteArray)) = some r := h
 clear h
 obtain ⟨h0_0, h0_1, h0_2, h0_3, h0_4, h0_5⟩ := hG
 obtain rfl := Option.some.inj H
 go_enter Tryd.func17, Tryd.ntmps17
 go_wp2
 go_ret
 exact ⟨by first | rfl | (simp; done) | (simp [*]; done), by repeat (first | exact Drawn0.refl _ | apply Drawn0.step)⟩

end Go.Proofs.YtbkbgpileogehaaDoor.QA
