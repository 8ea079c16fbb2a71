/- Of any sum what comes out is the document's, by any greatest sample, and never above it: for every sum and greatest sample, what the listed variables hold being as laid. -/
-- Began as the kit's print of another law's row (print.py); turned by wip/tools/hrow.py.
import Derived.Test.YtjenkaobmlpbgaaGreatDoorRows
import Derived.Test.YtjenkaobmlpbgaaGreatDoorBDirectRounds11
import Derived.Test.YtjenkaobmlpbgaaGreatDoorBDirectRounds12
import Derived.Test.YtjenkaobmlpbgaaGreatDoorCards
import Derived.Test.YtjenkaobmlpbgaaGreatDoorTie
import Derived.LaidMore
import Derived.Lay
import Derived.SevenTiedAt
import Derived.ChangeSame
import Derived.WalkKit
import Derived.ProofKit
import Derived.OpenShut
import Derived.ShutString
import Derived.ChangeOld
import Derived.Below
import Derived.SizedLaws
namespace Go.Proofs.YtjenkaobmlpbgaaGreatDoor.directRounds
open Go.ChangeShapes Go.WideShapes Go.ChangeAt Go.RowKit
open Go.ChangeMaps (open_string shut_string)
set_option linter.unusedVariables false
theorem own : ownKnob Tryz.prog.godebug = none := by kernel_rfl
set_option maxRecDepth 100000 in
theorem lifted (os : Os) (started : os.Started) (H : Type) (enc : TypeId × Value → H) :
    ReturnsInHanded {} Tryz.checked os 3 .any (fun w args => (Rows.directRoundsSpec.pre enc Tryz.prog Tryz.f3 Rows.directRoundsRow.domain false w args ∧ laidMetH Tryz.prog [("smalto/border.names", Rows.laid_smalto_border_names), ("smalto/raw.kinds", Rows.laid_smalto_raw_kinds)] w) ∧ sizedMet enc Tryz.prog Tryz.f3 (OpenSpec.ofChange Rows.directRoundsSpec) false w args) (Rows.directRoundsSpec.post enc Tryz.prog Tryz.f3 false true false false) := by
  refine returnsInHanded_of_change_and (C := Tryz.checked) (X := (fun w _ => laidMetH Tryz.prog [("smalto/border.names", Rows.laid_smalto_border_names), ("smalto/raw.kinds", Rows.laid_smalto_raw_kinds)] w)) (fun _ _ _ hh h => h.of_heap hh) own started (by kernel_rfl) Tryz.func3
    (ChangeSpec.witness_shaped (enc := enc) (C := Tryz.checked) (os := os) (X := (fun w _ => laidMetH Tryz.prog [("smalto/border.names", Rows.laid_smalto_border_names), ("smalto/raw.kinds", Rows.laid_smalto_raw_kinds)] w)) false (World.laidAll Tryz.prog os [("smalto/border.names", Rows.laid_smalto_border_names), ("smalto/raw.kinds", Rows.laid_smalto_raw_kinds)]) #[.int .i64 0, .int .i64 0] 8 (World.laidAll_os _ _ _)
      (World.shaped_of_ZipB (by kernel_rfl) (by kernel_rfl)) (by kernel_rfl) (by kernel_rfl) (by kernel_rfl) (T.laid_witness os _)) ?_
  intro W base args ds gs before hval0 hW hcnd _ hL _
  have hG := T.gl_of_laid hL
  have hval : ∀ (j : Nat) t v, Tryz.f3.params[j]? = some t → args[j]? = some v → Value.okWide Tryz.prog W .any base t v := hval0
  have hW' := hW
  obtain ⟨p, q, hA0, hV, rfl, hfz, hnd⟩ := hW
  have hA : DataW.TrodAll enc Tryz.prog W 0 (fun _ => true) true Tryz.f3.params.toList args.toList ds p := hA0
  rw [Tryz.params3] at hA hval
  obtain ⟨v0, vs0, d0, ds0, p0, q0, hargs, rfl, rfl, h0, r0⟩ := trodAll_cons hA
  obtain ⟨v1, vs1, d1, ds1, p1, q1, rfl, rfl, rfl, h1, r1⟩ := trodAll_cons r0
  obtain ⟨rfl, rfl, rfl⟩ := trodAll_nil r1
  obtain rfl : args = #[v0, v1] := by cases args; simp_all
  obtain ⟨rfl, rfl⟩ := trodVars_none hV
  obtain ⟨a0, rfl, rfl, rfl, w0⟩ := open_int Tryz.underlying2 (hval 0 2 v0 rfl rfl) h0
  obtain ⟨a1, rfl, rfl, rfl, w1⟩ := open_int Tryz.underlying3 (hval 1 3 v1 rfl rfl) h1
  clear hA0 hval0
  refine (QA.directRounds_calls a0 a1 (T.wf64 w0) (T.wf64 w1) W hG).mono fun e W' ⟨he, bel⟩ => ?_
  subst he
  exact ⟨_, rfl, _, _, _, [], _, [], hW', trodAll_mk1 (shut_bool Tryz.underlying4 _), (trodAll_cons_mk (shut_int Tryz.underlying2 w0) (trodAll_cons_mk (shut_int Tryz.underlying3 w1) trodAll_mk0)), rfl, bel.frame _, fun h => by cases h⟩
theorem over : Rows.directRoundsRow.holds Tryz.pinned (OpenSpec.ofChange Rows.directRoundsSpec) :=
  OpenClaim.holds_of_wide 3 Tryz.f3 rfl rfl rfl rfl rfl rfl rfl ⟨rfl, rfl, rfl, rfl, rfl⟩ rfl rfl rfl rfl rfl (by kernel_rfl) Tryz.func3 (by kernel_rfl)
    (of_decide_eq_true (by kernel_rfl)) (by unfold Func.isWrapper; first | (rw [if_pos (by decide +kernel)]; kernel_rfl) | (rw [if_neg (by decide +kernel)]; exact ⟨rfl, rfl⟩))
    (fun os started H enc _ => lifted os started H enc)
theorem proved : Rows.DirectRoundsSaid := over
theorem card : Rows.DirectRoundsCardSaid :=
  Claim7.holds_tied_plain_at .later [] [.widerDeep, .data] true (true, "c587eaba8152460e675997815ba745e8a4f1754ef17303847bfa922c576b6eca") false proved (fun _ h => by cases h) (by kernel_rfl) (fun _ h => by cases h) directRounds_row_tie rfl ⟨rfl, rfl⟩ (by kernel_rfl) rfl
    (fun f fn hf hfn => by
      obtain rfl : f = 3 := Option.some.inj ((show Tryz.prog.funcNamed "smalto/smaltolaw15.DirectRounds" = some 3 by kernel_rfl).symm.trans hf) |>.symm
      obtain rfl : fn = Tryz.f3 := (Option.some.inj (Tryz.func3.symm.trans hfn)).symm
      exact ⟨by kernel_rfl, fun j t ht => by
        rw [Tryz.params3] at ht
        have hm : t ∈ [2, 3] := by simpa using Array.mem_of_getElem? ht
        have hall : ([2, 3].all fun u => !Tryz.prog.wantsStandIn u) = true := by kernel_rfl
        exact (show Tryz.prog.wantsStandIn t = false by simpa using List.all_eq_true.1 hall t hm)⟩)
    (by kernel_rfl)
#print axioms proved
#print axioms card
end Go.Proofs.YtjenkaobmlpbgaaGreatDoor.directRounds
namespace Go.Proofs.YtjenkaobmlpbgaaGreatDoor
/-- The row, under a short name, for the claim. -/
theorem directRounds_holds : Rows.DirectRoundsSaid := directRounds.proved
/-- The tied card. -/
theorem directRounds_card_holds : Rows.DirectRoundsCardSaid := directRounds.card
end Go.Proofs.YtjenkaobmlpbgaaGreatDoor
