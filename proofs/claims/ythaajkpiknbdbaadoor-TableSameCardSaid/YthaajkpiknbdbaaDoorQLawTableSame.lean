/- A side that stays as it is has one tap for each sample; so has a resize of it by Box, and, by Cubic, one that isn't nothing: of at most 200 samples, by the law's own guard. -/
-- Began as the kit's print of another law's row (print.py); turned by wip/tools/hrow.py.
import Derived.Test.YthaajkpiknbdbaaDoorRows
import Derived.Test.YthaajkpiknbdbaaDoorTSame
import Derived.Test.YthaajkpiknbdbaaDoorTLaid
import Derived.Test.YthaajkpiknbdbaaDoorCards
import Derived.Test.YthaajkpiknbdbaaDoorTie
import Derived.LaidMore
import Derived.Lay
import Derived.SevenTiedAt
import Derived.ChangeSame
import Derived.WalkKit
import Derived.ProofKit
import Derived.OpenShut
import Derived.ShutString
import Derived.ChangeOld
import Derived.Below
import Derived.SizedLaws
namespace Go.Proofs.YthaajkpiknbdbaaDoor.tableSame
open Go.ChangeShapes Go.WideShapes Go.ChangeAt Go.RowKit
open Go.ChangeMaps (open_string shut_string)
set_option linter.unusedVariables false
theorem own : ownKnob Tryd.prog.godebug = none := by kernel_rfl
set_option maxRecDepth 100000 in
theorem lifted (os : Os) (started : os.Started) (H : Type) (enc : TypeId × Value → H) :
    ReturnsInHanded {} Tryd.checked os 7 .any (fun w args => (Rows.tableSameSpec.pre enc Tryd.prog Tryd.f7 Rows.tableSameRow.domain false w args ∧ laidMetH Tryd.prog [("smalto/raw.kinds", Rows.laid_smalto_raw_kinds)] w) ∧ sizedMet enc Tryd.prog Tryd.f7 (OpenSpec.ofChange Rows.tableSameSpec) false w args) (Rows.tableSameSpec.post enc Tryd.prog Tryd.f7 false true false false) := by
  refine returnsInHanded_of_change_and (C := Tryd.checked) (X := (fun w _ => laidMetH Tryd.prog [("smalto/raw.kinds", Rows.laid_smalto_raw_kinds)] w)) (fun _ _ _ hh h => h.of_heap hh) own started (by kernel_rfl) Tryd.func7
    (ChangeSpec.witness_shaped (enc := enc) (C := Tryd.checked) (os := os) (X := (fun w _ => laidMetH Tryd.prog [("smalto/raw.kinds", Rows.laid_smalto_raw_kinds)] w)) false (World.laidAll Tryd.prog os [("smalto/raw.kinds", Rows.laid_smalto_raw_kinds)]) #[.int .i64 0] 8 (World.laidAll_os _ _ _)
      (World.shaped_of_ZipB (by kernel_rfl) (by kernel_rfl)) (by kernel_rfl) (by kernel_rfl) (by kernel_rfl) (T.laid_witness os _)) ?_
  intro W base args ds gs before hval0 hW hcnd _ hL _
  have hG := T.gl_of_laid hL
  have hval : ∀ (j : Nat) t v, Tryd.f7.params[j]? = some t → args[j]? = some v → Value.okWide Tryd.prog W .any base t v := hval0
  have hW' := hW
  obtain ⟨p, q, hA0, hV, rfl, hfz, hnd⟩ := hW
  have hA : DataW.TrodAll enc Tryd.prog W 0 (fun _ => true) true Tryd.f7.params.toList args.toList ds p := hA0
  rw [Tryd.params7] at hA hval
  obtain ⟨v0, vs0, d0, ds0, p0, q0, hargs, rfl, rfl, h0, r0⟩ := trodAll_cons hA
  obtain ⟨rfl, rfl, rfl⟩ := trodAll_nil r0
  obtain rfl : args = #[v0] := by cases args; simp_all
  obtain ⟨rfl, rfl⟩ := trodVars_none hV
  obtain ⟨a0, rfl, rfl, rfl, w0⟩ := open_int Tryd.underlying3 (hval 0 3 v0 rfl rfl) h0
  clear hA0 hval0
  refine (QA.tableSame_calls a0 W hG).mono fun e W' ⟨he, bel⟩ => ?_
  subst he
  exact ⟨_, rfl, _, _, _, [], _, [], hW', trodAll_mk1 (shut_bool Tryd.underlying4 _), (trodAll_cons_mk (shut_int Tryd.underlying3 w0) trodAll_mk0), rfl, bel.frame _, fun h => by cases h⟩
theorem over : Rows.tableSameRow.holds Tryd.pinned (OpenSpec.ofChange Rows.tableSameSpec) :=
  OpenClaim.holds_of_wide 7 Tryd.f7 rfl rfl rfl rfl rfl rfl rfl ⟨rfl, rfl, rfl, rfl, rfl⟩ rfl rfl rfl rfl rfl (by kernel_rfl) Tryd.func7 (by kernel_rfl)
    (of_decide_eq_true (by kernel_rfl)) (by unfold Func.isWrapper; first | (rw [if_pos (by decide +kernel)]; kernel_rfl) | (rw [if_neg (by decide +kernel)]; exact ⟨rfl, rfl⟩))
    (fun os started H enc _ => lifted os started H enc)
theorem proved : Rows.TableSameSaid := over
theorem card : Rows.TableSameCardSaid :=
  Claim7.holds_tied_plain_at .later [] [.data] true (true, "31a94ad5d5320144cb817fe29109e9275821823b2ed1df774c10412f61153e1b") false proved (fun _ h => by cases h) (by kernel_rfl) (fun _ h => by cases h) tableSame_row_tie rfl ⟨rfl, rfl⟩ (by kernel_rfl) rfl
    (fun f fn hf hfn => by
      obtain rfl : f = 7 := Option.some.inj ((show Tryd.prog.funcNamed "smalto/smaltolaw08.TableSame" = some 7 by kernel_rfl).symm.trans hf) |>.symm
      obtain rfl : fn = Tryd.f7 := (Option.some.inj (Tryd.func7.symm.trans hfn)).symm
      exact ⟨by kernel_rfl, fun j t ht => by
        rw [Tryd.params7] at ht
        have hm : t ∈ [3] := by simpa using Array.mem_of_getElem? ht
        have hall : ([3].all fun u => !Tryd.prog.wantsStandIn u) = true := by kernel_rfl
        exact (show Tryd.prog.wantsStandIn t = false by simpa using List.all_eq_true.1 hall t hm)⟩)
    (by kernel_rfl)
#print axioms proved
#print axioms card
end Go.Proofs.YthaajkpiknbdbaaDoor.tableSame
namespace Go.Proofs.YthaajkpiknbdbaaDoor
/-- The row, under a short name, for the claim. -/
theorem tableSame_holds : Rows.TableSameSaid := tableSame.proved
/-- The tied card. -/
theorem tableSame_card_holds : Rows.TableSameCardSaid := tableSame.card
end Go.Proofs.YthaajkpiknbdbaaDoor
