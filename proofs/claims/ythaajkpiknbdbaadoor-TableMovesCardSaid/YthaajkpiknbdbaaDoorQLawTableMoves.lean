/- First never falls from one output to the next, and a window never ends sooner: no condition. -/
-- Began as the kit's print of another law's row (print.py); turned by wip/tools/hrow.py.
import Derived.Test.YthaajkpiknbdbaaDoorRows
import Derived.Test.YthaajkpiknbdbaaDoorTM
import Derived.Test.YthaajkpiknbdbaaDoorTLaid
import Derived.Test.YthaajkpiknbdbaaDoorCards
import Derived.Test.YthaajkpiknbdbaaDoorTie
import Derived.LaidMore
import Derived.Lay
import Derived.SevenTiedAt
import Derived.ChangeSame
import Derived.WalkKit
import Derived.ProofKit
import Derived.OpenShut
import Derived.ShutString
import Derived.ChangeOld
import Derived.Below
import Derived.SizedLaws
namespace Go.Proofs.YthaajkpiknbdbaaDoor.tableMoves
open Go.ChangeShapes Go.WideShapes Go.ChangeAt Go.RowKit
open Go.ChangeMaps (open_string shut_string)
set_option linter.unusedVariables false
theorem own : ownKnob Tryd.prog.godebug = none := by kernel_rfl
set_option maxRecDepth 100000 in
theorem lifted (os : Os) (started : os.Started) (H : Type) (enc : TypeId × Value → H) :
    ReturnsInHanded {} Tryd.checked os 3 .any (fun w args => (Rows.tableMovesSpec.pre enc Tryd.prog Tryd.f3 Rows.tableMovesRow.domain false w args ∧ laidMetH Tryd.prog [("smalto/raw.kinds", Rows.laid_smalto_raw_kinds)] w) ∧ sizedMet enc Tryd.prog Tryd.f3 (OpenSpec.ofChange Rows.tableMovesSpec) false w args) (Rows.tableMovesSpec.post enc Tryd.prog Tryd.f3 false true false false) := by
  refine returnsInHanded_of_change_and (C := Tryd.checked) (X := (fun w _ => laidMetH Tryd.prog [("smalto/raw.kinds", Rows.laid_smalto_raw_kinds)] w)) (fun _ _ _ hh h => h.of_heap hh) own started (by kernel_rfl) Tryd.func3
    (ChangeSpec.witness_shaped (enc := enc) (C := Tryd.checked) (os := os) (X := (fun w _ => laidMetH Tryd.prog [("smalto/raw.kinds", Rows.laid_smalto_raw_kinds)] w)) false (World.laidAll Tryd.prog os [("smalto/raw.kinds", Rows.laid_smalto_raw_kinds)]) #[.int .u8 0, .int .u16 0, .int .u16 0] 8 (World.laidAll_os _ _ _)
      (World.shaped_of_ZipB (by kernel_rfl) (by kernel_rfl)) (by kernel_rfl) (by kernel_rfl) (by kernel_rfl) (T.laid_witness os _)) ?_
  intro W base args ds gs before hval0 hW hcnd _ hL _
  have hG := T.gl_of_laid hL
  have hval : ∀ (j : Nat) t v, Tryd.f3.params[j]? = some t → args[j]? = some v → Value.okWide Tryd.prog W .any base t v := hval0
  have hW' := hW
  obtain ⟨p, q, hA0, hV, rfl, hfz, hnd⟩ := hW
  have hA : DataW.TrodAll enc Tryd.prog W 0 (fun _ => true) true Tryd.f3.params.toList args.toList ds p := hA0
  rw [Tryd.params3] at hA hval
  obtain ⟨v0, vs0, d0, ds0, p0, q0, hargs, rfl, rfl, h0, r0⟩ := trodAll_cons hA
  obtain ⟨v1, vs1, d1, ds1, p1, q1, rfl, rfl, rfl, h1, r1⟩ := trodAll_cons r0
  obtain ⟨v2, vs2, d2, ds2, p2, q2, rfl, rfl, rfl, h2, r2⟩ := trodAll_cons r1
  obtain ⟨rfl, rfl, rfl⟩ := trodAll_nil r2
  obtain rfl : args = #[v0, v1, v2] := by cases args; simp_all
  obtain ⟨rfl, rfl⟩ := trodVars_none hV
  obtain ⟨a0, rfl, rfl, rfl, w0⟩ := open_int Tryd.underlying5 (hval 0 5 v0 rfl rfl) h0
  obtain ⟨a1, rfl, rfl, rfl, w1⟩ := open_int Tryd.underlying22 (hval 1 22 v1 rfl rfl) h1
  obtain ⟨a2, rfl, rfl, rfl, w2⟩ := open_int Tryd.underlying22 (hval 2 22 v2 rfl rfl) h2
  clear hA0 hval0
  refine (QA.tableMoves_calls a0 a1 a2 (T.wfu8 w0) (T.wfu16 w1) (T.wfu16 w2) W hG).mono fun e W' ⟨he, bel⟩ => ?_
  subst he
  exact ⟨_, rfl, _, _, _, [], _, [], hW', trodAll_mk1 (shut_bool Tryd.underlying4 _), (trodAll_cons_mk (shut_int Tryd.underlying5 w0) (trodAll_cons_mk (shut_int Tryd.underlying22 w1) (trodAll_cons_mk (shut_int Tryd.underlying22 w2) trodAll_mk0))), rfl, bel.frame _, fun h => by cases h⟩
theorem over : Rows.tableMovesRow.holds Tryd.pinned (OpenSpec.ofChange Rows.tableMovesSpec) :=
  OpenClaim.holds_of_wide 3 Tryd.f3 rfl rfl rfl rfl rfl rfl rfl ⟨rfl, rfl, rfl, rfl, rfl⟩ rfl rfl rfl rfl rfl (by kernel_rfl) Tryd.func3 (by kernel_rfl)
    (of_decide_eq_true (by kernel_rfl)) (by unfold Func.isWrapper; first | (rw [if_pos (by decide +kernel)]; kernel_rfl) | (rw [if_neg (by decide +kernel)]; exact ⟨rfl, rfl⟩))
    (fun os started H enc _ => lifted os started H enc)
theorem proved : Rows.TableMovesSaid := over
theorem card : Rows.TableMovesCardSaid :=
  Claim7.holds_tied_plain_at .later [] [.data] true (true, "31a94ad5d5320144cb817fe29109e9275821823b2ed1df774c10412f61153e1b") false proved (fun _ h => by cases h) (by kernel_rfl) (fun _ h => by cases h) tableMoves_row_tie rfl ⟨rfl, rfl⟩ (by kernel_rfl) rfl
    (fun f fn hf hfn => by
      obtain rfl : f = 3 := Option.some.inj ((show Tryd.prog.funcNamed "smalto/smaltolaw08.TableMoves" = some 3 by kernel_rfl).symm.trans hf) |>.symm
      obtain rfl : fn = Tryd.f3 := (Option.some.inj (Tryd.func3.symm.trans hfn)).symm
      exact ⟨by kernel_rfl, fun j t ht => by
        rw [Tryd.params3] at ht
        have hm : t ∈ [5, 22, 22] := by simpa using Array.mem_of_getElem? ht
        have hall : ([5, 22, 22].all fun u => !Tryd.prog.wantsStandIn u) = true := by kernel_rfl
        exact (show Tryd.prog.wantsStandIn t = false by simpa using List.all_eq_true.1 hall t hm)⟩)
    (by kernel_rfl)
#print axioms proved
#print axioms card
end Go.Proofs.YthaajkpiknbdbaaDoor.tableMoves
namespace Go.Proofs.YthaajkpiknbdbaaDoor
/-- The row, under a short name, for the claim. -/
theorem tableMoves_holds : Rows.TableMovesSaid := tableMoves.proved
/-- The tied card. -/
theorem tableMoves_card_holds : Rows.TableMovesCardSaid := tableMoves.card
end Go.Proofs.YthaajkpiknbdbaaDoor
