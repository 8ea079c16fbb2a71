/- wide.Of and wide.Hold: a number is held as itself, a long one that is none at its end: no condition. -/
import Derived.Test.YteiojnljdhjnlaaRows
import Derived.Test.YteiojnljdhjnlaaLWideHolds
import Derived.WalkKit
import Derived.ProofKit
import Derived.OpenShut
import Derived.ShutString
import Derived.ChangeOld
import Derived.Below
import Derived.SizedLaws
import Derived.Lib.SmallJoins
namespace Go.Proofs.Yteiojnljdhjnlaa.wideHolds
open Go.ChangeShapes Go.WideShapes Go.ChangeAt Go.RowKit Go.Joins
set_option linter.unusedVariables false
theorem own : ownKnob Try.prog.godebug = none := by kernel_rfl
theorem walk (a c d : Int) (w : World) (ha : (Lit.int .i64 a).wf = true) (hc : (Lit.int .i64 c).wf = true) (hd : (Lit.int .u64 d).wf = true) :
    Calls Try.prog 8 #[.int .i64 a, .agg #[.int .i64 c, .int .u64 d]] w fun e w' => e = .returned (.bool true) ∧ Below w.heap.size w w' := by
  have d' := T.wfu64 hd
  exact QB.smaltolaw02_WideHolds.calls 400 a c d true w (QB.WideHolds_all (by omega) (T.wf64 ha) (T.wf64 hc) (by omega))
set_option maxRecDepth 100000 in
theorem lifted (os : Os) (started : os.Started) (H : Type) (enc : TypeId × Value → H) :
    ReturnsInHanded {} Try.checked os 8 .any (Rows.wideHoldsSpec.pre6 enc Try.prog Try.f8 Rows.wideHoldsRow.domain false) (Rows.wideHoldsSpec.post enc Try.prog Try.f8 false true false false) := by
  refine returnsInHanded_of_change_sized (C := Try.checked) own started (by kernel_rfl) Try.func8
    (ChangeSpec.witness6 (enc := enc) (C := Try.checked) false ⟨#[], #[.int .i64 0, .agg #[.int .i64 0, .int .u64 0]], []⟩ 8 (by kernel_rfl) (by kernel_rfl) (by kernel_rfl) (by kernel_rfl)) ?_
  intro W base args ds gs before hval0 hW hcnd hsz0 _
  have hval : ∀ (j : Nat) t v, Try.f8.params[j]? = some t → args[j]? = some v → Value.okWide Try.prog W .any base t v := hval0
  have hW' := hW
  obtain ⟨p, q, hA0, hV, rfl, hfz, hnd⟩ := hW
  have hA : DataW.TrodAll enc Try.prog W 0 (fun _ => true) true Try.f8.params.toList args.toList ds p := hA0
  rw [Try.params8] at hA hval
  obtain ⟨v0, vs0, d0, ds0, p0, q0, hargs, rfl, rfl, h0, r0⟩ := trodAll_cons hA
  obtain ⟨v1, vs1, d1, ds1, p1, q1, rfl, rfl, rfl, h1, r1⟩ := trodAll_cons r0
  obtain ⟨rfl, rfl, rfl⟩ := trodAll_nil r1
  obtain rfl : args = #[v0, v1] := by cases args; simp_all
  obtain ⟨rfl, rfl⟩ := trodVars_none hV
  obtain ⟨a, rfl, rfl, rfl, wa⟩ := open_int Try.underlying2 (hval 0 2 v0 rfl rfl) h0
  obtain ⟨z0, z1, u0, u1, n1, rfl, rfl, rfl, s0, s1⟩ := open_agg2 Try.underlying29 (by kernel_rfl) (by kernel_rfl) (hval 1 29 v1 rfl rfl) h1
  obtain ⟨c, ec, rfl, wc⟩ := DataW.trod_int Try.underlying2 s0
  obtain ⟨d, ed, rfl, wd⟩ := DataW.trod_int Try.underlying27 s1
  obtain rfl := (List.cons.inj ec).1
  obtain rfl := (List.cons.inj ed).1
  clear hA0 hval0 hsz0
  refine (walk a c d W wa wc wd).mono fun e W' ⟨he, bel⟩ => ?_
  subst he
  exact ⟨_, rfl, _, _, _, [], _, [], hW', trodAll_mk1 (shut_bool Try.underlying4 _),
    (trodAll_cons_mk (shut_int Try.underlying2 wa)
      (trodAll_cons_mk (shut_agg2 (y0 := (.lit (.int .i64 c), [])) (y1 := (.lit (.int .u64 d), [])) Try.underlying29 (by kernel_rfl) (by kernel_rfl) (shut_int Try.underlying2 wc) (shut_int Try.underlying27 wd)) trodAll_mk0)), rfl, bel.frame _, fun h => by cases h⟩
theorem over : Rows.wideHoldsRow.holds Try.pinned (OpenSpec.ofChange Rows.wideHoldsSpec) :=
  OpenClaim.holds_of_wide 8 Try.f8 rfl rfl rfl rfl rfl rfl rfl ⟨rfl, rfl, rfl, rfl, rfl⟩ rfl rfl rfl rfl rfl (by kernel_rfl) Try.func8 (by kernel_rfl)
    (of_decide_eq_true (by kernel_rfl)) (by unfold Func.isWrapper; first | (rw [if_pos (by decide +kernel)]; kernel_rfl) | (rw [if_neg (by decide +kernel)]; exact ⟨rfl, rfl⟩))
    (fun os started H enc _ => lifted os started H enc)
theorem proved : Rows.WideHoldsSaid := over
#print axioms proved
end Go.Proofs.Yteiojnljdhjnlaa.wideHolds
namespace Go.Proofs.Yteiojnljdhjnlaa
/-- The row, under a short name, for the claim. -/
theorem wideHolds_holds : Rows.WideHoldsSaid := wideHolds.proved
end Go.Proofs.Yteiojnljdhjnlaa
