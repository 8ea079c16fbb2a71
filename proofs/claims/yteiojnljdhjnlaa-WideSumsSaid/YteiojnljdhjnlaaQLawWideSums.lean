/- wide.Sum, wide.Negative and wide.Less of any two long numbers are as the reference says: no condition. -/
import Derived.Test.YteiojnljdhjnlaaRows
import Derived.Test.YteiojnljdhjnlaaLWideSums
import Derived.WalkKit
import Derived.ProofKit
import Derived.OpenShut
import Derived.ShutString
import Derived.ChangeOld
import Derived.Below
import Derived.SizedLaws
import Derived.Lib.SmallJoins
namespace Go.Proofs.Yteiojnljdhjnlaa.wideSums
open Go.ChangeShapes Go.WideShapes Go.ChangeAt Go.RowKit Go.Joins
set_option linter.unusedVariables false
theorem own : ownKnob Try.prog.godebug = none := by kernel_rfl
theorem walk (a b c d : Int) (w : World) (ha : (Lit.int .i64 a).wf = true) (hb : (Lit.int .u64 b).wf = true) (hc : (Lit.int .i64 c).wf = true) (hd : (Lit.int .u64 d).wf = true) :
    Calls Try.prog 7 #[.agg #[.int .i64 a, .int .u64 b], .agg #[.int .i64 c, .int .u64 d]] w fun e w' => e = .returned (.bool true) ∧ Below w.heap.size w w' := by
  have b' := T.wfu64 hb
  have d' := T.wfu64 hd
  exact QB.smaltolaw02_WideSums.calls 400 a b c d true w (QB.WideSums_all (by omega) (T.wf64 ha) (by omega) (T.wf64 hc) (by omega))
set_option maxRecDepth 100000 in
theorem lifted (os : Os) (started : os.Started) (H : Type) (enc : TypeId × Value → H) :
    ReturnsInHanded {} Try.checked os 7 .any (Rows.wideSumsSpec.pre6 enc Try.prog Try.f7 Rows.wideSumsRow.domain false) (Rows.wideSumsSpec.post enc Try.prog Try.f7 false true false false) := by
  refine returnsInHanded_of_change_sized (C := Try.checked) own started (by kernel_rfl) Try.func7
    (ChangeSpec.witness6 (enc := enc) (C := Try.checked) false ⟨#[], #[.agg #[.int .i64 0, .int .u64 0], .agg #[.int .i64 0, .int .u64 0]], []⟩ 8 (by kernel_rfl) (by kernel_rfl) (by kernel_rfl) (by kernel_rfl)) ?_
  intro W base args ds gs before hval0 hW hcnd hsz0 _
  have hval : ∀ (j : Nat) t v, Try.f7.params[j]? = some t → args[j]? = some v → Value.okWide Try.prog W .any base t v := hval0
  have hW' := hW
  obtain ⟨p, q, hA0, hV, rfl, hfz, hnd⟩ := hW
  have hA : DataW.TrodAll enc Try.prog W 0 (fun _ => true) true Try.f7.params.toList args.toList ds p := hA0
  rw [Try.params7] at hA hval
  obtain ⟨v0, vs0, d0, ds0, p0, q0, hargs, rfl, rfl, h0, r0⟩ := trodAll_cons hA
  obtain ⟨v1, vs1, d1, ds1, p1, q1, rfl, rfl, rfl, h1, r1⟩ := trodAll_cons r0
  obtain ⟨rfl, rfl, rfl⟩ := trodAll_nil r1
  obtain rfl : args = #[v0, v1] := by cases args; simp_all
  obtain ⟨rfl, rfl⟩ := trodVars_none hV
  obtain ⟨x0, x1, y0, y1, n0, rfl, rfl, rfl, t0, t1⟩ := open_agg2 Try.underlying29 (by kernel_rfl) (by kernel_rfl) (hval 0 29 v0 rfl rfl) h0
  obtain ⟨z0, z1, u0, u1, n1, rfl, rfl, rfl, s0, s1⟩ := open_agg2 Try.underlying29 (by kernel_rfl) (by kernel_rfl) (hval 1 29 v1 rfl rfl) h1
  obtain ⟨a, ea, rfl, wa⟩ := DataW.trod_int Try.underlying2 t0
  obtain ⟨b, eb, rfl, wb⟩ := DataW.trod_int Try.underlying27 t1
  obtain ⟨c, ec, rfl, wc⟩ := DataW.trod_int Try.underlying2 s0
  obtain ⟨d, ed, rfl, wd⟩ := DataW.trod_int Try.underlying27 s1
  obtain rfl := (List.cons.inj ea).1
  obtain rfl := (List.cons.inj eb).1
  obtain rfl := (List.cons.inj ec).1
  obtain rfl := (List.cons.inj ed).1
  clear hA0 hval0 hsz0
  refine (walk a b c d W wa wb wc wd).mono fun e W' ⟨he, bel⟩ => ?_
  subst he
  exact ⟨_, rfl, _, _, _, [], _, [], hW', trodAll_mk1 (shut_bool Try.underlying4 _),
    (trodAll_cons_mk (shut_agg2 (y0 := (.lit (.int .i64 a), [])) (y1 := (.lit (.int .u64 b), [])) Try.underlying29 (by kernel_rfl) (by kernel_rfl) (shut_int Try.underlying2 wa) (shut_int Try.underlying27 wb))
      (trodAll_cons_mk (shut_agg2 (y0 := (.lit (.int .i64 c), [])) (y1 := (.lit (.int .u64 d), [])) Try.underlying29 (by kernel_rfl) (by kernel_rfl) (shut_int Try.underlying2 wc) (shut_int Try.underlying27 wd)) trodAll_mk0)), rfl, bel.frame _, fun h => by cases h⟩
theorem over : Rows.wideSumsRow.holds Try.pinned (OpenSpec.ofChange Rows.wideSumsSpec) :=
  OpenClaim.holds_of_wide 7 Try.f7 rfl rfl rfl rfl rfl rfl rfl ⟨rfl, rfl, rfl, rfl, rfl⟩ rfl rfl rfl rfl rfl (by kernel_rfl) Try.func7 (by kernel_rfl)
    (of_decide_eq_true (by kernel_rfl)) (by unfold Func.isWrapper; first | (rw [if_pos (by decide +kernel)]; kernel_rfl) | (rw [if_neg (by decide +kernel)]; exact ⟨rfl, rfl⟩))
    (fun os started H enc _ => lifted os started H enc)
theorem proved : Rows.WideSumsSaid := over
#print axioms proved
end Go.Proofs.Yteiojnljdhjnlaa.wideSums
namespace Go.Proofs.Yteiojnljdhjnlaa
/-- The row, under a short name, for the claim. -/
theorem wideSums_holds : Rows.WideSumsSaid := wideSums.proved
end Go.Proofs.Yteiojnljdhjnlaa
