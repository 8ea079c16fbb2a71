/- Joined by wip/tools/bundle.py out of: TZ TZr TZf TZn TO TL2 TP T3 TLaid WSized. -/
import Derived.Test.YtebipmdopdogkaaGreatDoorBOpMakes1
import Derived.Test.YtebipmdopdogkaaGreatDoorBOpMakes5
import Derived.Test.YtebipmdopdogkaaGreatDoorBOpMakes7
import Derived.Handy
import Derived.Lib.SliceRun
import Derived.Test.YtebipmdopdogkaaGreatDoorBOpMakes0
import Derived.Test.YtebipmdopdogkaaGreatDoorBOpMakes3
import Derived.Test.YtebipmdopdogkaaGreatDoorBOpMakes6
import Derived.Test.YtebipmdopdogkaaGreatDoorBOpMakes11
import Derived.Test.YtebipmdopdogkaaGreatDoorBOpMakes9
import Derived.Test.YtebipmdopdogkaaGreatDoorBOpMakes10
import Derived.Deep.CutBlock
import Derived.ProofKit
import Derived.OpenShut
import Derived.ChangeSame
import Derived.LaidMore
import Derived.DataReads
import Derived.Test.YtebipmdopdogkaaGreatDoorRows
import Derived.Lay
import Derived.SizedLaws
import Derived.ChangeSlices
namespace Go.Proofs.YtebipmdopdogkaaGreatDoor.QA
open Go.RowKit Go.Proofs.YtebipmdopdogkaaGreatDoorW.PrintWords Go.Proofs.YtebipmdopdogkaaGreatDoorW.PrintLast Go.Proofs.YtebipmdopdogkaaGreatDoorW.PrintMore Go.Proofs.YtebipmdopdogkaaGreatDoor.T
set_option linter.unusedVariables false
set_option linter.unusedSimpArgs false
/-- Rows of the document's lines, of the call's own. -/
def RowO (w : World) (base : Nat) (v : Value) (xs : List S91) : Prop := Kd.R k91 91 w base (fun k => base ≤ k) v xs
theorem RowO.of {w : World} {base : Nat} {ok : Nat → Prop} {v : Value} {xs : List S91} (h : Kd.R k91 91 w base ok v xs) : RowO w base v xs := Kd.R_mono (Kd.R_bound h) (fun _ hk => hk.2.1)
theorem RowO.below {w w1 : World} {base : Nat} {v : Value} {xs : List S91} (h : RowO w base v xs) (hb : Below w.heap.size w w1) : RowO w1 base v xs := Kd.R_below h hb
theorem RowO.keep {w w1 : World} {base : Nat} {v : Value} {xs : List S91} (h : RowO w base v xs) (hb : ∀ k, base ≤ k → w1.heap[k]? = w.heap[k]?) : RowO w1 base v xs := Kd.R_move h hb
theorem RowO.lower {w : World} {base base' : Nat} {v : Value} {xs : List S91} (h : RowO w base v xs) (hb : base' ≤ base) : RowO w base' v xs := Kd.R_mono (Kd.R_lower h hb) (fun _ hk => Nat.le_trans hb hk)
theorem RowO.slice {w : World} {base : Nat} {v : Value} {xs : List S91} (h : RowO w base v xs) : ∃ A c, v = .slice A xs.length c ∧ xs.length ≤ c ∧ Kd.C k91 w A xs.length xs := Kd.R_reads h
theorem put5 {w0 w : World} {N r t : Nat} {u0 u1 u2 u3 u4 : Value} (h : w.heap[r]? = some (.cells #[u0, u1, u2, u3, u4] t (0, 0))) (hb : Below N w0 w) (hr : N ≤ r) (v0 v1 v2 v3 v4 : Value) :
    ∃ w6, ((((w.setCell ⟨r, 0, none⟩ v0).setCell ⟨r, 1, none⟩ v1).setCell ⟨r, 2, none⟩ v2).setCell ⟨r, 3, none⟩ v3).setCell ⟨r, 4, none⟩ v4 = w6 ∧ w6.heap[r]? = some (.cells #[v0, v1, v2, v3, v4] t (0, 0)) ∧ Below N w0 w6 ∧ (∀ k, k ≠ r → w6.heap[k]? = w.heap[k]?) ∧ w6.heap.size = w.heap.size := by
  refine ⟨_, rfl, by simpa using blk_set (blk_set (blk_set (blk_set (blk_set h 0 v0) 1 v1) 2 v2) 3 v3) 4 v4, ((((hb.setCell (p := ⟨r, 0, none⟩) hr v0).setCell (p := ⟨r, 1, none⟩) hr v1).setCell (p := ⟨r, 2, none⟩) hr v2).setCell (p := ⟨r, 3, none⟩) hr v3).setCell (p := ⟨r, 4, none⟩) hr v4, fun k hk => ?_, by simp [World.setCell]⟩
  rw [Below.heap_setCell _ _ _ _ hk, Below.heap_setCell _ _ _ _ hk, Below.heap_setCell _ _ _ _ hk, Below.heap_setCell _ _ _ _ hk, Below.heap_setCell _ _ _ _ hk]
theorem frozen5 {w : World} {g t : Nat} {v0 v1 v2 v3 v4 : Value} (h : w.heap[g]? = some (.cells #[v0, v1, v2, v3, v4] t (0, 0))) : w.frozen? ⟨g, 0, none⟩ = false ∧ w.frozen? ⟨g, 1, none⟩ = false ∧ w.frozen? ⟨g, 2, none⟩ = false ∧ w.frozen? ⟨g, 3, none⟩ = false ∧ w.frozen? ⟨g, 4, none⟩ = false := ⟨blk_frozen h 0, blk_frozen h 1, blk_frozen h 2, blk_frozen h 3, blk_frozen h 4⟩
/-- What the document's Make answers. -/
def RefMkP (o : S27) (W H : Int) (w : World) (e : Ending) (w' : World) : Prop := Below w.heap.size w w' ∧ if stCode o W H = 0 then ∃ v1 v2, e = .returned (.tuple #[.agg #[v1, v2, .int .i64 W, .int .i64 H, .int .i64 o.f1], .int .i64 0]) ∧ RowO w' w.heap.size v1 ((xTab o W).lines.map toR) ∧ RowO w' w.heap.size v2 ((yTab o H).lines.map toR)
  else e = .returned (.tuple #[.agg #[.slice none 0 0, .slice none 0 0, .int .i64 0, .int .i64 0, .int .i64 0], .int .i64 (stCode o W H)])
theorem refMk_no {o : S27} {W H c : Int} (he : stCode o W H = c) (hc : c ≠ 0) {w w' : World} (hb : Below w.heap.size w w') : RefMkP o W H w (.returned (.tuple #[.agg #[.slice none 0 0, .slice none 0 0, .int .i64 0, .int .i64 0, .int .i64 0], .int .i64 c])) w' := ⟨hb, by rw [if_neg (by rw [he]; exact hc), he]⟩
theorem refMk_yes {o : S27} {W H b : Int} {tx ty : Tab} (he : stCode o W H = 0) (hx : xTab o W = tx) (hy : yTab o H = ty) (hbd : o.f1 = b) {v1 v2 : Value} {w w' : World} (hb : Below w.heap.size w w') (r1 : RowO w' w.heap.size v1 (tx.lines.map toR)) (r2 : RowO w' w.heap.size v2 (ty.lines.map toR)) : RefMkP o W H w (.returned (.tuple #[.agg #[v1, v2, .int .i64 W, .int .i64 H, .int .i64 b], .int .i64 0])) w' := ⟨hb, by rw [if_pos he]; exact ⟨v1, v2, by rw [hbd], by rw [hx]; exact r1, by rw [hy]; exact r2⟩⟩
theorem refMk_six (o : S27) (W H : Int) (h : ¬ (opOk o ∧ sideP W ∧ sideP H)) : stCode o W H = 6 := by unfold stCode; exact if_neg h
theorem ref12_side_eq (n : Int) : smaltoref12_side.f n = some (decide (1 ≤ n ∧ n ≤ 65536)) := by
  unfold smaltoref12_side.f
  by_cases h : n ≥ 1
  · rw [if_pos h]; congr 1; by_cases c : n ≤ 65536
    · rw [decide_eq_true c, decide_eq_true ⟨h, c⟩]
    · rw [decide_eq_false c, decide_eq_false (fun q => c q.2)]
  · rw [if_neg h]; congr 1; rw [decide_eq_false (fun q => h q.1)]
/-- The blocks at the start: the operation, the answer. -/
theorem refMk_start {w : World} {v0 v1 v2 v3 v4 v5 v6 v7 v8 : Value} : ∃ W2 g, W2 = (w.alloc (.cells #[v0, v1, v2, v3, v4, v5, v6, v7, v8] 43)).alloc (.cells #[.slice none 0 0, .slice none 0 0, .int .i64 0, .int .i64 0, .int .i64 0] 39) ∧ g = w.heap.size ∧ W2.heap[g]? = some (.cells #[v0, v1, v2, v3, v4, v5, v6, v7, v8] 43 (0, 0)) ∧ W2.heap[g + 1]? = some (.cells #[.slice none 0 0, .slice none 0 0, .int .i64 0, .int .i64 0, .int .i64 0] 39 (0, 0)) ∧ Below w.heap.size w W2 ∧ W2.heap.size = g + 2 := by
  refine ⟨_, _, rfl, rfl, ?_, ?_, below_alloc (below_alloc (Below.refl w.heap.size w) _) _, by simp⟩
  · rw [ha_old _ _ _ (by simp)]; exact heap_alloc_new w _
  · exact ha_at _ _ _ (by simp)
set_option maxHeartbeats 8000000 in
set_option maxRecDepth 100000 in
theorem refMake_bad (k b s r : Int) (A4 : Option Addr) (p c4 : Nat) (A5 : Option Addr) (q c5 : Nat) (f ow oh W H : Int) (o : S27) (w : World) (hC : stCode o W H = 6)
    (h : k < 0 ∨ (¬ k < 0 ∧ 3 < k) ∨ (¬ k < 0 ∧ ¬ 3 < k ∧ b < 0) ∨ (¬ k < 0 ∧ ¬ 3 < k ∧ ¬ b < 0 ∧ 2 < b) ∨ (¬ k < 0 ∧ ¬ 3 < k ∧ ¬ b < 0 ∧ ¬ 2 < b ∧ smaltoref12_side.f W = some false) ∨ (¬ k < 0 ∧ ¬ 3 < k ∧ ¬ b < 0 ∧ ¬ 2 < b ∧ smaltoref12_side.f W = some true ∧ smaltoref12_side.f H = some false)) :
    Calls Tryz.prog 8 #[opV k b s r A4 p c4 A5 q c5 f ow oh, .int .i64 W, .int .i64 H] w (RefMkP o W H w) := by
  have HC := Aside0.mk hC
  obtain ⟨W2, g, e2, hg, h1, h2, hb2, -⟩ := refMk_start (w := w) (v0 := .int .i64 k) (v1 := .int .i64 b) (v2 := .int .i64 s) (v3 := .int .i64 r) (v4 := .slice A4 p c4) (v5 := .slice A5 q c5) (v6 := .int .i64 f) (v7 := .int .i64 ow) (v8 := .int .i64 oh)
  have HG1 := Aside0.mk (show w.heap.size ≤ g + 1 by omega)
  have mixed : Tryz.prog.follows .mixedOrders = true := by kernel_rfl
  have E2 := Aside0.mk e2
  have BQ := Aside0.mk hb2
  have HG := Aside0.mk hg
  have H1 := Aside0.mk h1
  have H2 := Aside0.mk h2
  clear hC e2 hb2 hg h1 h2
  unfold opV
  rcases h with h1 | ⟨h1, h2⟩ | ⟨h1, h2, h3⟩ | ⟨h1, h2, h3, h4⟩ | ⟨h1, h2, h3, h4, h5⟩ | ⟨h1, h2, h3, h4, h5, h6⟩
  all_goals (
    go_enter Tryz.func8, Tryz.ntmps8
    go_upto_region 1 with fail
    rw [← HG.out, ← E2.out]
    clear HG E2
    obtain ⟨z0, z1, z2, z3, z4, z5, z6, z7, z8⟩ := cells9 H1.out
    obtain ⟨q0, q1, q2, q3, q4⟩ := cells5 H2.out
    obtain ⟨f0, f1, f2, f3, f4⟩ := frozen5 H2.out
    go_wp2_with (first
      | (go_at_call 22; (with_reducible refine (smaltoref12_side.calls W false _ h5).mono ?_); rintro e w' ⟨rfl, ⟨nd, rfl⟩⟩)
      | (go_at_call 22; (with_reducible refine (smaltoref12_side.calls W true _ h5).mono ?_); rintro e w' ⟨rfl, ⟨nd, rfl⟩⟩)
      | (go_at_call 22; (with_reducible refine (smaltoref12_side.calls H false _ h6).mono ?_); rintro e w' ⟨rfl, ⟨nd2, rfl⟩⟩))
    clear z0 z1 z2 z3 z4 z5 z6 z7 z8 q0 q1 q2 q3 q4 f0 f1 f2 f3 f4
    first
      | (obtain ⟨w6, e6, hc, B6, -, -⟩ := put5 (w := W2) H2.out BQ.out HG1.out (.slice none 0 0) (.slice none 0 0) (.int .i64 0) (.int .i64 0) (.int .i64 0); rw [e6])
      | (obtain ⟨w6, e6, hc, B6, -, -⟩ := put5 (w := W2.drewN nd) H2.out (pw_below_drewN BQ.out _) HG1.out (.slice none 0 0) (.slice none 0 0) (.int .i64 0) (.int .i64 0) (.int .i64 0); rw [e6])
      | (obtain ⟨w6, e6, hc, B6, -, -⟩ := put5 (w := W2.drewN (nd + nd2)) H2.out (pw_below_drewN BQ.out _) HG1.out (.slice none 0 0) (.slice none 0 0) (.int .i64 0) (.int .i64 0) (.int .i64 0); rw [e6])
    obtain ⟨p0, p1, p2, p3, p4⟩ := cells5 hc
    refine bodyPost_ret (by simp [results, Tryz.results8, go_sem, p0, p1, p2, p3, p4]; try rfl) rfl ?_
    exact refMk_no HC.out (by decide) B6)
/-- The blocks on the way: the operation, the answer, the stage. -/
def Blks (w : World) (g : Nat) (a b : Array Value) : Prop := w.heap[g]? = some (.cells a 43 (0, 0)) ∧ w.heap[g + 1]? = some (.cells #[.slice none 0 0, .slice none 0 0, .int .i64 0, .int .i64 0, .int .i64 0] 39 (0, 0)) ∧ w.heap[g + 2]? = some (.cells b 39 (0, 0))
theorem Blks.below {w w1 : World} {g : Nat} {a b : Array Value} (h : Blks w g a b) (hb : Below w.heap.size w w1) : Blks w1 g a b := ⟨blk_below h.1 hb, blk_below h.2.1 hb, blk_below h.2.2 hb⟩
theorem Blks.put {w : World} {g : Nat} {a b : Array Value} (h : Blks w g a b) (i : Nat) (u : Value) : Blks (w.setCell ⟨g + 2, i, none⟩ u) g a (b.setIfInBounds i u) := ⟨blk_far h.1 (by simp) u, blk_far h.2.1 (by simp) u, blk_set h.2.2 i u⟩
theorem RowO.far {w : World} {base r i : Nat} {u v : Value} {xs : List S91} (h : RowO w base v xs) (hr : r < base) : RowO (w.setCell ⟨r, i, none⟩ u) base v xs := h.keep (fun k hk => Below.heap_setCell _ _ _ _ (by show k ≠ r; omega))
theorem refMk_next {w w1 : World} {g : Nat} {a0 a1 a2 a3 a4 a5 a6 a7 a8 : Value} (h1 : w1.heap[g]? = some (.cells #[a0, a1, a2, a3, a4, a5, a6, a7, a8] 43 (0, 0))) (h2 : w1.heap[g + 1]? = some (.cells #[.slice none 0 0, .slice none 0 0, .int .i64 0, .int .i64 0, .int .i64 0] 39 (0, 0))) (hb : Below w.heap.size w w1) (hz : w1.heap.size = g + 2) (v0 v1 v2 v3 v4 : Value) :
    ∃ w6, w1.alloc (.cells #[v0, v1, v2, v3, v4] 39) = w6 ∧ Below w.heap.size w w6 ∧ Blks w6 g #[a0, a1, a2, a3, a4, a5, a6, a7, a8] #[v0, v1, v2, v3, v4] := by
  have e0 := heap_alloc_new w1 (.cells #[v0, v1, v2, v3, v4] 39)
  rw [hz] at e0
  refine ⟨_, rfl, below_alloc hb _, ?_, ?_, e0⟩
  · rw [ha_old _ _ _ (by omega)]; exact h1
  · rw [ha_old _ _ _ (by omega)]; exact h2
theorem refMk_fin {w w1 : World} {g : Nat} {a b : Array Value} (h : Blks w1 g a b) (hb : Below w.heap.size w w1) (hg : w.heap.size ≤ g + 1) (v0 v1 v2 v3 v4 : Value) :
    ∃ w6, ((((w1.setCell ⟨g + 1, 0, none⟩ v0).setCell ⟨g + 1, 1, none⟩ v1).setCell ⟨g + 1, 2, none⟩ v2).setCell ⟨g + 1, 3, none⟩ v3).setCell ⟨g + 1, 4, none⟩ v4 = w6 ∧ w6.cell? ⟨g + 1, 0, none⟩ = some v0 ∧ w6.cell? ⟨g + 1, 1, none⟩ = some v1 ∧ w6.cell? ⟨g + 1, 2, none⟩ = some v2 ∧ w6.cell? ⟨g + 1, 3, none⟩ = some v3 ∧ w6.cell? ⟨g + 1, 4, none⟩ = some v4 ∧ Below w.heap.size w w6 ∧ ∀ base v xs, g + 1 < base → RowO w1 base v xs → RowO w6 base v xs := by
  obtain ⟨w6, e6, q1, q2, q3, -⟩ := put5 h.2.1 hb hg v0 v1 v2 v3 v4
  obtain ⟨p0, p1, p2, p3, p4⟩ := cells5 q1
  exact ⟨w6, e6, p0, p1, p2, p3, p4, q2, fun base v xs hk hr => hr.keep (fun k hk2 => q3 k (by omega))⟩
set_option maxHeartbeats 8000000 in
set_option maxRecDepth 100000 in
theorem refMake_six (b s r : Int) (A4 : Option Addr) (p c4 : Nat) (A5 : Option Addr) (q c5 : Nat) (f ow oh W H : Int) (o : S27) (w : World) (hC : stCode o W H = 6) (h3 : ¬ b < 0) (h4 : ¬ 2 < b) (h5 : smaltoref12_side.f W = some true) (h6 : smaltoref12_side.f H = some true)
    (h : smaltoref12_side.f ow = some false ∨ (smaltoref12_side.f ow = some true ∧ smaltoref12_side.f oh = some false) ∨ (smaltoref12_side.f ow = some true ∧ smaltoref12_side.f oh = some true ∧ f < 0) ∨ (smaltoref12_side.f ow = some true ∧ smaltoref12_side.f oh = some true ∧ ¬ f < 0 ∧ 2 < f)) :
    Calls Tryz.prog 8 #[opV 3 b s r A4 p c4 A5 q c5 f ow oh, .int .i64 W, .int .i64 H] w (RefMkP o W H w) := by
  have HC := Aside0.mk hC
  obtain ⟨W2, g, e2, hg, h1, h2, hb2, hz⟩ := refMk_start (w := w) (v0 := .int .i64 3) (v1 := .int .i64 b) (v2 := .int .i64 s) (v3 := .int .i64 r) (v4 := .slice A4 p c4) (v5 := .slice A5 q c5) (v6 := .int .i64 f) (v7 := .int .i64 ow) (v8 := .int .i64 oh)
  have HG1 := Aside0.mk (show w.heap.size ≤ g + 1 by omega)
  have mixed : Tryz.prog.follows .mixedOrders = true := by kernel_rfl
  have E2 := Aside0.mk e2
  have BQ := Aside0.mk hb2
  have HG := Aside0.mk hg
  have H1 := Aside0.mk h1
  have H2 := Aside0.mk h2
  have HS := Aside0.mk hz
  clear hC e2 hb2 hg h1 h2 hz
  unfold opV
  go_enter Tryz.func8, Tryz.ntmps8
  go_upto_region 1 with fail
  rw [← HG.out, ← E2.out]
  clear HG E2
  have hz := HS.out
  obtain ⟨z0, z1, z2, z3, z4, z5, z6, z7, z8⟩ := cells9 H1.out
  go_upto_region 5 with (first
    | (go_at_call 22; (with_reducible refine (smaltoref12_side.calls W true _ h5).mono ?_); rintro e w' ⟨rfl, ⟨nd, rfl⟩⟩)
    | (go_at_call 22; (with_reducible refine (smaltoref12_side.calls H true _ h6).mono ?_); rintro e w' ⟨rfl, ⟨nd2, rfl⟩⟩))
  obtain ⟨w4, e4, hb4, hB4⟩ := refMk_next (w1 := W2.drewN (nd + nd2)) H1.out H2.out (pw_below_drewN BQ.out _) HS.out (.slice none 0 0) (.slice none 0 0) (.int .i64 W) (.int .i64 H) (.int .i64 b)
  rw [e4]
  clear z0 z1 z2 z3 z4 z5 z6 z7 z8 e4 H1 H2 BQ hz HS h5 h6
  have B4 := Aside0.mk hb4
  have K4 := Aside0.mk hB4
  clear hb4
  obtain ⟨z0, z1, z2, z3, z4, z5, z6, z7, z8⟩ := cells9 hB4.1
  clear hB4
  obtain ⟨q0, q1, q2, q3, q4⟩ := cells5 K4.out.2.1
  obtain ⟨f0, f1, f2, f3, f4⟩ := frozen5 K4.out.2.1
  rcases h with h7 | ⟨h7, h8⟩ | ⟨h7, h8, h9⟩ | ⟨h7, h8, h9, h10⟩
  all_goals (
    go_wp2_with (first
      | (go_at_call 22; (with_reducible refine (smaltoref12_side.calls ow _ _ h7).mono ?_); rintro e w' ⟨rfl, ⟨nd3, rfl⟩⟩)
      | (go_at_call 22; (with_reducible refine (smaltoref12_side.calls oh _ _ h8).mono ?_); rintro e w' ⟨rfl, ⟨nd4, rfl⟩⟩))
    clear z0 z1 z2 z3 z4 z5 z6 z7 z8 q0 q1 q2 q3 q4 f0 f1 f2 f3 f4
    first
      | (obtain ⟨w9, e9, p0, p1, p2, p3, p4, B9, -⟩ := refMk_fin (w1 := w4.drewN nd3) K4.out (pw_below_drewN B4.out _) HG1.out (.slice none 0 0) (.slice none 0 0) (.int .i64 0) (.int .i64 0) (.int .i64 0); rw [e9])
      | (obtain ⟨w9, e9, p0, p1, p2, p3, p4, B9, -⟩ := refMk_fin (w1 := w4.drewN (nd3 + nd4)) K4.out (pw_below_drewN B4.out _) HG1.out (.slice none 0 0) (.slice none 0 0) (.int .i64 0) (.int .i64 0) (.int .i64 0); rw [e9])
    refine bodyPost_ret (by simp [results, Tryz.results8, go_sem, p0, p1, p2, p3, p4]; try rfl) rfl ?_
    exact refMk_no HC.out (by decide) B9)
end Go.Proofs.YtebipmdopdogkaaGreatDoor.QA

namespace Go.Proofs.YtebipmdopdogkaaGreatDoor.QA
open Go.RowKit Go.Proofs.YtebipmdopdogkaaGreatDoorW.PrintWords Go.Proofs.YtebipmdopdogkaaGreatDoorW.PrintLast Go.Proofs.YtebipmdopdogkaaGreatDoorW.PrintMore Go.Proofs.YtebipmdopdogkaaGreatDoor.T
set_option linter.unusedVariables false
set_option linter.unusedSimpArgs false
set_option maxHeartbeats 8000000 in
set_option maxRecDepth 100000 in
theorem refMake_resize (b s r : Int) (A4 : Option Addr) (p c4 : Nat) (A5 : Option Addr) (q c5 : Nat) (f ow oh W H : Int) (o : S27) (w : World) (h3 : ¬ b < 0) (h4 : ¬ 2 < b) (h5 : smaltoref12_side.f W = some true) (h6 : smaltoref12_side.f H = some true)
    (h7 : smaltoref12_side.f ow = some true) (h8 : smaltoref12_side.f oh = some true) (h9 : ¬ f < 0) (h10 : ¬ 2 < f) (hbd : o.f1 = b) (c1 c2 : Int) (tx ty : Tab) (l1 l2 : List S91) (K1 K2 : Nat) (x1 : smaltoref08_Resize.f K1 f W ow = some (l1, c1)) (x2 : smaltoref08_Resize.f K2 f H oh = some (l2, c2)) (hl1 : c1 = 0 → l1 = tx.lines.map toR) (hl2 : c2 = 0 → l2 = ty.lines.map toR)
    (hC : stCode o W H = if c1 = 0 then c2 else c1) (hX : xTab o W = tx) (hY : yTab o H = ty) :
    Calls Tryz.prog 8 #[opV 3 b s r A4 p c4 A5 q c5 f ow oh, .int .i64 W, .int .i64 H] w (RefMkP o W H w) := by
  have HC := Aside0.mk hC
  obtain ⟨W2, g, e2, hg, h1, h2, hb2, hz⟩ := refMk_start (w := w) (v0 := .int .i64 3) (v1 := .int .i64 b) (v2 := .int .i64 s) (v3 := .int .i64 r) (v4 := .slice A4 p c4) (v5 := .slice A5 q c5) (v6 := .int .i64 f) (v7 := .int .i64 ow) (v8 := .int .i64 oh)
  have HG1 := Aside0.mk (show w.heap.size ≤ g + 1 by omega)
  have mixed : Tryz.prog.follows .mixedOrders = true := by kernel_rfl
  have E2 := Aside0.mk e2
  have BQ := Aside0.mk hb2
  have HG := Aside0.mk hg
  have H1 := Aside0.mk h1
  have H2 := Aside0.mk h2
  have HS := Aside0.mk hz
  have HX := Aside0.mk (And.intro hX (And.intro hY hbd))
  clear hC e2 hb2 hg h1 h2 hz hX hY hbd
  unfold opV
  go_enter Tryz.func8, Tryz.ntmps8
  go_upto_region 1 with fail
  rw [← HG.out, ← E2.out]
  clear HG E2
  have hz := HS.out
  obtain ⟨z0, z1, z2, z3, z4, z5, z6, z7, z8⟩ := cells9 H1.out
  go_upto_region 5 with (first
    | (go_at_call 22; (with_reducible refine (smaltoref12_side.calls W true _ h5).mono ?_); rintro e w' ⟨rfl, ⟨nd, rfl⟩⟩)
    | (go_at_call 22; (with_reducible refine (smaltoref12_side.calls H true _ h6).mono ?_); rintro e w' ⟨rfl, ⟨nd2, rfl⟩⟩))
  obtain ⟨w4, e4, hb4, hB4⟩ := refMk_next (w1 := W2.drewN (nd + nd2)) H1.out H2.out (pw_below_drewN BQ.out _) HS.out (.slice none 0 0) (.slice none 0 0) (.int .i64 W) (.int .i64 H) (.int .i64 b)
  rw [e4]
  clear z0 z1 z2 z3 z4 z5 z6 z7 z8 e4 H1 H2 BQ hz HS h5 h6
  have B4 := Aside0.mk hb4
  have K4 := Aside0.mk hB4
  clear hb4
  obtain ⟨z0, z1, z2, z3, z4, z5, z6, z7, z8⟩ := cells9 hB4.1
  clear hB4
  go_upto_region 8 with (first
    | (go_at_call 22; (with_reducible refine (smaltoref12_side.calls ow true _ h7).mono ?_); rintro e w' ⟨rfl, ⟨nd3, rfl⟩⟩)
    | (go_at_call 22; (with_reducible refine (smaltoref12_side.calls oh true _ h8).mono ?_); rintro e w' ⟨rfl, ⟨nd4, rfl⟩⟩))
  have B5 := Aside0.mk (pw_below_drewN B4.out (nd3 + nd4))
  have hB5 : Blks (w4.drewN (nd3 + nd4)) g _ _ := K4.out
  clear z0 z1 z2 z3 z4 z5 z6 z7 z8 h3 h4 h7 h8 h9 h10 B4 K4
  generalize w4.drewN (nd3 + nd4) = w5 at hB5 B5 ⊢
  have K5 := Aside0.mk hB5
  have L5 := Aside0.mk (show g + 2 < _ from blk_lt hB5.2.2)
  obtain ⟨z0, z1, z2, z3, z4, z5, z6, z7, z8⟩ := cells9 hB5.1
  clear hB5
  have k1n : c1 ≠ 0 → (c1 != 0) = true := fun h => by simpa using h
  have RS1 := Aside0.mk (fun w' => smaltoref08_Resize.calls K1 f W ow l1 c1 w' x1)
  have RS2 := Aside0.mk (fun w' => smaltoref08_Resize.calls K2 f H oh l2 c2 w' x2)
  have HL := Aside0.mk (And.intro hl1 hl2)
  have HN1 := Aside0.mk k1n
  clear x1 x2 hl1 hl2 k1n
  go_upto_region 9 with (go_at_call 23; (with_reducible refine (RS1.out _).mono ?_); rintro e w6 ⟨_, rfl, hr, hb⟩; obtain ⟨A6, c6, rfl⟩ := Kd.R_slice (Kd.S_R hr); have B6 := Aside0.mk (below_step B5.out hb); have K6 := Aside0.mk (K5.out.below hb); have R6 := Aside0.mk (RowO.of (Kd.S_R hr)); have D6 := Aside0.mk hb; have fz := blk_frozen K6.out.2.2 0; have yz : w6.cell? ⟨g + 2, 0, none⟩ = some (.slice none 0 0) := (blk_cell K6.out.2.2 0).trans rfl; clear hr hb)
  clear fz yz z0 z1 z2 z3 z4 z5 z6 z7 z8
  have B7 := Aside0.mk (B6.out.setCell (p := ⟨g + 2, 0, none⟩) (Nat.le_succ_of_le HG1.out) (.slice A6 l1.length c6))
  have hK7 : Blks (w6.setCell ⟨g + 2, 0, none⟩ (.slice A6 l1.length c6)) g #[.int .i64 3, .int .i64 b, .int .i64 s, .int .i64 r, .slice A4 p c4, .slice A5 q c5, .int .i64 f, .int .i64 ow, .int .i64 oh] #[.slice A6 l1.length c6, .slice none 0 0, .int .i64 W, .int .i64 H, .int .i64 b] := by simpa using K6.out.put 0 (.slice A6 l1.length c6)
  have R7 := Aside0.mk (R6.out.far (i := 0) (u := (.slice A6 l1.length c6)) L5.out)
  have S7 := Aside0.mk (show w5.heap.size ≤ (w6.setCell ⟨g + 2, 0, none⟩ (.slice A6 l1.length c6)).heap.size by have := D6.out.size; simpa [World.setCell] using this)
  clear B6 K6 R6 D6
  generalize w6.setCell ⟨g + 2, 0, none⟩ (.slice A6 l1.length c6) = w7 at hK7 B7 R7 S7 ⊢
  have K7 := Aside0.mk hK7
  have L7 := Aside0.mk (show g + 2 < _ from blk_lt hK7.2.2)
  obtain ⟨z0, z1, z2, z3, z4, z5, z6, z7, z8⟩ := cells9 hK7.1
  clear hK7
  by_cases k1 : c1 = 0
  rotate_left
  · rw [if_neg k1] at HC
    have KC := Aside0.mk k1
    have k3 := HN1.out k1
    clear k1
    clear z0 z1 z2 z3 z4 z5 z6 z7 z8
    obtain ⟨q0, q1, q2, q3, q4⟩ := cells5 K7.out.2.1
    obtain ⟨f0, f1, f2, f3, f4⟩ := frozen5 K7.out.2.1
    go_wp2
    clear q0 q1 q2 q3 q4 f0 f1 f2 f3 f4
    obtain ⟨w20, e20, p0, p1, p2, p3, p4, B20, -⟩ := refMk_fin (w1 := w7) K7.out B7.out HG1.out (.slice none 0 0) (.slice none 0 0) (.int .i64 0) (.int .i64 0) (.int .i64 0)
    rw [e20]
    refine bodyPost_ret (by simp [results, Tryz.results8, go_sem, p0, p1, p2, p3, p4]; try rfl) rfl ?_
    exact refMk_no HC.out KC.out B20
  rw [if_pos k1] at HC
  have HL1 := Aside0.mk (HL.out.1 k1)
  subst k1
  go_upto_region 12 with (go_at_call 23; (with_reducible refine (RS2.out _).mono ?_); rintro e w8 ⟨_, rfl, hr, hb⟩; obtain ⟨A8, c8, rfl⟩ := Kd.R_slice (Kd.S_R hr); have B8 := Aside0.mk (below_step B7.out hb); have K8 := Aside0.mk (K7.out.below hb); have R8 := Aside0.mk (RowO.of (Kd.S_R hr)); have D8 := Aside0.mk hb; have fz := blk_frozen K8.out.2.2 1; have yz : w8.cell? ⟨g + 2, 1, none⟩ = some (.slice none 0 0) := (blk_cell K8.out.2.2 1).trans rfl; clear hr hb)
  clear fz yz z0 z1 z2 z3 z4 z5 z6 z7 z8
  have B9 := Aside0.mk (B8.out.setCell (p := ⟨g + 2, 1, none⟩) (Nat.le_succ_of_le HG1.out) (.slice A8 l2.length c8))
  have hK9 : Blks (w8.setCell ⟨g + 2, 1, none⟩ (.slice A8 l2.length c8)) g #[.int .i64 3, .int .i64 b, .int .i64 s, .int .i64 r, .slice A4 p c4, .slice A5 q c5, .int .i64 f, .int .i64 ow, .int .i64 oh] #[.slice A6 l1.length c6, .slice A8 l2.length c8, .int .i64 W, .int .i64 H, .int .i64 b] := by simpa using K8.out.put 1 (.slice A8 l2.length c8)
  have R9 := Aside0.mk (R8.out.far (i := 1) (u := (.slice A8 l2.length c8)) L7.out)
  have Q9 := Aside0.mk (((R7.out.below D8.out).far (i := 1) (u := (.slice A8 l2.length c8)) L5.out))
  clear B8 K8 R8 D8 R7
  generalize w8.setCell ⟨g + 2, 1, none⟩ (.slice A8 l2.length c8) = w9 at hK9 B9 R9 Q9 ⊢
  have K9 := Aside0.mk hK9
  obtain ⟨z0, z1, z2, z3, z4, z5, z6, z7, z8⟩ := cells9 hK9.1
  clear hK9
  by_cases k2 : c2 = 0
  rotate_left
  · have KC := Aside0.mk k2
    have k3 : (c2 != 0) = true := by simpa using k2
    clear k2
    clear z0 z1 z2 z3 z4 z5 z6 z7 z8
    obtain ⟨q0, q1, q2, q3, q4⟩ := cells5 K9.out.2.1
    obtain ⟨f0, f1, f2, f3, f4⟩ := frozen5 K9.out.2.1
    go_wp2
    clear q0 q1 q2 q3 q4 f0 f1 f2 f3 f4
    obtain ⟨w20, e20, p0, p1, p2, p3, p4, B20, -⟩ := refMk_fin (w1 := w9) K9.out B9.out HG1.out (.slice none 0 0) (.slice none 0 0) (.int .i64 0) (.int .i64 0) (.int .i64 0)
    rw [e20]
    refine bodyPost_ret (by simp [results, Tryz.results8, go_sem, p0, p1, p2, p3, p4]; try rfl) rfl ?_
    exact refMk_no HC.out KC.out B20
  have HL2 := Aside0.mk (HL.out.2 k2)
  subst k2
  clear z0 z1 z2 z3 z4 z5 z6 z7 z8
  obtain ⟨y0, y1, y2, y3, y4⟩ := cells5 K9.out.2.2
  obtain ⟨q0, q1, q2, q3, q4⟩ := cells5 K9.out.2.1
  obtain ⟨f0, f1, f2, f3, f4⟩ := frozen5 K9.out.2.1
  go_wp2
  clear q0 q1 q2 q3 q4 f0 f1 f2 f3 f4 y0 y1 y2 y3 y4
  obtain ⟨w20, e20, p0, p1, p2, p3, p4, B20, R20⟩ := refMk_fin (w1 := w9) K9.out B9.out HG1.out (.slice A6 l1.length c6) (.slice A8 l2.length c8) (.int .i64 W) (.int .i64 H) (.int .i64 b)
  rw [e20]
  refine bodyPost_ret (by simp [results, Tryz.results8, go_sem, p0, p1, p2, p3, p4]; try rfl) rfl ?_
  have hz5 : w.heap.size ≤ w5.heap.size := by have := L5.out; have := HG1.out; omega
  have hz7 : w.heap.size ≤ w7.heap.size := by have := L7.out; have := HG1.out; omega
  have r1 : RowO w20 w.heap.size (.slice A6 l1.length c6) (tx.lines.map toR) := by rw [← HL1.out]; exact (R20 _ _ _ (by have := L5.out; omega) Q9.out).lower hz5
  have r2 : RowO w20 w.heap.size (.slice A8 l2.length c8) (ty.lines.map toR) := by rw [← HL2.out]; exact (R20 _ _ _ (by have := L7.out; omega) R9.out).lower hz7
  exact refMk_yes HC.out HX.out.1 HX.out.2.1 HX.out.2.2 B20 r1 r2
end Go.Proofs.YtebipmdopdogkaaGreatDoor.QA

namespace Go.Proofs.YtebipmdopdogkaaGreatDoor.QA
open Go.RowKit Go.Proofs.YtebipmdopdogkaaGreatDoorW.PrintWords Go.Proofs.YtebipmdopdogkaaGreatDoorW.PrintLast Go.Proofs.YtebipmdopdogkaaGreatDoorW.PrintMore Go.Proofs.YtebipmdopdogkaaGreatDoor.T
set_option linter.unusedVariables false
set_option linter.unusedSimpArgs false
/-- Numbers, of the call's own. -/
def IntO (w : World) (base : Nat) (v : Value) (xs : List Int) : Prop := Kd.R (Kd.int .i64) 2 w base (fun k => base ≤ k) v xs
theorem IntO.of {w : World} {base b2 : Nat} {ok : Nat → Prop} {v : Value} {xs : List Int} (h : Kd.R (Kd.int .i64) 2 w base ok v xs) (hb : b2 ≤ base) : IntO w b2 v xs := Kd.R_mono (Kd.R_lower (Kd.R_bound h) hb) (fun _ hk => Nat.le_trans hb hk.2.1)
theorem IntO.below {w w1 : World} {base : Nat} {v : Value} {xs : List Int} (h : IntO w base v xs) (hb : Below w.heap.size w w1) : IntO w1 base v xs := Kd.R_below h hb
theorem IntO.far {w : World} {base r i : Nat} {u v : Value} {xs : List Int} (h : IntO w base v xs) (hr : r < base) : IntO (w.setCell ⟨r, i, none⟩ u) base v xs := Kd.R_move h (fun k hk => Below.heap_setCell _ _ _ _ (by show k ≠ r; omega))
theorem IntO.reads {w : World} {base n c : Nat} {A : Option Addr} {xs : List Int} (h : IntO w base (.slice A n c) xs) : n = xs.length ∧ n ≤ c ∧ Kd.C (Kd.int .i64) w A xs.length xs := Kd.R_reads' h
/-- The raw weights that the document's Make takes. -/
def RefW (k s r : Int) (x y u v : List Int) (c : Int) : Prop := (k = 0 ∧ v = u ∧ ∃ K, smaltoref06_Gaussian.f K s = some (u, c)) ∨ (k = 1 ∧ v = u ∧ ∃ K, smaltoref06_Blur.f K r = some (u, c)) ∨ (k = 2 ∧ ∃ K c1 c2, smaltoref06_User.f K x = some (u, c1) ∧ smaltoref06_User.f K y = some (v, c2) ∧ c = if c1 = 0 then c2 else c1)
set_option maxHeartbeats 8000000 in
set_option maxRecDepth 100000 in
theorem refMake_filter (k b s r : Int) (A4 : Option Addr) (c4 : Nat) (x : List Int) (A5 : Option Addr) (c5 : Nat) (y : List Int) (f ow oh : Int) (N1 N2 : Nat) (u v : List Int) (c : Int) (o : S27) (w : World) (h1 : ¬ k < 0) (h2 : ¬ 3 < k) (h3 : ¬ b < 0) (h4 : ¬ 2 < b) (h5 : smaltoref12_side.f N1 = some true) (h6 : smaltoref12_side.f N2 = some true)
    (n1 : 1 ≤ N1 ∧ N1 ≤ 65536) (n2 : 1 ≤ N2 ∧ N2 ≤ 65536) (hk3 : k ≠ 3) (hw : RefW k s r x y u v c) (hx : Kd.C (Kd.int .i64) w A4 x.length x) (lx : x.length ≤ c4) (hy : Kd.C (Kd.int .i64) w A5 y.length y) (ly : y.length ≤ c5)
    (hu : c = 0 → (∀ z ∈ u, I64 z) ∧ u.length < 4611686018427387904 ∧ (∀ z ∈ v, I64 z) ∧ v.length < 4611686018427387904) (hbd : o.f1 = b)
    (hC : stCode o N1 N2 = if c = 0 then if filCode u N1 = 0 then filCode v N2 else filCode u N1 else c) (hX : c = 0 → xTab o N1 = filTab N1 ((u.length / 2 : Nat) : Int) (appL u) N1) (hY : c = 0 → yTab o N2 = filTab N2 ((v.length / 2 : Nat) : Int) (appL v) N2) :
    Calls Tryz.prog 8 #[opV k b s r A4 x.length c4 A5 y.length c5 f ow oh, .int .i64 N1, .int .i64 N2] w (RefMkP o N1 N2 w) := by
  have HU := Aside0.mk hu
  have HN := Aside0.mk (And.intro n1 n2)
  have HXY := Aside0.mk (And.intro hx hy)
  have HLXY := Aside0.mk (And.intro lx ly)
  have kb3 : (k == 3) = false := by simpa using hk3
  have HW := Aside0.mk hw
  have US := Aside0.mk (fun K u c w' (hb : Below w.heap.size w w') (h : smaltoref06_User.f K x = some (u, c)) => smaltoref06_User.calls K A4 c4 x u c w' (Kd.C_below hx hb) lx h)
  have US2 := Aside0.mk (fun K u c w' (hb : Below w.heap.size w w') (h : smaltoref06_User.f K y = some (u, c)) => smaltoref06_User.calls K A5 c5 y u c w' (Kd.C_below hy hb) ly h)
  obtain ⟨p, hp⟩ : ∃ p, p = x.length := ⟨_, rfl⟩
  obtain ⟨q, hq⟩ : ∃ q, q = y.length := ⟨_, rfl⟩
  rw [← hp, ← hq] at ⊢
  rw [← hp] at US
  rw [← hq] at US2
  clear hu n1 n2 hx hy lx ly hk3 hw hp hq HXY HLXY
  have HC := Aside0.mk hC
  obtain ⟨W2, g, e2, hg, h1, h2, hb2, hz⟩ := refMk_start (w := w) (v0 := .int .i64 k) (v1 := .int .i64 b) (v2 := .int .i64 s) (v3 := .int .i64 r) (v4 := .slice A4 p c4) (v5 := .slice A5 q c5) (v6 := .int .i64 f) (v7 := .int .i64 ow) (v8 := .int .i64 oh)
  have HG1 := Aside0.mk (show w.heap.size ≤ g + 1 by omega)
  have mixed : Tryz.prog.follows .mixedOrders = true := by kernel_rfl
  have E2 := Aside0.mk e2
  have BQ := Aside0.mk hb2
  have HG := Aside0.mk hg
  have H1 := Aside0.mk h1
  have H2 := Aside0.mk h2
  have HS := Aside0.mk hz
  have HX := Aside0.mk (And.intro hX (And.intro hY hbd))
  clear hC e2 hb2 hg h1 h2 hz hX hY hbd
  unfold opV
  go_enter Tryz.func8, Tryz.ntmps8
  go_upto_region 1 with fail
  rw [← HG.out, ← E2.out]
  clear HG E2
  have hz := HS.out
  obtain ⟨z0, z1, z2, z3, z4, z5, z6, z7, z8⟩ := cells9 H1.out
  go_upto_region 5 with (first
    | (go_at_call 22; (with_reducible refine (smaltoref12_side.calls N1 true _ h5).mono ?_); rintro e w' ⟨rfl, ⟨nd, rfl⟩⟩)
    | (go_at_call 22; (with_reducible refine (smaltoref12_side.calls N2 true _ h6).mono ?_); rintro e w' ⟨rfl, ⟨nd2, rfl⟩⟩))
  obtain ⟨w4, e4, hb4, hB4⟩ := refMk_next (w1 := W2.drewN (nd + nd2)) H1.out H2.out (pw_below_drewN BQ.out _) HS.out (.slice none 0 0) (.slice none 0 0) (.int .i64 N1) (.int .i64 N2) (.int .i64 b)
  rw [e4]
  clear z0 z1 z2 z3 z4 z5 z6 z7 z8 e4 H1 H2 BQ hz HS h5 h6
  have B4 := Aside0.mk hb4
  have K4 := Aside0.mk hB4
  clear hb4
  obtain ⟨z0, z1, z2, z3, z4, z5, z6, z7, z8⟩ := cells9 hB4.1
  clear hB4
  have HKK := Aside0.mk (And.intro h1 h2)
  go_upto_block 0 with fail
  clear h1 h2 h3 h4 kb3
  (try simp only [Act.put, List.setIfInBounds_toArray, List.set_cons_zero, List.set_cons_succ])
  go_cut [9, 10, 11] (fun v9 v10 v11 wc => ∃ (A1 : Option Addr) (k1 : Nat) (A2 : Option Addr) (k2 : Nat), v9 = .int .i64 c ∧ v10 = .slice A1 u.length k1 ∧ v11 = .slice A2 v.length k2 ∧ Aside0 (IntO wc (g + 3) (.slice A1 u.length k1) u ∧ IntO wc (g + 3) (.slice A2 v.length k2) v) ∧ Aside0 (Below w.heap.size w wc) ∧ Aside0 (Blks wc g #[.int .i64 k, .int .i64 b, .int .i64 s, .int .i64 r, .slice A4 p c4, .slice A5 q c5, .int .i64 f, .int .i64 ow, .int .i64 oh] #[.slice none 0 0, .slice none 0 0, .int .i64 N1, .int .i64 N2, .int .i64 b]))
  case first =>
    rcases HW.out with ⟨e0, e1, K, e2⟩ | ⟨e0, e1, K, e2⟩ | ⟨e0, K, d1, d2, e2, e3, e4⟩
    · subst e1
      have kb : (k == 0) = true := by simpa using e0
      have CL := Aside0.mk (fun w' => smaltoref06_Gaussian.calls K s v c w' e2)
      clear e0 e2 HW US US2
      go_wp2_with (go_at_call 24; (with_reducible refine (CL.out _).mono ?_); rintro e w6 ⟨_, rfl, hr, hb⟩; obtain ⟨A6, c6, rfl⟩ := Kd.R_slice hr; have B6 := Aside0.mk (below_step B4.out hb); have K6 := Aside0.mk (K4.out.below hb); have R6 := Aside0.mk (IntO.of (b2 := g + 3) hr (blk_lt K4.out.2.2)); clear hr hb)
      go_meet
      case rel => exact ⟨A6, c6, A6, c6, rfl, rfl, rfl, ⟨R6.out, R6.out⟩, B6, K6⟩
    · subst e1
      have kb : (k == 0) = false := by simp [e0]
      have kb1 : (k == 1) = true := by simpa using e0
      have CL := Aside0.mk (fun w' => smaltoref06_Blur.calls K r v c w' e2)
      clear e0 e2 HW US US2
      go_wp2_with (go_at_call 25; (with_reducible refine (CL.out _).mono ?_); rintro e w6 ⟨_, rfl, hr, hb⟩; obtain ⟨A6, c6, rfl⟩ := Kd.R_slice hr; have B6 := Aside0.mk (below_step B4.out hb); have K6 := Aside0.mk (K4.out.below hb); have R6 := Aside0.mk (IntO.of (b2 := g + 3) hr (blk_lt K4.out.2.2)); clear hr hb)
      go_meet
      case rel => exact ⟨A6, c6, A6, c6, rfl, rfl, rfl, ⟨R6.out, R6.out⟩, B6, K6⟩
    · have kb : (k == 0) = false := by simp [e0]
      have kb1 : (k == 1) = false := by simp [e0]
      have kb2 : (k == 2) = true := by simpa using e0
      have CL := Aside0.mk (fun w' hb => US.out K u d1 w' hb e2)
      have CM := Aside0.mk (fun w' hb => US2.out K v d2 w' hb e3)
      have E4 := Aside0.mk e4
      clear e0 e2 e3 e4 HW US US2
      go_upto_region 27 with (go_at_call 26; (with_reducible refine (CL.out _ B4.out).mono ?_); rintro e w6 ⟨_, rfl, hr, hb⟩; obtain ⟨A6, c6, rfl⟩ := Kd.R_slice hr; have B6 := Aside0.mk (below_step B4.out hb); have K6 := Aside0.mk (K4.out.below hb); have R6 := Aside0.mk (IntO.of (b2 := g + 3) hr (blk_lt K4.out.2.2)); clear hr hb)
      clear z0 z1 z2 z3 z4 z5 z6 z7 z8
      obtain ⟨z0, z1, z2, z3, z4, z5, z6, z7, z8⟩ := cells9 K6.out.1
      go_upto_region 28 with (go_at_call 26; (with_reducible refine (CM.out _ B6.out).mono ?_); rintro e w7 ⟨_, rfl, hr, hb⟩; obtain ⟨A7, c7, rfl⟩ := Kd.R_slice hr; have B7 := Aside0.mk (below_step B6.out hb); have K7 := Aside0.mk (K6.out.below hb); have R7 := Aside0.mk (IntO.of (b2 := g + 3) hr (blk_lt K6.out.2.2)); have Q7 := Aside0.mk (R6.out.below hb); clear hr hb)
      clear z0 z1 z2 z3 z4 z5 z6 z7 z8
      by_cases d0 : d1 = 0
      · have e5 := E4.out
        rw [if_pos d0] at e5
        subst d0
        subst e5
        go_wp2
        go_meet
        case rel => exact ⟨A6, c6, A7, c7, rfl, rfl, rfl, ⟨Q7.out, R7.out⟩, B7, K7⟩
      · have e5 := E4.out
        rw [if_neg d0] at e5
        have db : (d1 == 0) = false := by simpa using d0
        clear d0
        subst e5
        go_wp2
        go_meet
        case rel => exact ⟨A6, c6, A7, c7, rfl, rfl, rfl, ⟨Q7.out, R7.out⟩, B7, K7⟩
  case rest =>
    clear z0 z1 z2 z3 z4 z5 z6 z7 z8 HW US US2 HKK B4 K4
    obtain ⟨A1, k1, A2, k2, rfl, rfl, rfl, HCC, B5, K5⟩ := hcut
    by_cases c0 : c = 0
    rotate_left
    · rw [if_neg c0] at HC
      have KC := Aside0.mk c0
      have k3 : (c != 0) = true := by simpa using c0
      clear c0
      obtain ⟨q0, q1, q2, q3, q4⟩ := cells5 K5.out.2.1
      obtain ⟨f0, f1, f2, f3, f4⟩ := frozen5 K5.out.2.1
      go_wp2
      clear q0 q1 q2 q3 q4 f0 f1 f2 f3 f4
      obtain ⟨w20, e20, p0, p1, p2, p3, p4, B20, -⟩ := refMk_fin (w1 := wc) K5.out B5.out HG1.out (.slice none 0 0) (.slice none 0 0) (.int .i64 0) (.int .i64 0) (.int .i64 0)
      rw [e20]
      refine bodyPost_ret (by simp [results, Tryz.results8, go_sem, p0, p1, p2, p3, p4]; try rfl) rfl ?_
      exact refMk_no HC.out KC.out B20
    rw [if_pos c0] at HC
    obtain ⟨hu1, hu2, hu3, hu4⟩ := HU.out c0
    have HX1 := Aside0.mk (And.intro (HX.out.1 c0) (And.intro (HX.out.2.1 c0) HX.out.2.2))
    clear HU HX
    subst c0
    have F1 := Aside0.mk (fun w' (h : IntO w' (g + 3) (.slice A1 u.length k1) u) => refFilterR_calls A1 k1 u N1 w' h.reads.2.2 h.reads.2.1 hu1 hu2 HN.out.1.1 HN.out.1.2)
    have F2 := Aside0.mk (fun w' (h : IntO w' (g + 3) (.slice A2 v.length k2) v) => refFilterR_calls A2 k2 v N2 w' h.reads.2.2 h.reads.2.1 hu3 hu4 HN.out.2.1 HN.out.2.2)
    obtain ⟨c1, hc1⟩ : ∃ c1, c1 = filCode u N1 := ⟨_, rfl⟩
    obtain ⟨c2, hc2⟩ : ∃ c2, c2 = filCode v N2 := ⟨_, rfl⟩
    obtain ⟨tx, htx⟩ : ∃ t, t = filTab N1 ((u.length / 2 : Nat) : Int) (appL u) N1 := ⟨_, rfl⟩
    obtain ⟨ty, hty⟩ : ∃ t, t = filTab N2 ((v.length / 2 : Nat) : Int) (appL v) N2 := ⟨_, rfl⟩
    rw [← hc1, ← htx] at F1
    rw [← hc2, ← hty] at F2
    rw [← hc1, ← hc2] at HC
    rw [← htx, ← hty] at HX1
    obtain ⟨l1, hl1⟩ : ∃ l, l = tx.lines.map toR := ⟨_, rfl⟩
    obtain ⟨l2, hl2⟩ : ∃ l, l = ty.lines.map toR := ⟨_, rfl⟩
    rw [← hl1] at F1
    rw [← hl2] at F2
    have HL1 := Aside0.mk hl1
    have HL2 := Aside0.mk hl2
    have L5 := Aside0.mk (show g + 2 < _ from blk_lt K5.out.2.2)
    clear hu1 hu2 hu3 hu4 hc1 hc2 htx hty hl1 hl2 HN
    obtain ⟨w5, hw5⟩ : ∃ x, x = wc := ⟨_, rfl⟩
    subst hw5
    by_cases c0 : c1 = 0
    rotate_left
    · rw [if_neg c0] at HC
      have KC := Aside0.mk c0
      have k3 : (c1 != 0) = true := by simpa using c0
      clear c0
      go_upto_region 33 with (go_at_call 27; (with_reducible refine (F1.out _ HCC.out.1).mono ?_); rintro e w6 ⟨hb, hT⟩; rw [if_neg KC.out] at hT; subst hT; have B6 := Aside0.mk (below_step B5.out hb); have K6 := Aside0.mk (K5.out.below hb); have fz := blk_frozen K6.out.2.2 0; have yz : w6.cell? ⟨g + 2, 0, none⟩ = some (.slice none 0 0) := (blk_cell K6.out.2.2 0).trans rfl; clear hb)
      clear fz yz
      have B7 := Aside0.mk (B6.out.setCell (p := ⟨g + 2, 0, none⟩) (Nat.le_succ_of_le HG1.out) (.slice none 0 0))
      have K7 := Aside0.mk (K6.out.put 0 (.slice none 0 0))
      clear B6 K6
      generalize w6.setCell ⟨g + 2, 0, none⟩ (.slice none 0 0) = w7 at B7 K7 ⊢
      obtain ⟨q0, q1, q2, q3, q4⟩ := cells5 K7.out.2.1
      obtain ⟨f0, f1, f2, f3, f4⟩ := frozen5 K7.out.2.1
      go_wp2
      clear q0 q1 q2 q3 q4 f0 f1 f2 f3 f4
      obtain ⟨w20, e20, p0, p1, p2, p3, p4, B20, -⟩ := refMk_fin (w1 := w7) K7.out B7.out HG1.out (.slice none 0 0) (.slice none 0 0) (.int .i64 0) (.int .i64 0) (.int .i64 0)
      rw [e20]
      refine bodyPost_ret (by simp [results, Tryz.results8, go_sem, p0, p1, p2, p3, p4]; try rfl) rfl ?_
      exact refMk_no HC.out KC.out B20
    rw [if_pos c0] at HC
    subst c0
    go_upto_region 33 with (go_at_call 27; (with_reducible refine (F1.out _ HCC.out.1).mono ?_); rintro e w6 ⟨hb, hT⟩; rw [if_pos rfl] at hT; obtain ⟨_, rfl, hr⟩ := hT; obtain ⟨A6, c6, rfl⟩ := Kd.R_slice hr; have B6 := Aside0.mk (below_step B5.out hb); have K6 := Aside0.mk (K5.out.below hb); have R6 := Aside0.mk (RowO.of hr); have D6 := Aside0.mk hb; have fz := blk_frozen K6.out.2.2 0; have yz : w6.cell? ⟨g + 2, 0, none⟩ = some (.slice none 0 0) := (blk_cell K6.out.2.2 0).trans rfl; clear hr hb)
    clear fz yz
    have B7 := Aside0.mk (B6.out.setCell (p := ⟨g + 2, 0, none⟩) (Nat.le_succ_of_le HG1.out) (.slice A6 l1.length c6))
    have hK : Blks (w6.setCell ⟨g + 2, 0, none⟩ (.slice A6 l1.length c6)) g #[.int .i64 k, .int .i64 b, .int .i64 s, .int .i64 r, .slice A4 p c4, .slice A5 q c5, .int .i64 f, .int .i64 ow, .int .i64 oh] #[.slice A6 l1.length c6, .slice none 0 0, .int .i64 N1, .int .i64 N2, .int .i64 b] := by simpa using K6.out.put 0 (.slice A6 l1.length c6)
    have K7 := Aside0.mk hK
    have R7 := Aside0.mk (R6.out.far (i := 0) (u := (.slice A6 l1.length c6)) L5.out)
    have I7 := Aside0.mk ((HCC.out.2.below D6.out).far (r := g + 2) (i := 0) (u := .slice A6 l1.length c6) (by omega))
    clear B6 K6 R6 D6 hK HCC
    generalize w6.setCell ⟨g + 2, 0, none⟩ (.slice A6 l1.length c6) = w7 at K7 B7 R7 I7 ⊢
    have L7 := Aside0.mk (show g + 2 < _ from blk_lt K7.out.2.2)
    by_cases c0 : c2 = 0
    rotate_left
    · have KC := Aside0.mk c0
      have k3 : (c2 != 0) = true := by simpa using c0
      clear c0
      go_upto_region 36 with (go_at_call 27; (with_reducible refine (F2.out _ I7.out).mono ?_); rintro e w8 ⟨hb, hT⟩; rw [if_neg KC.out] at hT; subst hT; have B8 := Aside0.mk (below_step B7.out hb); have K8 := Aside0.mk (K7.out.below hb); have fz := blk_frozen K8.out.2.2 1; have yz : w8.cell? ⟨g + 2, 1, none⟩ = some (.slice none 0 0) := (blk_cell K8.out.2.2 1).trans rfl; clear hb)
      clear fz yz
      have B9 := Aside0.mk (B8.out.setCell (p := ⟨g + 2, 1, none⟩) (Nat.le_succ_of_le HG1.out) (.slice none 0 0))
      have K9 := Aside0.mk (K8.out.put 1 (.slice none 0 0))
      clear B8 K8
      generalize w8.setCell ⟨g + 2, 1, none⟩ (.slice none 0 0) = w9 at B9 K9 ⊢
      obtain ⟨q0, q1, q2, q3, q4⟩ := cells5 K9.out.2.1
      obtain ⟨f0, f1, f2, f3, f4⟩ := frozen5 K9.out.2.1
      go_wp2
      clear q0 q1 q2 q3 q4 f0 f1 f2 f3 f4
      obtain ⟨w20, e20, p0, p1, p2, p3, p4, B20, -⟩ := refMk_fin (w1 := w9) K9.out B9.out HG1.out (.slice none 0 0) (.slice none 0 0) (.int .i64 0) (.int .i64 0) (.int .i64 0)
      rw [e20]
      refine bodyPost_ret (by simp [results, Tryz.results8, go_sem, p0, p1, p2, p3, p4]; try rfl) rfl ?_
      exact refMk_no HC.out KC.out B20
    subst c0
    go_upto_region 36 with (go_at_call 27; (with_reducible refine (F2.out _ I7.out).mono ?_); rintro e w8 ⟨hb, hT⟩; rw [if_pos rfl] at hT; obtain ⟨_, rfl, hr⟩ := hT; obtain ⟨A8, c8, rfl⟩ := Kd.R_slice hr; have B8 := Aside0.mk (below_step B7.out hb); have K8 := Aside0.mk (K7.out.below hb); have R8 := Aside0.mk (RowO.of hr); have D8 := Aside0.mk hb; have fz := blk_frozen K8.out.2.2 1; have yz : w8.cell? ⟨g + 2, 1, none⟩ = some (.slice none 0 0) := (blk_cell K8.out.2.2 1).trans rfl; clear hr hb)
    clear fz yz
    have B9 := Aside0.mk (B8.out.setCell (p := ⟨g + 2, 1, none⟩) (Nat.le_succ_of_le HG1.out) (.slice A8 l2.length c8))
    have hK : Blks (w8.setCell ⟨g + 2, 1, none⟩ (.slice A8 l2.length c8)) g #[.int .i64 k, .int .i64 b, .int .i64 s, .int .i64 r, .slice A4 p c4, .slice A5 q c5, .int .i64 f, .int .i64 ow, .int .i64 oh] #[.slice A6 l1.length c6, .slice A8 l2.length c8, .int .i64 N1, .int .i64 N2, .int .i64 b] := by simpa using K8.out.put 1 (.slice A8 l2.length c8)
    have K9 := Aside0.mk hK
    have R9 := Aside0.mk (R8.out.far (i := 1) (u := (.slice A8 l2.length c8)) L7.out)
    have Q9 := Aside0.mk ((R7.out.below D8.out).far (i := 1) (u := .slice A8 l2.length c8) L5.out)
    clear B8 K8 R8 D8 hK R7
    generalize w8.setCell ⟨g + 2, 1, none⟩ (.slice A8 l2.length c8) = w9 at K9 B9 R9 Q9 ⊢
    obtain ⟨y0, y1, y2, y3, y4⟩ := cells5 K9.out.2.2
    obtain ⟨q0, q1, q2, q3, q4⟩ := cells5 K9.out.2.1
    obtain ⟨f0, f1, f2, f3, f4⟩ := frozen5 K9.out.2.1
    go_wp2
    clear q0 q1 q2 q3 q4 f0 f1 f2 f3 f4 y0 y1 y2 y3 y4
    obtain ⟨w20, e20, p0, p1, p2, p3, p4, B20, R20⟩ := refMk_fin (w1 := w9) K9.out B9.out HG1.out (.slice A6 l1.length c6) (.slice A8 l2.length c8) (.int .i64 N1) (.int .i64 N2) (.int .i64 b)
    rw [e20]
    refine bodyPost_ret (by simp [results, Tryz.results8, go_sem, p0, p1, p2, p3, p4]; try rfl) rfl ?_
    have hz5 : w.heap.size ≤ w5.heap.size := by have := L5.out; have := HG1.out; omega
    have hz7 : w.heap.size ≤ w7.heap.size := by have := L7.out; have := HG1.out; omega
    have r1 : RowO w20 w.heap.size (.slice A6 l1.length c6) (tx.lines.map toR) := by rw [← HL1.out]; exact (R20 _ _ _ (by have := L5.out; omega) Q9.out).lower hz5
    have r2 : RowO w20 w.heap.size (.slice A8 l2.length c8) (ty.lines.map toR) := by rw [← HL2.out]; exact (R20 _ _ _ (by have := L7.out; omega) R9.out).lower hz7
    exact refMk_yes HC.out HX1.out.1 HX1.out.2.1 HX1.out.2.2 B20 r1 r2
end Go.Proofs.YtebipmdopdogkaaGreatDoor.QA

namespace Go.Proofs.YtebipmdopdogkaaGreatDoor.QA
open Go.RowKit Go.Proofs.YtebipmdopdogkaaGreatDoorW.PrintWords Go.Proofs.YtebipmdopdogkaaGreatDoorW.PrintLast Go.Proofs.YtebipmdopdogkaaGreatDoorW.PrintMore Go.Proofs.YtebipmdopdogkaaGreatDoor.T
set_option linter.unusedVariables false
set_option linter.unusedSimpArgs false
theorem stCode_filter {o : S27} {W H : Int} (ho : opOk o) (hW : sideP W) (hH : sideP H) (h3 : o.f0 ≠ 3) : stCode o W H = if (wtsV o).2.2 = 0 then if filCode (wtsV o).1 W = 0 then filCode (wtsV o).2.1 H else filCode (wtsV o).1 W else (wtsV o).2.2 := by
  unfold stCode xCode yCode
  rw [if_pos ⟨ho, hW, hH⟩, if_neg h3, if_neg h3]
  by_cases c : (wtsV o).2.2 = 0
  · rw [if_neg (fun h => h.2 c), if_pos c]
  · rw [if_pos ⟨h3, c⟩, if_neg c]
theorem ref_weights {o : S27} (h : opI o) (l4 : o.f4.length < 4611686018427387904) (l5 : o.f5.length < 4611686018427387904) (k0 : 0 ≤ o.f0) (k2 : o.f0 < 3) : ∃ u v c, RefW o.f0 o.f2 o.f3 o.f4 o.f5 u v c ∧ c = (wtsV o).2.2 ∧ (c = 0 → u = (wtsV o).1 ∧ v = (wtsV o).2.1) := by
  obtain ⟨i0, i1, i2, i3, i4, i5, i6, i7, i8⟩ := h
  have hk : o.f0 = 0 ∨ o.f0 = 1 ∨ o.f0 = 2 := by omega
  unfold wtsV RefW
  rcases hk with e | e | e
  · simp only [e, if_pos]
    exact ⟨_, _, _, .inl ⟨trivial, rfl, 72000, (ref06_gauss_eq (Nat.le_refl _) i2).trans rfl⟩, rfl, fun _ => ⟨rfl, rfl⟩⟩
  · rw [e, if_neg (by decide), if_pos rfl]
    exact ⟨_, _, _, .inr (.inl ⟨rfl, rfl, 3000, (ref06_blur_eq (Nat.le_refl _) i3).trans rfl⟩), rfl, fun _ => ⟨rfl, rfl⟩⟩
  · rw [e, if_neg (by decide), if_neg (by decide)]
    refine ⟨(userV o.f4).1, (userV o.f5).1, if (userV o.f4).2 = 0 then (userV o.f5).2 else (userV o.f4).2, .inr (.inr ⟨rfl, o.f4.length + o.f5.length + 200, (userV o.f4).2, (userV o.f5).2, (ref06_User_eq (by omega) l4 i4).trans rfl, (ref06_User_eq (by omega) l5 i5).trans rfl, rfl⟩), ?_, ?_⟩
    · by_cases c : (userV o.f4).2 = 0
      · rw [if_pos c, if_pos c]
      · rw [if_neg c, if_neg c]
    · intro hc
      by_cases c : (userV o.f4).2 = 0
      · rw [if_pos c]; exact ⟨rfl, rfl⟩
      · rw [if_neg c] at hc; exact absurd hc c
theorem pair_if {α : Type} {c : Int} {l : List α} : (if c = 0 then (l, (0 : Int)) else ([], c)) = (if c = 0 then l else [], c) := by
  by_cases h : c = 0
  · rw [if_pos h, if_pos h, h]
  · rw [if_neg h, if_neg h]
theorem refMake_is (o : S27) (W H : Int) (A4 : Option Addr) (c4 : Nat) (A5 : Option Addr) (c5 : Nat) (w : World) (hI : opI o) (hx : Kd.C (Kd.int .i64) w A4 o.f4.length o.f4) (lx : o.f4.length ≤ c4) (hy : Kd.C (Kd.int .i64) w A5 o.f5.length o.f5) (ly : o.f5.length ≤ c5) (l4 : o.f4.length < 4611686018427387904) (l5 : o.f5.length < 4611686018427387904) :
    Calls Tryz.prog 8 #[opV o.f0 o.f1 o.f2 o.f3 A4 o.f4.length c4 A5 o.f5.length c5 o.f6 o.f7 o.f8, .int .i64 W, .int .i64 H] w (RefMkP o W H w) := by
  have sT : ∀ {n : Int}, sideP n → smaltoref12_side.f n = some true := fun h => by rw [ref12_side_eq]; exact congrArg some (decide_eq_true h)
  have sF : ∀ {n : Int}, ¬ sideP n → smaltoref12_side.f n = some false := fun h => by rw [ref12_side_eq]; exact congrArg some (decide_eq_false h)
  by_cases k1 : o.f0 < 0
  · exact refMake_bad _ _ _ _ A4 _ c4 A5 _ c5 _ _ _ W H o w (refMk_six o W H (fun h => by have := h.1.1; omega)) (.inl k1)
  by_cases k2 : 3 < o.f0
  · exact refMake_bad _ _ _ _ A4 _ c4 A5 _ c5 _ _ _ W H o w (refMk_six o W H (fun h => by have := h.1.2.1; omega)) (.inr (.inl ⟨k1, k2⟩))
  by_cases b1 : o.f1 < 0
  · exact refMake_bad _ _ _ _ A4 _ c4 A5 _ c5 _ _ _ W H o w (refMk_six o W H (fun h => by have := h.1.2.2.1; omega)) (.inr (.inr (.inl ⟨k1, k2, b1⟩)))
  by_cases b2 : 2 < o.f1
  · exact refMake_bad _ _ _ _ A4 _ c4 A5 _ c5 _ _ _ W H o w (refMk_six o W H (fun h => by have := h.1.2.2.2.1; omega)) (.inr (.inr (.inr (.inl ⟨k1, k2, b1, b2⟩))))
  by_cases hW : sideP W
  rotate_left
  · exact refMake_bad _ _ _ _ A4 _ c4 A5 _ c5 _ _ _ W H o w (refMk_six o W H (fun h => hW h.2.1)) (.inr (.inr (.inr (.inr (.inl ⟨k1, k2, b1, b2, sF hW⟩)))))
  by_cases hH : sideP H
  rotate_left
  · exact refMake_bad _ _ _ _ A4 _ c4 A5 _ c5 _ _ _ W H o w (refMk_six o W H (fun h => hH h.2.2)) (.inr (.inr (.inr (.inr (.inr ⟨k1, k2, b1, b2, sT hW, sF hH⟩)))))
  by_cases h3 : o.f0 = 3
  · rw [h3]
    by_cases a1 : sideP o.f7
    rotate_left
    · exact refMake_six _ _ _ A4 _ c4 A5 _ c5 _ _ _ W H o w (refMk_six o W H (fun h => a1 ⟨(h.1.2.2.2.2 h3).1, (h.1.2.2.2.2 h3).2.1⟩)) b1 b2 (sT hW) (sT hH) (.inl (sF a1))
    by_cases a2 : sideP o.f8
    rotate_left
    · exact refMake_six _ _ _ A4 _ c4 A5 _ c5 _ _ _ W H o w (refMk_six o W H (fun h => a2 ⟨(h.1.2.2.2.2 h3).2.2.1, (h.1.2.2.2.2 h3).2.2.2.1⟩)) b1 b2 (sT hW) (sT hH) (.inr (.inl ⟨sT a1, sF a2⟩))
    by_cases a3 : o.f6 < 0
    · exact refMake_six _ _ _ A4 _ c4 A5 _ c5 _ _ _ W H o w (refMk_six o W H (fun h => by have := (h.1.2.2.2.2 h3).2.2.2.2.1; omega)) b1 b2 (sT hW) (sT hH) (.inr (.inr (.inl ⟨sT a1, sT a2, a3⟩)))
    by_cases a4 : 2 < o.f6
    · exact refMake_six _ _ _ A4 _ c4 A5 _ c5 _ _ _ W H o w (refMk_six o W H (fun h => by have := (h.1.2.2.2.2 h3).2.2.2.2.2; omega)) b1 b2 (sT hW) (sT hH) (.inr (.inr (.inr ⟨sT a1, sT a2, a3, a4⟩)))
    obtain ⟨M1, e1⟩ : ∃ M : Nat, o.f7 = M := ⟨o.f7.toNat, by have := a1.1; omega⟩
    obtain ⟨M2, e2⟩ : ∃ M : Nat, o.f8 = M := ⟨o.f8.toNat, by have := a2.1; omega⟩
    have q1 : okR o.f6 W M1 := ⟨by omega, by omega, hW.1, hW.2, by rw [← e1]; exact a1.1, by rw [← e1]; exact a1.2⟩
    have q2 : okR o.f6 H M2 := ⟨by omega, by omega, hH.1, hH.2, by rw [← e2]; exact a2.1, by rw [← e2]; exact a2.2⟩
    obtain ⟨K1, x1⟩ := ref08_Resize_eq q1
    obtain ⟨K2, x2⟩ := ref08_Resize_eq q2
    rw [pair_if] at x1 x2
    have ho : opOk o := ⟨by omega, by omega, by omega, by omega, fun _ => ⟨a1.1, a1.2, a2.1, a2.2, by omega, by omega⟩⟩
    have hs : stCode o W H = if resCode o.f6 W M1 0 M1 = 0 then resCode o.f6 H M2 0 M2 else resCode o.f6 W M1 0 M1 := by
      unfold stCode xCode yCode
      rw [if_pos ⟨ho, hW, hH⟩, if_neg (fun h => h.1 h3), if_pos h3, if_pos h3, e1, e2]; rfl
    exact refMake_resize _ _ _ A4 _ c4 A5 _ c5 _ _ _ W H o w b1 b2 (sT hW) (sT hH) (sT a1) (sT a2) a3 a4 rfl _ _ (resTab o.f6 W M1 M1) (resTab o.f6 H M2 M2) _ _ K1 K2 (by rw [e1]; exact x1) (by rw [e2]; exact x2) (fun h => if_pos h) (fun h => if_pos h) hs (by unfold xTab; rw [if_pos h3, e1]; rfl) (by unfold yTab; rw [if_pos h3, e2]; rfl)
  · obtain ⟨hwx, hu, hv, lu, lv⟩ := weights_is o hI l4 l5
    obtain ⟨N1, rfl⟩ : ∃ N : Nat, W = N := ⟨W.toNat, by have := hW.1; omega⟩
    obtain ⟨N2, rfl⟩ : ∃ N : Nat, H = N := ⟨H.toNat, by have := hH.1; omega⟩
    have ho : opOk o := ⟨by omega, by omega, by omega, by omega, fun h => absurd h h3⟩
    have hs := stCode_filter ho hW hH h3
    obtain ⟨u, v, c, hR, hc, huv⟩ := ref_weights hI l4 l5 (by omega) (by omega)
    refine refMake_filter _ _ _ _ A4 c4 _ A5 c5 _ _ _ _ N1 N2 u v c o w k1 k2 b1 b2 (sT hW) (sT hH) (by have := hW.1; have := hW.2; omega) (by have := hH.1; have := hH.2; omega) h3 hR hx lx hy ly (fun h => ?_) rfl ?_ (fun h => ?_) (fun h => ?_)
    · obtain ⟨rfl, rfl⟩ := huv h
      exact ⟨hu, lu, hv, lv⟩
    · rw [hs, ← hc]
      by_cases h : c = 0
      · obtain ⟨rfl, rfl⟩ := huv h
        rfl
      · rw [if_neg h, if_neg h]
    · obtain ⟨rfl, rfl⟩ := huv h
      unfold xTab; rw [if_neg h3]; rfl
    · obtain ⟨rfl, rfl⟩ := huv h
      unfold yTab; rw [if_neg h3]; rfl
end Go.Proofs.YtebipmdopdogkaaGreatDoor.QA

namespace Go.Proofs.YtebipmdopdogkaaGreatDoor.QA
open Go.RowKit Go.Proofs.YtebipmdopdogkaaGreatDoorW.PrintWords Go.Proofs.YtebipmdopdogkaaGreatDoorW.PrintLast Go.Proofs.YtebipmdopdogkaaGreatDoorW.PrintMore Go.Proofs.YtebipmdopdogkaaGreatDoor.T
set_option linter.unusedVariables false
set_option linter.unusedSimpArgs false
theorem size_is (o : S27) (W H : Int) : op_Size.f o.f0 o.f1 o.f2 o.f3 o.f4 o.f5 o.f6 o.f7 o.f8 W H = some ((opTo o W H).1, (opTo o W H).2) := by
  unfold op_Size.f opTo; split <;> rfl
theorem put9 {w0 w : World} {N r t : Nat} {u0 u1 u2 u3 u4 u5 u6 u7 u8 : Value} (h : w.heap[r]? = some (.cells #[u0, u1, u2, u3, u4, u5, u6, u7, u8] t (0, 0))) (hb : Below N w0 w) (hr : N ≤ r) (v0 v1 v2 v3 v4 v5 v6 v7 v8 : Value) :
    ∃ w6, ((((((((w.setCell ⟨r, 0, none⟩ v0).setCell ⟨r, 1, none⟩ v1).setCell ⟨r, 2, none⟩ v2).setCell ⟨r, 3, none⟩ v3).setCell ⟨r, 4, none⟩ v4).setCell ⟨r, 5, none⟩ v5).setCell ⟨r, 6, none⟩ v6).setCell ⟨r, 7, none⟩ v7).setCell ⟨r, 8, none⟩ v8 = w6 ∧ w6.heap[r]? = some (.cells #[v0, v1, v2, v3, v4, v5, v6, v7, v8] t (0, 0)) ∧ Below N w0 w6 := ⟨_, rfl, by simpa using (blk_set (blk_set (blk_set (blk_set (blk_set (blk_set (blk_set (blk_set (blk_set h 0 v0) 1 v1) 2 v2) 3 v3) 4 v4) 5 v5) 6 v6) 7 v7) 8 v8), (((((((((hb.setCell (p := ⟨r, 0, none⟩) hr v0).setCell (p := ⟨r, 1, none⟩) hr v1).setCell (p := ⟨r, 2, none⟩) hr v2).setCell (p := ⟨r, 3, none⟩) hr v3).setCell (p := ⟨r, 4, none⟩) hr v4).setCell (p := ⟨r, 5, none⟩) hr v5).setCell (p := ⟨r, 6, none⟩) hr v6).setCell (p := ⟨r, 7, none⟩) hr v7).setCell (p := ⟨r, 8, none⟩) hr v8)⟩
theorem frozen9 {w : World} {g t : Nat} {v0 v1 v2 v3 v4 v5 v6 v7 v8 : Value} (h : w.heap[g]? = some (.cells #[v0, v1, v2, v3, v4, v5, v6, v7, v8] t (0, 0))) : w.frozen? ⟨g, 0, none⟩ = false ∧ w.frozen? ⟨g, 1, none⟩ = false ∧ w.frozen? ⟨g, 2, none⟩ = false ∧ w.frozen? ⟨g, 3, none⟩ = false ∧ w.frozen? ⟨g, 4, none⟩ = false ∧ w.frozen? ⟨g, 5, none⟩ = false ∧ w.frozen? ⟨g, 6, none⟩ = false ∧ w.frozen? ⟨g, 7, none⟩ = false ∧ w.frozen? ⟨g, 8, none⟩ = false := ⟨blk_frozen h 0, blk_frozen h 1, blk_frozen h 2, blk_frozen h 3, blk_frozen h 4, blk_frozen h 5, blk_frozen h 6, blk_frozen h 7, blk_frozen h 8⟩
theorem ref12_start {w : World} {v0 v1 v2 v3 v4 v5 v6 v7 v8 : Value} : ∃ W2 g, W2 = (w.alloc (.cells #[v0, v1, v2, v3, v4, v5, v6, v7, v8] 27)).alloc (.cells #[.int .i64 0, .int .i64 0, .int .i64 0, .int .i64 0, .slice none 0 0, .slice none 0 0, .int .i64 0, .int .i64 0, .int .i64 0] 43) ∧ g = w.heap.size ∧ W2.heap[g]? = some (.cells #[v0, v1, v2, v3, v4, v5, v6, v7, v8] 27 (0, 0)) ∧ W2.heap[g + 1]? = some (.cells #[.int .i64 0, .int .i64 0, .int .i64 0, .int .i64 0, .slice none 0 0, .slice none 0 0, .int .i64 0, .int .i64 0, .int .i64 0] 43 (0, 0)) ∧ Below w.heap.size w W2 := by
  refine ⟨_, _, rfl, rfl, ?_, ?_, below_alloc (below_alloc (Below.refl w.heap.size w) _) _⟩
  · rw [ha_old _ _ _ (by simp)]; exact heap_alloc_new w _
  · exact ha_at _ _ _ (by simp)
set_option maxHeartbeats 8000000 in
set_option maxRecDepth 100000 in
theorem ref12_calls (k b s r : Int) (A4 : Option Addr) (p c4 : Nat) (A5 : Option Addr) (q c5 : Nat) (f ow oh : Int) (w : World) :
    Calls Tryz.prog 9 #[opV k b s r A4 p c4 A5 q c5 f ow oh] w fun e w' => e = .returned (opV k b s r A4 p c4 A5 q c5 f ow oh) ∧ Below w.heap.size w w' := by
  obtain ⟨W2, g, e2, hg, h1, h2, hb2⟩ := ref12_start (w := w) (v0 := .int .i64 k) (v1 := .int .i64 b) (v2 := .int .i64 s) (v3 := .int .i64 r) (v4 := .slice A4 p c4) (v5 := .slice A5 q c5) (v6 := .int .i64 f) (v7 := .int .i64 ow) (v8 := .int .i64 oh)
  have HG1 := Aside0.mk (show w.heap.size ≤ g + 1 by omega)
  have mixed : Tryz.prog.follows .mixedOrders = true := by kernel_rfl
  have E2 := Aside0.mk e2
  have HG := Aside0.mk hg
  have H1 := Aside0.mk h1
  have H2 := Aside0.mk h2
  have B2 := Aside0.mk hb2
  clear e2 hg h1 h2 hb2
  unfold opV
  go_enter Tryz.func9, Tryz.ntmps9
  go_upto_region 1 with fail
  rw [← HG.out, ← E2.out]
  clear HG E2
  obtain ⟨z0, z1, z2, z3, z4, z5, z6, z7, z8⟩ := cells9 H1.out
  obtain ⟨q0, q1, q2, q3, q4, q5, q6, q7, q8⟩ := cells9 H2.out
  obtain ⟨f0, f1, f2, f3, f4, f5, f6, f7, f8⟩ := frozen9 H2.out
  go_wp2
  clear z0 z1 z2 z3 z4 z5 z6 z7 z8 q0 q1 q2 q3 q4 q5 q6 q7 q8 f0 f1 f2 f3 f4 f5 f6 f7 f8
  obtain ⟨w6, e6, hc, B6⟩ := put9 H2.out B2.out HG1.out (.int .i64 k) (.int .i64 b) (.int .i64 s) (.int .i64 r) (.slice A4 p c4) (.slice A5 q c5) (.int .i64 f) (.int .i64 ow) (.int .i64 oh)
  rw [e6]
  obtain ⟨z0, z1, z2, z3, z4, z5, z6, z7, z8⟩ := cells9 hc
  refine bodyPost_ret (by simp [results, Tryz.results9, go_sem, z0, z1, z2, z3, z4, z5, z6, z7, z8]; try rfl) rfl ?_
  exact ⟨rfl, B6⟩
theorem C_op1 (W : World) (o : S27) (A4 : Option Addr) (c4 : Nat) (A5 : Option Addr) (c5 : Nat) (hx : Kd.C (Kd.int .i64) W A4 o.f4.length o.f4) (lx : o.f4.length ≤ c4) (hy : Kd.C (Kd.int .i64) W A5 o.f5.length o.f5) (ly : o.f5.length ≤ c5) :
    Kd.C k27 (W.alloc (.cells #[.int .i64 o.f0, .int .i64 o.f1, .int .i64 o.f2, .int .i64 o.f3, .slice A4 o.f4.length c4, .slice A5 o.f5.length c5, .int .i64 o.f6, .int .i64 o.f7, .int .i64 o.f8] 27 (0, 0))) (some ⟨W.heap.size, 0, none⟩) [o].length [o] := by
  have hb := below_alloc (Below.refl W.heap.size W) (.cells #[.int .i64 o.f0, .int .i64 o.f1, .int .i64 o.f2, .int .i64 o.f3, .slice A4 o.f4.length c4, .slice A5 o.f5.length c5, .int .i64 o.f6, .int .i64 o.f7, .int .i64 o.f8] 27 (0, 0))
  obtain ⟨z0, z1, z2, z3, z4, z5, z6, z7, z8⟩ := cells9 (heap_alloc_new W (.cells #[.int .i64 o.f0, .int .i64 o.f1, .int .i64 o.f2, .int .i64 o.f3, .slice A4 o.f4.length c4, .slice A5 o.f5.length c5, .int .i64 o.f6, .int .i64 o.f7, .int .i64 o.f8] 27 (0, 0)))
  refine ⟨rfl, by simp, fun _ => ⟨_, rfl, fun j p hp => ?_⟩⟩
  have hj : j = 0 := by
    have := (List.getElem?_eq_some_iff.1 hp).1
    simp at this; omega
  subst hj
  simp at hp
  subst hp
  refine ⟨_, rfl, k27_mk _ o lx (Kd.C_below hx hb) ly (Kd.C_below hy hb), fun i u hu => ?_⟩
  have hi : i < 9 := (List.getElem?_eq_some_iff.1 hu).1
  match i, hi, hu with
  | 0, _, hu => rw [← Option.some.inj hu]; exact z0
  | 1, _, hu => rw [← Option.some.inj hu]; exact z1
  | 2, _, hu => rw [← Option.some.inj hu]; exact z2
  | 3, _, hu => rw [← Option.some.inj hu]; exact z3
  | 4, _, hu => rw [← Option.some.inj hu]; exact z4
  | 5, _, hu => rw [← Option.some.inj hu]; exact z5
  | 6, _, hu => rw [← Option.some.inj hu]; exact z6
  | 7, _, hu => rw [← Option.some.inj hu]; exact z7
  | 8, _, hu => rw [← Option.some.inj hu]; exact z8
theorem ref12_size_is (o : S27) (W H : Int) : smaltoref12_Size.f o.f0 o.f1 o.f2 o.f3 o.f4 o.f5 o.f6 o.f7 o.f8 W H = some ((opTo o W H).1, (opTo o W H).2) := by
  unfold smaltoref12_Size.f opTo
  split <;> rfl
theorem told_st {o : S27} {W H : Int} (hI : opI o) (l4 : o.f4.length < 4611686018427387904) (l5 : o.f5.length < 4611686018427387904) (h : stCode o W H = 0) : Told (xTab o W) ∧ Told (yTab o H) ∧ (xTab o W).n = W ∧ (yTab o H).n = H ∧ opOk o ∧ sideP W ∧ sideP H := by
  by_cases hh : opOk o ∧ sideP W ∧ sideP H
  rotate_left
  · rw [refMk_six o W H hh] at h; exact absurd h (by decide)
  obtain ⟨ho, hW, hH⟩ := hh
  obtain ⟨N1, rfl⟩ : ∃ N : Nat, W = N := ⟨W.toNat, by have := hW.1; omega⟩
  obtain ⟨N2, rfl⟩ : ∃ N : Nat, H = N := ⟨H.toNat, by have := hH.1; omega⟩
  have n1 : 1 ≤ N1 ∧ N1 ≤ 65536 := by have := hW.1; have := hW.2; omega
  have n2 : 1 ≤ N2 ∧ N2 ≤ 65536 := by have := hH.1; have := hH.2; omega
  refine (fun hT : Told (xTab o N1) ∧ Told (yTab o N2) ∧ (xTab o N1).n = N1 ∧ (yTab o N2).n = N2 => ⟨hT.1, hT.2.1, hT.2.2.1, hT.2.2.2, ho, hW, hH⟩) ?_
  by_cases h3 : o.f0 = 3
  · obtain ⟨a1, a2, a3, a4, a5, a6⟩ := ho.2.2.2.2 h3
    obtain ⟨M1, e1⟩ : ∃ M : Nat, o.f7 = M := ⟨o.f7.toNat, by omega⟩
    obtain ⟨M2, e2⟩ : ∃ M : Nat, o.f8 = M := ⟨o.f8.toNat, by omega⟩
    have q1 : okR o.f6 N1 M1 := ⟨a5, a6, hW.1, hW.2, by omega, by omega⟩
    have q2 : okR o.f6 N2 M2 := ⟨a5, a6, hH.1, hH.2, by omega, by omega⟩
    have hs : stCode o N1 N2 = if resCode o.f6 N1 M1 0 M1 = 0 then resCode o.f6 N2 M2 0 M2 else resCode o.f6 N1 M1 0 M1 := by
      unfold stCode xCode yCode
      rw [if_pos ⟨ho, hW, hH⟩, if_neg (fun h => h.1 h3), if_pos h3, if_pos h3, e1, e2]; rfl
    rw [hs] at h
    have ex : xTab o N1 = resTab o.f6 N1 M1 M1 := by unfold xTab; rw [if_pos h3, e1]; rfl
    have ey : yTab o N2 = resTab o.f6 N2 M2 M2 := by unfold yTab; rw [if_pos h3, e2]; rfl
    rw [ex, ey]
    by_cases k1 : resCode o.f6 N1 M1 0 M1 = 0
    · rw [if_pos k1] at h
      exact ⟨told_res q1 k1, told_res q2 h, resTab_n _ _ _ _, resTab_n _ _ _ _⟩
    · rw [if_neg k1] at h; exact absurd h k1
  · obtain ⟨hw, hu, hv, lu, lv⟩ := weights_is o hI l4 l5
    rw [stCode_filter ho hW hH h3] at h
    have ex : xTab o N1 = filTab N1 (((wtsV o).1.length / 2 : Nat) : Int) (appL (wtsV o).1) N1 := by unfold xTab; rw [if_neg h3]; rfl
    have ey : yTab o N2 = filTab N2 (((wtsV o).2.1.length / 2 : Nat) : Int) (appL (wtsV o).2.1) N2 := by unfold yTab; rw [if_neg h3]; rfl
    rw [ex, ey]
    by_cases k0 : (wtsV o).2.2 = 0
    · rw [if_pos k0] at h
      by_cases k1 : filCode (wtsV o).1 N1 = 0
      · rw [if_pos k1] at h
        exact ⟨told_fil n1.1 n1.2 hu k1, told_fil n2.1 n2.2 hv h, filTab_n _ _ _ _, filTab_n _ _ _ _⟩
      · rw [if_neg k1] at h; exact absurd h k1
    · rw [if_neg k0] at h; exact absurd h k0
end Go.Proofs.YtebipmdopdogkaaGreatDoor.QA

namespace Go.Proofs.YtebipmdopdogkaaGreatDoor.QA
open Go.RowKit Go.Proofs.YtebipmdopdogkaaGreatDoorW.PrintWords Go.Proofs.YtebipmdopdogkaaGreatDoorW.PrintLast Go.Proofs.YtebipmdopdogkaaGreatDoorW.PrintMore Go.Proofs.YtebipmdopdogkaaGreatDoor.T
set_option linter.unusedVariables false
set_option linter.unusedSimpArgs false
/-- May an operation be played? -/
def litOk (o : S27) (s : Int) : Prop := (o.f4.length : Int) ≤ 40 ∧ (o.f5.length : Int) ≤ 40 ∧ ¬ (262144 < o.f2 ∧ o.f2 ≤ 4194304) ∧ ¬ (20 < o.f3 ∧ o.f3 < 512) ∧ ¬ (s < o.f7 ∧ o.f7 ≤ 65536) ∧ ¬ (s < o.f8 ∧ o.f8 ≤ 65536)
instance (o : S27) (s : Int) : Decidable (litOk o s) := by unfold litOk; exact inferInstance
def littleB (l : List S27) (s : Int) : Bool := decide (∀ j, j < l.length → litOk (rd_T27 l (j : Int)) s)
set_option maxHeartbeats 8000000 in
set_option maxRecDepth 100000 in
theorem little_calls (l : List S27) (A0 : Option Addr) (c0 : Nat) (s : Int) (w : World) (hr : Kd.C k27 w A0 l.length l) (hc : l.length ≤ c0) :
    Calls Tryz.prog 6 #[.slice A0 l.length c0, .int .i64 s] w fun e w' => e = .returned (.bool (littleB l s)) ∧ Below w.heap.size w w' := by
  have HR := Aside0.mk hr
  have lm : l.length ≤ 9223372036854775807 := hr.2.1
  obtain ⟨B, hB⟩ : ∃ B, B = littleB l s := ⟨_, rfl⟩
  rw [← hB]
  have HB := Aside0.mk hB
  obtain ⟨n, hn⟩ : ∃ n, n = l.length := ⟨_, rfl⟩
  have HN := Aside0.mk hn
  rw [← hn] at lm hc ⊢
  clear hr hB hn
  have mixed : Tryz.prog.follows .mixedOrders = true := by kernel_rfl
  go_enter Tryz.func6, Tryz.ntmps6
  go_upto_region 2 with fail
  go_loopg [9] n (fun kx s9 wr => ∃ (i : Nat), s9 = .int .i64 i ∧ i ≤ n ∧ n - i ≤ kx ∧ Aside0 (∀ j, j < i → litOk (rd_T27 l (j : Int)) s) ∧ Aside0 (Below w.heap.size w wr))
  case atStart => exact ⟨0, rfl, by omega, by omega, ⟨fun j hj => absurd hj (Nat.not_lt_zero _)⟩, ⟨Below.refl _ _⟩⟩
  case round =>
    obtain ⟨i, rfl, i1, i2, HO, HW⟩ := hrel
    have wi : IntKind.i64.wrap ((i : Int) + 1) = wrap64 ((i : Int) + 1) := by rw [i64w]
    by_cases hlt : (i : Int) < (n : Int)
    rotate_left
    · have hb : B = true := by
        rw [HB.out]
        exact decide_eq_true (fun j hj => HO.out j (by rw [← HN.out] at hj; omega))
      clear HB
      subst hb
      go_wp2
      go_ret
      exact ⟨rfl, HW.out⟩
    have p1 : (0 ≤ (i : Int)) := by omega
    have w2 : wrap64 ((i : Int) + 1) = (i : Int) + 1 := w64_id (by omega) (by omega)
    obtain ⟨ad, A4, c4, A5, c5, e0, z0, z1, z2, z3, z4, z5, z6, z7, z8, -, -, -, -⟩ := at_T27 (Kd.C_below HR.out HW.out) (i : Int) p1 (by rw [← HN.out]; exact hlt)
    cases e0
    rw [Int.toNat_natCast] at z0 z1 z2 z3 z4 z5 z6 z7 z8
    obtain ⟨bq, hbq⟩ : ∃ b, b = decide (¬ litOk (rd_T27 l (i : Int)) s) := ⟨_, rfl⟩
    have HQ := Aside0.mk hbq
    have hT : ¬ litOk (rd_T27 l (i : Int)) s → bq = true := fun h => by rw [hbq, decide_eq_true h]
    have hF : litOk (rd_T27 l (i : Int)) s → bq = false := fun h => by rw [hbq, decide_eq_false (fun q => q h)]
    clear hbq
    obtain ⟨o, ho⟩ : ∃ o, o = rd_T27 l (i : Int) := ⟨_, rfl⟩
    rw [← ho] at hT hF HQ z0 z1 z2 z3 z4 z5 z6 z7 z8
    have HO2 := Aside0.mk ho.symm
    clear ho
    obtain ⟨k, b, sg, r, x, y, f, ow, oh⟩ := o
    simp only at z0 z1 z2 z3 z4 z5 z6 z7 z8
    unfold litOk at hT hF
    simp only at hT hF
    obtain ⟨p, hp⟩ : ∃ p, p = x.length := ⟨_, rfl⟩
    obtain ⟨q, hq⟩ : ∃ q, q = y.length := ⟨_, rfl⟩
    rw [← hp] at z4 hT hF
    rw [← hq] at z5 hT hF
    have HT := Aside0.mk hT
    have HF := Aside0.mk hF
    clear hp hq hT hF
    go_upto_region 4 with fail
    have hr1 := heap_alloc_new wr (.cells #[.int .i64 k, .int .i64 b, .int .i64 sg, .int .i64 r, .slice A4 p c4, .slice A5 q c5, .int .i64 f, .int .i64 ow, .int .i64 oh] 27)
    have B7 := Aside0.mk (below_alloc HW.out (.cells #[.int .i64 k, .int .i64 b, .int .i64 sg, .int .i64 r, .slice A4 p c4, .slice A5 q c5, .int .i64 f, .int .i64 ow, .int .i64 oh] 27))
    obtain ⟨g, hg⟩ : ∃ g, g = wr.heap.size := ⟨_, rfl⟩
    rw [← hg] at hr1 ⊢
    clear hg z0 z1 z2 z3 z4 z5 z6 z7 z8
    generalize wr.alloc (.cells #[.int .i64 k, .int .i64 b, .int .i64 sg, .int .i64 r, .slice A4 p c4, .slice A5 q c5, .int .i64 f, .int .i64 ow, .int .i64 oh] 27) = w7 at hr1 B7 ⊢
    obtain ⟨-, -, z2, z3, z4, z5, -, z7, z8⟩ := cells9 hr1
    clear hr1
    go_cut [64] (fun v64 wc => v64 = .bool bq ∧ Aside0 (Below w.heap.size w wc))
    case first =>
      by_cases a1 : 40 < (p : Int)
      · (go_wp2; go_meet; case rel => exact ⟨congrArg Value.bool (HT.out (by omega)).symm, ⟨by repeat (first | (with_reducible first | exact B7.out | apply pw_below_drewN | apply below_drew1) | exact B7.out)⟩⟩)
      by_cases a2 : 40 < (q : Int)
      · (go_wp2; go_meet; case rel => exact ⟨congrArg Value.bool (HT.out (by omega)).symm, ⟨by repeat (first | (with_reducible first | exact B7.out | apply pw_below_drewN | apply below_drew1) | exact B7.out)⟩⟩)
      by_cases h1 : 262144 < sg ∧ sg ≤ 4194304
      · obtain ⟨b1, b2⟩ := h1
        (go_wp2; go_meet; case rel => exact ⟨congrArg Value.bool (HT.out (by omega)).symm, ⟨by repeat (first | (with_reducible first | exact B7.out | apply pw_below_drewN | apply below_drew1) | exact B7.out)⟩⟩)
      have h1 : ¬ 262144 < sg ∨ (262144 < sg ∧ ¬ sg ≤ 4194304) := by omega
      by_cases h2 : 20 < r ∧ r < 512
      · obtain ⟨c1, c2⟩ := h2
        rcases h1 with b1 | ⟨b1, b2⟩ <;> (go_wp2; go_meet; case rel => exact ⟨congrArg Value.bool (HT.out (by omega)).symm, ⟨by repeat (first | (with_reducible first | exact B7.out | apply pw_below_drewN | apply below_drew1) | exact B7.out)⟩⟩)
      have h2 : ¬ 20 < r ∨ (20 < r ∧ ¬ r < 512) := by omega
      by_cases h3 : s < ow ∧ ow ≤ 65536
      · obtain ⟨d1, d2⟩ := h3
        rcases h1 with b1 | ⟨b1, b2⟩ <;> rcases h2 with c1 | ⟨c1, c2⟩ <;> (go_wp2; go_meet; case rel => exact ⟨congrArg Value.bool (HT.out (by omega)).symm, ⟨by repeat (first | (with_reducible first | exact B7.out | apply pw_below_drewN | apply below_drew1) | exact B7.out)⟩⟩)
      have h3 : ¬ s < ow ∨ (s < ow ∧ ¬ ow ≤ 65536) := by omega
      by_cases h4 : s < oh ∧ oh ≤ 65536
      · obtain ⟨e1, e2⟩ := h4
        rcases h1 with b1 | ⟨b1, b2⟩ <;> rcases h2 with c1 | ⟨c1, c2⟩ <;> rcases h3 with d1 | ⟨d1, d2⟩ <;> (go_wp2; go_meet; case rel => exact ⟨congrArg Value.bool (HT.out (by omega)).symm, ⟨by repeat (first | (with_reducible first | exact B7.out | apply pw_below_drewN | apply below_drew1) | exact B7.out)⟩⟩)
      have h4 : ¬ s < oh ∨ (s < oh ∧ ¬ oh ≤ 65536) := by omega
      rcases h1 with b1 | ⟨b1, b2⟩ <;> rcases h2 with c1 | ⟨c1, c2⟩ <;> rcases h3 with d1 | ⟨d1, d2⟩ <;> rcases h4 with e1 | ⟨e1, e2⟩ <;> (go_wp2; go_meet; case rel => exact ⟨congrArg Value.bool (HF.out (by omega)).symm, ⟨by repeat (first | (with_reducible first | exact B7.out | apply pw_below_drewN | apply below_drew1) | exact B7.out)⟩⟩)
    case rest =>
      obtain ⟨rfl, B8⟩ := hcut
      clear z2 z3 z4 z5 z7 z8 HT HF B7
      cases bq
      · have hl : litOk ⟨k, b, sg, r, x, y, f, ow, oh⟩ s := Decidable.byContradiction (fun h => by have := HQ.out; rw [decide_eq_true h] at this; cases this)
        go_wp2
        go_roundg (n - (i + 1))
        case measure => omega
        case rel => exact ⟨i + 1, by simp, by omega, Nat.le_refl _, ⟨fun j hj => by
          by_cases e : j = i
          · subst e; rw [HO2.out]; exact hl
          · exact HO.out j (by omega)⟩, B8⟩
      · have hl : ¬ litOk ⟨k, b, sg, r, x, y, f, ow, oh⟩ s := fun h => by have := HQ.out; rw [decide_eq_false (fun q => q h)] at this; cases this
        have hb : B = false := by
          rw [HB.out]
          exact decide_eq_false (fun h => hl (by rw [← HO2.out]; exact h i (by rw [← HN.out]; omega)))
        clear HB HO2
        subst hb
        go_wp2
        go_ret
        exact ⟨rfl, B8.out⟩
theorem little_lens {l : List S27} {s : Int} (h : littleB l s = true) (j : Nat) (hj : j < l.length) : litOk (rd_T27 l (j : Int)) s := of_decide_eq_true h j hj
end Go.Proofs.YtebipmdopdogkaaGreatDoor.QA

namespace Go.Proofs.YtebipmdopdogkaaGreatDoor.QA
open Go.RowKit Go.Proofs.YtebipmdopdogkaaGreatDoorW.PrintWords Go.Proofs.YtebipmdopdogkaaGreatDoorW.PrintLast Go.Proofs.YtebipmdopdogkaaGreatDoorW.PrintMore Go.Proofs.YtebipmdopdogkaaGreatDoor.T
set_option linter.unusedVariables false
set_option linter.unusedSimpArgs false
theorem heapOld {w : World} {g : Nat} {x : Obj} {o : Obj} (h : w.heap[g]? = some x) : (w.alloc o).heap[g]? = some x := (below_alloc (Below.refl w.heap.size w) o).block g (blk_lt h) |>.trans h
set_option maxHeartbeats 8000000 in
set_option maxRecDepth 100000 in
theorem opMakes_main (o : S27) (A4 : Option Addr) (c4 : Nat) (A5 : Option Addr) (c5 : Nat) (W H : Int) (w : World) (hG : GL w) (hI : opI o) (hx : Kd.C (Kd.int .i64) w A4 o.f4.length o.f4) (lx : o.f4.length ≤ c4) (hy : Kd.C (Kd.int .i64) w A5 o.f5.length o.f5) (ly : o.f5.length ≤ c5) (l4 : o.f4.length < 4611686018427387904) (l5 : o.f5.length < 4611686018427387904) :
    Calls Tryz.prog 3 #[opV o.f0 o.f1 o.f2 o.f3 A4 o.f4.length c4 A5 o.f5.length c5 o.f6 o.f7 o.f8, .int .i64 W, .int .i64 H] w fun e w' => e = .returned (.bool true) ∧ Below w.heap.size w w' := by
  have LV := Aside0.mk (fun w' (hb : Below w.heap.size w w') => lives12_calls w' (hG.below hb))
  obtain ⟨lb, hl⟩ : ∃ b, b = littleB [o] 30 := ⟨_, rfl⟩
  have LT : Aside0 (∀ w', Below w.heap.size w w' → Calls Tryz.prog 6 #[.slice (some ⟨w'.heap.size, 0, none⟩) 1 1, .int .i64 30] (w'.alloc (.cells #[.int .i64 o.f0, .int .i64 o.f1, .int .i64 o.f2, .int .i64 o.f3, .slice A4 o.f4.length c4, .slice A5 o.f5.length c5, .int .i64 o.f6, .int .i64 o.f7, .int .i64 o.f8] 27)) (fun e w'' => e = .returned (.bool lb) ∧ Below (w'.alloc (.cells #[.int .i64 o.f0, .int .i64 o.f1, .int .i64 o.f2, .int .i64 o.f3, .slice A4 o.f4.length c4, .slice A5 o.f5.length c5, .int .i64 o.f6, .int .i64 o.f7, .int .i64 o.f8] 27)).heap.size (w'.alloc (.cells #[.int .i64 o.f0, .int .i64 o.f1, .int .i64 o.f2, .int .i64 o.f3, .slice A4 o.f4.length c4, .slice A5 o.f5.length c5, .int .i64 o.f6, .int .i64 o.f7, .int .i64 o.f8] 27)) w'')) := ⟨fun w' hb => by rw [hl]; exact little_calls [o] (some ⟨w'.heap.size, 0, none⟩) 1 30 _ (C_op1 w' o A4 c4 A5 c5 (Kd.C_below hx hb) lx (Kd.C_below hy hb) ly) (by simp)⟩
  have MK := Aside0.mk (fun w' (hb : Below w.heap.size w w') => make_is o W H A4 c4 A5 c5 w' (hG.below hb) hI (Kd.C_below hx hb) lx (Kd.C_below hy hb) ly l4 l5)
  have RM := Aside0.mk (fun w' (hb : Below w.heap.size w w') => refMake_is o W H A4 c4 A5 c5 w' hI (Kd.C_below hx hb) lx (Kd.C_below hy hb) ly l4 l5)
  have SZ := Aside0.mk (fun w' (hb : Below w.heap.size w w') => op_Size.calls o.f0 o.f1 o.f2 o.f3 A4 c4 o.f4 A5 c5 o.f5 o.f6 o.f7 o.f8 W H _ _ w' (Kd.C_below hx hb) lx (Kd.C_below hy hb) ly (size_is o W H))
  have RZ := Aside0.mk (fun w' (hb : Below w.heap.size w w') => smaltoref12_Size.calls o.f0 o.f1 o.f2 o.f3 A4 c4 o.f4 A5 c5 o.f5 o.f6 o.f7 o.f8 W H _ _ w' (Kd.C_below hx hb) lx (Kd.C_below hy hb) ly (ref12_size_is o W H))
  have RF := Aside0.mk (fun w' => ref12_calls o.f0 o.f1 o.f2 o.f3 A4 o.f4.length c4 A5 o.f5.length c5 o.f6 o.f7 o.f8 w')
  obtain ⟨sx, hsx⟩ : ∃ x, x = (opTo o W H).1 := ⟨_, rfl⟩
  obtain ⟨sy, hsy⟩ : ∃ x, x = (opTo o W H).2 := ⟨_, rfl⟩
  rw [← hsx, ← hsy] at SZ RZ
  have TD := Aside0.mk (told_st (W := W) (H := H) hI l4 l5)
  unfold MakeP StageP NoStP at MK
  unfold RefMkP at RM
  obtain ⟨c, hc⟩ : ∃ x, x = stCode o W H := ⟨_, rfl⟩
  obtain ⟨tx, htx⟩ : ∃ x, x = xTab o W := ⟨_, rfl⟩
  obtain ⟨ty, hty⟩ : ∃ x, x = yTab o H := ⟨_, rfl⟩
  rw [← hc, ← htx, ← hty] at MK RM TD
  obtain ⟨p, hp⟩ : ∃ x, x = o.f4.length := ⟨_, rfl⟩
  obtain ⟨q, hq⟩ : ∃ x, x = o.f5.length := ⟨_, rfl⟩
  rw [← hp, ← hq] at MK RM SZ RZ RF LT ⊢
  clear hl hG hI hx lx hy ly l4 l5 hsx hsy hc htx hty hp hq
  obtain ⟨k, b, s, r, x4, x5, f, ow, oh⟩ := o
  simp only at *
  have hr := heap_alloc_new w (.cells #[.int .i64 k, .int .i64 b, .int .i64 s, .int .i64 r, .slice A4 p c4, .slice A5 q c5, .int .i64 f, .int .i64 ow, .int .i64 oh] 27)
  have BX := Aside0.mk (below_alloc (Below.refl w.heap.size w) (.cells #[.int .i64 k, .int .i64 b, .int .i64 s, .int .i64 r, .slice A4 p c4, .slice A5 q c5, .int .i64 f, .int .i64 ow, .int .i64 oh] 27))
  obtain ⟨W1, e1⟩ : ∃ x, x = w.alloc (.cells #[.int .i64 k, .int .i64 b, .int .i64 s, .int .i64 r, .slice A4 p c4, .slice A5 q c5, .int .i64 f, .int .i64 ow, .int .i64 oh] 27) := ⟨_, rfl⟩
  obtain ⟨g, hg⟩ : ∃ g, g = w.heap.size := ⟨_, rfl⟩
  rw [← e1] at BX hr
  rw [← hg] at hr
  have H1 := Aside0.mk hr
  have E1 := Aside0.mk e1
  have EG := Aside0.mk hg
  clear hr e1 hg
  have mixed : Tryz.prog.follows .mixedOrders = true := by kernel_rfl
  unfold opV at *
  have guard : lb = false ∨ (lb = true ∧ 30 < W ∧ W ≤ 65536) ∨ (lb = true ∧ ¬ 30 < W ∧ 30 < H ∧ H ≤ 65536) ∨ (lb = true ∧ 30 < W ∧ ¬ W ≤ 65536 ∧ 30 < H ∧ H ≤ 65536) ∨ (lb = true ∧ (¬ 30 < W ∨ (30 < W ∧ ¬ W ≤ 65536)) ∧ (¬ 30 < H ∨ (30 < H ∧ ¬ H ≤ 65536))) := by
    cases lb
    · exact .inl rfl
    · by_cases g1 : 30 < W <;> by_cases g2 : W ≤ 65536 <;> by_cases g3 : 30 < H <;> by_cases g4 : H ≤ 65536 <;> simp [g1, g2, g3, g4]
  have start : ∀ {P : Prop}, P → P := fun h => h
  rcases guard with rfl | ⟨rfl, g1, g2⟩ | ⟨rfl, g1, g3, g4⟩ | ⟨rfl, g1, g2, g3, g4⟩ | ⟨rfl, gW, gH⟩
  rotate_right 1
  · have e1 : (c != c) = false := by simp
    have e2 : (sx != sx) = false := by simp
    have e3 : (sy != sy) = false := by simp
    by_cases hc : c = 0
    rotate_left
    · simp only [if_neg hc] at MK RM
      have c1 : (c != 0) = true := by simpa using hc
      clear hc TD
      rcases gW with g1 | ⟨g1, g2⟩ <;> rcases gH with g3 | ⟨g3, g4⟩
      all_goals (
      go_enter Tryz.func3, Tryz.ntmps3
      go_upto_region 1 with fail
      rw [← EG.out, ← E1.out]
      go_upto_region 3 with (first
        | (go_at_call 5; (with_reducible refine (LV.out _ BX.out).mono ?_); rintro e w2 ⟨rfl, hb1⟩; have B2 := Aside0.mk (below_step BX.out hb1); have hz := blk_below H1.out hb1; obtain ⟨z0, z1, z2, z3, z4, z5, z6, z7, z8⟩ := cells9 hz; have H2 := Aside0.mk hz; clear hz; clear hb1)
        | (go_at_call 6; (with_reducible refine (LT.out _ B2.out).mono ?_); rintro e w3 ⟨rfl, hb1⟩; have B3 := Aside0.mk (below_step (below_alloc B2.out _) hb1); have hz := blk_below (heapOld H2.out) hb1; have H3 := Aside0.mk hz; clear hb1 hz))
      clear z0 z1 z2 z3 z4 z5 z6 z7 z8
      obtain ⟨z0, z1, z2, z3, z4, z5, z6, z7, z8⟩ := cells9 H3.out
      go_upto_region 4 with (go_at_call 7; (with_reducible refine (MK.out _ B3.out).mono ?_); rintro e w4 ⟨hb1, rfl⟩; have B4 := Aside0.mk (below_step B3.out hb1); have hz := blk_below H3.out hb1; have H4 := Aside0.mk hz; clear hz; clear hb1)
      have hs := heap_alloc_new w4 (.cells #[.pointer none, .pointer none, .int .i64 0] 33)
      have hz := heapOld (o := .cells #[.pointer none, .pointer none, .int .i64 0] 33) H4.out
      have B5 := Aside0.mk (below_alloc B4.out (.cells #[.pointer none, .pointer none, .int .i64 0] 33))
      obtain ⟨r1, hr1⟩ : ∃ r, r = w4.heap.size := ⟨_, rfl⟩
      rw [← hr1] at hs ⊢
      clear hr1 B4 H4 H3 B3
      generalize w4.alloc (.cells #[.pointer none, .pointer none, .int .i64 0] 33) = w5 at hs hz B5 ⊢
      have H5 := Aside0.mk hz
      have S5 := Aside0.mk hs
      clear z0 z1 z2 z3 z4 z5 z6 z7 z8
      obtain ⟨z0, z1, z2, z3, z4, z5, z6, z7, z8⟩ := cells9 hz
      clear hz hs
      go_upto_region 5 with (first
        | (go_at_call 9; (with_reducible refine (RF.out _).mono ?_); rintro e w6 ⟨rfl, hb1⟩; have B6 := Aside0.mk (below_step B5.out hb1); have H6 := Aside0.mk (blk_below H5.out hb1); have S6 := Aside0.mk (blk_below S5.out hb1); clear hb1)
        | (go_at_call 8; (with_reducible refine (RM.out _ B6.out).mono ?_); rintro e w7 ⟨hb1, rfl⟩; have B7 := Aside0.mk (below_step B6.out hb1); have H7 := Aside0.mk (blk_below H6.out hb1); have S7 := Aside0.mk (blk_below S6.out hb1); clear hb1))
      have hr := heap_alloc_new w7 (.cells #[.slice none 0 0, .slice none 0 0, .int .i64 0, .int .i64 0, .int .i64 0] 39)
      have hz := heapOld (o := .cells #[.slice none 0 0, .slice none 0 0, .int .i64 0, .int .i64 0, .int .i64 0] 39) H7.out
      have hs := heapOld (o := .cells #[.slice none 0 0, .slice none 0 0, .int .i64 0, .int .i64 0, .int .i64 0] 39) S7.out
      have B8 := Aside0.mk (below_alloc B7.out (.cells #[.slice none 0 0, .slice none 0 0, .int .i64 0, .int .i64 0, .int .i64 0] 39))
      obtain ⟨r2, hr2⟩ : ∃ r, r = w7.heap.size := ⟨_, rfl⟩
      rw [← hr2] at hr ⊢
      clear hr2 B7 H7 S7 B5 H5 S5 B6 H6 S6
      generalize w7.alloc (.cells #[.slice none 0 0, .slice none 0 0, .int .i64 0, .int .i64 0, .int .i64 0] 39) = w8 at hr hs hz B8 ⊢
      have H8 := Aside0.mk hz
      have S8 := Aside0.mk hs
      have R8 := Aside0.mk hr
      clear z0 z1 z2 z3 z4 z5 z6 z7 z8
      obtain ⟨z0, z1, z2, z3, z4, z5, z6, z7, z8⟩ := cells9 hz
      clear hz hs hr
      go_upto_region 7 with (first
        | (go_at_call 10; (with_reducible refine (SZ.out _ B8.out).mono ?_); rintro e w9 ⟨rfl, hb1⟩; have B9 := Aside0.mk (below_step B8.out hb1); have hz := blk_below H8.out hb1; obtain ⟨z0, z1, z2, z3, z4, z5, z6, z7, z8⟩ := cells9 hz; have S9 := Aside0.mk (blk_below S8.out hb1); have R9 := Aside0.mk (blk_below R8.out hb1); clear hz; clear hb1)
        | (go_at_call 9; (with_reducible refine (RF.out _).mono ?_); rintro e w10 ⟨rfl, hb1⟩; have B10 := Aside0.mk (below_step B9.out hb1); have S10 := Aside0.mk (blk_below S9.out hb1); have R10 := Aside0.mk (blk_below R9.out hb1); clear hb1)
        | (go_at_call 11; (with_reducible refine (RZ.out _ B10.out).mono ?_); rintro e w11 ⟨rfl, hb1⟩; have B11 := Aside0.mk (below_step B10.out hb1); have hs := blk_below S10.out hb1; have hr := blk_below R10.out hb1; clear hb1))
      obtain ⟨u0, u1, u2⟩ := cells3 hs
      go_wp2
      go_ret
      exact ⟨rfl, B11.out⟩)
    · simp only [if_pos hc] at MK RM
      obtain ⟨td1, td2, td3, td4, -, -, -⟩ := TD.out hc
      have SAME := Aside0.mk (fun bx bz A1 k1 A2 k2 w' (h1 : TabC w' bx tx) (h2 : TabC w' bz ty) (h3 : (tx.lines.map toR).length ≤ k1 ∧ Kd.C k91 w' A1 (tx.lines.map toR).length (tx.lines.map toR) ∧ (ty.lines.map toR).length ≤ k2 ∧ Kd.C k91 w' A2 (ty.lines.map toR).length (ty.lines.map toR)) =>
        (by
          have e1 : (tx.lines.map toR).length = tx.lines.length := List.length_map ..
          have e2 : (ty.lines.map toR).length = ty.lines.length := List.length_map ..
          have h := same12_calls bx bz tx ty b A1 k1 A2 k2 w' h1 h2 td1 td2 (by rw [← e1]; exact h3.2.1) (by rw [← e2]; exact h3.2.2.2) (by rw [← e1]; exact h3.1) (by rw [← e2]; exact h3.2.2.1)
          rw [td3, td4, ← e1, ← e2] at h
          exact h : Calls Tryz.prog 12 #[.agg #[.pointer (some ⟨bx, 0, none⟩), .pointer (some ⟨bz, 0, none⟩), .int .i64 b], .agg #[.slice A1 (tx.lines.map toR).length k1, .slice A2 (ty.lines.map toR).length k2, .int .i64 W, .int .i64 H, .int .i64 b]] w' fun e w'' => e = .returned (.bool true) ∧ Below w'.heap.size w' w''))
      clear td1 td2 td3 td4 TD
      obtain ⟨l1, hl1⟩ : ∃ l, l = tx.lines.map toR := ⟨_, rfl⟩
      obtain ⟨l2, hl2⟩ : ∃ l, l = ty.lines.map toR := ⟨_, rfl⟩
      rw [← hl1, ← hl2] at RM SAME
      clear hl1 hl2
      subst hc
      rcases gW with g1 | ⟨g1, g2⟩ <;> rcases gH with g3 | ⟨g3, g4⟩
      all_goals (
      go_enter Tryz.func3, Tryz.ntmps3
      go_upto_region 1 with fail
      rw [← EG.out, ← E1.out]
      go_upto_region 3 with (first
        | (go_at_call 5; (with_reducible refine (LV.out _ BX.out).mono ?_); rintro e w2 ⟨rfl, hb1⟩; have B2 := Aside0.mk (below_step BX.out hb1); have hz := blk_below H1.out hb1; obtain ⟨z0, z1, z2, z3, z4, z5, z6, z7, z8⟩ := cells9 hz; have H2 := Aside0.mk hz; clear hz; clear hb1)
        | (go_at_call 6; (with_reducible refine (LT.out _ B2.out).mono ?_); rintro e w3 ⟨rfl, hb1⟩; have B3 := Aside0.mk (below_step (below_alloc B2.out _) hb1); have hz := blk_below (heapOld H2.out) hb1; have H3 := Aside0.mk hz; clear hb1 hz))
      clear z0 z1 z2 z3 z4 z5 z6 z7 z8
      obtain ⟨z0, z1, z2, z3, z4, z5, z6, z7, z8⟩ := cells9 H3.out
      go_upto_region 4 with (go_at_call 7; (with_reducible refine (MK.out _ B3.out).mono ?_); rintro e w4 ⟨hb1, bx, bz, rfl, hx, hy⟩; have B4 := Aside0.mk (below_step B3.out hb1); have hz := blk_below H3.out hb1; have H4 := Aside0.mk hz; clear hz; have TX := Aside0.mk hx.reads; have TY := Aside0.mk hy.reads; clear hx hy; clear hb1)
      have hs := heap_alloc_new w4 (.cells #[.pointer (some ⟨bx, 0, none⟩), .pointer (some ⟨bz, 0, none⟩), .int .i64 b] 33)
      have hz := heapOld (o := .cells #[.pointer (some ⟨bx, 0, none⟩), .pointer (some ⟨bz, 0, none⟩), .int .i64 b] 33) H4.out
      have B5 := Aside0.mk (below_alloc B4.out (.cells #[.pointer (some ⟨bx, 0, none⟩), .pointer (some ⟨bz, 0, none⟩), .int .i64 b] 33))
      have X5 := Aside0.mk (TX.out.below (below_alloc (Below.refl w4.heap.size w4) (.cells #[.pointer (some ⟨bx, 0, none⟩), .pointer (some ⟨bz, 0, none⟩), .int .i64 b] 33)))
      have Y5 := Aside0.mk (TY.out.below (below_alloc (Below.refl w4.heap.size w4) (.cells #[.pointer (some ⟨bx, 0, none⟩), .pointer (some ⟨bz, 0, none⟩), .int .i64 b] 33)))
      clear TX TY
      obtain ⟨r1, hr1⟩ : ∃ r, r = w4.heap.size := ⟨_, rfl⟩
      rw [← hr1] at hs ⊢
      clear hr1 B4 H4 H3 B3
      generalize w4.alloc (.cells #[.pointer (some ⟨bx, 0, none⟩), .pointer (some ⟨bz, 0, none⟩), .int .i64 b] 33) = w5 at hs hz B5 X5 Y5 ⊢
      have H5 := Aside0.mk hz
      have S5 := Aside0.mk hs
      clear z0 z1 z2 z3 z4 z5 z6 z7 z8
      obtain ⟨z0, z1, z2, z3, z4, z5, z6, z7, z8⟩ := cells9 hz
      clear hz hs
      go_upto_region 5 with (first
        | (go_at_call 9; (with_reducible refine (RF.out _).mono ?_); rintro e w6 ⟨rfl, hb1⟩; have B6 := Aside0.mk (below_step B5.out hb1); have H6 := Aside0.mk (blk_below H5.out hb1); have S6 := Aside0.mk (blk_below S5.out hb1); have X6 := Aside0.mk (X5.out.below hb1); have Y6 := Aside0.mk (Y5.out.below hb1); clear hb1)
        | (go_at_call 8; (with_reducible refine (RM.out _ B6.out).mono ?_); rintro e w7 ⟨hb1, _, _, rfl, hx, hy⟩; have B7 := Aside0.mk (below_step B6.out hb1); have H7 := Aside0.mk (blk_below H6.out hb1); have S7 := Aside0.mk (blk_below S6.out hb1); obtain ⟨A1, k1, rfl, m1, g1⟩ := hx.slice; obtain ⟨A2, k2, rfl, m2, g2⟩ := hy.slice; have X7 := Aside0.mk (X6.out.below hb1); have Y7 := Aside0.mk (Y6.out.below hb1); have M7 := Aside0.mk (And.intro m1 (And.intro g1 (And.intro m2 g2))); clear hx hy m1 g1 m2 g2; clear hb1))
      have hr := heap_alloc_new w7 (.cells #[.slice A1 l1.length k1, .slice A2 l2.length k2, .int .i64 W, .int .i64 H, .int .i64 b] 39)
      have hz := heapOld (o := .cells #[.slice A1 l1.length k1, .slice A2 l2.length k2, .int .i64 W, .int .i64 H, .int .i64 b] 39) H7.out
      have hs := heapOld (o := .cells #[.slice A1 l1.length k1, .slice A2 l2.length k2, .int .i64 W, .int .i64 H, .int .i64 b] 39) S7.out
      have B8 := Aside0.mk (below_alloc B7.out (.cells #[.slice A1 l1.length k1, .slice A2 l2.length k2, .int .i64 W, .int .i64 H, .int .i64 b] 39))
      have ba := below_alloc (Below.refl w7.heap.size w7) (.cells #[.slice A1 l1.length k1, .slice A2 l2.length k2, .int .i64 W, .int .i64 H, .int .i64 b] 39)
      have X8 := Aside0.mk (X7.out.below ba)
      have Y8 := Aside0.mk (Y7.out.below ba)
      have M8 := Aside0.mk (And.intro M7.out.1 (And.intro (Kd.C_below M7.out.2.1 ba) (And.intro M7.out.2.2.1 (Kd.C_below M7.out.2.2.2 ba))))
      clear X7 Y7 M7 X6 Y6 X5 Y5 ba
      obtain ⟨r2, hr2⟩ : ∃ r, r = w7.heap.size := ⟨_, rfl⟩
      rw [← hr2] at hr ⊢
      clear hr2 B7 H7 S7 B5 H5 S5 B6 H6 S6
      generalize w7.alloc (.cells #[.slice A1 l1.length k1, .slice A2 l2.length k2, .int .i64 W, .int .i64 H, .int .i64 b] 39) = w8 at hr hs hz B8 X8 Y8 M8 ⊢
      have H8 := Aside0.mk hz
      have S8 := Aside0.mk hs
      have R8 := Aside0.mk hr
      clear z0 z1 z2 z3 z4 z5 z6 z7 z8
      obtain ⟨z0, z1, z2, z3, z4, z5, z6, z7, z8⟩ := cells9 hz
      clear hz hs hr
      go_upto_region 7 with (first
        | (go_at_call 10; (with_reducible refine (SZ.out _ B8.out).mono ?_); rintro e w9 ⟨rfl, hb1⟩; have B9 := Aside0.mk (below_step B8.out hb1); have hz := blk_below H8.out hb1; obtain ⟨z0, z1, z2, z3, z4, z5, z6, z7, z8⟩ := cells9 hz; have S9 := Aside0.mk (blk_below S8.out hb1); have R9 := Aside0.mk (blk_below R8.out hb1); clear hz; have X9 := Aside0.mk (X8.out.below hb1); have Y9 := Aside0.mk (Y8.out.below hb1); have M9 := Aside0.mk (And.intro M8.out.1 (And.intro (Kd.C_below M8.out.2.1 hb1) (And.intro M8.out.2.2.1 (Kd.C_below M8.out.2.2.2 hb1)))); clear hb1)
        | (go_at_call 9; (with_reducible refine (RF.out _).mono ?_); rintro e w10 ⟨rfl, hb1⟩; have B10 := Aside0.mk (below_step B9.out hb1); have S10 := Aside0.mk (blk_below S9.out hb1); have R10 := Aside0.mk (blk_below R9.out hb1); have X10 := Aside0.mk (X9.out.below hb1); have Y10 := Aside0.mk (Y9.out.below hb1); have M10 := Aside0.mk (And.intro M9.out.1 (And.intro (Kd.C_below M9.out.2.1 hb1) (And.intro M9.out.2.2.1 (Kd.C_below M9.out.2.2.2 hb1)))); clear hb1)
        | (go_at_call 11; (with_reducible refine (RZ.out _ B10.out).mono ?_); rintro e w11 ⟨rfl, hb1⟩; have B11 := Aside0.mk (below_step B10.out hb1); have hs := blk_below S10.out hb1; have hr := blk_below R10.out hb1; have X11 := Aside0.mk (X10.out.below hb1); have Y11 := Aside0.mk (Y10.out.below hb1); have M11 := Aside0.mk (And.intro M10.out.1 (And.intro (Kd.C_below M10.out.2.1 hb1) (And.intro M10.out.2.2.1 (Kd.C_below M10.out.2.2.2 hb1)))); clear hb1))
      obtain ⟨u0, u1, u2⟩ := cells3 hs
      obtain ⟨y0, y1, y2, y3, y4⟩ := cells5 hr
      have sm : Calls Tryz.prog 12 #[.agg #[.pointer (some ⟨bx, 0, none⟩), .pointer (some ⟨bz, 0, none⟩), .int .i64 b], .agg #[.slice A1 l1.length k1, .slice A2 l2.length k2, .int .i64 W, .int .i64 H, .int .i64 b]] w11 fun e w' => e = .returned (.bool true) ∧ Below w11.heap.size w11 w' := SAME.out bx bz A1 k1 A2 k2 w11 X11.out Y11.out M11.out
      have SM := Aside0.mk sm
      clear sm
      go_wp2_with (go_at_call 12; (with_reducible refine SM.out.mono ?_); rintro e w12 ⟨rfl, hb1⟩; have B12 := Aside0.mk (below_step B11.out hb1); clear hb1)
      go_ret
      exact ⟨rfl, B12.out⟩)
  all_goals (
    clear TD SZ RZ RF MK RM
    go_enter Tryz.func3, Tryz.ntmps3
    go_upto_region 1 with fail
    rw [← EG.out, ← E1.out]
    go_upto_region 2 with (first
      | (go_at_call 5; (with_reducible refine (LV.out _ BX.out).mono ?_); rintro e w2 ⟨rfl, hb1⟩; have B2 := Aside0.mk (below_step BX.out hb1); have hz := blk_below H1.out hb1; obtain ⟨z0, z1, z2, z3, z4, z5, z6, z7, z8⟩ := cells9 hz; have H2 := Aside0.mk hz; clear hz; clear hb1)
      | (go_at_call 6; (with_reducible refine (LT.out _ B2.out).mono ?_); rintro e w3 ⟨rfl, hb1⟩; have B3 := Aside0.mk (below_step (below_alloc B2.out _) hb1); have hz := blk_below (heapOld H2.out) hb1; have H3 := Aside0.mk hz; clear hb1 hz))
    go_wp2_with (go_at_call 5; (with_reducible refine (LV.out _ B3.out).mono ?_); rintro e w4 ⟨rfl, hb1⟩; have B4 := Aside0.mk (below_step B3.out hb1); clear hb1)
    go_ret
    exact ⟨rfl, B4.out⟩)
set_option maxHeartbeats 8000000 in
set_option maxRecDepth 100000 in
theorem opMakes_far (o : S27) (A4 : Option Addr) (c4 : Nat) (A5 : Option Addr) (c5 : Nat) (W H : Int) (w : World) (hG : GL w) (hx : Kd.C (Kd.int .i64) w A4 o.f4.length o.f4) (lx : o.f4.length ≤ c4) (hy : Kd.C (Kd.int .i64) w A5 o.f5.length o.f5) (ly : o.f5.length ≤ c5) (hl : littleB [o] 30 = false) :
    Calls Tryz.prog 3 #[opV o.f0 o.f1 o.f2 o.f3 A4 o.f4.length c4 A5 o.f5.length c5 o.f6 o.f7 o.f8, .int .i64 W, .int .i64 H] w fun e w' => e = .returned (.bool true) ∧ Below w.heap.size w w' := by
  have LV := Aside0.mk (fun w' (hb : Below w.heap.size w w') => lives12_calls w' (hG.below hb))
  have LT : Aside0 (∀ w', Below w.heap.size w w' → Calls Tryz.prog 6 #[.slice (some ⟨w'.heap.size, 0, none⟩) 1 1, .int .i64 30] (w'.alloc (.cells #[.int .i64 o.f0, .int .i64 o.f1, .int .i64 o.f2, .int .i64 o.f3, .slice A4 o.f4.length c4, .slice A5 o.f5.length c5, .int .i64 o.f6, .int .i64 o.f7, .int .i64 o.f8] 27)) (fun e w'' => e = .returned (.bool false) ∧ Below (w'.alloc (.cells #[.int .i64 o.f0, .int .i64 o.f1, .int .i64 o.f2, .int .i64 o.f3, .slice A4 o.f4.length c4, .slice A5 o.f5.length c5, .int .i64 o.f6, .int .i64 o.f7, .int .i64 o.f8] 27)).heap.size (w'.alloc (.cells #[.int .i64 o.f0, .int .i64 o.f1, .int .i64 o.f2, .int .i64 o.f3, .slice A4 o.f4.length c4, .slice A5 o.f5.length c5, .int .i64 o.f6, .int .i64 o.f7, .int .i64 o.f8] 27)) w'')) := ⟨fun w' hb => by rw [← hl]; exact little_calls [o] (some ⟨w'.heap.size, 0, none⟩) 1 30 _ (C_op1 w' o A4 c4 A5 c5 (Kd.C_below hx hb) lx (Kd.C_below hy hb) ly) (by simp)⟩
  obtain ⟨p, hp⟩ : ∃ x, x = o.f4.length := ⟨_, rfl⟩
  obtain ⟨q, hq⟩ : ∃ x, x = o.f5.length := ⟨_, rfl⟩
  rw [← hp, ← hq] at LT ⊢
  clear hl hG hx lx hy ly hp hq
  obtain ⟨k, b, s, r, x4, x5, f, ow, oh⟩ := o
  simp only at *
  have hr := heap_alloc_new w (.cells #[.int .i64 k, .int .i64 b, .int .i64 s, .int .i64 r, .slice A4 p c4, .slice A5 q c5, .int .i64 f, .int .i64 ow, .int .i64 oh] 27)
  have BX := Aside0.mk (below_alloc (Below.refl w.heap.size w) (.cells #[.int .i64 k, .int .i64 b, .int .i64 s, .int .i64 r, .slice A4 p c4, .slice A5 q c5, .int .i64 f, .int .i64 ow, .int .i64 oh] 27))
  obtain ⟨W1, e1⟩ : ∃ x, x = w.alloc (.cells #[.int .i64 k, .int .i64 b, .int .i64 s, .int .i64 r, .slice A4 p c4, .slice A5 q c5, .int .i64 f, .int .i64 ow, .int .i64 oh] 27) := ⟨_, rfl⟩
  obtain ⟨g, hg⟩ : ∃ g, g = w.heap.size := ⟨_, rfl⟩
  rw [← e1] at BX hr
  rw [← hg] at hr
  have H1 := Aside0.mk hr
  have E1 := Aside0.mk e1
  have EG := Aside0.mk hg
  clear hr e1 hg
  have mixed : Tryz.prog.follows .mixedOrders = true := by kernel_rfl
  unfold opV at *
  go_enter Tryz.func3, Tryz.ntmps3
  go_upto_region 1 with fail
  rw [← EG.out, ← E1.out]
  go_upto_region 2 with (first
    | (go_at_call 5; (with_reducible refine (LV.out _ BX.out).mono ?_); rintro e w2 ⟨rfl, hb1⟩; have B2 := Aside0.mk (below_step BX.out hb1); have hz := blk_below H1.out hb1; obtain ⟨z0, z1, z2, z3, z4, z5, z6, z7, z8⟩ := cells9 hz; have H2 := Aside0.mk hz; clear hz; clear hb1)
    | (go_at_call 6; (with_reducible refine (LT.out _ B2.out).mono ?_); rintro e w3 ⟨rfl, hb1⟩; have B3 := Aside0.mk (below_step (below_alloc B2.out _) hb1); have hz := blk_below (heapOld H2.out) hb1; have H3 := Aside0.mk hz; clear hb1 hz))
  go_wp2_with (go_at_call 5; (with_reducible refine (LV.out _ B3.out).mono ?_); rintro e w4 ⟨rfl, hb1⟩; have B4 := Aside0.mk (below_step B3.out hb1); clear hb1)
  go_ret
  exact ⟨rfl, B4.out⟩
theorem opMakes_calls (o : S27) (A4 : Option Addr) (c4 : Nat) (A5 : Option Addr) (c5 : Nat) (W H : Int) (w : World) (hG : GL w) (hI : opI o) (hx : Kd.C (Kd.int .i64) w A4 o.f4.length o.f4) (lx : o.f4.length ≤ c4) (hy : Kd.C (Kd.int .i64) w A5 o.f5.length o.f5) (ly : o.f5.length ≤ c5) :
    Calls Tryz.prog 3 #[opV o.f0 o.f1 o.f2 o.f3 A4 o.f4.length c4 A5 o.f5.length c5 o.f6 o.f7 o.f8, .int .i64 W, .int .i64 H] w fun e w' => e = .returned (.bool true) ∧ Below w.heap.size w w' := by
  by_cases hl : littleB [o] 30 = true
  rotate_left
  · exact opMakes_far o A4 c4 A5 c5 W H w hG hx lx hy ly (Bool.eq_false_iff.mpr hl)
  · have h : litOk o 30 := little_lens hl 0 (by simp)
    have h4 := h.1
    have h5 := h.2.1
    exact opMakes_main o A4 c4 A5 c5 W H w hG hI hx lx hy ly (by omega) (by omega)
end Go.Proofs.YtebipmdopdogkaaGreatDoor.QA

namespace Go.Proofs.YtebipmdopdogkaaGreatDoor.QA
open Go.RowKit Go.Proofs.YtebipmdopdogkaaGreatDoorW.PrintWords Go.Proofs.YtebipmdopdogkaaGreatDoorW.PrintLast Go.Proofs.YtebipmdopdogkaaGreatDoorW.PrintMore Go.Proofs.YtebipmdopdogkaaGreatDoor.T
set_option linter.unusedVariables false
set_option linter.unusedSimpArgs false
section
open Go.ChangeShapes Go.WideShapes Go.ChangeAt
variable {H : Type} {enc : TypeId × Value → H} {W : World} {fuel : Nat} {cs : List Value} {x : DataW H × List MemPlace}
theorem open_nums (h : DataW.trod enc Tryz.prog W 0 (fun _ => true) true fuel 24 cs = some x) : ∃ (A : Option Addr) (l : List Int) (c : Nat), cs = [.slice A l.length c] ∧ l.length ≤ c ∧ Kd.C (Kd.int .i64) W A l.length l ∧ ∀ z ∈ l, I64 z := by
  rcases open_ints Tryz.underlying24 Tryz.underlying2 (by kernel_rfl) h with ⟨hcs, _⟩ | ⟨a, len, cap, zs, hcs, _, hl, hm, hz, _, hcell, hwz⟩
  · exact ⟨none, [], 0, hcs, by decide, C_none W, by simp⟩
  · have hz : zs.length = cap := by simpa using hz
    obtain ⟨l, e, h1, h2, h3, h4⟩ := ReadsInt.ofRowC (k := .i64) (w := W) (a := some a) (len := len) (cap := cap) (zs := zs) (.inr ⟨a, rfl, hl, hm, hz, hcell, hwz⟩)
    subst e
    exact ⟨some a, l, cap, hcs, h4, Kd.C_of_reads (d := (0 : Int)) (h1 := fun _ => rfl) h1, fun z hz => T.wf64 (h3 z hz)⟩
set_option maxRecDepth 100000 in
theorem open_op (h : DataW.trod enc Tryz.prog W 0 (fun _ => true) true fuel 27 cs = some x) : ∃ o : S27, k27.K W o cs ∧ opI o := by
  obtain ⟨xs, n, _, rfl, hl, hlen, hf⟩ := DataW.trod_struct Tryz.underlying27 h
  have hl9 : cs.length = 9 := hl.trans (by kernel_rfl)
  match cs, hl9 with
  | [u0, u1, u2, u3, u4, u5, u6, u7, u8], _ =>
  match xs, hlen with
  | [y0, y1, y2, y3, y4, y5, y6, y7, y8], _ =>
  have c0 : Tryz.prog.cellsOf 22 = 1 := by kernel_rfl
  have c1 : Tryz.prog.cellsOf 23 = 1 := by kernel_rfl
  have c2 : Tryz.prog.cellsOf 2 = 1 := by kernel_rfl
  have c3 : Tryz.prog.cellsOf 3 = 1 := by kernel_rfl
  have c4 : Tryz.prog.cellsOf 24 = 1 := by kernel_rfl
  have c6 : Tryz.prog.cellsOf 25 = 1 := by kernel_rfl
  have g0 : DataW.trod enc Tryz.prog W 0 (fun _ => true) true n 22 (([u0, u1, u2, u3, u4, u5, u6, u7, u8].drop 0).take (Tryz.prog.cellsOf 22)) = some y0 := hf 0 _ rfl
  have g1 : DataW.trod enc Tryz.prog W 0 (fun _ => true) true n 23 (([u0, u1, u2, u3, u4, u5, u6, u7, u8].drop 1).take (Tryz.prog.cellsOf 23)) = some y1 := hf 1 _ rfl
  have g2 : DataW.trod enc Tryz.prog W 0 (fun _ => true) true n 2 (([u0, u1, u2, u3, u4, u5, u6, u7, u8].drop 2).take (Tryz.prog.cellsOf 2)) = some y2 := hf 2 _ rfl
  have g3 : DataW.trod enc Tryz.prog W 0 (fun _ => true) true n 3 (([u0, u1, u2, u3, u4, u5, u6, u7, u8].drop 3).take (Tryz.prog.cellsOf 3)) = some y3 := hf 3 _ rfl
  have g4 : DataW.trod enc Tryz.prog W 0 (fun _ => true) true n 24 (([u0, u1, u2, u3, u4, u5, u6, u7, u8].drop 4).take (Tryz.prog.cellsOf 24)) = some y4 := hf 4 _ rfl
  have g5 : DataW.trod enc Tryz.prog W 0 (fun _ => true) true n 24 (([u0, u1, u2, u3, u4, u5, u6, u7, u8].drop 5).take (Tryz.prog.cellsOf 24)) = some y5 := hf 5 _ rfl
  have g6 : DataW.trod enc Tryz.prog W 0 (fun _ => true) true n 25 (([u0, u1, u2, u3, u4, u5, u6, u7, u8].drop 6).take (Tryz.prog.cellsOf 25)) = some y6 := hf 6 _ rfl
  have g7 : DataW.trod enc Tryz.prog W 0 (fun _ => true) true n 3 (([u0, u1, u2, u3, u4, u5, u6, u7, u8].drop 7).take (Tryz.prog.cellsOf 3)) = some y7 := hf 7 _ rfl
  have g8 : DataW.trod enc Tryz.prog W 0 (fun _ => true) true n 3 (([u0, u1, u2, u3, u4, u5, u6, u7, u8].drop 8).take (Tryz.prog.cellsOf 3)) = some y8 := hf 8 _ rfl
  simp only [c0, c1, c2, c3, c4, c6] at g0 g1 g2 g3 g4 g5 g6 g7 g8
  simp [List.drop, List.take] at g0 g1 g2 g3 g4 g5 g6 g7 g8
  obtain ⟨v0, e0, _, w0⟩ := DataW.trod_int Tryz.underlying22 g0
  obtain ⟨v1, e1, _, w1⟩ := DataW.trod_int Tryz.underlying23 g1
  obtain ⟨v2, e2, _, w2⟩ := DataW.trod_int Tryz.underlying2 g2
  obtain ⟨v3, e3, _, w3⟩ := DataW.trod_int Tryz.underlying3 g3
  obtain ⟨A4, l4, k4, e4, m4, r4, w4⟩ := open_nums g4
  obtain ⟨A5, l5, k5, e5, m5, r5, w5⟩ := open_nums g5
  obtain ⟨v6, e6, _, w6⟩ := DataW.trod_int Tryz.underlying25 g6
  obtain ⟨v7, e7, _, w7⟩ := DataW.trod_int Tryz.underlying3 g7
  obtain ⟨v8, e8, _, w8⟩ := DataW.trod_int Tryz.underlying3 g8
  simp only [List.cons.injEq, and_true] at e0 e1 e2 e3 e4 e5 e6 e7 e8
  subst e0 e1 e2 e3 e4 e5 e6 e7 e8
  exact ⟨⟨v0, v1, v2, v3, l4, l5, v6, v7, v8⟩, k27_mk W ⟨v0, v1, v2, v3, l4, l5, v6, v7, v8⟩ m4 r4 m5 r5, T.wf64 w0, T.wf64 w1, T.wf64 w2, T.wf64 w3, w4, w5, T.wf64 w6, T.wf64 w7, T.wf64 w8⟩
end
section
open Go.ChangeShapes Go.WideShapes Go.ChangeAt
theorem open_opV {H : Type} {enc : TypeId × Value → H} {W : World} {cs : Array Value} {d : DataW H} {ps : List MemPlace} (h : DataW.Trod enc Tryz.prog W 0 (fun _ => true) true 27 (.agg cs) d ps) : ∃ (o : S27) (A4 : Option Addr) (c4 : Nat) (A5 : Option Addr) (c5 : Nat), cs = #[.int .i64 o.f0, .int .i64 o.f1, .int .i64 o.f2, .int .i64 o.f3, .slice A4 o.f4.length c4, .slice A5 o.f5.length c5, .int .i64 o.f6, .int .i64 o.f7, .int .i64 o.f8] ∧ opI o ∧ Kd.C (Kd.int .i64) W A4 o.f4.length o.f4 ∧ o.f4.length ≤ c4 ∧ Kd.C (Kd.int .i64) W A5 o.f5.length o.f5 ∧ o.f5.length ≤ c5 := by
  obtain ⟨fuel, hf⟩ := h
  obtain ⟨us, hus⟩ : ∃ us : List Value, us = cs.toList := ⟨_, rfl⟩
  have hcs : (Value.agg cs).cells.toList = us := by rw [hus]; rfl
  rw [hcs] at hf
  obtain ⟨o, hK, hI⟩ := open_op hf
  obtain ⟨A4, c4, A5, c5, e, l4, g4, l5, g5⟩ := k27_open hK
  refine ⟨o, A4, c4, A5, c5, ?_, hI, g4, l4, g5, l5⟩
  rw [hus] at e
  cases cs with | mk ls => exact congrArg Array.mk e
end
end Go.Proofs.YtebipmdopdogkaaGreatDoor.QA

namespace Go.Proofs.YtebipmdopdogkaaGreatDoor.T
open Go.ChangeShapes Go.WideShapes Go.ChangeAt Go.RowKit
theorem gKinds : Tryz.prog.globalNamed "smalto/raw.kinds" = some 1 := by kernel_rfl
theorem tKinds : (Tryz.prog.globals[1]?).map (·.type) = some 104 := by kernel_rfl
theorem cell_of {cs : List Value} {a b i : Nat} {v : Value} {ws : List Value} (hi : i < b) (h : ((cs.drop a).take b) = ws) (hv : ws[i]? = some v) : cs[a + i]? = some v := by
  rw [← h] at hv
  rw [List.getElem?_take, if_pos hi, List.getElem?_drop] at hv
  exact hv
theorem str_eq {s : ByteArray} {l : List UInt8} (h : s.data.toList = l) : s = ⟨l.toArray⟩ := by
  cases s with | mk d => simp only at h; rw [← h]
theorem kind_cells {W : World} {m : Nat} {cs : List Value} {s : List UInt8} {n : Int} {x : DataW Unit × List MemPlace}
    (h : DataW.trod (fun _ => ()) Tryz.prog W 0 (fun _ => true) false m 103 cs = some x) (hx : x.1 = .agg [.lit (.string s), .lit (.int .i64 n)]) :
    cs[0]? = some (.string ⟨s.toArray⟩) ∧ cs[1]? = some (.int .i64 n) := by
  obtain ⟨y0, y1, k, rfl, hl, h0, h1⟩ := trod_struct2 Tryz.underlying103 h
  simp only [DataW.agg.injEq, List.cons.injEq, and_true] at hx
  obtain ⟨z, e0, e1, _⟩ := DataW.trod_string Tryz.underlying9 h0
  obtain ⟨q, f0, f1, _⟩ := DataW.trod_int Tryz.underlying2 h1
  rw [e1, f1] at hx
  simp only [DataW.lit.injEq, Lit.string.injEq, Lit.int.injEq, true_and] at hx
  obtain ⟨hs, rfl⟩ := hx
  rw [str_eq hs] at e0
  constructor
  · simpa using cell_of (i := 0) (of_decide_eq_true (by kernel_rfl)) e0 rfl
  · simpa using cell_of (i := 0) (of_decide_eq_true (by kernel_rfl)) f0 rfl
set_option maxRecDepth 100000 in
theorem kinds_cells {W : World} {fuel : Nat} {cs : Array Value} {x : DataW Unit × List MemPlace} (hv : W.var? Tryz.prog "smalto/raw.kinds" = some cs)
    (h : DataW.trod (fun _ => ()) Tryz.prog W 0 (fun _ => true) false fuel 104 cs.toList = some x) (hx : x.1 = Rows.laid_smalto_raw_kinds) : W.cell? ⟨1, 0, none⟩ = some (.string (⟨#[98, 111, 120]⟩ : ByteArray)) ∧ W.cell? ⟨1, 1, none⟩ = some (.int .i64 0) ∧ W.cell? ⟨1, 2, none⟩ = some (.string (⟨#[99, 117, 98, 105, 99]⟩ : ByteArray)) ∧ W.cell? ⟨1, 3, none⟩ = some (.int .i64 2) ∧ W.cell? ⟨1, 4, none⟩ = some (.string (⟨#[108, 97, 110, 99, 122, 111, 115]⟩ : ByteArray)) ∧ W.cell? ⟨1, 5, none⟩ = some (.int .i64 3) := by
  obtain ⟨xs, m, _, rfl, hl, hlen, hel⟩ := DataW.trod_array Tryz.underlying104 h
  have c2 : Tryz.prog.cellsOf 103 = 2 := by kernel_rfl
  match xs, hlen with
  | [x0, x1, x2], _ =>
    have hx' := hx
    simp only [Rows.laid_smalto_raw_kinds, List.map_cons, List.map_nil, DataW.agg.injEq, List.cons.injEq, and_true] at hx'
    obtain ⟨k0, k1, k2⟩ := hx'
    have g0 := kind_cells (hel 0 (by decide)) k0
    have g1 := kind_cells (hel 1 (by decide)) k1
    have g2 := kind_cells (hel 2 (by decide)) k2
    rw [c2] at g0 g1 g2
    simp only [List.getElem?_take, List.getElem?_drop] at g0 g1 g2
    simp at g0 g1 g2
    simp only [World.var?_cell gKinds hv]
    exact ⟨g0.1, g0.2, g1.1, g1.2, g2.1, g2.2⟩
theorem gNames : Tryz.prog.globalNamed "smalto/border.names" = some 0 := by kernel_rfl
theorem tNames : (Tryz.prog.globals[0]?).map (·.type) = some 101 := by kernel_rfl
theorem str_cell {W : World} {v : Value} {n : Nat} {q : List MemPlace} {s : List UInt8} (h : DataW.trod (fun _ => ()) Tryz.prog W 0 (fun _ => true) false n 9 [v] = some (.lit (.string s), q)) : v = .string ⟨s.toArray⟩ := by
  obtain ⟨z, e0, e1, _⟩ := DataW.trod_string Tryz.underlying9 h
  simp only [Prod.mk.injEq, DataW.lit.injEq, Lit.string.injEq] at e1
  rw [str_eq e1.1.symm] at e0
  simpa using e0
theorem names_cells {W : World} {fuel : Nat} {cs : Array Value} {x : DataW Unit × List MemPlace} (hv : W.var? Tryz.prog "smalto/border.names" = some cs)
    (h : DataW.trod (fun _ => ()) Tryz.prog W 0 (fun _ => true) false fuel 101 cs.toList = some x) (hx : x.1 = Rows.laid_smalto_border_names) :
    ∃ (a : Addr) (c : Nat), 3 ≤ c ∧ W.cell? ⟨0, 0, none⟩ = some (.slice (some a) 3 c) ∧ W.cell? a = some (.string (⟨#[99, 108, 97, 109, 112]⟩ : ByteArray)) ∧ W.cell? ⟨a.block, a.off + 1, none⟩ = some (.string (⟨#[109, 105, 114, 114, 111, 114]⟩ : ByteArray)) ∧ W.cell? ⟨a.block, a.off + 2, none⟩ = some (.string (⟨#[119, 114, 97, 112]⟩ : ByteArray)) := by
  obtain ⟨d, p⟩ := x
  simp only at hx
  subst hx
  obtain ⟨a, cap, e, hl, hc⟩ := open_row Tryz.underlying101 (show Tryz.prog.cellsOf 9 = 1 by kernel_rfl) h
  obtain ⟨v0, n0, q0, c0, t0⟩ := hc 0 _ rfl
  obtain ⟨v1, n1, q1, c1, t1⟩ := hc 1 _ rfl
  obtain ⟨v2, n2, q2, c2, t2⟩ := hc 2 _ rfl
  rw [str_cell t0] at c0
  rw [str_cell t1] at c1
  rw [str_cell t2] at c2
  have e0 : a.add 0 = a := by cases a; rfl
  rw [e0] at c0
  have ec : cs[0]? = some (.slice (some a) 3 cap) := by
    have := congrArg (fun l => l[0]?) e
    simpa using this
  exact ⟨a, cap, hl, by rw [World.var?_cell gNames hv]; exact ec, c0, c1, c2⟩
theorem gl_of_laid {W : World} (h : laidMetH Tryz.prog [("smalto/border.names", Rows.laid_smalto_border_names), ("smalto/raw.kinds", Rows.laid_smalto_raw_kinds)] W) : GL W := by
  rw [MakeChecks.laidMetH_plain _ _ _ (by kernel_rfl)] at h
  obtain ⟨ps, ⟨g, t, cs, fuel, p, q, hg, ht, hv, hd, ⟨g2, t2, cs2, fuel2, p2, q2, hg2, ht2, hv2, hd2, _, _⟩, _⟩, _, _⟩ := h
  obtain rfl := Option.some.inj (gNames.symm.trans hg)
  obtain rfl := Option.some.inj (tNames.symm.trans ht)
  obtain rfl := Option.some.inj (gKinds.symm.trans hg2)
  obtain rfl := Option.some.inj (tKinds.symm.trans ht2)
  exact ⟨kinds_cells hv2 hd2 rfl, names_cells hv hd rfl⟩
theorem laid_witness (os : Os) (args : Array Value) : laidMetH Tryz.prog [("smalto/border.names", Rows.laid_smalto_border_names), ("smalto/raw.kinds", Rows.laid_smalto_raw_kinds)] ((World.laidAll Tryz.prog os [("smalto/border.names", Rows.laid_smalto_border_names), ("smalto/raw.kinds", Rows.laid_smalto_raw_kinds)]).forCall (fun _ _ => 0) ⟨#[], args, []⟩).memory := by
  rw [MakeChecks.laidMetH_plain _ _ _ (by kernel_rfl)]
  exact laidMet_laidAll _ (by kernel_rfl) (by kernel_rfl)
end Go.Proofs.YtebipmdopdogkaaGreatDoor.T

namespace Go.Proofs.YtebipmdopdogkaaGreatDoorW.PrintWords
open Go.ChangeShapes Go.WideShapes
end Go.Proofs.YtebipmdopdogkaaGreatDoorW.PrintWords
