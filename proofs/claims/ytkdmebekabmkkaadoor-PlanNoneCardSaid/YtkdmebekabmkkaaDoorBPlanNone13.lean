/- Joined by wip/tools/bundle.py out of: TB TC TN TLaid. -/
import Derived.Test.YtkdmebekabmkkaaDoorBPlanNone4
import Derived.Test.YtkdmebekabmkkaaDoorBPlanNone10
import Derived.Test.YtkdmebekabmkkaaDoorBPlanNone12
import Derived.Test.YtkdmebekabmkkaaDoorBPlanNone7
import Derived.Test.YtkdmebekabmkkaaDoorBPlanNone9
import Derived.Test.YtkdmebekabmkkaaDoorBPlanNone0
import Derived.Test.YtkdmebekabmkkaaDoorRows
import Derived.ProofKit
import Derived.OpenShut
import Derived.LaidMore
import Derived.Lay
import Derived.ChangeSame
namespace Go.Proofs.YtkdmebekabmkkaaDoor.QA
open Go.RowKit Go.Proofs.YtkdmebekabmkkaaDoorW.PrintWords Go.Proofs.YtkdmebekabmkkaaDoorW.PrintLast Go.Proofs.YtkdmebekabmkkaaDoorW.PrintMore Go.Proofs.YtkdmebekabmkkaaDoor.T
set_option linter.unusedVariables false
set_option linter.unusedSimpArgs false
theorem most_calls (b : Nat) (t : Tab) (w : World) (h : TabC w b t) : Calls Tryd.prog 29 #[.pointer (some ⟨b, 0, none⟩)] w fun e w' => e = .returned (.int .i64 t.most) ∧ w' = w := by
  obtain ⟨A, c, h0, h1, h2, h3, -, -⟩ := tab_cells h
  clear h
  go_enter Tryd.func29, Tryd.ntmps29
  go_wp2
  go_ret
  exact ⟨rfl, rfl⟩
theorem plan_side_eq (n : Int) : plan_side.f n = some (decide (1 ≤ n ∧ n ≤ 4096)) := by
  unfold plan_side.f
  by_cases h : n ≥ 1
  · rw [if_pos h]; congr 1; by_cases c : n ≤ 4096
    · rw [decide_eq_true c, decide_eq_true ⟨h, c⟩]
    · rw [decide_eq_false c, decide_eq_false (fun q => c q.2)]
  · rw [if_neg h]; congr 1; rw [decide_eq_false (fun q => h q.1)]
/-- A plan's cells. -/
def planO (bx bz : Nat) (bd tw th : Int) : Obj := .cells #[.pointer (some ⟨bx, 0, none⟩), .pointer (some ⟨bz, 0, none⟩), .int .i64 bd, .int .i64 tw, .int .i64 th] 63 (0, 0)
set_option maxHeartbeats 8000000 in
set_option maxRecDepth 100000 in
theorem new_none (x y : Option Addr) (bd tw th : Int) (w : World) (h : x = none ∨ y = none) :
    Calls Tryd.prog 13 #[.agg #[.pointer x, .pointer y, .int .i64 bd], .int .i64 tw, .int .i64 th] w fun e w' => Below w.heap.size w w' ∧ e = .returned (.tuple #[.pointer none, .int .i64 6]) := by
  have hc : x = none ∨ ∃ a, x = some a ∧ y = none := by
    cases x with
    | none => exact .inl rfl
    | some a => exact .inr ⟨a, rfl, by rcases h with h | h; cases h; exact h⟩
  clear h
  rcases hc with rfl | ⟨a, rfl, rfl⟩
  · go_enter Tryd.func13, Tryd.ntmps13
    go_wp2
    go_ret2
    exact ⟨by repeat (first | (with_reducible first | exact Below.refl _ _ | apply below_alloc | apply pw_below_drewN | apply below_drew1) | exact Below.refl _ _), rfl⟩
  · go_enter Tryd.func13, Tryd.ntmps13
    go_wp2
    go_ret2
    exact ⟨by repeat (first | (with_reducible first | exact Below.refl _ _ | apply below_alloc | apply pw_below_drewN | apply below_drew1) | exact Below.refl _ _), rfl⟩
set_option maxHeartbeats 8000000 in
set_option maxRecDepth 100000 in
theorem new_ok (bx bz : Nat) (bd tw th : Int) (w : World) (h1 : 1 ≤ tw ∧ tw ≤ 4096) (h2 : 1 ≤ th ∧ th ≤ 4096) :
    Calls Tryd.prog 13 #[.agg #[.pointer (some ⟨bx, 0, none⟩), .pointer (some ⟨bz, 0, none⟩), .int .i64 bd], .int .i64 tw, .int .i64 th] w fun e w' => Below w.heap.size w w' ∧ ∃ bp, e = .returned (.tuple #[.pointer (some ⟨bp, 0, none⟩), .int .i64 0]) ∧ w'.heap[bp]? = some (planO bx bz bd tw th) := by
  have s1 : plan_side.f tw = some true := by rw [plan_side_eq, decide_eq_true h1]
  have s2 : plan_side.f th = some true := by rw [plan_side_eq, decide_eq_true h2]
  clear h1 h2
  go_enter Tryd.func13, Tryd.ntmps13
  go_wp2_with (first
    | (go_at_call 21; (with_reducible refine (plan_side.calls tw true _ s1).mono ?_); rintro e w' ⟨rfl, ⟨nd, rfl⟩⟩)
    | (go_at_call 21; (with_reducible refine (plan_side.calls th true _ s2).mono ?_); rintro e w' ⟨rfl, ⟨nd2, rfl⟩⟩))
  go_ret2
  refine ⟨by repeat (first | (with_reducible first | exact Below.refl _ _ | apply below_alloc | apply pw_below_drewN | apply below_drew1) | exact Below.refl _ _), w.heap.size + 1, rfl, ?_⟩
  have q := heap_alloc_new ((w.alloc (.cells #[.pointer (some ⟨bx, 0, none⟩), .pointer (some ⟨bz, 0, none⟩), .int .i64 bd] 32 (0, 0))).drewN (nd + nd2)) (planO bx bz bd tw th)
  rwa [show ((w.alloc (.cells #[.pointer (some ⟨bx, 0, none⟩), .pointer (some ⟨bz, 0, none⟩), .int .i64 bd] 32 (0, 0))).drewN (nd + nd2)).heap.size = w.heap.size + 1 from by rw [World.heap_drewN, World.alloc]; exact Array.size_push _] at q
/-- A plan, with its tables. -/
def PlanC (w : World) (bp bx bz : Nat) (bd tw th : Int) (tx ty : Tab) : Prop := w.heap[bp]? = some (planO bx bz bd tw th) ∧ TabC w bx tx ∧ TabC w bz ty
theorem PlanC.below {w w' : World} {bp bx bz : Nat} {bd tw th : Int} {tx ty : Tab} (h : PlanC w bp bx bz bd tw th tx ty) (hb : Below w.heap.size w w') : PlanC w' bp bx bz bd tw th tx ty :=
  ⟨(hb.block bp (blk_lt h.1)).trans h.1, h.2.1.below hb, h.2.2.below hb⟩
/-- How large sides may be. -/
structure PlanB (tw th : Int) (tx ty : Tab) : Prop where
  w1 : 1 ≤ tw
  w2 : tw ≤ 4096
  h1 : 1 ≤ th
  h2 : th ≤ 4096
  x1 : 1 ≤ tx.lines.length
  x2 : tx.lines.length ≤ 70000
  y1 : 1 ≤ ty.lines.length
  y2 : ty.lines.length ≤ 70000
def partsV (n s : Int) : Int := (n + s - 1) / s
theorem partsV_bnd {n s : Int} (h1 : 1 ≤ n) (h2 : n ≤ 70000) (h3 : 1 ≤ s) (h4 : s ≤ 4096) : 1 ≤ partsV n s ∧ partsV n s ≤ 70000 := by
  unfold partsV
  refine ⟨?_, ?_⟩
  · exact (Int.le_ediv_iff_mul_le (by omega)).2 (by omega)
  · have h : (n + s - 1) / s ≤ (70000 * s) / s := Int.ediv_le_ediv (by omega) (by
      have : n - 70000 ≤ 0 := by omega
      have q : (69999 : Int) * 1 ≤ 69999 * s := Int.mul_le_mul_of_nonneg_left h3 (by decide)
      omega)
    rwa [Int.mul_ediv_cancel _ (by omega)] at h
theorem plan_parts_eq {n s : Int} (h1 : 1 ≤ n) (h2 : n ≤ 70000) (h3 : 1 ≤ s) (h4 : s ≤ 4096) : plan_parts.f n s = some (partsV n s) := by
  have hb := partsV_bnd h1 h2 h3 h4
  unfold plan_parts.f
  rw [if_neg (by omega), w64_id (x := n + s) (by omega) (by omega), w64_id (x := n + s - 1) (by omega) (by omega), Int.tdiv_eq_ediv_of_nonneg (by omega)]
  show some (wrap64 (partsV n s)) = _
  rw [w64_id (by omega) (by omega)]
theorem plan_cells {w : World} {bp bx bz : Nat} {bd tw th : Int} (h : w.heap[bp]? = some (planO bx bz bd tw th)) : w.cell? ⟨bp, 0, none⟩ = some (.pointer (some ⟨bx, 0, none⟩)) ∧ w.cell? ⟨bp, 1, none⟩ = some (.pointer (some ⟨bz, 0, none⟩)) ∧ w.cell? ⟨bp, 2, none⟩ = some (.int .i64 bd) ∧ w.cell? ⟨bp, 3, none⟩ = some (.int .i64 tw) ∧ w.cell? ⟨bp, 4, none⟩ = some (.int .i64 th) :=
  ⟨(blk_cell h 0).trans rfl, (blk_cell h 1).trans rfl, (blk_cell h 2).trans rfl, (blk_cell h 3).trans rfl, (blk_cell h 4).trans rfl⟩
theorem quiet_drawn {P : Program} {f : FuncId} {args : Array Value} {w : World} {n : Nat} {v : Value}
    (h : Calls P f args (w.drewN n) fun e w' => e = .returned v ∧ Drawn0 (w.drewN n) w') : Calls P f args (w.drewN n) fun e w'' => e = .returned v ∧ ∃ m, w'' = w.drewN m :=
  Calls.quiet_of (h.mono fun _ _ ⟨he, hd⟩ => ⟨he, hd.out⟩)
theorem TabC.drewN {w : World} {b : Nat} {t : Tab} (h : TabC w b t) (n : Nat) : TabC (w.drewN n) b t := h.below (pw_below_drewN (Below.refl _ _) n)
theorem PlanC.drewN {w : World} {bp bx bz : Nat} {bd tw th : Int} {tx ty : Tab} (h : PlanC w bp bx bz bd tw th tx ty) (n : Nat) : PlanC (w.drewN n) bp bx bz bd tw th tx ty := h.below (pw_below_drewN (Below.refl _ _) n)
set_option maxHeartbeats 8000000 in
set_option maxRecDepth 100000 in
theorem columns_calls (bp bx bz : Nat) (bd tw th : Int) (tx ty : Tab) (w : World) (h : PlanC w bp bx bz bd tw th tx ty) (B : PlanB tw th tx ty) :
    Calls Tryd.prog 30 #[.pointer (some ⟨bp, 0, none⟩)] w fun e w' => e = .returned (.int .i64 (partsV tx.lines.length tw)) ∧ Drawn0 w w' := by
  obtain ⟨h0, hx, hy⟩ := h
  obtain ⟨c0, c1, c2, c3, c4⟩ := plan_cells h0
  have hp := plan_parts_eq (n := (tx.lines.length : Int)) (s := tw) (by have := B.x1; omega) (by have := B.x2; omega) B.w1 B.w2
  have HP := Aside0.mk hp
  have TO := Aside0.mk (fun n => to_calls bx tx (w.drewN n) (hx.drewN n))
  clear h0 hx hy hp B
  go_enter Tryd.func30, Tryd.ntmps30
  go_wp2
  go_quiet (first
    | (go_at_call 10; exact Calls.quiet_of_same (TO.out _))
    | (go_at_call 31; exact quiet_drawn (plan_parts.calls _ _ _ _ HP.out)))
  go_wp2
  go_ret
  exact ⟨rfl, ⟨⟨nq, rfl⟩⟩⟩
set_option maxHeartbeats 8000000 in
set_option maxRecDepth 100000 in
theorem count_calls (bp bx bz : Nat) (bd tw th : Int) (tx ty : Tab) (w : World) (h : PlanC w bp bx bz bd tw th tx ty) (B : PlanB tw th tx ty) :
    Calls Tryd.prog 17 #[.pointer (some ⟨bp, 0, none⟩)] w fun e w' => e = .returned (.int .i64 (partsV tx.lines.length tw * partsV ty.lines.length th)) ∧ Drawn0 w w' := by
  have CO := Aside0.mk (fun n => columns_calls bp bx bz bd tw th tx ty (w.drewN n) (h.drewN n) B)
  obtain ⟨h0, hx, hy⟩ := h
  obtain ⟨c0, c1, c2, c3, c4⟩ := plan_cells h0
  have hp := plan_parts_eq (n := (ty.lines.length : Int)) (s := th) (by have := B.y1; omega) (by have := B.y2; omega) B.h1 B.h2
  have HP := Aside0.mk hp
  have TO := Aside0.mk (fun n => to_calls bz ty (w.drewN n) (hy.drewN n))
  have b1 := partsV_bnd (n := (tx.lines.length : Int)) (s := tw) (by have := B.x1; omega) (by have := B.x2; omega) B.w1 B.w2
  have b2 := partsV_bnd (n := (ty.lines.length : Int)) (s := th) (by have := B.y1; omega) (by have := B.y2; omega) B.h1 B.h2
  have wm : IntKind.i64.wrap (partsV tx.lines.length tw * partsV ty.lines.length th) = partsV tx.lines.length tw * partsV ty.lines.length th := by
    have m1 : 0 ≤ partsV tx.lines.length tw * partsV ty.lines.length th := Int.mul_nonneg (by omega) (by omega)
    have m2 : partsV tx.lines.length tw * partsV ty.lines.length th ≤ 70000 * 70000 := Int.le_trans (Int.mul_le_mul_of_nonneg_right b1.2 (by omega)) (Int.mul_le_mul_of_nonneg_left b2.2 (by decide))
    rw [i64w]; exact w64_id (by omega) (by omega)
  clear h0 hx hy hp B b1 b2
  go_enter Tryd.func17, Tryd.ntmps17
  go_wp2
  go_quiet (first
    | (go_at_call 10; exact Calls.quiet_of_same (TO.out _))
    | (go_at_call 30; exact quiet_drawn (CO.out _))
    | (go_at_call 31; exact quiet_drawn (plan_parts.calls _ _ _ _ HP.out)))
  go_wp2
  go_ret
  exact ⟨rfl, ⟨⟨nq, rfl⟩⟩⟩
/-- Where a tile stands. -/
def outX (tx : Tab) (tw i : Int) : Int := i % partsV tx.lines.length tw * tw
def outY (tx : Tab) (tw th i : Int) : Int := i / partsV tx.lines.length tw * th
def outW (tx : Tab) (tw i : Int) : Int := min tw (tx.lines.length - outX tx tw i)
def outH (tx ty : Tab) (tw th i : Int) : Int := min th (ty.lines.length - outY tx tw th i)
theorem parts_lt {n s j : Int} (h3 : 1 ≤ s) (hj : j < partsV n s) : j * s ≤ n - 1 := by
  unfold partsV at hj
  have h := (Int.le_ediv_iff_mul_le (show 0 < s by omega)).1 (show j + 1 ≤ (n + s - 1) / s by omega)
  rw [Int.add_mul] at h
  omega
theorem outX_bnd {tx ty : Tab} {tw th i : Int} (B : PlanB tw th tx ty) : 0 ≤ outX tx tw i ∧ outX tx tw i ≤ tx.lines.length - 1 := by
  have b1 := partsV_bnd (n := (tx.lines.length : Int)) (s := tw) (by have := B.x1; omega) (by have := B.x2; omega) B.w1 B.w2
  refine ⟨Int.mul_nonneg (Int.emod_nonneg _ (by omega)) (by have := B.w1; omega), parts_lt B.w1 (Int.emod_lt_of_pos _ (by omega))⟩
theorem outY_bnd {tx ty : Tab} {tw th i : Int} (B : PlanB tw th tx ty) (i0 : 0 ≤ i) (i1 : i < partsV tx.lines.length tw * partsV ty.lines.length th) : 0 ≤ outY tx tw th i ∧ outY tx tw th i ≤ ty.lines.length - 1 := by
  have b1 := partsV_bnd (n := (tx.lines.length : Int)) (s := tw) (by have := B.x1; omega) (by have := B.x2; omega) B.w1 B.w2
  exact ⟨Int.mul_nonneg (Int.ediv_nonneg i0 (by omega)) (by have := B.h1; omega), parts_lt B.h1 (Int.ediv_lt_of_lt_mul (by omega) (by rwa [Int.mul_comm]))⟩
set_option maxHeartbeats 8000000 in
set_option maxRecDepth 100000 in
theorem out_calls (bp bx bz : Nat) (bd tw th : Int) (tx ty : Tab) (i : Int) (w : World) (h : PlanC w bp bx bz bd tw th tx ty) (B : PlanB tw th tx ty) (i0 : 0 ≤ i) (i1 : i < partsV tx.lines.length tw * partsV ty.lines.length th) :
    Calls Tryd.prog 28 #[.pointer (some ⟨bp, 0, none⟩), .int .i64 i] w fun e w' => e = .returned (.agg #[.int .i64 (outX tx tw i), .int .i64 (outY tx tw th i), .int .i64 (outW tx tw i), .int .i64 (outH tx ty tw th i)]) ∧ Below w.heap.size w w' := by
  obtain ⟨W0, hW0⟩ : ∃ u, u = w.alloc (.cells #[.int .i64 0, .int .i64 0, .int .i64 0, .int .i64 0] 53 (0, 0)) := ⟨_, rfl⟩
  have hb : Below w.heap.size w W0 := by rw [hW0]; exact below_alloc (Below.refl _ _) _
  have hr : W0.heap[w.heap.size]? = some (.cells #[.int .i64 0, .int .i64 0, .int .i64 0, .int .i64 0] 53 (0, 0)) := by rw [hW0]; exact heap_alloc_new w _
  have h1 := h.below hb
  have CO := Aside0.mk (fun n => columns_calls bp bx bz bd tw th tx ty (W0.drewN n) (h1.drewN n) B)
  obtain ⟨h0, hx, hy⟩ := h1
  obtain ⟨c0, c1, c2, c3, c4⟩ := plan_cells h0
  have TX := Aside0.mk (fun n => to_calls bx tx (W0.drewN n) (hx.drewN n))
  have TY := Aside0.mk (fun n => to_calls bz ty (W0.drewN n) (hy.drewN n))
  have xb := outX_bnd (i := i) B
  have yb := outY_bnd B i0 i1
  have b1 := partsV_bnd (n := (tx.lines.length : Int)) (s := tw) (by have := B.x1; omega) (by have := B.x2; omega) B.w1 B.w2
  obtain ⟨cs, hcs⟩ : ∃ u, u = partsV tx.lines.length tw := ⟨_, rfl⟩
  have e1 : Int.tmod i cs = i % cs := Int.tmod_eq_emod_of_nonneg i0
  have e2 : Int.tdiv i cs = i / cs := Int.tdiv_eq_ediv_of_nonneg i0
  have e3 : i % cs * tw = outX tx tw i := by rw [hcs]; rfl
  have e4 : i / cs * th = outY tx tw th i := by rw [hcs]; rfl
  have e5 : (tx.lines.length : Int) - outX tx tw i = (tx.lines.length : Int) - outX tx tw i := rfl
  rw [← hcs] at CO b1
  have cz0 : cs ≠ 0 := by omega
  have cz : (cs == 0) = false := by rw [beq_eq_false_iff_ne]; omega
  have cz2 : (cs != 0) = true := by rw [bne_iff_ne]; omega
  have q1 : IntKind.i64.wrap (i % cs) = i % cs := by
    have := Int.emod_nonneg i (show cs ≠ 0 by omega); have := Int.emod_lt_of_pos i (show 0 < cs by omega)
    rw [i64w]; exact w64_id (by omega) (by omega)
  obtain ⟨X, hX⟩ : ∃ u, u = outX tx tw i := ⟨_, rfl⟩
  obtain ⟨Y, hY⟩ : ∃ u, u = outY tx tw th i := ⟨_, rfl⟩
  have l1 := B.x2
  have l2 := B.y2
  rw [← hX] at xb e3
  rw [← hY] at yb e4
  have q3 := Int.ediv_nonneg i0 (show 0 ≤ cs by omega)
  have q4 := Int.ediv_lt_of_lt_mul (show 0 < cs by omega) (show i < partsV ty.lines.length th * cs by rw [hcs]; rwa [Int.mul_comm])
  have q5 := partsV_bnd (n := (ty.lines.length : Int)) (s := th) (by have := B.y1; omega) (by have := B.y2; omega) B.h1 B.h2
  have q2 : wrap64 (i / cs) = i / cs := w64_id (by omega) (by omega)
  have wy0 : wrap64 Y = Y := w64_id (by omega) (by omega)
  have wx : IntKind.i64.wrap X = X := by rw [i64w]; exact w64_id (by omega) (by omega)
  have wy : IntKind.i64.wrap Y = Y := by rw [i64w]; exact w64_id (by omega) (by omega)
  have wx2 : IntKind.i64.wrap ((tx.lines.length : Int) - X) = (tx.lines.length : Int) - X := by rw [i64w]; exact w64_id (by omega) (by omega)
  have wy2 : IntKind.i64.wrap ((ty.lines.length : Int) - Y) = (ty.lines.length : Int) - Y := by rw [i64w]; exact w64_id (by omega) (by omega)
  have HB := Aside0.mk hb
  have HR := Aside0.mk hr
  unfold outW outH
  rw [← hX, ← hY]
  have TXB := Aside0.mk (fun w' (hb : Below W0.heap.size W0 w') => to_calls bx tx w' (hx.below hb))
  have TYB := Aside0.mk (fun w' (hb : Below W0.heap.size W0 w') => to_calls bz ty w' (hy.below hb))
  have TXW := Aside0.mk (fun w' (hb : Below w.heap.size w w') => to_calls bx tx w' (h.2.1.below hb))
  have TYW := Aside0.mk (fun w' (hb : Below w.heap.size w w') => to_calls bz ty w' (h.2.2.below hb))
  have HK := Aside0.mk (fun w' (hb : Below w.heap.size w w') => (show Below w.heap.size w w' ∧ w'.cell? ⟨bp, 0, none⟩ = some (.pointer (some ⟨bx, 0, none⟩)) ∧ w'.cell? ⟨bp, 1, none⟩ = some (.pointer (some ⟨bz, 0, none⟩)) ∧ w'.cell? ⟨bp, 3, none⟩ = some (.int .i64 tw) ∧ w'.cell? ⟨bp, 4, none⟩ = some (.int .i64 th) from ⟨hb, (plan_cells (h.below hb).1).1, (plan_cells (h.below hb).1).2.1, (plan_cells (h.below hb).1).2.2.2.1, (plan_cells (h.below hb).1).2.2.2.2⟩))
  have mixed : Tryd.prog.follows .mixedOrders = true := by kernel_rfl
  clear h0 hx hy h hb hr B xb yb b1 hcs l1 l2 i0 i1 hX hY e5 q3 q4 q5 TX TY
  go_enter Tryd.func28, Tryd.ntmps28
  go_wp2
  rw [← hW0]
  obtain ⟨r, hr⟩ : ∃ u, u = w.heap.size := ⟨_, rfl⟩
  rw [← hr]
  clear hW0
  go_quiet (first
    | (go_at_call 30; exact quiet_drawn (CO.out _)))
  go_wp2
  rw [← hr] at HR
  have z0 : W0.cell? ⟨r, 0, none⟩ = some (.int .i64 0) := (blk_cell HR.out 0).trans rfl
  have z1 : W0.cell? ⟨r, 1, none⟩ = some (.int .i64 0) := (blk_cell HR.out 1).trans rfl
  have z2 : W0.cell? ⟨r, 2, none⟩ = some (.int .i64 0) := (blk_cell HR.out 2).trans rfl
  have z3 : W0.cell? ⟨r, 3, none⟩ = some (.int .i64 0) := (blk_cell HR.out 3).trans rfl
  have y0 := blk_frozen HR.out 0
  have y1 := blk_frozen HR.out 1
  have y2 := blk_frozen HR.out 2
  have y3 := blk_frozen HR.out 3
  have HRR := Aside0.mk hr
  clear hr
  clear TXB TYB
  rw [← HRR.out] at HK TXW TYW
  have S0 := HB.out
  rw [← HRR.out] at S0
  go_region_held3 (fun w' => Below r w w' ∧ w'.cell? ⟨bp, 0, none⟩ = some (.pointer (some ⟨bx, 0, none⟩)) ∧ w'.cell? ⟨bp, 1, none⟩ = some (.pointer (some ⟨bz, 0, none⟩)) ∧ w'.cell? ⟨bp, 3, none⟩ = some (.int .i64 tw) ∧ w'.cell? ⟨bp, 4, none⟩ = some (.int .i64 th))
    ((refine HK.out _ ?_; repeat (first | exact S0 | assumption | (refine Below.setCell (p := ⟨r, _, none⟩) ?_ (Nat.le_refl r) _) | (with_reducible apply pw_below_drewN) | (with_reducible apply below_drew1))))
    (first
      | (go_at_call 10; (with_reducible refine Calls.mono (TXW.out _ ?hh) ?_); (case hh => repeat (first | exact S0 | assumption | (with_reducible apply pw_below_drewN) | (with_reducible apply below_drew1))); rintro e w' ⟨rfl, rfl⟩)
      | (go_at_call 10; (with_reducible refine Calls.mono (TYW.out _ ?hh) ?_); (case hh => repeat (first | exact S0 | assumption | (with_reducible apply pw_below_drewN) | (with_reducible apply below_drew1))); rintro e w' ⟨rfl, rfl⟩))
  all_goals (
    have hd : (W0.drewN (nq + 1)).heap[r]? = some (.cells #[.int .i64 0, .int .i64 0, .int .i64 0, .int .i64 0] 53 (0, 0)) := by rw [World.heap_drewN]; exact HR.out
    have hb := pw_below_drewN S0 (nq + 1)
    generalize W0.drewN (nq + 1) = wd at hd hb ⊢
    have hr5 : ((((wd.setCell ⟨r, 0, none⟩ (.int .i64 X)).setCell ⟨r, 1, none⟩ (.int .i64 Y)).setCell ⟨r, 2, none⟩ (.int .i64 (min tw (tx.lines.length - X)))).setCell ⟨r, 3, none⟩ (.int .i64 (min th (ty.lines.length - Y)))).heap[r]? = some (.cells #[.int .i64 X, .int .i64 Y, .int .i64 (min tw (tx.lines.length - X)), .int .i64 (min th (ty.lines.length - Y))] 53 (0, 0)) := by simpa using blk_set (blk_set (blk_set (blk_set hd 0 (.int .i64 X)) 1 (.int .i64 Y)) 2 (.int .i64 (min tw (tx.lines.length - X)))) 3 (.int .i64 (min th (ty.lines.length - Y)))
    have B5 := Aside0.mk ((((hb.setCell (p := ⟨r, 0, none⟩) (Nat.le_refl r) (.int .i64 X)).setCell (p := ⟨r, 1, none⟩) (Nat.le_refl r) (.int .i64 Y)).setCell (p := ⟨r, 2, none⟩) (Nat.le_refl r) (.int .i64 (min tw (tx.lines.length - X)))).setCell (p := ⟨r, 3, none⟩) (Nat.le_refl r) (.int .i64 (min th (ty.lines.length - Y))))
    generalize (((wd.setCell ⟨r, 0, none⟩ (.int .i64 X)).setCell ⟨r, 1, none⟩ (.int .i64 Y)).setCell ⟨r, 2, none⟩ (.int .i64 (min tw (tx.lines.length - X)))).setCell ⟨r, 3, none⟩ (.int .i64 (min th (ty.lines.length - Y))) = w5 at hr5 B5 ⊢
    have p0 : w5.cell? ⟨r, 0, none⟩ = some (.int .i64 X) := (blk_cell hr5 0).trans rfl
    have p1 : w5.cell? ⟨r, 1, none⟩ = some (.int .i64 Y) := (blk_cell hr5 1).trans rfl
    have p2 : w5.cell? ⟨r, 2, none⟩ = some (.int .i64 (min tw (tx.lines.length - X))) := (blk_cell hr5 2).trans rfl
    have p3 : w5.cell? ⟨r, 3, none⟩ = some (.int .i64 (min th (ty.lines.length - Y))) := (blk_cell hr5 3).trans rfl
    clear hr5 hd hb S0 z0 z1 z2 z3 y0 y1 y2 y3
    try simp only [Exit.inBlock, Exit.then]
    go_wp2
    try simp only [Exit.inBlock, Exit.then]
    refine bodyPost_ret (by simp [results, Tryd.results28, go_sem, p0, p1, p2, p3]; try rfl) rfl ?_
    refine ⟨rfl, ?_⟩
    have q := B5.out
    rw [HRR.out] at q
    exact q)
set_option maxHeartbeats 8000000 in
set_option maxRecDepth 100000 in
theorem tile_calls (bp bx bz : Nat) (bd tw th : Int) (tx ty : Tab) (i : Int) (w : World) (h : PlanC w bp bx bz bd tw th tx ty) (B : PlanB tw th tx ty) (i0 : 0 ≤ i) (i1 : i < partsV tx.lines.length tw * partsV ty.lines.length th) :
    Calls Tryd.prog 16 #[.pointer (some ⟨bp, 0, none⟩), .int .i64 i] w fun e w' => e = .returned (.tuple #[.agg #[.int .i64 i, .int .i64 (outX tx tw i), .int .i64 (outY tx tw th i), .int .i64 (outW tx tw i), .int .i64 (outH tx ty tw th i), .int .i64 (reachV tx (outX tx tw i) (outX tx tw i + outW tx tw i)).1, .int .i64 (reachV ty (outY tx tw th i) (outY tx tw th i + outH tx ty tw th i)).1, .int .i64 (reachV tx (outX tx tw i) (outX tx tw i + outW tx tw i)).2, .int .i64 (reachV ty (outY tx tw th i) (outY tx tw th i + outH tx ty tw th i)).2, .int .i64 ty.most], .bool true]) ∧ Below w.heap.size w w' := by
  have CO := Aside0.mk (fun n => count_calls bp bx bz bd tw th tx ty (w.drewN n) (h.drewN n) B)
  have n0 : ¬ i < 0 := by omega
  have n1 : ¬ partsV tx.lines.length tw * partsV ty.lines.length th ≤ i := by omega
  have CW := Aside0.mk (fun w' (hb : Below w.heap.size w w') => count_calls bp bx bz bd tw th tx ty w' (h.below hb) B)
  have OW := Aside0.mk (fun w' (hb : Below w.heap.size w w') => out_calls bp bx bz bd tw th tx ty i w' (h.below hb) B i0 i1)
  have mixed : Tryd.prog.follows .mixedOrders = true := by kernel_rfl
  have MY := Aside0.mk (fun w' (hb : Below w.heap.size w w') => most_calls bz ty w' (h.2.2.below hb))
  have HK := Aside0.mk (fun w' (hb : Below w.heap.size w w') => (show Below w.heap.size w w' ∧ w'.cell? ⟨bp, 0, none⟩ = some (.pointer (some ⟨bx, 0, none⟩)) ∧ w'.cell? ⟨bp, 1, none⟩ = some (.pointer (some ⟨bz, 0, none⟩)) from ⟨hb, (plan_cells (h.below hb).1).1, (plan_cells (h.below hb).1).2.1⟩))
  have xb := outX_bnd (i := i) B
  have yb := outY_bnd B i0 i1
  have l1 := B.x2
  have l2 := B.y2
  have xw : IntKind.i64.wrap (outX tx tw i + outW tx tw i) = outX tx tw i + outW tx tw i := by
    have := B.w1; have := B.w2
    unfold outW
    rw [i64w]; exact w64_id (by omega) (by omega)
  have yw : IntKind.i64.wrap (outY tx tw th i + outH tx ty tw th i) = outY tx tw th i + outH tx ty tw th i := by
    have := B.h1; have := B.h2
    unfold outH
    rw [i64w]; exact w64_id (by omega) (by omega)
  have RX := Aside0.mk (fun w' (hb : Below w.heap.size w w') => reach_calls bx tx (outX tx tw i) (outX tx tw i + outW tx tw i) w' (h.2.1.below hb) l1)
  have RY := Aside0.mk (fun w' (hb : Below w.heap.size w w') => reach_calls bz ty (outY tx tw th i) (outY tx tw th i + outH tx ty tw th i) w' (h.2.2.below hb) l2)
  clear xb yb l1 l2
  obtain ⟨X, hX⟩ : ∃ u, u = outX tx tw i := ⟨_, rfl⟩
  obtain ⟨Y, hY⟩ : ∃ u, u = outY tx tw th i := ⟨_, rfl⟩
  obtain ⟨Wd, hWd⟩ : ∃ u, u = outW tx tw i := ⟨_, rfl⟩
  obtain ⟨Ht, hHt⟩ : ∃ u, u = outH tx ty tw th i := ⟨_, rfl⟩
  rw [← hX, ← hY, ← hWd, ← hHt] at OW ⊢
  rw [← hX, ← hWd] at RX xw
  rw [← hY, ← hHt] at RY yw
  obtain ⟨W0, hW0⟩ : ∃ u, u = w.alloc (.cells #[.int .i64 0, .int .i64 0, .int .i64 0, .int .i64 0, .int .i64 0, .int .i64 0, .int .i64 0, .int .i64 0, .int .i64 0, .int .i64 0] 55 (0, 0)) := ⟨_, rfl⟩
  have hb : Below w.heap.size w W0 := by rw [hW0]; exact below_alloc (Below.refl _ _) _
  have hr : W0.heap[w.heap.size]? = some (.cells #[.int .i64 0, .int .i64 0, .int .i64 0, .int .i64 0, .int .i64 0, .int .i64 0, .int .i64 0, .int .i64 0, .int .i64 0, .int .i64 0] 55 (0, 0)) := by rw [hW0]; exact heap_alloc_new w _
  have HB := Aside0.mk hb
  have HR := Aside0.mk hr
  clear i0 i1 h hX hY hWd hHt hb hr B
  go_enter Tryd.func16, Tryd.ntmps16
  go_wp2_with (first
    | (go_at_call 17; (with_reducible refine Calls.mono (CW.out _ ?hh) ?_); (case hh => repeat (first | (with_reducible first | exact Below.refl _ _ | apply below_alloc | apply pw_below_drewN | apply below_drew1) | exact Below.refl _ _)); rintro e w' ⟨rfl, ⟨nd, rfl⟩⟩))
  rw [← hW0]
  obtain ⟨r, hr⟩ : ∃ u, u = w.heap.size := ⟨_, rfl⟩
  rw [← hr] at HR ⊢
  have hb := pw_below_drewN HB.out nd
  have hq := HR.out
  rw [← World.heap_drewN W0 nd] at hq
  generalize W0.drewN nd = W1 at hb hq ⊢
  have S0 := hb
  have HR1 := Aside0.mk hq
  obtain ⟨-, c0, c1⟩ := HK.out _ hb
  have HRQ := Aside0.mk hr
  clear hW0 hb hq HB HR hr
  go_cut [6] (fun v6 wc => ∃ gt, v6 = .pointer (some ⟨gt, 0, none⟩) ∧ r < gt ∧ Aside0 (wc.heap[gt]? = some (.cells #[.int .i64 i, .int .i64 X, .int .i64 Y, .int .i64 Wd, .int .i64 Ht, .int .i64 0, .int .i64 0, .int .i64 0, .int .i64 0, .int .i64 ty.most] 55 (0, 0))) ∧ Aside0 (Below w.heap.size w wc) ∧ Aside0 (wc.heap[r]? = some (.cells #[.int .i64 0, .int .i64 0, .int .i64 0, .int .i64 0, .int .i64 0, .int .i64 0, .int .i64 0, .int .i64 0, .int .i64 0, .int .i64 0] 55 (0, 0))))
  case first =>
    go_region_held3 (fun w' => Below w.heap.size w w' ∧ w'.cell? ⟨bp, 0, none⟩ = some (.pointer (some ⟨bx, 0, none⟩)) ∧ w'.cell? ⟨bp, 1, none⟩ = some (.pointer (some ⟨bz, 0, none⟩)))
      ((refine HK.out _ ?_; repeat (first | (with_reducible exact S0) | (with_reducible assumption) | (with_reducible refine Below.setCell (p := ⟨W1.heap.size, _, none⟩) ?_ S0.size _) | (with_reducible apply below_alloc) | (with_reducible apply pw_below_drewN) | (with_reducible apply below_drew1))))
      (first
        | (go_at_call 29; (with_reducible refine Calls.mono (MY.out _ ?hh) ?_); (case hh => repeat (first | (with_reducible exact S0) | (with_reducible assumption) | (with_reducible apply below_alloc) | (with_reducible apply pw_below_drewN) | (with_reducible apply below_drew1))); rintro e w' ⟨rfl, rfl⟩)
        | (go_at_call 28; (with_reducible refine Calls.mono (OW.out _ ?hh) ?_); (case hh => repeat (first | (with_reducible exact S0) | (with_reducible assumption) | (with_reducible apply below_alloc) | (with_reducible apply pw_below_drewN) | (with_reducible apply below_drew1))); rintro e w2 ⟨rfl, hb2⟩; have hs2 : Below w.heap.size w w2 := (by with_reducible first | exact below_step (below_drew1 S0) hb2 | exact below_step (below_drew1 (below_alloc S0 _)) hb2); have hw2 : Below W1.heap.size W1 w2 := (by with_reducible first | exact below_step (below_drew1 (Below.refl _ _)) hb2 | exact below_step (below_drew1 (below_alloc (Below.refl _ _) _)) hb2); have HR2 := Aside0.mk ((hw2.block r (blk_lt HR1.out)).trans HR1.out); (try (have hb3 : Below (W1.alloc (.cells #[.int .i64 0, .int .i64 0, .int .i64 0, .int .i64 0, .int .i64 0, .int .i64 0, .int .i64 0, .int .i64 0, .int .i64 0, .int .i64 0] 55 (0, 0))).heap.size (W1.alloc (.cells #[.int .i64 0, .int .i64 0, .int .i64 0, .int .i64 0, .int .i64 0, .int .i64 0, .int .i64 0, .int .i64 0, .int .i64 0, .int .i64 0] 55 (0, 0))) w2 := (by with_reducible exact below_step (below_drew1 (Below.refl _ _)) hb2); have hq2 : w2.heap[W1.heap.size]? = some (.cells #[.int .i64 0, .int .i64 0, .int .i64 0, .int .i64 0, .int .i64 0, .int .i64 0, .int .i64 0, .int .i64 0, .int .i64 0, .int .i64 0] 55 (0, 0)) := (hb3.block _ (blk_lt (heap_alloc_new W1 _))).trans (heap_alloc_new W1 _); clear hb3; have t0 : w2.cell? ⟨W1.heap.size, 0, none⟩ = some (.int .i64 0) := (blk_cell hq2 0).trans rfl; have u0 := blk_frozen hq2 0; have t1 : w2.cell? ⟨W1.heap.size, 1, none⟩ = some (.int .i64 0) := (blk_cell hq2 1).trans rfl; have u1 := blk_frozen hq2 1; have t2 : w2.cell? ⟨W1.heap.size, 2, none⟩ = some (.int .i64 0) := (blk_cell hq2 2).trans rfl; have u2 := blk_frozen hq2 2; have t3 : w2.cell? ⟨W1.heap.size, 3, none⟩ = some (.int .i64 0) := (blk_cell hq2 3).trans rfl; have u3 := blk_frozen hq2 3; have t4 : w2.cell? ⟨W1.heap.size, 4, none⟩ = some (.int .i64 0) := (blk_cell hq2 4).trans rfl; have u4 := blk_frozen hq2 4; have t5 : w2.cell? ⟨W1.heap.size, 5, none⟩ = some (.int .i64 0) := (blk_cell hq2 5).trans rfl; have u5 := blk_frozen hq2 5; have t6 : w2.cell? ⟨W1.heap.size, 6, none⟩ = some (.int .i64 0) := (blk_cell hq2 6).trans rfl; have u6 := blk_frozen hq2 6; have t7 : w2.cell? ⟨W1.heap.size, 7, none⟩ = some (.int .i64 0) := (blk_cell hq2 7).trans rfl; have u7 := blk_frozen hq2 7; have t8 : w2.cell? ⟨W1.heap.size, 8, none⟩ = some (.int .i64 0) := (blk_cell hq2 8).trans rfl; have u8 := blk_frozen hq2 8; have t9 : w2.cell? ⟨W1.heap.size, 9, none⟩ = some (.int .i64 0) := (blk_cell hq2 9).trans rfl; have u9 := blk_frozen hq2 9; have HQ2 := Aside0.mk hq2; clear hq2)); clear hb2 hw2))
    all_goals go_wp2
    all_goals go_meet
    case rel => exact ⟨_, rfl, blk_lt HR2.out, ⟨heap_alloc_new _ _⟩, ⟨below_alloc hs2 _⟩, ⟨((below_alloc (Below.refl _ _) _).block r (blk_lt HR2.out)).trans HR2.out⟩⟩
    case rel => exact ⟨_, rfl, blk_lt HR2.out, ⟨heap_alloc_new _ _⟩, ⟨below_alloc hs2 _⟩, ⟨((below_alloc (Below.refl _ _) _).block r (blk_lt HR2.out)).trans HR2.out⟩⟩
    case rel =>
      have hne : r ≠ W1.heap.size := Nat.ne_of_lt (blk_lt HR1.out)
      refine ⟨_, rfl, blk_lt HR1.out, ⟨by simpa using (blk_set (blk_set (blk_set (blk_set (blk_set (blk_set (blk_set (blk_set (blk_set (blk_set HQ2.out 0 (.int .i64 i)) 1 (.int .i64 X)) 2 (.int .i64 Y)) 3 (.int .i64 Wd)) 4 (.int .i64 Ht)) 5 (.int .i64 0)) 6 (.int .i64 0)) 7 (.int .i64 0)) 8 (.int .i64 0)) 9 (.int .i64 ty.most))⟩, ⟨by repeat (first | (with_reducible exact hs2) | (refine Below.setCell (p := ⟨W1.heap.size, _, none⟩) ?_ S0.size _))⟩, ⟨by repeat (first | (with_reducible exact HR2.out) | (refine blk_far ?_ hne _))⟩⟩
  case rest =>
    obtain ⟨gt, rfl, hlt, HT, HB, HRR⟩ := hcut
    clear c0 c1 S0 HR1
    obtain ⟨-, c0, c1⟩ := HK.out _ HB.out
    have S0 := HB.out
    have S1 := HT.out
    have KP := Aside0.mk (fun (w' : World) (hb : Below w.heap.size w w') (hA : ∃ A : Array Value, w'.heap[gt]? = some (.cells A 55 (0, 0)) ∧ A[1]? = some (.int .i64 X) ∧ A[2]? = some (.int .i64 Y) ∧ A[3]? = some (.int .i64 Wd) ∧ A[4]? = some (.int .i64 Ht)) => (show Below w.heap.size w w' ∧ w'.cell? ⟨bp, 0, none⟩ = some (.pointer (some ⟨bx, 0, none⟩)) ∧ w'.cell? ⟨bp, 1, none⟩ = some (.pointer (some ⟨bz, 0, none⟩)) ∧ w'.cell? ⟨gt, 1, none⟩ = some (.int .i64 X) ∧ w'.cell? ⟨gt, 2, none⟩ = some (.int .i64 Y) ∧ w'.cell? ⟨gt, 3, none⟩ = some (.int .i64 Wd) ∧ w'.cell? ⟨gt, 4, none⟩ = some (.int .i64 Ht) from by obtain ⟨A, ht, h1, h2, h3, h4⟩ := hA; exact ⟨hb, (HK.out _ hb).2.1, (HK.out _ hb).2.2, (blk_cell ht 1).trans h1, (blk_cell ht 2).trans h2, (blk_cell ht 3).trans h3, (blk_cell ht 4).trans h4⟩))
    have hgl : w.heap.size ≤ gt := by rw [← HRQ.out]; exact Nat.le_of_lt hlt
    clear CO CW OW MY
    go_wp2
    go_region_held3 (fun w' => Below w.heap.size w w' ∧ w'.cell? ⟨bp, 0, none⟩ = some (.pointer (some ⟨bx, 0, none⟩)) ∧ w'.cell? ⟨bp, 1, none⟩ = some (.pointer (some ⟨bz, 0, none⟩)) ∧ w'.cell? ⟨gt, 1, none⟩ = some (.int .i64 X) ∧ w'.cell? ⟨gt, 2, none⟩ = some (.int .i64 Y) ∧ w'.cell? ⟨gt, 3, none⟩ = some (.int .i64 Wd) ∧ w'.cell? ⟨gt, 4, none⟩ = some (.int .i64 Ht))
      ((refine KP.out _ (by repeat (first | (with_reducible exact S0) | (with_reducible assumption) | (with_reducible refine Below.setCell (p := ⟨gt, _, none⟩) ?_ hgl _) | (with_reducible apply below_drew1))) ?_; apply Exists.intro; refine ⟨?_, ?_, ?_, ?_, ?_⟩; (focus (repeat (first | (with_reducible exact S1) | (with_reducible assumption) | (with_reducible apply blk_set) | (with_reducible apply blk_drew)))); all_goals rfl))
      (first
        | (go_at_call 26; (with_reducible refine Calls.mono (RX.out _ ?hh) ?_); (case hh => repeat (first | (with_reducible exact S0) | (with_reducible assumption) | (with_reducible apply below_drew1))); rintro e w2 ⟨rfl, hb2⟩; have hs2 : Below w.heap.size w w2 := (by with_reducible exact below_step (below_drew1 S0) hb2); have hw2 : Below wc.heap.size wc w2 := (by with_reducible exact below_step (below_drew1 (Below.refl _ _)) hb2); have HR2 := Aside0.mk ((hw2.block r (blk_lt HRR.out)).trans HRR.out); have hT2 := (hw2.block gt (blk_lt HT.out)).trans HT.out; have HT2 := Aside0.mk hT2; have u5 : w2.cell? ⟨gt, 5, none⟩ = some (.int .i64 0) := (blk_cell hT2 5).trans rfl; have u7 : w2.cell? ⟨gt, 7, none⟩ = some (.int .i64 0) := (blk_cell hT2 7).trans rfl; have v5 := blk_frozen hT2 5; have v7 := blk_frozen hT2 7; clear hb2 hw2))
    have hne : r ≠ gt := Nat.ne_of_lt hlt
    have hT3 : ((w2.setCell ⟨gt, 5, none⟩ (.int .i64 (reachV tx X (X + Wd)).1)).setCell ⟨gt, 7, none⟩ (.int .i64 (reachV tx X (X + Wd)).2)).heap[gt]? = some (.cells #[.int .i64 i, .int .i64 X, .int .i64 Y, .int .i64 Wd, .int .i64 Ht, .int .i64 (reachV tx X (X + Wd)).1, .int .i64 0, .int .i64 (reachV tx X (X + Wd)).2, .int .i64 0, .int .i64 ty.most] 55 (0, 0)) := by simpa using blk_set (blk_set HT2.out 5 (.int .i64 (reachV tx X (X + Wd)).1)) 7 (.int .i64 (reachV tx X (X + Wd)).2)
    have hS3 : Below w.heap.size w ((w2.setCell ⟨gt, 5, none⟩ (.int .i64 (reachV tx X (X + Wd)).1)).setCell ⟨gt, 7, none⟩ (.int .i64 (reachV tx X (X + Wd)).2)) := (hs2.setCell (p := ⟨gt, 5, none⟩) hgl _).setCell (p := ⟨gt, 7, none⟩) hgl _
    have hR3 : ((w2.setCell ⟨gt, 5, none⟩ (.int .i64 (reachV tx X (X + Wd)).1)).setCell ⟨gt, 7, none⟩ (.int .i64 (reachV tx X (X + Wd)).2)).heap[r]? = some (.cells #[.int .i64 0, .int .i64 0, .int .i64 0, .int .i64 0, .int .i64 0, .int .i64 0, .int .i64 0, .int .i64 0, .int .i64 0, .int .i64 0] 55 (0, 0)) := blk_far (blk_far HR2.out hne _) hne _
    have HR3 := Aside0.mk hR3
    clear hR3 S1 S0 HT HB HRR c0 c1 hT2 HT2 HR2 u5 u7 v5 v7 hs2 RX
    generalize (w2.setCell ⟨gt, 5, none⟩ (.int .i64 (reachV tx X (X + Wd)).1)).setCell ⟨gt, 7, none⟩ (.int .i64 (reachV tx X (X + Wd)).2) = w3 at hT3 hS3 HR3 ⊢
    have S1 := hT3
    have S0 := hS3
    have HT := Aside0.mk hT3
    have HRR := Aside0.mk HR3.out
    obtain ⟨-, c0, c1⟩ := HK.out _ hS3
    clear hT3 hS3 HR3
    try simp only [Exit.inBlock, Exit.then]
    go_wp2
    go_region_held3 (fun w' => Below w.heap.size w w' ∧ w'.cell? ⟨bp, 0, none⟩ = some (.pointer (some ⟨bx, 0, none⟩)) ∧ w'.cell? ⟨bp, 1, none⟩ = some (.pointer (some ⟨bz, 0, none⟩)) ∧ w'.cell? ⟨gt, 1, none⟩ = some (.int .i64 X) ∧ w'.cell? ⟨gt, 2, none⟩ = some (.int .i64 Y) ∧ w'.cell? ⟨gt, 3, none⟩ = some (.int .i64 Wd) ∧ w'.cell? ⟨gt, 4, none⟩ = some (.int .i64 Ht))
      ((refine KP.out _ (by repeat (first | (with_reducible exact S0) | (with_reducible assumption) | (with_reducible refine Below.setCell (p := ⟨gt, _, none⟩) ?_ hgl _) | (with_reducible apply below_drew1))) ?_; apply Exists.intro; refine ⟨?_, ?_, ?_, ?_, ?_⟩; (focus (repeat (first | (with_reducible exact S1) | (with_reducible assumption) | (with_reducible apply blk_set) | (with_reducible apply blk_drew)))); all_goals rfl))
      (first
        | (go_at_call 26; (with_reducible refine Calls.mono (RY.out _ ?hh) ?_); (case hh => repeat (first | (with_reducible exact S0) | (with_reducible assumption) | (with_reducible apply below_drew1))); rintro e w2 ⟨rfl, hb2⟩; have hs2 : Below w.heap.size w w2 := (by with_reducible exact below_step (below_drew1 S0) hb2); have hw2 : Below w3.heap.size w3 w2 := (by with_reducible exact below_step (below_drew1 (Below.refl _ _)) hb2); have HR2 := Aside0.mk ((hw2.block r (blk_lt HRR.out)).trans HRR.out); have hT2 := (hw2.block gt (blk_lt HT.out)).trans HT.out; have HT2 := Aside0.mk hT2; have u6 : w2.cell? ⟨gt, 6, none⟩ = some (.int .i64 0) := (blk_cell hT2 6).trans rfl; have u8 : w2.cell? ⟨gt, 8, none⟩ = some (.int .i64 0) := (blk_cell hT2 8).trans rfl; have v6 := blk_frozen hT2 6; have v8 := blk_frozen hT2 8; clear hb2 hw2))
    have hT4 : ((w2.setCell ⟨gt, 6, none⟩ (.int .i64 (reachV ty Y (Y + Ht)).1)).setCell ⟨gt, 8, none⟩ (.int .i64 (reachV ty Y (Y + Ht)).2)).heap[gt]? = some (.cells #[.int .i64 i, .int .i64 X, .int .i64 Y, .int .i64 Wd, .int .i64 Ht, .int .i64 (reachV tx X (X + Wd)).1, .int .i64 (reachV ty Y (Y + Ht)).1, .int .i64 (reachV tx X (X + Wd)).2, .int .i64 (reachV ty Y (Y + Ht)).2, .int .i64 ty.most] 55 (0, 0)) := by simpa using blk_set (blk_set HT2.out 6 (.int .i64 (reachV ty Y (Y + Ht)).1)) 8 (.int .i64 (reachV ty Y (Y + Ht)).2)
    have hS4 : Below w.heap.size w ((w2.setCell ⟨gt, 6, none⟩ (.int .i64 (reachV ty Y (Y + Ht)).1)).setCell ⟨gt, 8, none⟩ (.int .i64 (reachV ty Y (Y + Ht)).2)) := (hs2.setCell (p := ⟨gt, 6, none⟩) hgl _).setCell (p := ⟨gt, 8, none⟩) hgl _
    have hR4 : ((w2.setCell ⟨gt, 6, none⟩ (.int .i64 (reachV ty Y (Y + Ht)).1)).setCell ⟨gt, 8, none⟩ (.int .i64 (reachV ty Y (Y + Ht)).2)).heap[r]? = some (.cells #[.int .i64 0, .int .i64 0, .int .i64 0, .int .i64 0, .int .i64 0, .int .i64 0, .int .i64 0, .int .i64 0, .int .i64 0, .int .i64 0] 55 (0, 0)) := blk_far (blk_far HR2.out hne _) hne _
    have HRR4 := Aside0.mk hR4
    clear hR4 S1 S0 HT HRR c0 c1 hT2 HT2 HR2 u6 u8 v6 v8 hs2 RY KP HK
    generalize (w2.setCell ⟨gt, 6, none⟩ (.int .i64 (reachV ty Y (Y + Ht)).1)).setCell ⟨gt, 8, none⟩ (.int .i64 (reachV ty Y (Y + Ht)).2) = w4 at hT4 hS4 HRR4 ⊢
    have p0 : w4.cell? ⟨gt, 0, none⟩ = some (.int .i64 i) := (blk_cell hT4 0).trans rfl
    have p1 : w4.cell? ⟨gt, 1, none⟩ = some (.int .i64 X) := (blk_cell hT4 1).trans rfl
    have p2 : w4.cell? ⟨gt, 2, none⟩ = some (.int .i64 Y) := (blk_cell hT4 2).trans rfl
    have p3 : w4.cell? ⟨gt, 3, none⟩ = some (.int .i64 Wd) := (blk_cell hT4 3).trans rfl
    have p4 : w4.cell? ⟨gt, 4, none⟩ = some (.int .i64 Ht) := (blk_cell hT4 4).trans rfl
    have p5 : w4.cell? ⟨gt, 5, none⟩ = some (.int .i64 (reachV tx X (X + Wd)).1) := (blk_cell hT4 5).trans rfl
    have p6 : w4.cell? ⟨gt, 6, none⟩ = some (.int .i64 (reachV ty Y (Y + Ht)).1) := (blk_cell hT4 6).trans rfl
    have p7 : w4.cell? ⟨gt, 7, none⟩ = some (.int .i64 (reachV tx X (X + Wd)).2) := (blk_cell hT4 7).trans rfl
    have p8 : w4.cell? ⟨gt, 8, none⟩ = some (.int .i64 (reachV ty Y (Y + Ht)).2) := (blk_cell hT4 8).trans rfl
    have p9 : w4.cell? ⟨gt, 9, none⟩ = some (.int .i64 ty.most) := (blk_cell hT4 9).trans rfl
    have z0 : w4.cell? ⟨r, 0, none⟩ = some (.int .i64 0) := (blk_cell HRR4.out 0).trans rfl
    have y0 := blk_frozen HRR4.out 0
    have z1 : w4.cell? ⟨r, 1, none⟩ = some (.int .i64 0) := (blk_cell HRR4.out 1).trans rfl
    have y1 := blk_frozen HRR4.out 1
    have z2 : w4.cell? ⟨r, 2, none⟩ = some (.int .i64 0) := (blk_cell HRR4.out 2).trans rfl
    have y2 := blk_frozen HRR4.out 2
    have z3 : w4.cell? ⟨r, 3, none⟩ = some (.int .i64 0) := (blk_cell HRR4.out 3).trans rfl
    have y3 := blk_frozen HRR4.out 3
    have z4 : w4.cell? ⟨r, 4, none⟩ = some (.int .i64 0) := (blk_cell HRR4.out 4).trans rfl
    have y4 := blk_frozen HRR4.out 4
    have z5 : w4.cell? ⟨r, 5, none⟩ = some (.int .i64 0) := (blk_cell HRR4.out 5).trans rfl
    have y5 := blk_frozen HRR4.out 5
    have z6 : w4.cell? ⟨r, 6, none⟩ = some (.int .i64 0) := (blk_cell HRR4.out 6).trans rfl
    have y6 := blk_frozen HRR4.out 6
    have z7 : w4.cell? ⟨r, 7, none⟩ = some (.int .i64 0) := (blk_cell HRR4.out 7).trans rfl
    have y7 := blk_frozen HRR4.out 7
    have z8 : w4.cell? ⟨r, 8, none⟩ = some (.int .i64 0) := (blk_cell HRR4.out 8).trans rfl
    have y8 := blk_frozen HRR4.out 8
    have z9 : w4.cell? ⟨r, 9, none⟩ = some (.int .i64 0) := (blk_cell HRR4.out 9).trans rfl
    have y9 := blk_frozen HRR4.out 9
    have S0 := Aside0.mk hS4
    have hrl : w.heap.size ≤ r := by rw [← HRQ.out]; exact Nat.le_refl _
    clear hT4 hS4
    try simp only [Exit.inBlock, Exit.then]
    go_wp2
    have hr5 : ((((((((((w4.setCell ⟨r, 0, none⟩ (.int .i64 i)).setCell ⟨r, 1, none⟩ (.int .i64 X)).setCell ⟨r, 2, none⟩ (.int .i64 Y)).setCell ⟨r, 3, none⟩ (.int .i64 Wd)).setCell ⟨r, 4, none⟩ (.int .i64 Ht)).setCell ⟨r, 5, none⟩ (.int .i64 (reachV tx X (X + Wd)).1)).setCell ⟨r, 6, none⟩ (.int .i64 (reachV ty Y (Y + Ht)).1)).setCell ⟨r, 7, none⟩ (.int .i64 (reachV tx X (X + Wd)).2)).setCell ⟨r, 8, none⟩ (.int .i64 (reachV ty Y (Y + Ht)).2)).setCell ⟨r, 9, none⟩ (.int .i64 ty.most)).heap[r]? = some (.cells #[.int .i64 i, .int .i64 X, .int .i64 Y, .int .i64 Wd, .int .i64 Ht, .int .i64 (reachV tx X (X + Wd)).1, .int .i64 (reachV ty Y (Y + Ht)).1, .int .i64 (reachV tx X (X + Wd)).2, .int .i64 (reachV ty Y (Y + Ht)).2, .int .i64 ty.most] 55 (0, 0)) := by simpa using blk_set (blk_set (blk_set (blk_set (blk_set (blk_set (blk_set (blk_set (blk_set (blk_set HRR4.out 0 (.int .i64 i)) 1 (.int .i64 X)) 2 (.int .i64 Y)) 3 (.int .i64 Wd)) 4 (.int .i64 Ht)) 5 (.int .i64 (reachV tx X (X + Wd)).1)) 6 (.int .i64 (reachV ty Y (Y + Ht)).1)) 7 (.int .i64 (reachV tx X (X + Wd)).2)) 8 (.int .i64 (reachV ty Y (Y + Ht)).2)) 9 (.int .i64 ty.most)
    have B5 := Aside0.mk ((((((((((S0.out.setCell (p := ⟨r, 0, none⟩) hrl (.int .i64 i)).setCell (p := ⟨r, 1, none⟩) hrl (.int .i64 X)).setCell (p := ⟨r, 2, none⟩) hrl (.int .i64 Y)).setCell (p := ⟨r, 3, none⟩) hrl (.int .i64 Wd)).setCell (p := ⟨r, 4, none⟩) hrl (.int .i64 Ht)).setCell (p := ⟨r, 5, none⟩) hrl (.int .i64 (reachV tx X (X + Wd)).1)).setCell (p := ⟨r, 6, none⟩) hrl (.int .i64 (reachV ty Y (Y + Ht)).1)).setCell (p := ⟨r, 7, none⟩) hrl (.int .i64 (reachV tx X (X + Wd)).2)).setCell (p := ⟨r, 8, none⟩) hrl (.int .i64 (reachV ty Y (Y + Ht)).2)).setCell (p := ⟨r, 9, none⟩) hrl (.int .i64 ty.most))
    generalize (((((((((w4.setCell ⟨r, 0, none⟩ (.int .i64 i)).setCell ⟨r, 1, none⟩ (.int .i64 X)).setCell ⟨r, 2, none⟩ (.int .i64 Y)).setCell ⟨r, 3, none⟩ (.int .i64 Wd)).setCell ⟨r, 4, none⟩ (.int .i64 Ht)).setCell ⟨r, 5, none⟩ (.int .i64 (reachV tx X (X + Wd)).1)).setCell ⟨r, 6, none⟩ (.int .i64 (reachV ty Y (Y + Ht)).1)).setCell ⟨r, 7, none⟩ (.int .i64 (reachV tx X (X + Wd)).2)).setCell ⟨r, 8, none⟩ (.int .i64 (reachV ty Y (Y + Ht)).2)).setCell ⟨r, 9, none⟩ (.int .i64 ty.most) = w5 at hr5 B5 ⊢
    clear p0 z0 y0 p1 z1 y1 p2 z2 y2 p3 z3 y3 p4 z4 y4 p5 z5 y5 p6 z6 y6 p7 z7 y7 p8 z8 y8 p9 z9 y9
    have p0 : w5.cell? ⟨r, 0, none⟩ = some (.int .i64 i) := (blk_cell hr5 0).trans rfl
    have p1 : w5.cell? ⟨r, 1, none⟩ = some (.int .i64 X) := (blk_cell hr5 1).trans rfl
    have p2 : w5.cell? ⟨r, 2, none⟩ = some (.int .i64 Y) := (blk_cell hr5 2).trans rfl
    have p3 : w5.cell? ⟨r, 3, none⟩ = some (.int .i64 Wd) := (blk_cell hr5 3).trans rfl
    have p4 : w5.cell? ⟨r, 4, none⟩ = some (.int .i64 Ht) := (blk_cell hr5 4).trans rfl
    have p5 : w5.cell? ⟨r, 5, none⟩ = some (.int .i64 (reachV tx X (X + Wd)).1) := (blk_cell hr5 5).trans rfl
    have p6 : w5.cell? ⟨r, 6, none⟩ = some (.int .i64 (reachV ty Y (Y + Ht)).1) := (blk_cell hr5 6).trans rfl
    have p7 : w5.cell? ⟨r, 7, none⟩ = some (.int .i64 (reachV tx X (X + Wd)).2) := (blk_cell hr5 7).trans rfl
    have p8 : w5.cell? ⟨r, 8, none⟩ = some (.int .i64 (reachV ty Y (Y + Ht)).2) := (blk_cell hr5 8).trans rfl
    have p9 : w5.cell? ⟨r, 9, none⟩ = some (.int .i64 ty.most) := (blk_cell hr5 9).trans rfl
    clear hr5
    try simp only [Exit.inBlock, Exit.then]
    go_wp2
    try simp only [Exit.inBlock, Exit.then]
    refine bodyPost_ret (by simp [results, Tryd.results16, go_sem, p0, p1, p2, p3, p4, p5, p6, p7, p8, p9]; try rfl) rfl ?_
    exact ⟨rfl, B5.out⟩
end Go.Proofs.YtkdmebekabmkkaaDoor.QA

namespace Go.Proofs.YtkdmebekabmkkaaDoor.QA
open Go.RowKit Go.Proofs.YtkdmebekabmkkaaDoorW.PrintWords Go.Proofs.YtkdmebekabmkkaaDoorW.PrintLast Go.Proofs.YtkdmebekabmkkaaDoorW.PrintMore Go.Proofs.YtkdmebekabmkkaaDoor.T
set_option linter.unusedVariables false
set_option linter.unusedSimpArgs false
theorem tab95_code : resCode 0 9 5 0 5 = 0 := by kernel_rfl
theorem tab93_code : resCode 0 9 3 0 3 = 0 := by kernel_rfl
theorem tab95_len : (resTab 0 9 5 5).lines.length = 5 := by kernel_rfl
theorem tab93_len : (resTab 0 9 3 3).lines.length = 3 := by kernel_rfl
set_option maxHeartbeats 8000000 in
set_option maxRecDepth 100000 in
theorem lives14_calls (w : World) (hG : GL w) : Calls Tryd.prog 11 #[] w fun e w' => e = .returned (.bool true) ∧ Below w.heap.size w w' := by
  have lv := fun w' (hb : Below w.heap.size w w') => lives12_calls w' (hG.below hb)
  obtain ⟨tx, htx⟩ : ∃ t, t = resTab 0 9 5 5 := ⟨_, rfl⟩
  obtain ⟨ty, hty⟩ : ∃ t, t = resTab 0 9 3 3 := ⟨_, rfl⟩
  have lx : tx.lines.length = 5 := by rw [htx]; exact tab95_len
  have ly : ty.lines.length = 3 := by rw [hty]; exact tab93_len
  have mk := fun w' (hb : Below w.heap.size w w') => make_ok 3 0 0 0 none 0 [] none 0 [] 0 5 3 9 9 (resTab 0 9 5 5) (resTab 0 9 3 3) w' (hG.below hb) (C_none w') (by decide) (C_none w') (by decide) (op_may_yes 0 (by decide) (by decide) (by decide)) (by decide) (by decide)
    (fun w'' hb2 => tables_resize 0 0 0 none 0 0 none 0 0 0 9 9 5 3 w'' (hG.below (below_step hb hb2)) ⟨by decide, by decide, by decide, by decide, by decide, by decide⟩ ⟨by decide, by decide, by decide, by decide, by decide, by decide⟩ tab95_code tab93_code)
  rw [← htx, ← hty] at mk
  have pB : PlanB 2 2 tx ty := ⟨by decide, by decide, by decide, by decide, by omega, by omega, by omega, by omega⟩
  have px : partsV (tx.lines.length : Int) 2 = 3 := by rw [lx]; rfl
  have py : partsV (ty.lines.length : Int) 2 = 2 := by rw [ly]; rfl
  have o1 : outX tx 2 5 = 4 := by unfold outX; rw [px]; rfl
  have o2 : outY tx 2 2 5 = 2 := by unfold outY; rw [px]; rfl
  have o3 : outW tx 2 5 = 1 := by unfold outW; rw [o1, lx]; rfl
  have o4 : outH tx ty 2 2 5 = 1 := by unfold outH; rw [o2, ly]; rfl
  have tc := fun bp bx bz w' (h : PlanC w' bp bx bz 0 2 2 tx ty) => tile_calls bp bx bz 0 2 2 tx ty 5 w' h pB (by decide) (by rw [px, py]; decide)
  have cc := fun bp bx bz w' (h : PlanC w' bp bx bz 0 2 2 tx ty) => count_calls bp bx bz 0 2 2 tx ty w' h pB
  rw [o1, o2, o3, o4] at tc
  rw [px, py] at cc
  generalize reachV tx 4 (4 + 1) = ra at tc
  generalize reachV ty 2 (2 + 1) = rb at tc
  obtain ⟨ra1, ra2⟩ := ra
  obtain ⟨rb1, rb2⟩ := rb
  obtain ⟨mo, hmo⟩ : ∃ m, m = ty.most := ⟨_, rfl⟩
  rw [← hmo] at tc
  have LV := Aside0.mk lv
  have MK := Aside0.mk mk
  have TC := Aside0.mk tc
  have CC := Aside0.mk cc
  clear lv mk hG lx ly htx hty pB px py o1 o2 o3 o4 tc cc hmo
  have mixed : Tryd.prog.follows .mixedOrders = true := by kernel_rfl
  unfold opV at MK
  go_enter Tryd.func11, Tryd.ntmps11
  go_upto_region 2 with (first
    | (go_at_call 12; refine (MK.out _ (Below.refl _ _)).mono ?_; rintro e w1 ⟨hb1, bx, bz, rfl, hx, hz⟩; have B1 := Aside0.mk hb1; have TX := Aside0.mk hx.reads; have TY := Aside0.mk hz.reads; clear hb1 hx hz))
  have hr := heap_alloc_new w1 (.cells #[.pointer (some ⟨bx, 0, none⟩), .pointer (some ⟨bz, 0, none⟩), .int .i64 0] 32)
  have ha := below_alloc (Below.refl w1.heap.size w1) (.cells #[.pointer (some ⟨bx, 0, none⟩), .pointer (some ⟨bz, 0, none⟩), .int .i64 0] 32)
  have TX2 := Aside0.mk (TX.out.below ha)
  have TY2 := Aside0.mk (TY.out.below ha)
  have B2 := Aside0.mk (below_step B1.out ha)
  obtain ⟨g, hg⟩ : ∃ g, g = w1.heap.size := ⟨_, rfl⟩
  rw [← hg] at hr ⊢
  clear ha hg TX TY
  generalize w1.alloc (.cells #[.pointer (some ⟨bx, 0, none⟩), .pointer (some ⟨bz, 0, none⟩), .int .i64 0] 32) = w2 at hr TX2 TY2 B2 ⊢
  have HR := Aside0.mk hr
  clear hr
  go_upto_region 8 with (first
    | (go_at_call 5; refine (LV.out _ B2.out).mono ?_; rintro e w3 ⟨rfl, hb3⟩; have B3 := Aside0.mk hb3; have hr9 := (hb3.block g (blk_lt HR.out)).trans HR.out; have z0 : w3.cell? ⟨g, 0, none⟩ = some (.pointer (some ⟨bx, 0, none⟩)) := (blk_cell hr9 0).trans rfl; have z1 : w3.cell? ⟨g, 1, none⟩ = some (.pointer (some ⟨bz, 0, none⟩)) := (blk_cell hr9 1).trans rfl; have z2 : w3.cell? ⟨g, 2, none⟩ = some (.int .i64 0) := (blk_cell hr9 2).trans rfl; clear hb3 hr9)
    | (go_at_call 13; refine (new_ok bx bz 0 2 2 w3 (by decide) (by decide)).mono ?_; rintro e w4 ⟨hb4, bp, rfl, hp4⟩; have B4 := Aside0.mk (below_step B3.out hb4); have HP := Aside0.mk (show PlanC w4 bp bx bz 0 2 2 tx ty from ⟨hp4, TX2.out.below (below_step B3.out hb4), TY2.out.below (below_step B3.out hb4)⟩); clear hb4 hp4 z0 z1 z2)
    | (go_at_call 16; refine (TC.out bp bx bz w4 HP.out).mono ?_; rintro e w5 ⟨rfl, hb5⟩; have B5 := Aside0.mk (below_step B4.out hb5); have HP5 := Aside0.mk (HP.out.below hb5); clear hb5))
  have hr := heap_alloc_new w5 (.cells #[.int .i64 5, .int .i64 4, .int .i64 2, .int .i64 1, .int .i64 1, .int .i64 ra1, .int .i64 rb1, .int .i64 ra2, .int .i64 rb2, .int .i64 mo] 55)
  have ha := below_alloc (Below.refl w5.heap.size w5) (.cells #[.int .i64 5, .int .i64 4, .int .i64 2, .int .i64 1, .int .i64 1, .int .i64 ra1, .int .i64 rb1, .int .i64 ra2, .int .i64 rb2, .int .i64 mo] 55)
  have HP6 := HP5.out.below ha
  have B6 := Aside0.mk (below_step B5.out ha)
  obtain ⟨q, hq⟩ : ∃ g, g = w5.heap.size := ⟨_, rfl⟩
  rw [← hq] at hr ⊢
  clear ha hq
  generalize w5.alloc (.cells #[.int .i64 5, .int .i64 4, .int .i64 2, .int .i64 1, .int .i64 1, .int .i64 ra1, .int .i64 rb1, .int .i64 ra2, .int .i64 rb2, .int .i64 mo] 55) = w6 at hr HP6 B6 ⊢
  have CC2 := Aside0.mk (CC.out bp bx bz w6 HP6)
  have t1 : w6.cell? ⟨q, 1, none⟩ = some (.int .i64 4) := (blk_cell hr 1).trans rfl
  have t2 : w6.cell? ⟨q, 2, none⟩ = some (.int .i64 2) := (blk_cell hr 2).trans rfl
  have t3 : w6.cell? ⟨q, 3, none⟩ = some (.int .i64 1) := (blk_cell hr 3).trans rfl
  have t4 : w6.cell? ⟨q, 4, none⟩ = some (.int .i64 1) := (blk_cell hr 4).trans rfl
  clear hr HP6
  go_wp2_with (go_at_call 17; (with_reducible refine CC2.out.mono ?_); rintro e w' ⟨rfl, ⟨nd, rfl⟩⟩)
  go_ret
  exact ⟨rfl, below_step B2.out (pw_below_drewN B6.out nd)⟩
end Go.Proofs.YtkdmebekabmkkaaDoor.QA

namespace Go.Proofs.YtkdmebekabmkkaaDoor.QA
open Go.RowKit Go.Proofs.YtkdmebekabmkkaaDoorW.PrintWords Go.Proofs.YtkdmebekabmkkaaDoorW.PrintLast Go.Proofs.YtkdmebekabmkkaaDoorW.PrintMore Go.Proofs.YtkdmebekabmkkaaDoor.T
set_option linter.unusedVariables false
set_option linter.unusedSimpArgs false
theorem one_chk : filCode [1073741824] 1 = 0 := by kernel_rfl
theorem one_app : appL [1073741824] = [16384] := by kernel_rfl
theorem rd_snoc (l : List S67) (x : S67) (j : Nat) : rd_T67 (l ++ [x]) (j : Int) = if j = l.length then x else rd_T67 l (j : Int) := by
  unfold rd_T67
  rw [Int.toNat_natCast, List.getD_eq_getElem?_getD, List.getD_eq_getElem?_getD]
  by_cases h : j < l.length
  · rw [List.getElem?_append_left h, if_neg (by omega)]
  · rw [List.getElem?_append_right (by omega)]
    by_cases e : j = l.length
    · subst e; simp
    · rw [if_neg e, List.getElem?_eq_none (by simp; omega), List.getElem?_eq_none (by omega)]
theorem resTab_rd (f n m : Int) : ∀ (i j : Nat), j < i → rd_T67 (resTab f n m i).lines (j : Int) = ⟨winLo f n m j, appL (rowV f n m j)⟩
  | 0, j, h => by omega
  | i + 1, j, h => by
    show rd_T67 ((resTab f n m i).lines ++ [_]) (j : Int) = _
    rw [rd_snoc, resTab_len]
    by_cases e : j = i
    · rw [if_pos e, e]
    · rw [if_neg e]; exact resTab_rd f n m i j (by omega)
theorem filTab_rd (n h : Int) (l : List Int) : ∀ (i j : Nat), j < i → rd_T67 (filTab n h l i).lines (j : Int) = ⟨(j : Int) - h, l⟩
  | 0, j, h => by omega
  | i + 1, j, hj => by
    show rd_T67 ((filTab n h l i).lines ++ [_]) (j : Int) = _
    rw [rd_snoc, filTab_len]
    by_cases e : j = i
    · rw [if_pos e, e]
    · rw [if_neg e]; exact filTab_rd n h l i j (by omega)
theorem filTab_most (n h : Int) (l : List Int) : ∀ i, 1 ≤ i → (filTab n h l i).most = l.length
  | 1, _ => by
    show mx 0 (l.length : Int) = _
    unfold mx; split <;> omega
  | i + 2, _ => by
    show mx (filTab n h l (i + 1)).most (l.length : Int) = _
    rw [filTab_most n h l (i + 1) (by omega)]; unfold mx; split <;> omega
theorem resCode_zero (f n m : Int) : ∀ (d i : Nat), (∀ j : Nat, i ≤ j → j < i + d → chkV (rowV f n m j) = 0) → resCode f n m i d = 0
  | 0, i, h => rfl
  | d + 1, i, h => by
    rw [resCode, if_pos (h i (Nat.le_refl _) (by omega))]
    exact resCode_zero f n m d (i + 1) (fun j h1 h2 => h j (by omega) (by omega))
theorem box_row {n : Int} (hn : 1 ≤ n) (i : Int) : winLo 0 n n i = i ∧ rowV 0 n n i = [1073741824] := by
  have e1 : winLo 0 n n i = i := by unfold winLo; rw [if_pos rfl, Int.mul_ediv_cancel _ (by omega)]
  have e2 : winHi 0 n n i = i + 1 := by
    unfold winHi cei; rw [if_pos rfl]
    have : -(i * n + n) = (-(i + 1)) * n := by rw [Int.neg_mul, Int.add_mul, Int.one_mul]
    rw [this, Int.mul_ediv_cancel _ (by omega)]; omega
  refine ⟨e1, ?_⟩
  unfold rowV
  rw [e1, e2, show (i + 1 - i).toNat = 1 by omega]
  show [wV 0 n n i (i + ((0 : Nat) : Int))] = _
  congr 1
  unfold wV partR
  rw [if_pos rfl]
  have e3 : mn (i * n + n) ((i + ((0 : Nat) : Int)) * n + n) - mx (i * n) ((i + ((0 : Nat) : Int)) * n) = n := by
    rw [show i + ((0 : Nat) : Int) = i by omega]; unfold mn mx; rw [if_neg (by omega), if_neg (by omega)]; omega
  rw [e3]
  unfold rdiv
  rw [if_pos (by omega)]
  have : 2 * (n * 1073741824) + n = (2 * n) * 1073741824 + n := by rw [Int.mul_assoc]
  rw [this, Int.add_comm, Int.add_mul_ediv_left _ _ (by omega), Int.ediv_eq_zero_of_lt (by omega) (by omega)]
  decide
theorem rdiv_self {c d : Int} (hd : 0 < d) : rdiv (c * d) d = c := by
  unfold rdiv
  rw [if_pos hd]
  have : 2 * (c * d) + d = d + (2 * d) * c := by rw [Int.mul_assoc, Int.mul_comm d c]; omega
  rw [this, Int.add_mul_ediv_left _ _ (by omega), Int.ediv_eq_zero_of_lt (by omega) (by omega)]; omega
theorem cubic_row {n : Int} (hn : 1 ≤ n) (hn2 : n ≤ 65536) (i : Int) : winLo 1 n n i = i - 1 ∧ rowV 1 n n i = [0, 1073741824, 0] := by
  have hr : reachR 1 n n = 4 * n := by unfold reachR mx; rw [if_pos rfl]; split <;> rfl
  have e1 : winLo 1 n n i = i - 1 := by
    unfold winLo; rw [if_neg (by decide), hr]
    have : 2 * (i * n) + n - n - 4 * n = (i - 2) * (2 * n) := by rw [Int.sub_mul, Int.mul_left_comm]; omega
    rw [this, Int.mul_ediv_cancel _ (by omega)]; omega
  have e2 : winHi 1 n n i = i + 2 := by
    unfold winHi cei; rw [if_neg (by decide), hr]
    have : -(2 * (i * n) + n - n + 4 * n) = (-(i + 2)) * (2 * n) := by rw [Int.neg_mul, Int.add_mul, Int.mul_left_comm]; omega
    rw [this, Int.mul_ediv_cancel _ (by omega)]; omega
  refine ⟨e1, ?_⟩
  unfold rowV
  rw [e1, e2, show (i + 2 - (i - 1)).toNat = 3 by omega]
  show [wV 1 n n i (i - 1 + ((0 : Nat) : Int)), wV 1 n n i (i - 1 + ((1 : Nat) : Int)), wV 1 n n i (i - 1 + ((2 : Nat) : Int))] = _
  have hm : mx n n = n := by unfold mx; split <;> rfl
  obtain ⟨q, hq⟩ : ∃ q, q = 2 * n := ⟨_, rfl⟩
  have hq1 : 0 < q * q * q := Int.mul_pos (Int.mul_pos (by omega) (by omega)) (by omega)
  have k1 : keyV (2 * n) (2 * n) = 0 := by
    rw [← hq]; unfold keyV
    rw [if_pos (by omega), show siz q = q by unfold siz; rw [if_neg (by omega)], if_pos (Int.le_refl _)]
    rw [show -(q * q * q) + 5 * (q * q * q) - 8 * (q * q * q) + 4 * (q * q * q) = 0 by omega]
    rw [show (0 : Int) * 1073741824 = 0 * (2 * (q * q * q)) by omega, rdiv_self (by omega)]; decide
  have k0 : keyV 0 (2 * n) = 1073741824 := by
    rw [← hq]; unfold keyV
    rw [if_pos (by omega), show siz 0 = 0 from rfl, if_neg (by omega)]
    rw [show 3 * ((0 : Int) * 0 * 0) - 5 * (0 * 0 * q) + 2 * (q * q * q) = 2 * (q * q * q) by rw [Int.zero_mul, Int.zero_mul]; omega]
    rw [show 2 * (q * q * q) * 1073741824 = 1073741824 * (2 * (q * q * q)) from Int.mul_comm _ _, rdiv_self (by omega)]; decide
  have f0 : wV 1 n n i (i - 1 + ((0 : Nat) : Int)) = 0 := by
    unfold wV; rw [if_neg (by decide), if_pos rfl, hm]
    have : fracR n n i (i - 1 + ((0 : Nat) : Int)) = -(2 * n) := by
      unfold fracR; rw [show i - 1 + ((0 : Nat) : Int) = i - 1 by omega, Int.mul_sub, Int.mul_one, Int.mul_comm n i]; omega
    rw [this, keyV_neg]; exact k1
  have f1 : wV 1 n n i (i - 1 + ((1 : Nat) : Int)) = 1073741824 := by
    unfold wV; rw [if_neg (by decide), if_pos rfl, hm]
    have : fracR n n i (i - 1 + ((1 : Nat) : Int)) = 0 := by
      unfold fracR; rw [show i - 1 + ((1 : Nat) : Int) = i by omega, Int.mul_comm n i]; omega
    rw [this]; exact k0
  have f2 : wV 1 n n i (i - 1 + ((2 : Nat) : Int)) = 0 := by
    unfold wV; rw [if_neg (by decide), if_pos rfl, hm]
    have : fracR n n i (i - 1 + ((2 : Nat) : Int)) = 2 * n := by
      unfold fracR; rw [show i - 1 + ((2 : Nat) : Int) = i + 1 by omega, Int.mul_add, Int.mul_one, Int.mul_comm n i]; omega
    rw [this]; exact k1
  rw [f0, f1, f2]
theorem box_same {N : Nat} (h : 1 ≤ N) : resCode 0 N N 0 N = 0 ∧ ∀ j : Nat, j < N → rd_T67 (resTab 0 N N N).lines (j : Int) = ⟨(j : Int), [16384]⟩ := by
  have hc : chkV [1073741824] = 0 := by kernel_rfl
  refine ⟨resCode_zero _ _ _ _ _ (fun j _ _ => by rw [(box_row (by omega) _).2]; exact hc), fun j hj => ?_⟩
  rw [resTab_rd _ _ _ _ _ hj, (box_row (by omega) _).1, (box_row (by omega) _).2]
  have : appL [1073741824] = [16384] := by kernel_rfl
  rw [this]
theorem cubic_same {N : Nat} (h : 1 ≤ N) (h2 : N ≤ 65536) : resCode 1 N N 0 N = 0 ∧ ∀ j : Nat, j < N → rd_T67 (resTab 1 N N N).lines (j : Int) = ⟨(j : Int) - 1, [0, 16384, 0]⟩ := by
  have hc : chkV [0, 1073741824, 0] = 0 := by kernel_rfl
  refine ⟨resCode_zero _ _ _ _ _ (fun j _ _ => by rw [(cubic_row (by omega) (by omega) _).2]; exact hc), fun j hj => ?_⟩
  rw [resTab_rd _ _ _ _ _ hj, (cubic_row (by omega) (by omega) _).1, (cubic_row (by omega) (by omega) _).2]
  have : appL [0, 1073741824, 0] = [0, 16384, 0] := by kernel_rfl
  rw [this]
/-- One tap for each sample. -/
def OneTab (t : Tab) (N : Nat) : Prop := t.most = 1 ∧ t.lines.length = N ∧ ∀ j : Nat, j < N → rd_T67 t.lines (j : Int) = ⟨(j : Int), [16384]⟩
theorem resTab_most1 (f n m : Int) (h : ∀ j : Nat, (appL (rowV f n m j)).length = 1) : ∀ i, 1 ≤ i → (resTab f n m i).most = 1
  | 1, _ => by
    show mx 0 ((appL (rowV f n m ((0 : Nat) : Int))).length : Int) = 1
    rw [h 0]; rfl
  | i + 2, _ => by
    show mx (resTab f n m (i + 1)).most ((appL (rowV f n m ((i + 1 : Nat) : Int))).length : Int) = 1
    rw [resTab_most1 f n m h (i + 1) (by omega), h (i + 1)]; rfl
theorem oneTab_box {N : Nat} (h : 1 ≤ N) : OneTab (resTab 0 N N N) N := by
  refine ⟨resTab_most1 _ _ _ (fun j => ?_) N h, resTab_len _ _ _ _, (box_same h).2⟩
  rw [(box_row (by omega) _).2]
  have : appL [1073741824] = [16384] := by kernel_rfl
  rw [this]; rfl
theorem oneTab_fil {N : Nat} (h : 1 ≤ N) : OneTab (filTab N 0 [16384] N) N := by
  refine ⟨filTab_most N 0 [16384] N h, filTab_len _ _ _ _, fun j hj => ?_⟩
  rw [filTab_rd N 0 [16384] N j hj, show (j : Int) - 0 = (j : Int) by omega]
theorem blur0_w (K : Nat) (hK : 1400 ≤ K) (b : Int) : op_weights.f K 1 b 0 0 [] [] 0 0 0 = some ([1073741824], [1073741824], 0) := by
  unfold op_weights.f
  rw [if_neg (by decide), if_pos rfl, blur_eq hK (by decide)]
  have : blurV 0 = ([1073741824], 0) := by kernel_rfl
  rw [this]; rfl
/-- The two operations. -/
theorem opSame_mk (a X Y : Nat) (ha : a < 2) (hX : 1 ≤ X ∧ X ≤ 30) (hY : 1 ≤ Y ∧ Y ≤ 30) : ∃ (k b f ow oh : Int) (tx ty : Tab), (a = 0 → k = 1 ∧ b = 1 ∧ f = 0 ∧ ow = 0 ∧ oh = 0) ∧ (a = 1 → k = 3 ∧ b = 0 ∧ f = 0 ∧ ow = X ∧ oh = Y) ∧ OneTab tx X ∧ OneTab ty Y ∧
    ∀ (w : World), GL w → Calls Tryd.prog 12 #[opV k b 0 0 none 0 0 none 0 0 f ow oh, .int .i64 X, .int .i64 Y] w (StageP tx ty b w) := by
  have hc : a = 0 ∨ a = 1 := by omega
  have f1 : ∀ N : Nat, 1 ≤ N → N ≤ 30 → filCode [1073741824] N = 0 := fun N h1 h2 => by unfold filCode; rw [if_pos ⟨by omega, by omega⟩]; exact one_chk
  rcases hc with rfl | rfl
  · refine ⟨1, 1, 0, 0, 0, filTab X 0 [16384] X, filTab Y 0 [16384] Y, fun _ => ⟨rfl, rfl, rfl, rfl, rfl⟩, fun h => absurd h (by decide), oneTab_fil hX.1, oneTab_fil hY.1, fun w hG => ?_⟩
    refine make_ok 1 1 0 0 none 0 [] none 0 [] 0 0 0 X Y _ _ w hG (C_none w) (by decide) (C_none w) (by decide) (op_may_yes 0 (by decide) (by decide) (by decide)) ⟨by omega, by omega⟩ ⟨by omega, by omega⟩ (fun w' hb => ?_)
    have h := tables_kernel 1400 1 1 0 0 none 0 [] none 0 [] 0 0 0 X Y [1073741824] [1073741824] w' (C_none w') (by decide) (C_none w') (by decide) (by decide) (blur0_w 1400 (Nat.le_refl _) 1) (by intro z hz; simp at hz; subst hz; decide) (by intro z hz; simp at hz; subst hz; decide) (by decide) (by decide) ⟨hX.1, by omega⟩ ⟨hY.1, by omega⟩ (f1 X hX.1 hX.2) (f1 Y hY.1 hY.2)
    rw [one_app] at h
    exact h
  · refine ⟨3, 0, 0, X, Y, resTab 0 X X X, resTab 0 Y Y Y, fun h => absurd h (by decide), fun _ => ⟨rfl, rfl, rfl, rfl, rfl⟩, oneTab_box hX.1, oneTab_box hY.1, fun w hG => ?_⟩
    refine make_ok 3 0 0 0 none 0 [] none 0 [] 0 X Y X Y _ _ w hG (C_none w) (by decide) (C_none w) (by decide) (op_may_yes 0 (by decide) (by decide) (fun _ => ⟨by omega, by omega, by omega, by omega, by decide, by decide⟩)) ⟨by omega, by omega⟩ ⟨by omega, by omega⟩ (fun w' hb => ?_)
    exact tables_resize 0 0 0 none 0 0 none 0 0 0 X Y X Y w' (hG.below hb) ⟨by decide, by decide, by omega, by omega, by omega, by omega⟩ ⟨by decide, by decide, by omega, by omega, by omega, by omega⟩ (box_same hX.1).1 (box_same hY.1).1
theorem blur0_make (X Y : Nat) (b : Int) (hb : 0 ≤ b ∧ b < 3) (hX : 1 ≤ X ∧ X ≤ 65536) (hY : 1 ≤ Y ∧ Y ≤ 65536) (w : World) (hG : GL w) : Calls Tryd.prog 12 #[opV 1 b 0 0 none 0 0 none 0 0 0 0 0, .int .i64 X, .int .i64 Y] w (StageP (filTab X 0 [16384] X) (filTab Y 0 [16384] Y) b w) := by
  have f1 : ∀ N : Nat, 1 ≤ N → N ≤ 65536 → filCode [1073741824] N = 0 := fun N h1 h2 => by unfold filCode; rw [if_pos ⟨by omega, by omega⟩]; exact one_chk
  refine make_ok 1 b 0 0 none 0 [] none 0 [] 0 0 0 X Y _ _ w hG (C_none w) (by decide) (C_none w) (by decide) (op_may_yes 0 (by decide) hb (by decide)) ⟨by omega, by omega⟩ ⟨by omega, by omega⟩ (fun w' hb2 => ?_)
  have h := tables_kernel 1400 1 b 0 0 none 0 [] none 0 [] 0 0 0 X Y [1073741824] [1073741824] w' (C_none w') (by decide) (C_none w') (by decide) (by decide) (blur0_w 1400 (Nat.le_refl _) b) (by intro z hz; simp at hz; subst hz; decide) (by intro z hz; simp at hz; subst hz; decide) (by decide) (by decide) hX hY (f1 X hX.1 hX.2) (f1 Y hY.1 hY.2)
  rw [one_app] at h
  exact h
set_option maxHeartbeats 1000000 in
set_option maxRecDepth 100000 in
theorem planNone_calls (tw th wh : Int) (hw : 0 ≤ wh ∧ wh ≤ 255) (w : World) (hG : GL w) : Calls Tryd.prog 4 #[.int .i64 tw, .int .i64 th, .int .u8 wh] w fun e w' => e = .returned (.bool true) ∧ Below w.heap.size w w' := by
  have lv := lives14_calls w hG
  obtain ⟨X, hX⟩ : ∃ X : Nat, X = 3 := ⟨_, rfl⟩
  have mk := fun w' (hb : Below w.heap.size w w') => blur0_make X X 0 (by decide) (by omega) (by omega) w' (hG.below hb)
  obtain ⟨tt, htt⟩ : ∃ t, t = filTab X 0 [16384] X := ⟨_, rfl⟩
  rw [← htt, show (X : Int) = 3 by omega] at mk
  clear hX htt
  have LV := Aside0.mk lv
  have MK := Aside0.mk mk
  clear lv mk hG
  have mixed : Tryd.prog.follows .mixedOrders = true := by kernel_rfl
  unfold opV at MK
  by_cases hp : wh % 2 = 0
  all_goals (
    first
      | (have hb1 : (wh % 2 == 0) = true := by rw [beq_iff_eq]; exact hp)
      | (have hb1 : (wh % 2 == 0) = false := by rw [beq_eq_false_iff_ne]; exact hp)
    go_enter Tryd.func4, Tryd.ntmps4
    go_upto_region 4 with (first
      | (go_at_call 11; refine LV.out.mono ?_; rintro e w0 ⟨rfl, hb0⟩; have B0 := Aside0.mk hb0; clear hb0)
      | (go_at_call 12; refine (MK.out _ B0.out).mono ?_; rintro e w1 ⟨hb1', bx, bz, rfl, hx, hz⟩; have B1 := Aside0.mk (below_step B0.out hb1'); clear hb1' hx hz))
    have hr := heap_alloc_new w1 (.cells #[.pointer (some ⟨bx, 0, none⟩), .pointer (some ⟨bz, 0, none⟩), .int .i64 0] 32)
    have B2 := Aside0.mk (below_alloc B1.out (.cells #[.pointer (some ⟨bx, 0, none⟩), .pointer (some ⟨bz, 0, none⟩), .int .i64 0] 32))
    have hgl := B1.out.size
    obtain ⟨g, hg⟩ : ∃ g, g = w1.heap.size := ⟨_, rfl⟩
    rw [← hg] at hr hgl ⊢
    clear hg
    have HGL := Aside0.mk hgl
    generalize w1.alloc (.cells #[.pointer (some ⟨bx, 0, none⟩), .pointer (some ⟨bz, 0, none⟩), .int .i64 0] 32) = w2 at hr B2 ⊢
    have z0 : w2.cell? ⟨g, 0, none⟩ = some (.pointer (some ⟨bx, 0, none⟩)) := (blk_cell hr 0).trans rfl
    have z1 : w2.cell? ⟨g, 1, none⟩ = some (.pointer (some ⟨bz, 0, none⟩)) := (blk_cell hr 1).trans rfl
    have z2 : w2.cell? ⟨g, 2, none⟩ = some (.int .i64 0) := (blk_cell hr 2).trans rfl
    have y0 := blk_frozen hr 0
    have y1 := blk_frozen hr 1
    clear hr hgl
    go_wp2_with (first
      | (go_at_call 13; (with_reducible refine (new_none none (some ⟨bz, 0, none⟩) 0 tw th _ (.inl rfl)).mono ?_); rintro e w4 ⟨hb4, rfl⟩; have B4 := Aside0.mk (below_step (B2.out.setCell (p := ⟨g, 0, none⟩) HGL.out (.pointer none)) hb4); clear hb4)
      | (go_at_call 13; (with_reducible refine (new_none (some ⟨bx, 0, none⟩) none 0 tw th _ (.inr rfl)).mono ?_); rintro e w4 ⟨hb4, rfl⟩; have B4 := Aside0.mk (below_step (B2.out.setCell (p := ⟨g, 1, none⟩) HGL.out (.pointer none)) hb4); clear hb4))
    go_ret
    exact ⟨rfl, B4.out⟩)
end Go.Proofs.YtkdmebekabmkkaaDoor.QA

namespace Go.Proofs.YtkdmebekabmkkaaDoor.T
open Go.ChangeShapes Go.WideShapes Go.ChangeAt Go.RowKit
theorem gKinds : Tryd.prog.globalNamed "smalto/raw.kinds" = some 1 := by kernel_rfl
theorem tKinds : (Tryd.prog.globals[1]?).map (·.type) = some 90 := by kernel_rfl
theorem cell_of {cs : List Value} {a b i : Nat} {v : Value} {ws : List Value} (hi : i < b) (h : ((cs.drop a).take b) = ws) (hv : ws[i]? = some v) : cs[a + i]? = some v := by
  rw [← h] at hv
  rw [List.getElem?_take, if_pos hi, List.getElem?_drop] at hv
  exact hv
theorem str_eq {s : ByteArray} {l : List UInt8} (h : s.data.toList = l) : s = ⟨l.toArray⟩ := by
  cases s with | mk d => simp only at h; rw [← h]
theorem kind_cells {W : World} {m : Nat} {cs : List Value} {s : List UInt8} {n : Int} {x : DataW Unit × List MemPlace}
    (h : DataW.trod (fun _ => ()) Tryd.prog W 0 (fun _ => true) false m 89 cs = some x) (hx : x.1 = .agg [.lit (.string s), .lit (.int .i64 n)]) :
    cs[0]? = some (.string ⟨s.toArray⟩) ∧ cs[1]? = some (.int .i64 n) := by
  obtain ⟨y0, y1, k, rfl, hl, h0, h1⟩ := trod_struct2 Tryd.underlying89 h
  simp only [DataW.agg.injEq, List.cons.injEq, and_true] at hx
  obtain ⟨z, e0, e1, _⟩ := DataW.trod_string Tryd.underlying9 h0
  obtain ⟨q, f0, f1, _⟩ := DataW.trod_int Tryd.underlying2 h1
  rw [e1, f1] at hx
  simp only [DataW.lit.injEq, Lit.string.injEq, Lit.int.injEq, true_and] at hx
  obtain ⟨hs, rfl⟩ := hx
  rw [str_eq hs] at e0
  constructor
  · simpa using cell_of (i := 0) (of_decide_eq_true (by kernel_rfl)) e0 rfl
  · simpa using cell_of (i := 0) (of_decide_eq_true (by kernel_rfl)) f0 rfl
set_option maxRecDepth 100000 in
theorem kinds_cells {W : World} {fuel : Nat} {cs : Array Value} {x : DataW Unit × List MemPlace} (hv : W.var? Tryd.prog "smalto/raw.kinds" = some cs)
    (h : DataW.trod (fun _ => ()) Tryd.prog W 0 (fun _ => true) false fuel 90 cs.toList = some x) (hx : x.1 = Rows.laid_smalto_raw_kinds) : W.cell? ⟨1, 0, none⟩ = some (.string (⟨#[98, 111, 120]⟩ : ByteArray)) ∧ W.cell? ⟨1, 1, none⟩ = some (.int .i64 0) ∧ W.cell? ⟨1, 2, none⟩ = some (.string (⟨#[99, 117, 98, 105, 99]⟩ : ByteArray)) ∧ W.cell? ⟨1, 3, none⟩ = some (.int .i64 2) ∧ W.cell? ⟨1, 4, none⟩ = some (.string (⟨#[108, 97, 110, 99, 122, 111, 115]⟩ : ByteArray)) ∧ W.cell? ⟨1, 5, none⟩ = some (.int .i64 3) := by
  obtain ⟨xs, m, _, rfl, hl, hlen, hel⟩ := DataW.trod_array Tryd.underlying90 h
  have c2 : Tryd.prog.cellsOf 89 = 2 := by kernel_rfl
  match xs, hlen with
  | [x0, x1, x2], _ =>
    have hx' := hx
    simp only [Rows.laid_smalto_raw_kinds, List.map_cons, List.map_nil, DataW.agg.injEq, List.cons.injEq, and_true] at hx'
    obtain ⟨k0, k1, k2⟩ := hx'
    have g0 := kind_cells (hel 0 (by decide)) k0
    have g1 := kind_cells (hel 1 (by decide)) k1
    have g2 := kind_cells (hel 2 (by decide)) k2
    rw [c2] at g0 g1 g2
    simp only [List.getElem?_take, List.getElem?_drop] at g0 g1 g2
    simp at g0 g1 g2
    simp only [World.var?_cell gKinds hv]
    exact ⟨g0.1, g0.2, g1.1, g1.2, g2.1, g2.2⟩
theorem gNames : Tryd.prog.globalNamed "smalto/border.names" = some 0 := by kernel_rfl
theorem tNames : (Tryd.prog.globals[0]?).map (·.type) = some 87 := by kernel_rfl
theorem str_cell {W : World} {v : Value} {n : Nat} {q : List MemPlace} {s : List UInt8} (h : DataW.trod (fun _ => ()) Tryd.prog W 0 (fun _ => true) false n 9 [v] = some (.lit (.string s), q)) : v = .string ⟨s.toArray⟩ := by
  obtain ⟨z, e0, e1, _⟩ := DataW.trod_string Tryd.underlying9 h
  simp only [Prod.mk.injEq, DataW.lit.injEq, Lit.string.injEq] at e1
  rw [str_eq e1.1.symm] at e0
  simpa using e0
theorem names_cells {W : World} {fuel : Nat} {cs : Array Value} {x : DataW Unit × List MemPlace} (hv : W.var? Tryd.prog "smalto/border.names" = some cs)
    (h : DataW.trod (fun _ => ()) Tryd.prog W 0 (fun _ => true) false fuel 87 cs.toList = some x) (hx : x.1 = Rows.laid_smalto_border_names) :
    ∃ (a : Addr) (c : Nat), 3 ≤ c ∧ W.cell? ⟨0, 0, none⟩ = some (.slice (some a) 3 c) ∧ W.cell? a = some (.string (⟨#[99, 108, 97, 109, 112]⟩ : ByteArray)) ∧ W.cell? ⟨a.block, a.off + 1, none⟩ = some (.string (⟨#[109, 105, 114, 114, 111, 114]⟩ : ByteArray)) ∧ W.cell? ⟨a.block, a.off + 2, none⟩ = some (.string (⟨#[119, 114, 97, 112]⟩ : ByteArray)) := by
  obtain ⟨d, p⟩ := x
  simp only at hx
  subst hx
  obtain ⟨a, cap, e, hl, hc⟩ := open_row Tryd.underlying87 (show Tryd.prog.cellsOf 9 = 1 by kernel_rfl) h
  obtain ⟨v0, n0, q0, c0, t0⟩ := hc 0 _ rfl
  obtain ⟨v1, n1, q1, c1, t1⟩ := hc 1 _ rfl
  obtain ⟨v2, n2, q2, c2, t2⟩ := hc 2 _ rfl
  rw [str_cell t0] at c0
  rw [str_cell t1] at c1
  rw [str_cell t2] at c2
  have e0 : a.add 0 = a := by cases a; rfl
  rw [e0] at c0
  have ec : cs[0]? = some (.slice (some a) 3 cap) := by
    have := congrArg (fun l => l[0]?) e
    simpa using this
  exact ⟨a, cap, hl, by rw [World.var?_cell gNames hv]; exact ec, c0, c1, c2⟩
theorem gl_of_laid {W : World} (h : laidMetH Tryd.prog [("smalto/border.names", Rows.laid_smalto_border_names), ("smalto/raw.kinds", Rows.laid_smalto_raw_kinds)] W) : GL W := by
  rw [MakeChecks.laidMetH_plain _ _ _ (by kernel_rfl)] at h
  obtain ⟨ps, ⟨g, t, cs, fuel, p, q, hg, ht, hv, hd, ⟨g2, t2, cs2, fuel2, p2, q2, hg2, ht2, hv2, hd2, _, _⟩, _⟩, _, _⟩ := h
  obtain rfl := Option.some.inj (gNames.symm.trans hg)
  obtain rfl := Option.some.inj (tNames.symm.trans ht)
  obtain rfl := Option.some.inj (gKinds.symm.trans hg2)
  obtain rfl := Option.some.inj (tKinds.symm.trans ht2)
  exact ⟨kinds_cells hv2 hd2 rfl, names_cells hv hd rfl⟩
theorem laid_witness (os : Os) (args : Array Value) : laidMetH Tryd.prog [("smalto/border.names", Rows.laid_smalto_border_names), ("smalto/raw.kinds", Rows.laid_smalto_raw_kinds)] ((World.laidAll Tryd.prog os [("smalto/border.names", Rows.laid_smalto_border_names), ("smalto/raw.kinds", Rows.laid_smalto_raw_kinds)]).forCall (fun _ _ => 0) ⟨#[], args, []⟩).memory := by
  rw [MakeChecks.laidMetH_plain _ _ _ (by kernel_rfl)]
  exact laidMet_laidAll _ (by kernel_rfl) (by kernel_rfl)
end Go.Proofs.YtkdmebekabmkkaaDoor.T
