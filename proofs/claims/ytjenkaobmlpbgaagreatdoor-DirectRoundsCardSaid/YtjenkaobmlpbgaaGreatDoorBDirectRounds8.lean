/- Joined by wip/tools/bundle.py out of: QAx23 QAx24 QAx13. -/
import Derived.Test.YtjenkaobmlpbgaaGreatDoorBDirectRounds1
import Derived.Test.YtjenkaobmlpbgaaGreatDoorBDirectRounds7
import Derived.Test.YtjenkaobmlpbgaaGreatDoorBDirectRounds5
namespace Go.Proofs.YtjenkaobmlpbgaaGreatDoor.QA
open Go.Proofs.YtjenkaobmlpbgaaGreatDoor.T
open Go.RowKit Go.Proofs.YtjenkaobmlpbgaaGreatDoorW.PrintWords Go.Proofs.YtjenkaobmlpbgaaGreatDoorW.PrintLast Go.Proofs.YtjenkaobmlpbgaaGreatDoorW.PrintMore
attribute [local go_sem] ext_call max2_int min2_int max_two min_two max_three min_three max_four min_four   -- for this text's walks alone
set_option linter.unusedVariables false
set_option linter.unusedSimpArgs false
mutual
def smaltoref01_Shift.l0 : Nat → Int → Int → Int → Int → Int → Int → Option (Int)
 | 0, _, _, _, _, _, _ => none
 | k + 1, x0, x1, x20, x21, x293000, x293001 => if x21 < x20 then ((smaltoref01_Twice.f x293000 x293001 0).bind fun bt293 => (smaltoref01_Shift.l0 k x0 x1 x20 (wrap64 (x21 + 1)) bt293.1 bt293.2)) else ((smaltoref01_Size.f x0).bind fun t295 => (smaltoref01_Shift.l1 k x0 x1 127 x293000 x293001 0 t295 0 0))
def smaltoref01_Shift.l1 : Nat → Int → Int → Int → Int → Int → Int → Int → Int → Int → Option (Int)
 | 0, _, _, _, _, _, _, _, _, _ => none
 | k + 1, x0, x1, x8, x293000, x293001, x297000, x297001, x298000, x298001 => if x8 ≥ x1 then ((smaltoref01_Bit.f x297000 x297001 x8).bind fun t298 => ((smaltoref01_Twice.f x298000 x298001 t298).bind fun bt299 => (smaltoref01_Shift.l1 k x0 x1 (wrap64 (x8 - 1)) x293000 x293001 x297000 x297001 bt299.1 bt299.2))) else (smaltoref01_Shift.l2 k x0 x1 x293000 x293001 x297000 x297001 x298000 x298001 x297000 x297001)
def smaltoref01_Shift.l2 : Nat → Int → Int → Int → Int → Int → Int → Int → Int → Int → Int → Option (Int)
 | 0, _, _, _, _, _, _, _, _, _, _ => none
 | k + 1, x0, x10, x293000, x293001, x297000, x297001, x298000, x298001, x302000, x302001 => if x10 < 128 then ((smaltoref01_Bit.f x297000 x297001 x10).bind fun t302 => (if t302 = 1 then (smaltoref01_Shift.l3 k x0 x10 x10 0 x293000 x293001 x297000 x297001 x298000 x298001 x302000 x302001 0 1) else (smaltoref01_Shift.l2 k x0 (wrap64 (x10 + 1)) x293000 x293001 x297000 x297001 x298000 x298001 x302000 x302001))) else ((smaltoref01_Less.f x302000 x302001 x293000 x293001).bind fun t308 => (if x0 < 0 then ((smaltoref01_Less.f x293000 x293001 x302000 x302001).bind fun t309 => (smaltoref01_Shift.j4 k x0 t309 x298000 x298001)) else (smaltoref01_Shift.j4 k x0 (!t308) x298000 x298001)))
def smaltoref01_Shift.l3 : Nat → Int → Int → Int → Int → Int → Int → Int → Int → Int → Int → Int → Int → Int → Int → Option (Int)
 | 0, _, _, _, _, _, _, _, _, _, _, _, _, _, _ => none
 | k + 1, x0, x10, x51, x52, x293000, x293001, x297000, x297001, x298000, x298001, x302000, x302001, x304000, x304001 => if x52 < x51 then ((smaltoref01_Twice.f x304000 x304001 0).bind fun bt304 => (smaltoref01_Shift.l3 k x0 x10 x51 (wrap64 (x52 + 1)) x293000 x293001 x297000 x297001 x298000 x298001 x302000 x302001 bt304.1 bt304.2)) else ((smaltoref01_Minus.f x302000 x302001 x304000 x304001).bind fun bt306 => (smaltoref01_Shift.l2 k x0 (wrap64 (x10 + 1)) x293000 x293001 x297000 x297001 x298000 x298001 bt306.1 bt306.2))
def smaltoref01_Shift.j4 : Nat → Int → Bool → Int → Int → Option (Int)
 | 0, _, _, _, _ => none
 | k + 1, x0, x12, x298000, x298001 => if x12 = true then ((smaltoref01_Plus.f x298000 x298001 0 1).bind fun bt310 => ((smaltoref01_Hold.f k bt310.1 bt310.2 (decide (x0 < 0))).bind fun t312 => (some t312))) else ((smaltoref01_Hold.f k x298000 x298001 (decide (x0 < 0))).bind fun t313 => (some t313))
end
def smaltoref01_Shift.f (k : Nat) (a0 : Int) (a1 : Int) : Option (Int) := if a1 < 1 then (some a0) else (if a1 > 64 then (some 0) else (smaltoref01_Shift.l0 k a0 a1 (wrap64 (a1 - 1)) 0 0 1))
set_option maxHeartbeats 8000000 in
set_option maxRecDepth 100000 in
theorem smaltoref01_Shift.calls (k : Nat) (a0 : Int) (a1 : Int) (r : Int) (w : World) (h : smaltoref01_Shift.f k a0 a1 = some r) :
  Calls Tryz.prog 15 #[.int .i64 a0, .int .i64 a1] w fun e w' => e = .returned (.int .i64 r) ∧ Below w.heap.size w w' := by
 have hu62 := Tryz.underlying62
 have HB := Aside0.mk (Below.refl w.heap.size w)
 have H : (if a1 < 1 then (some a0) else (if a1 > 64 then (some 0) else (smaltoref01_Shift.l0 k a0 a1 (wrap64 (a1 - 1)) 0 0 1))) = some r := h
 clear h
 by_cases c3 : a1 < 1
 ·rw [if_pos c3] at H
  have c3b0 : decide (a1 < 1) = true := decide_eq_true c3
  clear c3
  obtain rfl := Option.some.inj H
  go_enter Tryz.func15, Tryz.ntmps15
  go_wp2
  go_ret
  exact ⟨by first | rfl | (simp [errW_none, errW_some] <;> rfl) | (simp [*, errW_none, errW_some] <;> rfl), by repeat (first | (with_reducible first | exact HB.out | apply below_alloc | apply pw_below_drewN | apply below_drew1) | exact HB.out)⟩
 ·rw [if_neg c3] at H
  have c3b0 : decide (a1 < 1) = false := decide_eq_false c3
  clear c3
  by_cases c4 : a1 > 64
  ·rw [if_pos c4] at H
   have c4b0 : decide (64 < a1) = true := decide_eq_true c4
   clear c4
   obtain rfl := Option.some.inj H
   go_enter Tryz.func15, Tryz.ntmps15
   go_wp2
   go_ret
   exact ⟨by first | rfl | (simp [errW_none, errW_some] <;> rfl) | (simp [*, errW_none, errW_some] <;> rfl), by repeat (first | (with_reducible first | exact HB.out | apply below_alloc | apply pw_below_drewN | apply below_drew1) | exact HB.out)⟩
  ·rw [if_neg c4] at H
   have c4b0 : decide (64 < a1) = false := decide_eq_false c4
   clear c4
   have H' := Aside0.mk H
   clear H
   go_enter Tryz.func15, Tryz.ntmps15
   go_wp2_with (first | ((with_reducible refine gate_dst (N := 5) rfl ?_); refine box_event ?hg (N := 5) ?hd (cs := #[.int .u64 0, .int .u64 0]) (t := 62) ?hr ?_; (case hd => rfl); (case hg => rfl); (case hr => first | (go_simp; done) | (go_simp; rfl)); intro gb292 hg w5 hbox hb; have n0_ := Aside0.mk (below_step (by repeat (first | (with_reducible first | exact HB.out | apply below_alloc | apply pw_below_drewN | apply below_drew1) | exact HB.out)) hb); have n1_ := Aside0.mk (hbox); have n2_ := Aside0.mk ((by rw [hg]; exact (below_size (by repeat (first | (with_reducible first | exact HB.out | apply below_alloc | apply pw_below_drewN | apply below_drew1) | exact HB.out))) : w.heap.size ≤ gb292)); have n3_ := Aside0.mk ((by rw [hg]; exact (below_size (by repeat (first | (with_reducible first | exact HB.out | apply below_alloc | apply pw_below_drewN | apply below_drew1) | exact HB.out))) : w.heap.size ≤ gb292)); clear HB; have HB := n0_; have BK292 := n1_; have GW292 := n2_; have GE292 := n3_; clear n0_ n1_ n2_ n3_; clear hb hbox hg; have hcz6_0 : w5.cell? ⟨gb292, 0, none⟩ = some (.int .u64 0) := (blk_cell BK292.out 0).trans rfl; have hcz6_1 : w5.cell? ⟨gb292, 1, none⟩ = some (.int .u64 0) := (blk_cell BK292.out 1).trans rfl; have hfz6_0 := blk_frozen BK292.out 0; have hfz6_1 := blk_frozen BK292.out 1))
   go_loopg [21] k (fun kq v21 w' => ∃ (x21_1 : Int) (x293000_1 : Int) (x293001_1 : Int), v21 = .int .i64 x21_1 ∧ Aside0 (smaltoref01_Shift.l0 kq a0 a1 (wrap64 (a1 - 1)) x21_1 x293000_1 x293001_1 = some r) ∧ Aside0 (kq ≤ k) ∧ Aside0 (w'.heap[gb292]? = some (.cells #[.int .u64 x293000_1, .int .u64 x293001_1] 62 (0, 0))) ∧ Aside0 (Below w.heap.size w w'))
   case atStart => exact ⟨(0), (0), (1), (by first | rfl | (simp; done) | (simp [*]; done)), H', ⟨Nat.le_refl _⟩, ⟨by (with_reducible repeat (first | refine blk_drewN ?_ _ | refine blk_drew ?_ | refine blk_alloc ?_ _)); refine blk_put (cs := #[.int .u64 0, .int .u64 0]) ?_ 1 _ rfl; (with_reducible repeat (first | refine blk_drewN ?_ _ | refine blk_drew ?_ | refine blk_alloc ?_ _)); refine blk_put (cs := #[.int .u64 0, .int .u64 0]) ?_ 0 _ rfl; (with_reducible repeat (first | refine blk_drewN ?_ _ | refine blk_drew ?_ | refine blk_alloc ?_ _)); exact BK292.out⟩, ⟨by repeat (first | (with_reducible first | exact HB.out | apply below_alloc | apply pw_below_drewN | apply below_drew1 | refine below_set ?_ GE292.out) | exact HB.out)⟩⟩
   case round =>
    clear H'
    try clear c1
    try clear p2
    try clear c3
    try clear c3b0
    try clear c4
    try clear c4b0
    try clear p6
    try clear hcz6_0
    try clear hcz6_1
    try clear hfz6_0
    try clear hfz6_1
    obtain ⟨x21_1, x293000_1, x293001_1, rfl, HA, HK1, BK292, HB⟩ := hrel
    cases gk with
    | zero => exact absurd HA.out (by simp [smaltoref01_Shift.l0])
    | succ k1 =>
     have H := HA.out
     clear HA
     simp only [smaltoref01_Shift.l0] at H
     by_cases c7 : x21_1 < (wrap64 (a1 - 1))
     ·rw [if_pos c7] at H
      have c7b0 : decide (x21_1 < (wrap64 (a1 - 1))) = true := decide_eq_true c7
      clear c7
      replace H := Option.bind_eq_some_iff.mp H
      obtain ⟨⟨t293, t294⟩, A80, H⟩ := H
      replace H : (smaltoref01_Shift.l0 k1 a0 a1 (wrap64 (a1 - 1)) (wrap64 (x21_1 + 1)) t293 t294) = some r := H
      have A8 := Aside0.mk A80
      clear A80
      have H' := Aside0.mk H
      clear H
      have hcz9_0 : wr.cell? ⟨gb292, 0, none⟩ = some (.int .u64 x293000_1) := (blk_cell BK292.out 0).trans rfl
      have hcz9_1 : wr.cell? ⟨gb292, 1, none⟩ = some (.int .u64 x293001_1) := (blk_cell BK292.out 1).trans rfl
      have hfz9_0 := blk_frozen BK292.out 0
      have hfz9_1 := blk_frozen BK292.out 1
      go_wp2_with (first | ((with_reducible refine gate_callee (f := 33) rfl ?_); refine goesL_ (some 24) rfl rfl Tryz.func33 (by kernel_rfl) rfl #[.agg #[.int .u64 x293000_1, .int .u64 x293001_1], .int .u64 0] rfl (by (try simp only [List.map_toArray, List.map_cons, List.map_nil]); first | done | rfl | (simp only [List.length_drop, List.length_take]; rfl)) ?_; (with_reducible refine (smaltoref01_Twice.calls x293000_1 x293001_1 0 t293 t294 _ A8.out).mono ?_); rintro e w10 ⟨rfl, hb⟩; refine ⟨_, rfl, ?_⟩; have n0_ := Aside0.mk (blk_below (g := gb292) (o := .cells #[.int .u64 x293000_1, .int .u64 x293001_1] 62 (0, 0)) (by (with_reducible repeat (first | refine blk_drewN ?_ _ | refine blk_drew ?_ | refine blk_alloc ?_ _)); exact BK292.out) hb); have n1_ := Aside0.mk (below_step (by repeat (first | (with_reducible first | exact HB.out | apply below_alloc | apply pw_below_drewN | apply below_drew1 | refine below_set ?_ GE292.out) | exact HB.out)) hb); clear BK292; clear HB; have BK292 := n0_; have HB := n1_; clear n0_ n1_; (try clear hb); (try clear hb2); (try clear hk); (try clear hi); have hcz11_0 : w10.cell? ⟨gb292, 0, none⟩ = some (.int .u64 x293000_1) := (blk_cell BK292.out 0).trans rfl; have hcz11_1 : w10.cell? ⟨gb292, 1, none⟩ = some (.int .u64 x293001_1) := (blk_cell BK292.out 1).trans rfl; have hfz11_0 := blk_frozen BK292.out 0; have hfz11_1 := blk_frozen BK292.out 1))
      go_roundg k1
      case measure => have := HK1.out; omega
      case rel => exact ⟨(wrap64 (x21_1 + 1)), (t293), (t294), (by first | rfl | (simp; done) | (simp [*]; done)), H', ⟨by have := HK1.out; omega⟩, ⟨by (with_reducible repeat (first | refine blk_drewN ?_ _ | refine blk_drew ?_ | refine blk_alloc ?_ _)); refine blk_put (cs := #[.int .u64 t293, .int .u64 x293001_1]) ?_ 1 _ rfl; (with_reducible repeat (first | refine blk_drewN ?_ _ | refine blk_drew ?_ | refine blk_alloc ?_ _)); refine blk_put (cs := #[.int .u64 x293000_1, .int .u64 x293001_1]) ?_ 0 _ rfl; (with_reducible repeat (first | refine blk_drewN ?_ _ | refine blk_drew ?_ | refine blk_alloc ?_ _)); exact BK292.out⟩, ⟨by repeat (first | (with_reducible first | exact HB.out | apply below_alloc | apply pw_below_drewN | apply below_drew1 | refine below_set ?_ GE292.out) | exact HB.out)⟩⟩
     ·rw [if_neg c7] at H
      have c7b0 : decide (x21_1 < (wrap64 (a1 - 1))) = false := decide_eq_false c7
      clear c7
      replace H := Option.bind_eq_some_iff.mp H
      obtain ⟨t295, A120, H⟩ := H
      replace H : (smaltoref01_Shift.l1 k1 a0 a1 127 x293000_1 x293001_1 0 t295 0 0) = some r := H
      have A12 := Aside0.mk A120
      clear A120
      have H' := Aside0.mk H
      clear H
      go_wp2_with (first | ((with_reducible refine gate_callee (f := 34) rfl ?_); refine goesL_ (some 27) rfl rfl Tryz.func34 (by kernel_rfl) rfl #[.int .i64 a0] rfl (by (try simp only [List.map_toArray, List.map_cons, List.map_nil]); first | done | rfl | (simp only [List.length_drop, List.length_take]; rfl)) ?_; (with_reducible refine (smaltoref01_Size.calls a0 t295 _ A12.out).mono ?_); rintro e w' ⟨rfl, ⟨nd, rfl⟩⟩; refine ⟨_, rfl, ?_⟩; (try (rw [drewN_self wr]; generalize hq_ : World.drewN wr _ = wr; have n0_ : Aside0 (wr.heap[gb292]? = some (.cells #[.int .u64 x293000_1, .int .u64 x293001_1] 62 (0, 0))) := ⟨by rw [← hq_]; exact (by (with_reducible repeat (first | refine blk_drewN ?_ _ | refine blk_drew ?_ | refine blk_alloc ?_ _)); exact BK292.out)⟩; have n1_ : Aside0 (Below w.heap.size w wr) := ⟨by rw [← hq_]; exact (by repeat (first | (with_reducible first | exact HB.out | apply below_alloc | apply pw_below_drewN | apply below_drew1 | refine below_set ?_ GE292.out) | exact HB.out))⟩; clear BK292 HB hq_; have BK292 := n0_; have HB := n1_; clear n0_ n1_))) | ((with_reducible refine gate_dst (N := 6) rfl ?_); refine box_event ?hg (N := 6) ?hd (cs := #[.int .u64 0, .int .u64 0]) (t := 62) ?hr ?_; (case hd => rfl); (case hg => rfl); (case hr => first | (go_simp; done) | (go_simp; rfl)); intro gb296 hg w13 hbox hb; have n0_ := Aside0.mk (blk_below (g := gb292) (o := .cells #[.int .u64 x293000_1, .int .u64 x293001_1] 62 (0, 0)) (by (with_reducible repeat (first | refine blk_drewN ?_ _ | refine blk_drew ?_ | refine blk_alloc ?_ _)); exact BK292.out) hb); have n1_ := Aside0.mk (below_step (by repeat (first | (with_reducible first | exact HB.out | apply below_alloc | apply pw_below_drewN | apply below_drew1 | refine below_set ?_ GE292.out) | exact HB.out)) hb); have n2_ := Aside0.mk (hbox); have n3_ := Aside0.mk ((by rw [hg]; exact (below_size (by repeat (first | (with_reducible first | exact HB.out | apply below_alloc | apply pw_below_drewN | apply below_drew1 | refine below_set ?_ GE292.out) | exact HB.out))) : w.heap.size ≤ gb296)); have n4_ := Aside0.mk ((by rw [hg]; exact (below_size (by repeat (first | (with_reducible first | exact HB.out | apply below_alloc | apply pw_below_drewN | apply below_drew1 | refine below_set ?_ GE292.out) | exact HB.out))) : w.heap.size ≤ gb296)); have n5_ := Aside0.mk ((by rw [hg]; exact Nat.ne_of_lt (blk_lt (g := gb292) (o := .cells #[.int .u64 x293000_1, .int .u64 x293001_1] 62 (0, 0)) (by (with_reducible repeat (first | refine blk_drewN ?_ _ | refine blk_drew ?_ | refine blk_alloc ?_ _)); exact BK292.out)) : gb292 ≠ gb296)); have n6_ := Aside0.mk ((by rw [hg]; exact Nat.ne_of_gt (blk_lt (g := gb292) (o := .cells #[.int .u64 x293000_1, .int .u64 x293001_1] 62 (0, 0)) (by (with_reducible repeat (first | refine blk_drewN ?_ _ | refine blk_drew ?_ | refine blk_alloc ?_ _)); exact BK292.out)) : gb296 ≠ gb292)); clear BK292; clear HB; have BK292 := n0_; have HB := n1_; have BK296 := n2_; have GW296 := n3_; have GE296 := n4_; have NB292_296 := n5_; have NB296_292 := n6_; clear n0_ n1_ n2_ n3_ n4_ n5_ n6_; clear hb hbox hg; have hnb14 := NB296_292.out; have hnc14 := NB292_296.out; have hcz15_0 : w13.cell? ⟨gb296, 0, none⟩ = some (.int .u64 0) := (blk_cell BK296.out 0).trans rfl; have hcz15_1 : w13.cell? ⟨gb296, 1, none⟩ = some (.int .u64 0) := (blk_cell BK296.out 1).trans rfl; have hfz15_0 := blk_frozen BK296.out 0; have hfz15_1 := blk_frozen BK296.out 1) | ((with_reducible refine gate_dst (N := 7) rfl ?_); refine box_event ?hg (N := 7) ?hd (cs := #[.int .u64 0, .int .u64 0]) (t := 62) ?hr ?_; (case hd => rfl); (case hg => rfl); (case hr => first | (go_simp; done) | (go_simp; rfl)); intro gb297 hg w16 hbox hb; have n0_ := Aside0.mk (blk_below (g := gb292) (o := .cells #[.int .u64 x293000_1, .int .u64 x293001_1] 62 (0, 0)) (by (with_reducible repeat (first | refine blk_drewN ?_ _ | refine blk_drew ?_ | refine blk_alloc ?_ _)); refine blk_far ?_ NB292_296.out _; (with_reducible repeat (first | refine blk_drewN ?_ _ | refine blk_drew ?_ | refine blk_alloc ?_ _)); refine blk_far ?_ NB292_296.out _; (with_reducible repeat (first | refine blk_drewN ?_ _ | refine blk_drew ?_ | refine blk_alloc ?_ _)); exact BK292.out) hb); have n1_ := Aside0.mk (blk_below (g := gb296) (o := .cells #[.int .u64 0, .int .u64 t295] 62 (0, 0)) (by (with_reducible repeat (first | refine blk_drewN ?_ _ | refine blk_drew ?_ | refine blk_alloc ?_ _)); refine blk_put (cs := #[.int .u64 0, .int .u64 0]) ?_ 1 _ rfl; (with_reducible repeat (first | refine blk_drewN ?_ _ | refine blk_drew ?_ | refine blk_alloc ?_ _)); refine blk_put (cs := #[.int .u64 0, .int .u64 0]) ?_ 0 _ rfl; (with_reducible repeat (first | refine blk_drewN ?_ _ | refine blk_drew ?_ | refine blk_alloc ?_ _)); exact BK296.out) hb); have n2_ := Aside0.mk (below_step (by repeat (first | (with_reducible first | exact HB.out | apply below_alloc | apply pw_below_drewN | apply below_drew1 | refine below_set ?_ GE292.out | refine below_set ?_ GE296.out) | exact HB.out)) hb); have n3_ := Aside0.mk (hbox); have n4_ := Aside0.mk ((by rw [hg]; exact (below_size (by repeat (first | (with_reducible first | exact HB.out | apply below_alloc | apply pw_below_drewN | apply below_drew1 | refine below_set ?_ GE292.out | refine below_set ?_ GE296.out) | exact HB.out))) : w.heap.size ≤ gb297)); have n5_ := Aside0.mk ((by rw [hg]; exact (below_size (by repeat (first | (with_reducible first | exact HB.out | apply below_alloc | apply pw_below_drewN | apply below_drew1 | refine below_set ?_ GE292.out | refine below_set ?_ GE296.out) | exact HB.out))) : w.heap.size ≤ gb297)); have n6_ := Aside0.mk ((by rw [hg]; exact Nat.ne_of_lt (blk_lt (g := gb292) (o := .cells #[.int .u64 x293000_1, .int .u64 x293001_1] 62 (0, 0)) (by (with_reducible repeat (first | refine blk_drewN ?_ _ | refine blk_drew ?_ | refine blk_alloc ?_ _)); refine blk_far ?_ NB292_296.out _; (with_reducible repeat (first | refine blk_drewN ?_ _ | refine blk_drew ?_ | refine blk_alloc ?_ _)); refine blk_far ?_ NB292_296.out _; (with_reducible repeat (first | refine blk_drewN ?_ _ | refine blk_drew ?_ | refine blk_alloc ?_ _)); exact BK292.out)) : gb292 ≠ gb297)); have n7_ := Aside0.mk ((by rw [hg]; exact Nat.ne_of_gt (blk_lt (g := gb292) (o := .cells #[.int .u64 x293000_1, .int .u64 x293001_1] 62 (0, 0)) (by (with_reducible repeat (first | refine blk_drewN ?_ _ | refine blk_drew ?_ | refine blk_alloc ?_ _)); refine blk_far ?_ NB292_296.out _; (with_reducible repeat (first | refine blk_drewN ?_ _ | refine blk_drew ?_ | refine blk_alloc ?_ _)); refine blk_far ?_ NB292_296.out _; (with_reducible repeat (first | refine blk_drewN ?_ _ | refine blk_drew ?_ | refine blk_alloc ?_ _)); exact BK292.out)) : gb297 ≠ gb292)); have n8_ := Aside0.mk ((by rw [hg]; exact Nat.ne_of_lt (blk_lt (g := gb296) (o := .cells #[.int .u64 0, .int .u64 t295] 62 (0, 0)) (by (with_reducible repeat (first | refine blk_drewN ?_ _ | refine blk_drew ?_ | refine blk_alloc ?_ _)); refine blk_put (cs := #[.int .u64 0, .int .u64 0]) ?_ 1 _ rfl; (with_reducible repeat (first | refine blk_drewN ?_ _ | refine blk_drew ?_ | refine blk_alloc ?_ _)); refine blk_put (cs := #[.int .u64 0, .int .u64 0]) ?_ 0 _ rfl; (with_reducible repeat (first | refine blk_drewN ?_ _ | refine blk_drew ?_ | refine blk_alloc ?_ _)); exact BK296.out)) : gb296 ≠ gb297)); have n9_ := Aside0.mk ((by rw [hg]; exact Nat.ne_of_gt (blk_lt (g := gb296) (o := .cells #[.int .u64 0, .int .u64 t295] 62 (0, 0)) (by (with_reducible repeat (first | refine blk_drewN ?_ _ | refine blk_drew ?_ | refine blk_alloc ?_ _)); refine blk_put (cs := #[.int .u64 0, .int .u64 0]) ?_ 1 _ rfl; (with_reducible repeat (first | refine blk_drewN ?_ _ | refine blk_drew ?_ | refine blk_alloc ?_ _)); refine blk_put (cs := #[.int .u64 0, .int .u64 0]) ?_ 0 _ rfl; (with_reducible repeat (first | refine blk_drewN ?_ _ | refine blk_drew ?_ | refine blk_alloc ?_ _)); exact BK296.out)) : gb297 ≠ gb296)); clear BK292; clear BK296; clear HB; have BK292 := n0_; have BK296 := n1_; have HB := n2_; have BK297 := n3_; have GW297 := n4_; have GE297 := n5_; have NB292_297 := n6_; have NB297_292 := n7_; have NB296_297 := n8_; have NB297_296 := n9_; clear n0_ n1_ n2_ n3_ n4_ n5_ n6_ n7_ n8_ n9_; clear hb hbox hg; have hnb17 := NB297_292.out; have hnc17 := NB292_297.out; have hnb18 := NB297_296.out; have hnc18 := NB296_297.out; have hcz19_0 : w16.cell? ⟨gb297, 0, none⟩ = some (.int .u64 0) := (blk_cell BK297.out 0).trans rfl; have hcz19_1 : w16.cell? ⟨gb297, 1, none⟩ = some (.int .u64 0) := (blk_cell BK297.out 1).trans rfl; have hfz19_0 := blk_frozen BK297.out 0; have hfz19_1 := blk_frozen BK297.out 1))
      try simp only [Act.put, List.setIfInBounds_toArray, List.set_cons_succ, List.set_cons_zero]
      go_loopg [8] k1 (fun kq v8 w' => ∃ (x8_2 : Int) (x298000_2 : Int) (x298001_2 : Int), v8 = .int .i64 x8_2 ∧ Aside0 (smaltoref01_Shift.l1 kq a0 a1 x8_2 x293000_1 x293001_1 0 t295 x298000_2 x298001_2 = some r) ∧ Aside0 (kq ≤ k1) ∧ Aside0 (w'.heap[gb292]? = some (.cells #[.int .u64 x293000_1, .int .u64 x293001_1] 62 (0, 0))) ∧ Aside0 (w'.heap[gb296]? = some (.cells #[.int .u64 0, .int .u64 t295] 62 (0, 0))) ∧ Aside0 (w'.heap[gb297]? = some (.cells #[.int .u64 x298000_2, .int .u64 x298001_2] 62 (0, 0))) ∧ Aside0 (Below w.heap.size w w'))
      case atStart => exact ⟨(127), (0), (0), (by first | rfl | (simp; done) | (simp [*]; done)), H', ⟨Nat.le_refl _⟩, ⟨by (with_reducible repeat (first | refine blk_drewN ?_ _ | refine blk_drew ?_ | refine blk_alloc ?_ _)); refine blk_far ?_ NB292_297.out _; (with_reducible repeat (first | refine blk_drewN ?_ _ | refine blk_drew ?_ | refine blk_alloc ?_ _)); refine blk_far ?_ NB292_297.out _; (with_reducible repeat (first | refine blk_drewN ?_ _ | refine blk_drew ?_ | refine blk_alloc ?_ _)); exact BK292.out⟩, ⟨by (with_reducible repeat (first | refine blk_drewN ?_ _ | refine blk_drew ?_ | refine blk_alloc ?_ _)); refine blk_far ?_ NB296_297.out _; (with_reducible repeat (first | refine blk_drewN ?_ _ | refine blk_drew ?_ | refine blk_alloc ?_ _)); refine blk_far ?_ NB296_297.out _; (with_reducible repeat (first | refine blk_drewN ?_ _ | refine blk_drew ?_ | refine blk_alloc ?_ _)); exact BK296.out⟩, ⟨by (with_reducible repeat (first | refine blk_drewN ?_ _ | refine blk_drew ?_ | refine blk_alloc ?_ _)); refine blk_put (cs := #[.int .u64 0, .int .u64 0]) ?_ 1 _ rfl; (with_reducible repeat (first | refine blk_drewN ?_ _ | refine blk_drew ?_ | refine blk_alloc ?_ _)); refine blk_put (cs := #[.int .u64 0, .int .u64 0]) ?_ 0 _ rfl; (with_reducible repeat (first | refine blk_drewN ?_ _ | refine blk_drew ?_ | refine blk_alloc ?_ _)); exact BK297.out⟩, ⟨by repeat (first | (with_reducible first | exact HB.out | apply below_alloc | apply pw_below_drewN | apply below_drew1 | refine below_set ?_ GE292.out | refine below_set ?_ GE296.out | refine below_set ?_ GE297.out) | exact HB.out)⟩⟩
      case round =>
       clear H'
       try clear c1
       try clear p2
       try clear c3
       try clear c3b0
       try clear c4
       try clear c4b0
       try clear p6
       try clear c7
       try clear c7b0
       try clear c14
       try clear c15
       try clear c17
       try clear c18
       try clear hcz11_0
       try clear hcz11_1
       try clear hcz15_0
       try clear hcz15_1
       try clear hcz19_0
       try clear hcz19_1
       try clear hcz6_0
       try clear hcz6_1
       try clear hcz9_0
       try clear hcz9_1
       try clear hfz11_0
       try clear hfz11_1
       try clear hfz15_0
       try clear hfz15_1
       try clear hfz19_0
       try clear hfz19_1
       try clear hfz6_0
       try clear hfz6_1
       try clear hfz9_0
       try clear hfz9_1
       try clear p2
       try clear p6
       obtain ⟨x8_2, x298000_2, x298001_2, rfl, HA, HK2, BK292, BK296, BK297, HB⟩ := hrel
       cases gk with
       | zero => exact absurd HA.out (by simp [smaltoref01_Shift.l1])
       | succ k2 =>
        have H := HA.out
        clear HA
        simp only [smaltoref01_Shift.l1] at H
        by_cases c20 : x8_2 ≥ a1
        ·rw [if_pos c20] at H
         have c20b0 : decide (a1 ≤ x8_2) = true := decide_eq_true c20
         clear c20
         replace H := Option.bind_eq_some_iff.mp H
         obtain ⟨t298, A210, H⟩ := H
         replace H : ((smaltoref01_Twice.f x298000_2 x298001_2 t298).bind fun bt299 => (smaltoref01_Shift.l1 k2 a0 a1 (wrap64 (x8_2 - 1)) x293000_1 x293001_1 0 t295 bt299.1 bt299.2)) = some r := H
         have A21 := Aside0.mk A210
         clear A210
         replace H := Option.bind_eq_some_iff.mp H
         obtain ⟨⟨t299, t300⟩, A220, H⟩ := H
         replace H : (smaltoref01_Shift.l1 k2 a0 a1 (wrap64 (x8_2 - 1)) x293000_1 x293001_1 0 t295 t299 t300) = some r := H
         have A22 := Aside0.mk A220
         clear A220
         have H' := Aside0.mk H
         clear H
         try go_wp2
         have n0_ := Aside0.mk (blk_drew BK292.out)
         have n1_ := Aside0.mk (blk_drew BK296.out)
         have n2_ := Aside0.mk (blk_drew BK297.out)
         have n3_ := Aside0.mk (below_drew1 HB.out)
         clear BK292
         clear BK296
         clear BK297
         clear HB
         have BK292 := n0_
         have BK296 := n1_
         have BK297 := n2_
         have HB := n3_
         clear n0_ n1_ n2_ n3_
         refine start_ (n := 6) (S := fun w' => w'.cell? ⟨gb297, 0, none⟩ = some (.int .u64 x298000_2) ∧ w'.cell? ⟨gb297, 1, none⟩ = some (.int .u64 x298001_2) ∧ w'.cell? ⟨gb296, 0, none⟩ = some (.int .u64 0) ∧ w'.cell? ⟨gb296, 1, none⟩ = some (.int .u64 t295)) (ds := [5]) #[false, false, false, false, false, false] (by kernel_rfl) rfl rfl ⟨(blk_cell BK297.out 0).trans rfl, (blk_cell BK297.out 1).trans rfl, (blk_cell BK296.out 0).trans rfl, (blk_cell BK296.out 1).trans rfl⟩ (fun hHeld => ?_)
         generalize wr.drew = w23 at BK292 BK296 BK297 HB hHeld ⊢
         refine pure_ (i := 2) (N := some 37) (v := ?_) (a' := ?_) #[false, false, true, false, false, false] rfl rfl (by kernel_rfl) (fun _ _ _ h => h) (Or.inl ⟨by rfl, ?_⟩) ?_ ?_
         rotate_left
         ·intro w'
          go_simp
          with_reducible rfl
         rotate_left
         ·simp only [Act.put, List.setIfInBounds_toArray, List.set_cons_zero, List.set_cons_succ, i64_w, i32_w]
          rfl
         refine take_ (i := 0) (N := some 35) (v := ?_) (a' := ?_) #[true, false, true, false, false, false] rfl rfl (by kernel_rfl) (fun _ _ _ h => h) (Or.inl ⟨by rfl, ?_⟩) hHeld ?_ ?_
         rotate_left
         ·rintro w' ⟨s0, s1, s2, s3⟩
          go_simp
          with_reducible rfl
         rotate_left
         ·simp only [Act.put, List.setIfInBounds_toArray, List.set_cons_zero, List.set_cons_succ, i64_w, i32_w]
          rfl
         refine take_ (i := 1) (N := some 36) (v := ?_) (a' := ?_) #[true, true, true, false, false, false] rfl rfl (by kernel_rfl) (fun _ _ _ h => h) (Or.inl ⟨by rfl, ?_⟩) hHeld ?_ ?_
         rotate_left
         ·rintro w' ⟨s0, s1, s2, s3⟩
          go_simp
          with_reducible rfl
         rotate_left
         ·simp only [Act.put, List.setIfInBounds_toArray, List.set_cons_zero, List.set_cons_succ, i64_w, i32_w]
          rfl
         refine one_ (i := 3) (N := some 38) #[true, true, true, true, false, false] rfl rfl (by kernel_rfl) (by decide) (fun K hK => ?_)
         refine goes_ Tryz.func35 (by kernel_rfl) rfl #[.agg #[.int .u64 0, .int .u64 t295], .int .i64 x8_2] (by rfl) rfl rfl (by (try simp only [List.map_toArray, List.map_cons, List.map_nil]); first | done | rfl | (simp only [List.length_drop, List.length_take]; rfl)) ?_
         with_reducible refine (smaltoref01_Bit.calls 0 t295 x8_2 t298 _ A21.out).mono ?_
         rintro e w24 ⟨rfl, hb⟩
         refine ⟨_, rfl, ?_⟩
         have n0_ := Aside0.mk (blk_below (g := gb292) (o := .cells #[.int .u64 x293000_1, .int .u64 x293001_1] 62 (0, 0)) (by (with_reducible repeat (first | refine blk_drewN ?_ _ | refine blk_drew ?_ | refine blk_alloc ?_ _)); exact BK292.out) hb)
         have n1_ := Aside0.mk (blk_below (g := gb296) (o := .cells #[.int .u64 0, .int .u64 t295] 62 (0, 0)) (by (with_reducible repeat (first | refine blk_drewN ?_ _ | refine blk_drew ?_ | refine blk_alloc ?_ _)); exact BK296.out) hb)
         have n2_ := Aside0.mk (blk_below (g := gb297) (o := .cells #[.int .u64 x298000_2, .int .u64 x298001_2] 62 (0, 0)) (by (with_reducible repeat (first | refine blk_drewN ?_ _ | refine blk_drew ?_ | refine blk_alloc ?_ _)); exact BK297.out) hb)
         have n3_ := Aside0.mk (below_step (by repeat (first | (with_reducible first | exact HB.out | apply below_alloc | apply pw_below_drewN | apply below_drew1 | refine below_set ?_ GE292.out | refine below_set ?_ GE296.out | refine below_set ?_ GE297.out) | exact HB.out)) hb)
         clear BK292
         clear BK296
         clear BK297
         clear HB
         have BK292 := n0_
         have BK296 := n1_
         have BK297 := n2_
         have HB := n3_
         clear n0_ n1_ n2_ n3_
         (try clear hb)
         (try clear hb2)
         (try clear hk)
         (try clear hi)
         refine hK.out _ _ ⟨(blk_cell BK297.out 0).trans rfl, (blk_cell BK297.out 1).trans rfl, (blk_cell BK296.out 0).trans rfl, (blk_cell BK296.out 1).trans rfl⟩ (fun hHeld => ?_)
         clear hK K
         refine norm_ (a' := ?_) ?_ ?_
         rotate_left
         ·show Act.put _ (some 38) _ = _
          simp only [Act.put, List.setIfInBounds_toArray, List.set_cons_zero, List.set_cons_succ, i64_w, i32_w]
          rfl
         refine one_ (i := 4) (N := some 39) #[true, true, true, true, true, false] rfl rfl (by kernel_rfl) (by decide) (fun K hK => ?_)
         refine goes_ Tryz.func33 (by kernel_rfl) rfl #[.agg #[.int .u64 x298000_2, .int .u64 x298001_2], .int .u64 t298] (by rfl) rfl rfl (by (try simp only [List.map_toArray, List.map_cons, List.map_nil]); first | done | rfl | (simp only [List.length_drop, List.length_take]; rfl)) ?_
         with_reducible refine (smaltoref01_Twice.calls x298000_2 x298001_2 t298 t299 t300 _ A22.out).mono ?_
         rintro e w25 ⟨rfl, hb⟩
         refine ⟨_, rfl, ?_⟩
         have n0_ := Aside0.mk (blk_below (g := gb292) (o := .cells #[.int .u64 x293000_1, .int .u64 x293001_1] 62 (0, 0)) (by (with_reducible repeat (first | refine blk_drewN ?_ _ | refine blk_drew ?_ | refine blk_alloc ?_ _)); exact BK292.out) hb)
         have n1_ := Aside0.mk (blk_below (g := gb296) (o := .cells #[.int .u64 0, .int .u64 t295] 62 (0, 0)) (by (with_reducible repeat (first | refine blk_drewN ?_ _ | refine blk_drew ?_ | refine blk_alloc ?_ _)); exact BK296.out) hb)
         have n2_ := Aside0.mk (blk_below (g := gb297) (o := .cells #[.int .u64 x298000_2, .int .u64 x298001_2] 62 (0, 0)) (by (with_reducible repeat (first | refine blk_drewN ?_ _ | refine blk_drew ?_ | refine blk_alloc ?_ _)); exact BK297.out) hb)
         have n3_ := Aside0.mk (below_step (by repeat (first | (with_reducible first | exact HB.out | apply below_alloc | apply pw_below_drewN | apply below_drew1 | refine below_set ?_ GE292.out | refine below_set ?_ GE296.out | refine below_set ?_ GE297.out) | exact HB.out)) hb)
         clear BK292
         clear BK296
         clear BK297
         clear HB
         have BK292 := n0_
         have BK296 := n1_
         have BK297 := n2_
         have HB := n3_
         clear n0_ n1_ n2_ n3_
         (try clear hb)
         (try clear hb2)
         (try clear hk)
         (try clear hi)
         refine hK.out _ _ ⟨(blk_cell BK297.out 0).trans rfl, (blk_cell BK297.out 1).trans rfl, (blk_cell BK296.out 0).trans rfl, (blk_cell BK296.out 1).trans rfl⟩ (fun hHeld => ?_)
         clear hK K
         refine norm_ (a' := ?_) ?_ ?_
         rotate_left
         ·show Act.put _ (some 39) _ = _
          simp only [Act.put, List.setIfInBounds_toArray, List.set_cons_zero, List.set_cons_succ, i64_w, i32_w]
          rfl
         refine last_ (i := 5) (N := none) #[true, true, true, true, true, true] rfl rfl (by kernel_rfl) (by decide) (fun K hK => ?_)
         have hs26 : w25.cell? ⟨gb297, 0, none⟩ = some (.int .u64 x298000_2) := (blk_cell BK297.out 0).trans rfl
         have hfs26 := blk_frozen BK297.out 0
         have hns26_0 := NB292_297.out
         have hns26_1 := NB296_297.out
         have hms26_0 := NB297_292.out
         have hms26_1 := NB297_296.out
         have hs27 : w25.cell? ⟨gb297, 1, none⟩ = some (.int .u64 x298001_2) := (blk_cell BK297.out 1).trans rfl
         have hfs27 := blk_frozen BK297.out 1
         have hns27_0 := NB292_297.out
         have hns27_1 := NB296_297.out
         have hms27_0 := NB297_292.out
         have hms27_1 := NB297_296.out
         refine skip_ (w1 := ?_) (by rfl) rfl ?_ ?_
         rotate_left
         ·go_simp
          rfl
         refine hK.out _ _ ?_
         clear hK K
         refine done_ (by kernel_rfl) ?_
         try go_wp2
         go_roundg k2
         case measure => have := HK1.out; have := HK2.out; omega
         case rel => exact ⟨(wrap64 (x8_2 - 1)), (t299), (t300), (by first | rfl | (simp; done) | (simp [*]; done)), H', ⟨by have := HK1.out; have := HK2.out; omega⟩, ⟨by (with_reducible repeat (first | refine blk_drewN ?_ _ | refine blk_drew ?_ | refine blk_alloc ?_ _)); refine blk_far ?_ NB292_297.out _; (with_reducible repeat (first | refine blk_drewN ?_ _ | refine blk_drew ?_ | refine blk_alloc ?_ _)); refine blk_far ?_ NB292_297.out _; (with_reducible repeat (first | refine blk_drewN ?_ _ | refine blk_drew ?_ | refine blk_alloc ?_ _)); exact BK292.out⟩, ⟨by (with_reducible repeat (first | refine blk_drewN ?_ _ | refine blk_drew ?_ | refine blk_alloc ?_ _)); refine blk_far ?_ NB296_297.out _; (with_reducible repeat (first | refine blk_drewN ?_ _ | refine blk_drew ?_ | refine blk_alloc ?_ _)); refine blk_far ?_ NB296_297.out _; (with_reducible repeat (first | refine blk_drewN ?_ _ | refine blk_drew ?_ | refine blk_alloc ?_ _)); exact BK296.out⟩, ⟨by (with_reducible repeat (first | refine blk_drewN ?_ _ | refine blk_drew ?_ | refine blk_alloc ?_ _)); refine blk_put (cs := #[.int .u64 t299, .int .u64 x298001_2]) ?_ 1 _ rfl; (with_reducible repeat (first | refine blk_drewN ?_ _ | refine blk_drew ?_ | refine blk_alloc ?_ _)); refine blk_put (cs := #[.int .u64 x298000_2, .int .u64 x298001_2]) ?_ 0 _ rfl; (with_reducible repeat (first | refine blk_drewN ?_ _ | refine blk_drew ?_ | refine blk_alloc ?_ _)); exact BK297.out⟩, ⟨by repeat (first | (with_reducible first | exact HB.out | apply below_alloc | apply pw_below_drewN | apply below_drew1 | refine below_set ?_ GE292.out | refine below_set ?_ GE296.out | refine below_set ?_ GE297.out) | exact HB.out)⟩⟩
        ·rw [if_neg c20] at H
         have c20b0 : decide (a1 ≤ x8_2) = false := decide_eq_false c20
         clear c20
         have H' := Aside0.mk H
         clear H
         have hnb28 := NB296_292.out
         have hnc28 := NB292_296.out
         have hnb29 := NB296_297.out
         have hnc29 := NB297_296.out
         have hcz30_0 : wr.cell? ⟨gb296, 0, none⟩ = some (.int .u64 0) := (blk_cell BK296.out 0).trans rfl
         have hcz30_1 : wr.cell? ⟨gb296, 1, none⟩ = some (.int .u64 t295) := (blk_cell BK296.out 1).trans rfl
         have hfz30_0 := blk_frozen BK296.out 0
         have hfz30_1 := blk_frozen BK296.out 1
         go_wp2_with (first | ((with_reducible refine gate_dst (N := 9) rfl ?_); refine box_event ?hg (N := 9) ?hd (cs := #[.int .u64 0, .int .u64 0]) (t := 62) ?hr ?_; (case hd => rfl); (case hg => rfl); (case hr => first | (go_simp; done) | (go_simp; rfl)); intro gb301 hg w31 hbox hb; have n0_ := Aside0.mk (blk_below (g := gb292) (o := .cells #[.int .u64 x293000_1, .int .u64 x293001_1] 62 (0, 0)) (by (with_reducible repeat (first | refine blk_drewN ?_ _ | refine blk_drew ?_ | refine blk_alloc ?_ _)); exact BK292.out) hb); have n1_ := Aside0.mk (blk_below (g := gb296) (o := .cells #[.int .u64 0, .int .u64 t295] 62 (0, 0)) (by (with_reducible repeat (first | refine blk_drewN ?_ _ | refine blk_drew ?_ | refine blk_alloc ?_ _)); exact BK296.out) hb); have n2_ := Aside0.mk (blk_below (g := gb297) (o := .cells #[.int .u64 x298000_2, .int .u64 x298001_2] 62 (0, 0)) (by (with_reducible repeat (first | refine blk_drewN ?_ _ | refine blk_drew ?_ | refine blk_alloc ?_ _)); exact BK297.out) hb); have n3_ := Aside0.mk (below_step (by repeat (first | (with_reducible first | exact HB.out | apply below_alloc | apply pw_below_drewN | apply below_drew1 | refine below_set ?_ GE292.out | refine below_set ?_ GE296.out | refine below_set ?_ GE297.out) | exact HB.out)) hb); have n4_ := Aside0.mk (hbox); have n5_ := Aside0.mk ((by rw [hg]; exact (below_size (by repeat (first | (with_reducible first | exact HB.out | apply below_alloc | apply pw_below_drewN | apply below_drew1 | refine below_set ?_ GE292.out | refine below_set ?_ GE296.out | refine below_set ?_ GE297.out) | exact HB.out))) : w.heap.size ≤ gb301)); have n6_ := Aside0.mk ((by rw [hg]; exact (below_size (by repeat (first | (with_reducible first | exact HB.out | apply below_alloc | apply pw_below_drewN | apply below_drew1 | refine below_set ?_ GE292.out | refine below_set ?_ GE296.out | refine below_set ?_ GE297.out) | exact HB.out))) : w.heap.size ≤ gb301)); have n7_ := Aside0.mk ((by rw [hg]; exact Nat.ne_of_lt (blk_lt (g := gb292) (o := .cells #[.int .u64 x293000_1, .int .u64 x293001_1] 62 (0, 0)) (by (with_reducible repeat (first | refine blk_drewN ?_ _ | refine blk_drew ?_ | refine blk_alloc ?_ _)); exact BK292.out)) : gb292 ≠ gb301)); have n8_ := Aside0.mk ((by rw [hg]; exact Nat.ne_of_gt (blk_lt (g := gb292) (o := .cells #[.int .u64 x293000_1, .int .u64 x293001_1] 62 (0, 0)) (by (with_reducible repeat (first | refine blk_drewN ?_ _ | refine blk_drew ?_ | refine blk_alloc ?_ _)); exact BK292.out)) : gb301 ≠ gb292)); have n9_ := Aside0.mk ((by rw [hg]; exact Nat.ne_of_lt (blk_lt (g := gb296) (o := .cells #[.int .u64 0, .int .u64 t295] 62 (0, 0)) (by (with_reducible repeat (first | refine blk_drewN ?_ _ | refine blk_drew ?_ | refine blk_alloc ?_ _)); exact BK296.out)) : gb296 ≠ gb301)); have n10_ := Aside0.mk ((by rw [hg]; exact Nat.ne_of_gt (blk_lt (g := gb296) (o := .cells #[.int .u64 0, .int .u64 t295] 62 (0, 0)) (by (with_reducible repeat (first | refine blk_drewN ?_ _ | refine blk_drew ?_ | refine blk_alloc ?_ _)); exact BK296.out)) : gb301 ≠ gb296)); have n11_ := Aside0.mk ((by rw [hg]; exact Nat.ne_of_lt (blk_lt (g := gb297) (o := .cells #[.int .u64 x298000_2, .int .u64 x298001_2] 62 (0, 0)) (by (with_reducible repeat (first | refine blk_drewN ?_ _ | refine blk_drew ?_ | refine blk_alloc ?_ _)); exact BK297.out)) : gb297 ≠ gb301)); have n12_ := Aside0.mk ((by rw [hg]; exact Nat.ne_of_gt (blk_lt (g := gb297) (o := .cells #[.int .u64 x298000_2, .int .u64 x298001_2] 62 (0, 0)) (by (with_reducible repeat (first | refine blk_drewN ?_ _ | refine blk_drew ?_ | refine blk_alloc ?_ _)); exact BK297.out)) : gb301 ≠ gb297)); clear BK292; clear BK296; clear BK297; clear HB; have BK292 := n0_; have BK296 := n1_; have BK297 := n2_; have HB := n3_; have BK301 := n4_; have GW301 := n5_; have GE301 := n6_; have NB292_301 := n7_; have NB301_292 := n8_; have NB296_301 := n9_; have NB301_296 := n10_; have NB297_301 := n11_; have NB301_297 := n12_; clear n0_ n1_ n2_ n3_ n4_ n5_ n6_ n7_ n8_ n9_ n10_ n11_ n12_; clear hb hbox hg; have hnb32 := NB301_292.out; have hnc32 := NB292_301.out; have hnb33 := NB301_296.out; have hnc33 := NB296_301.out; have hnb34 := NB301_297.out; have hnc34 := NB297_301.out; have hcz35_0 : w31.cell? ⟨gb301, 0, none⟩ = some (.int .u64 0) := (blk_cell BK301.out 0).trans rfl; have hcz35_1 : w31.cell? ⟨gb301, 1, none⟩ = some (.int .u64 0) := (blk_cell BK301.out 1).trans rfl; have hfz35_0 := blk_frozen BK301.out 0; have hfz35_1 := blk_frozen BK301.out 1))
         try simp only [Act.put, List.setIfInBounds_toArray, List.set_cons_succ, List.set_cons_zero]
         go_loopg [10] k2 (fun kq v10 w' => ∃ (x10_3 : Int) (x302000_3 : Int) (x302001_3 : Int), v10 = .int .i64 x10_3 ∧ Aside0 (smaltoref01_Shift.l2 kq a0 x10_3 x293000_1 x293001_1 0 t295 x298000_2 x298001_2 x302000_3 x302001_3 = some r) ∧ Aside0 (kq ≤ k2) ∧ Aside0 (w'.heap[gb292]? = some (.cells #[.int .u64 x293000_1, .int .u64 x293001_1] 62 (0, 0))) ∧ Aside0 (w'.heap[gb296]? = some (.cells #[.int .u64 0, .int .u64 t295] 62 (0, 0))) ∧ Aside0 (w'.heap[gb297]? = some (.cells #[.int .u64 x298000_2, .int .u64 x298001_2] 62 (0, 0))) ∧ Aside0 (w'.heap[gb301]? = some (.cells #[.int .u64 x302000_3, .int .u64 x302001_3] 62 (0, 0))) ∧ Aside0 (Below w.heap.size w w'))
         case atStart => exact ⟨(a1), (0), (t295), (by first | rfl | (simp; done) | (simp [*]; done)), H', ⟨Nat.le_refl _⟩, ⟨by (with_reducible repeat (first | refine blk_drewN ?_ _ | refine blk_drew ?_ | refine blk_alloc ?_ _)); refine blk_far ?_ NB292_301.out _; (with_reducible repeat (first | refine blk_drewN ?_ _ | refine blk_drew ?_ | refine blk_alloc ?_ _)); refine blk_far ?_ NB292_301.out _; (with_reducible repeat (first | refine blk_drewN ?_ _ | refine blk_drew ?_ | refine blk_alloc ?_ _)); exact BK292.out⟩, ⟨by (with_reducible repeat (first | refine blk_drewN ?_ _ | refine blk_drew ?_ | refine blk_alloc ?_ _)); refine blk_far ?_ NB296_301.out _; (with_reducible repeat (first | refine blk_drewN ?_ _ | refine blk_drew ?_ | refine blk_alloc ?_ _)); refine blk_far ?_ NB296_301.out _; (with_reducible repeat (first | refine blk_drewN ?_ _ | refine blk_drew ?_ | refine blk_alloc ?_ _)); exact BK296.out⟩, ⟨by (with_reducible repeat (first | refine blk_drewN ?_ _ | refine blk_drew ?_ | refine blk_alloc ?_ _)); refine blk_far ?_ NB297_301.out _; (with_reducible repeat (first | refine blk_drewN ?_ _ | refine blk_drew ?_ | refine blk_alloc ?_ _)); refine blk_far ?_ NB297_301.out _; (with_reducible repeat (first | refine blk_drewN ?_ _ | refine blk_drew ?_ | refine blk_alloc ?_ _)); exact BK297.out⟩, ⟨by (with_reducible repeat (first | refine blk_drewN ?_ _ | refine blk_drew ?_ | refine blk_alloc ?_ _)); refine blk_put (cs := #[.int .u64 0, .int .u64 0]) ?_ 1 _ rfl; (with_reducible repeat (first | refine blk_drewN ?_ _ | refine blk_drew ?_ | refine blk_alloc ?_ _)); refine blk_put (cs := #[.int .u64 0, .int .u64 0]) ?_ 0 _ rfl; (with_reducible repeat (first | refine blk_drewN ?_ _ | refine blk_drew ?_ | refine blk_alloc ?_ _)); exact BK301.out⟩, ⟨by repeat (first | (with_reducible first | exact HB.out | apply below_alloc | apply pw_below_drewN | apply below_drew1 | refine below_set ?_ GE292.out | refine below_set ?_ GE296.out | refine below_set ?_ GE297.out | refine below_set ?_ GE301.out) | exact HB.out)⟩⟩
         case round =>
          clear H'
          try clear c1
          try clear c2
          try clear p2
          try clear c3
          try clear c3b0
          try clear c4
          try clear c4b0
          try clear p6
          try clear c7
          try clear c7b0
          try clear c14
          try clear c15
          try clear c17
          try clear c18
          try clear c20
          try clear c20b0
          try clear c28
          try clear c29
          try clear c32
          try clear c33
          try clear c34
          try clear c35
          try clear hcz11_0
          try clear hcz11_1
          try clear hcz15_0
          try clear hcz15_1
          try clear hcz19_0
          try clear hcz19_1
          try clear hcz30_0
          try clear hcz30_1
          try clear hcz35_0
          try clear hcz35_1
          try clear hcz6_0
          try clear hcz6_1
          try clear hcz9_0
          try clear hcz9_1
          try clear hfz11_0
          try clear hfz11_1
          try clear hfz15_0
          try clear hfz15_1
          try clear hfz19_0
          try clear hfz19_1
          try clear hfz30_0
          try clear hfz30_1
          try clear hfz35_0
          try clear hfz35_1
          try clear hfz6_0
          try clear hfz6_1
          try clear hfz9_0
          try clear hfz9_1
          try clear p2
          try clear p6
          obtain ⟨x10_3, x302000_3, x302001_3, rfl, HA, HK3, BK292, BK296, BK297, BK301, HB⟩ := hrel
          cases gk with
          | zero => exact absurd HA.out (by simp [smaltoref01_Shift.l2])
          | succ k3 =>
           have H := HA.out
           clear HA
           simp only [smaltoref01_Shift.l2] at H
           by_cases c36 : x10_3 < 128
           ·rw [if_pos c36] at H
            have c36b0 : decide (x10_3 < 128) = true := decide_eq_true c36
            clear c36
            replace H := Option.bind_eq_some_iff.mp H
            obtain ⟨t302, A370, H⟩ := H
            replace H : (if t302 = 1 then (smaltoref01_Shift.l3 k3 a0 x10_3 x10_3 0 x293000_1 x293001_1 0 t295 x298000_2 x298001_2 x302000_3 x302001_3 0 1) else (smaltoref01_Shift.l2 k3 a0 (wrap64 (x10_3 + 1)) x293000_1 x293001_1 0 t295 x298000_2 x298001_2 x302000_3 x302001_3)) = some r := H
            have A37 := Aside0.mk A370
            clear A370
            by_cases c38 : t302 = 1
            ·rw [if_pos c38] at H
             have c38b0 : (t302 == 1) = true := beq_iff_eq.mpr c38
             have c38b1 : (t302 != 1) = false := bne_eq_false_iff_eq.mpr c38
             clear c38
             have H' := Aside0.mk H
             clear H
             have hnb39 := NB296_292.out
             have hnc39 := NB292_296.out
             have hnb40 := NB296_297.out
             have hnc40 := NB297_296.out
             have hnb41 := NB296_301.out
             have hnc41 := NB301_296.out
             have hcz42_0 : wr.cell? ⟨gb296, 0, none⟩ = some (.int .u64 0) := (blk_cell BK296.out 0).trans rfl
             have hcz42_1 : wr.cell? ⟨gb296, 1, none⟩ = some (.int .u64 t295) := (blk_cell BK296.out 1).trans rfl
             have hfz42_0 := blk_frozen BK296.out 0
             have hfz42_1 := blk_frozen BK296.out 1
             go_wp2_with (first | ((with_reducible refine gate_callee (f := 35) rfl ?_); refine goesL_ (some 48) rfl rfl Tryz.func35 (by kernel_rfl) rfl #[.agg #[.int .u64 0, .int .u64 t295], .int .i64 x10_3] rfl (by (try simp only [List.map_toArray, List.map_cons, List.map_nil]); first | done | rfl | (simp only [List.length_drop, List.length_take]; rfl)) ?_; (with_reducible refine (smaltoref01_Bit.calls 0 t295 x10_3 t302 _ A37.out).mono ?_); rintro e w43 ⟨rfl, hb⟩; refine ⟨_, rfl, ?_⟩; have n0_ := Aside0.mk (blk_below (g := gb292) (o := .cells #[.int .u64 x293000_1, .int .u64 x293001_1] 62 (0, 0)) (by (with_reducible repeat (first | refine blk_drewN ?_ _ | refine blk_drew ?_ | refine blk_alloc ?_ _)); exact BK292.out) hb); have n1_ := Aside0.mk (blk_below (g := gb296) (o := .cells #[.int .u64 0, .int .u64 t295] 62 (0, 0)) (by (with_reducible repeat (first | refine blk_drewN ?_ _ | refine blk_drew ?_ | refine blk_alloc ?_ _)); exact BK296.out) hb); have n2_ := Aside0.mk (blk_below (g := gb297) (o := .cells #[.int .u64 x298000_2, .int .u64 x298001_2] 62 (0, 0)) (by (with_reducible repeat (first | refine blk_drewN ?_ _ | refine blk_drew ?_ | refine blk_alloc ?_ _)); exact BK297.out) hb); have n3_ := Aside0.mk (blk_below (g := gb301) (o := .cells #[.int .u64 x302000_3, .int .u64 x302001_3] 62 (0, 0)) (by (with_reducible repeat (first | refine blk_drewN ?_ _ | refine blk_drew ?_ | refine blk_alloc ?_ _)); exact BK301.out) hb); have n4_ := Aside0.mk (below_step (by repeat (first | (with_reducible first | exact HB.out | apply below_alloc | apply pw_below_drewN | apply below_drew1 | refine below_set ?_ GE292.out | refine below_set ?_ GE296.out | refine below_set ?_ GE297.out | refine below_set ?_ GE301.out) | exact HB.out)) hb); clear BK292; clear BK296; clear BK297; clear BK301; clear HB; have BK292 := n0_; have BK296 := n1_; have BK297 := n2_; have BK301 := n3_; have HB := n4_; clear n0_ n1_ n2_ n3_ n4_; (try clear hb); (try clear hb2); (try clear hk); (try clear hi)) | ((with_reducible refine gate_dst (N := 11) rfl ?_); refine box_event ?hg (N := 11) ?hd (cs := #[.int .u64 0, .int .u64 0]) (t := 62) ?hr ?_; (case hd => rfl); (case hg => rfl); (case hr => first | (go_simp; done) | (go_simp; rfl)); intro gb303 hg w44 hbox hb; have n0_ := Aside0.mk (blk_below (g := gb292) (o := .cells #[.int .u64 x293000_1, .int .u64 x293001_1] 62 (0, 0)) (by (with_reducible repeat (first | refine blk_drewN ?_ _ | refine blk_drew ?_ | refine blk_alloc ?_ _)); exact BK292.out) hb); have n1_ := Aside0.mk (blk_below (g := gb296) (o := .cells #[.int .u64 0, .int .u64 t295] 62 (0, 0)) (by (with_reducible repeat (first | refine blk_drewN ?_ _ | refine blk_drew ?_ | refine blk_alloc ?_ _)); exact BK296.out) hb); have n2_ := Aside0.mk (blk_below (g := gb297) (o := .cells #[.int .u64 x298000_2, .int .u64 x298001_2] 62 (0, 0)) (by (with_reducible repeat (first | refine blk_drewN ?_ _ | refine blk_drew ?_ | refine blk_alloc ?_ _)); exact BK297.out) hb); have n3_ := Aside0.mk (blk_below (g := gb301) (o := .cells #[.int .u64 x302000_3, .int .u64 x302001_3] 62 (0, 0)) (by (with_reducible repeat (first | refine blk_drewN ?_ _ | refine blk_drew ?_ | refine blk_alloc ?_ _)); exact BK301.out) hb); have n4_ := Aside0.mk (below_step (by repeat (first | (with_reducible first | exact HB.out | apply below_alloc | apply pw_below_drewN | apply below_drew1 | refine below_set ?_ GE292.out | refine below_set ?_ GE296.out | refine below_set ?_ GE297.out | refine below_set ?_ GE301.out) | exact HB.out)) hb); have n5_ := Aside0.mk (hbox); have n6_ := Aside0.mk ((by rw [hg]; exact (below_size (by repeat (first | (with_reducible first | exact HB.out | apply below_alloc | apply pw_below_drewN | apply below_drew1 | refine below_set ?_ GE292.out | refine below_set ?_ GE296.out | refine below_set ?_ GE297.out | refine below_set ?_ GE301.out) | exact HB.out))) : w.heap.size ≤ gb303)); have n7_ := Aside0.mk ((by rw [hg]; exact (below_size (by repeat (first | (with_reducible first | exact HB.out | apply below_alloc | apply pw_below_drewN | apply below_drew1 | refine below_set ?_ GE292.out | refine below_set ?_ GE296.out | refine below_set ?_ GE297.out | refine below_set ?_ GE301.out) | exact HB.out))) : w.heap.size ≤ gb303)); have n8_ := Aside0.mk ((by rw [hg]; exact Nat.ne_of_lt (blk_lt (g := gb292) (o := .cells #[.int .u64 x293000_1, .int .u64 x293001_1] 62 (0, 0)) (by (with_reducible repeat (first | refine blk_drewN ?_ _ | refine blk_drew ?_ | refine blk_alloc ?_ _)); exact BK292.out)) : gb292 ≠ gb303)); have n9_ := Aside0.mk ((by rw [hg]; exact Nat.ne_of_gt (blk_lt (g := gb292) (o := .cells #[.int .u64 x293000_1, .int .u64 x293001_1] 62 (0, 0)) (by (with_reducible repeat (first | refine blk_drewN ?_ _ | refine blk_drew ?_ | refine blk_alloc ?_ _)); exact BK292.out)) : gb303 ≠ gb292)); have n10_ := Aside0.mk ((by rw [hg]; exact Nat.ne_of_lt (blk_lt (g := gb296) (o := .cells #[.int .u64 0, .int .u64 t295] 62 (0, 0)) (by (with_reducible repeat (first | refine blk_drewN ?_ _ | refine blk_drew ?_ | refine blk_alloc ?_ _)); exact BK296.out)) : gb296 ≠ gb303)); have n11_ := Aside0.mk ((by rw [hg]; exact Nat.ne_of_gt (blk_lt (g := gb296) (o := .cells #[.int .u64 0, .int .u64 t295] 62 (0, 0)) (by (with_reducible repeat (first | refine blk_drewN ?_ _ | refine blk_drew ?_ | refine blk_alloc ?_ _)); exact BK296.out)) : gb303 ≠ gb296)); have n12_ := Aside0.mk ((by rw [hg]; exact Nat.ne_of_lt (blk_lt (g := gb297) (o := .cells #[.int .u64 x298000_2, .int .u64 x298001_2] 62 (0, 0)) (by (with_reducible repeat (first | refine blk_drewN ?_ _ | refine blk_drew ?_ | refine blk_alloc ?_ _)); exact BK297.out)) : gb297 ≠ gb303)); have n13_ := Aside0.mk ((by rw [hg]; exact Nat.ne_of_gt (blk_lt (g := gb297) (o := .cells #[.int .u64 x298000_2, .int .u64 x298001_2] 62 (0, 0)) (by (with_reducible repeat (first | refine blk_drewN ?_ _ | refine blk_drew ?_ | refine blk_alloc ?_ _)); exact BK297.out)) : gb303 ≠ gb297)); have n14_ := Aside0.mk ((by rw [hg]; exact Nat.ne_of_lt (blk_lt (g := gb301) (o := .cells #[.int .u64 x302000_3, .int .u64 x302001_3] 62 (0, 0)) (by (with_reducible repeat (first | refine blk_drewN ?_ _ | refine blk_drew ?_ | refine blk_alloc ?_ _)); exact BK301.out)) : gb301 ≠ gb303)); have n15_ := Aside0.mk ((by rw [hg]; exact Nat.ne_of_gt (blk_lt (g := gb301) (o := .cells #[.int .u64 x302000_3, .int .u64 x302001_3] 62 (0, 0)) (by (with_reducible repeat (first | refine blk_drewN ?_ _ | refine blk_drew ?_ | refine blk_alloc ?_ _)); exact BK301.out)) : gb303 ≠ gb301)); clear BK292; clear BK296; clear BK297; clear BK301; clear HB; have BK292 := n0_; have BK296 := n1_; have BK297 := n2_; have BK301 := n3_; have HB := n4_; have BK303 := n5_; have GW303 := n6_; have GE303 := n7_; have NB292_303 := n8_; have NB303_292 := n9_; have NB296_303 := n10_; have NB303_296 := n11_; have NB297_303 := n12_; have NB303_297 := n13_; have NB301_303 := n14_; have NB303_301 := n15_; clear n0_ n1_ n2_ n3_ n4_ n5_ n6_ n7_ n8_ n9_ n10_ n11_ n12_ n13_ n14_ n15_; clear hb hbox hg; have hnb45 := NB303_292.out; have hnc45 := NB292_303.out; have hnb46 := NB303_296.out; have hnc46 := NB296_303.out; have hnb47 := NB303_297.out; have hnc47 := NB297_303.out; have hnb48 := NB303_301.out; have hnc48 := NB301_303.out; have hcz49_0 : w44.cell? ⟨gb303, 0, none⟩ = some (.int .u64 0) := (blk_cell BK303.out 0).trans rfl; have hcz49_1 : w44.cell? ⟨gb303, 1, none⟩ = some (.int .u64 0) := (blk_cell BK303.out 1).trans rfl; have hfz49_0 := blk_frozen BK303.out 0; have hfz49_1 := blk_frozen BK303.out 1))
             try simp only [Act.put, List.setIfInBounds_toArray, List.set_cons_succ, List.set_cons_zero]
             go_loopg [52] k3 (fun kq v52 w' => ∃ (x52_4 : Int) (x304000_4 : Int) (x304001_4 : Int), v52 = .int .i64 x52_4 ∧ Aside0 (smaltoref01_Shift.l3 kq a0 x10_3 x10_3 x52_4 x293000_1 x293001_1 0 t295 x298000_2 x298001_2 x302000_3 x302001_3 x304000_4 x304001_4 = some r) ∧ Aside0 (kq ≤ k3) ∧ Aside0 (w'.heap[gb292]? = some (.cells #[.int .u64 x293000_1, .int .u64 x293001_1] 62 (0, 0))) ∧ Aside0 (w'.heap[gb296]? = some (.cells #[.int .u64 0, .int .u64 t295] 62 (0, 0))) ∧ Aside0 (w'.heap[gb297]? = some (.cells #[.int .u64 x298000_2, .int .u64 x298001_2] 62 (0, 0))) ∧ Aside0 (w'.heap[gb301]? = some (.cells #[.int .u64 x302000_3, .int .u64 x302001_3] 62 (0, 0))) ∧ Aside0 (w'.heap[gb303]? = some (.cells #[.int .u64 x304000_4, .int .u64 x304001_4] 62 (0, 0))) ∧ Aside0 (Below w.heap.size w w'))
             case atStart => exact ⟨(0), (0), (1), (by first | rfl | (simp; done) | (simp [*]; done)), H', ⟨Nat.le_refl _⟩, ⟨by (with_reducible repeat (first | refine blk_drewN ?_ _ | refine blk_drew ?_ | refine blk_alloc ?_ _)); refine blk_far ?_ NB292_303.out _; (with_reducible repeat (first | refine blk_drewN ?_ _ | refine blk_drew ?_ | refine blk_alloc ?_ _)); refine blk_far ?_ NB292_303.out _; (with_reducible repeat (first | refine blk_drewN ?_ _ | refine blk_drew ?_ | refine blk_alloc ?_ _)); exact BK292.out⟩, ⟨by (with_reducible repeat (first | refine blk_drewN ?_ _ | refine blk_drew ?_ | refine blk_alloc ?_ _)); refine blk_far ?_ NB296_303.out _; (with_reducible repeat (first | refine blk_drewN ?_ _ | refine blk_drew ?_ | refine blk_alloc ?_ _)); refine blk_far ?_ NB296_303.out _; (with_reducible repeat (first | refine blk_drewN ?_ _ | refine blk_drew ?_ | refine blk_alloc ?_ _)); exact BK296.out⟩, ⟨by (with_reducible repeat (first | refine blk_drewN ?_ _ | refine blk_drew ?_ | refine blk_alloc ?_ _)); refine blk_far ?_ NB297_303.out _; (with_reducible repeat (first | refine blk_drewN ?_ _ | refine blk_drew ?_ | refine blk_alloc ?_ _)); refine blk_far ?_ NB297_303.out _; (with_reducible repeat (first | refine blk_drewN ?_ _ | refine blk_drew ?_ | refine blk_alloc ?_ _)); exact BK297.out⟩, ⟨by (with_reducible repeat (first | refine blk_drewN ?_ _ | refine blk_drew ?_ | refine blk_alloc ?_ _)); refine blk_far ?_ NB301_303.out _; (with_reducible repeat (first | refine blk_drewN ?_ _ | refine blk_drew ?_ | refine blk_alloc ?_ _)); refine blk_far ?_ NB301_303.out _; (with_reducible repeat (first | refine blk_drewN ?_ _ | refine blk_drew ?_ | refine blk_alloc ?_ _)); exact BK301.out⟩, ⟨by (with_reducible repeat (first | refine blk_drewN ?_ _ | refine blk_drew ?_ | refine blk_alloc ?_ _)); refine blk_put (cs := #[.int .u64 0, .int .u64 0]) ?_ 1 _ rfl; (with_reducible repeat (first | refine blk_drewN ?_ _ | refine blk_drew ?_ | refine blk_alloc ?_ _)); refine blk_put (cs := #[.int .u64 0, .int .u64 0]) ?_ 0 _ rfl; (with_reducible repeat (first | refine blk_drewN ?_ _ | refine blk_drew ?_ | refine blk_alloc ?_ _)); exact BK303.out⟩, ⟨by repeat (first | (with_reducible first | exact HB.out | apply below_alloc | apply pw_below_drewN | apply below_drew1 | refine below_set ?_ GE292.out | refine below_set ?_ GE296.out | refine below_set ?_ GE297.out | refine below_set ?_ GE301.out | refine below_set ?_ GE303.out) | exact HB.out)⟩⟩
             case round =>
              clear H'
              try clear c1
              try clear c2
              try clear p2
              try clear c3
              try clear c3b0
              try clear c4
              try clear c4b0
              try clear p6
              try clear c7
              try clear c7b0
              try clear c14
              try clear c15
              try clear c17
              try clear c18
              try clear c20
              try clear c20b0
              try clear c28
              try clear c29
              try clear c32
              try clear c33
              try clear c34
              try clear c35
              try clear c36
              try clear c36b0
              try clear c38
              try clear c38b0
              try clear c38b1
              try clear c39
              try clear c40
              try clear c41
              try clear c45
              try clear c46
              try clear c47
              try clear c48
              try clear hcz11_0
              try clear hcz11_1
              try clear hcz15_0
              try clear hcz15_1
              try clear hcz19_0
              try clear hcz19_1
              try clear hcz30_0
              try clear hcz30_1
              try clear hcz35_0
              try clear hcz35_1
              try clear hcz42_0
              try clear hcz42_1
              try clear hcz49_0
              try clear hcz49_1
              try clear hcz6_0
              try clear hcz6_1
              try clear hcz9_0
              try clear hcz9_1
              try clear hfz11_0
              try clear hfz11_1
              try clear hfz15_0
              try clear hfz15_1
              try clear hfz19_0
              try clear hfz19_1
              try clear hfz30_0
              try clear hfz30_1
              try clear hfz35_0
              try clear hfz35_1
              try clear hfz42_0
              try clear hfz42_1
              try clear hfz49_0
              try clear hfz49_1
              try clear hfz6_0
              try clear hfz6_1
              try clear hfz9_0
              try clear hfz9_1
              try clear p2
              try clear p6
              obtain ⟨x52_4, x304000_4, x304001_4, rfl, HA, HK4, BK292, BK296, BK297, BK301, BK303, HB⟩ := hrel
              cases gk with
              | zero => exact absurd HA.out (by simp [smaltoref01_Shift.l3])
              | succ k4 =>
               have H := HA.out
               clear HA
               simp only [smaltoref01_Shift.l3] at H
               by_cases c50 : x52_4 < x10_3
               ·rw [if_pos c50] at H
                have c50b0 : decide (x52_4 < x10_3) = true := decide_eq_true c50
                clear c50
                replace H := Option.bind_eq_some_iff.mp H
                obtain ⟨⟨t304, t305⟩, A510, H⟩ := H
                replace H : (smaltoref01_Shift.l3 k4 a0 x10_3 x10_3 (wrap64 (x52_4 + 1)) x293000_1 x293001_1 0 t295 x298000_2 x298001_2 x302000_3 x302001_3 t304 t305) = some r := H
                have A51 := Aside0.mk A510
                clear A510
                have H' := Aside0.mk H
                clear H
                have hnb52 := NB303_292.out
                have hnc52 := NB292_303.out
                have hnb53 := NB303_296.out
                have hnc53 := NB296_303.out
                have hnb54 := NB303_297.out
                have hnc54 := NB297_303.out
                have hnb55 := NB303_301.out
                have hnc55 := NB301_303.out
                have hcz56_0 : wr.cell? ⟨gb303, 0, none⟩ = some (.int .u64 x304000_4) := (blk_cell BK303.out 0).trans rfl
                have hcz56_1 : wr.cell? ⟨gb303, 1, none⟩ = some (.int .u64 x304001_4) := (blk_cell BK303.out 1).trans rfl
                have hfz56_0 := blk_frozen BK303.out 0
                have hfz56_1 := blk_frozen BK303.out 1
                go_wp2_with (first | ((with_reducible refine gate_callee (f := 33) rfl ?_); refine goesL_ (some 55) rfl rfl Tryz.func33 (by kernel_rfl) rfl #[.agg #[.int .u64 x304000_4, .int .u64 x304001_4], .int .u64 0] rfl (by (try simp only [List.map_toArray, List.map_cons, List.map_nil]); first | done | rfl | (simp only [List.length_drop, List.length_take]; rfl)) ?_; (with_reducible refine (smaltoref01_Twice.calls x304000_4 x304001_4 0 t304 t305 _ A51.out).mono ?_); rintro e w57 ⟨rfl, hb⟩; refine ⟨_, rfl, ?_⟩; have n0_ := Aside0.mk (blk_below (g := gb292) (o := .cells #[.int .u64 x293000_1, .int .u64 x293001_1] 62 (0, 0)) (by (with_reducible repeat (first | refine blk_drewN ?_ _ | refine blk_drew ?_ | refine blk_alloc ?_ _)); exact BK292.out) hb); have n1_ := Aside0.mk (blk_below (g := gb296) (o := .cells #[.int .u64 0, .int .u64 t295] 62 (0, 0)) (by (with_reducible repeat (first | refine blk_drewN ?_ _ | refine blk_drew ?_ | refine blk_alloc ?_ _)); exact BK296.out) hb); have n2_ := Aside0.mk (blk_below (g := gb297) (o := .cells #[.int .u64 x298000_2, .int .u64 x298001_2] 62 (0, 0)) (by (with_reducible repeat (first | refine blk_drewN ?_ _ | refine blk_drew ?_ | refine blk_alloc ?_ _)); exact BK297.out) hb); have n3_ := Aside0.mk (blk_below (g := gb301) (o := .cells #[.int .u64 x302000_3, .int .u64 x302001_3] 62 (0, 0)) (by (with_reducible repeat (first | refine blk_drewN ?_ _ | refine blk_drew ?_ | refine blk_alloc ?_ _)); exact BK301.out) hb); have n4_ := Aside0.mk (blk_below (g := gb303) (o := .cells #[.int .u64 x304000_4, .int .u64 x304001_4] 62 (0, 0)) (by (with_reducible repeat (first | refine blk_drewN ?_ _ | refine blk_drew ?_ | refine blk_alloc ?_ _)); exact BK303.out) hb); have n5_ := Aside0.mk (below_step (by repeat (first | (with_reducible first | exact HB.out | apply below_alloc | apply pw_below_drewN | apply below_drew1 | refine below_set ?_ GE292.out | refine below_set ?_ GE296.out | refine below_set ?_ GE297.out | refine below_set ?_ GE301.out | refine below_set ?_ GE303.out) | exact HB.out)) hb); clear BK292; clear BK296; clear BK297; clear BK301; clear BK303; clear HB; have BK292 := n0_; have BK296 := n1_; have BK297 := n2_; have BK301 := n3_; have BK303 := n4_; have HB := n5_; clear n0_ n1_ n2_ n3_ n4_ n5_; (try clear hb); (try clear hb2); (try clear hk); (try clear hi); have hcz58_0 : w57.cell? ⟨gb303, 0, none⟩ = some (.int .u64 x304000_4) := (blk_cell BK303.out 0).trans rfl; have hcz58_1 : w57.cell? ⟨gb303, 1, none⟩ = some (.int .u64 x304001_4) := (blk_cell BK303.out 1).trans rfl; have hfz58_0 := blk_frozen BK303.out 0; have hfz58_1 := blk_frozen BK303.out 1))
                go_roundg k4
                case measure => have := HK1.out; have := HK2.out; have := HK3.out; have := HK4.out; omega
                case rel => exact ⟨(wrap64 (x52_4 + 1)), (t304), (t305), (by first | rfl | (simp; done) | (simp [*]; done)), H', ⟨by have := HK1.out; have := HK2.out; have := HK3.out; have := HK4.out; omega⟩, ⟨by (with_reducible repeat (first | refine blk_drewN ?_ _ | refine blk_drew ?_ | refine blk_alloc ?_ _)); refine blk_far ?_ NB292_303.out _; (with_reducible repeat (first | refine blk_drewN ?_ _ | refine blk_drew ?_ | refine blk_alloc ?_ _)); refine blk_far ?_ NB292_303.out _; (with_reducible repeat (first | refine blk_drewN ?_ _ | refine blk_drew ?_ | refine blk_alloc ?_ _)); exact BK292.out⟩, ⟨by (with_reducible repeat (first | refine blk_drewN ?_ _ | refine blk_drew ?_ | refine blk_alloc ?_ _)); refine blk_far ?_ NB296_303.out _; (with_reducible repeat (first | refine blk_drewN ?_ _ | refine blk_drew ?_ | refine blk_alloc ?_ _)); refine blk_far ?_ NB296_303.out _; (with_reducible repeat (first | refine blk_drewN ?_ _ | refine blk_drew ?_ | refine blk_alloc ?_ _)); exact BK296.out⟩, ⟨by (with_reducible repeat (first | refine blk_drewN ?_ _ | refine blk_drew ?_ | refine blk_alloc ?_ _)); refine blk_far ?_ NB297_303.out _; (with_reducible repeat (first | refine blk_drewN ?_ _ | refine blk_drew ?_ | refine blk_alloc ?_ _)); refine blk_far ?_ NB297_303.out _; (with_reducible repeat (first | refine blk_drewN ?_ _ | refine blk_drew ?_ | refine blk_alloc ?_ _)); exact BK297.out⟩, ⟨by (with_reducible repeat (first | refine blk_drewN ?_ _ | refine blk_drew ?_ | refine blk_alloc ?_ _)); refine blk_far ?_ NB301_303.out _; (with_reducible repeat (first | refine blk_drewN ?_ _ | refine blk_drew ?_ | refine blk_alloc ?_ _)); refine blk_far ?_ NB301_303.out _; (with_reducible repeat (first | refine blk_drewN ?_ _ | refine blk_drew ?_ | refine blk_alloc ?_ _)); exact BK301.out⟩, ⟨by (with_reducible repeat (first | refine blk_drewN ?_ _ | refine blk_drew ?_ | refine blk_alloc ?_ _)); refine blk_put (cs := #[.int .u64 t304, .int .u64 x304001_4]) ?_ 1 _ rfl; (with_reducible repeat (first | refine blk_drewN ?_ _ | refine blk_drew ?_ | refine blk_alloc ?_ _)); refine blk_put (cs := #[.int .u64 x304000_4, .int .u64 x304001_4]) ?_ 0 _ rfl; (with_reducible repeat (first | refine blk_drewN ?_ _ | refine blk_drew ?_ | refine blk_alloc ?_ _)); exact BK303.out⟩, ⟨by repeat (first | (with_reducible first | exact HB.out | apply below_alloc | apply pw_below_drewN | apply below_drew1 | refine below_set ?_ GE292.out | refine below_set ?_ GE296.out | refine below_set ?_ GE297.out | refine below_set ?_ GE301.out | refine below_set ?_ GE303.out) | exact HB.out)⟩⟩
               ·rw [if_neg c50] at H
                have c50b0 : decide (x52_4 < x10_3) = false := decide_eq_false c50
                clear c50
                replace H := Option.bind_eq_some_iff.mp H
                obtain ⟨⟨t306, t307⟩, A590, H⟩ := H
                replace H : (smaltoref01_Shift.l2 k4 a0 (wrap64 (x10_3 + 1)) x293000_1 x293001_1 0 t295 x298000_2 x298001_2 t306 t307) = some r := H
                have A59 := Aside0.mk A590
                clear A590
                have H' := Aside0.mk H
                clear H
                have hnb60 := NB301_292.out
                have hnc60 := NB292_301.out
                have hnb61 := NB301_296.out
                have hnc61 := NB296_301.out
                have hnb62 := NB301_297.out
                have hnc62 := NB297_301.out
                have hnb63 := NB301_303.out
                have hnc63 := NB303_301.out
                have hcz64_0 : wr.cell? ⟨gb301, 0, none⟩ = some (.int .u64 x302000_3) := (blk_cell BK301.out 0).trans rfl
                have hcz64_1 : wr.cell? ⟨gb301, 1, none⟩ = some (.int .u64 x302001_3) := (blk_cell BK301.out 1).trans rfl
                have hfz64_0 := blk_frozen BK301.out 0
                have hfz64_1 := blk_frozen BK301.out 1
                have hnb65 := NB303_292.out
                have hnc65 := NB292_303.out
                have hnb66 := NB303_296.out
                have hnc66 := NB296_303.out
                have hnb67 := NB303_297.out
                have hnc67 := NB297_303.out
                have hcz68_0 : wr.cell? ⟨gb303, 0, none⟩ = some (.int .u64 x304000_4) := (blk_cell BK303.out 0).trans rfl
                have hcz68_1 : wr.cell? ⟨gb303, 1, none⟩ = some (.int .u64 x304001_4) := (blk_cell BK303.out 1).trans rfl
                have hfz68_0 := blk_frozen BK303.out 0
                have hfz68_1 := blk_frozen BK303.out 1
                go_wp2_with (first | ((with_reducible refine gate_callee (f := 36) rfl ?_); refine goesL_ (some 59) rfl rfl Tryz.func36 (by kernel_rfl) rfl #[.agg #[.int .u64 x302000_3, .int .u64 x302001_3], .agg #[.int .u64 x304000_4, .int .u64 x304001_4]] rfl (by (try simp only [List.map_toArray, List.map_cons, List.map_nil]); first | done | rfl | (simp only [List.length_drop, List.length_take]; rfl)) ?_; (with_reducible refine (smaltoref01_Minus.calls x302000_3 x302001_3 x304000_4 x304001_4 t306 t307 _ A59.out).mono ?_); rintro e w69 ⟨rfl, hb⟩; refine ⟨_, rfl, ?_⟩; have n0_ := Aside0.mk (blk_below (g := gb292) (o := .cells #[.int .u64 x293000_1, .int .u64 x293001_1] 62 (0, 0)) (by (with_reducible repeat (first | refine blk_drewN ?_ _ | refine blk_drew ?_ | refine blk_alloc ?_ _)); exact BK292.out) hb); have n1_ := Aside0.mk (blk_below (g := gb296) (o := .cells #[.int .u64 0, .int .u64 t295] 62 (0, 0)) (by (with_reducible repeat (first | refine blk_drewN ?_ _ | refine blk_drew ?_ | refine blk_alloc ?_ _)); exact BK296.out) hb); have n2_ := Aside0.mk (blk_below (g := gb297) (o := .cells #[.int .u64 x298000_2, .int .u64 x298001_2] 62 (0, 0)) (by (with_reducible repeat (first | refine blk_drewN ?_ _ | refine blk_drew ?_ | refine blk_alloc ?_ _)); exact BK297.out) hb); have n3_ := Aside0.mk (blk_below (g := gb301) (o := .cells #[.int .u64 x302000_3, .int .u64 x302001_3] 62 (0, 0)) (by (with_reducible repeat (first | refine blk_drewN ?_ _ | refine blk_drew ?_ | refine blk_alloc ?_ _)); exact BK301.out) hb); have n4_ := Aside0.mk (blk_below (g := gb303) (o := .cells #[.int .u64 x304000_4, .int .u64 x304001_4] 62 (0, 0)) (by (with_reducible repeat (first | refine blk_drewN ?_ _ | refine blk_drew ?_ | refine blk_alloc ?_ _)); exact BK303.out) hb); have n5_ := Aside0.mk (below_step (by repeat (first | (with_reducible first | exact HB.out | apply below_alloc | apply pw_below_drewN | apply below_drew1 | refine below_set ?_ GE292.out | refine below_set ?_ GE296.out | refine below_set ?_ GE297.out | refine below_set ?_ GE301.out | refine below_set ?_ GE303.out) | exact HB.out)) hb); clear BK292; clear BK296; clear BK297; clear BK301; clear BK303; clear HB; have BK292 := n0_; have BK296 := n1_; have BK297 := n2_; have BK301 := n3_; have BK303 := n4_; have HB := n5_; clear n0_ n1_ n2_ n3_ n4_ n5_; (try clear hb); (try clear hb2); (try clear hk); (try clear hi); have hcz70_0 : w69.cell? ⟨gb301, 0, none⟩ = some (.int .u64 x302000_3) := (blk_cell BK301.out 0).trans rfl; have hcz70_1 : w69.cell? ⟨gb301, 1, none⟩ = some (.int .u64 x302001_3) := (blk_cell BK301.out 1).trans rfl; have hfz70_0 := blk_frozen BK301.out 0; have hfz70_1 := blk_frozen BK301.out 1))
                go_roundg k4
                case measure => have := HK1.out; have := HK2.out; have := HK3.out; have := HK4.out; omega
                case rel => exact ⟨(wrap64 (x10_3 + 1)), (t306), (t307), (by first | rfl | (simp; done) | (simp [*]; done)), H', ⟨by have := HK1.out; have := HK2.out; have := HK3.out; have := HK4.out; omega⟩, ⟨by (with_reducible repeat (first | refine blk_drewN ?_ _ | refine blk_drew ?_ | refine blk_alloc ?_ _)); refine blk_far ?_ NB292_301.out _; (with_reducible repeat (first | refine blk_drewN ?_ _ | refine blk_drew ?_ | refine blk_alloc ?_ _)); refine blk_far ?_ NB292_301.out _; (with_reducible repeat (first | refine blk_drewN ?_ _ | refine blk_drew ?_ | refine blk_alloc ?_ _)); exact BK292.out⟩, ⟨by (with_reducible repeat (first | refine blk_drewN ?_ _ | refine blk_drew ?_ | refine blk_alloc ?_ _)); refine blk_far ?_ NB296_301.out _; (with_reducible repeat (first | refine blk_drewN ?_ _ | refine blk_drew ?_ | refine blk_alloc ?_ _)); refine blk_far ?_ NB296_301.out _; (with_reducible repeat (first | refine blk_drewN ?_ _ | refine blk_drew ?_ | refine blk_alloc ?_ _)); exact BK296.out⟩, ⟨by (with_reducible repeat (first | refine blk_drewN ?_ _ | refine blk_drew ?_ | refine blk_alloc ?_ _)); refine blk_far ?_ NB297_301.out _; (with_reducible repeat (first | refine blk_drewN ?_ _ | refine blk_drew ?_ | refine blk_alloc ?_ _)); refine blk_far ?_ NB297_301.out _; (with_reducible repeat (first | refine blk_drewN ?_ _ | refine blk_drew ?_ | refine blk_alloc ?_ _)); exact BK297.out⟩, ⟨by (with_reducible repeat (first | refine blk_drewN ?_ _ | refine blk_drew ?_ | refine blk_alloc ?_ _)); refine blk_put (cs := #[.int .u64 t306, .int .u64 x302001_3]) ?_ 1 _ rfl; (with_reducible repeat (first | refine blk_drewN ?_ _ | refine blk_drew ?_ | refine blk_alloc ?_ _)); refine blk_put (cs := #[.int .u64 x302000_3, .int .u64 x302001_3]) ?_ 0 _ rfl; (with_reducible repeat (first | refine blk_drewN ?_ _ | refine blk_drew ?_ | refine blk_alloc ?_ _)); exact BK301.out⟩, ⟨by repeat (first | (with_reducible first | exact HB.out | apply below_alloc | apply pw_below_drewN | apply below_drew1 | refine below_set ?_ GE292.out | refine below_set ?_ GE296.out | refine below_set ?_ GE297.out | refine below_set ?_ GE301.out | refine below_set ?_ GE303.out) | exact HB.out)⟩⟩
            ·rw [if_neg c38] at H
             have c38b0 : (t302 == 1) = false := beq_eq_false_iff_ne.mpr c38
             have c38b1 : (t302 != 1) = true := bne_iff_ne.mpr c38
             have H' := Aside0.mk H
             clear H
             have hnb71 := NB296_292.out
             have hnc71 := NB292_296.out
             have hnb72 := NB296_297.out
             have hnc72 := NB297_296.out
             have hnb73 := NB296_301.out
             have hnc73 := NB301_296.out
             have hcz74_0 : wr.cell? ⟨gb296, 0, none⟩ = some (.int .u64 0) := (blk_cell BK296.out 0).trans rfl
             have hcz74_1 : wr.cell? ⟨gb296, 1, none⟩ = some (.int .u64 t295) := (blk_cell BK296.out 1).trans rfl
             have hfz74_0 := blk_frozen BK296.out 0
             have hfz74_1 := blk_frozen BK296.out 1
             go_wp2_with (first | ((with_reducible refine gate_callee (f := 35) rfl ?_); refine goesL_ (some 48) rfl rfl Tryz.func35 (by kernel_rfl) rfl #[.agg #[.int .u64 0, .int .u64 t295], .int .i64 x10_3] rfl (by (try simp only [List.map_toArray, List.map_cons, List.map_nil]); first | done | rfl | (simp only [List.length_drop, List.length_take]; rfl)) ?_; (with_reducible refine (smaltoref01_Bit.calls 0 t295 x10_3 t302 _ A37.out).mono ?_); rintro e w75 ⟨rfl, hb⟩; refine ⟨_, rfl, ?_⟩; have n0_ := Aside0.mk (blk_below (g := gb292) (o := .cells #[.int .u64 x293000_1, .int .u64 x293001_1] 62 (0, 0)) (by (with_reducible repeat (first | refine blk_drewN ?_ _ | refine blk_drew ?_ | refine blk_alloc ?_ _)); exact BK292.out) hb); have n1_ := Aside0.mk (blk_below (g := gb296) (o := .cells #[.int .u64 0, .int .u64 t295] 62 (0, 0)) (by (with_reducible repeat (first | refine blk_drewN ?_ _ | refine blk_drew ?_ | refine blk_alloc ?_ _)); exact BK296.out) hb); have n2_ := Aside0.mk (blk_below (g := gb297) (o := .cells #[.int .u64 x298000_2, .int .u64 x298001_2] 62 (0, 0)) (by (with_reducible repeat (first | refine blk_drewN ?_ _ | refine blk_drew ?_ | refine blk_alloc ?_ _)); exact BK297.out) hb); have n3_ := Aside0.mk (blk_below (g := gb301) (o := .cells #[.int .u64 x302000_3, .int .u64 x302001_3] 62 (0, 0)) (by (with_reducible repeat (first | refine blk_drewN ?_ _ | refine blk_drew ?_ | refine blk_alloc ?_ _)); exact BK301.out) hb); have n4_ := Aside0.mk (below_step (by repeat (first | (with_reducible first | exact HB.out | apply below_alloc | apply pw_below_drewN | apply below_drew1 | refine below_set ?_ GE292.out | refine below_set ?_ GE296.out | refine below_set ?_ GE297.out | refine below_set ?_ GE301.out) | exact HB.out)) hb); clear BK292; clear BK296; clear BK297; clear BK301; clear HB; have BK292 := n0_; have BK296 := n1_; have BK297 := n2_; have BK301 := n3_; have HB := n4_; clear n0_ n1_ n2_ n3_ n4_; (try clear hb); (try clear hb2); (try clear hk); (try clear hi)))
             go_roundg k3
             case measure => have := HK1.out; have := HK2.out; have := HK3.out; omega
             case rel => exact ⟨(wrap64 (x10_3 + 1)), (x302000_3), (x302001_3), (by first | rfl | (simp; done) | (simp [*]; done)), H', ⟨by have := HK1.out; have := HK2.out; have := HK3.out; omega⟩, ⟨by (with_reducible repeat (first | refine blk_drewN ?_ _ | refine blk_drew ?_ | refine blk_alloc ?_ _)); exact BK292.out⟩, ⟨by (with_reducible repeat (first | refine blk_drewN ?_ _ | refine blk_drew ?_ | refine blk_alloc ?_ _)); exact BK296.out⟩, ⟨by (with_reducible repeat (first | refine blk_drewN ?_ _ | refine blk_drew ?_ | refine blk_alloc ?_ _)); exact BK297.out⟩, ⟨by (with_reducible repeat (first | refine blk_drewN ?_ _ | refine blk_drew ?_ | refine blk_alloc ?_ _)); exact BK301.out⟩, ⟨by repeat (first | (with_reducible first | exact HB.out | apply below_alloc | apply pw_below_drewN | apply below_drew1 | refine below_set ?_ GE292.out | refine below_set ?_ GE296.out | refine below_set ?_ GE297.out | refine below_set ?_ GE301.out) | exact HB.out)⟩⟩
           ·rw [if_neg c36] at H
            have c36b0 : decide (x10_3 < 128) = false := decide_eq_false c36
            clear c36
            replace H := Option.bind_eq_some_iff.mp H
            obtain ⟨t308, A760, H⟩ := H
            replace H : (if a0 < 0 then ((smaltoref01_Less.f x293000_1 x293001_1 x302000_3 x302001_3).bind fun t309 => (smaltoref01_Shift.j4 k3 a0 t309 x298000_2 x298001_2)) else (smaltoref01_Shift.j4 k3 a0 (!t308) x298000_2 x298001_2)) = some r := H
            have A76 := Aside0.mk A760
            clear A760
            have HC77 := Aside0.mk H
            clear H
            have hnb78 := NB301_292.out
            have hnc78 := NB292_301.out
            have hnb79 := NB301_296.out
            have hnc79 := NB296_301.out
            have hnb80 := NB301_297.out
            have hnc80 := NB297_301.out
            have hcz81_0 : wr.cell? ⟨gb301, 0, none⟩ = some (.int .u64 x302000_3) := (blk_cell BK301.out 0).trans rfl
            have hcz81_1 : wr.cell? ⟨gb301, 1, none⟩ = some (.int .u64 x302001_3) := (blk_cell BK301.out 1).trans rfl
            have hfz81_0 := blk_frozen BK301.out 0
            have hfz81_1 := blk_frozen BK301.out 1
            have hnb82 := NB292_296.out
            have hnc82 := NB296_292.out
            have hnb83 := NB292_297.out
            have hnc83 := NB297_292.out
            have hcz84_0 : wr.cell? ⟨gb292, 0, none⟩ = some (.int .u64 x293000_1) := (blk_cell BK292.out 0).trans rfl
            have hcz84_1 : wr.cell? ⟨gb292, 1, none⟩ = some (.int .u64 x293001_1) := (blk_cell BK292.out 1).trans rfl
            have hfz84_0 := blk_frozen BK292.out 0
            have hfz84_1 := blk_frozen BK292.out 1
            go_upto_if 65 with (first | ((with_reducible refine gate_callee (f := 37) rfl ?_); refine goesL_ (some 62) rfl rfl Tryz.func37 (by kernel_rfl) rfl #[.agg #[.int .u64 x302000_3, .int .u64 x302001_3], .agg #[.int .u64 x293000_1, .int .u64 x293001_1]] rfl (by (try simp only [List.map_toArray, List.map_cons, List.map_nil]); first | done | rfl | (simp only [List.length_drop, List.length_take]; rfl)) ?_; (with_reducible refine (smaltoref01_Less.calls x302000_3 x302001_3 x293000_1 x293001_1 t308 _ A76.out).mono ?_); rintro e w85 ⟨rfl, hb⟩; refine ⟨_, rfl, ?_⟩; have n0_ := Aside0.mk (blk_below (g := gb292) (o := .cells #[.int .u64 x293000_1, .int .u64 x293001_1] 62 (0, 0)) (by (with_reducible repeat (first | refine blk_drewN ?_ _ | refine blk_drew ?_ | refine blk_alloc ?_ _)); exact BK292.out) hb); have n1_ := Aside0.mk (blk_below (g := gb296) (o := .cells #[.int .u64 0, .int .u64 t295] 62 (0, 0)) (by (with_reducible repeat (first | refine blk_drewN ?_ _ | refine blk_drew ?_ | refine blk_alloc ?_ _)); exact BK296.out) hb); have n2_ := Aside0.mk (blk_below (g := gb297) (o := .cells #[.int .u64 x298000_2, .int .u64 x298001_2] 62 (0, 0)) (by (with_reducible repeat (first | refine blk_drewN ?_ _ | refine blk_drew ?_ | refine blk_alloc ?_ _)); exact BK297.out) hb); have n3_ := Aside0.mk (blk_below (g := gb301) (o := .cells #[.int .u64 x302000_3, .int .u64 x302001_3] 62 (0, 0)) (by (with_reducible repeat (first | refine blk_drewN ?_ _ | refine blk_drew ?_ | refine blk_alloc ?_ _)); exact BK301.out) hb); have n4_ := Aside0.mk (below_step (by repeat (first | (with_reducible first | exact HB.out | apply below_alloc | apply pw_below_drewN | apply below_drew1 | refine below_set ?_ GE292.out | refine below_set ?_ GE296.out | refine below_set ?_ GE297.out | refine below_set ?_ GE301.out) | exact HB.out)) hb); clear BK292; clear BK296; clear BK297; clear BK301; clear HB; have BK292 := n0_; have BK296 := n1_; have BK297 := n2_; have BK301 := n3_; have HB := n4_; clear n0_ n1_ n2_ n3_ n4_; (try clear hb); (try clear hb2); (try clear hk); (try clear hi)))
            (try simp only [Act.put, List.setIfInBounds_toArray, List.set_cons_zero, List.set_cons_succ])
            go_cut [12] (fun v12 wc => ∃ (kq : Nat) (x12_76 : Bool), v12 = .bool x12_76 ∧ Aside0 (smaltoref01_Shift.j4 kq a0 x12_76 x298000_2 x298001_2 = some r) ∧ Aside0 (kq ≤ k3) ∧ Aside0 (wc.heap[gb292]? = some (.cells #[.int .u64 x293000_1, .int .u64 x293001_1] 62 (0, 0))) ∧ Aside0 (wc.heap[gb296]? = some (.cells #[.int .u64 0, .int .u64 t295] 62 (0, 0))) ∧ Aside0 (wc.heap[gb297]? = some (.cells #[.int .u64 x298000_2, .int .u64 x298001_2] 62 (0, 0))) ∧ Aside0 (wc.heap[gb301]? = some (.cells #[.int .u64 x302000_3, .int .u64 x302001_3] 62 (0, 0))) ∧ Aside0 (Below w.heap.size w wc))
            case first =>
             have H := HC77.out
             clear HC77
             by_cases c86 : a0 < 0
             ·rw [if_pos c86] at H
              have c86b0 : decide (a0 < 0) = true := decide_eq_true c86
              clear c86
              (first | rw [c86b0] | (simp only [i64_w, i32_w]; rw [c86b0]) | skip)
              replace H := Option.bind_eq_some_iff.mp H
              obtain ⟨t309, A870, H⟩ := H
              replace H : (smaltoref01_Shift.j4 k3 a0 t309 x298000_2 x298001_2) = some r := H
              have A87 := Aside0.mk A870
              clear A870
              have H' := Aside0.mk H
              clear H
              have hnb88 := NB292_296.out
              have hnc88 := NB296_292.out
              have hnb89 := NB292_297.out
              have hnc89 := NB297_292.out
              have hnb90 := NB292_301.out
              have hnc90 := NB301_292.out
              have hcz91_0 : w85.cell? ⟨gb292, 0, none⟩ = some (.int .u64 x293000_1) := (blk_cell BK292.out 0).trans rfl
              have hcz91_1 : w85.cell? ⟨gb292, 1, none⟩ = some (.int .u64 x293001_1) := (blk_cell BK292.out 1).trans rfl
              have hfz91_0 := blk_frozen BK292.out 0
              have hfz91_1 := blk_frozen BK292.out 1
              have hnb92 := NB301_296.out
              have hnc92 := NB296_301.out
              have hnb93 := NB301_297.out
              have hnc93 := NB297_301.out
              have hcz94_0 : w85.cell? ⟨gb301, 0, none⟩ = some (.int .u64 x302000_3) := (blk_cell BK301.out 0).trans rfl
              have hcz94_1 : w85.cell? ⟨gb301, 1, none⟩ = some (.int .u64 x302001_3) := (blk_cell BK301.out 1).trans rfl
              have hfz94_0 := blk_frozen BK301.out 0
              have hfz94_1 := blk_frozen BK301.out 1
              go_wp2_with (first | ((with_reducible refine gate_callee (f := 37) rfl ?_); refine goesL_ (some 68) rfl rfl Tryz.func37 (by kernel_rfl) rfl #[.agg #[.int .u64 x293000_1, .int .u64 x293001_1], .agg #[.int .u64 x302000_3, .int .u64 x302001_3]] rfl (by (try simp only [List.map_toArray, List.map_cons, List.map_nil]); first | done | rfl | (simp only [List.length_drop, List.length_take]; rfl)) ?_; (with_reducible refine (smaltoref01_Less.calls x293000_1 x293001_1 x302000_3 x302001_3 t309 _ A87.out).mono ?_); rintro e w95 ⟨rfl, hb⟩; refine ⟨_, rfl, ?_⟩; have n0_ := Aside0.mk (blk_below (g := gb292) (o := .cells #[.int .u64 x293000_1, .int .u64 x293001_1] 62 (0, 0)) (by (with_reducible repeat (first | refine blk_drewN ?_ _ | refine blk_drew ?_ | refine blk_alloc ?_ _)); exact BK292.out) hb); have n1_ := Aside0.mk (blk_below (g := gb296) (o := .cells #[.int .u64 0, .int .u64 t295] 62 (0, 0)) (by (with_reducible repeat (first | refine blk_drewN ?_ _ | refine blk_drew ?_ | refine blk_alloc ?_ _)); exact BK296.out) hb); have n2_ := Aside0.mk (blk_below (g := gb297) (o := .cells #[.int .u64 x298000_2, .int .u64 x298001_2] 62 (0, 0)) (by (with_reducible repeat (first | refine blk_drewN ?_ _ | refine blk_drew ?_ | refine blk_alloc ?_ _)); exact BK297.out) hb); have n3_ := Aside0.mk (blk_below (g := gb301) (o := .cells #[.int .u64 x302000_3, .int .u64 x302001_3] 62 (0, 0)) (by (with_reducible repeat (first | refine blk_drewN ?_ _ | refine blk_drew ?_ | refine blk_alloc ?_ _)); exact BK301.out) hb); have n4_ := Aside0.mk (below_step (by repeat (first | (with_reducible first | exact HB.out | apply below_alloc | apply pw_below_drewN | apply below_drew1 | refine below_set ?_ GE292.out | refine below_set ?_ GE296.out | refine below_set ?_ GE297.out | refine below_set ?_ GE301.out) | exact HB.out)) hb); clear BK292; clear BK296; clear BK297; clear BK301; clear HB; have BK292 := n0_; have BK296 := n1_; have BK297 := n2_; have BK301 := n3_; have HB := n4_; clear n0_ n1_ n2_ n3_ n4_; (try clear hb); (try clear hb2); (try clear hk); (try clear hi)))
              go_meet
              case rel => exact ⟨_, (t309), (by first | rfl | (simp; done) | (simp [*]; done)), H', ⟨by have := HK1.out; have := HK2.out; have := HK3.out; first | omega | exact Nat.le_refl _⟩, ⟨by (with_reducible repeat (first | refine blk_drewN ?_ _ | refine blk_drew ?_ | refine blk_alloc ?_ _)); exact BK292.out⟩, ⟨by (with_reducible repeat (first | refine blk_drewN ?_ _ | refine blk_drew ?_ | refine blk_alloc ?_ _)); exact BK296.out⟩, ⟨by (with_reducible repeat (first | refine blk_drewN ?_ _ | refine blk_drew ?_ | refine blk_alloc ?_ _)); exact BK297.out⟩, ⟨by (with_reducible repeat (first | refine blk_drewN ?_ _ | refine blk_drew ?_ | refine blk_alloc ?_ _)); exact BK301.out⟩, ⟨by repeat (first | (with_reducible first | exact HB.out | apply below_alloc | apply pw_below_drewN | apply below_drew1 | refine below_set ?_ GE292.out | refine below_set ?_ GE296.out | refine below_set ?_ GE297.out | refine below_set ?_ GE301.out) | exact HB.out)⟩⟩
             ·rw [if_neg c86] at H
              have c86b0 : decide (a0 < 0) = false := decide_eq_false c86
              clear c86
              (first | rw [c86b0] | (simp only [i64_w, i32_w]; rw [c86b0]) | skip)
              have H' := Aside0.mk H
              clear H
              go_wp2
              go_meet
              case rel => exact ⟨_, (!t308), (by first | rfl | (simp; done) | (simp [*]; done)), H', ⟨by have := HK1.out; have := HK2.out; have := HK3.out; first | omega | exact Nat.le_refl _⟩, ⟨by (with_reducible repeat (first | refine blk_drewN ?_ _ | refine blk_drew ?_ | refine blk_alloc ?_ _)); exact BK292.out⟩, ⟨by (with_reducible repeat (first | refine blk_drewN ?_ _ | refine blk_drew ?_ | refine blk_alloc ?_ _)); exact BK296.out⟩, ⟨by (with_reducible repeat (first | refine blk_drewN ?_ _ | refine blk_drew ?_ | refine blk_alloc ?_ _)); exact BK297.out⟩, ⟨by (with_reducible repeat (first | refine blk_drewN ?_ _ | refine blk_drew ?_ | refine blk_alloc ?_ _)); exact BK301.out⟩, ⟨by repeat (first | (with_reducible first | exact HB.out | apply below_alloc | apply pw_below_drewN | apply below_drew1 | refine below_set ?_ GE292.out | refine below_set ?_ GE296.out | refine below_set ?_ GE297.out | refine below_set ?_ GE301.out) | exact HB.out)⟩⟩
            case rest =>
             clear HC77
             try clear c1
             try clear c2
             try clear p2
             try clear c3
             try clear c3b0
             try clear c4
             try clear c4b0
             try clear c5
             try clear c6
             try clear p6
             try clear c7
             try clear c7b0
             try clear c8
             try clear c9
             try clear c14
             try clear c15
             try clear c17
             try clear c18
             try clear c20
             try clear c20b0
             try clear c28
             try clear c29
             try clear c32
             try clear c33
             try clear c34
             try clear c35
             try clear c36
             try clear c36b0
             try clear c37
             try clear c38
             try clear c38b0
             try clear c38b1
             try clear c39
             try clear c40
             try clear c41
             try clear c45
             try clear c46
             try clear c47
             try clear c48
             try clear c50
             try clear c50b0
             try clear c52
             try clear c53
             try clear c54
             try clear c55
             try clear c60
             try clear c61
             try clear c62
             try clear c63
             try clear p64
             try clear c65
             try clear c66
             try clear c67
             try clear c71
             try clear c72
             try clear c73
             try clear c78
             try clear c79
             try clear c80
             try clear c82
             try clear c83
             try clear c86
             try clear c86b0
             try clear c88
             try clear c89
             try clear c90
             try clear c92
             try clear c93
             try clear hcz11_0
             try clear hcz11_1
             try clear hcz15_0
             try clear hcz15_1
             try clear hcz19_0
             try clear hcz19_1
             try clear hcz30_0
             try clear hcz30_1
             try clear hcz35_0
             try clear hcz35_1
             try clear hcz42_0
             try clear hcz42_1
             try clear hcz49_0
             try clear hcz49_1
             try clear hcz56_0
             try clear hcz56_1
             try clear hcz58_0
             try clear hcz58_1
             try clear hcz64_0
             try clear hcz64_1
             try clear hcz68_0
             try clear hcz68_1
             try clear hcz6_0
             try clear hcz6_1
             try clear hcz70_0
             try clear hcz70_1
             try clear hcz74_0
             try clear hcz74_1
             try clear hcz81_0
             try clear hcz81_1
             try clear hcz84_0
             try clear hcz84_1
             try clear hcz91_0
             try clear hcz91_1
             try clear hcz94_0
             try clear hcz94_1
             try clear hcz9_0
             try clear hcz9_1
             try clear hfz11_0
             try clear hfz11_1
             try clear hfz15_0
             try clear hfz15_1
             try clear hfz19_0
             try clear hfz19_1
             try clear hfz30_0
             try clear hfz30_1
             try clear hfz35_0
             try clear hfz35_1
             try clear hfz42_0
             try clear hfz42_1
             try clear hfz49_0
             try clear hfz49_1
             try clear hfz56_0
             try clear hfz56_1
             try clear hfz58_0
             try clear hfz58_1
             try clear hfz64_0
             try clear hfz64_1
             try clear hfz68_0
             try clear hfz68_1
             try clear hfz6_0
             try clear hfz6_1
             try clear hfz70_0
             try clear hfz70_1
             try clear hfz74_0
             try clear hfz74_1
             try clear hfz81_0
             try clear hfz81_1
             try clear hfz84_0
             try clear hfz84_1
             try clear hfz91_0
             try clear hfz91_1
             try clear hfz94_0
             try clear hfz94_1
             try clear hfz9_0
             try clear hfz9_1
             try clear p2
             try clear p6
             obtain ⟨kq, x12_76, rfl, HA, HJ76, BK292, BK296, BK297, BK301, HB⟩ := hcut
             cases kq with
             | zero => exact absurd HA.out (by simp [smaltoref01_Shift.j4])
             | succ kj76 =>
              have H := HA.out
              clear HA
              simp only [smaltoref01_Shift.j4] at H
              by_cases c96 : x12_76 = true
              ·subst c96
               have H1 : ((smaltoref01_Plus.f x298000_2 x298001_2 0 1).bind fun bt310 => ((smaltoref01_Hold.f kj76 bt310.1 bt310.2 (decide (a0 < 0))).bind fun t312 => (some t312))) = some r := by rw [if_pos rfl] at H; exact H
               clear H
               have H := H1
               clear H1
               replace H := Option.bind_eq_some_iff.mp H
               obtain ⟨⟨t310, t311⟩, A970, H⟩ := H
               replace H : ((smaltoref01_Hold.f kj76 t310 t311 (decide (a0 < 0))).bind fun t312 => (some t312)) = some r := H
               have A97 := Aside0.mk A970
               clear A970
               replace H := Option.bind_eq_some_iff.mp H
               obtain ⟨t312, A980, H⟩ := H
               replace H : (some t312) = some r := H
               have A98 := Aside0.mk A980
               clear A980
               obtain rfl := Option.some.inj H
               have hnb99 := NB297_292.out
               have hnc99 := NB292_297.out
               have hnb100 := NB297_296.out
               have hnc100 := NB296_297.out
               have hnb101 := NB297_301.out
               have hnc101 := NB301_297.out
               have hcz102_0 : wc.cell? ⟨gb297, 0, none⟩ = some (.int .u64 x298000_2) := (blk_cell BK297.out 0).trans rfl
               have hcz102_1 : wc.cell? ⟨gb297, 1, none⟩ = some (.int .u64 x298001_2) := (blk_cell BK297.out 1).trans rfl
               have hfz102_0 := blk_frozen BK297.out 0
               have hfz102_1 := blk_frozen BK297.out 1
               go_wp2_with (first | ((with_reducible refine gate_callee (f := 38) rfl ?_); refine goesL_ (some 72) rfl rfl Tryz.func38 (by kernel_rfl) rfl #[.agg #[.int .u64 x298000_2, .int .u64 x298001_2], .agg #[.int .u64 0, .int .u64 1]] rfl (by (try simp only [List.map_toArray, List.map_cons, List.map_nil]); first | done | rfl | (simp only [List.length_drop, List.length_take]; rfl)) ?_; (with_reducible refine (smaltoref01_Plus.calls x298000_2 x298001_2 0 1 t310 t311 _ A97.out).mono ?_); rintro e w103 ⟨rfl, hb⟩; refine ⟨_, rfl, ?_⟩; have n0_ := Aside0.mk (blk_below (g := gb292) (o := .cells #[.int .u64 x293000_1, .int .u64 x293001_1] 62 (0, 0)) (by (with_reducible repeat (first | refine blk_drewN ?_ _ | refine blk_drew ?_ | refine blk_alloc ?_ _)); exact BK292.out) hb); have n1_ := Aside0.mk (blk_below (g := gb296) (o := .cells #[.int .u64 0, .int .u64 t295] 62 (0, 0)) (by (with_reducible repeat (first | refine blk_drewN ?_ _ | refine blk_drew ?_ | refine blk_alloc ?_ _)); exact BK296.out) hb); have n2_ := Aside0.mk (blk_below (g := gb297) (o := .cells #[.int .u64 x298000_2, .int .u64 x298001_2] 62 (0, 0)) (by (with_reducible repeat (first | refine blk_drewN ?_ _ | refine blk_drew ?_ | refine blk_alloc ?_ _)); exact BK297.out) hb); have n3_ := Aside0.mk (blk_below (g := gb301) (o := .cells #[.int .u64 x302000_3, .int .u64 x302001_3] 62 (0, 0)) (by (with_reducible repeat (first | refine blk_drewN ?_ _ | refine blk_drew ?_ | refine blk_alloc ?_ _)); exact BK301.out) hb); have n4_ := Aside0.mk (below_step (by repeat (first | (with_reducible first | exact HB.out | apply below_alloc | apply pw_below_drewN | apply below_drew1 | refine below_set ?_ GE292.out | refine below_set ?_ GE296.out | refine below_set ?_ GE297.out | refine below_set ?_ GE301.out) | exact HB.out)) hb); clear BK292; clear BK296; clear BK297; clear BK301; clear HB; have BK292 := n0_; have BK296 := n1_; have BK297 := n2_; have BK301 := n3_; have HB := n4_; clear n0_ n1_ n2_ n3_ n4_; (try clear hb); (try clear hb2); (try clear hk); (try clear hi); have hcz104_0 : w103.cell? ⟨gb297, 0, none⟩ = some (.int .u64 x298000_2) := (blk_cell BK297.out 0).trans rfl; have hcz104_1 : w103.cell? ⟨gb297, 1, none⟩ = some (.int .u64 x298001_2) := (blk_cell BK297.out 1).trans rfl; have hfz104_0 := blk_frozen BK297.out 0; have hfz104_1 := blk_frozen BK297.out 1) | ((with_reducible refine gate_callee (f := 39) rfl ?_); refine goesL_ (some 76) rfl rfl Tryz.func39 (by kernel_rfl) rfl #[.agg #[.int .u64 t310, .int .u64 t311], .bool (decide (a0 < 0))] rfl (by (try simp only [List.map_toArray, List.map_cons, List.map_nil]); first | done | rfl | (simp only [List.length_drop, List.length_take]; rfl)) ?_; (with_reducible refine (smaltoref01_Hold.calls kj76 t310 t311 (decide (a0 < 0)) t312 _ A98.out).mono ?_); rintro e w105 ⟨rfl, hb⟩; refine ⟨_, rfl, ?_⟩; have n0_ := Aside0.mk (blk_below (g := gb292) (o := .cells #[.int .u64 x293000_1, .int .u64 x293001_1] 62 (0, 0)) (by (with_reducible repeat (first | refine blk_drewN ?_ _ | refine blk_drew ?_ | refine blk_alloc ?_ _)); refine blk_far ?_ NB292_297.out _; (with_reducible repeat (first | refine blk_drewN ?_ _ | refine blk_drew ?_ | refine blk_alloc ?_ _)); refine blk_far ?_ NB292_297.out _; (with_reducible repeat (first | refine blk_drewN ?_ _ | refine blk_drew ?_ | refine blk_alloc ?_ _)); exact BK292.out) hb); have n1_ := Aside0.mk (blk_below (g := gb296) (o := .cells #[.int .u64 0, .int .u64 t295] 62 (0, 0)) (by (with_reducible repeat (first | refine blk_drewN ?_ _ | refine blk_drew ?_ | refine blk_alloc ?_ _)); refine blk_far ?_ NB296_297.out _; (with_reducible repeat (first | refine blk_drewN ?_ _ | refine blk_drew ?_ | refine blk_alloc ?_ _)); refine blk_far ?_ NB296_297.out _; (with_reducible repeat (first | refine blk_drewN ?_ _ | refine blk_drew ?_ | refine blk_alloc ?_ _)); exact BK296.out) hb); have n2_ := Aside0.mk (blk_below (g := gb297) (o := .cells #[.int .u64 t310, .int .u64 t311] 62 (0, 0)) (by (with_reducible repeat (first | refine blk_drewN ?_ _ | refine blk_drew ?_ | refine blk_alloc ?_ _)); refine blk_put (cs := #[.int .u64 t310, .int .u64 x298001_2]) ?_ 1 _ rfl; (with_reducible repeat (first | refine blk_drewN ?_ _ | refine blk_drew ?_ | refine blk_alloc ?_ _)); refine blk_put (cs := #[.int .u64 x298000_2, .int .u64 x298001_2]) ?_ 0 _ rfl; (with_reducible repeat (first | refine blk_drewN ?_ _ | refine blk_drew ?_ | refine blk_alloc ?_ _)); exact BK297.out) hb); have n3_ := Aside0.mk (blk_below (g := gb301) (o := .cells #[.int .u64 x302000_3, .int .u64 x302001_3] 62 (0, 0)) (by (with_reducible repeat (first | refine blk_drewN ?_ _ | refine blk_drew ?_ | refine blk_alloc ?_ _)); refine blk_far ?_ NB301_297.out _; (with_reducible repeat (first | refine blk_drewN ?_ _ | refine blk_drew ?_ | refine blk_alloc ?_ _)); refine blk_far ?_ NB301_297.out _; (with_reducible repeat (first | refine blk_drewN ?_ _ | refine blk_drew ?_ | refine blk_alloc ?_ _)); exact BK301.out) hb); have n4_ := Aside0.mk (below_step (by repeat (first | (with_reducible first | exact HB.out | apply below_alloc | apply pw_below_drewN | apply below_drew1 | refine below_set ?_ GE292.out | refine below_set ?_ GE296.out | refine below_set ?_ GE297.out | refine below_set ?_ GE301.out) | exact HB.out)) hb); clear BK292; clear BK296; clear BK297; clear BK301; clear HB; have BK292 := n0_; have BK296 := n1_; have BK297 := n2_; have BK301 := n3_; have HB := n4_; clear n0_ n1_ n2_ n3_ n4_; (try clear hb); (try clear hb2); (try clear hk); (try clear hi)))
               go_ret
               exact ⟨by first | rfl | (simp [errW_none, errW_some] <;> rfl) | (simp [*, errW_none, errW_some] <;> rfl), by repeat (first | (with_reducible first | exact HB.out | apply below_alloc | apply pw_below_drewN | apply below_drew1 | refine below_set ?_ GE292.out | refine below_set ?_ GE296.out | refine below_set ?_ GE297.out | refine below_set ?_ GE301.out) | exact HB.out)⟩
              ·replace c96 := Bool.eq_false_iff.mpr c96
               subst c96
               have H1 : ((smaltoref01_Hold.f kj76 x298000_2 x298001_2 (decide (a0 < 0))).bind fun t313 => (some t313)) = some r := by rw [if_neg (show ¬ (false = true) by decide)] at H; exact H
               clear H
               have H := H1
               clear H1
               replace H := Option.bind_eq_some_iff.mp H
               obtain ⟨t313, A1060, H⟩ := H
               replace H : (some t313) = some r := H
               have A106 := Aside0.mk A1060
               clear A1060
               obtain rfl := Option.some.inj H
               have hnb107 := NB297_292.out
               have hnc107 := NB292_297.out
               have hnb108 := NB297_296.out
               have hnc108 := NB296_297.out
               have hnb109 := NB297_301.out
               have hnc109 := NB301_297.out
               have hcz110_0 : wc.cell? ⟨gb297, 0, none⟩ = some (.int .u64 x298000_2) := (blk_cell BK297.out 0).trans rfl
               have hcz110_1 : wc.cell? ⟨gb297, 1, none⟩ = some (.int .u64 x298001_2) := (blk_cell BK297.out 1).trans rfl
               have hfz110_0 := blk_frozen BK297.out 0
               have hfz110_1 := blk_frozen BK297.out 1
               go_wp2_with (first | ((with_reducible refine gate_callee (f := 39) rfl ?_); refine goesL_ (some 76) rfl rfl Tryz.func39 (by kernel_rfl) rfl #[.agg #[.int .u64 x298000_2, .int .u64 x298001_2], .bool (decide (a0 < 0))] rfl (by (try simp only [List.map_toArray, List.map_cons, List.map_nil]); first | done | rfl | (simp only [List.length_drop, List.length_take]; rfl)) ?_; (with_reducible refine (smaltoref01_Hold.calls kj76 x298000_2 x298001_2 (decide (a0 < 0)) t313 _ A106.out).mono ?_); rintro e w111 ⟨rfl, hb⟩; refine ⟨_, rfl, ?_⟩; have n0_ := Aside0.mk (blk_below (g := gb292) (o := .cells #[.int .u64 x293000_1, .int .u64 x293001_1] 62 (0, 0)) (by (with_reducible repeat (first | refine blk_drewN ?_ _ | refine blk_drew ?_ | refine blk_alloc ?_ _)); exact BK292.out) hb); have n1_ := Aside0.mk (blk_below (g := gb296) (o := .cells #[.int .u64 0, .int .u64 t295] 62 (0, 0)) (by (with_reducible repeat (first | refine blk_drewN ?_ _ | refine blk_drew ?_ | refine blk_alloc ?_ _)); exact BK296.out) hb); have n2_ := Aside0.mk (blk_below (g := gb297) (o := .cells #[.int .u64 x298000_2, .int .u64 x298001_2] 62 (0, 0)) (by (with_reducible repeat (first | refine blk_drewN ?_ _ | refine blk_drew ?_ | refine blk_alloc ?_ _)); exact BK297.out) hb); have n3_ := Aside0.mk (blk_below (g := gb301) (o := .cells #[.int .u64 x302000_3, .int .u64 x302001_3] 62 (0, 0)) (by (with_reducible repeat (first | refine blk_drewN ?_ _ | refine blk_drew ?_ | refine blk_alloc ?_ _)); exact BK301.out) hb); have n4_ := Aside0.mk (below_step (by repeat (first | (with_reducible first | exact HB.out | apply below_alloc | apply pw_below_drewN | apply below_drew1 | refine below_set ?_ GE292.out | refine below_set ?_ GE296.out | refine below_set ?_ GE297.out | refine below_set ?_ GE301.out) | exact HB.out)) hb); clear BK292; clear BK296; clear BK297; clear BK301; clear HB; have BK292 := n0_; have BK296 := n1_; have BK297 := n2_; have BK301 := n3_; have HB := n4_; clear n0_ n1_ n2_ n3_ n4_; (try clear hb); (try clear hb2); (try clear hk); (try clear hi)))
               go_ret
               exact ⟨by first | rfl | (simp [errW_none, errW_some] <;> rfl) | (simp [*, errW_none, errW_some] <;> rfl), by repeat (first | (with_reducible first | exact HB.out | apply below_alloc | apply pw_below_drewN | apply below_drew1 | refine below_set ?_ GE292.out | refine below_set ?_ GE296.out | refine below_set ?_ GE297.out | refine below_set ?_ GE301.out) | exact HB.out)⟩
end Go.Proofs.YtjenkaobmlpbgaaGreatDoor.QA

namespace Go.Proofs.YtjenkaobmlpbgaaGreatDoor.QA
open Go.Proofs.YtjenkaobmlpbgaaGreatDoor.T
open Go.RowKit Go.Proofs.YtjenkaobmlpbgaaGreatDoorW.PrintWords Go.Proofs.YtjenkaobmlpbgaaGreatDoorW.PrintLast Go.Proofs.YtjenkaobmlpbgaaGreatDoorW.PrintMore
attribute [local go_sem] ext_call max2_int min2_int max_two min_two max_three min_three max_four min_four   -- for this text's walks alone
set_option linter.unusedVariables false
set_option linter.unusedSimpArgs false
mutual
def smaltoref15_Round.j0 : Nat → Int → Int → Option (Int)
 | 0, _, _ => none
 | k + 1, x1, x5 => if x1 > 65535 then (smaltoref15_Round.j1 k 65535 x5) else (smaltoref15_Round.j1 k x1 x5)
def smaltoref15_Round.j1 : Nat → Int → Int → Option (Int)
 | 0, _, _ => none
 | k + 1, x1, x5 => if x5 < 0 then (some 0) else (if x5 > x1 then (some (IntKind.u16.wrap (x1))) else (some (IntKind.u16.wrap (x5))))
end
def smaltoref15_Round.f (k : Nat) (a0 : Int) (a1 : Int) : Option (Int) := (smaltoref01_Shift.f k a0 28).bind fun t314 => (if a1 < 0 then (smaltoref15_Round.j0 k 0 t314) else (smaltoref15_Round.j0 k a1 t314))
set_option maxHeartbeats 8000000 in
set_option maxRecDepth 100000 in
theorem smaltoref15_Round.calls (k : Nat) (a0 : Int) (a1 : Int) (r : Int) (w : World) (h : smaltoref15_Round.f k a0 a1 = some r) :
  Calls Tryz.prog 6 #[.int .i64 a0, .int .i64 a1] w fun e w' => e = .returned (.int .u16 r) ∧ Below w.heap.size w w' := by
 have HB := Aside0.mk (Below.refl w.heap.size w)
 have H : ((smaltoref01_Shift.f k a0 28).bind fun t314 => (if a1 < 0 then (smaltoref15_Round.j0 k 0 t314) else (smaltoref15_Round.j0 k a1 t314))) = some r := h
 clear h
 replace H := Option.bind_eq_some_iff.mp H
 obtain ⟨t314, A30, H⟩ := H
 replace H : (if a1 < 0 then (smaltoref15_Round.j0 k 0 t314) else (smaltoref15_Round.j0 k a1 t314)) = some r := H
 have A3 := Aside0.mk A30
 clear A30
 have HC4 := Aside0.mk H
 clear H
 go_enter Tryz.func6, Tryz.ntmps6
 go_upto_if 9 with (first | ((with_reducible refine gate_callee (f := 15) rfl ?_); refine goesL_ (some 7) rfl rfl Tryz.func15 (by kernel_rfl) rfl #[.int .i64 a0, .int .i64 28] rfl (by (try simp only [List.map_toArray, List.map_cons, List.map_nil]); first | done | rfl | (simp only [List.length_drop, List.length_take]; rfl)) ?_; (with_reducible refine (smaltoref01_Shift.calls k a0 28 t314 _ A3.out).mono ?_); rintro e w5 ⟨rfl, hb⟩; refine ⟨_, rfl, ?_⟩; have n0_ := Aside0.mk (below_step (by repeat (first | (with_reducible first | exact HB.out | apply below_alloc | apply pw_below_drewN | apply below_drew1) | exact HB.out)) hb); clear HB; have HB := n0_; clear n0_; (try clear hb); (try clear hb2); (try clear hk); (try clear hi)))
 (try simp only [Act.put, List.setIfInBounds_toArray, List.set_cons_zero, List.set_cons_succ])
 go_cut [1] (fun v1 wc => ∃ (kq : Nat) (x1_3 : Int), v1 = .int .i64 x1_3 ∧ Aside0 (smaltoref15_Round.j0 kq x1_3 t314 = some r) ∧ Aside0 (kq ≤ k) ∧ Aside0 (Below w.heap.size w wc))
 case first =>
  have H := HC4.out
  clear HC4
  by_cases c6 : a1 < 0
  ·rw [if_pos c6] at H
   have c6b0 : decide (a1 < 0) = true := decide_eq_true c6
   clear c6
   (first | rw [c6b0] | (simp only [i64_w, i32_w]; rw [c6b0]) | skip)
   have H' := Aside0.mk H
   clear H
   go_wp2
   go_meet
   case rel => exact ⟨_, (0), (by first | rfl | (simp; done) | (simp [*]; done)), H', ⟨by first | omega | exact Nat.le_refl _⟩, ⟨by repeat (first | (with_reducible first | exact HB.out | apply below_alloc | apply pw_below_drewN | apply below_drew1) | exact HB.out)⟩⟩
  ·rw [if_neg c6] at H
   have c6b0 : decide (a1 < 0) = false := decide_eq_false c6
   clear c6
   (first | rw [c6b0] | (simp only [i64_w, i32_w]; rw [c6b0]) | skip)
   have H' := Aside0.mk H
   clear H
   go_wp2
   go_meet
   case rel => exact ⟨_, (a1), (by first | rfl | (simp; done) | (simp [*]; done)), H', ⟨by first | omega | exact Nat.le_refl _⟩, ⟨by repeat (first | (with_reducible first | exact HB.out | apply below_alloc | apply pw_below_drewN | apply below_drew1) | exact HB.out)⟩⟩
 case rest =>
  clear HC4
  try clear c1
  try clear p2
  try clear c6
  try clear c6b0
  obtain ⟨kq, x1_3, rfl, HA, HJ3, HB⟩ := hcut
  cases kq with
  | zero => exact absurd HA.out (by simp [smaltoref15_Round.j0])
  | succ kj3 =>
   have H := HA.out
   clear HA
   simp only [smaltoref15_Round.j0] at H
   have HC7 := Aside0.mk H
   clear H
   go_upto_if 11 with (fail)
   go_cut [1] (fun v1 wc => ∃ (kq : Nat) (x1_6 : Int), v1 = .int .i64 x1_6 ∧ Aside0 (smaltoref15_Round.j1 kq x1_6 t314 = some r) ∧ Aside0 (kq ≤ kj3) ∧ Aside0 (Below w.heap.size w wc))
   case first =>
    have H := HC7.out
    clear HC7
    by_cases c8 : x1_3 > 65535
    ·rw [if_pos c8] at H
     have c8b0 : decide (65535 < x1_3) = true := decide_eq_true c8
     clear c8
     (first | rw [c8b0] | (simp only [i64_w, i32_w]; rw [c8b0]) | skip)
     have H' := Aside0.mk H
     clear H
     go_wp2
     go_meet
     case rel => exact ⟨_, (65535), (by first | rfl | (simp; done) | (simp [*]; done)), H', ⟨by have := HJ3.out; first | omega | exact Nat.le_refl _⟩, ⟨by repeat (first | (with_reducible first | exact HB.out | apply below_alloc | apply pw_below_drewN | apply below_drew1) | exact HB.out)⟩⟩
    ·rw [if_neg c8] at H
     have c8b0 : decide (65535 < x1_3) = false := decide_eq_false c8
     clear c8
     (first | rw [c8b0] | (simp only [i64_w, i32_w]; rw [c8b0]) | skip)
     have H' := Aside0.mk H
     clear H
     go_wp2
     go_meet
     case rel => exact ⟨_, (x1_3), (by first | rfl | (simp; done) | (simp [*]; done)), H', ⟨by have := HJ3.out; first | omega | exact Nat.le_refl _⟩, ⟨by repeat (first | (with_reducible first | exact HB.out | apply below_alloc | apply pw_below_drewN | apply below_drew1) | exact HB.out)⟩⟩
   case rest =>
    clear HC7
    try clear c1
    try clear p2
    try clear c6
    try clear c6b0
    try clear c8
    try clear c8b0
    try clear p2
    obtain ⟨kq, x1_6, rfl, HA, HJ6, HB⟩ := hcut
    cases kq with
    | zero => exact absurd HA.out (by simp [smaltoref15_Round.j1])
    | succ kj6 =>
     have H := HA.out
     clear HA
     simp only [smaltoref15_Round.j1] at H
     by_cases c9 : t314 < 0
     ·rw [if_pos c9] at H
      have c9b0 : decide (t314 < 0) = true := decide_eq_true c9
      clear c9
      obtain rfl := Option.some.inj H
      go_wp2
      go_ret
      exact ⟨by first | rfl | (simp [errW_none, errW_some] <;> rfl) | (simp [*, errW_none, errW_some] <;> rfl), by repeat (first | (with_reducible first | exact HB.out | apply below_alloc | apply pw_below_drewN | apply below_drew1) | exact HB.out)⟩
     ·rw [if_neg c9] at H
      have c9b0 : decide (t314 < 0) = false := decide_eq_false c9
      clear c9
      by_cases c10 : t314 > x1_6
      ·rw [if_pos c10] at H
       have c10b0 : decide (x1_6 < t314) = true := decide_eq_true c10
       clear c10
       obtain rfl := Option.some.inj H
       go_wp2
       go_ret
       exact ⟨by first | rfl | (simp [errW_none, errW_some] <;> rfl) | (simp [*, errW_none, errW_some] <;> rfl), by repeat (first | (with_reducible first | exact HB.out | apply below_alloc | apply pw_below_drewN | apply below_drew1) | exact HB.out)⟩
      ·rw [if_neg c10] at H
       have c10b0 : decide (x1_6 < t314) = false := decide_eq_false c10
       clear c10
       obtain rfl := Option.some.inj H
       go_wp2
       go_ret
       exact ⟨by first | rfl | (simp [errW_none, errW_some] <;> rfl) | (simp [*, errW_none, errW_some] <;> rfl), by repeat (first | (with_reducible first | exact HB.out | apply below_alloc | apply pw_below_drewN | apply below_drew1) | exact HB.out)⟩
end Go.Proofs.YtjenkaobmlpbgaaGreatDoor.QA

namespace Go.Proofs.YtjenkaobmlpbgaaGreatDoor.QA
open Go.Proofs.YtjenkaobmlpbgaaGreatDoor.T
open Go.RowKit Go.Proofs.YtjenkaobmlpbgaaGreatDoorW.PrintWords Go.Proofs.YtjenkaobmlpbgaaGreatDoorW.PrintLast Go.Proofs.YtjenkaobmlpbgaaGreatDoorW.PrintMore
attribute [local go_sem] ext_call max2_int min2_int max_two min_two max_three min_three max_four min_four   -- for this text's walks alone
set_option linter.unusedVariables false
set_option linter.unusedSimpArgs false
def taps_Apportion.f (a0 : List Int) : Option (List Int × Int) := appF a0
theorem taps_Apportion.calls (A0 : Option Addr) (c0 : Nat) (l0 : List Int) (r1 : List Int) (r2 : Int) (w : World) (hr0 : Kd.C (Kd.int .i64) w A0 l0.length l0) (hc0 : l0.length ≤ c0) (h : taps_Apportion.f l0 = some (r1, r2)) :
  Calls Tryz.prog 55 #[.slice A0 l0.length c0] w fun e w' => ∃ v0_ : Value, e = .returned (.tuple #[v0_, .int .i64 r2]) ∧ Kd.R (Kd.int .i64) 2 w' w.heap.size (fun _ => True) v0_ r1 ∧ Below w.heap.size w w' := appF_calls A0 c0 l0 r1 r2 w hr0 hc0 h
end Go.Proofs.YtjenkaobmlpbgaaGreatDoor.QA
