/- Joined by wip/tools/bundle.py out of: QAx22 QAx9 QAx10 QAx13. -/
import Derived.Test.YtjenkaobmlpbgaaDoorBOpChains0
import Derived.Test.YtjenkaobmlpbgaaDoorBOpChains1
import Derived.Test.YtjenkaobmlpbgaaDoorBOpChains2
import Derived.Test.YtjenkaobmlpbgaaDoorBOpChains5
namespace Go.Proofs.YtjenkaobmlpbgaaDoor.QA
open Go.Proofs.YtjenkaobmlpbgaaDoor.T
open Go.RowKit Go.Proofs.YtjenkaobmlpbgaaDoorW.PrintWords Go.Proofs.YtjenkaobmlpbgaaDoorW.PrintLast Go.Proofs.YtjenkaobmlpbgaaDoorW.PrintMore
attribute [local go_sem] ext_call max2_int min2_int max_two min_two max_three min_three max_four min_four   -- for this text's walks alone
set_option linter.unusedVariables false
set_option linter.unusedSimpArgs false
def op_Size.f (a0_0 : Int) (a0_1 : Int) (a0_2 : Int) (a0_3 : Int) (l0_4 : List Int) (l0_5 : List Int) (a0_6 : Int) (a0_7 : Int) (a0_8 : Int) (a1 : Int) (a2 : Int) : Option (Int × Int) := if a0_0 = 3 then (some (a0_7, a0_8)) else (some (a1, a2))
set_option maxHeartbeats 8000000 in
set_option maxRecDepth 100000 in
theorem op_Size.calls (a0_0 : Int) (a0_1 : Int) (a0_2 : Int) (a0_3 : Int) (A0_4 : Option Addr) (c0_4 : Nat) (l0_4 : List Int) (A0_5 : Option Addr) (c0_5 : Nat) (l0_5 : List Int) (a0_6 : Int) (a0_7 : Int) (a0_8 : Int) (a1 : Int) (a2 : Int) (r1 : Int) (r2 : Int) (w : World) (hr0_4 : Kd.C (Kd.int .i64) w A0_4 l0_4.length l0_4) (hc0_4 : l0_4.length ≤ c0_4) (hr0_5 : Kd.C (Kd.int .i64) w A0_5 l0_5.length l0_5) (hc0_5 : l0_5.length ≤ c0_5) (h : op_Size.f a0_0 a0_1 a0_2 a0_3 l0_4 l0_5 a0_6 a0_7 a0_8 a1 a2 = some (r1, r2)) :
  Calls Tryd.prog 12 #[.agg #[.int .i64 a0_0, .int .i64 a0_1, .int .i64 a0_2, .int .i64 a0_3, .slice A0_4 l0_4.length c0_4, .slice A0_5 l0_5.length c0_5, .int .i64 a0_6, .int .i64 a0_7, .int .i64 a0_8], .int .i64 a1, .int .i64 a2] w fun e w' => e = .returned (.tuple #[.int .i64 r1, .int .i64 r2]) ∧ Below w.heap.size w w' := by
 have hu34 := Tryd.underlying34
 have HR0_4 := Aside0.mk hr0_4
 have HC0_4 := Aside0.mk hc0_4
 clear hr0_4 hc0_4
 have HR0_5 := Aside0.mk hr0_5
 have HC0_5 := Aside0.mk hc0_5
 clear hr0_5 hc0_5
 have HB := Aside0.mk (Below.refl w.heap.size w)
 have H : (if a0_0 = 3 then (some (a0_7, a0_8)) else (some (a1, a2))) = some (r1, r2) := h
 clear h
 by_cases c4 : a0_0 = 3
 ·rw [if_pos c4] at H
  have c4b0 : (a0_0 == 3) = true := beq_iff_eq.mpr c4
  have c4b1 : (a0_0 != 3) = false := bne_eq_false_iff_eq.mpr c4
  clear c4
  simp only [Option.some.injEq, Prod.mk.injEq] at H
  obtain ⟨rfl, rfl⟩ := H
  go_enter Tryd.func12, Tryd.ntmps12
  go_wp2_with (first | ((with_reducible refine gate_dst (N := 3) rfl ?_); refine box_event ?hg (N := 3) ?hd (cs := #[.int .i64 a0_0, .int .i64 a0_1, .int .i64 a0_2, .int .i64 a0_3, .slice A0_4 l0_4.length c0_4, .slice A0_5 l0_5.length c0_5, .int .i64 a0_6, .int .i64 a0_7, .int .i64 a0_8]) (t := 34) ?hr ?_; (case hd => rfl); (case hg => rfl); (case hr => first | (go_simp; done) | (go_simp; rfl)); intro gb259 hg w5 hbox hb; have n0_ := Aside0.mk (below_step (by repeat (first | (with_reducible first | exact HB.out | apply below_alloc | apply pw_below_drewN | apply below_drew1) | exact HB.out)) hb); have n1_ := Aside0.mk (hbox); have n2_ := Aside0.mk ((by rw [hg]; exact (below_size (by repeat (first | (with_reducible first | exact HB.out | apply below_alloc | apply pw_below_drewN | apply below_drew1) | exact HB.out))) : w.heap.size ≤ gb259)); have n3_ := Aside0.mk ((by rw [hg]; exact (below_size (by repeat (first | (with_reducible first | exact HB.out | apply below_alloc | apply pw_below_drewN | apply below_drew1) | exact HB.out))) : w.heap.size ≤ gb259)); clear HB; have HB := n0_; have BK259 := n1_; have GW259 := n2_; have GE259 := n3_; clear n0_ n1_ n2_ n3_; clear hb hbox hg; have hcz6_0 : w5.cell? ⟨gb259, 0, none⟩ = some (.int .i64 a0_0) := (blk_cell BK259.out 0).trans rfl; have hcz6_1 : w5.cell? ⟨gb259, 1, none⟩ = some (.int .i64 a0_1) := (blk_cell BK259.out 1).trans rfl; have hcz6_2 : w5.cell? ⟨gb259, 2, none⟩ = some (.int .i64 a0_2) := (blk_cell BK259.out 2).trans rfl; have hcz6_3 : w5.cell? ⟨gb259, 3, none⟩ = some (.int .i64 a0_3) := (blk_cell BK259.out 3).trans rfl; have hcz6_4 : w5.cell? ⟨gb259, 4, none⟩ = some (.slice A0_4 l0_4.length c0_4) := (blk_cell BK259.out 4).trans rfl; have hcz6_5 : w5.cell? ⟨gb259, 5, none⟩ = some (.slice A0_5 l0_5.length c0_5) := (blk_cell BK259.out 5).trans rfl; have hcz6_6 : w5.cell? ⟨gb259, 6, none⟩ = some (.int .i64 a0_6) := (blk_cell BK259.out 6).trans rfl; have hcz6_7 : w5.cell? ⟨gb259, 7, none⟩ = some (.int .i64 a0_7) := (blk_cell BK259.out 7).trans rfl; have hcz6_8 : w5.cell? ⟨gb259, 8, none⟩ = some (.int .i64 a0_8) := (blk_cell BK259.out 8).trans rfl; have hfz6_0 := blk_frozen BK259.out 0; have hfz6_1 := blk_frozen BK259.out 1; have hfz6_2 := blk_frozen BK259.out 2; have hfz6_3 := blk_frozen BK259.out 3; have hfz6_4 := blk_frozen BK259.out 4; have hfz6_5 := blk_frozen BK259.out 5; have hfz6_6 := blk_frozen BK259.out 6; have hfz6_7 := blk_frozen BK259.out 7; have hfz6_8 := blk_frozen BK259.out 8))
  repeat (go_quiet (first | ((with_reducible refine gate_dst (N := 3) rfl ?_); refine box_event ?hg (N := 3) ?hd (cs := #[.int .i64 a0_0, .int .i64 a0_1, .int .i64 a0_2, .int .i64 a0_3, .slice A0_4 l0_4.length c0_4, .slice A0_5 l0_5.length c0_5, .int .i64 a0_6, .int .i64 a0_7, .int .i64 a0_8]) (t := 34) ?hr ?_; (case hd => rfl); (case hg => rfl); (case hr => first | (go_simp; done) | (go_simp; rfl)); intro gb259 hg w5 hbox hb; have n0_ := Aside0.mk (below_step (by repeat (first | (with_reducible first | exact HB.out | apply below_alloc | apply pw_below_drewN | apply below_drew1) | exact HB.out)) hb); have n1_ := Aside0.mk (hbox); have n2_ := Aside0.mk ((by rw [hg]; exact (below_size (by repeat (first | (with_reducible first | exact HB.out | apply below_alloc | apply pw_below_drewN | apply below_drew1) | exact HB.out))) : w.heap.size ≤ gb259)); have n3_ := Aside0.mk ((by rw [hg]; exact (below_size (by repeat (first | (with_reducible first | exact HB.out | apply below_alloc | apply pw_below_drewN | apply below_drew1) | exact HB.out))) : w.heap.size ≤ gb259)); clear HB; have HB := n0_; have BK259 := n1_; have GW259 := n2_; have GE259 := n3_; clear n0_ n1_ n2_ n3_; clear hb hbox hg; have hcz6_0 : w5.cell? ⟨gb259, 0, none⟩ = some (.int .i64 a0_0) := (blk_cell BK259.out 0).trans rfl; have hcz6_1 : w5.cell? ⟨gb259, 1, none⟩ = some (.int .i64 a0_1) := (blk_cell BK259.out 1).trans rfl; have hcz6_2 : w5.cell? ⟨gb259, 2, none⟩ = some (.int .i64 a0_2) := (blk_cell BK259.out 2).trans rfl; have hcz6_3 : w5.cell? ⟨gb259, 3, none⟩ = some (.int .i64 a0_3) := (blk_cell BK259.out 3).trans rfl; have hcz6_4 : w5.cell? ⟨gb259, 4, none⟩ = some (.slice A0_4 l0_4.length c0_4) := (blk_cell BK259.out 4).trans rfl; have hcz6_5 : w5.cell? ⟨gb259, 5, none⟩ = some (.slice A0_5 l0_5.length c0_5) := (blk_cell BK259.out 5).trans rfl; have hcz6_6 : w5.cell? ⟨gb259, 6, none⟩ = some (.int .i64 a0_6) := (blk_cell BK259.out 6).trans rfl; have hcz6_7 : w5.cell? ⟨gb259, 7, none⟩ = some (.int .i64 a0_7) := (blk_cell BK259.out 7).trans rfl; have hcz6_8 : w5.cell? ⟨gb259, 8, none⟩ = some (.int .i64 a0_8) := (blk_cell BK259.out 8).trans rfl; have hfz6_0 := blk_frozen BK259.out 0; have hfz6_1 := blk_frozen BK259.out 1; have hfz6_2 := blk_frozen BK259.out 2; have hfz6_3 := blk_frozen BK259.out 3; have hfz6_4 := blk_frozen BK259.out 4; have hfz6_5 := blk_frozen BK259.out 5; have hfz6_6 := blk_frozen BK259.out 6; have hfz6_7 := blk_frozen BK259.out 7; have hfz6_8 := blk_frozen BK259.out 8)); try go_wp2_with (first | ((with_reducible refine gate_dst (N := 3) rfl ?_); refine box_event ?hg (N := 3) ?hd (cs := #[.int .i64 a0_0, .int .i64 a0_1, .int .i64 a0_2, .int .i64 a0_3, .slice A0_4 l0_4.length c0_4, .slice A0_5 l0_5.length c0_5, .int .i64 a0_6, .int .i64 a0_7, .int .i64 a0_8]) (t := 34) ?hr ?_; (case hd => rfl); (case hg => rfl); (case hr => first | (go_simp; done) | (go_simp; rfl)); intro gb259 hg w5 hbox hb; have n0_ := Aside0.mk (below_step (by repeat (first | (with_reducible first | exact HB.out | apply below_alloc | apply pw_below_drewN | apply below_drew1) | exact HB.out)) hb); have n1_ := Aside0.mk (hbox); have n2_ := Aside0.mk ((by rw [hg]; exact (below_size (by repeat (first | (with_reducible first | exact HB.out | apply below_alloc | apply pw_below_drewN | apply below_drew1) | exact HB.out))) : w.heap.size ≤ gb259)); have n3_ := Aside0.mk ((by rw [hg]; exact (below_size (by repeat (first | (with_reducible first | exact HB.out | apply below_alloc | apply pw_below_drewN | apply below_drew1) | exact HB.out))) : w.heap.size ≤ gb259)); clear HB; have HB := n0_; have BK259 := n1_; have GW259 := n2_; have GE259 := n3_; clear n0_ n1_ n2_ n3_; clear hb hbox hg; have hcz6_0 : w5.cell? ⟨gb259, 0, none⟩ = some (.int .i64 a0_0) := (blk_cell BK259.out 0).trans rfl; have hcz6_1 : w5.cell? ⟨gb259, 1, none⟩ = some (.int .i64 a0_1) := (blk_cell BK259.out 1).trans rfl; have hcz6_2 : w5.cell? ⟨gb259, 2, none⟩ = some (.int .i64 a0_2) := (blk_cell BK259.out 2).trans rfl; have hcz6_3 : w5.cell? ⟨gb259, 3, none⟩ = some (.int .i64 a0_3) := (blk_cell BK259.out 3).trans rfl; have hcz6_4 : w5.cell? ⟨gb259, 4, none⟩ = some (.slice A0_4 l0_4.length c0_4) := (blk_cell BK259.out 4).trans rfl; have hcz6_5 : w5.cell? ⟨gb259, 5, none⟩ = some (.slice A0_5 l0_5.length c0_5) := (blk_cell BK259.out 5).trans rfl; have hcz6_6 : w5.cell? ⟨gb259, 6, none⟩ = some (.int .i64 a0_6) := (blk_cell BK259.out 6).trans rfl; have hcz6_7 : w5.cell? ⟨gb259, 7, none⟩ = some (.int .i64 a0_7) := (blk_cell BK259.out 7).trans rfl; have hcz6_8 : w5.cell? ⟨gb259, 8, none⟩ = some (.int .i64 a0_8) := (blk_cell BK259.out 8).trans rfl; have hfz6_0 := blk_frozen BK259.out 0; have hfz6_1 := blk_frozen BK259.out 1; have hfz6_2 := blk_frozen BK259.out 2; have hfz6_3 := blk_frozen BK259.out 3; have hfz6_4 := blk_frozen BK259.out 4; have hfz6_5 := blk_frozen BK259.out 5; have hfz6_6 := blk_frozen BK259.out 6; have hfz6_7 := blk_frozen BK259.out 7; have hfz6_8 := blk_frozen BK259.out 8)))
  go_ret2
  exact ⟨by first | rfl | (simp [errW_none, errW_some] <;> rfl) | (simp [*, errW_none, errW_some] <;> rfl), by repeat (first | (with_reducible first | exact HB.out | apply below_alloc | apply pw_below_drewN | apply below_drew1 | refine below_set ?_ GE259.out) | exact HB.out)⟩
 ·rw [if_neg c4] at H
  have c4b0 : (a0_0 == 3) = false := beq_eq_false_iff_ne.mpr c4
  have c4b1 : (a0_0 != 3) = true := bne_iff_ne.mpr c4
  simp only [Option.some.injEq, Prod.mk.injEq] at H
  obtain ⟨rfl, rfl⟩ := H
  go_enter Tryd.func12, Tryd.ntmps12
  go_wp2_with (first | ((with_reducible refine gate_dst (N := 3) rfl ?_); refine box_event ?hg (N := 3) ?hd (cs := #[.int .i64 a0_0, .int .i64 a0_1, .int .i64 a0_2, .int .i64 a0_3, .slice A0_4 l0_4.length c0_4, .slice A0_5 l0_5.length c0_5, .int .i64 a0_6, .int .i64 a0_7, .int .i64 a0_8]) (t := 34) ?hr ?_; (case hd => rfl); (case hg => rfl); (case hr => first | (go_simp; done) | (go_simp; rfl)); intro gb259 hg w7 hbox hb; have n0_ := Aside0.mk (below_step (by repeat (first | (with_reducible first | exact HB.out | apply below_alloc | apply pw_below_drewN | apply below_drew1) | exact HB.out)) hb); have n1_ := Aside0.mk (hbox); have n2_ := Aside0.mk ((by rw [hg]; exact (below_size (by repeat (first | (with_reducible first | exact HB.out | apply below_alloc | apply pw_below_drewN | apply below_drew1) | exact HB.out))) : w.heap.size ≤ gb259)); have n3_ := Aside0.mk ((by rw [hg]; exact (below_size (by repeat (first | (with_reducible first | exact HB.out | apply below_alloc | apply pw_below_drewN | apply below_drew1) | exact HB.out))) : w.heap.size ≤ gb259)); clear HB; have HB := n0_; have BK259 := n1_; have GW259 := n2_; have GE259 := n3_; clear n0_ n1_ n2_ n3_; clear hb hbox hg; have hcz8_0 : w7.cell? ⟨gb259, 0, none⟩ = some (.int .i64 a0_0) := (blk_cell BK259.out 0).trans rfl; have hcz8_1 : w7.cell? ⟨gb259, 1, none⟩ = some (.int .i64 a0_1) := (blk_cell BK259.out 1).trans rfl; have hcz8_2 : w7.cell? ⟨gb259, 2, none⟩ = some (.int .i64 a0_2) := (blk_cell BK259.out 2).trans rfl; have hcz8_3 : w7.cell? ⟨gb259, 3, none⟩ = some (.int .i64 a0_3) := (blk_cell BK259.out 3).trans rfl; have hcz8_4 : w7.cell? ⟨gb259, 4, none⟩ = some (.slice A0_4 l0_4.length c0_4) := (blk_cell BK259.out 4).trans rfl; have hcz8_5 : w7.cell? ⟨gb259, 5, none⟩ = some (.slice A0_5 l0_5.length c0_5) := (blk_cell BK259.out 5).trans rfl; have hcz8_6 : w7.cell? ⟨gb259, 6, none⟩ = some (.int .i64 a0_6) := (blk_cell BK259.out 6).trans rfl; have hcz8_7 : w7.cell? ⟨gb259, 7, none⟩ = some (.int .i64 a0_7) := (blk_cell BK259.out 7).trans rfl; have hcz8_8 : w7.cell? ⟨gb259, 8, none⟩ = some (.int .i64 a0_8) := (blk_cell BK259.out 8).trans rfl; have hfz8_0 := blk_frozen BK259.out 0; have hfz8_1 := blk_frozen BK259.out 1; have hfz8_2 := blk_frozen BK259.out 2; have hfz8_3 := blk_frozen BK259.out 3; have hfz8_4 := blk_frozen BK259.out 4; have hfz8_5 := blk_frozen BK259.out 5; have hfz8_6 := blk_frozen BK259.out 6; have hfz8_7 := blk_frozen BK259.out 7; have hfz8_8 := blk_frozen BK259.out 8))
  repeat (go_quiet (first | ((with_reducible refine gate_dst (N := 3) rfl ?_); refine box_event ?hg (N := 3) ?hd (cs := #[.int .i64 a0_0, .int .i64 a0_1, .int .i64 a0_2, .int .i64 a0_3, .slice A0_4 l0_4.length c0_4, .slice A0_5 l0_5.length c0_5, .int .i64 a0_6, .int .i64 a0_7, .int .i64 a0_8]) (t := 34) ?hr ?_; (case hd => rfl); (case hg => rfl); (case hr => first | (go_simp; done) | (go_simp; rfl)); intro gb259 hg w7 hbox hb; have n0_ := Aside0.mk (below_step (by repeat (first | (with_reducible first | exact HB.out | apply below_alloc | apply pw_below_drewN | apply below_drew1) | exact HB.out)) hb); have n1_ := Aside0.mk (hbox); have n2_ := Aside0.mk ((by rw [hg]; exact (below_size (by repeat (first | (with_reducible first | exact HB.out | apply below_alloc | apply pw_below_drewN | apply below_drew1) | exact HB.out))) : w.heap.size ≤ gb259)); have n3_ := Aside0.mk ((by rw [hg]; exact (below_size (by repeat (first | (with_reducible first | exact HB.out | apply below_alloc | apply pw_below_drewN | apply below_drew1) | exact HB.out))) : w.heap.size ≤ gb259)); clear HB; have HB := n0_; have BK259 := n1_; have GW259 := n2_; have GE259 := n3_; clear n0_ n1_ n2_ n3_; clear hb hbox hg; have hcz8_0 : w7.cell? ⟨gb259, 0, none⟩ = some (.int .i64 a0_0) := (blk_cell BK259.out 0).trans rfl; have hcz8_1 : w7.cell? ⟨gb259, 1, none⟩ = some (.int .i64 a0_1) := (blk_cell BK259.out 1).trans rfl; have hcz8_2 : w7.cell? ⟨gb259, 2, none⟩ = some (.int .i64 a0_2) := (blk_cell BK259.out 2).trans rfl; have hcz8_3 : w7.cell? ⟨gb259, 3, none⟩ = some (.int .i64 a0_3) := (blk_cell BK259.out 3).trans rfl; have hcz8_4 : w7.cell? ⟨gb259, 4, none⟩ = some (.slice A0_4 l0_4.length c0_4) := (blk_cell BK259.out 4).trans rfl; have hcz8_5 : w7.cell? ⟨gb259, 5, none⟩ = some (.slice A0_5 l0_5.length c0_5) := (blk_cell BK259.out 5).trans rfl; have hcz8_6 : w7.cell? ⟨gb259, 6, none⟩ = some (.int .i64 a0_6) := (blk_cell BK259.out 6).trans rfl; have hcz8_7 : w7.cell? ⟨gb259, 7, none⟩ = some (.int .i64 a0_7) := (blk_cell BK259.out 7).trans rfl; have hcz8_8 : w7.cell? ⟨gb259, 8, none⟩ = some (.int .i64 a0_8) := (blk_cell BK259.out 8).trans rfl; have hfz8_0 := blk_frozen BK259.out 0; have hfz8_1 := blk_frozen BK259.out 1; have hfz8_2 := blk_frozen BK259.out 2; have hfz8_3 := blk_frozen BK259.out 3; have hfz8_4 := blk_frozen BK259.out 4; have hfz8_5 := blk_frozen BK259.out 5; have hfz8_6 := blk_frozen BK259.out 6; have hfz8_7 := blk_frozen BK259.out 7; have hfz8_8 := blk_frozen BK259.out 8)); try go_wp2_with (first | ((with_reducible refine gate_dst (N := 3) rfl ?_); refine box_event ?hg (N := 3) ?hd (cs := #[.int .i64 a0_0, .int .i64 a0_1, .int .i64 a0_2, .int .i64 a0_3, .slice A0_4 l0_4.length c0_4, .slice A0_5 l0_5.length c0_5, .int .i64 a0_6, .int .i64 a0_7, .int .i64 a0_8]) (t := 34) ?hr ?_; (case hd => rfl); (case hg => rfl); (case hr => first | (go_simp; done) | (go_simp; rfl)); intro gb259 hg w7 hbox hb; have n0_ := Aside0.mk (below_step (by repeat (first | (with_reducible first | exact HB.out | apply below_alloc | apply pw_below_drewN | apply below_drew1) | exact HB.out)) hb); have n1_ := Aside0.mk (hbox); have n2_ := Aside0.mk ((by rw [hg]; exact (below_size (by repeat (first | (with_reducible first | exact HB.out | apply below_alloc | apply pw_below_drewN | apply below_drew1) | exact HB.out))) : w.heap.size ≤ gb259)); have n3_ := Aside0.mk ((by rw [hg]; exact (below_size (by repeat (first | (with_reducible first | exact HB.out | apply below_alloc | apply pw_below_drewN | apply below_drew1) | exact HB.out))) : w.heap.size ≤ gb259)); clear HB; have HB := n0_; have BK259 := n1_; have GW259 := n2_; have GE259 := n3_; clear n0_ n1_ n2_ n3_; clear hb hbox hg; have hcz8_0 : w7.cell? ⟨gb259, 0, none⟩ = some (.int .i64 a0_0) := (blk_cell BK259.out 0).trans rfl; have hcz8_1 : w7.cell? ⟨gb259, 1, none⟩ = some (.int .i64 a0_1) := (blk_cell BK259.out 1).trans rfl; have hcz8_2 : w7.cell? ⟨gb259, 2, none⟩ = some (.int .i64 a0_2) := (blk_cell BK259.out 2).trans rfl; have hcz8_3 : w7.cell? ⟨gb259, 3, none⟩ = some (.int .i64 a0_3) := (blk_cell BK259.out 3).trans rfl; have hcz8_4 : w7.cell? ⟨gb259, 4, none⟩ = some (.slice A0_4 l0_4.length c0_4) := (blk_cell BK259.out 4).trans rfl; have hcz8_5 : w7.cell? ⟨gb259, 5, none⟩ = some (.slice A0_5 l0_5.length c0_5) := (blk_cell BK259.out 5).trans rfl; have hcz8_6 : w7.cell? ⟨gb259, 6, none⟩ = some (.int .i64 a0_6) := (blk_cell BK259.out 6).trans rfl; have hcz8_7 : w7.cell? ⟨gb259, 7, none⟩ = some (.int .i64 a0_7) := (blk_cell BK259.out 7).trans rfl; have hcz8_8 : w7.cell? ⟨gb259, 8, none⟩ = some (.int .i64 a0_8) := (blk_cell BK259.out 8).trans rfl; have hfz8_0 := blk_frozen BK259.out 0; have hfz8_1 := blk_frozen BK259.out 1; have hfz8_2 := blk_frozen BK259.out 2; have hfz8_3 := blk_frozen BK259.out 3; have hfz8_4 := blk_frozen BK259.out 4; have hfz8_5 := blk_frozen BK259.out 5; have hfz8_6 := blk_frozen BK259.out 6; have hfz8_7 := blk_frozen BK259.out 7; have hfz8_8 := blk_frozen BK259.out 8)))
  go_ret2
  exact ⟨by first | rfl | (simp [errW_none, errW_some] <;> rfl) | (simp [*, errW_none, errW_some] <;> rfl), by repeat (first | (with_reducible first | exact HB.out | apply below_alloc | apply pw_below_drewN | apply below_drew1 | refine below_set ?_ GE259.out) | exact HB.out)⟩
def raster_Fits.f (a0 : Int) (a1 : Int) (a2 : Int) : Option (Bool) := if a0 ≥ 1 then (if a0 ≤ 65536 then (if a1 ≥ 1 then (if a1 ≤ 65536 then (if a2 = 1 then (some (decide ((wrap64 ((wrap64 (a0 * a1)) * a2)) ≤ 268435456))) else (if a2 = 3 then (some (decide ((wrap64 ((wrap64 (a0 * a1)) * a2)) ≤ 268435456))) else (some false))) else (some false)) else (some false)) else (some false)) else (some false)
set_option maxHeartbeats 8000000 in
set_option maxRecDepth 100000 in
theorem raster_Fits.calls (a0 : Int) (a1 : Int) (a2 : Int) (r : Bool) (w : World) (h : raster_Fits.f a0 a1 a2 = some r) :
  Calls Tryd.prog 21 #[.int .i64 a0, .int .i64 a1, .int .i64 a2] w fun e w' => e = .returned (.bool r) ∧ Drawn0 w w' := by
 have H : (if a0 ≥ 1 then (if a0 ≤ 65536 then (if a1 ≥ 1 then (if a1 ≤ 65536 then (if a2 = 1 then (some (decide ((wrap64 ((wrap64 (a0 * a1)) * a2)) ≤ 268435456))) else (if a2 = 3 then (some (decide ((wrap64 ((wrap64 (a0 * a1)) * a2)) ≤ 268435456))) else (some false))) else (some false)) else (some false)) else (some false)) else (some false)) = some r := h
 clear h
 by_cases c4 : a0 ≥ 1
 ·rw [if_pos c4] at H
  have c4b0 : decide (1 ≤ a0) = true := decide_eq_true c4
  clear c4
  by_cases c5 : a0 ≤ 65536
  ·rw [if_pos c5] at H
   have c5b0 : decide (a0 ≤ 65536) = true := decide_eq_true c5
   clear c5
   by_cases c6 : a1 ≥ 1
   ·rw [if_pos c6] at H
    have c6b0 : decide (1 ≤ a1) = true := decide_eq_true c6
    clear c6
    by_cases c7 : a1 ≤ 65536
    ·rw [if_pos c7] at H
     have c7b0 : decide (a1 ≤ 65536) = true := decide_eq_true c7
     clear c7
     by_cases c8 : a2 = 1
     ·rw [if_pos c8] at H
      have c8b0 : (a2 == 1) = true := beq_iff_eq.mpr c8
      have c8b1 : (a2 != 1) = false := bne_eq_false_iff_eq.mpr c8
      clear c8
      obtain rfl := Option.some.inj H
      go_enter Tryd.func21, Tryd.ntmps21
      go_wp2
      go_ret
      exact ⟨by first | rfl | (simp; done) | (simp [*]; done), by repeat (first | exact Drawn0.refl _ | apply Drawn0.step)⟩
     ·rw [if_neg c8] at H
      have c8b0 : (a2 == 1) = false := beq_eq_false_iff_ne.mpr c8
      have c8b1 : (a2 != 1) = true := bne_iff_ne.mpr c8
      by_cases c9 : a2 = 3
      ·rw [if_pos c9] at H
       have c9b0 : (a2 == 3) = true := beq_iff_eq.mpr c9
       have c9b1 : (a2 != 3) = false := bne_eq_false_iff_eq.mpr c9
       clear c9
       obtain rfl := Option.some.inj H
       go_enter Tryd.func21, Tryd.ntmps21
       go_wp2
       go_ret
       exact ⟨by first | rfl | (simp; done) | (simp [*]; done), by repeat (first | exact Drawn0.refl _ | apply Drawn0.step)⟩
      ·rw [if_neg c9] at H
       have c9b0 : (a2 == 3) = false := beq_eq_false_iff_ne.mpr c9
       have c9b1 : (a2 != 3) = true := bne_iff_ne.mpr c9
       obtain rfl := Option.some.inj H
       go_enter Tryd.func21, Tryd.ntmps21
       go_wp2
       go_ret
       exact ⟨by first | rfl | (simp; done) | (simp [*]; done), by repeat (first | exact Drawn0.refl _ | apply Drawn0.step)⟩
    ·rw [if_neg c7] at H
     have c7b0 : decide (a1 ≤ 65536) = false := decide_eq_false c7
     clear c7
     obtain rfl := Option.some.inj H
     go_enter Tryd.func21, Tryd.ntmps21
     go_wp2
     go_ret
     exact ⟨by first | rfl | (simp; done) | (simp [*]; done), by repeat (first | exact Drawn0.refl _ | apply Drawn0.step)⟩
   ·rw [if_neg c6] at H
    have c6b0 : decide (1 ≤ a1) = false := decide_eq_false c6
    clear c6
    obtain rfl := Option.some.inj H
    go_enter Tryd.func21, Tryd.ntmps21
    go_wp2
    go_ret
    exact ⟨by first | rfl | (simp; done) | (simp [*]; done), by repeat (first | exact Drawn0.refl _ | apply Drawn0.step)⟩
  ·rw [if_neg c5] at H
   have c5b0 : decide (a0 ≤ 65536) = false := decide_eq_false c5
   clear c5
   obtain rfl := Option.some.inj H
   go_enter Tryd.func21, Tryd.ntmps21
   go_wp2
   go_ret
   exact ⟨by first | rfl | (simp; done) | (simp [*]; done), by repeat (first | exact Drawn0.refl _ | apply Drawn0.step)⟩
 ·rw [if_neg c4] at H
  have c4b0 : decide (1 ≤ a0) = false := decide_eq_false c4
  clear c4
  obtain rfl := Option.some.inj H
  go_enter Tryd.func21, Tryd.ntmps21
  go_wp2
  go_ret
  exact ⟨by first | rfl | (simp; done) | (simp [*]; done), by repeat (first | exact Drawn0.refl _ | apply Drawn0.step)⟩
end Go.Proofs.YtjenkaobmlpbgaaDoor.QA

namespace Go.Proofs.YtjenkaobmlpbgaaDoor.QA
open Go.Proofs.YtjenkaobmlpbgaaDoor.T
open Go.RowKit Go.Proofs.YtjenkaobmlpbgaaDoorW.PrintWords Go.Proofs.YtjenkaobmlpbgaaDoorW.PrintLast Go.Proofs.YtjenkaobmlpbgaaDoorW.PrintMore
attribute [local go_sem] ext_call max2_int min2_int max_two min_two max_three min_three max_four min_four   -- for this text's walks alone
set_option linter.unusedVariables false
set_option linter.unusedSimpArgs false
def wide_MulShift.j0 : Nat → Bool → Int → Int → Bool → Option (Int)
 | 0, _, _, _, _ => none
 | k + 1, x9, x10, x11, x59 => if x59 = true then ((wide_signed.f k x10 x11 x9).bind fun t150 => (some t150)) else ((wide_signed.f k (IntKind.u64.wrap (x10 + (add64c x11 1 0))) (add64s x11 1 0) x9).bind fun t151 => (some t151))
def wide_MulShift.f (k : Nat) (a0 : Int) (a1 : Int) (a2 : Int) : Option (Int) := if (mx 0 a2) ≥ 128 then (some 0) else ((wide_product.f a0 a1).bind fun bt141 => (if (mx 0 a2) = 0 then ((wide_signed.f k bt141.1 bt141.2.1 bt141.2.2).bind fun t144 => (some t144)) else ((wide_shift.f bt141.1 bt141.2.1 (mx 0 a2)).bind fun bt145 => ((wide_shift.f bt141.1 bt141.2.1 (wrap64 ((mx 0 a2) - 1))).bind fun bt147 => (if (Go.bits .and .u64 bt147.2 1) = 0 then (wide_MulShift.j0 k bt141.2.2 bt145.1 bt145.2 true) else (if bt141.2.2 = true then ((wide_exact.f bt141.1 bt141.2.1 (wrap64 ((mx 0 a2) - 1))).bind fun t149 => (wide_MulShift.j0 k bt141.2.2 bt145.1 bt145.2 t149)) else (wide_MulShift.j0 k bt141.2.2 bt145.1 bt145.2 false)))))))
theorem wide_MulShift.mono_l : ∀ k, (∀ y0 y1 y2 y3, LeO (wide_MulShift.j0 k y0 y1 y2 y3) (wide_MulShift.j0 (k + 1) y0 y1 y2 y3))
 | 0 => fun _ _ _ _ r h => by simp [wide_MulShift.j0] at h
 | k + 1 => by
  have ih0 := wide_MulShift.mono_l k
  ·intro y0 y1 y2 y3
   unfold wide_MulShift.j0
   repeat' first
   | (with_reducible exact ih0 _ _ _ _)
   | (with_reducible exact wide_signed.mono _ _ _ _)
   | (with_reducible exact LeO.refl _)
   | (with_reducible exact LeO.none _)
   | (with_reducible refine LeO.ite ?_ ?_)
   | (with_reducible refine LeO.bind ?_ (fun _ => ?_))
   | exact ih0 _ _ _ _
   | exact wide_signed.mono _ _ _ _
   | exact LeO.none _
   | refine LeO.ite ?_ ?_
   | refine LeO.bind ?_ (fun _ => ?_)
theorem wide_MulShift.mono : ∀ a0 a1 a2 k, LeO (wide_MulShift.f k a0 a1 a2) (wide_MulShift.f (k + 1) a0 a1 a2) := by
 intro a0 a1 a2 k
 have ih0 := wide_MulShift.mono_l k
 unfold wide_MulShift.f
 repeat' first
   | (with_reducible exact ih0 _ _ _ _)
   | (with_reducible exact wide_signed.mono _ _ _ _)
   | (with_reducible exact LeO.refl _)
   | (with_reducible exact LeO.none _)
   | (with_reducible refine LeO.ite ?_ ?_)
   | (with_reducible refine LeO.bind ?_ (fun _ => ?_))
   | exact ih0 _ _ _ _
   | exact wide_signed.mono _ _ _ _
   | exact LeO.none _
   | refine LeO.ite ?_ ?_
   | refine LeO.bind ?_ (fun _ => ?_)
set_option maxHeartbeats 8000000 in
set_option maxRecDepth 100000 in
theorem wide_MulShift.calls (k : Nat) (a0 : Int) (a1 : Int) (a2 : Int) (r : Int) (w : World) (h : wide_MulShift.f k a0 a1 a2 = some r) :
  Calls Tryd.prog 80 #[.int .i64 a0, .int .i64 a1, .int .i64 a2] w fun e w' => e = .returned (.int .i64 r) ∧ Below w.heap.size w w' := by
 have HB := Aside0.mk (Below.refl w.heap.size w)
 have H : (if (mx 0 a2) ≥ 128 then (some 0) else ((wide_product.f a0 a1).bind fun bt141 => (if (mx 0 a2) = 0 then ((wide_signed.f k bt141.1 bt141.2.1 bt141.2.2).bind fun t144 => (some t144)) else ((wide_shift.f bt141.1 bt141.2.1 (mx 0 a2)).bind fun bt145 => ((wide_shift.f bt141.1 bt141.2.1 (wrap64 ((mx 0 a2) - 1))).bind fun bt147 => (if (Go.bits .and .u64 bt147.2 1) = 0 then (wide_MulShift.j0 k bt141.2.2 bt145.1 bt145.2 true) else (if bt141.2.2 = true then ((wide_exact.f bt141.1 bt141.2.1 (wrap64 ((mx 0 a2) - 1))).bind fun t149 => (wide_MulShift.j0 k bt141.2.2 bt145.1 bt145.2 t149)) else (wide_MulShift.j0 k bt141.2.2 bt145.1 bt145.2 false)))))))) = some r := h
 clear h
 obtain ⟨ji4, hji4⟩ : ∃ j_ : Int, (mx 0 a2) = j_ := ⟨_, rfl⟩
 replace H : (if (ji4) ≥ 128 then (some 0) else ((wide_product.f a0 a1).bind fun bt141 => (if (ji4) = 0 then ((wide_signed.f k bt141.1 bt141.2.1 bt141.2.2).bind fun t144 => (some t144)) else ((wide_shift.f bt141.1 bt141.2.1 (ji4)).bind fun bt145 => ((wide_shift.f bt141.1 bt141.2.1 (wrap64 ((ji4) - 1))).bind fun bt147 => (if (Go.bits .and .u64 bt147.2 1) = 0 then (wide_MulShift.j0 k bt141.2.2 bt145.1 bt145.2 true) else (if bt141.2.2 = true then ((wide_exact.f bt141.1 bt141.2.1 (wrap64 ((ji4) - 1))).bind fun t149 => (wide_MulShift.j0 k bt141.2.2 bt145.1 bt145.2 t149)) else (wide_MulShift.j0 k bt141.2.2 bt145.1 bt145.2 false)))))))) = some r := by first | (rw [hji4] at H; exact H) | (simp only [hji4] at H ⊢; exact H)
 (try (have hji4l : 0 ≤ ji4 := by (rw [← hji4]; unfold mx; (repeat' split) <;> omega)))
 (try (have hji4m : 0 ≤ ji4 := by omega))
 have hji4_ : (if 0 < a2 then a2 else 0) = ji4 := hji4
 by_cases c5 : (ji4) ≥ 128
 ·rw [if_pos c5] at H
  have c5b0 : decide (128 ≤ (ji4)) = true := decide_eq_true c5
  clear c5
  obtain rfl := Option.some.inj H
  go_enter Tryd.func80, Tryd.ntmps80
  go_wp2
  go_ret
  exact ⟨by first | rfl | (simp [errW_none, errW_some] <;> rfl) | (simp only [← hji4]; first | rfl | (simp [errW_none, errW_some] <;> rfl)) | (simp [*, errW_none, errW_some] <;> rfl), by repeat (first | (with_reducible first | exact HB.out | apply below_alloc | apply pw_below_drewN | apply below_drew1) | exact HB.out)⟩
 ·rw [if_neg c5] at H
  have c5b0 : decide (128 ≤ (ji4)) = false := decide_eq_false c5
  clear c5
  replace H := Option.bind_eq_some_iff.mp H
  obtain ⟨⟨t141, t142, t143⟩, A60, H⟩ := H
  replace H : (if (ji4) = 0 then ((wide_signed.f k t141 t142 t143).bind fun t144 => (some t144)) else ((wide_shift.f t141 t142 (ji4)).bind fun bt145 => ((wide_shift.f t141 t142 (wrap64 ((ji4) - 1))).bind fun bt147 => (if (Go.bits .and .u64 bt147.2 1) = 0 then (wide_MulShift.j0 k t143 bt145.1 bt145.2 true) else (if t143 = true then ((wide_exact.f t141 t142 (wrap64 ((ji4) - 1))).bind fun t149 => (wide_MulShift.j0 k t143 bt145.1 bt145.2 t149)) else (wide_MulShift.j0 k t143 bt145.1 bt145.2 false)))))) = some r := H
  have A6 := Aside0.mk A60
  clear A60
  by_cases c7 : (ji4) = 0
  ·rw [if_pos c7] at H
   have c7b0 : ((ji4) == 0) = true := beq_iff_eq.mpr c7
   have c7b1 : ((ji4) != 0) = false := bne_eq_false_iff_eq.mpr c7
   clear c7
   replace H := Option.bind_eq_some_iff.mp H
   obtain ⟨t144, A80, H⟩ := H
   replace H : (some t144) = some r := H
   have A8 := Aside0.mk A80
   clear A80
   obtain rfl := Option.some.inj H
   go_enter Tryd.func80, Tryd.ntmps80
   go_wp2_with (first | ((with_reducible refine gate_callee (f := 73) rfl ?_); refine goesL_ (some 22) rfl rfl Tryd.func73 (by kernel_rfl) rfl #[.int .i64 a0, .int .i64 a1] rfl (by (try simp only [List.map_toArray, List.map_cons, List.map_nil]); first | done | rfl | (simp only [List.length_drop, List.length_take]; rfl)) ?_; (with_reducible refine (wide_product.calls a0 a1 t141 t142 t143 _ A6.out).mono ?_); rintro e w' ⟨rfl, ⟨nd, rfl⟩⟩; refine ⟨_, rfl, ?_⟩) | ((with_reducible refine gate_callee (f := 75) rfl ?_); refine goesL_ (some 31) rfl rfl Tryd.func75 (by kernel_rfl) rfl #[.int .u64 t141, .int .u64 t142, .bool t143] rfl (by (try simp only [List.map_toArray, List.map_cons, List.map_nil]); first | done | rfl | (simp only [List.length_drop, List.length_take]; rfl)) ?_; (with_reducible refine (wide_signed.calls k t141 t142 t143 t144 _ A8.out).mono ?_); rintro e w' ⟨rfl, ⟨nd, rfl⟩⟩; refine ⟨_, rfl, ?_⟩))
   go_ret
   exact ⟨by first | rfl | (simp [errW_none, errW_some] <;> rfl) | (simp only [← hji4]; first | rfl | (simp [errW_none, errW_some] <;> rfl)) | (simp [*, errW_none, errW_some] <;> rfl), by repeat (first | (with_reducible first | exact HB.out | apply below_alloc | apply pw_below_drewN | apply below_drew1) | exact HB.out)⟩
  ·rw [if_neg c7] at H
   have c7b0 : ((ji4) == 0) = false := beq_eq_false_iff_ne.mpr c7
   have c7b1 : ((ji4) != 0) = true := bne_iff_ne.mpr c7
   replace H := Option.bind_eq_some_iff.mp H
   obtain ⟨⟨t145, t146⟩, A90, H⟩ := H
   replace H : ((wide_shift.f t141 t142 (wrap64 ((ji4) - 1))).bind fun bt147 => (if (Go.bits .and .u64 bt147.2 1) = 0 then (wide_MulShift.j0 k t143 t145 t146 true) else (if t143 = true then ((wide_exact.f t141 t142 (wrap64 ((ji4) - 1))).bind fun t149 => (wide_MulShift.j0 k t143 t145 t146 t149)) else (wide_MulShift.j0 k t143 t145 t146 false)))) = some r := H
   have A9 := Aside0.mk A90
   clear A90
   replace H := Option.bind_eq_some_iff.mp H
   obtain ⟨⟨t147, t148⟩, A100, H⟩ := H
   replace H : (if (Go.bits .and .u64 t148 1) = 0 then (wide_MulShift.j0 k t143 t145 t146 true) else (if t143 = true then ((wide_exact.f t141 t142 (wrap64 ((ji4) - 1))).bind fun t149 => (wide_MulShift.j0 k t143 t145 t146 t149)) else (wide_MulShift.j0 k t143 t145 t146 false))) = some r := H
   have A10 := Aside0.mk A100
   clear A100
   have HC11 := Aside0.mk H
   clear H
   go_enter Tryd.func80, Tryd.ntmps80
   go_upto_region 9 with (first | ((with_reducible refine gate_callee (f := 73) rfl ?_); refine goesL_ (some 22) rfl rfl Tryd.func73 (by kernel_rfl) rfl #[.int .i64 a0, .int .i64 a1] rfl (by (try simp only [List.map_toArray, List.map_cons, List.map_nil]); first | done | rfl | (simp only [List.length_drop, List.length_take]; rfl)) ?_; (with_reducible refine (wide_product.calls a0 a1 t141 t142 t143 _ A6.out).mono ?_); rintro e w' ⟨rfl, ⟨nd, rfl⟩⟩; refine ⟨_, rfl, ?_⟩) | ((with_reducible refine gate_callee (f := 89) rfl ?_); refine goesL_ (some 36) rfl rfl Tryd.func89 (by kernel_rfl) rfl #[.int .u64 t141, .int .u64 t142, .int .i64 ji4] rfl (by (try simp only [List.map_toArray, List.map_cons, List.map_nil]); first | done | (simp only [hji4]; rfl) | (simp only [Int.tdiv_eq_ediv_of_nonneg hji4l]; rfl) | rfl | (simp only [List.length_drop, List.length_take]; rfl)) ?_; (with_reducible refine (wide_shift.calls t141 t142 ji4 t145 t146 _ A9.out).mono ?_); rintro e w' ⟨rfl, ⟨nd, rfl⟩⟩; refine ⟨_, rfl, ?_⟩) | ((with_reducible refine gate_callee (f := 89) rfl ?_); refine goesL_ (some 44) rfl rfl Tryd.func89 (by kernel_rfl) rfl #[.int .u64 t141, .int .u64 t142, .int .i64 (wrap64 ((ji4) - 1))] rfl (by (try simp only [List.map_toArray, List.map_cons, List.map_nil]); first | done | (simp only [hji4]; rfl) | (simp only [Int.tdiv_eq_ediv_of_nonneg hji4l]; rfl) | rfl | (simp only [List.length_drop, List.length_take]; rfl)) ?_; (with_reducible refine (wide_shift.calls t141 t142 (wrap64 ((ji4) - 1)) t147 t148 _ A10.out).mono ?_); rintro e w' ⟨rfl, ⟨nd, rfl⟩⟩; refine ⟨_, rfl, ?_⟩))
   (try simp only [Act.put, List.setIfInBounds_toArray, List.set_cons_zero, List.set_cons_succ])
   go_cut [59] (fun v59 wc => ∃ (kq : Nat) (x59_10 : Bool), v59 = .bool x59_10 ∧ Aside0 (wide_MulShift.j0 kq t143 t145 t146 x59_10 = some r) ∧ Aside0 (kq ≤ k) ∧ Aside0 (Below w.heap.size w wc))
   case first =>
    have H := HC11.out
    clear HC11
    by_cases c12 : (Go.bits .and .u64 t148 1) = 0
    ·rw [if_pos c12] at H
     have c12b0 : ((Go.bits .and .u64 t148 1) == 0) = true := beq_iff_eq.mpr c12
     have c12b1 : ((Go.bits .and .u64 t148 1) != 0) = false := bne_eq_false_iff_eq.mpr c12
     clear c12
     (first | rw [c12b0] | (simp only [i64_w, i32_w]; rw [c12b0]) | skip)
     have H' := Aside0.mk H
     clear H
     go_wp2
     go_meet
     case rel => exact ⟨_, (true), (by first | rfl | (simp; done) | (simp [*]; done)), H', ⟨by first | omega | exact Nat.le_refl _⟩, ⟨by repeat (first | (with_reducible first | exact HB.out | apply below_alloc | apply pw_below_drewN | apply below_drew1) | exact HB.out)⟩⟩
    ·rw [if_neg c12] at H
     have c12b0 : ((Go.bits .and .u64 t148 1) == 0) = false := beq_eq_false_iff_ne.mpr c12
     have c12b1 : ((Go.bits .and .u64 t148 1) != 0) = true := bne_iff_ne.mpr c12
     (first | rw [c12b0] | (simp only [i64_w, i32_w]; rw [c12b0]) | skip)
     by_cases c13 : t143 = true
     ·subst c13
      have H1 : ((wide_exact.f t141 t142 (wrap64 ((ji4) - 1))).bind fun t149 => (wide_MulShift.j0 k true t145 t146 t149)) = some r := by rw [if_pos rfl] at H; exact H
      clear H
      have H := H1
      clear H1
      replace H := Option.bind_eq_some_iff.mp H
      obtain ⟨t149, A140, H⟩ := H
      replace H : (wide_MulShift.j0 k true t145 t146 t149) = some r := H
      have A14 := Aside0.mk A140
      clear A140
      have H' := Aside0.mk H
      clear H
      go_wp2_with (first | (go_at_call 90; (with_reducible refine (wide_exact.calls t141 t142 (wrap64 ((ji4) - 1)) t149 _ A14.out).mono ?_); rintro e w' ⟨rfl, ⟨nd, rfl⟩⟩))
      go_meet
      case rel => exact ⟨_, (t149), (by first | rfl | (simp; done) | (simp [*]; done)), H', ⟨by first | omega | exact Nat.le_refl _⟩, ⟨by repeat (first | (with_reducible first | exact HB.out | apply below_alloc | apply pw_below_drewN | apply below_drew1) | exact HB.out)⟩⟩
     ·replace c13 := Bool.eq_false_iff.mpr c13
      subst c13
      have H1 : (wide_MulShift.j0 k false t145 t146 false) = some r := by rw [if_neg (show ¬ (false = true) by decide)] at H; exact H
      clear H
      have H := H1
      clear H1
      have H' := Aside0.mk H
      clear H
      go_wp2
      go_meet
      case rel => exact ⟨_, (false), (by first | rfl | (simp; done) | (simp [*]; done)), H', ⟨by first | omega | exact Nat.le_refl _⟩, ⟨by repeat (first | (with_reducible first | exact HB.out | apply below_alloc | apply pw_below_drewN | apply below_drew1) | exact HB.out)⟩⟩
   case rest =>
    clear HC11
    try clear c1
    try clear p2
    try clear c5
    try clear c5b0
    try clear p6
    try clear c7
    try clear c7b0
    try clear c7b1
    try clear c8
    try clear c12
    try clear c12b0
    try clear c12b1
    try clear c13
    obtain ⟨kq, x59_10, rfl, HA, HJ10, HB⟩ := hcut
    cases kq with
    | zero => exact absurd HA.out (by simp [wide_MulShift.j0])
    | succ kj10 =>
     have H := HA.out
     clear HA
     simp only [wide_MulShift.j0] at H
     by_cases c15 : x59_10 = true
     ·subst c15
      have H1 : ((wide_signed.f kj10 t145 t146 t143).bind fun t150 => (some t150)) = some r := by rw [if_pos rfl] at H; exact H
      clear H
      have H := H1
      clear H1
      replace H := Option.bind_eq_some_iff.mp H
      obtain ⟨t150, A160, H⟩ := H
      replace H : (some t150) = some r := H
      have A16 := Aside0.mk A160
      clear A160
      obtain rfl := Option.some.inj H
      go_wp2_with (first | ((with_reducible refine gate_callee (f := 75) rfl ?_); refine goesL_ (some 63) rfl rfl Tryd.func75 (by kernel_rfl) rfl #[.int .u64 t145, .int .u64 t146, .bool t143] rfl (by (try simp only [List.map_toArray, List.map_cons, List.map_nil]); first | done | rfl | (simp only [List.length_drop, List.length_take]; rfl)) ?_; (with_reducible refine (wide_signed.calls kj10 t145 t146 t143 t150 _ A16.out).mono ?_); rintro e w' ⟨rfl, ⟨nd, rfl⟩⟩; refine ⟨_, rfl, ?_⟩))
      go_ret
      exact ⟨by first | rfl | (simp [errW_none, errW_some] <;> rfl) | (simp only [← hji4]; first | rfl | (simp [errW_none, errW_some] <;> rfl)) | (simp [*, errW_none, errW_some] <;> rfl), by repeat (first | (with_reducible first | exact HB.out | apply below_alloc | apply pw_below_drewN | apply below_drew1) | exact HB.out)⟩
     ·replace c15 := Bool.eq_false_iff.mpr c15
      subst c15
      have H1 : ((wide_signed.f kj10 (IntKind.u64.wrap (t145 + (add64c t146 1 0))) (add64s t146 1 0) t143).bind fun t151 => (some t151)) = some r := by rw [if_neg (show ¬ (false = true) by decide)] at H; exact H
      clear H
      have H := H1
      clear H1
      replace H := Option.bind_eq_some_iff.mp H
      obtain ⟨t151, A170, H⟩ := H
      replace H : (some t151) = some r := H
      have A17 := Aside0.mk A170
      clear A170
      obtain rfl := Option.some.inj H
      go_wp2_with (first | ((with_reducible refine gate_callee (f := 75) rfl ?_); refine goesL_ (some 74) rfl rfl Tryd.func75 (by kernel_rfl) rfl #[.int .u64 (IntKind.u64.wrap (t145 + (add64c t146 1 0))), .int .u64 (add64s t146 1 0), .bool t143] rfl (by (try simp only [List.map_toArray, List.map_cons, List.map_nil]); first | done | rfl | (simp only [List.length_drop, List.length_take]; rfl)) ?_; (with_reducible refine (wide_signed.calls kj10 (IntKind.u64.wrap (t145 + (add64c t146 1 0))) (add64s t146 1 0) t143 t151 _ A17.out).mono ?_); rintro e w' ⟨rfl, ⟨nd, rfl⟩⟩; refine ⟨_, rfl, ?_⟩))
      go_ret
      exact ⟨by first | rfl | (simp [errW_none, errW_some] <;> rfl) | (simp only [← hji4]; first | rfl | (simp [errW_none, errW_some] <;> rfl)) | (simp [*, errW_none, errW_some] <;> rfl), by repeat (first | (with_reducible first | exact HB.out | apply below_alloc | apply pw_below_drewN | apply below_drew1) | exact HB.out)⟩
def sinc_series.l0 : Nat → Int → Int → Int → Int → Int → Option (Int)
 | 0, _, _, _, _, _ => none
 | k + 1, x5, x6, x7, x8, x9 => if x9 ≤ 30 then ((wide_MulDiv.f k x7 x5 (wrap64 ((wrap64 ((wrap64 (2 * x9)) * (wrap64 ((wrap64 (2 * x9)) + 1)))) * 1099511627776))).bind fun t155 => (sinc_series.l0 k x5 (wrap64 (x6 + (wrap64 ((wrap64 (-x8)) * t155)))) t155 (wrap64 (-x8)) (wrap64 (x9 + 1)))) else (some x6)
def sinc_series.f (k : Nat) (a0 : Int) (a1 : Int) : Option (Int) := (sinc_size.f a0).bind fun t152 => ((wide_MulDiv.f k 10851744800547 t152 a1).bind fun t153 => ((wide_MulDiv.f k t153 t152 a1).bind fun t154 => (sinc_series.l0 k t154 1099511627776 1099511627776 1 1)))
theorem sinc_series.mono_l : ∀ k, (∀ y0 y1 y2 y3 y4, LeO (sinc_series.l0 k y0 y1 y2 y3 y4) (sinc_series.l0 (k + 1) y0 y1 y2 y3 y4))
 | 0 => fun _ _ _ _ _ r h => by simp [sinc_series.l0] at h
 | k + 1 => by
  have ih0 := sinc_series.mono_l k
  ·intro y0 y1 y2 y3 y4
   unfold sinc_series.l0
   repeat' first
   | (with_reducible exact ih0 _ _ _ _ _)
   | (with_reducible exact wide_MulDiv.mono _ _ _ _)
   | (with_reducible exact LeO.refl _)
   | (with_reducible exact LeO.none _)
   | (with_reducible refine LeO.ite ?_ ?_)
   | (with_reducible refine LeO.bind ?_ (fun _ => ?_))
   | exact ih0 _ _ _ _ _
   | exact wide_MulDiv.mono _ _ _ _
   | exact LeO.none _
   | refine LeO.ite ?_ ?_
   | refine LeO.bind ?_ (fun _ => ?_)
theorem sinc_series.mono : ∀ a0 a1 k, LeO (sinc_series.f k a0 a1) (sinc_series.f (k + 1) a0 a1) := by
 intro a0 a1 k
 have ih0 := sinc_series.mono_l k
 unfold sinc_series.f
 repeat' first
   | (with_reducible exact ih0 _ _ _ _ _)
   | (with_reducible exact wide_MulDiv.mono _ _ _ _)
   | (with_reducible exact LeO.refl _)
   | (with_reducible exact LeO.none _)
   | (with_reducible refine LeO.ite ?_ ?_)
   | (with_reducible refine LeO.bind ?_ (fun _ => ?_))
   | exact ih0 _ _ _ _ _
   | exact wide_MulDiv.mono _ _ _ _
   | exact LeO.none _
   | refine LeO.ite ?_ ?_
   | refine LeO.bind ?_ (fun _ => ?_)
set_option maxHeartbeats 8000000 in
set_option maxRecDepth 100000 in
theorem sinc_series.calls (k : Nat) (a0 : Int) (a1 : Int) (r : Int) (w : World) (h : sinc_series.f k a0 a1 = some r) :
  Calls Tryd.prog 81 #[.int .i64 a0, .int .i64 a1] w fun e w' => e = .returned (.int .i64 r) ∧ Below w.heap.size w w' := by
 have HB := Aside0.mk (Below.refl w.heap.size w)
 have H : ((sinc_size.f a0).bind fun t152 => ((wide_MulDiv.f k 10851744800547 t152 a1).bind fun t153 => ((wide_MulDiv.f k t153 t152 a1).bind fun t154 => (sinc_series.l0 k t154 1099511627776 1099511627776 1 1)))) = some r := h
 clear h
 replace H := Option.bind_eq_some_iff.mp H
 obtain ⟨t152, A30, H⟩ := H
 replace H : ((wide_MulDiv.f k 10851744800547 t152 a1).bind fun t153 => ((wide_MulDiv.f k t153 t152 a1).bind fun t154 => (sinc_series.l0 k t154 1099511627776 1099511627776 1 1))) = some r := H
 have A3 := Aside0.mk A30
 clear A30
 replace H := Option.bind_eq_some_iff.mp H
 obtain ⟨t153, A40, H⟩ := H
 replace H : ((wide_MulDiv.f k t153 t152 a1).bind fun t154 => (sinc_series.l0 k t154 1099511627776 1099511627776 1 1)) = some r := H
 have A4 := Aside0.mk A40
 clear A40
 replace H := Option.bind_eq_some_iff.mp H
 obtain ⟨t154, A50, H⟩ := H
 replace H : (sinc_series.l0 k t154 1099511627776 1099511627776 1 1) = some r := H
 have A5 := Aside0.mk A50
 clear A50
 have H' := Aside0.mk H
 clear H
 go_enter Tryd.func81, Tryd.ntmps81
 go_wp2_with (first | ((with_reducible refine gate_callee (f := 79) rfl ?_); refine goesL_ (some 11) rfl rfl Tryd.func79 (by kernel_rfl) rfl #[.int .i64 a0] rfl (by (try simp only [List.map_toArray, List.map_cons, List.map_nil]); first | done | rfl | (simp only [List.length_drop, List.length_take]; rfl)) ?_; (with_reducible refine (sinc_size.calls a0 t152 _ A3.out).mono ?_); rintro e w6 ⟨rfl, hb⟩; refine ⟨_, rfl, ?_⟩; have n0_ := Aside0.mk (below_step (by repeat (first | (with_reducible first | exact HB.out | apply below_alloc | apply pw_below_drewN | apply below_drew1) | exact HB.out)) hb); clear HB; have HB := n0_; clear n0_; (try clear hb); (try clear hb2); (try clear hk); (try clear hi)) | ((with_reducible refine gate_callee (f := 57) rfl ?_); refine goesL_ (some 14) rfl rfl Tryd.func57 (by kernel_rfl) rfl #[.int .i64 10851744800547, .int .i64 t152, .int .i64 a1] rfl (by (try simp only [List.map_toArray, List.map_cons, List.map_nil]); first | done | rfl | (simp only [List.length_drop, List.length_take]; rfl)) ?_; (with_reducible refine (wide_MulDiv.calls k 10851744800547 t152 a1 t153 _ A4.out).mono ?_); rintro e w' ⟨rfl, ⟨nd, rfl⟩⟩; refine ⟨_, rfl, ?_⟩) | ((with_reducible refine gate_callee (f := 57) rfl ?_); refine goesL_ (some 17) rfl rfl Tryd.func57 (by kernel_rfl) rfl #[.int .i64 t153, .int .i64 t152, .int .i64 a1] rfl (by (try simp only [List.map_toArray, List.map_cons, List.map_nil]); first | done | rfl | (simp only [List.length_drop, List.length_take]; rfl)) ?_; (with_reducible refine (wide_MulDiv.calls k t153 t152 a1 t154 _ A5.out).mono ?_); rintro e w' ⟨rfl, ⟨nd, rfl⟩⟩; refine ⟨_, rfl, ?_⟩))
 go_loopg [6, 7, 8, 9] k (fun kq v6 v7 v8 v9 w' => ∃ (x6_1 : Int) (x7_1 : Int) (x8_1 : Int) (x9_1 : Int), v6 = .int .i64 x6_1 ∧ v7 = .int .i64 x7_1 ∧ v8 = .int .i64 x8_1 ∧ v9 = .int .i64 x9_1 ∧ Aside0 (sinc_series.l0 kq t154 x6_1 x7_1 x8_1 x9_1 = some r) ∧ Aside0 (kq ≤ k) ∧ Aside0 (Below w.heap.size w w'))
 case atStart => exact ⟨(1099511627776), (1099511627776), (1), (1), (by first | rfl | (simp; done) | (simp [*]; done)), (by first | rfl | (simp; done) | (simp [*]; done)), (by first | rfl | (simp; done) | (simp [*]; done)), (by first | rfl | (simp; done) | (simp [*]; done)), H', ⟨Nat.le_refl _⟩, ⟨by repeat (first | (with_reducible first | exact HB.out | apply below_alloc | apply pw_below_drewN | apply below_drew1) | exact HB.out)⟩⟩
 case round =>
  clear H'
  try clear p2
  try clear c5
  obtain ⟨x6_1, x7_1, x8_1, x9_1, rfl, rfl, rfl, rfl, HA, HK1, HB⟩ := hrel
  cases gk with
  | zero => exact absurd HA.out (by simp [sinc_series.l0])
  | succ k1 =>
   have H := HA.out
   clear HA
   simp only [sinc_series.l0] at H
   by_cases c7 : x9_1 ≤ 30
   ·rw [if_pos c7] at H
    have c7b0 : decide (x9_1 ≤ 30) = true := decide_eq_true c7
    clear c7
    replace H := Option.bind_eq_some_iff.mp H
    obtain ⟨t155, A80, H⟩ := H
    replace H : (sinc_series.l0 k1 t154 (wrap64 (x6_1 + (wrap64 ((wrap64 (-x8_1)) * t155)))) t155 (wrap64 (-x8_1)) (wrap64 (x9_1 + 1))) = some r := H
    have A8 := Aside0.mk A80
    clear A80
    have H' := Aside0.mk H
    clear H
    go_wp2_with (first | ((with_reducible refine gate_callee (f := 57) rfl ?_); refine goesL_ (some 33) rfl rfl Tryd.func57 (by kernel_rfl) rfl #[.int .i64 x7_1, .int .i64 t154, .int .i64 (wrap64 ((wrap64 ((wrap64 (2 * x9_1)) * (wrap64 ((wrap64 (2 * x9_1)) + 1)))) * 1099511627776))] rfl (by (try simp only [List.map_toArray, List.map_cons, List.map_nil]); first | done | rfl | (simp only [List.length_drop, List.length_take]; rfl)) ?_; (with_reducible refine (wide_MulDiv.calls k1 x7_1 t154 (wrap64 ((wrap64 ((wrap64 (2 * x9_1)) * (wrap64 ((wrap64 (2 * x9_1)) + 1)))) * 1099511627776)) t155 _ A8.out).mono ?_); rintro e w' ⟨rfl, ⟨nd, rfl⟩⟩; refine ⟨_, rfl, ?_⟩))
    go_roundg k1
    case measure => have := HK1.out; omega
    case rel => exact ⟨(wrap64 (x6_1 + (wrap64 ((wrap64 (-x8_1)) * t155)))), (t155), (wrap64 (-x8_1)), (wrap64 (x9_1 + 1)), (by first | rfl | (simp; done) | (simp [*]; done)), (by first | rfl | (simp; done) | (simp [*]; done)), (by first | rfl | (simp; done) | (simp [*]; done)), (by first | rfl | (simp; done) | (simp [*]; done)), H', ⟨by have := HK1.out; omega⟩, ⟨by repeat (first | (with_reducible first | exact HB.out | apply below_alloc | apply pw_below_drewN | apply below_drew1) | exact HB.out)⟩⟩
   ·rw [if_neg c7] at H
    have c7b0 : decide (x9_1 ≤ 30) = false := decide_eq_false c7
    clear c7
    obtain rfl := Option.some.inj H
    go_wp2
    go_ret
    exact ⟨by first | rfl | (simp [errW_none, errW_some] <;> rfl) | (simp [*, errW_none, errW_some] <;> rfl), by repeat (first | (with_reducible first | exact HB.out | apply below_alloc | apply pw_below_drewN | apply below_drew1) | exact HB.out)⟩
end Go.Proofs.YtjenkaobmlpbgaaDoor.QA

namespace Go.Proofs.YtjenkaobmlpbgaaDoor.QA
open Go.Proofs.YtjenkaobmlpbgaaDoor.T
open Go.RowKit Go.Proofs.YtjenkaobmlpbgaaDoorW.PrintWords Go.Proofs.YtjenkaobmlpbgaaDoorW.PrintLast Go.Proofs.YtjenkaobmlpbgaaDoorW.PrintMore
attribute [local go_sem] ext_call max2_int min2_int max_two min_two max_three min_three max_four min_four   -- for this text's walks alone
set_option linter.unusedVariables false
set_option linter.unusedSimpArgs false
def sinc_Lanczos.j0 : Nat → Int → Int → Bool → Option (Int)
 | 0, _, _, _ => none
 | k + 1, x0, x1, x15 => if x15 = true then (some 0) else ((sinc_series.f k x0 x1).bind fun t158 => ((sinc_series.f k x0 (wrap64 (3 * x1))).bind fun t159 => ((wide_MulShift.f k t158 t159 40).bind fun t160 => ((fixed_Shift.f t160 10).bind fun t161 => (some t161)))))
def sinc_Lanczos.f (k : Nat) (a0 : Int) (a1 : Int) : Option (Int) := (sinc_May.f a0 a1).bind fun t156 => (if t156 = true then ((sinc_size.f a0).bind fun t157 => (sinc_Lanczos.j0 k a0 a1 (decide (t157 ≥ (wrap64 (3 * a1)))))) else (sinc_Lanczos.j0 k a0 a1 true))
theorem sinc_Lanczos.mono_l : ∀ k, (∀ y0 y1 y2, LeO (sinc_Lanczos.j0 k y0 y1 y2) (sinc_Lanczos.j0 (k + 1) y0 y1 y2))
 | 0 => fun _ _ _ r h => by simp [sinc_Lanczos.j0] at h
 | k + 1 => by
  have ih0 := sinc_Lanczos.mono_l k
  ·intro y0 y1 y2
   unfold sinc_Lanczos.j0
   repeat' first
   | (with_reducible exact ih0 _ _ _)
   | (with_reducible exact sinc_series.mono _ _ _)
   | (with_reducible exact wide_MulShift.mono _ _ _ _)
   | (with_reducible exact LeO.refl _)
   | (with_reducible exact LeO.none _)
   | (with_reducible refine LeO.ite ?_ ?_)
   | (with_reducible refine LeO.bind ?_ (fun _ => ?_))
   | exact ih0 _ _ _
   | exact sinc_series.mono _ _ _
   | exact wide_MulShift.mono _ _ _ _
   | exact LeO.none _
   | refine LeO.ite ?_ ?_
   | refine LeO.bind ?_ (fun _ => ?_)
theorem sinc_Lanczos.mono : ∀ a0 a1 k, LeO (sinc_Lanczos.f k a0 a1) (sinc_Lanczos.f (k + 1) a0 a1) := by
 intro a0 a1 k
 have ih0 := sinc_Lanczos.mono_l k
 unfold sinc_Lanczos.f
 repeat' first
   | (with_reducible exact ih0 _ _ _)
   | (with_reducible exact sinc_series.mono _ _ _)
   | (with_reducible exact wide_MulShift.mono _ _ _ _)
   | (with_reducible exact LeO.refl _)
   | (with_reducible exact LeO.none _)
   | (with_reducible refine LeO.ite ?_ ?_)
   | (with_reducible refine LeO.bind ?_ (fun _ => ?_))
   | exact ih0 _ _ _
   | exact sinc_series.mono _ _ _
   | exact wide_MulShift.mono _ _ _ _
   | exact LeO.none _
   | refine LeO.ite ?_ ?_
   | refine LeO.bind ?_ (fun _ => ?_)
set_option maxHeartbeats 8000000 in
set_option maxRecDepth 100000 in
theorem sinc_Lanczos.calls (k : Nat) (a0 : Int) (a1 : Int) (r : Int) (w : World) (h : sinc_Lanczos.f k a0 a1 = some r) :
  Calls Tryd.prog 60 #[.int .i64 a0, .int .i64 a1] w fun e w' => e = .returned (.int .i64 r) ∧ Below w.heap.size w w' := by
 have HB := Aside0.mk (Below.refl w.heap.size w)
 have H : ((sinc_May.f a0 a1).bind fun t156 => (if t156 = true then ((sinc_size.f a0).bind fun t157 => (sinc_Lanczos.j0 k a0 a1 (decide (t157 ≥ (wrap64 (3 * a1)))))) else (sinc_Lanczos.j0 k a0 a1 true))) = some r := h
 clear h
 have HC3 := Aside0.mk H
 clear H
 go_enter Tryd.func60, Tryd.ntmps60
 go_upto_region 1 with (fail)
 go_cut [15] (fun v15 wc => ∃ (kq : Nat) (x15_2 : Bool), v15 = .bool x15_2 ∧ Aside0 (sinc_Lanczos.j0 kq a0 a1 x15_2 = some r) ∧ Aside0 (kq ≤ k) ∧ Aside0 (Below w.heap.size w wc))
 case first =>
  have H := HC3.out
  clear HC3
  replace H := Option.bind_eq_some_iff.mp H
  obtain ⟨t156, A40, H⟩ := H
  replace H : (if t156 = true then ((sinc_size.f a0).bind fun t157 => (sinc_Lanczos.j0 k a0 a1 (decide (t157 ≥ (wrap64 (3 * a1)))))) else (sinc_Lanczos.j0 k a0 a1 true)) = some r := H
  have A4 := Aside0.mk A40
  clear A40
  by_cases c5 : t156 = true
  ·subst c5
   have H1 : ((sinc_size.f a0).bind fun t157 => (sinc_Lanczos.j0 k a0 a1 (decide (t157 ≥ (wrap64 (3 * a1)))))) = some r := by rw [if_pos rfl] at H; exact H
   clear H
   have H := H1
   clear H1
   replace H := Option.bind_eq_some_iff.mp H
   obtain ⟨t157, A60, H⟩ := H
   replace H : (sinc_Lanczos.j0 k a0 a1 (decide (t157 ≥ (wrap64 (3 * a1))))) = some r := H
   have A6 := Aside0.mk A60
   clear A60
   have H' := Aside0.mk H
   clear H
   go_wp2_with (first | ((with_reducible refine gate_callee (f := 78) rfl ?_); refine goesL_ (some 7) rfl rfl Tryd.func78 (by kernel_rfl) rfl #[.int .i64 a0, .int .i64 a1] rfl (by (try simp only [List.map_toArray, List.map_cons, List.map_nil]); first | done | rfl | (simp only [List.length_drop, List.length_take]; rfl)) ?_; (with_reducible refine (sinc_May.calls a0 a1 true _ A4.out).mono ?_); rintro e w' ⟨rfl, ⟨nd, rfl⟩⟩; refine ⟨_, rfl, ?_⟩) | (go_at_call 79; (with_reducible refine (sinc_size.calls a0 t157 _ A6.out).mono ?_); rintro e w7 ⟨rfl, hb⟩; have n0_ := Aside0.mk (below_step (by repeat (first | (with_reducible first | exact HB.out | apply below_alloc | apply pw_below_drewN | apply below_drew1) | exact HB.out)) hb); clear HB; have HB := n0_; clear n0_; (try clear hb); (try clear hb2); (try clear hk); (try clear hi)))
   go_meet
   case rel => exact ⟨_, (decide (t157 ≥ (wrap64 (3 * a1)))), (by first | rfl | (simp; done) | (simp [*]; done)), H', ⟨by first | omega | exact Nat.le_refl _⟩, ⟨by repeat (first | (with_reducible first | exact HB.out | apply below_alloc | apply pw_below_drewN | apply below_drew1) | exact HB.out)⟩⟩
  ·replace c5 := Bool.eq_false_iff.mpr c5
   subst c5
   have H1 : (sinc_Lanczos.j0 k a0 a1 true) = some r := by rw [if_neg (show ¬ (false = true) by decide)] at H; exact H
   clear H
   have H := H1
   clear H1
   have H' := Aside0.mk H
   clear H
   go_wp2_with (first | ((with_reducible refine gate_callee (f := 78) rfl ?_); refine goesL_ (some 7) rfl rfl Tryd.func78 (by kernel_rfl) rfl #[.int .i64 a0, .int .i64 a1] rfl (by (try simp only [List.map_toArray, List.map_cons, List.map_nil]); first | done | rfl | (simp only [List.length_drop, List.length_take]; rfl)) ?_; (with_reducible refine (sinc_May.calls a0 a1 false _ A4.out).mono ?_); rintro e w' ⟨rfl, ⟨nd, rfl⟩⟩; refine ⟨_, rfl, ?_⟩))
   go_meet
   case rel => exact ⟨_, (true), (by first | rfl | (simp; done) | (simp [*]; done)), H', ⟨by first | omega | exact Nat.le_refl _⟩, ⟨by repeat (first | (with_reducible first | exact HB.out | apply below_alloc | apply pw_below_drewN | apply below_drew1) | exact HB.out)⟩⟩
 case rest =>
  clear HC3
  try clear p2
  try clear c5
  try clear c6
  try clear p6
  try clear c7
  obtain ⟨kq, x15_2, rfl, HA, HJ2, HB⟩ := hcut
  cases kq with
  | zero => exact absurd HA.out (by simp [sinc_Lanczos.j0])
  | succ kj2 =>
   have H := HA.out
   clear HA
   simp only [sinc_Lanczos.j0] at H
   by_cases c8 : x15_2 = true
   ·subst c8
    have H1 : (some 0) = some r := by rw [if_pos rfl] at H; exact H
    clear H
    have H := H1
    clear H1
    obtain rfl := Option.some.inj H
    go_wp2
    go_ret
    exact ⟨by first | rfl | (simp [errW_none, errW_some] <;> rfl) | (simp [*, errW_none, errW_some] <;> rfl), by repeat (first | (with_reducible first | exact HB.out | apply below_alloc | apply pw_below_drewN | apply below_drew1) | exact HB.out)⟩
   ·replace c8 := Bool.eq_false_iff.mpr c8
    subst c8
    have H1 : ((sinc_series.f kj2 a0 a1).bind fun t158 => ((sinc_series.f kj2 a0 (wrap64 (3 * a1))).bind fun t159 => ((wide_MulShift.f kj2 t158 t159 40).bind fun t160 => ((fixed_Shift.f t160 10).bind fun t161 => (some t161))))) = some r := by rw [if_neg (show ¬ (false = true) by decide)] at H; exact H
    clear H
    have H := H1
    clear H1
    replace H := Option.bind_eq_some_iff.mp H
    obtain ⟨t158, A90, H⟩ := H
    replace H : ((sinc_series.f kj2 a0 (wrap64 (3 * a1))).bind fun t159 => ((wide_MulShift.f kj2 t158 t159 40).bind fun t160 => ((fixed_Shift.f t160 10).bind fun t161 => (some t161)))) = some r := H
    have A9 := Aside0.mk A90
    clear A90
    replace H := Option.bind_eq_some_iff.mp H
    obtain ⟨t159, A100, H⟩ := H
    replace H : ((wide_MulShift.f kj2 t158 t159 40).bind fun t160 => ((fixed_Shift.f t160 10).bind fun t161 => (some t161))) = some r := H
    have A10 := Aside0.mk A100
    clear A100
    replace H := Option.bind_eq_some_iff.mp H
    obtain ⟨t160, A110, H⟩ := H
    replace H : ((fixed_Shift.f t160 10).bind fun t161 => (some t161)) = some r := H
    have A11 := Aside0.mk A110
    clear A110
    replace H := Option.bind_eq_some_iff.mp H
    obtain ⟨t161, A120, H⟩ := H
    replace H : (some t161) = some r := H
    have A12 := Aside0.mk A120
    clear A120
    obtain rfl := Option.some.inj H
    go_wp2_with (first | ((with_reducible refine gate_callee (f := 81) rfl ?_); refine goesL_ (some 18) rfl rfl Tryd.func81 (by kernel_rfl) rfl #[.int .i64 a0, .int .i64 a1] rfl (by (try simp only [List.map_toArray, List.map_cons, List.map_nil]); first | done | rfl | (simp only [List.length_drop, List.length_take]; rfl)) ?_; (with_reducible refine (sinc_series.calls kj2 a0 a1 t158 _ A9.out).mono ?_); rintro e w13 ⟨rfl, hb⟩; refine ⟨_, rfl, ?_⟩; have n0_ := Aside0.mk (below_step (by repeat (first | (with_reducible first | exact HB.out | apply below_alloc | apply pw_below_drewN | apply below_drew1) | exact HB.out)) hb); clear HB; have HB := n0_; clear n0_; (try clear hb); (try clear hb2); (try clear hk); (try clear hi)) | ((with_reducible refine gate_callee (f := 81) rfl ?_); refine goesL_ (some 22) rfl rfl Tryd.func81 (by kernel_rfl) rfl #[.int .i64 a0, .int .i64 (wrap64 (3 * a1))] rfl (by (try simp only [List.map_toArray, List.map_cons, List.map_nil]); first | done | rfl | (simp only [List.length_drop, List.length_take]; rfl)) ?_; (with_reducible refine (sinc_series.calls kj2 a0 (wrap64 (3 * a1)) t159 _ A10.out).mono ?_); rintro e w14 ⟨rfl, hb⟩; refine ⟨_, rfl, ?_⟩; have n0_ := Aside0.mk (below_step (by repeat (first | (with_reducible first | exact HB.out | apply below_alloc | apply pw_below_drewN | apply below_drew1) | exact HB.out)) hb); clear HB; have HB := n0_; clear n0_; (try clear hb); (try clear hb2); (try clear hk); (try clear hi)) | ((with_reducible refine gate_callee (f := 80) rfl ?_); refine goesL_ (some 23) rfl rfl Tryd.func80 (by kernel_rfl) rfl #[.int .i64 t158, .int .i64 t159, .int .i64 40] rfl (by (try simp only [List.map_toArray, List.map_cons, List.map_nil]); first | done | rfl | (simp only [List.length_drop, List.length_take]; rfl)) ?_; (with_reducible refine (wide_MulShift.calls kj2 t158 t159 40 t160 _ A11.out).mono ?_); rintro e w15 ⟨rfl, hb⟩; refine ⟨_, rfl, ?_⟩; have n0_ := Aside0.mk (below_step (by repeat (first | (with_reducible first | exact HB.out | apply below_alloc | apply pw_below_drewN | apply below_drew1) | exact HB.out)) hb); clear HB; have HB := n0_; clear n0_; (try clear hb); (try clear hb2); (try clear hk); (try clear hi)) | ((with_reducible refine gate_callee (f := 69) rfl ?_); refine goesL_ (some 24) rfl rfl Tryd.func69 (by kernel_rfl) rfl #[.int .i64 t160, .int .i64 10] rfl (by (try simp only [List.map_toArray, List.map_cons, List.map_nil]); first | done | rfl | (simp only [List.length_drop, List.length_take]; rfl)) ?_; (with_reducible refine (fixed_Shift.calls t160 10 t161 _ A12.out).mono ?_); rintro e w' ⟨rfl, ⟨nd, rfl⟩⟩; refine ⟨_, rfl, ?_⟩))
    go_ret
    exact ⟨by first | rfl | (simp [errW_none, errW_some] <;> rfl) | (simp [*, errW_none, errW_some] <;> rfl), by repeat (first | (with_reducible first | exact HB.out | apply below_alloc | apply pw_below_drewN | apply below_drew1) | exact HB.out)⟩
def raw_weigh.f (k : Nat) (a0 : Int) (a1 : Int) (a2 : Int) (a3 : Int) (a4 : Int) : Option (Int) := if a0 = 0 then ((wide_MulDiv.f k (wrap64 ((mn (wrap64 ((wrap64 (a3 + 1)) * a1)) (wrap64 ((wrap64 (a4 + 1)) * a2))) - (mx (wrap64 (a3 * a1)) (wrap64 (a4 * a2))))) 1073741824 a1).bind fun t162 => (some t162)) else (if a0 = 1 then ((raw_Keys.f k (wrap64 ((wrap64 ((wrap64 ((wrap64 (2 * a2)) * a4)) - (wrap64 ((wrap64 ((wrap64 (2 * a3)) + 1)) * a1)))) + a2)) (wrap64 (2 * (mx a1 a2)))).bind fun t163 => (some t163)) else ((sinc_Lanczos.f k (wrap64 ((wrap64 ((wrap64 ((wrap64 (2 * a2)) * a4)) - (wrap64 ((wrap64 ((wrap64 (2 * a3)) + 1)) * a1)))) + a2)) (wrap64 (2 * (mx a1 a2)))).bind fun t164 => (some t164)))
theorem raw_weigh.mono : ∀ a0 a1 a2 a3 a4 k, LeO (raw_weigh.f k a0 a1 a2 a3 a4) (raw_weigh.f (k + 1) a0 a1 a2 a3 a4) := by
 intro a0 a1 a2 a3 a4 k
 unfold raw_weigh.f
 repeat' first
   | (with_reducible exact raw_Keys.mono _ _ _)
   | (with_reducible exact sinc_Lanczos.mono _ _ _)
   | (with_reducible exact wide_MulDiv.mono _ _ _ _)
   | (with_reducible exact LeO.refl _)
   | (with_reducible exact LeO.none _)
   | (with_reducible refine LeO.ite ?_ ?_)
   | (with_reducible refine LeO.bind ?_ (fun _ => ?_))
   | exact raw_Keys.mono _ _ _
   | exact sinc_Lanczos.mono _ _ _
   | exact wide_MulDiv.mono _ _ _ _
   | exact LeO.none _
   | refine LeO.ite ?_ ?_
   | refine LeO.bind ?_ (fun _ => ?_)
set_option maxHeartbeats 8000000 in
set_option maxRecDepth 100000 in
theorem raw_weigh.calls (k : Nat) (a0 : Int) (a1 : Int) (a2 : Int) (a3 : Int) (a4 : Int) (r : Int) (w : World) (h : raw_weigh.f k a0 a1 a2 a3 a4 = some r) :
  Calls Tryd.prog 46 #[.int .i64 a0, .int .i64 a1, .int .i64 a2, .int .i64 a3, .int .i64 a4] w fun e w' => e = .returned (.int .i64 r) ∧ Below w.heap.size w w' := by
 have HB := Aside0.mk (Below.refl w.heap.size w)
 have H : (if a0 = 0 then ((wide_MulDiv.f k (wrap64 ((mn (wrap64 ((wrap64 (a3 + 1)) * a1)) (wrap64 ((wrap64 (a4 + 1)) * a2))) - (mx (wrap64 (a3 * a1)) (wrap64 (a4 * a2))))) 1073741824 a1).bind fun t162 => (some t162)) else (if a0 = 1 then ((raw_Keys.f k (wrap64 ((wrap64 ((wrap64 ((wrap64 (2 * a2)) * a4)) - (wrap64 ((wrap64 ((wrap64 (2 * a3)) + 1)) * a1)))) + a2)) (wrap64 (2 * (mx a1 a2)))).bind fun t163 => (some t163)) else ((sinc_Lanczos.f k (wrap64 ((wrap64 ((wrap64 ((wrap64 (2 * a2)) * a4)) - (wrap64 ((wrap64 ((wrap64 (2 * a3)) + 1)) * a1)))) + a2)) (wrap64 (2 * (mx a1 a2)))).bind fun t164 => (some t164)))) = some r := h
 clear h
 by_cases c6 : a0 = 0
 ·rw [if_pos c6] at H
  have c6b0 : (a0 == 0) = true := beq_iff_eq.mpr c6
  have c6b1 : (a0 != 0) = false := bne_eq_false_iff_eq.mpr c6
  clear c6
  obtain ⟨ji7, hji7⟩ : ∃ j_ : Int, (mn (wrap64 ((wrap64 (a3 + 1)) * a1)) (wrap64 ((wrap64 (a4 + 1)) * a2))) = j_ := ⟨_, rfl⟩
  replace H : ((wide_MulDiv.f k (wrap64 ((ji7) - (mx (wrap64 (a3 * a1)) (wrap64 (a4 * a2))))) 1073741824 a1).bind fun t162 => (some t162)) = some r := by first | (rw [hji7] at H; exact H) | (simp only [hji7] at H ⊢; exact H)
  have hji7_ : (if (wrap64 ((wrap64 (a4 + 1)) * a2)) < (wrap64 ((wrap64 (a3 + 1)) * a1)) then (wrap64 ((wrap64 (a4 + 1)) * a2)) else (wrap64 ((wrap64 (a3 + 1)) * a1))) = ji7 := hji7
  obtain ⟨ji8, hji8⟩ : ∃ j_ : Int, (mx (wrap64 (a3 * a1)) (wrap64 (a4 * a2))) = j_ := ⟨_, rfl⟩
  replace H : ((wide_MulDiv.f k (wrap64 ((ji7) - (ji8))) 1073741824 a1).bind fun t162 => (some t162)) = some r := by first | (rw [hji8] at H; exact H) | (simp only [hji8] at H ⊢; exact H)
  have hji8_ : (if (wrap64 (a3 * a1)) < (wrap64 (a4 * a2)) then (wrap64 (a4 * a2)) else (wrap64 (a3 * a1))) = ji8 := hji8
  replace H := Option.bind_eq_some_iff.mp H
  obtain ⟨t162, A90, H⟩ := H
  replace H : (some t162) = some r := H
  have A9 := Aside0.mk A90
  clear A90
  obtain rfl := Option.some.inj H
  go_enter Tryd.func46, Tryd.ntmps46
  go_wp2_with (first | ((with_reducible refine gate_callee (f := 57) rfl ?_); refine goesL_ (some 35) rfl rfl Tryd.func57 (by kernel_rfl) rfl #[.int .i64 (wrap64 ((ji7) - (ji8))), .int .i64 1073741824, .int .i64 a1] rfl (by (try simp only [List.map_toArray, List.map_cons, List.map_nil]); first | done | (simp only [hji7, hji8]; rfl) | rfl | (simp only [List.length_drop, List.length_take]; rfl)) ?_; (with_reducible refine (wide_MulDiv.calls k (wrap64 ((ji7) - (ji8))) 1073741824 a1 t162 _ A9.out).mono ?_); rintro e w' ⟨rfl, ⟨nd, rfl⟩⟩; refine ⟨_, rfl, ?_⟩))
  go_ret
  exact ⟨by first | rfl | (simp [errW_none, errW_some] <;> rfl) | (simp only [← hji7, ← hji8]; first | rfl | (simp [errW_none, errW_some] <;> rfl)) | (simp [*, errW_none, errW_some] <;> rfl), by repeat (first | (with_reducible first | exact HB.out | apply below_alloc | apply pw_below_drewN | apply below_drew1) | exact HB.out)⟩
 ·rw [if_neg c6] at H
  have c6b0 : (a0 == 0) = false := beq_eq_false_iff_ne.mpr c6
  have c6b1 : (a0 != 0) = true := bne_iff_ne.mpr c6
  obtain ⟨ji10, hji10⟩ : ∃ j_ : Int, (mx a1 a2) = j_ := ⟨_, rfl⟩
  replace H : (if a0 = 1 then ((raw_Keys.f k (wrap64 ((wrap64 ((wrap64 ((wrap64 (2 * a2)) * a4)) - (wrap64 ((wrap64 ((wrap64 (2 * a3)) + 1)) * a1)))) + a2)) (wrap64 (2 * (ji10)))).bind fun t163 => (some t163)) else ((sinc_Lanczos.f k (wrap64 ((wrap64 ((wrap64 ((wrap64 (2 * a2)) * a4)) - (wrap64 ((wrap64 ((wrap64 (2 * a3)) + 1)) * a1)))) + a2)) (wrap64 (2 * (ji10)))).bind fun t164 => (some t164))) = some r := by first | (rw [hji10] at H; exact H) | (simp only [hji10] at H ⊢; exact H)
  have hji10_ : (if a1 < a2 then a2 else a1) = ji10 := hji10
  by_cases c11 : a0 = 1
  ·rw [if_pos c11] at H
   have c11b0 : (a0 == 1) = true := beq_iff_eq.mpr c11
   have c11b1 : (a0 != 1) = false := bne_eq_false_iff_eq.mpr c11
   clear c11
   replace H := Option.bind_eq_some_iff.mp H
   obtain ⟨t163, A120, H⟩ := H
   replace H : (some t163) = some r := H
   have A12 := Aside0.mk A120
   clear A120
   obtain rfl := Option.some.inj H
   go_enter Tryd.func46, Tryd.ntmps46
   go_wp2_with (first | ((with_reducible refine gate_callee (f := 43) rfl ?_); refine goesL_ (some 56) rfl rfl Tryd.func43 (by kernel_rfl) rfl #[.int .i64 (wrap64 ((wrap64 ((wrap64 ((wrap64 (2 * a2)) * a4)) - (wrap64 ((wrap64 ((wrap64 (2 * a3)) + 1)) * a1)))) + a2)), .int .i64 (wrap64 (2 * (ji10)))] rfl (by (try simp only [List.map_toArray, List.map_cons, List.map_nil]); first | done | (simp only [hji10]; rfl) | (simp only [Int.tdiv_eq_ediv_of_nonneg hji10l]; rfl) | rfl | (simp only [List.length_drop, List.length_take]; rfl)) ?_; (with_reducible refine (raw_Keys.calls k (wrap64 ((wrap64 ((wrap64 ((wrap64 (2 * a2)) * a4)) - (wrap64 ((wrap64 ((wrap64 (2 * a3)) + 1)) * a1)))) + a2)) (wrap64 (2 * (ji10))) t163 _ A12.out).mono ?_); rintro e w13 ⟨rfl, hb⟩; refine ⟨_, rfl, ?_⟩; have n0_ := Aside0.mk (below_step (by repeat (first | (with_reducible first | exact HB.out | apply below_alloc | apply pw_below_drewN | apply below_drew1) | exact HB.out)) hb); clear HB; have HB := n0_; clear n0_; (try clear hb); (try clear hb2); (try clear hk); (try clear hi)))
   go_ret
   exact ⟨by first | rfl | (simp [errW_none, errW_some] <;> rfl) | (simp only [← hji10]; first | rfl | (simp [errW_none, errW_some] <;> rfl)) | (simp [*, errW_none, errW_some] <;> rfl), by repeat (first | (with_reducible first | exact HB.out | apply below_alloc | apply pw_below_drewN | apply below_drew1) | exact HB.out)⟩
  ·rw [if_neg c11] at H
   have c11b0 : (a0 == 1) = false := beq_eq_false_iff_ne.mpr c11
   have c11b1 : (a0 != 1) = true := bne_iff_ne.mpr c11
   replace H := Option.bind_eq_some_iff.mp H
   obtain ⟨t164, A140, H⟩ := H
   replace H : (some t164) = some r := H
   have A14 := Aside0.mk A140
   clear A140
   obtain rfl := Option.some.inj H
   go_enter Tryd.func46, Tryd.ntmps46
   go_wp2_with (first | ((with_reducible refine gate_callee (f := 60) rfl ?_); refine goesL_ (some 59) rfl rfl Tryd.func60 (by kernel_rfl) rfl #[.int .i64 (wrap64 ((wrap64 ((wrap64 ((wrap64 (2 * a2)) * a4)) - (wrap64 ((wrap64 ((wrap64 (2 * a3)) + 1)) * a1)))) + a2)), .int .i64 (wrap64 (2 * (ji10)))] rfl (by (try simp only [List.map_toArray, List.map_cons, List.map_nil]); first | done | (simp only [hji10]; rfl) | (simp only [Int.tdiv_eq_ediv_of_nonneg hji10l]; rfl) | rfl | (simp only [List.length_drop, List.length_take]; rfl)) ?_; (with_reducible refine (sinc_Lanczos.calls k (wrap64 ((wrap64 ((wrap64 ((wrap64 (2 * a2)) * a4)) - (wrap64 ((wrap64 ((wrap64 (2 * a3)) + 1)) * a1)))) + a2)) (wrap64 (2 * (ji10))) t164 _ A14.out).mono ?_); rintro e w15 ⟨rfl, hb⟩; refine ⟨_, rfl, ?_⟩; have n0_ := Aside0.mk (below_step (by repeat (first | (with_reducible first | exact HB.out | apply below_alloc | apply pw_below_drewN | apply below_drew1) | exact HB.out)) hb); clear HB; have HB := n0_; clear n0_; (try clear hb); (try clear hb2); (try clear hk); (try clear hi)))
   go_ret
   exact ⟨by first | rfl | (simp [errW_none, errW_some] <;> rfl) | (simp only [← hji10]; first | rfl | (simp [errW_none, errW_some] <;> rfl)) | (simp [*, errW_none, errW_some] <;> rfl), by repeat (first | (with_reducible first | exact HB.out | apply below_alloc | apply pw_below_drewN | apply below_drew1) | exact HB.out)⟩
def raw_Row.l0 : Nat → Int → Int → Int → Int → Int → List Int → Int → Int → Option (Int × List Int)
 | 0, _, _, _, _, _, _, _, _ => none
 | k + 1, x0, x1, x2, x3, x8, x9, x20, x21 => if x21 < x20 then ((raw_weigh.f k x0 x1 x2 x3 (wrap64 (x8 + x21))).bind fun t167 => (if x9.length < 17592186044416 then (raw_Row.l0 k x0 x1 x2 x3 x8 (x9 ++ [t167]) x20 (wrap64 (x21 + 1))) else (none))) else (some (x8, x9))
def raw_Row.f (k : Nat) (a0 : Int) (a1 : Int) (a2 : Int) (a3 : Int) : Option (Int × List Int) := (raw_Window.f k a0 a1 a2 a3).bind fun bt165 => (raw_Row.l0 k a0 a1 a2 a3 bt165.1 ([] : List Int) bt165.2 0)
theorem raw_Row.mono_l : ∀ k, (∀ y0 y1 y2 y3 y4 y5 y6 y7, LeO (raw_Row.l0 k y0 y1 y2 y3 y4 y5 y6 y7) (raw_Row.l0 (k + 1) y0 y1 y2 y3 y4 y5 y6 y7))
 | 0 => fun _ _ _ _ _ _ _ _ r h => by simp [raw_Row.l0] at h
 | k + 1 => by
  have ih0 := raw_Row.mono_l k
  ·intro y0 y1 y2 y3 y4 y5 y6 y7
   unfold raw_Row.l0
   repeat' first
   | (with_reducible exact ih0 _ _ _ _ _ _ _ _)
   | (with_reducible exact raw_Window.mono _ _ _ _ _)
   | (with_reducible exact raw_weigh.mono _ _ _ _ _ _)
   | (with_reducible exact LeO.refl _)
   | (with_reducible exact LeO.none _)
   | (with_reducible refine LeO.ite ?_ ?_)
   | (with_reducible refine LeO.bind ?_ (fun _ => ?_))
   | exact ih0 _ _ _ _ _ _ _ _
   | exact raw_Window.mono _ _ _ _ _
   | exact raw_weigh.mono _ _ _ _ _ _
   | exact LeO.none _
   | refine LeO.ite ?_ ?_
   | refine LeO.bind ?_ (fun _ => ?_)
theorem raw_Row.mono : ∀ a0 a1 a2 a3 k, LeO (raw_Row.f k a0 a1 a2 a3) (raw_Row.f (k + 1) a0 a1 a2 a3) := by
 intro a0 a1 a2 a3 k
 have ih0 := raw_Row.mono_l k
 unfold raw_Row.f
 repeat' first
   | (with_reducible exact ih0 _ _ _ _ _ _ _ _)
   | (with_reducible exact raw_Window.mono _ _ _ _ _)
   | (with_reducible exact raw_weigh.mono _ _ _ _ _ _)
   | (with_reducible exact LeO.refl _)
   | (with_reducible exact LeO.none _)
   | (with_reducible refine LeO.ite ?_ ?_)
   | (with_reducible refine LeO.bind ?_ (fun _ => ?_))
   | exact ih0 _ _ _ _ _ _ _ _
   | exact raw_Window.mono _ _ _ _ _
   | exact raw_weigh.mono _ _ _ _ _ _
   | exact LeO.none _
   | refine LeO.ite ?_ ?_
   | refine LeO.bind ?_ (fun _ => ?_)
set_option maxHeartbeats 8000000 in
set_option maxRecDepth 100000 in
theorem raw_Row.calls (k : Nat) (a0 : Int) (a1 : Int) (a2 : Int) (a3 : Int) (r1 : Int) (r2 : List Int) (w : World) (hG : GL w) (h : raw_Row.f k a0 a1 a2 a3 = some (r1, r2)) :
  Calls Tryd.prog 37 #[.int .i64 a0, .int .i64 a1, .int .i64 a2, .int .i64 a3] w fun e w' => ∃ v1_ : Value, e = .returned (.tuple #[.int .i64 r1, v1_]) ∧ Kd.R (Kd.int .i64) 2 w' w.heap.size (fun _ => True) v1_ r2 ∧ Below w.heap.size w w' := by
 have HB := Aside0.mk (Below.refl w.heap.size w)
 have H : ((raw_Window.f k a0 a1 a2 a3).bind fun bt165 => (raw_Row.l0 k a0 a1 a2 a3 bt165.1 ([] : List Int) bt165.2 0)) = some (r1, r2) := h
 clear h
 replace H := Option.bind_eq_some_iff.mp H
 obtain ⟨⟨t165, t166⟩, A50, H⟩ := H
 replace H : (raw_Row.l0 k a0 a1 a2 a3 t165 ([] : List Int) t166 0) = some (r1, r2) := H
 have A5 := Aside0.mk A50
 clear A50
 have H' := Aside0.mk H
 clear H
 go_enter Tryd.func37, Tryd.ntmps37
 go_wp2_with (first | ((with_reducible refine gate_callee (f := 45) rfl ?_); refine goesL_ (some 17) rfl rfl Tryd.func45 (by kernel_rfl) rfl #[.int .i64 a0, .int .i64 a1, .int .i64 a2, .int .i64 a3] rfl (by (try simp only [List.map_toArray, List.map_cons, List.map_nil]); first | done | rfl | (simp only [List.length_drop, List.length_take]; rfl)) ?_; (with_reducible refine (raw_Window.calls k a0 a1 a2 a3 t165 t166 _ (by exact GL.below hG (by repeat (first | (with_reducible first | exact HB.out | apply below_alloc | apply pw_below_drewN | apply below_drew1) | exact HB.out | exact Below.refl _ _))) A5.out).mono ?_); rintro e w6 ⟨rfl, hb⟩; refine ⟨_, rfl, ?_⟩; have n0_ := Aside0.mk (below_step (by repeat (first | (with_reducible first | exact HB.out | apply below_alloc | apply pw_below_drewN | apply below_drew1) | exact HB.out)) hb); clear HB; have HB := n0_; clear n0_; (try clear hb); (try clear hb2); (try clear hk); (try clear hi)))
 go_loopg [9, 21] k (fun kq v9 v21 w' => ∃ (x9_1 : List Int) (x21_1 : Int), v21 = .int .i64 x21_1 ∧ Aside0 (raw_Row.l0 kq a0 a1 a2 a3 t165 x9_1 t166 x21_1 = some (r1, r2)) ∧ Aside0 (kq ≤ k) ∧ Aside0 (Kd.R (Kd.int .i64) 2 w' w.heap.size (fun _ => True) v9 x9_1) ∧ Aside0 (Below w.heap.size w w'))
 case atStart => exact ⟨(([] : List Int)), (0), (by first | rfl | (simp; done) | (simp [*]; done)), H', ⟨Nat.le_refl _⟩, ⟨by first | exact Kd.R_nil _ _ _ _ _ | exact Kd.N_nil _ _ _ _ _ | exact Kd.V_nil _ _ _ _ _ | exact Kd.Q_nil _ _ _ _ _ | exact Kd.S_nil _ _ _ _ _⟩, ⟨by repeat (first | (with_reducible first | exact HB.out | apply below_alloc | apply pw_below_drewN | apply below_drew1) | exact HB.out)⟩⟩
 case round =>
  clear H'
  try clear p2
  try clear c3
  try clear c4
  obtain ⟨x9_1, x21_1, rfl, HA, HK1, HO_9, HB⟩ := hrel
  cases gk with
  | zero => exact absurd HA.out (by simp [raw_Row.l0])
  | succ k1 =>
   have H := HA.out
   clear HA
   simp only [raw_Row.l0] at H
   by_cases c7 : x21_1 < t166
   ·rw [if_pos c7] at H
    have c7b0 : decide (x21_1 < t166) = true := decide_eq_true c7
    clear c7
    replace H := Option.bind_eq_some_iff.mp H
    obtain ⟨t167, A80, H⟩ := H
    replace H : (if x9_1.length < 17592186044416 then (raw_Row.l0 k1 a0 a1 a2 a3 t165 (x9_1 ++ [t167]) t166 (wrap64 (x21_1 + 1))) else (none)) = some (r1, r2) := H
    have A8 := Aside0.mk A80
    clear A80
    by_cases c9 : x9_1.length < 17592186044416
    ·rw [if_pos c9] at H
     have LMc9 := Aside0.mk c9
     clear c9
     obtain ⟨y168, hy168⟩ : ∃ y_ : List Int, y_ = (x9_1 ++ [t167]) := ⟨_, rfl⟩
     replace H : (raw_Row.l0 k1 a0 a1 a2 a3 t165 y168 t166 (wrap64 (x21_1 + 1))) = some (r1, r2) := by first | (rw [hy168]; with_reducible exact H) | (have H2_ := (Option.bind_some _ _).symm.trans H; rw [hy168]; with_reducible exact H2_) | (have H2_ := (Option.bind_some _ _).symm.trans H; with_reducible exact H2_) | with_reducible exact H | (rw [hy168]; exact H) | exact H
     have Ny168 := Aside0.mk hy168
     clear hy168
     have H' := Aside0.mk H
     clear H
     go_wp2_with (first | ((with_reducible refine gate_callee (f := 46) rfl ?_); refine goesL_ (some 32) rfl rfl Tryd.func46 (by kernel_rfl) rfl #[.int .i64 a0, .int .i64 a1, .int .i64 a2, .int .i64 a3, .int .i64 (wrap64 (t165 + x21_1))] rfl (by (try simp only [List.map_toArray, List.map_cons, List.map_nil]); first | done | rfl | (simp only [List.length_drop, List.length_take]; rfl)) ?_; (with_reducible refine (raw_weigh.calls k1 a0 a1 a2 a3 (wrap64 (t165 + x21_1)) t167 _ A8.out).mono ?_); rintro e w10 ⟨rfl, hb⟩; refine ⟨_, rfl, ?_⟩; have n0_ := Aside0.mk (Kd.R_below (by (with_reducible repeat (first | apply Kd.R_alloc | apply Kd.R_drewN | apply Kd.R_drew)); exact HO_9.out) hb); have n1_ := Aside0.mk (below_step (by repeat (first | (with_reducible first | exact HB.out | apply below_alloc | apply pw_below_drewN | apply below_drew1) | exact HB.out)) hb); clear HO_9; clear HB; have HO_9 := n0_; have HB := n1_; clear n0_ n1_; (try clear hb); (try clear hb2); (try clear hk); (try clear hi)) | ((with_reducible refine gate_builtin (b := .append) (xs := #[.tmp 24, .tmp 33]) rfl ?_); at_builtin; refine Kd.R_append (Kd.int .i64) (w0 := w) w.heap.size rfl (.tmp 24) (.tmp 33) 31 2 (.int .i64 0) 8 rfl Tryd.underlying31 info2 rfl (by decide) (by omega) u9 x9_1 t167 [.int .i64 t167] (fun _ => True) (fun _ => False) rfl rfl ?aP (fun _ hk => hk.elim) ?aF ?aO ?aB ?aS ?aL ?_; (case aP => exact rfl); (case aB => exact (by repeat (first | (with_reducible first | exact HB.out | apply below_alloc | apply pw_below_drewN | apply below_drew1) | exact HB.out))); (case aF => exact (fun _ _ => trivial)); (case aO => exact (by (with_reducible repeat (first | apply Kd.R_alloc | apply Kd.R_drewN | apply Kd.R_drew)); exact HO_9.out)); (case aS => exact (below_size (by repeat (first | (with_reducible first | exact HB.out | apply below_alloc | apply pw_below_drewN | apply below_drew1) | exact HB.out)))); (case aL => have := LMc9.out; omega); intro v169 w11 ho hb hg hat; rw [← Ny168.out] at ho; have n0_ := Aside0.mk (hb); have n1_ := Aside0.mk (ho); clear HB; clear HO_9; have HB := n0_; have HO170 := n1_; clear n0_ n1_; clear ho hb hg hat))
     go_roundg k1
     case measure => have := HK1.out; omega
     case rel => exact ⟨(y168), (wrap64 (x21_1 + 1)), (by first | rfl | (simp; done) | (simp [*]; done)), H', ⟨by have := HK1.out; omega⟩, ⟨by (with_reducible repeat (first | apply Kd.R_alloc | apply Kd.R_drewN | apply Kd.R_drew)); exact HO170.out⟩, ⟨by repeat (first | (with_reducible first | exact HB.out | apply below_alloc | apply pw_below_drewN | apply below_drew1) | exact HB.out)⟩⟩
    ·rw [if_neg c9] at H
     exact absurd H (by simp)
   ·rw [if_neg c7] at H
    have c7b0 : decide (x21_1 < t166) = false := decide_eq_false c7
    clear c7
    simp only [Option.some.injEq, Prod.mk.injEq] at H
    obtain ⟨rfl, rfl⟩ := H
    go_wp2
    go_ret2
    exact ⟨_, by first | rfl | (simp [errW_none, errW_some] <;> rfl) | (simp [*, errW_none, errW_some] <;> rfl), by (with_reducible repeat (first | apply Kd.R_alloc | apply Kd.R_drewN | apply Kd.R_drew)); exact HO_9.out, by repeat (first | (with_reducible first | exact HB.out | apply below_alloc | apply pw_below_drewN | apply below_drew1) | exact HB.out)⟩
end Go.Proofs.YtjenkaobmlpbgaaDoor.QA

namespace Go.Proofs.YtjenkaobmlpbgaaDoor.QA
open Go.Proofs.YtjenkaobmlpbgaaDoor.T
open Go.RowKit Go.Proofs.YtjenkaobmlpbgaaDoorW.PrintWords Go.Proofs.YtjenkaobmlpbgaaDoorW.PrintLast Go.Proofs.YtjenkaobmlpbgaaDoorW.PrintMore
attribute [local go_sem] ext_call max2_int min2_int max_two min_two max_three min_three max_four min_four   -- for this text's walks alone
set_option linter.unusedVariables false
set_option linter.unusedSimpArgs false
def taps_Apportion.f (a0 : List Int) : Option (List Int × Int) := appF a0
theorem taps_Apportion.calls (A0 : Option Addr) (c0 : Nat) (l0 : List Int) (r1 : List Int) (r2 : Int) (w : World) (hr0 : Kd.C (Kd.int .i64) w A0 l0.length l0) (hc0 : l0.length ≤ c0) (h : taps_Apportion.f l0 = some (r1, r2)) :
  Calls Tryd.prog 38 #[.slice A0 l0.length c0] w fun e w' => ∃ v0_ : Value, e = .returned (.tuple #[v0_, .int .i64 r2]) ∧ Kd.R (Kd.int .i64) 2 w' w.heap.size (fun _ => True) v0_ r1 ∧ Below w.heap.size w w' := appF_calls A0 c0 l0 r1 r2 w hr0 hc0 h
end Go.Proofs.YtjenkaobmlpbgaaDoor.QA
