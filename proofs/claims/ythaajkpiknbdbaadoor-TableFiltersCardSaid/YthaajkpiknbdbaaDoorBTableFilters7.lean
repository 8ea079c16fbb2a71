/- Joined by wip/tools/bundle.py out of: QAx16 QAx17 QAx18 QAx19. -/
import Derived.Test.YthaajkpiknbdbaaDoorBTableFilters1
import Derived.Test.YthaajkpiknbdbaaDoorBTableFilters6
namespace Go.Proofs.YthaajkpiknbdbaaDoor.QA
open Go.Proofs.YthaajkpiknbdbaaDoor.T
open Go.RowKit Go.Proofs.YthaajkpiknbdbaaDoorW.PrintWords Go.Proofs.YthaajkpiknbdbaaDoorW.PrintLast Go.Proofs.YthaajkpiknbdbaaDoorW.PrintMore
attribute [local go_sem] ext_call max2_int min2_int max_two min_two max_three min_three max_four min_four   -- for this text's walks alone
set_option linter.unusedVariables false
set_option linter.unusedSimpArgs false
def smaltoref01_Minus.f (a0_0 : Int) (a0_1 : Int) (a1_0 : Int) (a1_1 : Int) : Option (Int × Int) := if a0_1 < a1_1 then (some (IntKind.u64.wrap ((IntKind.u64.wrap (a0_0 - a1_0)) - 1), IntKind.u64.wrap (a0_1 - a1_1))) else (some (IntKind.u64.wrap (a0_0 - a1_0), IntKind.u64.wrap (a0_1 - a1_1)))
set_option maxHeartbeats 8000000 in
set_option maxRecDepth 100000 in
theorem smaltoref01_Minus.calls (a0_0 : Int) (a0_1 : Int) (a1_0 : Int) (a1_1 : Int) (r1 : Int) (r2 : Int) (w : World) (h : smaltoref01_Minus.f a0_0 a0_1 a1_0 a1_1 = some (r1, r2)) :
  Calls Tryd.prog 100 #[.agg #[.int .u64 a0_0, .int .u64 a0_1], .agg #[.int .u64 a1_0, .int .u64 a1_1]] w fun e w' => e = .returned (.agg #[.int .u64 r1, .int .u64 r2]) ∧ Below w.heap.size w w' := by
 have hu94 := Tryd.underlying94
 have HB := Aside0.mk (Below.refl w.heap.size w)
 have H : (if a0_1 < a1_1 then (some (IntKind.u64.wrap ((IntKind.u64.wrap (a0_0 - a1_0)) - 1), IntKind.u64.wrap (a0_1 - a1_1))) else (some (IntKind.u64.wrap (a0_0 - a1_0), IntKind.u64.wrap (a0_1 - a1_1)))) = some (r1, r2) := h
 clear h
 by_cases c3 : a0_1 < a1_1
 ·rw [if_pos c3] at H
  have c3b0 : decide (a0_1 < a1_1) = true := decide_eq_true c3
  clear c3
  simp only [Option.some.injEq, Prod.mk.injEq] at H
  obtain ⟨rfl, rfl⟩ := H
  go_enter Tryd.func100, Tryd.ntmps100
  go_wp2_with (first | ((with_reducible refine gate_dst (N := 2) rfl ?_); refine box_event ?hg (N := 2) ?hd (cs := #[.int .u64 a0_0, .int .u64 a0_1]) (t := 94) ?hr ?_; (case hd => rfl); (case hg => rfl); (case hr => first | (go_simp; done) | (go_simp; rfl)); intro gb236 hg w4 hbox hb; have n0_ := Aside0.mk (below_step zB hb); have n1_ := Aside0.mk (hbox); have n2_ := Aside0.mk ((by rw [hg]; exact (below_size zB) : w.heap.size ≤ gb236)); have n3_ := Aside0.mk ((by rw [hg]; exact (below_size zB) : w.heap.size ≤ gb236)); clear HB; have HB := n0_; have BK236 := n1_; have GW236 := n2_; have GE236 := n3_; clear n0_ n1_ n2_ n3_; clear hb hbox hg) | ((with_reducible refine gate_dst (N := 3) rfl ?_); refine box_event ?hg (N := 3) ?hd (cs := #[.int .u64 a1_0, .int .u64 a1_1]) (t := 94) ?hr ?_; (case hd => rfl); (case hg => rfl); (case hr => first | (go_simp; done) | (go_simp; rfl)); intro gb237 hg w5 hbox hb; have n0_ := Aside0.mk (blk_below (zK BK236) hb); have n1_ := Aside0.mk (below_step zB hb); have n2_ := Aside0.mk (hbox); have n3_ := Aside0.mk ((by rw [hg]; exact (below_size zB) : w.heap.size ≤ gb237)); have n4_ := Aside0.mk ((by rw [hg]; exact (below_size zB) : w.heap.size ≤ gb237)); have n5_ := Aside0.mk ((by rw [hg]; exact Nat.ne_of_lt (blk_lt (zK BK236)) : gb236 ≠ gb237)); have n6_ := Aside0.mk ((by rw [hg]; exact Nat.ne_of_gt (blk_lt (zK BK236)) : gb237 ≠ gb236)); clear BK236; clear HB; have BK236 := n0_; have HB := n1_; have BK237 := n2_; have GW237 := n3_; have GE237 := n4_; have NB236_237 := n5_; have NB237_236 := n6_; clear n0_ n1_ n2_ n3_ n4_ n5_ n6_; clear hb hbox hg) | ((with_reducible refine gate_dst (N := 4) rfl ?_); refine box_event ?hg (N := 4) ?hd (cs := #[.int .u64 0, .int .u64 0]) (t := 94) ?hr ?_; (case hd => rfl); (case hg => rfl); (case hr => first | (go_simp; done) | (go_simp; rfl)); intro gb238 hg w6 hbox hb; have n0_ := Aside0.mk (blk_below (zK BK236) hb); have n1_ := Aside0.mk (blk_below (zK BK237) hb); have n2_ := Aside0.mk (below_step zB hb); have n3_ := Aside0.mk (hbox); have n4_ := Aside0.mk ((by rw [hg]; exact (below_size zB) : w.heap.size ≤ gb238)); have n5_ := Aside0.mk ((by rw [hg]; exact (below_size zB) : w.heap.size ≤ gb238)); have n6_ := Aside0.mk ((by rw [hg]; exact Nat.ne_of_lt (blk_lt (zK BK236)) : gb236 ≠ gb238)); have n7_ := Aside0.mk ((by rw [hg]; exact Nat.ne_of_gt (blk_lt (zK BK236)) : gb238 ≠ gb236)); have n8_ := Aside0.mk ((by rw [hg]; exact Nat.ne_of_lt (blk_lt (zK BK237)) : gb237 ≠ gb238)); have n9_ := Aside0.mk ((by rw [hg]; exact Nat.ne_of_gt (blk_lt (zK BK237)) : gb238 ≠ gb237)); clear BK236; clear BK237; clear HB; have BK236 := n0_; have BK237 := n1_; have HB := n2_; have BK238 := n3_; have GW238 := n4_; have GE238 := n5_; have NB236_238 := n6_; have NB238_236 := n7_; have NB237_238 := n8_; have NB238_237 := n9_; clear n0_ n1_ n2_ n3_ n4_ n5_ n6_ n7_ n8_ n9_; clear hb hbox hg; have hnb7 := NB236_237.out; have hnc7 := NB237_236.out; have hnb8 := NB236_238.out; have hnc8 := NB238_236.out; have hcz9_0 : w6.cell? ⟨gb236, 0, none⟩ = some (.int .u64 a0_0) := (blk_cell BK236.out 0).trans rfl; have hcz9_1 : w6.cell? ⟨gb236, 1, none⟩ = some (.int .u64 a0_1) := (blk_cell BK236.out 1).trans rfl; have hfz9_0 := blk_frozen BK236.out 0; have hfz9_1 := blk_frozen BK236.out 1; have hnb10 := NB237_238.out; have hnc10 := NB238_237.out; have hcz11_0 : w6.cell? ⟨gb237, 0, none⟩ = some (.int .u64 a1_0) := (blk_cell BK237.out 0).trans rfl; have hcz11_1 : w6.cell? ⟨gb237, 1, none⟩ = some (.int .u64 a1_1) := (blk_cell BK237.out 1).trans rfl; have hfz11_0 := blk_frozen BK237.out 0; have hfz11_1 := blk_frozen BK237.out 1) | ((with_reducible refine gate_dst (N := 5) rfl ?_); refine box_event ?hg (N := 5) ?hd (cs := #[.int .u64 0, .int .u64 0]) (t := 94) ?hr ?_; (case hd => rfl); (case hg => rfl); (case hr => first | (go_simp; done) | (go_simp; rfl)); intro gb239 hg w12 hbox hb; have n0_ := Aside0.mk (blk_below (zK BK236) hb); have n1_ := Aside0.mk (blk_below (zK BK237) hb); have n2_ := Aside0.mk (blk_below (zK BK238) hb); have n3_ := Aside0.mk (below_step zB hb); have n4_ := Aside0.mk (hbox); have n5_ := Aside0.mk ((by rw [hg]; exact (below_size zB) : w.heap.size ≤ gb239)); have n6_ := Aside0.mk ((by rw [hg]; exact (below_size zB) : w.heap.size ≤ gb239)); have n7_ := Aside0.mk ((by rw [hg]; exact Nat.ne_of_lt (blk_lt (zK BK236)) : gb236 ≠ gb239)); have n8_ := Aside0.mk ((by rw [hg]; exact Nat.ne_of_gt (blk_lt (zK BK236)) : gb239 ≠ gb236)); have n9_ := Aside0.mk ((by rw [hg]; exact Nat.ne_of_lt (blk_lt (zK BK237)) : gb237 ≠ gb239)); have n10_ := Aside0.mk ((by rw [hg]; exact Nat.ne_of_gt (blk_lt (zK BK237)) : gb239 ≠ gb237)); have n11_ := Aside0.mk ((by rw [hg]; exact Nat.ne_of_lt (blk_lt (zK BK238)) : gb238 ≠ gb239)); have n12_ := Aside0.mk ((by rw [hg]; exact Nat.ne_of_gt (blk_lt (zK BK238)) : gb239 ≠ gb238)); clear BK236; clear BK237; clear BK238; clear HB; have BK236 := n0_; have BK237 := n1_; have BK238 := n2_; have HB := n3_; have BK239 := n4_; have GW239 := n5_; have GE239 := n6_; have NB236_239 := n7_; have NB239_236 := n8_; have NB237_239 := n9_; have NB239_237 := n10_; have NB238_239 := n11_; have NB239_238 := n12_; clear n0_ n1_ n2_ n3_ n4_ n5_ n6_ n7_ n8_ n9_ n10_ n11_ n12_; clear hb hbox hg; have hnb13 := NB239_236.out; have hnc13 := NB236_239.out; have hnb14 := NB239_237.out; have hnc14 := NB237_239.out; have hnb15 := NB239_238.out; have hnc15 := NB238_239.out; have hcz16_0 : w12.cell? ⟨gb239, 0, none⟩ = some (.int .u64 0) := (blk_cell BK239.out 0).trans rfl; have hcz16_1 : w12.cell? ⟨gb239, 1, none⟩ = some (.int .u64 0) := (blk_cell BK239.out 1).trans rfl; have hfz16_0 := blk_frozen BK239.out 0; have hfz16_1 := blk_frozen BK239.out 1; have hcz17_0 : w12.cell? ⟨gb236, 0, none⟩ = some (.int .u64 a0_0) := (blk_cell BK236.out 0).trans rfl; have hcz17_1 : w12.cell? ⟨gb236, 1, none⟩ = some (.int .u64 a0_1) := (blk_cell BK236.out 1).trans rfl; have hfz17_0 := blk_frozen BK236.out 0; have hfz17_1 := blk_frozen BK236.out 1; have hcz18_0 : w12.cell? ⟨gb237, 0, none⟩ = some (.int .u64 a1_0) := (blk_cell BK237.out 0).trans rfl; have hcz18_1 : w12.cell? ⟨gb237, 1, none⟩ = some (.int .u64 a1_1) := (blk_cell BK237.out 1).trans rfl; have hfz18_0 := blk_frozen BK237.out 0; have hfz18_1 := blk_frozen BK237.out 1; have hcz19_0 : w12.cell? ⟨gb238, 0, none⟩ = some (.int .u64 0) := (blk_cell BK238.out 0).trans rfl; have hcz19_1 : w12.cell? ⟨gb238, 1, none⟩ = some (.int .u64 0) := (blk_cell BK238.out 1).trans rfl; have hfz19_0 := blk_frozen BK238.out 0; have hfz19_1 := blk_frozen BK238.out 1))
  refine bodyPost_ret (results_cell_row rfl _ _ gb238 94 #[.int .u64 (IntKind.u64.wrap ((IntKind.u64.wrap (a0_0 - a1_0)) - 1)), .int .u64 (IntKind.u64.wrap (a0_1 - a1_1))] (0, 0) _ rfl (by refine zD ?_; refine blk_put (cs := #[.int .u64 (IntKind.u64.wrap ((IntKind.u64.wrap (a0_0 - a1_0)) - 1)), .int .u64 0]) ?_ 1 _ rfl; refine zD ?_; refine blk_put (cs := #[.int .u64 0, .int .u64 0]) ?_ 0 _ rfl; refine zD ?_; refine blk_far ?_ NB238_239.out _; refine zD ?_; refine blk_far ?_ NB238_239.out _; refine zD ?_; refine blk_far ?_ NB238_239.out _; refine zD ?_; exact BK238.out) Tryd.underlying94 rfl (by kernel_rfl)) rfl ?_
  exact ⟨zS, zB⟩
 ·rw [if_neg c3] at H
  have c3b0 : decide (a0_1 < a1_1) = false := decide_eq_false c3
  clear c3
  simp only [Option.some.injEq, Prod.mk.injEq] at H
  obtain ⟨rfl, rfl⟩ := H
  go_enter Tryd.func100, Tryd.ntmps100
  go_wp2_with (first | ((with_reducible refine gate_dst (N := 2) rfl ?_); refine box_event ?hg (N := 2) ?hd (cs := #[.int .u64 a0_0, .int .u64 a0_1]) (t := 94) ?hr ?_; (case hd => rfl); (case hg => rfl); (case hr => first | (go_simp; done) | (go_simp; rfl)); intro gb236 hg w20 hbox hb; have n0_ := Aside0.mk (below_step zB hb); have n1_ := Aside0.mk (hbox); have n2_ := Aside0.mk ((by rw [hg]; exact (below_size zB) : w.heap.size ≤ gb236)); have n3_ := Aside0.mk ((by rw [hg]; exact (below_size zB) : w.heap.size ≤ gb236)); clear HB; have HB := n0_; have BK236 := n1_; have GW236 := n2_; have GE236 := n3_; clear n0_ n1_ n2_ n3_; clear hb hbox hg) | ((with_reducible refine gate_dst (N := 3) rfl ?_); refine box_event ?hg (N := 3) ?hd (cs := #[.int .u64 a1_0, .int .u64 a1_1]) (t := 94) ?hr ?_; (case hd => rfl); (case hg => rfl); (case hr => first | (go_simp; done) | (go_simp; rfl)); intro gb237 hg w21 hbox hb; have n0_ := Aside0.mk (blk_below (zK BK236) hb); have n1_ := Aside0.mk (below_step zB hb); have n2_ := Aside0.mk (hbox); have n3_ := Aside0.mk ((by rw [hg]; exact (below_size zB) : w.heap.size ≤ gb237)); have n4_ := Aside0.mk ((by rw [hg]; exact (below_size zB) : w.heap.size ≤ gb237)); have n5_ := Aside0.mk ((by rw [hg]; exact Nat.ne_of_lt (blk_lt (zK BK236)) : gb236 ≠ gb237)); have n6_ := Aside0.mk ((by rw [hg]; exact Nat.ne_of_gt (blk_lt (zK BK236)) : gb237 ≠ gb236)); clear BK236; clear HB; have BK236 := n0_; have HB := n1_; have BK237 := n2_; have GW237 := n3_; have GE237 := n4_; have NB236_237 := n5_; have NB237_236 := n6_; clear n0_ n1_ n2_ n3_ n4_ n5_ n6_; clear hb hbox hg) | ((with_reducible refine gate_dst (N := 4) rfl ?_); refine box_event ?hg (N := 4) ?hd (cs := #[.int .u64 0, .int .u64 0]) (t := 94) ?hr ?_; (case hd => rfl); (case hg => rfl); (case hr => first | (go_simp; done) | (go_simp; rfl)); intro gb238 hg w22 hbox hb; have n0_ := Aside0.mk (blk_below (zK BK236) hb); have n1_ := Aside0.mk (blk_below (zK BK237) hb); have n2_ := Aside0.mk (below_step zB hb); have n3_ := Aside0.mk (hbox); have n4_ := Aside0.mk ((by rw [hg]; exact (below_size zB) : w.heap.size ≤ gb238)); have n5_ := Aside0.mk ((by rw [hg]; exact (below_size zB) : w.heap.size ≤ gb238)); have n6_ := Aside0.mk ((by rw [hg]; exact Nat.ne_of_lt (blk_lt (zK BK236)) : gb236 ≠ gb238)); have n7_ := Aside0.mk ((by rw [hg]; exact Nat.ne_of_gt (blk_lt (zK BK236)) : gb238 ≠ gb236)); have n8_ := Aside0.mk ((by rw [hg]; exact Nat.ne_of_lt (blk_lt (zK BK237)) : gb237 ≠ gb238)); have n9_ := Aside0.mk ((by rw [hg]; exact Nat.ne_of_gt (blk_lt (zK BK237)) : gb238 ≠ gb237)); clear BK236; clear BK237; clear HB; have BK236 := n0_; have BK237 := n1_; have HB := n2_; have BK238 := n3_; have GW238 := n4_; have GE238 := n5_; have NB236_238 := n6_; have NB238_236 := n7_; have NB237_238 := n8_; have NB238_237 := n9_; clear n0_ n1_ n2_ n3_ n4_ n5_ n6_ n7_ n8_ n9_; clear hb hbox hg; have hnb23 := NB236_237.out; have hnc23 := NB237_236.out; have hnb24 := NB236_238.out; have hnc24 := NB238_236.out; have hcz25_0 : w22.cell? ⟨gb236, 0, none⟩ = some (.int .u64 a0_0) := (blk_cell BK236.out 0).trans rfl; have hcz25_1 : w22.cell? ⟨gb236, 1, none⟩ = some (.int .u64 a0_1) := (blk_cell BK236.out 1).trans rfl; have hfz25_0 := blk_frozen BK236.out 0; have hfz25_1 := blk_frozen BK236.out 1; have hnb26 := NB237_238.out; have hnc26 := NB238_237.out; have hcz27_0 : w22.cell? ⟨gb237, 0, none⟩ = some (.int .u64 a1_0) := (blk_cell BK237.out 0).trans rfl; have hcz27_1 : w22.cell? ⟨gb237, 1, none⟩ = some (.int .u64 a1_1) := (blk_cell BK237.out 1).trans rfl; have hfz27_0 := blk_frozen BK237.out 0; have hfz27_1 := blk_frozen BK237.out 1) | ((with_reducible refine gate_dst (N := 5) rfl ?_); refine box_event ?hg (N := 5) ?hd (cs := #[.int .u64 0, .int .u64 0]) (t := 94) ?hr ?_; (case hd => rfl); (case hg => rfl); (case hr => first | (go_simp; done) | (go_simp; rfl)); intro gb239 hg w28 hbox hb; have n0_ := Aside0.mk (blk_below (zK BK236) hb); have n1_ := Aside0.mk (blk_below (zK BK237) hb); have n2_ := Aside0.mk (blk_below (zK BK238) hb); have n3_ := Aside0.mk (below_step zB hb); have n4_ := Aside0.mk (hbox); have n5_ := Aside0.mk ((by rw [hg]; exact (below_size zB) : w.heap.size ≤ gb239)); have n6_ := Aside0.mk ((by rw [hg]; exact (below_size zB) : w.heap.size ≤ gb239)); have n7_ := Aside0.mk ((by rw [hg]; exact Nat.ne_of_lt (blk_lt (zK BK236)) : gb236 ≠ gb239)); have n8_ := Aside0.mk ((by rw [hg]; exact Nat.ne_of_gt (blk_lt (zK BK236)) : gb239 ≠ gb236)); have n9_ := Aside0.mk ((by rw [hg]; exact Nat.ne_of_lt (blk_lt (zK BK237)) : gb237 ≠ gb239)); have n10_ := Aside0.mk ((by rw [hg]; exact Nat.ne_of_gt (blk_lt (zK BK237)) : gb239 ≠ gb237)); have n11_ := Aside0.mk ((by rw [hg]; exact Nat.ne_of_lt (blk_lt (zK BK238)) : gb238 ≠ gb239)); have n12_ := Aside0.mk ((by rw [hg]; exact Nat.ne_of_gt (blk_lt (zK BK238)) : gb239 ≠ gb238)); clear BK236; clear BK237; clear BK238; clear HB; have BK236 := n0_; have BK237 := n1_; have BK238 := n2_; have HB := n3_; have BK239 := n4_; have GW239 := n5_; have GE239 := n6_; have NB236_239 := n7_; have NB239_236 := n8_; have NB237_239 := n9_; have NB239_237 := n10_; have NB238_239 := n11_; have NB239_238 := n12_; clear n0_ n1_ n2_ n3_ n4_ n5_ n6_ n7_ n8_ n9_ n10_ n11_ n12_; clear hb hbox hg; have hnb29 := NB239_236.out; have hnc29 := NB236_239.out; have hnb30 := NB239_237.out; have hnc30 := NB237_239.out; have hnb31 := NB239_238.out; have hnc31 := NB238_239.out; have hcz32_0 : w28.cell? ⟨gb239, 0, none⟩ = some (.int .u64 0) := (blk_cell BK239.out 0).trans rfl; have hcz32_1 : w28.cell? ⟨gb239, 1, none⟩ = some (.int .u64 0) := (blk_cell BK239.out 1).trans rfl; have hfz32_0 := blk_frozen BK239.out 0; have hfz32_1 := blk_frozen BK239.out 1; have hcz33_0 : w28.cell? ⟨gb236, 0, none⟩ = some (.int .u64 a0_0) := (blk_cell BK236.out 0).trans rfl; have hcz33_1 : w28.cell? ⟨gb236, 1, none⟩ = some (.int .u64 a0_1) := (blk_cell BK236.out 1).trans rfl; have hfz33_0 := blk_frozen BK236.out 0; have hfz33_1 := blk_frozen BK236.out 1; have hcz34_0 : w28.cell? ⟨gb237, 0, none⟩ = some (.int .u64 a1_0) := (blk_cell BK237.out 0).trans rfl; have hcz34_1 : w28.cell? ⟨gb237, 1, none⟩ = some (.int .u64 a1_1) := (blk_cell BK237.out 1).trans rfl; have hfz34_0 := blk_frozen BK237.out 0; have hfz34_1 := blk_frozen BK237.out 1; have hcz35_0 : w28.cell? ⟨gb238, 0, none⟩ = some (.int .u64 0) := (blk_cell BK238.out 0).trans rfl; have hcz35_1 : w28.cell? ⟨gb238, 1, none⟩ = some (.int .u64 0) := (blk_cell BK238.out 1).trans rfl; have hfz35_0 := blk_frozen BK238.out 0; have hfz35_1 := blk_frozen BK238.out 1))
  refine bodyPost_ret (results_cell_row rfl _ _ gb238 94 #[.int .u64 (IntKind.u64.wrap (a0_0 - a1_0)), .int .u64 (IntKind.u64.wrap (a0_1 - a1_1))] (0, 0) _ rfl (by refine zD ?_; refine blk_put (cs := #[.int .u64 (IntKind.u64.wrap (a0_0 - a1_0)), .int .u64 0]) ?_ 1 _ rfl; refine zD ?_; refine blk_put (cs := #[.int .u64 0, .int .u64 0]) ?_ 0 _ rfl; refine zD ?_; refine blk_far ?_ NB238_239.out _; refine zD ?_; refine blk_far ?_ NB238_239.out _; refine zD ?_; exact BK238.out) Tryd.underlying94 rfl (by kernel_rfl)) rfl ?_
  exact ⟨zS, zB⟩
end Go.Proofs.YthaajkpiknbdbaaDoor.QA

namespace Go.Proofs.YthaajkpiknbdbaaDoor.QA
open Go.Proofs.YthaajkpiknbdbaaDoor.T
open Go.RowKit Go.Proofs.YthaajkpiknbdbaaDoorW.PrintWords Go.Proofs.YthaajkpiknbdbaaDoorW.PrintLast Go.Proofs.YthaajkpiknbdbaaDoorW.PrintMore
attribute [local go_sem] ext_call max2_int min2_int max_two min_two max_three min_three max_four min_four   -- for this text's walks alone
set_option linter.unusedVariables false
set_option linter.unusedSimpArgs false
def smaltoref01_Over.l0 : Nat → Int → Int → Int → Int → Int → Int → Int → Int → Option (Int × Int × Int)
 | 0, _, _, _, _, _, _, _, _ => none
 | k + 1, x1, x8, x241000, x241001, x243000, x243001, x244000, x244001 => if x8 ≥ 0 then ((smaltoref01_Bit.f x241000 x241001 x8).bind fun t244 => ((smaltoref01_Twice.f x244000 x244001 t244).bind fun bt245 => ((smaltoref01_Twice.f x243000 x243001 0).bind fun bt247 => ((smaltoref01_Less.f bt245.1 bt245.2 0 x1).bind fun t249 => (if t249 = true then (smaltoref01_Over.l0 k x1 (wrap64 (x8 - 1)) x241000 x241001 bt247.1 bt247.2 bt245.1 bt245.2) else ((smaltoref01_Minus.f bt245.1 bt245.2 0 x1).bind fun bt250 => (smaltoref01_Over.l0 k x1 (wrap64 (x8 - 1)) x241000 x241001 bt247.1 (IntKind.u64.wrap (bt247.2 + 1)) bt250.1 bt250.2))))))) else (some (x243000, x243001, x244001))
def smaltoref01_Over.f (k : Nat) (a0_0 : Int) (a0_1 : Int) (a1 : Int) : Option (Int × Int × Int) := if a1 = 0 then (some (0, 0, 0)) else (smaltoref01_Over.l0 k a1 127 a0_0 a0_1 0 0 0 0)
theorem smaltoref01_Over.mono_l : ∀ k, (∀ y0 y1 y2 y3 y4 y5 y6 y7, LeO (smaltoref01_Over.l0 k y0 y1 y2 y3 y4 y5 y6 y7) (smaltoref01_Over.l0 (k + 1) y0 y1 y2 y3 y4 y5 y6 y7))
 | 0 => fun _ _ _ _ _ _ _ _ r h => by simp [smaltoref01_Over.l0] at h
 | k + 1 => by
  have ih0 := smaltoref01_Over.mono_l k
  ·intro y0 y1 y2 y3 y4 y5 y6 y7
   unfold smaltoref01_Over.l0
   repeat' (with_reducible first | exact ih0 _ _ _ _ _ _ _ _ | exact zM | refine LeO.ite ?_ ?_ | refine LeO.bind ?_ (fun _ => ?_))
theorem smaltoref01_Over.mono : ∀ a0 a1 a2 k, LeO (smaltoref01_Over.f k a0 a1 a2) (smaltoref01_Over.f (k + 1) a0 a1 a2) := by
 intro a0 a1 a2 k
 have ih0 := smaltoref01_Over.mono_l k
 unfold smaltoref01_Over.f
 repeat' (with_reducible first | exact ih0 _ _ _ _ _ _ _ _ | exact zM | refine LeO.ite ?_ ?_ | refine LeO.bind ?_ (fun _ => ?_))
set_option maxHeartbeats 8000000 in
set_option maxRecDepth 100000 in
theorem smaltoref01_Over.calls (k : Nat) (a0_0 : Int) (a0_1 : Int) (a1 : Int) (r1 : Int) (r2 : Int) (r3 : Int) (w : World) (h : smaltoref01_Over.f k a0_0 a0_1 a1 = some (r1, r2, r3)) :
  Calls Tryd.prog 71 #[.agg #[.int .u64 a0_0, .int .u64 a0_1], .int .u64 a1] w fun e w' => e = .returned (.tuple #[.agg #[.int .u64 r1, .int .u64 r2], .int .u64 r3]) ∧ Below w.heap.size w w' := by
 have hu94 := Tryd.underlying94
 have HB := Aside0.mk (Below.refl w.heap.size w)
 have H : (if a1 = 0 then (some (0, 0, 0)) else (smaltoref01_Over.l0 k a1 127 a0_0 a0_1 0 0 0 0)) = some (r1, r2, r3) := h
 clear h
 by_cases c3 : a1 = 0
 ·rw [if_pos c3] at H
  have c3b0 : (a1 == 0) = true := beq_iff_eq.mpr c3
  have c3b1 : (a1 != 0) = false := bne_eq_false_iff_eq.mpr c3
  clear c3
  simp only [Option.some.injEq, Prod.mk.injEq] at H
  obtain ⟨rfl, rfl, rfl⟩ := H
  go_enter Tryd.func71, Tryd.ntmps71
  go_wp2_with (first | ((with_reducible refine gate_dst (N := 2) rfl ?_); refine box_event ?hg (N := 2) ?hd (cs := #[.int .u64 a0_0, .int .u64 a0_1]) (t := 94) ?hr ?_; (case hd => rfl); (case hg => rfl); (case hr => first | (go_simp; done) | (go_simp; rfl)); intro gb240 hg w4 hbox hb; have n0_ := Aside0.mk (below_step zB hb); have n1_ := Aside0.mk (hbox); have n2_ := Aside0.mk ((by rw [hg]; exact (below_size zB) : w.heap.size ≤ gb240)); have n3_ := Aside0.mk ((by rw [hg]; exact (below_size zB) : w.heap.size ≤ gb240)); clear HB; have HB := n0_; have BK240 := n1_; have GW240 := n2_; have GE240 := n3_; clear n0_ n1_ n2_ n3_; clear hb hbox hg) | ((with_reducible refine gate_dst (N := 4) rfl ?_); refine box_event ?hg (N := 4) ?hd (cs := #[.int .u64 0, .int .u64 0]) (t := 94) ?hr ?_; (case hd => rfl); (case hg => rfl); (case hr => first | (go_simp; done) | (go_simp; rfl)); intro gb241 hg w5 hbox hb; have n0_ := Aside0.mk (blk_below (zK BK240) hb); have n1_ := Aside0.mk (below_step zB hb); have n2_ := Aside0.mk (hbox); have n3_ := Aside0.mk ((by rw [hg]; exact (below_size zB) : w.heap.size ≤ gb241)); have n4_ := Aside0.mk ((by rw [hg]; exact (below_size zB) : w.heap.size ≤ gb241)); have n5_ := Aside0.mk ((by rw [hg]; exact Nat.ne_of_lt (blk_lt (zK BK240)) : gb240 ≠ gb241)); have n6_ := Aside0.mk ((by rw [hg]; exact Nat.ne_of_gt (blk_lt (zK BK240)) : gb241 ≠ gb240)); clear BK240; clear HB; have BK240 := n0_; have HB := n1_; have BK241 := n2_; have GW241 := n3_; have GE241 := n4_; have NB240_241 := n5_; have NB241_240 := n6_; clear n0_ n1_ n2_ n3_ n4_ n5_ n6_; clear hb hbox hg) | ((with_reducible refine gate_dst (N := 6) rfl ?_); refine box_event ?hg (N := 6) ?hd (cs := #[.int .u64 0, .int .u64 0]) (t := 94) ?hr ?_; (case hd => rfl); (case hg => rfl); (case hr => first | (go_simp; done) | (go_simp; rfl)); intro gb242 hg w6 hbox hb; have n0_ := Aside0.mk (blk_below (zK BK240) hb); have n1_ := Aside0.mk (blk_below (zK BK241) hb); have n2_ := Aside0.mk (below_step zB hb); have n3_ := Aside0.mk (hbox); have n4_ := Aside0.mk ((by rw [hg]; exact (below_size zB) : w.heap.size ≤ gb242)); have n5_ := Aside0.mk ((by rw [hg]; exact (below_size zB) : w.heap.size ≤ gb242)); have n6_ := Aside0.mk ((by rw [hg]; exact Nat.ne_of_lt (blk_lt (zK BK240)) : gb240 ≠ gb242)); have n7_ := Aside0.mk ((by rw [hg]; exact Nat.ne_of_gt (blk_lt (zK BK240)) : gb242 ≠ gb240)); have n8_ := Aside0.mk ((by rw [hg]; exact Nat.ne_of_lt (blk_lt (zK BK241)) : gb241 ≠ gb242)); have n9_ := Aside0.mk ((by rw [hg]; exact Nat.ne_of_gt (blk_lt (zK BK241)) : gb242 ≠ gb241)); clear BK240; clear BK241; clear HB; have BK240 := n0_; have BK241 := n1_; have HB := n2_; have BK242 := n3_; have GW242 := n4_; have GE242 := n5_; have NB240_242 := n6_; have NB242_240 := n7_; have NB241_242 := n8_; have NB242_241 := n9_; clear n0_ n1_ n2_ n3_ n4_ n5_ n6_ n7_ n8_ n9_; clear hb hbox hg; have hnb7 := NB242_240.out; have hnc7 := NB240_242.out; have hnb8 := NB242_241.out; have hnc8 := NB241_242.out; have hcz9_0 : w6.cell? ⟨gb242, 0, none⟩ = some (.int .u64 0) := (blk_cell BK242.out 0).trans rfl; have hcz9_1 : w6.cell? ⟨gb242, 1, none⟩ = some (.int .u64 0) := (blk_cell BK242.out 1).trans rfl; have hfz9_0 := blk_frozen BK242.out 0; have hfz9_1 := blk_frozen BK242.out 1) | ((with_reducible refine gate_dst (N := 7) rfl ?_); refine box_event ?hg (N := 7) ?hd (cs := #[.int .u64 0, .int .u64 0]) (t := 94) ?hr ?_; (case hd => rfl); (case hg => rfl); (case hr => first | (go_simp; done) | (go_simp; rfl)); intro gb243 hg w10 hbox hb; have n0_ := Aside0.mk (blk_below (zK BK240) hb); have n1_ := Aside0.mk (blk_below (zK BK241) hb); have n2_ := Aside0.mk (blk_below (g := gb242) (o := .cells #[.int .u64 0, .int .u64 0] 94 (0, 0)) (by refine zD ?_; refine blk_put (cs := #[.int .u64 0, .int .u64 0]) ?_ 1 _ rfl; refine zD ?_; refine blk_put (cs := #[.int .u64 0, .int .u64 0]) ?_ 0 _ rfl; refine zD ?_; exact BK242.out) hb); have n3_ := Aside0.mk (below_step zB hb); have n4_ := Aside0.mk (hbox); have n5_ := Aside0.mk ((by rw [hg]; exact (below_size zB) : w.heap.size ≤ gb243)); have n6_ := Aside0.mk ((by rw [hg]; exact (below_size zB) : w.heap.size ≤ gb243)); have n7_ := Aside0.mk ((by rw [hg]; exact Nat.ne_of_lt (blk_lt (zK BK240)) : gb240 ≠ gb243)); have n8_ := Aside0.mk ((by rw [hg]; exact Nat.ne_of_gt (blk_lt (zK BK240)) : gb243 ≠ gb240)); have n9_ := Aside0.mk ((by rw [hg]; exact Nat.ne_of_lt (blk_lt (zK BK241)) : gb241 ≠ gb243)); have n10_ := Aside0.mk ((by rw [hg]; exact Nat.ne_of_gt (blk_lt (zK BK241)) : gb243 ≠ gb241)); have n11_ := Aside0.mk ((by rw [hg]; exact Nat.ne_of_lt (blk_lt (g := gb242) (o := .cells #[.int .u64 0, .int .u64 0] 94 (0, 0)) (by refine zD ?_; refine blk_put (cs := #[.int .u64 0, .int .u64 0]) ?_ 1 _ rfl; refine zD ?_; refine blk_put (cs := #[.int .u64 0, .int .u64 0]) ?_ 0 _ rfl; refine zD ?_; exact BK242.out)) : gb242 ≠ gb243)); have n12_ := Aside0.mk ((by rw [hg]; exact Nat.ne_of_gt (blk_lt (g := gb242) (o := .cells #[.int .u64 0, .int .u64 0] 94 (0, 0)) (by refine zD ?_; refine blk_put (cs := #[.int .u64 0, .int .u64 0]) ?_ 1 _ rfl; refine zD ?_; refine blk_put (cs := #[.int .u64 0, .int .u64 0]) ?_ 0 _ rfl; refine zD ?_; exact BK242.out)) : gb243 ≠ gb242)); clear BK240; clear BK241; clear BK242; clear HB; have BK240 := n0_; have BK241 := n1_; have BK242 := n2_; have HB := n3_; have BK243 := n4_; have GW243 := n5_; have GE243 := n6_; have NB240_243 := n7_; have NB243_240 := n8_; have NB241_243 := n9_; have NB243_241 := n10_; have NB242_243 := n11_; have NB243_242 := n12_; clear n0_ n1_ n2_ n3_ n4_ n5_ n6_ n7_ n8_ n9_ n10_ n11_ n12_; clear hb hbox hg; have hnb11 := NB243_240.out; have hnc11 := NB240_243.out; have hnb12 := NB243_241.out; have hnc12 := NB241_243.out; have hnb13 := NB243_242.out; have hnc13 := NB242_243.out; have hcz14_0 : w10.cell? ⟨gb243, 0, none⟩ = some (.int .u64 0) := (blk_cell BK243.out 0).trans rfl; have hcz14_1 : w10.cell? ⟨gb243, 1, none⟩ = some (.int .u64 0) := (blk_cell BK243.out 1).trans rfl; have hfz14_0 := blk_frozen BK243.out 0; have hfz14_1 := blk_frozen BK243.out 1; have hcz15_0 : w10.cell? ⟨gb242, 0, none⟩ = some (.int .u64 0) := (blk_cell BK242.out 0).trans rfl; have hcz15_1 : w10.cell? ⟨gb242, 1, none⟩ = some (.int .u64 0) := (blk_cell BK242.out 1).trans rfl; have hfz15_0 := blk_frozen BK242.out 0; have hfz15_1 := blk_frozen BK242.out 1; have hnb16 := NB241_240.out; have hnc16 := NB240_241.out; have hcz17_0 : w10.cell? ⟨gb241, 0, none⟩ = some (.int .u64 0) := (blk_cell BK241.out 0).trans rfl; have hcz17_1 : w10.cell? ⟨gb241, 1, none⟩ = some (.int .u64 0) := (blk_cell BK241.out 1).trans rfl; have hfz17_0 := blk_frozen BK241.out 0; have hfz17_1 := blk_frozen BK241.out 1))
  refine bodyPost_ret (results_ct rfl _ _ gb241 94 #[.int .u64 0, .int .u64 0] (0, 0) _ rfl (by refine zD ?_; refine blk_put (cs := #[.int .u64 0, .int .u64 0]) ?_ 1 _ rfl; refine zD ?_; refine blk_put (cs := #[.int .u64 0, .int .u64 0]) ?_ 0 _ rfl; refine zD ?_; refine blk_far ?_ NB241_243.out _; refine zD ?_; refine blk_far ?_ NB241_243.out _; refine zD ?_; exact BK241.out) Tryd.underlying94 rfl (by kernel_rfl)) rfl ?_
  exact ⟨zS, zB⟩
 ·rw [if_neg c3] at H
  have c3b0 : (a1 == 0) = false := beq_eq_false_iff_ne.mpr c3
  have c3b1 : (a1 != 0) = true := bne_iff_ne.mpr c3
  have H' := Aside0.mk H
  clear H
  go_enter Tryd.func71, Tryd.ntmps71
  go_wp2_with (first | ((with_reducible refine gate_dst (N := 2) rfl ?_); refine box_event ?hg (N := 2) ?hd (cs := #[.int .u64 a0_0, .int .u64 a0_1]) (t := 94) ?hr ?_; (case hd => rfl); (case hg => rfl); (case hr => first | (go_simp; done) | (go_simp; rfl)); intro gb240 hg w18 hbox hb; have n0_ := Aside0.mk (below_step zB hb); have n1_ := Aside0.mk (hbox); have n2_ := Aside0.mk ((by rw [hg]; exact (below_size zB) : w.heap.size ≤ gb240)); have n3_ := Aside0.mk ((by rw [hg]; exact (below_size zB) : w.heap.size ≤ gb240)); clear HB; have HB := n0_; have BK240 := n1_; have GW240 := n2_; have GE240 := n3_; clear n0_ n1_ n2_ n3_; clear hb hbox hg) | ((with_reducible refine gate_dst (N := 4) rfl ?_); refine box_event ?hg (N := 4) ?hd (cs := #[.int .u64 0, .int .u64 0]) (t := 94) ?hr ?_; (case hd => rfl); (case hg => rfl); (case hr => first | (go_simp; done) | (go_simp; rfl)); intro gb241 hg w19 hbox hb; have n0_ := Aside0.mk (blk_below (zK BK240) hb); have n1_ := Aside0.mk (below_step zB hb); have n2_ := Aside0.mk (hbox); have n3_ := Aside0.mk ((by rw [hg]; exact (below_size zB) : w.heap.size ≤ gb241)); have n4_ := Aside0.mk ((by rw [hg]; exact (below_size zB) : w.heap.size ≤ gb241)); have n5_ := Aside0.mk ((by rw [hg]; exact Nat.ne_of_lt (blk_lt (zK BK240)) : gb240 ≠ gb241)); have n6_ := Aside0.mk ((by rw [hg]; exact Nat.ne_of_gt (blk_lt (zK BK240)) : gb241 ≠ gb240)); clear BK240; clear HB; have BK240 := n0_; have HB := n1_; have BK241 := n2_; have GW241 := n3_; have GE241 := n4_; have NB240_241 := n5_; have NB241_240 := n6_; clear n0_ n1_ n2_ n3_ n4_ n5_ n6_; clear hb hbox hg) | ((with_reducible refine gate_dst (N := 6) rfl ?_); refine box_event ?hg (N := 6) ?hd (cs := #[.int .u64 0, .int .u64 0]) (t := 94) ?hr ?_; (case hd => rfl); (case hg => rfl); (case hr => first | (go_simp; done) | (go_simp; rfl)); intro gb242 hg w20 hbox hb; have n0_ := Aside0.mk (blk_below (zK BK240) hb); have n1_ := Aside0.mk (blk_below (zK BK241) hb); have n2_ := Aside0.mk (below_step zB hb); have n3_ := Aside0.mk (hbox); have n4_ := Aside0.mk ((by rw [hg]; exact (below_size zB) : w.heap.size ≤ gb242)); have n5_ := Aside0.mk ((by rw [hg]; exact (below_size zB) : w.heap.size ≤ gb242)); have n6_ := Aside0.mk ((by rw [hg]; exact Nat.ne_of_lt (blk_lt (zK BK240)) : gb240 ≠ gb242)); have n7_ := Aside0.mk ((by rw [hg]; exact Nat.ne_of_gt (blk_lt (zK BK240)) : gb242 ≠ gb240)); have n8_ := Aside0.mk ((by rw [hg]; exact Nat.ne_of_lt (blk_lt (zK BK241)) : gb241 ≠ gb242)); have n9_ := Aside0.mk ((by rw [hg]; exact Nat.ne_of_gt (blk_lt (zK BK241)) : gb242 ≠ gb241)); clear BK240; clear BK241; clear HB; have BK240 := n0_; have BK241 := n1_; have HB := n2_; have BK242 := n3_; have GW242 := n4_; have GE242 := n5_; have NB240_242 := n6_; have NB242_240 := n7_; have NB241_242 := n8_; have NB242_241 := n9_; clear n0_ n1_ n2_ n3_ n4_ n5_ n6_ n7_ n8_ n9_; clear hb hbox hg; have hnb21 := NB242_240.out; have hnc21 := NB240_242.out; have hnb22 := NB242_241.out; have hnc22 := NB241_242.out; have hcz23_0 : w20.cell? ⟨gb242, 0, none⟩ = some (.int .u64 0) := (blk_cell BK242.out 0).trans rfl; have hcz23_1 : w20.cell? ⟨gb242, 1, none⟩ = some (.int .u64 0) := (blk_cell BK242.out 1).trans rfl; have hfz23_0 := blk_frozen BK242.out 0; have hfz23_1 := blk_frozen BK242.out 1) | ((with_reducible refine gate_dst (N := 7) rfl ?_); refine box_event ?hg (N := 7) ?hd (cs := #[.int .u64 0, .int .u64 0]) (t := 94) ?hr ?_; (case hd => rfl); (case hg => rfl); (case hr => first | (go_simp; done) | (go_simp; rfl)); intro gb243 hg w24 hbox hb; have n0_ := Aside0.mk (blk_below (zK BK240) hb); have n1_ := Aside0.mk (blk_below (zK BK241) hb); have n2_ := Aside0.mk (blk_below (g := gb242) (o := .cells #[.int .u64 0, .int .u64 0] 94 (0, 0)) (by refine zD ?_; refine blk_put (cs := #[.int .u64 0, .int .u64 0]) ?_ 1 _ rfl; refine zD ?_; refine blk_put (cs := #[.int .u64 0, .int .u64 0]) ?_ 0 _ rfl; refine zD ?_; exact BK242.out) hb); have n3_ := Aside0.mk (below_step zB hb); have n4_ := Aside0.mk (hbox); have n5_ := Aside0.mk ((by rw [hg]; exact (below_size zB) : w.heap.size ≤ gb243)); have n6_ := Aside0.mk ((by rw [hg]; exact (below_size zB) : w.heap.size ≤ gb243)); have n7_ := Aside0.mk ((by rw [hg]; exact Nat.ne_of_lt (blk_lt (zK BK240)) : gb240 ≠ gb243)); have n8_ := Aside0.mk ((by rw [hg]; exact Nat.ne_of_gt (blk_lt (zK BK240)) : gb243 ≠ gb240)); have n9_ := Aside0.mk ((by rw [hg]; exact Nat.ne_of_lt (blk_lt (zK BK241)) : gb241 ≠ gb243)); have n10_ := Aside0.mk ((by rw [hg]; exact Nat.ne_of_gt (blk_lt (zK BK241)) : gb243 ≠ gb241)); have n11_ := Aside0.mk ((by rw [hg]; exact Nat.ne_of_lt (blk_lt (g := gb242) (o := .cells #[.int .u64 0, .int .u64 0] 94 (0, 0)) (by refine zD ?_; refine blk_put (cs := #[.int .u64 0, .int .u64 0]) ?_ 1 _ rfl; refine zD ?_; refine blk_put (cs := #[.int .u64 0, .int .u64 0]) ?_ 0 _ rfl; refine zD ?_; exact BK242.out)) : gb242 ≠ gb243)); have n12_ := Aside0.mk ((by rw [hg]; exact Nat.ne_of_gt (blk_lt (g := gb242) (o := .cells #[.int .u64 0, .int .u64 0] 94 (0, 0)) (by refine zD ?_; refine blk_put (cs := #[.int .u64 0, .int .u64 0]) ?_ 1 _ rfl; refine zD ?_; refine blk_put (cs := #[.int .u64 0, .int .u64 0]) ?_ 0 _ rfl; refine zD ?_; exact BK242.out)) : gb243 ≠ gb242)); clear BK240; clear BK241; clear BK242; clear HB; have BK240 := n0_; have BK241 := n1_; have BK242 := n2_; have HB := n3_; have BK243 := n4_; have GW243 := n5_; have GE243 := n6_; have NB240_243 := n7_; have NB243_240 := n8_; have NB241_243 := n9_; have NB243_241 := n10_; have NB242_243 := n11_; have NB243_242 := n12_; clear n0_ n1_ n2_ n3_ n4_ n5_ n6_ n7_ n8_ n9_ n10_ n11_ n12_; clear hb hbox hg; have hnb25 := NB243_240.out; have hnc25 := NB240_243.out; have hnb26 := NB243_241.out; have hnc26 := NB241_243.out; have hnb27 := NB243_242.out; have hnc27 := NB242_243.out; have hcz28_0 : w24.cell? ⟨gb243, 0, none⟩ = some (.int .u64 0) := (blk_cell BK243.out 0).trans rfl; have hcz28_1 : w24.cell? ⟨gb243, 1, none⟩ = some (.int .u64 0) := (blk_cell BK243.out 1).trans rfl; have hfz28_0 := blk_frozen BK243.out 0; have hfz28_1 := blk_frozen BK243.out 1))
  go_loopg [8] k (fun kq v8 w' => ∃ (x8_1 : Int) (x243000_1 : Int) (x243001_1 : Int) (x244000_1 : Int) (x244001_1 : Int), v8 = .int .i64 x8_1 ∧ Aside0 (smaltoref01_Over.l0 kq a1 x8_1 a0_0 a0_1 x243000_1 x243001_1 x244000_1 x244001_1 = some (r1, r2, r3)) ∧ Aside0 (kq ≤ k) ∧ Aside0 (w'.heap[gb240]? = some (.cells #[.int .u64 a0_0, .int .u64 a0_1] 94 (0, 0))) ∧ Aside0 (w'.heap[gb241]? = some (.cells #[.int .u64 0, .int .u64 0] 94 (0, 0))) ∧ Aside0 (w'.heap[gb242]? = some (.cells #[.int .u64 x243000_1, .int .u64 x243001_1] 94 (0, 0))) ∧ Aside0 (w'.heap[gb243]? = some (.cells #[.int .u64 x244000_1, .int .u64 x244001_1] 94 (0, 0))) ∧ Aside0 (Below w.heap.size w w'))
  case atStart => exact ⟨(127), (0), (0), (0), (0), zT, H', ⟨Nat.le_refl _⟩, ⟨zK BK240⟩, ⟨zK BK241⟩, ⟨zK BK242⟩, ⟨by refine zD ?_; refine blk_put (cs := #[.int .u64 0, .int .u64 0]) ?_ 1 _ rfl; refine zD ?_; refine blk_put (cs := #[.int .u64 0, .int .u64 0]) ?_ 0 _ rfl; refine zD ?_; exact BK243.out⟩, ⟨zB⟩⟩
  case round =>
   clear H'
   try clear c1
   try clear c2
   try clear p2
   try clear c3
   try clear c3b0
   try clear c3b1
   try clear c7
   try clear c8
   try clear c11
   try clear c12
   try clear c13
   try clear c16
   try clear c21
   try clear c22
   try clear c25
   try clear c26
   try clear c27
   try clear hcz14_0
   try clear hcz14_1
   try clear hcz15_0
   try clear hcz15_1
   try clear hcz17_0
   try clear hcz17_1
   try clear hcz23_0
   try clear hcz23_1
   try clear hcz28_0
   try clear hcz28_1
   try clear hcz9_0
   try clear hcz9_1
   try clear hfz14_0
   try clear hfz14_1
   try clear hfz15_0
   try clear hfz15_1
   try clear hfz17_0
   try clear hfz17_1
   try clear hfz23_0
   try clear hfz23_1
   try clear hfz28_0
   try clear hfz28_1
   try clear hfz9_0
   try clear hfz9_1
   obtain ⟨x8_1, x243000_1, x243001_1, x244000_1, x244001_1, rfl, HA, HK1, BK240, BK241, BK242, BK243, HB⟩ := hrel
   cases gk with
   | zero => exact absurd HA.out (by simp [smaltoref01_Over.l0])
   | succ k1 =>
    have H := HA.out
    clear HA
    simp only [smaltoref01_Over.l0] at H
    by_cases c29 : x8_1 ≥ 0
    ·rw [if_pos c29] at H
     have c29b0 : decide (0 ≤ x8_1) = true := decide_eq_true c29
     clear c29
     replace H := Option.bind_eq_some_iff.mp H
     obtain ⟨t244, A300, H⟩ := H
     try dsimp only at H
     have A30 := Aside0.mk A300
     clear A300
     replace H := Option.bind_eq_some_iff.mp H
     obtain ⟨⟨t245, t246⟩, A310, H⟩ := H
     try dsimp only at H
     have A31 := Aside0.mk A310
     clear A310
     replace H := Option.bind_eq_some_iff.mp H
     obtain ⟨⟨t247, t248⟩, A320, H⟩ := H
     try dsimp only at H
     have A32 := Aside0.mk A320
     clear A320
     replace H := Option.bind_eq_some_iff.mp H
     obtain ⟨t249, A330, H⟩ := H
     try dsimp only at H
     have A33 := Aside0.mk A330
     clear A330
     by_cases c34 : t249 = true
     ·subst c34
      have H1 := H; rw [if_pos rfl] at H1; try dsimp only at H1
      clear H
      have H := H1
      clear H1
      have H' := Aside0.mk H
      clear H
      try go_wp2
      have n0_ := Aside0.mk (blk_drew BK240.out)
      have n1_ := Aside0.mk (blk_drew BK241.out)
      have n2_ := Aside0.mk (blk_drew BK242.out)
      have n3_ := Aside0.mk (blk_drew BK243.out)
      have n4_ := Aside0.mk (below_drew1 HB.out)
      clear BK240
      clear BK241
      clear BK242
      clear BK243
      clear HB
      have BK240 := n0_
      have BK241 := n1_
      have BK242 := n2_
      have BK243 := n3_
      have HB := n4_
      clear n0_ n1_ n2_ n3_ n4_
      refine start_ (n := 6) (S := fun w' => w'.cell? ⟨gb243, 0, none⟩ = some (.int .u64 x244000_1) ∧ w'.cell? ⟨gb243, 1, none⟩ = some (.int .u64 x244001_1) ∧ w'.cell? ⟨gb240, 0, none⟩ = some (.int .u64 a0_0) ∧ w'.cell? ⟨gb240, 1, none⟩ = some (.int .u64 a0_1)) (ds := [5]) #[false, false, false, false, false, false] (by kernel_rfl) rfl rfl ⟨(blk_cell BK243.out 0).trans rfl, (blk_cell BK243.out 1).trans rfl, (blk_cell BK240.out 0).trans rfl, (blk_cell BK240.out 1).trans rfl⟩ (fun hHeld => ?_)
      generalize wr.drew = w35 at BK240 BK241 BK242 BK243 HB hHeld ⊢
      refine pure_ (i := 2) (N := some 20) (v := ?_) (a' := ?_) #[false, false, true, false, false, false] rfl rfl (by kernel_rfl) (fun _ _ _ h => h) (Or.inl ⟨by rfl, ?_⟩) ?_ ?_
      rotate_left
      ·intro w'
       go_simp
       with_reducible rfl
      rotate_left
      ·simp only [Act.put, List.setIfInBounds_toArray, List.set_cons_zero, List.set_cons_succ, i64_w, i32_w]
       rfl
      refine take_ (i := 0) (N := some 18) (v := ?_) (a' := ?_) #[true, false, true, false, false, false] rfl rfl (by kernel_rfl) (fun _ _ _ h => h) (Or.inl ⟨by rfl, ?_⟩) hHeld ?_ ?_
      rotate_left
      ·rintro w' ⟨s0, s1, s2, s3⟩
       go_simp
       with_reducible rfl
      rotate_left
      ·simp only [Act.put, List.setIfInBounds_toArray, List.set_cons_zero, List.set_cons_succ, i64_w, i32_w]
       rfl
      refine take_ (i := 1) (N := some 19) (v := ?_) (a' := ?_) #[true, true, true, false, false, false] rfl rfl (by kernel_rfl) (fun _ _ _ h => h) (Or.inl ⟨by rfl, ?_⟩) hHeld ?_ ?_
      rotate_left
      ·rintro w' ⟨s0, s1, s2, s3⟩
       go_simp
       with_reducible rfl
      rotate_left
      ·simp only [Act.put, List.setIfInBounds_toArray, List.set_cons_zero, List.set_cons_succ, i64_w, i32_w]
       rfl
      refine one_ (i := 3) (N := some 21) #[true, true, true, true, false, false] rfl rfl (by kernel_rfl) (by decide) (fun K hK => ?_)
      refine goes_ Tryd.func98 (by kernel_rfl) rfl #[.agg #[.int .u64 a0_0, .int .u64 a0_1], .int .i64 x8_1] (by rfl) rfl rfl zL ?_
      with_reducible refine (smaltoref01_Bit.calls a0_0 a0_1 x8_1 t244 _ A30.out).mono ?_
      rintro e w36 ⟨rfl, hb⟩
      refine ⟨_, rfl, ?_⟩
      have n0_ := Aside0.mk (blk_below (zK BK240) hb)
      have n1_ := Aside0.mk (blk_below (zK BK241) hb)
      have n2_ := Aside0.mk (blk_below (zK BK242) hb)
      have n3_ := Aside0.mk (blk_below (zK BK243) hb)
      have n4_ := Aside0.mk (below_step zB hb)
      clear BK240
      clear BK241
      clear BK242
      clear BK243
      clear HB
      have BK240 := n0_
      have BK241 := n1_
      have BK242 := n2_
      have BK243 := n3_
      have HB := n4_
      clear n0_ n1_ n2_ n3_ n4_
      (try clear hb)
      (try clear hb2)
      (try clear hk)
      (try clear hi)
      refine hK.out _ _ ⟨(blk_cell BK243.out 0).trans rfl, (blk_cell BK243.out 1).trans rfl, (blk_cell BK240.out 0).trans rfl, (blk_cell BK240.out 1).trans rfl⟩ (fun hHeld => ?_)
      clear hK K
      refine norm_ (a' := ?_) ?_ ?_
      rotate_left
      ·show Act.put _ (some 21) _ = _
       simp only [Act.put, List.setIfInBounds_toArray, List.set_cons_zero, List.set_cons_succ, i64_w, i32_w]
       rfl
      refine one_ (i := 4) (N := some 22) #[true, true, true, true, true, false] rfl rfl (by kernel_rfl) (by decide) (fun K hK => ?_)
      refine goes_ Tryd.func97 (by kernel_rfl) rfl #[.agg #[.int .u64 x244000_1, .int .u64 x244001_1], .int .u64 t244] (by rfl) rfl rfl zL ?_
      with_reducible refine (smaltoref01_Twice.calls x244000_1 x244001_1 t244 t245 t246 _ A31.out).mono ?_
      rintro e w37 ⟨rfl, hb⟩
      refine ⟨_, rfl, ?_⟩
      have n0_ := Aside0.mk (blk_below (zK BK240) hb)
      have n1_ := Aside0.mk (blk_below (zK BK241) hb)
      have n2_ := Aside0.mk (blk_below (zK BK242) hb)
      have n3_ := Aside0.mk (blk_below (zK BK243) hb)
      have n4_ := Aside0.mk (below_step zB hb)
      clear BK240
      clear BK241
      clear BK242
      clear BK243
      clear HB
      have BK240 := n0_
      have BK241 := n1_
      have BK242 := n2_
      have BK243 := n3_
      have HB := n4_
      clear n0_ n1_ n2_ n3_ n4_
      (try clear hb)
      (try clear hb2)
      (try clear hk)
      (try clear hi)
      refine hK.out _ _ ⟨(blk_cell BK243.out 0).trans rfl, (blk_cell BK243.out 1).trans rfl, (blk_cell BK240.out 0).trans rfl, (blk_cell BK240.out 1).trans rfl⟩ (fun hHeld => ?_)
      clear hK K
      refine norm_ (a' := ?_) ?_ ?_
      rotate_left
      ·show Act.put _ (some 22) _ = _
       simp only [Act.put, List.setIfInBounds_toArray, List.set_cons_zero, List.set_cons_succ, i64_w, i32_w]
       rfl
      refine last_ (i := 5) (N := none) #[true, true, true, true, true, true] rfl rfl (by kernel_rfl) (by decide) (fun K hK => ?_)
      have hs38 : w37.cell? ⟨gb243, 0, none⟩ = some (.int .u64 x244000_1) := (blk_cell BK243.out 0).trans rfl
      have hfs38 := blk_frozen BK243.out 0
      have hns38_0 := NB240_243.out
      have hns38_1 := NB241_243.out
      have hns38_2 := NB242_243.out
      have hms38_0 := NB243_240.out
      have hms38_1 := NB243_241.out
      have hms38_2 := NB243_242.out
      have hs39 : w37.cell? ⟨gb243, 1, none⟩ = some (.int .u64 x244001_1) := (blk_cell BK243.out 1).trans rfl
      have hfs39 := blk_frozen BK243.out 1
      have hns39_0 := NB240_243.out
      have hns39_1 := NB241_243.out
      have hns39_2 := NB242_243.out
      have hms39_0 := NB243_240.out
      have hms39_1 := NB243_241.out
      have hms39_2 := NB243_242.out
      refine skip_ (w1 := ?_) (by rfl) rfl ?_ ?_
      rotate_left
      ·go_simp
       rfl
      refine hK.out _ _ ?_
      clear hK K
      refine done_ (by kernel_rfl) ?_
      have hnb40 := NB242_240.out
      have hnc40 := NB240_242.out
      have hnb41 := NB242_241.out
      have hnc41 := NB241_242.out
      have hnb42 := NB242_243.out
      have hnc42 := NB243_242.out
      have hcz43_0 : w37.cell? ⟨gb242, 0, none⟩ = some (.int .u64 x243000_1) := (blk_cell BK242.out 0).trans rfl
      have hcz43_1 : w37.cell? ⟨gb242, 1, none⟩ = some (.int .u64 x243001_1) := (blk_cell BK242.out 1).trans rfl
      have hfz43_0 := blk_frozen BK242.out 0
      have hfz43_1 := blk_frozen BK242.out 1
      try go_wp2_with (first | ((with_reducible refine gate_callee (f := 97) rfl ?_); refine goesL_ (some 24) rfl rfl Tryd.func97 (by kernel_rfl) rfl #[.agg #[.int .u64 x243000_1, .int .u64 x243001_1], .int .u64 0] rfl zL ?_; (with_reducible refine (smaltoref01_Twice.calls x243000_1 x243001_1 0 t247 t248 _ A32.out).mono ?_); rintro e w44 ⟨rfl, hb⟩; refine ⟨_, rfl, ?_⟩; have n0_ := Aside0.mk (blk_below (zK BK240) hb); have n1_ := Aside0.mk (blk_below (zK BK241) hb); have n2_ := Aside0.mk (blk_below (zK BK242) hb); have n3_ := Aside0.mk (blk_below (g := gb243) (o := .cells #[.int .u64 t245, .int .u64 t246] 94 (0, 0)) (by refine zD ?_; refine blk_put (cs := #[.int .u64 t245, .int .u64 x244001_1]) ?_ 1 _ rfl; refine zD ?_; refine blk_put (cs := #[.int .u64 x244000_1, .int .u64 x244001_1]) ?_ 0 _ rfl; refine zD ?_; exact BK243.out) hb); have n4_ := Aside0.mk (below_step zB hb); clear BK240; clear BK241; clear BK242; clear BK243; clear HB; have BK240 := n0_; have BK241 := n1_; have BK242 := n2_; have BK243 := n3_; have HB := n4_; clear n0_ n1_ n2_ n3_ n4_; (try clear hb); (try clear hb2); (try clear hk); (try clear hi); have hcz45_0 : w44.cell? ⟨gb242, 0, none⟩ = some (.int .u64 x243000_1) := (blk_cell BK242.out 0).trans rfl; have hcz45_1 : w44.cell? ⟨gb242, 1, none⟩ = some (.int .u64 x243001_1) := (blk_cell BK242.out 1).trans rfl; have hfz45_0 := blk_frozen BK242.out 0; have hfz45_1 := blk_frozen BK242.out 1; have hnb46 := NB243_240.out; have hnc46 := NB240_243.out; have hnb47 := NB243_241.out; have hnc47 := NB241_243.out; have hcz48_0 : w44.cell? ⟨gb243, 0, none⟩ = some (.int .u64 t245) := (blk_cell BK243.out 0).trans rfl; have hcz48_1 : w44.cell? ⟨gb243, 1, none⟩ = some (.int .u64 t246) := (blk_cell BK243.out 1).trans rfl; have hfz48_0 := blk_frozen BK243.out 0; have hfz48_1 := blk_frozen BK243.out 1) | ((with_reducible refine gate_callee (f := 99) rfl ?_); refine goesL_ (some 28) rfl rfl Tryd.func99 (by kernel_rfl) rfl #[.agg #[.int .u64 t245, .int .u64 t246], .agg #[.int .u64 0, .int .u64 a1]] rfl zL ?_; (with_reducible refine (smaltoref01_Less.calls t245 t246 0 a1 true _ A33.out).mono ?_); rintro e w49 ⟨rfl, hb⟩; refine ⟨_, rfl, ?_⟩; have n0_ := Aside0.mk (blk_below (zK BK240) hb); have n1_ := Aside0.mk (blk_below (zK BK241) hb); have n2_ := Aside0.mk (blk_below (g := gb242) (o := .cells #[.int .u64 t247, .int .u64 t248] 94 (0, 0)) (by refine zD ?_; refine blk_put (cs := #[.int .u64 t247, .int .u64 x243001_1]) ?_ 1 _ rfl; refine zD ?_; refine blk_put (cs := #[.int .u64 x243000_1, .int .u64 x243001_1]) ?_ 0 _ rfl; refine zD ?_; exact BK242.out) hb); have n3_ := Aside0.mk (blk_below (zK BK243) hb); have n4_ := Aside0.mk (below_step zB hb); clear BK240; clear BK241; clear BK242; clear BK243; clear HB; have BK240 := n0_; have BK241 := n1_; have BK242 := n2_; have BK243 := n3_; have HB := n4_; clear n0_ n1_ n2_ n3_ n4_; (try clear hb); (try clear hb2); (try clear hk); (try clear hi)))
      go_roundg k1
      case measure => have := HK1.out; omega
      case rel => exact ⟨(wrap64 (x8_1 - 1)), (t247), (t248), (t245), (t246), zT, H', ⟨by have := HK1.out; omega⟩, ⟨zK BK240⟩, ⟨zK BK241⟩, ⟨zK BK242⟩, ⟨zK BK243⟩, ⟨zB⟩⟩
     ·replace c34 := Bool.eq_false_iff.mpr c34
      subst c34
      have H1 := H; rw [if_neg (show ¬ (false = true) by decide)] at H1; try dsimp only at H1
      clear H
      have H := H1
      clear H1
      replace H := Option.bind_eq_some_iff.mp H
      obtain ⟨⟨t250, t251⟩, A500, H⟩ := H
      try dsimp only at H
      have A50 := Aside0.mk A500
      clear A500
      have H' := Aside0.mk H
      clear H
      try go_wp2
      have n0_ := Aside0.mk (blk_drew BK240.out)
      have n1_ := Aside0.mk (blk_drew BK241.out)
      have n2_ := Aside0.mk (blk_drew BK242.out)
      have n3_ := Aside0.mk (blk_drew BK243.out)
      have n4_ := Aside0.mk (below_drew1 HB.out)
      clear BK240
      clear BK241
      clear BK242
      clear BK243
      clear HB
      have BK240 := n0_
      have BK241 := n1_
      have BK242 := n2_
      have BK243 := n3_
      have HB := n4_
      clear n0_ n1_ n2_ n3_ n4_
      refine start_ (n := 6) (S := fun w' => w'.cell? ⟨gb243, 0, none⟩ = some (.int .u64 x244000_1) ∧ w'.cell? ⟨gb243, 1, none⟩ = some (.int .u64 x244001_1) ∧ w'.cell? ⟨gb240, 0, none⟩ = some (.int .u64 a0_0) ∧ w'.cell? ⟨gb240, 1, none⟩ = some (.int .u64 a0_1)) (ds := [5]) #[false, false, false, false, false, false] (by kernel_rfl) rfl rfl ⟨(blk_cell BK243.out 0).trans rfl, (blk_cell BK243.out 1).trans rfl, (blk_cell BK240.out 0).trans rfl, (blk_cell BK240.out 1).trans rfl⟩ (fun hHeld => ?_)
      generalize wr.drew = w51 at BK240 BK241 BK242 BK243 HB hHeld ⊢
      refine pure_ (i := 2) (N := some 20) (v := ?_) (a' := ?_) #[false, false, true, false, false, false] rfl rfl (by kernel_rfl) (fun _ _ _ h => h) (Or.inl ⟨by rfl, ?_⟩) ?_ ?_
      rotate_left
      ·intro w'
       go_simp
       with_reducible rfl
      rotate_left
      ·simp only [Act.put, List.setIfInBounds_toArray, List.set_cons_zero, List.set_cons_succ, i64_w, i32_w]
       rfl
      refine take_ (i := 0) (N := some 18) (v := ?_) (a' := ?_) #[true, false, true, false, false, false] rfl rfl (by kernel_rfl) (fun _ _ _ h => h) (Or.inl ⟨by rfl, ?_⟩) hHeld ?_ ?_
      rotate_left
      ·rintro w' ⟨s0, s1, s2, s3⟩
       go_simp
       with_reducible rfl
      rotate_left
      ·simp only [Act.put, List.setIfInBounds_toArray, List.set_cons_zero, List.set_cons_succ, i64_w, i32_w]
       rfl
      refine take_ (i := 1) (N := some 19) (v := ?_) (a' := ?_) #[true, true, true, false, false, false] rfl rfl (by kernel_rfl) (fun _ _ _ h => h) (Or.inl ⟨by rfl, ?_⟩) hHeld ?_ ?_
      rotate_left
      ·rintro w' ⟨s0, s1, s2, s3⟩
       go_simp
       with_reducible rfl
      rotate_left
      ·simp only [Act.put, List.setIfInBounds_toArray, List.set_cons_zero, List.set_cons_succ, i64_w, i32_w]
       rfl
      refine one_ (i := 3) (N := some 21) #[true, true, true, true, false, false] rfl rfl (by kernel_rfl) (by decide) (fun K hK => ?_)
      refine goes_ Tryd.func98 (by kernel_rfl) rfl #[.agg #[.int .u64 a0_0, .int .u64 a0_1], .int .i64 x8_1] (by rfl) rfl rfl zL ?_
      with_reducible refine (smaltoref01_Bit.calls a0_0 a0_1 x8_1 t244 _ A30.out).mono ?_
      rintro e w52 ⟨rfl, hb⟩
      refine ⟨_, rfl, ?_⟩
      have n0_ := Aside0.mk (blk_below (zK BK240) hb)
      have n1_ := Aside0.mk (blk_below (zK BK241) hb)
      have n2_ := Aside0.mk (blk_below (zK BK242) hb)
      have n3_ := Aside0.mk (blk_below (zK BK243) hb)
      have n4_ := Aside0.mk (below_step zB hb)
      clear BK240
      clear BK241
      clear BK242
      clear BK243
      clear HB
      have BK240 := n0_
      have BK241 := n1_
      have BK242 := n2_
      have BK243 := n3_
      have HB := n4_
      clear n0_ n1_ n2_ n3_ n4_
      (try clear hb)
      (try clear hb2)
      (try clear hk)
      (try clear hi)
      refine hK.out _ _ ⟨(blk_cell BK243.out 0).trans rfl, (blk_cell BK243.out 1).trans rfl, (blk_cell BK240.out 0).trans rfl, (blk_cell BK240.out 1).trans rfl⟩ (fun hHeld => ?_)
      clear hK K
      refine norm_ (a' := ?_) ?_ ?_
      rotate_left
      ·show Act.put _ (some 21) _ = _
       simp only [Act.put, List.setIfInBounds_toArray, List.set_cons_zero, List.set_cons_succ, i64_w, i32_w]
       rfl
      refine one_ (i := 4) (N := some 22) #[true, true, true, true, true, false] rfl rfl (by kernel_rfl) (by decide) (fun K hK => ?_)
      refine goes_ Tryd.func97 (by kernel_rfl) rfl #[.agg #[.int .u64 x244000_1, .int .u64 x244001_1], .int .u64 t244] (by rfl) rfl rfl zL ?_
      with_reducible refine (smaltoref01_Twice.calls x244000_1 x244001_1 t244 t245 t246 _ A31.out).mono ?_
      rintro e w53 ⟨rfl, hb⟩
      refine ⟨_, rfl, ?_⟩
      have n0_ := Aside0.mk (blk_below (zK BK240) hb)
      have n1_ := Aside0.mk (blk_below (zK BK241) hb)
      have n2_ := Aside0.mk (blk_below (zK BK242) hb)
      have n3_ := Aside0.mk (blk_below (zK BK243) hb)
      have n4_ := Aside0.mk (below_step zB hb)
      clear BK240
      clear BK241
      clear BK242
      clear BK243
      clear HB
      have BK240 := n0_
      have BK241 := n1_
      have BK242 := n2_
      have BK243 := n3_
      have HB := n4_
      clear n0_ n1_ n2_ n3_ n4_
      (try clear hb)
      (try clear hb2)
      (try clear hk)
      (try clear hi)
      refine hK.out _ _ ⟨(blk_cell BK243.out 0).trans rfl, (blk_cell BK243.out 1).trans rfl, (blk_cell BK240.out 0).trans rfl, (blk_cell BK240.out 1).trans rfl⟩ (fun hHeld => ?_)
      clear hK K
      refine norm_ (a' := ?_) ?_ ?_
      rotate_left
      ·show Act.put _ (some 22) _ = _
       simp only [Act.put, List.setIfInBounds_toArray, List.set_cons_zero, List.set_cons_succ, i64_w, i32_w]
       rfl
      refine last_ (i := 5) (N := none) #[true, true, true, true, true, true] rfl rfl (by kernel_rfl) (by decide) (fun K hK => ?_)
      have hs54 : w53.cell? ⟨gb243, 0, none⟩ = some (.int .u64 x244000_1) := (blk_cell BK243.out 0).trans rfl
      have hfs54 := blk_frozen BK243.out 0
      have hns54_0 := NB240_243.out
      have hns54_1 := NB241_243.out
      have hns54_2 := NB242_243.out
      have hms54_0 := NB243_240.out
      have hms54_1 := NB243_241.out
      have hms54_2 := NB243_242.out
      have hs55 : w53.cell? ⟨gb243, 1, none⟩ = some (.int .u64 x244001_1) := (blk_cell BK243.out 1).trans rfl
      have hfs55 := blk_frozen BK243.out 1
      have hns55_0 := NB240_243.out
      have hns55_1 := NB241_243.out
      have hns55_2 := NB242_243.out
      have hms55_0 := NB243_240.out
      have hms55_1 := NB243_241.out
      have hms55_2 := NB243_242.out
      refine skip_ (w1 := ?_) (by rfl) rfl ?_ ?_
      rotate_left
      ·go_simp
       rfl
      refine hK.out _ _ ?_
      clear hK K
      refine done_ (by kernel_rfl) ?_
      have hnb56 := NB242_240.out
      have hnc56 := NB240_242.out
      have hnb57 := NB242_241.out
      have hnc57 := NB241_242.out
      have hnb58 := NB242_243.out
      have hnc58 := NB243_242.out
      have hcz59_0 : w53.cell? ⟨gb242, 0, none⟩ = some (.int .u64 x243000_1) := (blk_cell BK242.out 0).trans rfl
      have hcz59_1 : w53.cell? ⟨gb242, 1, none⟩ = some (.int .u64 x243001_1) := (blk_cell BK242.out 1).trans rfl
      have hfz59_0 := blk_frozen BK242.out 0
      have hfz59_1 := blk_frozen BK242.out 1
      try go_wp2_with (first | ((with_reducible refine gate_callee (f := 97) rfl ?_); refine goesL_ (some 24) rfl rfl Tryd.func97 (by kernel_rfl) rfl #[.agg #[.int .u64 x243000_1, .int .u64 x243001_1], .int .u64 0] rfl zL ?_; (with_reducible refine (smaltoref01_Twice.calls x243000_1 x243001_1 0 t247 t248 _ A32.out).mono ?_); rintro e w60 ⟨rfl, hb⟩; refine ⟨_, rfl, ?_⟩; have n0_ := Aside0.mk (blk_below (zK BK240) hb); have n1_ := Aside0.mk (blk_below (zK BK241) hb); have n2_ := Aside0.mk (blk_below (zK BK242) hb); have n3_ := Aside0.mk (blk_below (g := gb243) (o := .cells #[.int .u64 t245, .int .u64 t246] 94 (0, 0)) (by refine zD ?_; refine blk_put (cs := #[.int .u64 t245, .int .u64 x244001_1]) ?_ 1 _ rfl; refine zD ?_; refine blk_put (cs := #[.int .u64 x244000_1, .int .u64 x244001_1]) ?_ 0 _ rfl; refine zD ?_; exact BK243.out) hb); have n4_ := Aside0.mk (below_step zB hb); clear BK240; clear BK241; clear BK242; clear BK243; clear HB; have BK240 := n0_; have BK241 := n1_; have BK242 := n2_; have BK243 := n3_; have HB := n4_; clear n0_ n1_ n2_ n3_ n4_; (try clear hb); (try clear hb2); (try clear hk); (try clear hi); have hcz61_0 : w60.cell? ⟨gb242, 0, none⟩ = some (.int .u64 x243000_1) := (blk_cell BK242.out 0).trans rfl; have hcz61_1 : w60.cell? ⟨gb242, 1, none⟩ = some (.int .u64 x243001_1) := (blk_cell BK242.out 1).trans rfl; have hfz61_0 := blk_frozen BK242.out 0; have hfz61_1 := blk_frozen BK242.out 1; have hnb62 := NB243_240.out; have hnc62 := NB240_243.out; have hnb63 := NB243_241.out; have hnc63 := NB241_243.out; have hcz64_0 : w60.cell? ⟨gb243, 0, none⟩ = some (.int .u64 t245) := (blk_cell BK243.out 0).trans rfl; have hcz64_1 : w60.cell? ⟨gb243, 1, none⟩ = some (.int .u64 t246) := (blk_cell BK243.out 1).trans rfl; have hfz64_0 := blk_frozen BK243.out 0; have hfz64_1 := blk_frozen BK243.out 1) | ((with_reducible refine gate_callee (f := 99) rfl ?_); refine goesL_ (some 28) rfl rfl Tryd.func99 (by kernel_rfl) rfl #[.agg #[.int .u64 t245, .int .u64 t246], .agg #[.int .u64 0, .int .u64 a1]] rfl zL ?_; (with_reducible refine (smaltoref01_Less.calls t245 t246 0 a1 false _ A33.out).mono ?_); rintro e w65 ⟨rfl, hb⟩; refine ⟨_, rfl, ?_⟩; have n0_ := Aside0.mk (blk_below (zK BK240) hb); have n1_ := Aside0.mk (blk_below (zK BK241) hb); have n2_ := Aside0.mk (blk_below (g := gb242) (o := .cells #[.int .u64 t247, .int .u64 t248] 94 (0, 0)) (by refine zD ?_; refine blk_put (cs := #[.int .u64 t247, .int .u64 x243001_1]) ?_ 1 _ rfl; refine zD ?_; refine blk_put (cs := #[.int .u64 x243000_1, .int .u64 x243001_1]) ?_ 0 _ rfl; refine zD ?_; exact BK242.out) hb); have n3_ := Aside0.mk (blk_below (zK BK243) hb); have n4_ := Aside0.mk (below_step zB hb); clear BK240; clear BK241; clear BK242; clear BK243; clear HB; have BK240 := n0_; have BK241 := n1_; have BK242 := n2_; have BK243 := n3_; have HB := n4_; clear n0_ n1_ n2_ n3_ n4_; (try clear hb); (try clear hb2); (try clear hk); (try clear hi); have hcz66_0 : w65.cell? ⟨gb243, 0, none⟩ = some (.int .u64 t245) := (blk_cell BK243.out 0).trans rfl; have hcz66_1 : w65.cell? ⟨gb243, 1, none⟩ = some (.int .u64 t246) := (blk_cell BK243.out 1).trans rfl; have hfz66_0 := blk_frozen BK243.out 0; have hfz66_1 := blk_frozen BK243.out 1) | ((with_reducible refine gate_callee (f := 100) rfl ?_); refine goesL_ (some 33) rfl rfl Tryd.func100 (by kernel_rfl) rfl #[.agg #[.int .u64 t245, .int .u64 t246], .agg #[.int .u64 0, .int .u64 a1]] rfl zL ?_; (with_reducible refine (smaltoref01_Minus.calls t245 t246 0 a1 t250 t251 _ A50.out).mono ?_); rintro e w67 ⟨rfl, hb⟩; refine ⟨_, rfl, ?_⟩; have n0_ := Aside0.mk (blk_below (zK BK240) hb); have n1_ := Aside0.mk (blk_below (zK BK241) hb); have n2_ := Aside0.mk (blk_below (zK BK242) hb); have n3_ := Aside0.mk (blk_below (zK BK243) hb); have n4_ := Aside0.mk (below_step zB hb); clear BK240; clear BK241; clear BK242; clear BK243; clear HB; have BK240 := n0_; have BK241 := n1_; have BK242 := n2_; have BK243 := n3_; have HB := n4_; clear n0_ n1_ n2_ n3_ n4_; (try clear hb); (try clear hb2); (try clear hk); (try clear hi); have hcz68_0 : w67.cell? ⟨gb243, 0, none⟩ = some (.int .u64 t245) := (blk_cell BK243.out 0).trans rfl; have hcz68_1 : w67.cell? ⟨gb243, 1, none⟩ = some (.int .u64 t246) := (blk_cell BK243.out 1).trans rfl; have hfz68_0 := blk_frozen BK243.out 0; have hfz68_1 := blk_frozen BK243.out 1; have hcz69_0 : w67.cell? ⟨gb242, 0, none⟩ = some (.int .u64 t247) := (blk_cell BK242.out 0).trans rfl; have hcz69_1 : w67.cell? ⟨gb242, 1, none⟩ = some (.int .u64 t248) := (blk_cell BK242.out 1).trans rfl; have hfz69_0 := blk_frozen BK242.out 0; have hfz69_1 := blk_frozen BK242.out 1))
      go_roundg k1
      case measure => have := HK1.out; omega
      case rel => exact ⟨(wrap64 (x8_1 - 1)), (t247), (IntKind.u64.wrap (t248 + 1)), (t250), (t251), zT, H', ⟨by have := HK1.out; omega⟩, ⟨zK BK240⟩, ⟨zK BK241⟩, ⟨by refine zD ?_; refine blk_put (cs := #[.int .u64 t247, .int .u64 t248]) ?_ 1 _ rfl; refine zD ?_; refine blk_far ?_ NB242_243.out _; refine zD ?_; refine blk_far ?_ NB242_243.out _; refine zD ?_; exact BK242.out⟩, ⟨by refine zD ?_; refine blk_far ?_ NB243_242.out _; refine zD ?_; refine blk_put (cs := #[.int .u64 t250, .int .u64 t246]) ?_ 1 _ rfl; refine zD ?_; refine blk_put (cs := #[.int .u64 t245, .int .u64 t246]) ?_ 0 _ rfl; refine zD ?_; exact BK243.out⟩, ⟨zB⟩⟩
    ·rw [if_neg c29] at H
     have c29b0 : decide (0 ≤ x8_1) = false := decide_eq_false c29
     clear c29
     simp only [Option.some.injEq, Prod.mk.injEq] at H
     obtain ⟨rfl, rfl, rfl⟩ := H
     try go_wp2
     have n0_ := Aside0.mk (blk_drew BK240.out)
     have n1_ := Aside0.mk (blk_drew BK241.out)
     have n2_ := Aside0.mk (blk_drew BK242.out)
     have n3_ := Aside0.mk (blk_drew BK243.out)
     have n4_ := Aside0.mk (below_drew1 HB.out)
     clear BK240
     clear BK241
     clear BK242
     clear BK243
     clear HB
     have BK240 := n0_
     have BK241 := n1_
     have BK242 := n2_
     have BK243 := n3_
     have HB := n4_
     clear n0_ n1_ n2_ n3_ n4_
     refine start_ (n := 5) (S := fun w' => w'.cell? ⟨gb242, 0, none⟩ = some (.int .u64 x243000_1) ∧ w'.cell? ⟨gb242, 1, none⟩ = some (.int .u64 x243001_1) ∧ w'.cell? ⟨gb243, 0, none⟩ = some (.int .u64 x244000_1) ∧ w'.cell? ⟨gb243, 1, none⟩ = some (.int .u64 x244001_1)) (ds := []) #[false, false, false, false, false] (by kernel_rfl) rfl rfl ⟨(blk_cell BK242.out 0).trans rfl, (blk_cell BK242.out 1).trans rfl, (blk_cell BK243.out 0).trans rfl, (blk_cell BK243.out 1).trans rfl⟩ (fun hHeld => ?_)
     generalize wr.drew = w70 at BK240 BK241 BK242 BK243 HB hHeld ⊢
     refine pure_ (i := 1) (N := some 39) (v := ?_) (a' := ?_) #[false, true, false, false, false] rfl rfl (by kernel_rfl) (fun _ _ _ h => h) (Or.inl ⟨by rfl, ?_⟩) ?_ ?_
     rotate_left
     ·intro w'
      go_simp
      with_reducible rfl
     rotate_left
     ·simp only [Act.put, List.setIfInBounds_toArray, List.set_cons_zero, List.set_cons_succ, i64_w, i32_w]
      rfl
     refine take_ (i := 0) (N := some 38) (v := ?_) (a' := ?_) #[true, true, false, false, false] rfl rfl (by kernel_rfl) (fun _ _ _ h => h) (Or.inl ⟨by rfl, ?_⟩) hHeld ?_ ?_
     rotate_left
     ·rintro w' ⟨s0, s1, s2, s3⟩
      go_simp
      with_reducible rfl
     rotate_left
     ·simp only [Act.put, List.setIfInBounds_toArray, List.set_cons_zero, List.set_cons_succ, i64_w, i32_w]
      rfl
     refine take_ (i := 2) (N := some 40) (v := ?_) (a' := ?_) #[true, true, true, false, false] rfl rfl (by kernel_rfl) (fun _ _ _ h => h) (Or.inl ⟨by rfl, ?_⟩) hHeld ?_ ?_
     rotate_left
     ·rintro w' ⟨s0, s1, s2, s3⟩
      go_simp
      with_reducible rfl
     rotate_left
     ·simp only [Act.put, List.setIfInBounds_toArray, List.set_cons_zero, List.set_cons_succ, i64_w, i32_w]
      rfl
     refine one_ (i := 3) (N := none) #[true, true, true, true, false] rfl rfl (by kernel_rfl) (by decide) (fun K hK => ?_)
     have hs71 : w70.cell? ⟨gb241, 0, none⟩ = some (.int .u64 0) := (blk_cell BK241.out 0).trans rfl
     have hfs71 := blk_frozen BK241.out 0
     have hns71_0 := NB240_241.out
     have hns71_2 := NB242_241.out
     have hns71_3 := NB243_241.out
     have hms71_0 := NB241_240.out
     have hms71_2 := NB241_242.out
     have hms71_3 := NB241_243.out
     have hs72 : w70.cell? ⟨gb241, 1, none⟩ = some (.int .u64 0) := (blk_cell BK241.out 1).trans rfl
     have hfs72 := blk_frozen BK241.out 1
     have hns72_0 := NB240_241.out
     have hns72_2 := NB242_241.out
     have hns72_3 := NB243_241.out
     have hms72_0 := NB241_240.out
     have hms72_2 := NB241_242.out
     have hms72_3 := NB241_243.out
     refine skip_ (w1 := ?_) (by rfl) rfl ?_ ?_
     rotate_left
     ·go_simp
      rfl
     refine hK.out _ _ ⟨((cell_far (p := ⟨gb241, _, none⟩) NB242_241.out _).trans (((cell_far (p := ⟨gb241, _, none⟩) NB242_241.out _).trans (hHeld.1)))), ((cell_far (p := ⟨gb241, _, none⟩) NB242_241.out _).trans (((cell_far (p := ⟨gb241, _, none⟩) NB242_241.out _).trans (hHeld.2.1)))), ((cell_far (p := ⟨gb241, _, none⟩) NB243_241.out _).trans (((cell_far (p := ⟨gb241, _, none⟩) NB243_241.out _).trans (hHeld.2.2.1)))), ((cell_far (p := ⟨gb241, _, none⟩) NB243_241.out _).trans (((cell_far (p := ⟨gb241, _, none⟩) NB243_241.out _).trans (hHeld.2.2.2))))⟩ (fun hHeld => ?_)
     clear hK K
     refine pure_ (i := 4) (N := some 5) (v := ?_) (a' := ?_) #[true, true, true, true, true] rfl rfl (by kernel_rfl) (fun _ _ _ h => h) (Or.inl ⟨by rfl, ?_⟩) ?_ ?_
     rotate_left
     ·intro w'
      go_simp
      with_reducible rfl
     rotate_left
     ·simp only [Act.put, List.setIfInBounds_toArray, List.set_cons_zero, List.set_cons_succ, i64_w, i32_w]
      rfl
     refine done_ (by kernel_rfl) ?_
     try go_wp2
     refine bodyPost_ret (results_ct rfl _ _ gb241 94 #[.int .u64 x243000_1, .int .u64 x243001_1] (0, 0) _ rfl (by refine zD ?_; refine blk_put (cs := #[.int .u64 x243000_1, .int .u64 0]) ?_ 1 _ rfl; refine zD ?_; refine blk_put (cs := #[.int .u64 0, .int .u64 0]) ?_ 0 _ rfl; refine zD ?_; exact BK241.out) Tryd.underlying94 rfl (by kernel_rfl)) rfl ?_
     exact ⟨zS, zB⟩
end Go.Proofs.YthaajkpiknbdbaaDoor.QA

namespace Go.Proofs.YthaajkpiknbdbaaDoor.QA
open Go.Proofs.YthaajkpiknbdbaaDoor.T
open Go.RowKit Go.Proofs.YthaajkpiknbdbaaDoorW.PrintWords Go.Proofs.YthaajkpiknbdbaaDoorW.PrintLast Go.Proofs.YthaajkpiknbdbaaDoorW.PrintMore
attribute [local go_sem] ext_call max2_int min2_int max_two min_two max_three min_three max_four min_four   -- for this text's walks alone
set_option linter.unusedVariables false
set_option linter.unusedSimpArgs false
def smaltoref01_Hold.j0 : Nat → Bool → Int → Int → Option (Int)
 | 0, _, _, _ => none
 | k + 1, x13, x253000, x253001 => if x13 = true then (some (-9223372036854775808)) else (some (wrap64 (-(wrap64 (x253001)))))
def smaltoref01_Hold.f (k : Nat) (a0_0 : Int) (a0_1 : Int) (a1 : Bool) : Option (Int) := if a1 = true then (if a0_0 > 0 then (smaltoref01_Hold.j0 k true a0_0 a0_1) else (smaltoref01_Hold.j0 k (decide (a0_1 > 9223372036854775807)) a0_0 a0_1)) else (if a0_0 > 0 then (some 9223372036854775807) else (if a0_1 > 9223372036854775807 then (some 9223372036854775807) else (some (wrap64 (a0_1)))))
theorem smaltoref01_Hold.mono_l : ∀ k, (∀ y0 y1 y2, LeO (smaltoref01_Hold.j0 k y0 y1 y2) (smaltoref01_Hold.j0 (k + 1) y0 y1 y2))
 | 0 => fun _ _ _ r h => by simp [smaltoref01_Hold.j0] at h
 | k + 1 => by
  have ih0 := smaltoref01_Hold.mono_l k
  ·intro y0 y1 y2
   unfold smaltoref01_Hold.j0
   repeat' (with_reducible first | exact ih0 _ _ _ | exact zM | refine LeO.ite ?_ ?_ | refine LeO.bind ?_ (fun _ => ?_))
theorem smaltoref01_Hold.mono : ∀ a0 a1 a2 k, LeO (smaltoref01_Hold.f k a0 a1 a2) (smaltoref01_Hold.f (k + 1) a0 a1 a2) := by
 intro a0 a1 a2 k
 have ih0 := smaltoref01_Hold.mono_l k
 unfold smaltoref01_Hold.f
 repeat' (with_reducible first | exact ih0 _ _ _ | exact zM | refine LeO.ite ?_ ?_ | refine LeO.bind ?_ (fun _ => ?_))
set_option maxHeartbeats 8000000 in
set_option maxRecDepth 100000 in
theorem smaltoref01_Hold.calls (k : Nat) (a0_0 : Int) (a0_1 : Int) (a1 : Bool) (r : Int) (w : World) (h : smaltoref01_Hold.f k a0_0 a0_1 a1 = some r) :
  Calls Tryd.prog 74 #[.agg #[.int .u64 a0_0, .int .u64 a0_1], .bool a1] w fun e w' => e = .returned (.int .i64 r) ∧ Below w.heap.size w w' := by
 have hu94 := Tryd.underlying94
 have HB := Aside0.mk (Below.refl w.heap.size w)
 have H : (if a1 = true then (if a0_0 > 0 then (smaltoref01_Hold.j0 k true a0_0 a0_1) else (smaltoref01_Hold.j0 k (decide (a0_1 > 9223372036854775807)) a0_0 a0_1)) else (if a0_0 > 0 then (some 9223372036854775807) else (if a0_1 > 9223372036854775807 then (some 9223372036854775807) else (some (wrap64 (a0_1)))))) = some r := h
 clear h
 by_cases c3 : a1 = true
 ·subst c3
  have H1 := H; rw [if_pos rfl] at H1; try dsimp only at H1
  clear H
  have H := H1
  clear H1
  have HC4 := Aside0.mk H
  clear H
  go_enter Tryd.func74, Tryd.ntmps74
  go_upto_region 2 with (first | ((with_reducible refine gate_dst (N := 2) rfl ?_); refine box_event ?hg (N := 2) ?hd (cs := #[.int .u64 a0_0, .int .u64 a0_1]) (t := 94) ?hr ?_; (case hd => rfl); (case hg => rfl); (case hr => first | (go_simp; done) | (go_simp; rfl)); intro gb252 hg w5 hbox hb; have n0_ := Aside0.mk (below_step zB hb); have n1_ := Aside0.mk (hbox); have n2_ := Aside0.mk ((by rw [hg]; exact (below_size zB) : w.heap.size ≤ gb252)); have n3_ := Aside0.mk ((by rw [hg]; exact (below_size zB) : w.heap.size ≤ gb252)); clear HB; have HB := n0_; have BK252 := n1_; have GW252 := n2_; have GE252 := n3_; clear n0_ n1_ n2_ n3_; clear hb hbox hg))
  (try simp only [Act.put, List.setIfInBounds_toArray, List.set_cons_zero, List.set_cons_succ])
  go_cut [13] (fun v13 wc => ∃ (kq : Nat) (x13_3 : Bool), v13 = .bool x13_3 ∧ Aside0 (smaltoref01_Hold.j0 kq x13_3 a0_0 a0_1 = some r) ∧ Aside0 (kq ≤ k) ∧ Aside0 (wc.heap[gb252]? = some (.cells #[.int .u64 a0_0, .int .u64 a0_1] 94 (0, 0))) ∧ Aside0 (Below w.heap.size w wc))
  case first =>
   have H := HC4.out
   clear HC4
   by_cases c6 : a0_0 > 0
   ·rw [if_pos c6] at H
    have c6b0 : decide (0 < a0_0) = true := decide_eq_true c6
    clear c6
    (first | rw [c6b0] | (simp only [i64_w, i32_w]; rw [c6b0]) | skip)
    have H' := Aside0.mk H
    clear H
    have hcz7_0 : w5.cell? ⟨gb252, 0, none⟩ = some (.int .u64 a0_0) := (blk_cell BK252.out 0).trans rfl
    have hcz7_1 : w5.cell? ⟨gb252, 1, none⟩ = some (.int .u64 a0_1) := (blk_cell BK252.out 1).trans rfl
    have hfz7_0 := blk_frozen BK252.out 0
    have hfz7_1 := blk_frozen BK252.out 1
    go_wp2
    go_meet
    case rel => exact ⟨_, (true), zT, H', ⟨by first | omega | exact Nat.le_refl _⟩, ⟨zK BK252⟩, ⟨zB⟩⟩
   ·rw [if_neg c6] at H
    have c6b0 : decide (0 < a0_0) = false := decide_eq_false c6
    clear c6
    (first | rw [c6b0] | (simp only [i64_w, i32_w]; rw [c6b0]) | skip)
    have H' := Aside0.mk H
    clear H
    have hcz8_0 : w5.cell? ⟨gb252, 0, none⟩ = some (.int .u64 a0_0) := (blk_cell BK252.out 0).trans rfl
    have hcz8_1 : w5.cell? ⟨gb252, 1, none⟩ = some (.int .u64 a0_1) := (blk_cell BK252.out 1).trans rfl
    have hfz8_0 := blk_frozen BK252.out 0
    have hfz8_1 := blk_frozen BK252.out 1
    go_wp2
    go_meet
    case rel => exact ⟨_, (decide (a0_1 > 9223372036854775807)), zT, H', ⟨by first | omega | exact Nat.le_refl _⟩, ⟨zK BK252⟩, ⟨zB⟩⟩
  case rest =>
   clear HC4
   try clear p2
   try clear c3
   try clear c6
   try clear c6b0
   try clear p6
   try clear c7
   try clear hcz7_0
   try clear hcz7_1
   try clear hcz8_0
   try clear hcz8_1
   try clear hfz7_0
   try clear hfz7_1
   try clear hfz8_0
   try clear hfz8_1
   obtain ⟨kq, x13_3, rfl, HA, HJ3, BK252, HB⟩ := hcut
   cases kq with
   | zero => exact absurd HA.out (by simp [smaltoref01_Hold.j0])
   | succ kj3 =>
    have H := HA.out
    clear HA
    simp only [smaltoref01_Hold.j0] at H
    by_cases c9 : x13_3 = true
    ·subst c9
     have H1 := H; rw [if_pos rfl] at H1; try dsimp only at H1
     clear H
     have H := H1
     clear H1
     obtain rfl := Option.some.inj H
     go_wp2
     go_ret
     exact ⟨zS, zB⟩
    ·replace c9 := Bool.eq_false_iff.mpr c9
     subst c9
     have H1 := H; rw [if_neg (show ¬ (false = true) by decide)] at H1; try dsimp only at H1
     clear H
     have H := H1
     clear H1
     obtain rfl := Option.some.inj H
     have hcz10_0 : wc.cell? ⟨gb252, 0, none⟩ = some (.int .u64 a0_0) := (blk_cell BK252.out 0).trans rfl
     have hcz10_1 : wc.cell? ⟨gb252, 1, none⟩ = some (.int .u64 a0_1) := (blk_cell BK252.out 1).trans rfl
     have hfz10_0 := blk_frozen BK252.out 0
     have hfz10_1 := blk_frozen BK252.out 1
     go_wp2
     go_ret
     exact ⟨zS, zB⟩
 ·replace c3 := Bool.eq_false_iff.mpr c3
  subst c3
  have H1 := H; rw [if_neg (show ¬ (false = true) by decide)] at H1; try dsimp only at H1
  clear H
  have H := H1
  clear H1
  by_cases c11 : a0_0 > 0
  ·rw [if_pos c11] at H
   have c11b0 : decide (0 < a0_0) = true := decide_eq_true c11
   clear c11
   obtain rfl := Option.some.inj H
   go_enter Tryd.func74, Tryd.ntmps74
   go_wp2_with (first | ((with_reducible refine gate_dst (N := 2) rfl ?_); refine box_event ?hg (N := 2) ?hd (cs := #[.int .u64 a0_0, .int .u64 a0_1]) (t := 94) ?hr ?_; (case hd => rfl); (case hg => rfl); (case hr => first | (go_simp; done) | (go_simp; rfl)); intro gb252 hg w12 hbox hb; have n0_ := Aside0.mk (below_step zB hb); have n1_ := Aside0.mk (hbox); have n2_ := Aside0.mk ((by rw [hg]; exact (below_size zB) : w.heap.size ≤ gb252)); have n3_ := Aside0.mk ((by rw [hg]; exact (below_size zB) : w.heap.size ≤ gb252)); clear HB; have HB := n0_; have BK252 := n1_; have GW252 := n2_; have GE252 := n3_; clear n0_ n1_ n2_ n3_; clear hb hbox hg; have hcz13_0 : w12.cell? ⟨gb252, 0, none⟩ = some (.int .u64 a0_0) := (blk_cell BK252.out 0).trans rfl; have hcz13_1 : w12.cell? ⟨gb252, 1, none⟩ = some (.int .u64 a0_1) := (blk_cell BK252.out 1).trans rfl; have hfz13_0 := blk_frozen BK252.out 0; have hfz13_1 := blk_frozen BK252.out 1))
   go_ret
   exact ⟨zS, zB⟩
  ·rw [if_neg c11] at H
   have c11b0 : decide (0 < a0_0) = false := decide_eq_false c11
   clear c11
   by_cases c14 : a0_1 > 9223372036854775807
   ·rw [if_pos c14] at H
    have c14b0 : decide (9223372036854775807 < a0_1) = true := decide_eq_true c14
    clear c14
    obtain rfl := Option.some.inj H
    go_enter Tryd.func74, Tryd.ntmps74
    go_wp2_with (first | ((with_reducible refine gate_dst (N := 2) rfl ?_); refine box_event ?hg (N := 2) ?hd (cs := #[.int .u64 a0_0, .int .u64 a0_1]) (t := 94) ?hr ?_; (case hd => rfl); (case hg => rfl); (case hr => first | (go_simp; done) | (go_simp; rfl)); intro gb252 hg w15 hbox hb; have n0_ := Aside0.mk (below_step zB hb); have n1_ := Aside0.mk (hbox); have n2_ := Aside0.mk ((by rw [hg]; exact (below_size zB) : w.heap.size ≤ gb252)); have n3_ := Aside0.mk ((by rw [hg]; exact (below_size zB) : w.heap.size ≤ gb252)); clear HB; have HB := n0_; have BK252 := n1_; have GW252 := n2_; have GE252 := n3_; clear n0_ n1_ n2_ n3_; clear hb hbox hg; have hcz16_0 : w15.cell? ⟨gb252, 0, none⟩ = some (.int .u64 a0_0) := (blk_cell BK252.out 0).trans rfl; have hcz16_1 : w15.cell? ⟨gb252, 1, none⟩ = some (.int .u64 a0_1) := (blk_cell BK252.out 1).trans rfl; have hfz16_0 := blk_frozen BK252.out 0; have hfz16_1 := blk_frozen BK252.out 1))
    go_ret
    exact ⟨zS, zB⟩
   ·rw [if_neg c14] at H
    have c14b0 : decide (9223372036854775807 < a0_1) = false := decide_eq_false c14
    clear c14
    obtain rfl := Option.some.inj H
    go_enter Tryd.func74, Tryd.ntmps74
    go_wp2_with (first | ((with_reducible refine gate_dst (N := 2) rfl ?_); refine box_event ?hg (N := 2) ?hd (cs := #[.int .u64 a0_0, .int .u64 a0_1]) (t := 94) ?hr ?_; (case hd => rfl); (case hg => rfl); (case hr => first | (go_simp; done) | (go_simp; rfl)); intro gb252 hg w17 hbox hb; have n0_ := Aside0.mk (below_step zB hb); have n1_ := Aside0.mk (hbox); have n2_ := Aside0.mk ((by rw [hg]; exact (below_size zB) : w.heap.size ≤ gb252)); have n3_ := Aside0.mk ((by rw [hg]; exact (below_size zB) : w.heap.size ≤ gb252)); clear HB; have HB := n0_; have BK252 := n1_; have GW252 := n2_; have GE252 := n3_; clear n0_ n1_ n2_ n3_; clear hb hbox hg; have hcz18_0 : w17.cell? ⟨gb252, 0, none⟩ = some (.int .u64 a0_0) := (blk_cell BK252.out 0).trans rfl; have hcz18_1 : w17.cell? ⟨gb252, 1, none⟩ = some (.int .u64 a0_1) := (blk_cell BK252.out 1).trans rfl; have hfz18_0 := blk_frozen BK252.out 0; have hfz18_1 := blk_frozen BK252.out 1))
    go_ret
    exact ⟨zS, zB⟩
def smaltoref01_Nearest.j0 : Nat → Bool → Bool → Int → Int → Option (Int)
 | 0, _, _, _, _ => none
 | k + 1, x2, x10, x258000, x258001 => if x10 = true then ((smaltoref01_Plus.f x258000 x258001 0 1).bind fun bt263 => ((smaltoref01_Hold.f k bt263.1 bt263.2 x2).bind fun t265 => (some t265))) else ((smaltoref01_Hold.f k x258000 x258001 x2).bind fun t266 => (some t266))
def smaltoref01_Nearest.f (k : Nat) (a0_0 : Int) (a0_1 : Int) (a1 : Int) (a2 : Bool) : Option (Int) := (smaltoref01_Over.f k a0_0 a0_1 a1).bind fun bt254 => ((smaltoref01_Twice.f 0 bt254.2.2 0).bind fun bt258 => ((smaltoref01_Less.f bt258.1 bt258.2 0 a1).bind fun t261 => (if a2 = true then ((smaltoref01_Less.f 0 a1 bt258.1 bt258.2).bind fun t262 => (smaltoref01_Nearest.j0 k a2 t262 bt254.1 bt254.2.1)) else (smaltoref01_Nearest.j0 k a2 (!t261) bt254.1 bt254.2.1))))
theorem smaltoref01_Nearest.mono_l : ∀ k, (∀ y0 y1 y2 y3, LeO (smaltoref01_Nearest.j0 k y0 y1 y2 y3) (smaltoref01_Nearest.j0 (k + 1) y0 y1 y2 y3))
 | 0 => fun _ _ _ _ r h => by simp [smaltoref01_Nearest.j0] at h
 | k + 1 => by
  have ih0 := smaltoref01_Nearest.mono_l k
  ·intro y0 y1 y2 y3
   unfold smaltoref01_Nearest.j0
   repeat' (with_reducible first | exact ih0 _ _ _ _ | exact smaltoref01_Hold.mono _ _ _ _ | exact smaltoref01_Over.mono _ _ _ _ | exact zM | refine LeO.ite ?_ ?_ | refine LeO.bind ?_ (fun _ => ?_))
theorem smaltoref01_Nearest.mono : ∀ a0 a1 a2 a3 k, LeO (smaltoref01_Nearest.f k a0 a1 a2 a3) (smaltoref01_Nearest.f (k + 1) a0 a1 a2 a3) := by
 intro a0 a1 a2 a3 k
 have ih0 := smaltoref01_Nearest.mono_l k
 unfold smaltoref01_Nearest.f
 repeat' (with_reducible first | exact ih0 _ _ _ _ | exact smaltoref01_Hold.mono _ _ _ _ | exact smaltoref01_Over.mono _ _ _ _ | exact zM | refine LeO.ite ?_ ?_ | refine LeO.bind ?_ (fun _ => ?_))
set_option maxHeartbeats 8000000 in
set_option maxRecDepth 100000 in
theorem smaltoref01_Nearest.calls (k : Nat) (a0_0 : Int) (a0_1 : Int) (a1 : Int) (a2 : Bool) (r : Int) (w : World) (h : smaltoref01_Nearest.f k a0_0 a0_1 a1 a2 = some r) :
  Calls Tryd.prog 92 #[.agg #[.int .u64 a0_0, .int .u64 a0_1], .int .u64 a1, .bool a2] w fun e w' => e = .returned (.int .i64 r) ∧ Below w.heap.size w w' := by
 have hu94 := Tryd.underlying94
 have HB := Aside0.mk (Below.refl w.heap.size w)
 have H : ((smaltoref01_Over.f k a0_0 a0_1 a1).bind fun bt254 => ((smaltoref01_Twice.f 0 bt254.2.2 0).bind fun bt258 => ((smaltoref01_Less.f bt258.1 bt258.2 0 a1).bind fun t261 => (if a2 = true then ((smaltoref01_Less.f 0 a1 bt258.1 bt258.2).bind fun t262 => (smaltoref01_Nearest.j0 k a2 t262 bt254.1 bt254.2.1)) else (smaltoref01_Nearest.j0 k a2 (!t261) bt254.1 bt254.2.1))))) = some r := h
 clear h
 replace H := Option.bind_eq_some_iff.mp H
 obtain ⟨⟨t254, t255, t256⟩, A40, H⟩ := H
 try dsimp only at H
 have A4 := Aside0.mk A40
 clear A40
 replace H := Option.bind_eq_some_iff.mp H
 obtain ⟨⟨t258, t259⟩, A50, H⟩ := H
 try dsimp only at H
 have A5 := Aside0.mk A50
 clear A50
 replace H := Option.bind_eq_some_iff.mp H
 obtain ⟨t261, A60, H⟩ := H
 try dsimp only at H
 have A6 := Aside0.mk A60
 clear A60
 have HC7 := Aside0.mk H
 clear H
 go_enter Tryd.func92, Tryd.ntmps92
 go_upto_if 25 with (first | ((with_reducible refine gate_dst (N := 3) rfl ?_); refine box_event ?hg (N := 3) ?hd (cs := #[.int .u64 a0_0, .int .u64 a0_1]) (t := 94) ?hr ?_; (case hd => rfl); (case hg => rfl); (case hr => first | (go_simp; done) | (go_simp; rfl)); intro gb253 hg w8 hbox hb; have n0_ := Aside0.mk (below_step zB hb); have n1_ := Aside0.mk (hbox); have n2_ := Aside0.mk ((by rw [hg]; exact (below_size zB) : w.heap.size ≤ gb253)); have n3_ := Aside0.mk ((by rw [hg]; exact (below_size zB) : w.heap.size ≤ gb253)); clear HB; have HB := n0_; have BK253 := n1_; have GW253 := n2_; have GE253 := n3_; clear n0_ n1_ n2_ n3_; clear hb hbox hg; have hcz9_0 : w8.cell? ⟨gb253, 0, none⟩ = some (.int .u64 a0_0) := (blk_cell BK253.out 0).trans rfl; have hcz9_1 : w8.cell? ⟨gb253, 1, none⟩ = some (.int .u64 a0_1) := (blk_cell BK253.out 1).trans rfl; have hfz9_0 := blk_frozen BK253.out 0; have hfz9_1 := blk_frozen BK253.out 1) | ((with_reducible refine gate_callee (f := 71) rfl ?_); refine goesL_ (some 14) rfl rfl Tryd.func71 (by kernel_rfl) rfl #[.agg #[.int .u64 a0_0, .int .u64 a0_1], .int .u64 a1] rfl zL ?_; (with_reducible refine (smaltoref01_Over.calls k a0_0 a0_1 a1 t254 t255 t256 _ A4.out).mono ?_); rintro e w10 ⟨rfl, hb⟩; refine ⟨_, rfl, ?_⟩; have n0_ := Aside0.mk (blk_below (zK BK253) hb); have n1_ := Aside0.mk (below_step zB hb); clear BK253; clear HB; have BK253 := n0_; have HB := n1_; clear n0_ n1_; (try clear hb); (try clear hb2); (try clear hk); (try clear hi)) | ((with_reducible refine gate_dst (N := 7) rfl ?_); refine box_event ?hg (N := 7) ?hd (cs := #[.int .u64 0, .int .u64 0]) (t := 94) ?hr ?_; (case hd => rfl); (case hg => rfl); (case hr => first | (go_simp; done) | (go_simp; rfl)); intro gb257 hg w11 hbox hb; have n0_ := Aside0.mk (blk_below (zK BK253) hb); have n1_ := Aside0.mk (below_step zB hb); have n2_ := Aside0.mk (hbox); have n3_ := Aside0.mk ((by rw [hg]; exact (below_size zB) : w.heap.size ≤ gb257)); have n4_ := Aside0.mk ((by rw [hg]; exact (below_size zB) : w.heap.size ≤ gb257)); have n5_ := Aside0.mk ((by rw [hg]; exact Nat.ne_of_lt (blk_lt (zK BK253)) : gb253 ≠ gb257)); have n6_ := Aside0.mk ((by rw [hg]; exact Nat.ne_of_gt (blk_lt (zK BK253)) : gb257 ≠ gb253)); clear BK253; clear HB; have BK253 := n0_; have HB := n1_; have BK257 := n2_; have GW257 := n3_; have GE257 := n4_; have NB253_257 := n5_; have NB257_253 := n6_; clear n0_ n1_ n2_ n3_ n4_ n5_ n6_; clear hb hbox hg; have hnb12 := NB257_253.out; have hnc12 := NB253_257.out; have hcz13_0 : w11.cell? ⟨gb257, 0, none⟩ = some (.int .u64 0) := (blk_cell BK257.out 0).trans rfl; have hcz13_1 : w11.cell? ⟨gb257, 1, none⟩ = some (.int .u64 0) := (blk_cell BK257.out 1).trans rfl; have hfz13_0 := blk_frozen BK257.out 0; have hfz13_1 := blk_frozen BK257.out 1) | ((with_reducible refine gate_callee (f := 97) rfl ?_); refine goesL_ (some 19) rfl rfl Tryd.func97 (by kernel_rfl) rfl #[.agg #[.int .u64 0, .int .u64 t256], .int .u64 0] rfl zL ?_; (with_reducible refine (smaltoref01_Twice.calls 0 t256 0 t258 t259 _ A5.out).mono ?_); rintro e w14 ⟨rfl, hb⟩; refine ⟨_, rfl, ?_⟩; have n0_ := Aside0.mk (blk_below (zK BK253) hb); have n1_ := Aside0.mk (blk_below (g := gb257) (o := .cells #[.int .u64 t254, .int .u64 t255] 94 (0, 0)) (by refine zD ?_; refine blk_put (cs := #[.int .u64 t254, .int .u64 0]) ?_ 1 _ rfl; refine zD ?_; refine blk_put (cs := #[.int .u64 0, .int .u64 0]) ?_ 0 _ rfl; refine zD ?_; exact BK257.out) hb); have n2_ := Aside0.mk (below_step zB hb); clear BK253; clear BK257; clear HB; have BK253 := n0_; have BK257 := n1_; have HB := n2_; clear n0_ n1_ n2_; (try clear hb); (try clear hb2); (try clear hk); (try clear hi)) | ((with_reducible refine gate_dst (N := 9) rfl ?_); refine box_event ?hg (N := 9) ?hd (cs := #[.int .u64 0, .int .u64 0]) (t := 94) ?hr ?_; (case hd => rfl); (case hg => rfl); (case hr => first | (go_simp; done) | (go_simp; rfl)); intro gb260 hg w15 hbox hb; have n0_ := Aside0.mk (blk_below (zK BK253) hb); have n1_ := Aside0.mk (blk_below (zK BK257) hb); have n2_ := Aside0.mk (below_step zB hb); have n3_ := Aside0.mk (hbox); have n4_ := Aside0.mk ((by rw [hg]; exact (below_size zB) : w.heap.size ≤ gb260)); have n5_ := Aside0.mk ((by rw [hg]; exact (below_size zB) : w.heap.size ≤ gb260)); have n6_ := Aside0.mk ((by rw [hg]; exact Nat.ne_of_lt (blk_lt (zK BK253)) : gb253 ≠ gb260)); have n7_ := Aside0.mk ((by rw [hg]; exact Nat.ne_of_gt (blk_lt (zK BK253)) : gb260 ≠ gb253)); have n8_ := Aside0.mk ((by rw [hg]; exact Nat.ne_of_lt (blk_lt (zK BK257)) : gb257 ≠ gb260)); have n9_ := Aside0.mk ((by rw [hg]; exact Nat.ne_of_gt (blk_lt (zK BK257)) : gb260 ≠ gb257)); clear BK253; clear BK257; clear HB; have BK253 := n0_; have BK257 := n1_; have HB := n2_; have BK260 := n3_; have GW260 := n4_; have GE260 := n5_; have NB253_260 := n6_; have NB260_253 := n7_; have NB257_260 := n8_; have NB260_257 := n9_; clear n0_ n1_ n2_ n3_ n4_ n5_ n6_ n7_ n8_ n9_; clear hb hbox hg; have hnb16 := NB260_253.out; have hnc16 := NB253_260.out; have hnb17 := NB260_257.out; have hnc17 := NB257_260.out; have hcz18_0 : w15.cell? ⟨gb260, 0, none⟩ = some (.int .u64 0) := (blk_cell BK260.out 0).trans rfl; have hcz18_1 : w15.cell? ⟨gb260, 1, none⟩ = some (.int .u64 0) := (blk_cell BK260.out 1).trans rfl; have hfz18_0 := blk_frozen BK260.out 0; have hfz18_1 := blk_frozen BK260.out 1) | ((with_reducible refine gate_callee (f := 99) rfl ?_); refine goesL_ (some 23) rfl rfl Tryd.func99 (by kernel_rfl) rfl #[.agg #[.int .u64 t258, .int .u64 t259], .agg #[.int .u64 0, .int .u64 a1]] rfl zL ?_; (with_reducible refine (smaltoref01_Less.calls t258 t259 0 a1 t261 _ A6.out).mono ?_); rintro e w19 ⟨rfl, hb⟩; refine ⟨_, rfl, ?_⟩; have n0_ := Aside0.mk (blk_below (zK BK253) hb); have n1_ := Aside0.mk (blk_below (zK BK257) hb); have n2_ := Aside0.mk (blk_below (g := gb260) (o := .cells #[.int .u64 t258, .int .u64 t259] 94 (0, 0)) (by refine zD ?_; refine blk_put (cs := #[.int .u64 t258, .int .u64 0]) ?_ 1 _ rfl; refine zD ?_; refine blk_put (cs := #[.int .u64 0, .int .u64 0]) ?_ 0 _ rfl; refine zD ?_; exact BK260.out) hb); have n3_ := Aside0.mk (below_step zB hb); clear BK253; clear BK257; clear BK260; clear HB; have BK253 := n0_; have BK257 := n1_; have BK260 := n2_; have HB := n3_; clear n0_ n1_ n2_ n3_; (try clear hb); (try clear hb2); (try clear hk); (try clear hi)))
 (try simp only [Act.put, List.setIfInBounds_toArray, List.set_cons_zero, List.set_cons_succ])
 go_cut [10] (fun v10 wc => ∃ (kq : Nat) (x10_6 : Bool), v10 = .bool x10_6 ∧ Aside0 (smaltoref01_Nearest.j0 kq a2 x10_6 t254 t255 = some r) ∧ Aside0 (kq ≤ k) ∧ Aside0 (wc.heap[gb253]? = some (.cells #[.int .u64 a0_0, .int .u64 a0_1] 94 (0, 0))) ∧ Aside0 (wc.heap[gb257]? = some (.cells #[.int .u64 t254, .int .u64 t255] 94 (0, 0))) ∧ Aside0 (wc.heap[gb260]? = some (.cells #[.int .u64 t258, .int .u64 t259] 94 (0, 0))) ∧ Aside0 (Below w.heap.size w wc))
 case first =>
  have H := HC7.out
  clear HC7
  by_cases c20 : a2 = true
  ·subst c20
   have H1 := H; rw [if_pos rfl] at H1; try dsimp only at H1
   clear H
   have H := H1
   clear H1
   replace H := Option.bind_eq_some_iff.mp H
   obtain ⟨t262, A210, H⟩ := H
   try dsimp only at H
   have A21 := Aside0.mk A210
   clear A210
   have H' := Aside0.mk H
   clear H
   have hnb22 := NB260_253.out
   have hnc22 := NB253_260.out
   have hnb23 := NB260_257.out
   have hnc23 := NB257_260.out
   have hcz24_0 : w19.cell? ⟨gb260, 0, none⟩ = some (.int .u64 t258) := (blk_cell BK260.out 0).trans rfl
   have hcz24_1 : w19.cell? ⟨gb260, 1, none⟩ = some (.int .u64 t259) := (blk_cell BK260.out 1).trans rfl
   have hfz24_0 := blk_frozen BK260.out 0
   have hfz24_1 := blk_frozen BK260.out 1
   go_wp2_with (first | ((with_reducible refine gate_callee (f := 99) rfl ?_); refine goesL_ (some 29) rfl rfl Tryd.func99 (by kernel_rfl) rfl #[.agg #[.int .u64 0, .int .u64 a1], .agg #[.int .u64 t258, .int .u64 t259]] rfl zL ?_; (with_reducible refine (smaltoref01_Less.calls 0 a1 t258 t259 t262 _ A21.out).mono ?_); rintro e w25 ⟨rfl, hb⟩; refine ⟨_, rfl, ?_⟩; have n0_ := Aside0.mk (blk_below (zK BK253) hb); have n1_ := Aside0.mk (blk_below (zK BK257) hb); have n2_ := Aside0.mk (blk_below (zK BK260) hb); have n3_ := Aside0.mk (below_step zB hb); clear BK253; clear BK257; clear BK260; clear HB; have BK253 := n0_; have BK257 := n1_; have BK260 := n2_; have HB := n3_; clear n0_ n1_ n2_ n3_; (try clear hb); (try clear hb2); (try clear hk); (try clear hi)))
   go_meet
   case rel => exact ⟨_, (t262), zT, H', ⟨by first | omega | exact Nat.le_refl _⟩, ⟨zK BK253⟩, ⟨zK BK257⟩, ⟨zK BK260⟩, ⟨zB⟩⟩
  ·replace c20 := Bool.eq_false_iff.mpr c20
   subst c20
   have H1 := H; rw [if_neg (show ¬ (false = true) by decide)] at H1; try dsimp only at H1
   clear H
   have H := H1
   clear H1
   have H' := Aside0.mk H
   clear H
   go_wp2
   go_meet
   case rel => exact ⟨_, (!t261), zT, H', ⟨by first | omega | exact Nat.le_refl _⟩, ⟨zK BK253⟩, ⟨zK BK257⟩, ⟨zK BK260⟩, ⟨zB⟩⟩
 case rest =>
  clear HC7
  try clear c1
  try clear c2
  try clear p2
  try clear c7
  try clear c9
  try clear c12
  try clear c16
  try clear c17
  try clear c20
  try clear c22
  try clear c23
  try clear hcz13_0
  try clear hcz13_1
  try clear hcz18_0
  try clear hcz18_1
  try clear hcz24_0
  try clear hcz24_1
  try clear hcz9_0
  try clear hcz9_1
  try clear hfz13_0
  try clear hfz13_1
  try clear hfz18_0
  try clear hfz18_1
  try clear hfz24_0
  try clear hfz24_1
  try clear hfz9_0
  try clear hfz9_1
  obtain ⟨kq, x10_6, rfl, HA, HJ6, BK253, BK257, BK260, HB⟩ := hcut
  cases kq with
  | zero => exact absurd HA.out (by simp [smaltoref01_Nearest.j0])
  | succ kj6 =>
   have H := HA.out
   clear HA
   simp only [smaltoref01_Nearest.j0] at H
   by_cases c26 : x10_6 = true
   ·subst c26
    have H1 := H; rw [if_pos rfl] at H1; try dsimp only at H1
    clear H
    have H := H1
    clear H1
    replace H := Option.bind_eq_some_iff.mp H
    obtain ⟨⟨t263, t264⟩, A270, H⟩ := H
    try dsimp only at H
    have A27 := Aside0.mk A270
    clear A270
    replace H := Option.bind_eq_some_iff.mp H
    obtain ⟨t265, A280, H⟩ := H
    try dsimp only at H
    have A28 := Aside0.mk A280
    clear A280
    obtain rfl := Option.some.inj H
    have hnb29 := NB257_253.out
    have hnc29 := NB253_257.out
    have hnb30 := NB257_260.out
    have hnc30 := NB260_257.out
    have hcz31_0 : wc.cell? ⟨gb257, 0, none⟩ = some (.int .u64 t254) := (blk_cell BK257.out 0).trans rfl
    have hcz31_1 : wc.cell? ⟨gb257, 1, none⟩ = some (.int .u64 t255) := (blk_cell BK257.out 1).trans rfl
    have hfz31_0 := blk_frozen BK257.out 0
    have hfz31_1 := blk_frozen BK257.out 1
    go_wp2_with (first | ((with_reducible refine gate_callee (f := 73) rfl ?_); refine goesL_ (some 33) rfl rfl Tryd.func73 (by kernel_rfl) rfl #[.agg #[.int .u64 t254, .int .u64 t255], .agg #[.int .u64 0, .int .u64 1]] rfl zL ?_; (with_reducible refine (smaltoref01_Plus.calls t254 t255 0 1 t263 t264 _ A27.out).mono ?_); rintro e w32 ⟨rfl, hb⟩; refine ⟨_, rfl, ?_⟩; have n0_ := Aside0.mk (blk_below (zK BK253) hb); have n1_ := Aside0.mk (blk_below (zK BK257) hb); have n2_ := Aside0.mk (blk_below (zK BK260) hb); have n3_ := Aside0.mk (below_step zB hb); clear BK253; clear BK257; clear BK260; clear HB; have BK253 := n0_; have BK257 := n1_; have BK260 := n2_; have HB := n3_; clear n0_ n1_ n2_ n3_; (try clear hb); (try clear hb2); (try clear hk); (try clear hi); have hcz33_0 : w32.cell? ⟨gb257, 0, none⟩ = some (.int .u64 t254) := (blk_cell BK257.out 0).trans rfl; have hcz33_1 : w32.cell? ⟨gb257, 1, none⟩ = some (.int .u64 t255) := (blk_cell BK257.out 1).trans rfl; have hfz33_0 := blk_frozen BK257.out 0; have hfz33_1 := blk_frozen BK257.out 1) | ((with_reducible refine gate_callee (f := 74) rfl ?_); refine goesL_ (some 36) rfl rfl Tryd.func74 (by kernel_rfl) rfl #[.agg #[.int .u64 t263, .int .u64 t264], .bool a2] rfl zL ?_; (with_reducible refine (smaltoref01_Hold.calls kj6 t263 t264 a2 t265 _ A28.out).mono ?_); rintro e w34 ⟨rfl, hb⟩; refine ⟨_, rfl, ?_⟩; have n0_ := Aside0.mk (blk_below (zK BK253) hb); have n1_ := Aside0.mk (blk_below (g := gb257) (o := .cells #[.int .u64 t263, .int .u64 t264] 94 (0, 0)) (by refine zD ?_; refine blk_put (cs := #[.int .u64 t263, .int .u64 t255]) ?_ 1 _ rfl; refine zD ?_; refine blk_put (cs := #[.int .u64 t254, .int .u64 t255]) ?_ 0 _ rfl; refine zD ?_; exact BK257.out) hb); have n2_ := Aside0.mk (blk_below (zK BK260) hb); have n3_ := Aside0.mk (below_step zB hb); clear BK253; clear BK257; clear BK260; clear HB; have BK253 := n0_; have BK257 := n1_; have BK260 := n2_; have HB := n3_; clear n0_ n1_ n2_ n3_; (try clear hb); (try clear hb2); (try clear hk); (try clear hi)))
    go_ret
    exact ⟨zS, zB⟩
   ·replace c26 := Bool.eq_false_iff.mpr c26
    subst c26
    have H1 := H; rw [if_neg (show ¬ (false = true) by decide)] at H1; try dsimp only at H1
    clear H
    have H := H1
    clear H1
    replace H := Option.bind_eq_some_iff.mp H
    obtain ⟨t266, A350, H⟩ := H
    try dsimp only at H
    have A35 := Aside0.mk A350
    clear A350
    obtain rfl := Option.some.inj H
    have hnb36 := NB257_253.out
    have hnc36 := NB253_257.out
    have hnb37 := NB257_260.out
    have hnc37 := NB260_257.out
    have hcz38_0 : wc.cell? ⟨gb257, 0, none⟩ = some (.int .u64 t254) := (blk_cell BK257.out 0).trans rfl
    have hcz38_1 : wc.cell? ⟨gb257, 1, none⟩ = some (.int .u64 t255) := (blk_cell BK257.out 1).trans rfl
    have hfz38_0 := blk_frozen BK257.out 0
    have hfz38_1 := blk_frozen BK257.out 1
    go_wp2_with (first | ((with_reducible refine gate_callee (f := 74) rfl ?_); refine goesL_ (some 36) rfl rfl Tryd.func74 (by kernel_rfl) rfl #[.agg #[.int .u64 t254, .int .u64 t255], .bool a2] rfl zL ?_; (with_reducible refine (smaltoref01_Hold.calls kj6 t254 t255 a2 t266 _ A35.out).mono ?_); rintro e w39 ⟨rfl, hb⟩; refine ⟨_, rfl, ?_⟩; have n0_ := Aside0.mk (blk_below (zK BK253) hb); have n1_ := Aside0.mk (blk_below (zK BK257) hb); have n2_ := Aside0.mk (blk_below (zK BK260) hb); have n3_ := Aside0.mk (below_step zB hb); clear BK253; clear BK257; clear BK260; clear HB; have BK253 := n0_; have BK257 := n1_; have BK260 := n2_; have HB := n3_; clear n0_ n1_ n2_ n3_; (try clear hb); (try clear hb2); (try clear hk); (try clear hi)))
    go_ret
    exact ⟨zS, zB⟩
end Go.Proofs.YthaajkpiknbdbaaDoor.QA

namespace Go.Proofs.YthaajkpiknbdbaaDoor.QA
open Go.Proofs.YthaajkpiknbdbaaDoor.T
open Go.RowKit Go.Proofs.YthaajkpiknbdbaaDoorW.PrintWords Go.Proofs.YthaajkpiknbdbaaDoorW.PrintLast Go.Proofs.YthaajkpiknbdbaaDoorW.PrintMore
attribute [local go_sem] ext_call max2_int min2_int max_two min_two max_three min_three max_four min_four   -- for this text's walks alone
set_option linter.unusedVariables false
set_option linter.unusedSimpArgs false
def smaltoref02_MulDiv.f (k : Nat) (a0 : Int) (a1 : Int) (a2 : Int) : Option (Int) := if a2 = 0 then (some 0) else ((smaltoref01_Size.f a0).bind fun t267 => ((smaltoref01_Size.f a1).bind fun t268 => ((smaltoref01_Times.f k t267 t268).bind fun bt269 => ((smaltoref01_Size.f a2).bind fun t272 => ((smaltoref01_Nearest.f k bt269.1 bt269.2 t272 (((decide (a0 < 0)) != (decide (a1 < 0))) != (decide (a2 < 0)))).bind fun t273 => (some t273))))))
theorem smaltoref02_MulDiv.mono : ∀ a0 a1 a2 k, LeO (smaltoref02_MulDiv.f k a0 a1 a2) (smaltoref02_MulDiv.f (k + 1) a0 a1 a2) := by
 intro a0 a1 a2 k
 unfold smaltoref02_MulDiv.f
 repeat' (with_reducible first | exact smaltoref01_Nearest.mono _ _ _ _ _ | exact smaltoref01_Times.mono _ _ _ | exact zM | refine LeO.ite ?_ ?_ | refine LeO.bind ?_ (fun _ => ?_))
def smaltoref02_MulDiv.T5 : Bool × List (List Nat × List Nat) := (true, [([], []), ([], []), ([1], [1]), ([], []), ([], []), ([4], [4]), ([3, 5], [3, 5]), ([0, 2, 6, 2], [0, 2, 6]), ([7, 7, 0, 1, 2, 3, 4, 5, 6, 7], [7])])
def smaltoref02_MulDiv.B5 : List Nat := [0, 0, 2, 0, 0, 16, 56, 127, 255]
theorem smaltoref02_MulDiv.tab5 : rtab .any (opsOf Tryd.f68 5) = smaltoref02_MulDiv.T5 := by kernel_rfl
theorem smaltoref02_MulDiv.bits5 : waitsOk smaltoref02_MulDiv.T5.2 smaltoref02_MulDiv.B5 = true := by kernel_rfl
set_option maxHeartbeats 8000000 in
set_option maxRecDepth 100000 in
theorem smaltoref02_MulDiv.calls (k : Nat) (a0 : Int) (a1 : Int) (a2 : Int) (r : Int) (w : World) (h : smaltoref02_MulDiv.f k a0 a1 a2 = some r) :
  Calls Tryd.prog 68 #[.int .i64 a0, .int .i64 a1, .int .i64 a2] w fun e w' => e = .returned (.int .i64 r) ∧ Below w.heap.size w w' := by
 have hu94 := Tryd.underlying94
 have HB := Aside0.mk (Below.refl w.heap.size w)
 have H : (if a2 = 0 then (some 0) else ((smaltoref01_Size.f a0).bind fun t267 => ((smaltoref01_Size.f a1).bind fun t268 => ((smaltoref01_Times.f k t267 t268).bind fun bt269 => ((smaltoref01_Size.f a2).bind fun t272 => ((smaltoref01_Nearest.f k bt269.1 bt269.2 t272 (((decide (a0 < 0)) != (decide (a1 < 0))) != (decide (a2 < 0)))).bind fun t273 => (some t273))))))) = some r := h
 clear h
 by_cases c4 : a2 = 0
 ·rw [if_pos c4] at H
  have c4b0 : (a2 == 0) = true := beq_iff_eq.mpr c4
  have c4b1 : (a2 != 0) = false := bne_eq_false_iff_eq.mpr c4
  clear c4
  obtain rfl := Option.some.inj H
  go_enter Tryd.func68, Tryd.ntmps68
  go_wp2
  go_ret
  exact ⟨zS, zB⟩
 ·rw [if_neg c4] at H
  have c4b0 : (a2 == 0) = false := beq_eq_false_iff_ne.mpr c4
  have c4b1 : (a2 != 0) = true := bne_iff_ne.mpr c4
  replace H := Option.bind_eq_some_iff.mp H
  obtain ⟨t267, A50, H⟩ := H
  try dsimp only at H
  have A5 := Aside0.mk A50
  clear A50
  replace H := Option.bind_eq_some_iff.mp H
  obtain ⟨t268, A60, H⟩ := H
  try dsimp only at H
  have A6 := Aside0.mk A60
  clear A60
  replace H := Option.bind_eq_some_iff.mp H
  obtain ⟨⟨t269, t270⟩, A70, H⟩ := H
  try dsimp only at H
  have A7 := Aside0.mk A70
  clear A70
  replace H := Option.bind_eq_some_iff.mp H
  obtain ⟨t272, A80, H⟩ := H
  try dsimp only at H
  have A8 := Aside0.mk A80
  clear A80
  replace H := Option.bind_eq_some_iff.mp H
  obtain ⟨t273, A90, H⟩ := H
  try dsimp only at H
  have A9 := Aside0.mk A90
  clear A90
  obtain rfl := Option.some.inj H
  go_enter Tryd.func68, Tryd.ntmps68
  try go_wp2_with (first | ((with_reducible refine gate_callee (f := 72) rfl ?_); refine goesL_ (some 12) rfl rfl Tryd.func72 (by kernel_rfl) rfl #[.int .i64 a0] rfl zL ?_; (with_reducible refine (smaltoref01_Size.calls a0 t267 _ A5.out).mono ?_); rintro e w' ⟨rfl, ⟨nd, rfl⟩⟩; refine ⟨_, rfl, ?_⟩) | ((with_reducible refine gate_callee (f := 72) rfl ?_); refine goesL_ (some 14) rfl rfl Tryd.func72 (by kernel_rfl) rfl #[.int .i64 a1] rfl zL ?_; (with_reducible refine (smaltoref01_Size.calls a1 t268 _ A6.out).mono ?_); rintro e w' ⟨rfl, ⟨nd, rfl⟩⟩; refine ⟨_, rfl, ?_⟩) | ((with_reducible refine gate_callee (f := 91) rfl ?_); refine goesL_ (some 15) rfl rfl Tryd.func91 (by kernel_rfl) rfl #[.int .u64 t267, .int .u64 t268] rfl zL ?_; (with_reducible refine (smaltoref01_Times.calls k t267 t268 t269 t270 _ A7.out).mono ?_); rintro e w10 ⟨rfl, hb⟩; refine ⟨_, rfl, ?_⟩; have n0_ := Aside0.mk (below_step zB hb); clear HB; have HB := n0_; clear n0_; (try clear hb); (try clear hb2); (try clear hk); (try clear hi)) | ((with_reducible refine gate_dst (N := 7) rfl ?_); refine box_event ?hg (N := 7) ?hd (cs := #[.int .u64 0, .int .u64 0]) (t := 94) ?hr ?_; (case hd => rfl); (case hg => rfl); (case hr => first | (go_simp; done) | (go_simp; rfl)); intro gb271 hg w11 hbox hb; have n0_ := Aside0.mk (below_step zB hb); have n1_ := Aside0.mk (hbox); have n2_ := Aside0.mk ((by rw [hg]; exact (below_size zB) : w.heap.size ≤ gb271)); have n3_ := Aside0.mk ((by rw [hg]; exact (below_size zB) : w.heap.size ≤ gb271)); clear HB; have HB := n0_; have BK271 := n1_; have GW271 := n2_; have GE271 := n3_; clear n0_ n1_ n2_ n3_; clear hb hbox hg; have hcz12_0 : w11.cell? ⟨gb271, 0, none⟩ = some (.int .u64 0) := (blk_cell BK271.out 0).trans rfl; have hcz12_1 : w11.cell? ⟨gb271, 1, none⟩ = some (.int .u64 0) := (blk_cell BK271.out 1).trans rfl; have hfz12_0 := blk_frozen BK271.out 0; have hfz12_1 := blk_frozen BK271.out 1))
  have n0_ : Aside0 (((w11.setCell ⟨gb271, 0, none⟩ (.int .u64 t269)).setCell ⟨gb271, 1, none⟩ (.int .u64 t270)).heap[gb271]? = some (.cells #[.int .u64 t269, .int .u64 t270] 94 (0, 0))) := ⟨by refine zD ?_; refine blk_put (cs := #[.int .u64 t269, .int .u64 0]) ?_ 1 _ rfl; refine zD ?_; refine blk_put (cs := #[.int .u64 0, .int .u64 0]) ?_ 0 _ rfl; refine zD ?_; exact BK271.out⟩
  have n1_ : Aside0 (Below w.heap.size w ((w11.setCell ⟨gb271, 0, none⟩ (.int .u64 t269)).setCell ⟨gb271, 1, none⟩ (.int .u64 t270))) := ⟨zB⟩
  (try clear BK271)
  (try clear HB)
  generalize ((w11.setCell ⟨gb271, 0, none⟩ (.int .u64 t269)).setCell ⟨gb271, 1, none⟩ (.int .u64 t270)) = w13 at n0_ n1_ ⊢
  have BK271 := n0_
  have HB := n1_
  clear n0_ n1_
  have n0_ := Aside0.mk (blk_drew BK271.out)
  have n1_ := Aside0.mk (below_drew1 HB.out)
  clear BK271
  clear HB
  have BK271 := n0_
  have HB := n1_
  clear n0_ n1_
  refine start_ (n := 9) (S := fun w' => w'.cell? ⟨gb271, 0, none⟩ = some (.int .u64 t269) ∧ w'.cell? ⟨gb271, 1, none⟩ = some (.int .u64 t270)) (ds := []) #[false, false, false, false, false, false, false, false, false] (by kernel_rfl) rfl rfl ⟨(blk_cell BK271.out 0).trans rfl, (blk_cell BK271.out 1).trans rfl⟩ (fun hHeld => ?_); refine with_tabW smaltoref02_MulDiv.tab5 smaltoref02_MulDiv.bits5 (fun HT_ HW_ => ?_)
  generalize w13.drew = w14 at BK271 HB hHeld ⊢
  refine pure_ (i := 1) (N := some 22) (v := ?_) (a' := ?_) #[false, true, false, false, false, false, false, false, false] rfl rfl (any_of HT_.out (by kernel_rfl)) (fun _ _ _ h => h) (Or.inl ⟨by rfl, ?_⟩) ?_ ?_
  rotate_left
  ·intro w'
   go_simp
   with_reducible rfl
  rotate_left
  ·simp only [Act.put, List.setIfInBounds_toArray, List.set_cons_zero, List.set_cons_succ, i64_w, i32_w]
   rfl
  refine pure_ (i := 3) (N := some 24) (v := ?_) (a' := ?_) #[false, true, false, true, false, false, false, false, false] rfl rfl (any_of HT_.out (by kernel_rfl)) (fun _ _ _ h => h) (Or.inl ⟨by rfl, ?_⟩) ?_ ?_
  rotate_left
  ·intro w'
   go_simp
   with_reducible rfl
  rotate_left
  ·simp only [Act.put, List.setIfInBounds_toArray, List.set_cons_zero, List.set_cons_succ, i64_w, i32_w]
   rfl
  refine pure_ (i := 4) (N := some 25) (v := ?_) (a' := ?_) #[false, true, false, true, true, false, false, false, false] rfl rfl (any_of HT_.out (by kernel_rfl)) (fun _ _ _ h => h) (Or.inl ⟨by rfl, ?_⟩) ?_ ?_
  rotate_left
  ·intro w'
   go_simp
   with_reducible rfl
  rotate_left
  ·simp only [Act.put, List.setIfInBounds_toArray, List.set_cons_zero, List.set_cons_succ, i64_w, i32_w]
   rfl
  refine pure_ (i := 5) (N := some 26) (v := ?_) (a' := ?_) #[false, true, false, true, true, true, false, false, false] rfl rfl (any_of HT_.out (by kernel_rfl)) (fun _ _ _ h => h) (Or.inl ⟨by rfl, ?_⟩) ?_ ?_
  rotate_left
  ·intro w'
   go_simp
   with_reducible rfl
  rotate_left
  ·simp only [Act.put, List.setIfInBounds_toArray, List.set_cons_zero, List.set_cons_succ, i64_w, i32_w]
   rfl
  refine pure_ (i := 6) (N := some 27) (v := ?_) (a' := ?_) #[false, true, false, true, true, true, true, false, false] rfl rfl (any_of HT_.out (by kernel_rfl)) (fun _ _ _ h => h) (Or.inl ⟨by rfl, ?_⟩) ?_ ?_
  rotate_left
  ·intro w'
   go_simp
   with_reducible rfl
  rotate_left
  ·simp only [Act.put, List.setIfInBounds_toArray, List.set_cons_zero, List.set_cons_succ, i64_w, i32_w]
   rfl
  refine take_ (i := 0) (N := some 21) (v := ?_) (a' := ?_) #[true, true, false, true, true, true, true, false, false] rfl rfl (take_ofW HT_.out HW_.out (by kernel_rfl)) (fun _ _ _ h => h) (Or.inl ⟨by rfl, ?_⟩) hHeld ?_ ?_
  rotate_left
  ·rintro w' ⟨s0, s1⟩
   go_simp
   with_reducible rfl
  rotate_left
  ·simp only [Act.put, List.setIfInBounds_toArray, List.set_cons_zero, List.set_cons_succ, i64_w, i32_w]
   rfl
  refine one_ (i := 2) (N := some 23) #[true, true, true, true, true, true, true, false, false] rfl rfl (one_of HT_.out (by kernel_rfl)) (by decide) (fun K hK => ?_)
  refine goes_ Tryd.func72 (by kernel_rfl) rfl #[.int .i64 a2] (by rfl) rfl rfl zL ?_
  with_reducible refine (smaltoref01_Size.calls a2 t272 _ A8.out).mono ?_
  rintro e w' ⟨rfl, ⟨nd, rfl⟩⟩
  refine ⟨_, rfl, ?_⟩
  refine hK.out _ _ ⟨(blk_cell BK271.out 0).trans rfl, (blk_cell BK271.out 1).trans rfl⟩ (fun hHeld => ?_)
  clear hK K
  refine norm_ (a' := ?_) ?_ ?_
  rotate_left
  ·show Act.put _ (some 23) _ = _
   simp only [Act.put, List.setIfInBounds_toArray, List.set_cons_zero, List.set_cons_succ, i64_w, i32_w]
   rfl
  refine one_ (i := 7) (N := some 28) #[true, true, true, true, true, true, true, true, false] rfl rfl (one_of HT_.out (by kernel_rfl)) (by decide) (fun K hK => ?_)
  refine goes_ Tryd.func92 (by kernel_rfl) rfl #[.agg #[.int .u64 t269, .int .u64 t270], .int .u64 t272, .bool (((decide (a0 < 0)) != (decide (a1 < 0))) != (decide (a2 < 0)))] (by rfl) rfl rfl zL ?_
  with_reducible refine (smaltoref01_Nearest.calls k t269 t270 t272 (((decide (a0 < 0)) != (decide (a1 < 0))) != (decide (a2 < 0))) t273 _ A9.out).mono ?_
  rintro e w15 ⟨rfl, hb⟩
  refine ⟨_, rfl, ?_⟩
  have n0_ := Aside0.mk (blk_below (zK BK271) hb)
  have n1_ := Aside0.mk (below_step zB hb)
  clear BK271
  clear HB
  have BK271 := n0_
  have HB := n1_
  clear n0_ n1_
  (try clear hb)
  (try clear hb2)
  (try clear hk)
  (try clear hi)
  refine hK.out _ _ ⟨(blk_cell BK271.out 0).trans rfl, (blk_cell BK271.out 1).trans rfl⟩ (fun hHeld => ?_)
  clear hK K
  refine norm_ (a' := ?_) ?_ ?_
  rotate_left
  ·show Act.put _ (some 28) _ = _
   simp only [Act.put, List.setIfInBounds_toArray, List.set_cons_zero, List.set_cons_succ, i64_w, i32_w]
   rfl
  refine pure_ (i := 8) (N := some 6) (v := ?_) (a' := ?_) #[true, true, true, true, true, true, true, true, true] rfl rfl (any_of HT_.out (by kernel_rfl)) (fun _ _ _ h => h) (Or.inl ⟨by rfl, ?_⟩) ?_ ?_
  rotate_left
  ·intro w'
   go_simp
   with_reducible rfl
  rotate_left
  ·simp only [Act.put, List.setIfInBounds_toArray, List.set_cons_zero, List.set_cons_succ, i64_w, i32_w]
   rfl
  refine done_ (done_of HT_.out (by kernel_rfl)) ?_
  try go_wp2
  go_ret
  exact ⟨zS, zB⟩
end Go.Proofs.YthaajkpiknbdbaaDoor.QA
