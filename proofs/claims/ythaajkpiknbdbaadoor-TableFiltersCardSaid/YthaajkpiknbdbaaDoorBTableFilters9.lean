/- Joined by wip/tools/bundle.py out of: QAx23 QAx24 QAx25. -/
import Derived.Test.YthaajkpiknbdbaaDoorBTableFilters1
import Derived.Test.YthaajkpiknbdbaaDoorBTableFilters6
import Derived.Test.YthaajkpiknbdbaaDoorBTableFilters7
import Derived.Test.YthaajkpiknbdbaaDoorBTableFilters8
namespace Go.Proofs.YthaajkpiknbdbaaDoor.QA
open Go.Proofs.YthaajkpiknbdbaaDoor.T
open Go.RowKit Go.Proofs.YthaajkpiknbdbaaDoorW.PrintWords Go.Proofs.YthaajkpiknbdbaaDoorW.PrintLast Go.Proofs.YthaajkpiknbdbaaDoorW.PrintMore
attribute [local go_sem] ext_call max2_int min2_int max_two min_two max_three min_three max_four min_four   -- for this text's walks alone
set_option linter.unusedVariables false
set_option linter.unusedSimpArgs false
mutual
def smaltoref01_Shift.l0 : Nat → Int → Int → Int → Int → Int → Int → Option (Int)
 | 0, _, _, _, _, _, _ => none
 | k + 1, x0, x1, x20, x21, x296000, x296001 => if x21 < x20 then ((smaltoref01_Twice.f x296000 x296001 0).bind fun bt296 => (smaltoref01_Shift.l0 k x0 x1 x20 (wrap64 (x21 + 1)) bt296.1 bt296.2)) else ((smaltoref01_Size.f x0).bind fun t298 => (smaltoref01_Shift.l1 k x0 x1 127 x296000 x296001 0 t298 0 0))
def smaltoref01_Shift.l1 : Nat → Int → Int → Int → Int → Int → Int → Int → Int → Int → Option (Int)
 | 0, _, _, _, _, _, _, _, _, _ => none
 | k + 1, x0, x1, x8, x296000, x296001, x300000, x300001, x301000, x301001 => if x8 ≥ x1 then ((smaltoref01_Bit.f x300000 x300001 x8).bind fun t301 => ((smaltoref01_Twice.f x301000 x301001 t301).bind fun bt302 => (smaltoref01_Shift.l1 k x0 x1 (wrap64 (x8 - 1)) x296000 x296001 x300000 x300001 bt302.1 bt302.2))) else (smaltoref01_Shift.l2 k x0 x1 x296000 x296001 x300000 x300001 x301000 x301001 x300000 x300001)
def smaltoref01_Shift.l2 : Nat → Int → Int → Int → Int → Int → Int → Int → Int → Int → Int → Option (Int)
 | 0, _, _, _, _, _, _, _, _, _, _ => none
 | k + 1, x0, x10, x296000, x296001, x300000, x300001, x301000, x301001, x305000, x305001 => if x10 < 128 then ((smaltoref01_Bit.f x300000 x300001 x10).bind fun t305 => (if t305 = 1 then (smaltoref01_Shift.l3 k x0 x10 x10 0 x296000 x296001 x300000 x300001 x301000 x301001 x305000 x305001 0 1) else (smaltoref01_Shift.l2 k x0 (wrap64 (x10 + 1)) x296000 x296001 x300000 x300001 x301000 x301001 x305000 x305001))) else ((smaltoref01_Less.f x305000 x305001 x296000 x296001).bind fun t311 => (if x0 < 0 then ((smaltoref01_Less.f x296000 x296001 x305000 x305001).bind fun t312 => (smaltoref01_Shift.j4 k x0 t312 x301000 x301001)) else (smaltoref01_Shift.j4 k x0 (!t311) x301000 x301001)))
def smaltoref01_Shift.l3 : Nat → Int → Int → Int → Int → Int → Int → Int → Int → Int → Int → Int → Int → Int → Int → Option (Int)
 | 0, _, _, _, _, _, _, _, _, _, _, _, _, _, _ => none
 | k + 1, x0, x10, x51, x52, x296000, x296001, x300000, x300001, x301000, x301001, x305000, x305001, x307000, x307001 => if x52 < x51 then ((smaltoref01_Twice.f x307000 x307001 0).bind fun bt307 => (smaltoref01_Shift.l3 k x0 x10 x51 (wrap64 (x52 + 1)) x296000 x296001 x300000 x300001 x301000 x301001 x305000 x305001 bt307.1 bt307.2)) else ((smaltoref01_Minus.f x305000 x305001 x307000 x307001).bind fun bt309 => (smaltoref01_Shift.l2 k x0 (wrap64 (x10 + 1)) x296000 x296001 x300000 x300001 x301000 x301001 bt309.1 bt309.2))
def smaltoref01_Shift.j4 : Nat → Int → Bool → Int → Int → Option (Int)
 | 0, _, _, _, _ => none
 | k + 1, x0, x12, x301000, x301001 => if x12 = true then ((smaltoref01_Plus.f x301000 x301001 0 1).bind fun bt313 => ((smaltoref01_Hold.f k bt313.1 bt313.2 (decide (x0 < 0))).bind fun t315 => (some t315))) else ((smaltoref01_Hold.f k x301000 x301001 (decide (x0 < 0))).bind fun t316 => (some t316))
end
def smaltoref01_Shift.f (k : Nat) (a0 : Int) (a1 : Int) : Option (Int) := if a1 < 1 then (some a0) else (if a1 > 64 then (some 0) else (smaltoref01_Shift.l0 k a0 a1 (wrap64 (a1 - 1)) 0 0 1))
theorem smaltoref01_Shift.mono_l : ∀ k, (∀ y0 y1 y2 y3 y4 y5, LeO (smaltoref01_Shift.l0 k y0 y1 y2 y3 y4 y5) (smaltoref01_Shift.l0 (k + 1) y0 y1 y2 y3 y4 y5)) ∧ (∀ y0 y1 y2 y3 y4 y5 y6 y7 y8, LeO (smaltoref01_Shift.l1 k y0 y1 y2 y3 y4 y5 y6 y7 y8) (smaltoref01_Shift.l1 (k + 1) y0 y1 y2 y3 y4 y5 y6 y7 y8)) ∧ (∀ y0 y1 y2 y3 y4 y5 y6 y7 y8 y9, LeO (smaltoref01_Shift.l2 k y0 y1 y2 y3 y4 y5 y6 y7 y8 y9) (smaltoref01_Shift.l2 (k + 1) y0 y1 y2 y3 y4 y5 y6 y7 y8 y9)) ∧ (∀ y0 y1 y2 y3 y4 y5 y6 y7 y8 y9 y10 y11 y12 y13, LeO (smaltoref01_Shift.l3 k y0 y1 y2 y3 y4 y5 y6 y7 y8 y9 y10 y11 y12 y13) (smaltoref01_Shift.l3 (k + 1) y0 y1 y2 y3 y4 y5 y6 y7 y8 y9 y10 y11 y12 y13)) ∧ (∀ y0 y1 y2 y3, LeO (smaltoref01_Shift.j4 k y0 y1 y2 y3) (smaltoref01_Shift.j4 (k + 1) y0 y1 y2 y3))
 | 0 => ⟨fun _ _ _ _ _ _ r h => by simp [smaltoref01_Shift.l0] at h, fun _ _ _ _ _ _ _ _ _ r h => by simp [smaltoref01_Shift.l1] at h, fun _ _ _ _ _ _ _ _ _ _ r h => by simp [smaltoref01_Shift.l2] at h, fun _ _ _ _ _ _ _ _ _ _ _ _ _ _ r h => by simp [smaltoref01_Shift.l3] at h, fun _ _ _ _ r h => by simp [smaltoref01_Shift.j4] at h⟩
 | k + 1 => by
  obtain ⟨ih0, ih1, ih2, ih3, ih4⟩ := smaltoref01_Shift.mono_l k
  refine ⟨?_, ?_, ?_, ?_, ?_⟩
  ·intro y0 y1 y2 y3 y4 y5
   unfold smaltoref01_Shift.l0
   repeat' (with_reducible first | exact ih0 _ _ _ _ _ _ | exact ih1 _ _ _ _ _ _ _ _ _ | exact ih2 _ _ _ _ _ _ _ _ _ _ | exact ih3 _ _ _ _ _ _ _ _ _ _ _ _ _ _ | exact ih4 _ _ _ _ | exact smaltoref01_Hold.mono _ _ _ _ | exact zM | refine LeO.ite ?_ ?_ | refine LeO.bind ?_ (fun _ => ?_))
  ·intro y0 y1 y2 y3 y4 y5 y6 y7 y8
   unfold smaltoref01_Shift.l1
   repeat' (with_reducible first | exact ih0 _ _ _ _ _ _ | exact ih1 _ _ _ _ _ _ _ _ _ | exact ih2 _ _ _ _ _ _ _ _ _ _ | exact ih3 _ _ _ _ _ _ _ _ _ _ _ _ _ _ | exact ih4 _ _ _ _ | exact smaltoref01_Hold.mono _ _ _ _ | exact zM | refine LeO.ite ?_ ?_ | refine LeO.bind ?_ (fun _ => ?_))
  ·intro y0 y1 y2 y3 y4 y5 y6 y7 y8 y9
   unfold smaltoref01_Shift.l2
   repeat' (with_reducible first | exact ih0 _ _ _ _ _ _ | exact ih1 _ _ _ _ _ _ _ _ _ | exact ih2 _ _ _ _ _ _ _ _ _ _ | exact ih3 _ _ _ _ _ _ _ _ _ _ _ _ _ _ | exact ih4 _ _ _ _ | exact smaltoref01_Hold.mono _ _ _ _ | exact zM | refine LeO.ite ?_ ?_ | refine LeO.bind ?_ (fun _ => ?_))
  ·intro y0 y1 y2 y3 y4 y5 y6 y7 y8 y9 y10 y11 y12 y13
   unfold smaltoref01_Shift.l3
   repeat' (with_reducible first | exact ih0 _ _ _ _ _ _ | exact ih1 _ _ _ _ _ _ _ _ _ | exact ih2 _ _ _ _ _ _ _ _ _ _ | exact ih3 _ _ _ _ _ _ _ _ _ _ _ _ _ _ | exact ih4 _ _ _ _ | exact smaltoref01_Hold.mono _ _ _ _ | exact zM | refine LeO.ite ?_ ?_ | refine LeO.bind ?_ (fun _ => ?_))
  ·intro y0 y1 y2 y3
   unfold smaltoref01_Shift.j4
   repeat' (with_reducible first | exact ih0 _ _ _ _ _ _ | exact ih1 _ _ _ _ _ _ _ _ _ | exact ih2 _ _ _ _ _ _ _ _ _ _ | exact ih3 _ _ _ _ _ _ _ _ _ _ _ _ _ _ | exact ih4 _ _ _ _ | exact smaltoref01_Hold.mono _ _ _ _ | exact zM | refine LeO.ite ?_ ?_ | refine LeO.bind ?_ (fun _ => ?_))
theorem smaltoref01_Shift.mono : ∀ a0 a1 k, LeO (smaltoref01_Shift.f k a0 a1) (smaltoref01_Shift.f (k + 1) a0 a1) := by
 intro a0 a1 k
 obtain ⟨ih0, ih1, ih2, ih3, ih4⟩ := smaltoref01_Shift.mono_l k
 unfold smaltoref01_Shift.f
 repeat' (with_reducible first | exact ih0 _ _ _ _ _ _ | exact ih1 _ _ _ _ _ _ _ _ _ | exact ih2 _ _ _ _ _ _ _ _ _ _ | exact ih3 _ _ _ _ _ _ _ _ _ _ _ _ _ _ | exact ih4 _ _ _ _ | exact smaltoref01_Hold.mono _ _ _ _ | exact zM | refine LeO.ite ?_ ?_ | refine LeO.bind ?_ (fun _ => ?_))
set_option maxHeartbeats 8000000 in
set_option maxRecDepth 100000 in
theorem smaltoref01_Shift.calls (k : Nat) (a0 : Int) (a1 : Int) (r : Int) (w : World) (h : smaltoref01_Shift.f k a0 a1 = some r) :
  Calls Tryd.prog 96 #[.int .i64 a0, .int .i64 a1] w fun e w' => e = .returned (.int .i64 r) ∧ Below w.heap.size w w' := by
 have hu94 := Tryd.underlying94
 have HB := Aside0.mk (Below.refl w.heap.size w)
 have H : (if a1 < 1 then (some a0) else (if a1 > 64 then (some 0) else (smaltoref01_Shift.l0 k a0 a1 (wrap64 (a1 - 1)) 0 0 1))) = some r := h
 clear h
 by_cases c3 : a1 < 1
 ·rw [if_pos c3] at H
  have c3b0 : decide (a1 < 1) = true := decide_eq_true c3
  clear c3
  obtain rfl := Option.some.inj H
  go_enter Tryd.func96, Tryd.ntmps96
  go_wp2
  go_ret
  exact ⟨zS, zB⟩
 ·rw [if_neg c3] at H
  have c3b0 : decide (a1 < 1) = false := decide_eq_false c3
  clear c3
  by_cases c4 : a1 > 64
  ·rw [if_pos c4] at H
   have c4b0 : decide (64 < a1) = true := decide_eq_true c4
   clear c4
   obtain rfl := Option.some.inj H
   go_enter Tryd.func96, Tryd.ntmps96
   go_wp2
   go_ret
   exact ⟨zS, zB⟩
  ·rw [if_neg c4] at H
   have c4b0 : decide (64 < a1) = false := decide_eq_false c4
   clear c4
   have H' := Aside0.mk H
   clear H
   go_enter Tryd.func96, Tryd.ntmps96
   go_wp2_with (first | ((with_reducible refine gate_dst (N := 5) rfl ?_); refine box_event ?hg (N := 5) ?hd (cs := #[.int .u64 0, .int .u64 0]) (t := 94) ?hr ?_; (case hd => rfl); (case hg => rfl); (case hr => first | (go_simp; done) | (go_simp; rfl)); intro gb295 hg w5 hbox hb; have n0_ := Aside0.mk (below_step zB hb); have n1_ := Aside0.mk (hbox); have n2_ := Aside0.mk ((by rw [hg]; exact (below_size zB) : w.heap.size ≤ gb295)); have n3_ := Aside0.mk ((by rw [hg]; exact (below_size zB) : w.heap.size ≤ gb295)); clear HB; have HB := n0_; have BK295 := n1_; have GW295 := n2_; have GE295 := n3_; clear n0_ n1_ n2_ n3_; clear hb hbox hg; have hcz6_0 : w5.cell? ⟨gb295, 0, none⟩ = some (.int .u64 0) := (blk_cell BK295.out 0).trans rfl; have hcz6_1 : w5.cell? ⟨gb295, 1, none⟩ = some (.int .u64 0) := (blk_cell BK295.out 1).trans rfl; have hfz6_0 := blk_frozen BK295.out 0; have hfz6_1 := blk_frozen BK295.out 1))
   go_loopg [21] k (fun kq v21 w' => ∃ (x21_1 : Int) (x296000_1 : Int) (x296001_1 : Int), v21 = .int .i64 x21_1 ∧ Aside0 (smaltoref01_Shift.l0 kq a0 a1 (wrap64 (a1 - 1)) x21_1 x296000_1 x296001_1 = some r) ∧ Aside0 (kq ≤ k) ∧ Aside0 (w'.heap[gb295]? = some (.cells #[.int .u64 x296000_1, .int .u64 x296001_1] 94 (0, 0))) ∧ Aside0 (Below w.heap.size w w'))
   case atStart => exact ⟨(0), (0), (1), zT, H', ⟨Nat.le_refl _⟩, ⟨by refine zD ?_; refine blk_put (cs := #[.int .u64 0, .int .u64 0]) ?_ 1 _ rfl; refine zD ?_; refine blk_put (cs := #[.int .u64 0, .int .u64 0]) ?_ 0 _ rfl; refine zD ?_; exact BK295.out⟩, ⟨zB⟩⟩
   case round =>
    clear H'
    try clear p2
    try clear c3
    try clear c3b0
    try clear c4
    try clear c4b0
    try clear p6
    try clear hcz6_0
    try clear hcz6_1
    try clear hfz6_0
    try clear hfz6_1
    obtain ⟨x21_1, x296000_1, x296001_1, rfl, HA, HK1, BK295, HB⟩ := hrel
    cases gk with
    | zero => exact absurd HA.out (by simp [smaltoref01_Shift.l0])
    | succ k1 =>
     have H := HA.out
     clear HA
     simp only [smaltoref01_Shift.l0] at H
     by_cases c7 : x21_1 < (wrap64 (a1 - 1))
     ·rw [if_pos c7] at H
      have c7b0 : decide (x21_1 < (wrap64 (a1 - 1))) = true := decide_eq_true c7
      clear c7
      replace H := Option.bind_eq_some_iff.mp H
      obtain ⟨⟨t296, t297⟩, A80, H⟩ := H
      try dsimp only at H
      have A8 := Aside0.mk A80
      clear A80
      have H' := Aside0.mk H
      clear H
      have hcz9_0 : wr.cell? ⟨gb295, 0, none⟩ = some (.int .u64 x296000_1) := (blk_cell BK295.out 0).trans rfl
      have hcz9_1 : wr.cell? ⟨gb295, 1, none⟩ = some (.int .u64 x296001_1) := (blk_cell BK295.out 1).trans rfl
      have hfz9_0 := blk_frozen BK295.out 0
      have hfz9_1 := blk_frozen BK295.out 1
      go_wp2_with (first | ((with_reducible refine gate_callee (f := 97) rfl ?_); refine goesL_ (some 24) rfl rfl Tryd.func97 (by kernel_rfl) rfl #[.agg #[.int .u64 x296000_1, .int .u64 x296001_1], .int .u64 0] rfl zL ?_; (with_reducible refine (smaltoref01_Twice.calls x296000_1 x296001_1 0 t296 t297 _ A8.out).mono ?_); rintro e w10 ⟨rfl, hb⟩; refine ⟨_, rfl, ?_⟩; have n0_ := Aside0.mk (blk_below (zK BK295) hb); have n1_ := Aside0.mk (below_step zB hb); clear BK295; clear HB; have BK295 := n0_; have HB := n1_; clear n0_ n1_; (try clear hb); (try clear hb2); (try clear hk); (try clear hi); have hcz11_0 : w10.cell? ⟨gb295, 0, none⟩ = some (.int .u64 x296000_1) := (blk_cell BK295.out 0).trans rfl; have hcz11_1 : w10.cell? ⟨gb295, 1, none⟩ = some (.int .u64 x296001_1) := (blk_cell BK295.out 1).trans rfl; have hfz11_0 := blk_frozen BK295.out 0; have hfz11_1 := blk_frozen BK295.out 1))
      go_roundg k1
      case measure => have := HK1.out; omega
      case rel => exact ⟨(wrap64 (x21_1 + 1)), (t296), (t297), zT, H', ⟨by have := HK1.out; omega⟩, ⟨by refine zD ?_; refine blk_put (cs := #[.int .u64 t296, .int .u64 x296001_1]) ?_ 1 _ rfl; refine zD ?_; refine blk_put (cs := #[.int .u64 x296000_1, .int .u64 x296001_1]) ?_ 0 _ rfl; refine zD ?_; exact BK295.out⟩, ⟨zB⟩⟩
     ·rw [if_neg c7] at H
      have c7b0 : decide (x21_1 < (wrap64 (a1 - 1))) = false := decide_eq_false c7
      clear c7
      replace H := Option.bind_eq_some_iff.mp H
      obtain ⟨t298, A120, H⟩ := H
      try dsimp only at H
      have A12 := Aside0.mk A120
      clear A120
      have H' := Aside0.mk H
      clear H
      go_wp2_with (first | ((with_reducible refine gate_callee (f := 72) rfl ?_); refine goesL_ (some 27) rfl rfl Tryd.func72 (by kernel_rfl) rfl #[.int .i64 a0] rfl zL ?_; (with_reducible refine (smaltoref01_Size.calls a0 t298 _ A12.out).mono ?_); rintro e w' ⟨rfl, ⟨nd, rfl⟩⟩; refine ⟨_, rfl, ?_⟩; (try (rw [drewN_self wr]; generalize hq_ : World.drewN wr _ = wr; have n0_ : Aside0 (wr.heap[gb295]? = some (.cells #[.int .u64 x296000_1, .int .u64 x296001_1] 94 (0, 0))) := ⟨by rw [← hq_]; exact (zK BK295)⟩; have n1_ : Aside0 (Below w.heap.size w wr) := ⟨by rw [← hq_]; exact zB⟩; clear BK295 HB hq_; have BK295 := n0_; have HB := n1_; clear n0_ n1_))) | ((with_reducible refine gate_dst (N := 6) rfl ?_); refine box_event ?hg (N := 6) ?hd (cs := #[.int .u64 0, .int .u64 0]) (t := 94) ?hr ?_; (case hd => rfl); (case hg => rfl); (case hr => first | (go_simp; done) | (go_simp; rfl)); intro gb299 hg w13 hbox hb; have n0_ := Aside0.mk (blk_below (zK BK295) hb); have n1_ := Aside0.mk (below_step zB hb); have n2_ := Aside0.mk (hbox); have n3_ := Aside0.mk ((by rw [hg]; exact (below_size zB) : w.heap.size ≤ gb299)); have n4_ := Aside0.mk ((by rw [hg]; exact (below_size zB) : w.heap.size ≤ gb299)); have n5_ := Aside0.mk ((by rw [hg]; exact Nat.ne_of_lt (blk_lt (zK BK295)) : gb295 ≠ gb299)); have n6_ := Aside0.mk ((by rw [hg]; exact Nat.ne_of_gt (blk_lt (zK BK295)) : gb299 ≠ gb295)); clear BK295; clear HB; have BK295 := n0_; have HB := n1_; have BK299 := n2_; have GW299 := n3_; have GE299 := n4_; have NB295_299 := n5_; have NB299_295 := n6_; clear n0_ n1_ n2_ n3_ n4_ n5_ n6_; clear hb hbox hg; have hnb14 := NB299_295.out; have hnc14 := NB295_299.out; have hcz15_0 : w13.cell? ⟨gb299, 0, none⟩ = some (.int .u64 0) := (blk_cell BK299.out 0).trans rfl; have hcz15_1 : w13.cell? ⟨gb299, 1, none⟩ = some (.int .u64 0) := (blk_cell BK299.out 1).trans rfl; have hfz15_0 := blk_frozen BK299.out 0; have hfz15_1 := blk_frozen BK299.out 1) | ((with_reducible refine gate_dst (N := 7) rfl ?_); refine box_event ?hg (N := 7) ?hd (cs := #[.int .u64 0, .int .u64 0]) (t := 94) ?hr ?_; (case hd => rfl); (case hg => rfl); (case hr => first | (go_simp; done) | (go_simp; rfl)); intro gb300 hg w16 hbox hb; have n0_ := Aside0.mk (blk_below (zK BK295) hb); have n1_ := Aside0.mk (blk_below (g := gb299) (o := .cells #[.int .u64 0, .int .u64 t298] 94 (0, 0)) (by refine zD ?_; refine blk_put (cs := #[.int .u64 0, .int .u64 0]) ?_ 1 _ rfl; refine zD ?_; refine blk_put (cs := #[.int .u64 0, .int .u64 0]) ?_ 0 _ rfl; refine zD ?_; exact BK299.out) hb); have n2_ := Aside0.mk (below_step zB hb); have n3_ := Aside0.mk (hbox); have n4_ := Aside0.mk ((by rw [hg]; exact (below_size zB) : w.heap.size ≤ gb300)); have n5_ := Aside0.mk ((by rw [hg]; exact (below_size zB) : w.heap.size ≤ gb300)); have n6_ := Aside0.mk ((by rw [hg]; exact Nat.ne_of_lt (blk_lt (zK BK295)) : gb295 ≠ gb300)); have n7_ := Aside0.mk ((by rw [hg]; exact Nat.ne_of_gt (blk_lt (zK BK295)) : gb300 ≠ gb295)); have n8_ := Aside0.mk ((by rw [hg]; exact Nat.ne_of_lt (blk_lt (g := gb299) (o := .cells #[.int .u64 0, .int .u64 t298] 94 (0, 0)) (by refine zD ?_; refine blk_put (cs := #[.int .u64 0, .int .u64 0]) ?_ 1 _ rfl; refine zD ?_; refine blk_put (cs := #[.int .u64 0, .int .u64 0]) ?_ 0 _ rfl; refine zD ?_; exact BK299.out)) : gb299 ≠ gb300)); have n9_ := Aside0.mk ((by rw [hg]; exact Nat.ne_of_gt (blk_lt (g := gb299) (o := .cells #[.int .u64 0, .int .u64 t298] 94 (0, 0)) (by refine zD ?_; refine blk_put (cs := #[.int .u64 0, .int .u64 0]) ?_ 1 _ rfl; refine zD ?_; refine blk_put (cs := #[.int .u64 0, .int .u64 0]) ?_ 0 _ rfl; refine zD ?_; exact BK299.out)) : gb300 ≠ gb299)); clear BK295; clear BK299; clear HB; have BK295 := n0_; have BK299 := n1_; have HB := n2_; have BK300 := n3_; have GW300 := n4_; have GE300 := n5_; have NB295_300 := n6_; have NB300_295 := n7_; have NB299_300 := n8_; have NB300_299 := n9_; clear n0_ n1_ n2_ n3_ n4_ n5_ n6_ n7_ n8_ n9_; clear hb hbox hg; have hnb17 := NB300_295.out; have hnc17 := NB295_300.out; have hnb18 := NB300_299.out; have hnc18 := NB299_300.out; have hcz19_0 : w16.cell? ⟨gb300, 0, none⟩ = some (.int .u64 0) := (blk_cell BK300.out 0).trans rfl; have hcz19_1 : w16.cell? ⟨gb300, 1, none⟩ = some (.int .u64 0) := (blk_cell BK300.out 1).trans rfl; have hfz19_0 := blk_frozen BK300.out 0; have hfz19_1 := blk_frozen BK300.out 1))
      try simp only [Act.put, List.setIfInBounds_toArray, List.set_cons_succ, List.set_cons_zero]
      go_loopg [8] k1 (fun kq v8 w' => ∃ (x8_2 : Int) (x301000_2 : Int) (x301001_2 : Int), v8 = .int .i64 x8_2 ∧ Aside0 (smaltoref01_Shift.l1 kq a0 a1 x8_2 x296000_1 x296001_1 0 t298 x301000_2 x301001_2 = some r) ∧ Aside0 (kq ≤ k1) ∧ Aside0 (w'.heap[gb295]? = some (.cells #[.int .u64 x296000_1, .int .u64 x296001_1] 94 (0, 0))) ∧ Aside0 (w'.heap[gb299]? = some (.cells #[.int .u64 0, .int .u64 t298] 94 (0, 0))) ∧ Aside0 (w'.heap[gb300]? = some (.cells #[.int .u64 x301000_2, .int .u64 x301001_2] 94 (0, 0))) ∧ Aside0 (Below w.heap.size w w'))
      case atStart => exact ⟨(127), (0), (0), zT, H', ⟨Nat.le_refl _⟩, ⟨zK BK295⟩, ⟨zK BK299⟩, ⟨by refine zD ?_; refine blk_put (cs := #[.int .u64 0, .int .u64 0]) ?_ 1 _ rfl; refine zD ?_; refine blk_put (cs := #[.int .u64 0, .int .u64 0]) ?_ 0 _ rfl; refine zD ?_; exact BK300.out⟩, ⟨zB⟩⟩
      case round =>
       clear H'
       try clear c1
       try clear p2
       try clear c3
       try clear c3b0
       try clear c4
       try clear c4b0
       try clear p6
       try clear c7
       try clear c7b0
       try clear c9
       try clear c14
       try clear c17
       try clear c18
       try clear hcz11_0
       try clear hcz11_1
       try clear hcz15_0
       try clear hcz15_1
       try clear hcz19_0
       try clear hcz19_1
       try clear hcz6_0
       try clear hcz6_1
       try clear hcz9_0
       try clear hcz9_1
       try clear hfz11_0
       try clear hfz11_1
       try clear hfz15_0
       try clear hfz15_1
       try clear hfz19_0
       try clear hfz19_1
       try clear hfz6_0
       try clear hfz6_1
       try clear hfz9_0
       try clear hfz9_1
       try clear p2
       try clear p6
       obtain ⟨x8_2, x301000_2, x301001_2, rfl, HA, HK2, BK295, BK299, BK300, HB⟩ := hrel
       cases gk with
       | zero => exact absurd HA.out (by simp [smaltoref01_Shift.l1])
       | succ k2 =>
        have H := HA.out
        clear HA
        simp only [smaltoref01_Shift.l1] at H
        by_cases c20 : x8_2 ≥ a1
        ·rw [if_pos c20] at H
         have c20b0 : decide (a1 ≤ x8_2) = true := decide_eq_true c20
         clear c20
         replace H := Option.bind_eq_some_iff.mp H
         obtain ⟨t301, A210, H⟩ := H
         try dsimp only at H
         have A21 := Aside0.mk A210
         clear A210
         replace H := Option.bind_eq_some_iff.mp H
         obtain ⟨⟨t302, t303⟩, A220, H⟩ := H
         try dsimp only at H
         have A22 := Aside0.mk A220
         clear A220
         have H' := Aside0.mk H
         clear H
         try go_wp2
         have n0_ := Aside0.mk (blk_drew BK295.out)
         have n1_ := Aside0.mk (blk_drew BK299.out)
         have n2_ := Aside0.mk (blk_drew BK300.out)
         have n3_ := Aside0.mk (below_drew1 HB.out)
         clear BK295
         clear BK299
         clear BK300
         clear HB
         have BK295 := n0_
         have BK299 := n1_
         have BK300 := n2_
         have HB := n3_
         clear n0_ n1_ n2_ n3_
         refine start_ (n := 6) (S := fun w' => w'.cell? ⟨gb300, 0, none⟩ = some (.int .u64 x301000_2) ∧ w'.cell? ⟨gb300, 1, none⟩ = some (.int .u64 x301001_2) ∧ w'.cell? ⟨gb299, 0, none⟩ = some (.int .u64 0) ∧ w'.cell? ⟨gb299, 1, none⟩ = some (.int .u64 t298)) (ds := [5]) #[false, false, false, false, false, false] (by kernel_rfl) rfl rfl ⟨(blk_cell BK300.out 0).trans rfl, (blk_cell BK300.out 1).trans rfl, (blk_cell BK299.out 0).trans rfl, (blk_cell BK299.out 1).trans rfl⟩ (fun hHeld => ?_)
         generalize wr.drew = w23 at BK295 BK299 BK300 HB hHeld ⊢
         refine pure_ (i := 2) (N := some 37) (v := ?_) (a' := ?_) #[false, false, true, false, false, false] rfl rfl (by kernel_rfl) (fun _ _ _ h => h) (Or.inl ⟨by rfl, ?_⟩) ?_ ?_
         rotate_left
         ·intro w'
          go_simp
          with_reducible rfl
         rotate_left
         ·simp only [Act.put, List.setIfInBounds_toArray, List.set_cons_zero, List.set_cons_succ, i64_w, i32_w]
          rfl
         refine take_ (i := 0) (N := some 35) (v := ?_) (a' := ?_) #[true, false, true, false, false, false] rfl rfl (by kernel_rfl) (fun _ _ _ h => h) (Or.inl ⟨by rfl, ?_⟩) hHeld ?_ ?_
         rotate_left
         ·rintro w' ⟨s0, s1, s2, s3⟩
          go_simp
          with_reducible rfl
         rotate_left
         ·simp only [Act.put, List.setIfInBounds_toArray, List.set_cons_zero, List.set_cons_succ, i64_w, i32_w]
          rfl
         refine take_ (i := 1) (N := some 36) (v := ?_) (a' := ?_) #[true, true, true, false, false, false] rfl rfl (by kernel_rfl) (fun _ _ _ h => h) (Or.inl ⟨by rfl, ?_⟩) hHeld ?_ ?_
         rotate_left
         ·rintro w' ⟨s0, s1, s2, s3⟩
          go_simp
          with_reducible rfl
         rotate_left
         ·simp only [Act.put, List.setIfInBounds_toArray, List.set_cons_zero, List.set_cons_succ, i64_w, i32_w]
          rfl
         refine one_ (i := 3) (N := some 38) #[true, true, true, true, false, false] rfl rfl (by kernel_rfl) (by decide) (fun K hK => ?_)
         refine goes_ Tryd.func98 (by kernel_rfl) rfl #[.agg #[.int .u64 0, .int .u64 t298], .int .i64 x8_2] (by rfl) rfl rfl zL ?_
         with_reducible refine (smaltoref01_Bit.calls 0 t298 x8_2 t301 _ A21.out).mono ?_
         rintro e w24 ⟨rfl, hb⟩
         refine ⟨_, rfl, ?_⟩
         have n0_ := Aside0.mk (blk_below (zK BK295) hb)
         have n1_ := Aside0.mk (blk_below (zK BK299) hb)
         have n2_ := Aside0.mk (blk_below (zK BK300) hb)
         have n3_ := Aside0.mk (below_step zB hb)
         clear BK295
         clear BK299
         clear BK300
         clear HB
         have BK295 := n0_
         have BK299 := n1_
         have BK300 := n2_
         have HB := n3_
         clear n0_ n1_ n2_ n3_
         (try clear hb)
         (try clear hb2)
         (try clear hk)
         (try clear hi)
         refine hK.out _ _ ⟨(blk_cell BK300.out 0).trans rfl, (blk_cell BK300.out 1).trans rfl, (blk_cell BK299.out 0).trans rfl, (blk_cell BK299.out 1).trans rfl⟩ (fun hHeld => ?_)
         clear hK K
         refine norm_ (a' := ?_) ?_ ?_
         rotate_left
         ·show Act.put _ (some 38) _ = _
          simp only [Act.put, List.setIfInBounds_toArray, List.set_cons_zero, List.set_cons_succ, i64_w, i32_w]
          rfl
         refine one_ (i := 4) (N := some 39) #[true, true, true, true, true, false] rfl rfl (by kernel_rfl) (by decide) (fun K hK => ?_)
         refine goes_ Tryd.func97 (by kernel_rfl) rfl #[.agg #[.int .u64 x301000_2, .int .u64 x301001_2], .int .u64 t301] (by rfl) rfl rfl zL ?_
         with_reducible refine (smaltoref01_Twice.calls x301000_2 x301001_2 t301 t302 t303 _ A22.out).mono ?_
         rintro e w25 ⟨rfl, hb⟩
         refine ⟨_, rfl, ?_⟩
         have n0_ := Aside0.mk (blk_below (zK BK295) hb)
         have n1_ := Aside0.mk (blk_below (zK BK299) hb)
         have n2_ := Aside0.mk (blk_below (zK BK300) hb)
         have n3_ := Aside0.mk (below_step zB hb)
         clear BK295
         clear BK299
         clear BK300
         clear HB
         have BK295 := n0_
         have BK299 := n1_
         have BK300 := n2_
         have HB := n3_
         clear n0_ n1_ n2_ n3_
         (try clear hb)
         (try clear hb2)
         (try clear hk)
         (try clear hi)
         refine hK.out _ _ ⟨(blk_cell BK300.out 0).trans rfl, (blk_cell BK300.out 1).trans rfl, (blk_cell BK299.out 0).trans rfl, (blk_cell BK299.out 1).trans rfl⟩ (fun hHeld => ?_)
         clear hK K
         refine norm_ (a' := ?_) ?_ ?_
         rotate_left
         ·show Act.put _ (some 39) _ = _
          simp only [Act.put, List.setIfInBounds_toArray, List.set_cons_zero, List.set_cons_succ, i64_w, i32_w]
          rfl
         refine last_ (i := 5) (N := none) #[true, true, true, true, true, true] rfl rfl (by kernel_rfl) (by decide) (fun K hK => ?_)
         have hs26 : w25.cell? ⟨gb300, 0, none⟩ = some (.int .u64 x301000_2) := (blk_cell BK300.out 0).trans rfl
         have hfs26 := blk_frozen BK300.out 0
         have hns26_0 := NB295_300.out
         have hns26_1 := NB299_300.out
         have hms26_0 := NB300_295.out
         have hms26_1 := NB300_299.out
         have hs27 : w25.cell? ⟨gb300, 1, none⟩ = some (.int .u64 x301001_2) := (blk_cell BK300.out 1).trans rfl
         have hfs27 := blk_frozen BK300.out 1
         have hns27_0 := NB295_300.out
         have hns27_1 := NB299_300.out
         have hms27_0 := NB300_295.out
         have hms27_1 := NB300_299.out
         refine skip_ (w1 := ?_) (by rfl) rfl ?_ ?_
         rotate_left
         ·go_simp
          rfl
         refine hK.out _ _ ?_
         clear hK K
         refine done_ (by kernel_rfl) ?_
         try go_wp2
         go_roundg k2
         case measure => have := HK1.out; have := HK2.out; omega
         case rel => exact ⟨(wrap64 (x8_2 - 1)), (t302), (t303), zT, H', ⟨by have := HK1.out; have := HK2.out; omega⟩, ⟨zK BK295⟩, ⟨zK BK299⟩, ⟨by refine zD ?_; refine blk_put (cs := #[.int .u64 t302, .int .u64 x301001_2]) ?_ 1 _ rfl; refine zD ?_; refine blk_put (cs := #[.int .u64 x301000_2, .int .u64 x301001_2]) ?_ 0 _ rfl; refine zD ?_; exact BK300.out⟩, ⟨zB⟩⟩
        ·rw [if_neg c20] at H
         have c20b0 : decide (a1 ≤ x8_2) = false := decide_eq_false c20
         clear c20
         have H' := Aside0.mk H
         clear H
         have hnb28 := NB299_295.out
         have hnc28 := NB295_299.out
         have hnb29 := NB299_300.out
         have hnc29 := NB300_299.out
         have hcz30_0 : wr.cell? ⟨gb299, 0, none⟩ = some (.int .u64 0) := (blk_cell BK299.out 0).trans rfl
         have hcz30_1 : wr.cell? ⟨gb299, 1, none⟩ = some (.int .u64 t298) := (blk_cell BK299.out 1).trans rfl
         have hfz30_0 := blk_frozen BK299.out 0
         have hfz30_1 := blk_frozen BK299.out 1
         go_wp2_with (first | ((with_reducible refine gate_dst (N := 9) rfl ?_); refine box_event ?hg (N := 9) ?hd (cs := #[.int .u64 0, .int .u64 0]) (t := 94) ?hr ?_; (case hd => rfl); (case hg => rfl); (case hr => first | (go_simp; done) | (go_simp; rfl)); intro gb304 hg w31 hbox hb; have n0_ := Aside0.mk (blk_below (zK BK295) hb); have n1_ := Aside0.mk (blk_below (zK BK299) hb); have n2_ := Aside0.mk (blk_below (zK BK300) hb); have n3_ := Aside0.mk (below_step zB hb); have n4_ := Aside0.mk (hbox); have n5_ := Aside0.mk ((by rw [hg]; exact (below_size zB) : w.heap.size ≤ gb304)); have n6_ := Aside0.mk ((by rw [hg]; exact (below_size zB) : w.heap.size ≤ gb304)); have n7_ := Aside0.mk ((by rw [hg]; exact Nat.ne_of_lt (blk_lt (zK BK295)) : gb295 ≠ gb304)); have n8_ := Aside0.mk ((by rw [hg]; exact Nat.ne_of_gt (blk_lt (zK BK295)) : gb304 ≠ gb295)); have n9_ := Aside0.mk ((by rw [hg]; exact Nat.ne_of_lt (blk_lt (zK BK299)) : gb299 ≠ gb304)); have n10_ := Aside0.mk ((by rw [hg]; exact Nat.ne_of_gt (blk_lt (zK BK299)) : gb304 ≠ gb299)); have n11_ := Aside0.mk ((by rw [hg]; exact Nat.ne_of_lt (blk_lt (zK BK300)) : gb300 ≠ gb304)); have n12_ := Aside0.mk ((by rw [hg]; exact Nat.ne_of_gt (blk_lt (zK BK300)) : gb304 ≠ gb300)); clear BK295; clear BK299; clear BK300; clear HB; have BK295 := n0_; have BK299 := n1_; have BK300 := n2_; have HB := n3_; have BK304 := n4_; have GW304 := n5_; have GE304 := n6_; have NB295_304 := n7_; have NB304_295 := n8_; have NB299_304 := n9_; have NB304_299 := n10_; have NB300_304 := n11_; have NB304_300 := n12_; clear n0_ n1_ n2_ n3_ n4_ n5_ n6_ n7_ n8_ n9_ n10_ n11_ n12_; clear hb hbox hg; have hnb32 := NB304_295.out; have hnc32 := NB295_304.out; have hnb33 := NB304_299.out; have hnc33 := NB299_304.out; have hnb34 := NB304_300.out; have hnc34 := NB300_304.out; have hcz35_0 : w31.cell? ⟨gb304, 0, none⟩ = some (.int .u64 0) := (blk_cell BK304.out 0).trans rfl; have hcz35_1 : w31.cell? ⟨gb304, 1, none⟩ = some (.int .u64 0) := (blk_cell BK304.out 1).trans rfl; have hfz35_0 := blk_frozen BK304.out 0; have hfz35_1 := blk_frozen BK304.out 1))
         try simp only [Act.put, List.setIfInBounds_toArray, List.set_cons_succ, List.set_cons_zero]
         go_loopg [10] k2 (fun kq v10 w' => ∃ (x10_3 : Int) (x305000_3 : Int) (x305001_3 : Int), v10 = .int .i64 x10_3 ∧ Aside0 (smaltoref01_Shift.l2 kq a0 x10_3 x296000_1 x296001_1 0 t298 x301000_2 x301001_2 x305000_3 x305001_3 = some r) ∧ Aside0 (kq ≤ k2) ∧ Aside0 (w'.heap[gb295]? = some (.cells #[.int .u64 x296000_1, .int .u64 x296001_1] 94 (0, 0))) ∧ Aside0 (w'.heap[gb299]? = some (.cells #[.int .u64 0, .int .u64 t298] 94 (0, 0))) ∧ Aside0 (w'.heap[gb300]? = some (.cells #[.int .u64 x301000_2, .int .u64 x301001_2] 94 (0, 0))) ∧ Aside0 (w'.heap[gb304]? = some (.cells #[.int .u64 x305000_3, .int .u64 x305001_3] 94 (0, 0))) ∧ Aside0 (Below w.heap.size w w'))
         case atStart => exact ⟨(a1), (0), (t298), zT, H', ⟨Nat.le_refl _⟩, ⟨zK BK295⟩, ⟨zK BK299⟩, ⟨zK BK300⟩, ⟨by refine zD ?_; refine blk_put (cs := #[.int .u64 0, .int .u64 0]) ?_ 1 _ rfl; refine zD ?_; refine blk_put (cs := #[.int .u64 0, .int .u64 0]) ?_ 0 _ rfl; refine zD ?_; exact BK304.out⟩, ⟨zB⟩⟩
         case round =>
          clear H'
          try clear c1
          try clear c2
          try clear p2
          try clear c3
          try clear c3b0
          try clear c4
          try clear c4b0
          try clear p6
          try clear c7
          try clear c7b0
          try clear c9
          try clear c14
          try clear c17
          try clear c18
          try clear c20
          try clear c20b0
          try clear c28
          try clear c29
          try clear c32
          try clear c33
          try clear c34
          try clear hcz11_0
          try clear hcz11_1
          try clear hcz15_0
          try clear hcz15_1
          try clear hcz19_0
          try clear hcz19_1
          try clear hcz30_0
          try clear hcz30_1
          try clear hcz35_0
          try clear hcz35_1
          try clear hcz6_0
          try clear hcz6_1
          try clear hcz9_0
          try clear hcz9_1
          try clear hfz11_0
          try clear hfz11_1
          try clear hfz15_0
          try clear hfz15_1
          try clear hfz19_0
          try clear hfz19_1
          try clear hfz30_0
          try clear hfz30_1
          try clear hfz35_0
          try clear hfz35_1
          try clear hfz6_0
          try clear hfz6_1
          try clear hfz9_0
          try clear hfz9_1
          try clear p2
          try clear p6
          obtain ⟨x10_3, x305000_3, x305001_3, rfl, HA, HK3, BK295, BK299, BK300, BK304, HB⟩ := hrel
          cases gk with
          | zero => exact absurd HA.out (by simp [smaltoref01_Shift.l2])
          | succ k3 =>
           have H := HA.out
           clear HA
           simp only [smaltoref01_Shift.l2] at H
           by_cases c36 : x10_3 < 128
           ·rw [if_pos c36] at H
            have c36b0 : decide (x10_3 < 128) = true := decide_eq_true c36
            clear c36
            replace H := Option.bind_eq_some_iff.mp H
            obtain ⟨t305, A370, H⟩ := H
            try dsimp only at H
            have A37 := Aside0.mk A370
            clear A370
            by_cases c38 : t305 = 1
            ·rw [if_pos c38] at H
             have c38b0 : (t305 == 1) = true := beq_iff_eq.mpr c38
             have c38b1 : (t305 != 1) = false := bne_eq_false_iff_eq.mpr c38
             clear c38
             have H' := Aside0.mk H
             clear H
             have hnb39 := NB299_295.out
             have hnc39 := NB295_299.out
             have hnb40 := NB299_300.out
             have hnc40 := NB300_299.out
             have hnb41 := NB299_304.out
             have hnc41 := NB304_299.out
             have hcz42_0 : wr.cell? ⟨gb299, 0, none⟩ = some (.int .u64 0) := (blk_cell BK299.out 0).trans rfl
             have hcz42_1 : wr.cell? ⟨gb299, 1, none⟩ = some (.int .u64 t298) := (blk_cell BK299.out 1).trans rfl
             have hfz42_0 := blk_frozen BK299.out 0
             have hfz42_1 := blk_frozen BK299.out 1
             go_wp2_with (first | ((with_reducible refine gate_callee (f := 98) rfl ?_); refine goesL_ (some 48) rfl rfl Tryd.func98 (by kernel_rfl) rfl #[.agg #[.int .u64 0, .int .u64 t298], .int .i64 x10_3] rfl zL ?_; (with_reducible refine (smaltoref01_Bit.calls 0 t298 x10_3 t305 _ A37.out).mono ?_); rintro e w43 ⟨rfl, hb⟩; refine ⟨_, rfl, ?_⟩; have n0_ := Aside0.mk (blk_below (zK BK295) hb); have n1_ := Aside0.mk (blk_below (zK BK299) hb); have n2_ := Aside0.mk (blk_below (zK BK300) hb); have n3_ := Aside0.mk (blk_below (zK BK304) hb); have n4_ := Aside0.mk (below_step zB hb); clear BK295; clear BK299; clear BK300; clear BK304; clear HB; have BK295 := n0_; have BK299 := n1_; have BK300 := n2_; have BK304 := n3_; have HB := n4_; clear n0_ n1_ n2_ n3_ n4_; (try clear hb); (try clear hb2); (try clear hk); (try clear hi)) | ((with_reducible refine gate_dst (N := 11) rfl ?_); refine box_event ?hg (N := 11) ?hd (cs := #[.int .u64 0, .int .u64 0]) (t := 94) ?hr ?_; (case hd => rfl); (case hg => rfl); (case hr => first | (go_simp; done) | (go_simp; rfl)); intro gb306 hg w44 hbox hb; have n0_ := Aside0.mk (blk_below (zK BK295) hb); have n1_ := Aside0.mk (blk_below (zK BK299) hb); have n2_ := Aside0.mk (blk_below (zK BK300) hb); have n3_ := Aside0.mk (blk_below (zK BK304) hb); have n4_ := Aside0.mk (below_step zB hb); have n5_ := Aside0.mk (hbox); have n6_ := Aside0.mk ((by rw [hg]; exact (below_size zB) : w.heap.size ≤ gb306)); have n7_ := Aside0.mk ((by rw [hg]; exact (below_size zB) : w.heap.size ≤ gb306)); have n8_ := Aside0.mk ((by rw [hg]; exact Nat.ne_of_lt (blk_lt (zK BK295)) : gb295 ≠ gb306)); have n9_ := Aside0.mk ((by rw [hg]; exact Nat.ne_of_gt (blk_lt (zK BK295)) : gb306 ≠ gb295)); have n10_ := Aside0.mk ((by rw [hg]; exact Nat.ne_of_lt (blk_lt (zK BK299)) : gb299 ≠ gb306)); have n11_ := Aside0.mk ((by rw [hg]; exact Nat.ne_of_gt (blk_lt (zK BK299)) : gb306 ≠ gb299)); have n12_ := Aside0.mk ((by rw [hg]; exact Nat.ne_of_lt (blk_lt (zK BK300)) : gb300 ≠ gb306)); have n13_ := Aside0.mk ((by rw [hg]; exact Nat.ne_of_gt (blk_lt (zK BK300)) : gb306 ≠ gb300)); have n14_ := Aside0.mk ((by rw [hg]; exact Nat.ne_of_lt (blk_lt (zK BK304)) : gb304 ≠ gb306)); have n15_ := Aside0.mk ((by rw [hg]; exact Nat.ne_of_gt (blk_lt (zK BK304)) : gb306 ≠ gb304)); clear BK295; clear BK299; clear BK300; clear BK304; clear HB; have BK295 := n0_; have BK299 := n1_; have BK300 := n2_; have BK304 := n3_; have HB := n4_; have BK306 := n5_; have GW306 := n6_; have GE306 := n7_; have NB295_306 := n8_; have NB306_295 := n9_; have NB299_306 := n10_; have NB306_299 := n11_; have NB300_306 := n12_; have NB306_300 := n13_; have NB304_306 := n14_; have NB306_304 := n15_; clear n0_ n1_ n2_ n3_ n4_ n5_ n6_ n7_ n8_ n9_ n10_ n11_ n12_ n13_ n14_ n15_; clear hb hbox hg; have hnb45 := NB306_295.out; have hnc45 := NB295_306.out; have hnb46 := NB306_299.out; have hnc46 := NB299_306.out; have hnb47 := NB306_300.out; have hnc47 := NB300_306.out; have hnb48 := NB306_304.out; have hnc48 := NB304_306.out; have hcz49_0 : w44.cell? ⟨gb306, 0, none⟩ = some (.int .u64 0) := (blk_cell BK306.out 0).trans rfl; have hcz49_1 : w44.cell? ⟨gb306, 1, none⟩ = some (.int .u64 0) := (blk_cell BK306.out 1).trans rfl; have hfz49_0 := blk_frozen BK306.out 0; have hfz49_1 := blk_frozen BK306.out 1))
             try simp only [Act.put, List.setIfInBounds_toArray, List.set_cons_succ, List.set_cons_zero]
             go_loopg [52] k3 (fun kq v52 w' => ∃ (x52_4 : Int) (x307000_4 : Int) (x307001_4 : Int), v52 = .int .i64 x52_4 ∧ Aside0 (smaltoref01_Shift.l3 kq a0 x10_3 x10_3 x52_4 x296000_1 x296001_1 0 t298 x301000_2 x301001_2 x305000_3 x305001_3 x307000_4 x307001_4 = some r) ∧ Aside0 (kq ≤ k3) ∧ Aside0 (w'.heap[gb295]? = some (.cells #[.int .u64 x296000_1, .int .u64 x296001_1] 94 (0, 0))) ∧ Aside0 (w'.heap[gb299]? = some (.cells #[.int .u64 0, .int .u64 t298] 94 (0, 0))) ∧ Aside0 (w'.heap[gb300]? = some (.cells #[.int .u64 x301000_2, .int .u64 x301001_2] 94 (0, 0))) ∧ Aside0 (w'.heap[gb304]? = some (.cells #[.int .u64 x305000_3, .int .u64 x305001_3] 94 (0, 0))) ∧ Aside0 (w'.heap[gb306]? = some (.cells #[.int .u64 x307000_4, .int .u64 x307001_4] 94 (0, 0))) ∧ Aside0 (Below w.heap.size w w'))
             case atStart => exact ⟨(0), (0), (1), zT, H', ⟨Nat.le_refl _⟩, ⟨zK BK295⟩, ⟨zK BK299⟩, ⟨zK BK300⟩, ⟨zK BK304⟩, ⟨by refine zD ?_; refine blk_put (cs := #[.int .u64 0, .int .u64 0]) ?_ 1 _ rfl; refine zD ?_; refine blk_put (cs := #[.int .u64 0, .int .u64 0]) ?_ 0 _ rfl; refine zD ?_; exact BK306.out⟩, ⟨zB⟩⟩
             case round =>
              clear H'
              try clear c1
              try clear c2
              try clear p2
              try clear c3
              try clear c3b0
              try clear c4
              try clear c4b0
              try clear p6
              try clear c7
              try clear c7b0
              try clear c9
              try clear c14
              try clear c17
              try clear c18
              try clear c20
              try clear c20b0
              try clear c28
              try clear c29
              try clear c32
              try clear c33
              try clear c34
              try clear c36
              try clear c36b0
              try clear c38
              try clear c38b0
              try clear c38b1
              try clear c39
              try clear c40
              try clear c41
              try clear c45
              try clear c46
              try clear c47
              try clear c48
              try clear hcz11_0
              try clear hcz11_1
              try clear hcz15_0
              try clear hcz15_1
              try clear hcz19_0
              try clear hcz19_1
              try clear hcz30_0
              try clear hcz30_1
              try clear hcz35_0
              try clear hcz35_1
              try clear hcz42_0
              try clear hcz42_1
              try clear hcz49_0
              try clear hcz49_1
              try clear hcz6_0
              try clear hcz6_1
              try clear hcz9_0
              try clear hcz9_1
              try clear hfz11_0
              try clear hfz11_1
              try clear hfz15_0
              try clear hfz15_1
              try clear hfz19_0
              try clear hfz19_1
              try clear hfz30_0
              try clear hfz30_1
              try clear hfz35_0
              try clear hfz35_1
              try clear hfz42_0
              try clear hfz42_1
              try clear hfz49_0
              try clear hfz49_1
              try clear hfz6_0
              try clear hfz6_1
              try clear hfz9_0
              try clear hfz9_1
              try clear p2
              try clear p6
              obtain ⟨x52_4, x307000_4, x307001_4, rfl, HA, HK4, BK295, BK299, BK300, BK304, BK306, HB⟩ := hrel
              cases gk with
              | zero => exact absurd HA.out (by simp [smaltoref01_Shift.l3])
              | succ k4 =>
               have H := HA.out
               clear HA
               simp only [smaltoref01_Shift.l3] at H
               by_cases c50 : x52_4 < x10_3
               ·rw [if_pos c50] at H
                have c50b0 : decide (x52_4 < x10_3) = true := decide_eq_true c50
                clear c50
                replace H := Option.bind_eq_some_iff.mp H
                obtain ⟨⟨t307, t308⟩, A510, H⟩ := H
                try dsimp only at H
                have A51 := Aside0.mk A510
                clear A510
                have H' := Aside0.mk H
                clear H
                have hnb52 := NB306_295.out
                have hnc52 := NB295_306.out
                have hnb53 := NB306_299.out
                have hnc53 := NB299_306.out
                have hnb54 := NB306_300.out
                have hnc54 := NB300_306.out
                have hnb55 := NB306_304.out
                have hnc55 := NB304_306.out
                have hcz56_0 : wr.cell? ⟨gb306, 0, none⟩ = some (.int .u64 x307000_4) := (blk_cell BK306.out 0).trans rfl
                have hcz56_1 : wr.cell? ⟨gb306, 1, none⟩ = some (.int .u64 x307001_4) := (blk_cell BK306.out 1).trans rfl
                have hfz56_0 := blk_frozen BK306.out 0
                have hfz56_1 := blk_frozen BK306.out 1
                go_wp2_with (first | ((with_reducible refine gate_callee (f := 97) rfl ?_); refine goesL_ (some 55) rfl rfl Tryd.func97 (by kernel_rfl) rfl #[.agg #[.int .u64 x307000_4, .int .u64 x307001_4], .int .u64 0] rfl zL ?_; (with_reducible refine (smaltoref01_Twice.calls x307000_4 x307001_4 0 t307 t308 _ A51.out).mono ?_); rintro e w57 ⟨rfl, hb⟩; refine ⟨_, rfl, ?_⟩; have n0_ := Aside0.mk (blk_below (zK BK295) hb); have n1_ := Aside0.mk (blk_below (zK BK299) hb); have n2_ := Aside0.mk (blk_below (zK BK300) hb); have n3_ := Aside0.mk (blk_below (zK BK304) hb); have n4_ := Aside0.mk (blk_below (zK BK306) hb); have n5_ := Aside0.mk (below_step zB hb); clear BK295; clear BK299; clear BK300; clear BK304; clear BK306; clear HB; have BK295 := n0_; have BK299 := n1_; have BK300 := n2_; have BK304 := n3_; have BK306 := n4_; have HB := n5_; clear n0_ n1_ n2_ n3_ n4_ n5_; (try clear hb); (try clear hb2); (try clear hk); (try clear hi); have hcz58_0 : w57.cell? ⟨gb306, 0, none⟩ = some (.int .u64 x307000_4) := (blk_cell BK306.out 0).trans rfl; have hcz58_1 : w57.cell? ⟨gb306, 1, none⟩ = some (.int .u64 x307001_4) := (blk_cell BK306.out 1).trans rfl; have hfz58_0 := blk_frozen BK306.out 0; have hfz58_1 := blk_frozen BK306.out 1))
                go_roundg k4
                case measure => have := HK1.out; have := HK2.out; have := HK3.out; have := HK4.out; omega
                case rel => exact ⟨(wrap64 (x52_4 + 1)), (t307), (t308), zT, H', ⟨by have := HK1.out; have := HK2.out; have := HK3.out; have := HK4.out; omega⟩, ⟨zK BK295⟩, ⟨zK BK299⟩, ⟨zK BK300⟩, ⟨zK BK304⟩, ⟨by refine zD ?_; refine blk_put (cs := #[.int .u64 t307, .int .u64 x307001_4]) ?_ 1 _ rfl; refine zD ?_; refine blk_put (cs := #[.int .u64 x307000_4, .int .u64 x307001_4]) ?_ 0 _ rfl; refine zD ?_; exact BK306.out⟩, ⟨zB⟩⟩
               ·rw [if_neg c50] at H
                have c50b0 : decide (x52_4 < x10_3) = false := decide_eq_false c50
                clear c50
                replace H := Option.bind_eq_some_iff.mp H
                obtain ⟨⟨t309, t310⟩, A590, H⟩ := H
                try dsimp only at H
                have A59 := Aside0.mk A590
                clear A590
                have H' := Aside0.mk H
                clear H
                have hnb60 := NB304_295.out
                have hnc60 := NB295_304.out
                have hnb61 := NB304_299.out
                have hnc61 := NB299_304.out
                have hnb62 := NB304_300.out
                have hnc62 := NB300_304.out
                have hnb63 := NB304_306.out
                have hnc63 := NB306_304.out
                have hcz64_0 : wr.cell? ⟨gb304, 0, none⟩ = some (.int .u64 x305000_3) := (blk_cell BK304.out 0).trans rfl
                have hcz64_1 : wr.cell? ⟨gb304, 1, none⟩ = some (.int .u64 x305001_3) := (blk_cell BK304.out 1).trans rfl
                have hfz64_0 := blk_frozen BK304.out 0
                have hfz64_1 := blk_frozen BK304.out 1
                have hnb65 := NB306_295.out
                have hnc65 := NB295_306.out
                have hnb66 := NB306_299.out
                have hnc66 := NB299_306.out
                have hnb67 := NB306_300.out
                have hnc67 := NB300_306.out
                have hcz68_0 : wr.cell? ⟨gb306, 0, none⟩ = some (.int .u64 x307000_4) := (blk_cell BK306.out 0).trans rfl
                have hcz68_1 : wr.cell? ⟨gb306, 1, none⟩ = some (.int .u64 x307001_4) := (blk_cell BK306.out 1).trans rfl
                have hfz68_0 := blk_frozen BK306.out 0
                have hfz68_1 := blk_frozen BK306.out 1
                go_wp2_with (first | ((with_reducible refine gate_callee (f := 100) rfl ?_); refine goesL_ (some 59) rfl rfl Tryd.func100 (by kernel_rfl) rfl #[.agg #[.int .u64 x305000_3, .int .u64 x305001_3], .agg #[.int .u64 x307000_4, .int .u64 x307001_4]] rfl zL ?_; (with_reducible refine (smaltoref01_Minus.calls x305000_3 x305001_3 x307000_4 x307001_4 t309 t310 _ A59.out).mono ?_); rintro e w69 ⟨rfl, hb⟩; refine ⟨_, rfl, ?_⟩; have n0_ := Aside0.mk (blk_below (zK BK295) hb); have n1_ := Aside0.mk (blk_below (zK BK299) hb); have n2_ := Aside0.mk (blk_below (zK BK300) hb); have n3_ := Aside0.mk (blk_below (zK BK304) hb); have n4_ := Aside0.mk (blk_below (zK BK306) hb); have n5_ := Aside0.mk (below_step zB hb); clear BK295; clear BK299; clear BK300; clear BK304; clear BK306; clear HB; have BK295 := n0_; have BK299 := n1_; have BK300 := n2_; have BK304 := n3_; have BK306 := n4_; have HB := n5_; clear n0_ n1_ n2_ n3_ n4_ n5_; (try clear hb); (try clear hb2); (try clear hk); (try clear hi); have hcz70_0 : w69.cell? ⟨gb304, 0, none⟩ = some (.int .u64 x305000_3) := (blk_cell BK304.out 0).trans rfl; have hcz70_1 : w69.cell? ⟨gb304, 1, none⟩ = some (.int .u64 x305001_3) := (blk_cell BK304.out 1).trans rfl; have hfz70_0 := blk_frozen BK304.out 0; have hfz70_1 := blk_frozen BK304.out 1))
                go_roundg k4
                case measure => have := HK1.out; have := HK2.out; have := HK3.out; have := HK4.out; omega
                case rel => exact ⟨(wrap64 (x10_3 + 1)), (t309), (t310), zT, H', ⟨by have := HK1.out; have := HK2.out; have := HK3.out; have := HK4.out; omega⟩, ⟨zK BK295⟩, ⟨zK BK299⟩, ⟨zK BK300⟩, ⟨by refine zD ?_; refine blk_put (cs := #[.int .u64 t309, .int .u64 x305001_3]) ?_ 1 _ rfl; refine zD ?_; refine blk_put (cs := #[.int .u64 x305000_3, .int .u64 x305001_3]) ?_ 0 _ rfl; refine zD ?_; exact BK304.out⟩, ⟨zB⟩⟩
            ·rw [if_neg c38] at H
             have c38b0 : (t305 == 1) = false := beq_eq_false_iff_ne.mpr c38
             have c38b1 : (t305 != 1) = true := bne_iff_ne.mpr c38
             have H' := Aside0.mk H
             clear H
             have hnb71 := NB299_295.out
             have hnc71 := NB295_299.out
             have hnb72 := NB299_300.out
             have hnc72 := NB300_299.out
             have hnb73 := NB299_304.out
             have hnc73 := NB304_299.out
             have hcz74_0 : wr.cell? ⟨gb299, 0, none⟩ = some (.int .u64 0) := (blk_cell BK299.out 0).trans rfl
             have hcz74_1 : wr.cell? ⟨gb299, 1, none⟩ = some (.int .u64 t298) := (blk_cell BK299.out 1).trans rfl
             have hfz74_0 := blk_frozen BK299.out 0
             have hfz74_1 := blk_frozen BK299.out 1
             go_wp2_with (first | ((with_reducible refine gate_callee (f := 98) rfl ?_); refine goesL_ (some 48) rfl rfl Tryd.func98 (by kernel_rfl) rfl #[.agg #[.int .u64 0, .int .u64 t298], .int .i64 x10_3] rfl zL ?_; (with_reducible refine (smaltoref01_Bit.calls 0 t298 x10_3 t305 _ A37.out).mono ?_); rintro e w75 ⟨rfl, hb⟩; refine ⟨_, rfl, ?_⟩; have n0_ := Aside0.mk (blk_below (zK BK295) hb); have n1_ := Aside0.mk (blk_below (zK BK299) hb); have n2_ := Aside0.mk (blk_below (zK BK300) hb); have n3_ := Aside0.mk (blk_below (zK BK304) hb); have n4_ := Aside0.mk (below_step zB hb); clear BK295; clear BK299; clear BK300; clear BK304; clear HB; have BK295 := n0_; have BK299 := n1_; have BK300 := n2_; have BK304 := n3_; have HB := n4_; clear n0_ n1_ n2_ n3_ n4_; (try clear hb); (try clear hb2); (try clear hk); (try clear hi)))
             go_roundg k3
             case measure => have := HK1.out; have := HK2.out; have := HK3.out; omega
             case rel => exact ⟨(wrap64 (x10_3 + 1)), (x305000_3), (x305001_3), zT, H', ⟨by have := HK1.out; have := HK2.out; have := HK3.out; omega⟩, ⟨zK BK295⟩, ⟨zK BK299⟩, ⟨zK BK300⟩, ⟨zK BK304⟩, ⟨zB⟩⟩
           ·rw [if_neg c36] at H
            have c36b0 : decide (x10_3 < 128) = false := decide_eq_false c36
            clear c36
            replace H := Option.bind_eq_some_iff.mp H
            obtain ⟨t311, A760, H⟩ := H
            try dsimp only at H
            have A76 := Aside0.mk A760
            clear A760
            have HC77 := Aside0.mk H
            clear H
            have hnb78 := NB304_295.out
            have hnc78 := NB295_304.out
            have hnb79 := NB304_299.out
            have hnc79 := NB299_304.out
            have hnb80 := NB304_300.out
            have hnc80 := NB300_304.out
            have hcz81_0 : wr.cell? ⟨gb304, 0, none⟩ = some (.int .u64 x305000_3) := (blk_cell BK304.out 0).trans rfl
            have hcz81_1 : wr.cell? ⟨gb304, 1, none⟩ = some (.int .u64 x305001_3) := (blk_cell BK304.out 1).trans rfl
            have hfz81_0 := blk_frozen BK304.out 0
            have hfz81_1 := blk_frozen BK304.out 1
            have hnb82 := NB295_299.out
            have hnc82 := NB299_295.out
            have hnb83 := NB295_300.out
            have hnc83 := NB300_295.out
            have hcz84_0 : wr.cell? ⟨gb295, 0, none⟩ = some (.int .u64 x296000_1) := (blk_cell BK295.out 0).trans rfl
            have hcz84_1 : wr.cell? ⟨gb295, 1, none⟩ = some (.int .u64 x296001_1) := (blk_cell BK295.out 1).trans rfl
            have hfz84_0 := blk_frozen BK295.out 0
            have hfz84_1 := blk_frozen BK295.out 1
            go_upto_if 65 with (first | ((with_reducible refine gate_callee (f := 99) rfl ?_); refine goesL_ (some 62) rfl rfl Tryd.func99 (by kernel_rfl) rfl #[.agg #[.int .u64 x305000_3, .int .u64 x305001_3], .agg #[.int .u64 x296000_1, .int .u64 x296001_1]] rfl zL ?_; (with_reducible refine (smaltoref01_Less.calls x305000_3 x305001_3 x296000_1 x296001_1 t311 _ A76.out).mono ?_); rintro e w85 ⟨rfl, hb⟩; refine ⟨_, rfl, ?_⟩; have n0_ := Aside0.mk (blk_below (zK BK295) hb); have n1_ := Aside0.mk (blk_below (zK BK299) hb); have n2_ := Aside0.mk (blk_below (zK BK300) hb); have n3_ := Aside0.mk (blk_below (zK BK304) hb); have n4_ := Aside0.mk (below_step zB hb); clear BK295; clear BK299; clear BK300; clear BK304; clear HB; have BK295 := n0_; have BK299 := n1_; have BK300 := n2_; have BK304 := n3_; have HB := n4_; clear n0_ n1_ n2_ n3_ n4_; (try clear hb); (try clear hb2); (try clear hk); (try clear hi)))
            (try simp only [Act.put, List.setIfInBounds_toArray, List.set_cons_zero, List.set_cons_succ])
            go_cut [12] (fun v12 wc => ∃ (kq : Nat) (x12_76 : Bool), v12 = .bool x12_76 ∧ Aside0 (smaltoref01_Shift.j4 kq a0 x12_76 x301000_2 x301001_2 = some r) ∧ Aside0 (kq ≤ k3) ∧ Aside0 (wc.heap[gb295]? = some (.cells #[.int .u64 x296000_1, .int .u64 x296001_1] 94 (0, 0))) ∧ Aside0 (wc.heap[gb299]? = some (.cells #[.int .u64 0, .int .u64 t298] 94 (0, 0))) ∧ Aside0 (wc.heap[gb300]? = some (.cells #[.int .u64 x301000_2, .int .u64 x301001_2] 94 (0, 0))) ∧ Aside0 (wc.heap[gb304]? = some (.cells #[.int .u64 x305000_3, .int .u64 x305001_3] 94 (0, 0))) ∧ Aside0 (Below w.heap.size w wc))
            case first =>
             have H := HC77.out
             clear HC77
             by_cases c86 : a0 < 0
             ·rw [if_pos c86] at H
              have c86b0 : decide (a0 < 0) = true := decide_eq_true c86
              clear c86
              (first | rw [c86b0] | (simp only [i64_w, i32_w]; rw [c86b0]) | skip)
              replace H := Option.bind_eq_some_iff.mp H
              obtain ⟨t312, A870, H⟩ := H
              try dsimp only at H
              have A87 := Aside0.mk A870
              clear A870
              have H' := Aside0.mk H
              clear H
              have hnb88 := NB295_299.out
              have hnc88 := NB299_295.out
              have hnb89 := NB295_300.out
              have hnc89 := NB300_295.out
              have hnb90 := NB295_304.out
              have hnc90 := NB304_295.out
              have hcz91_0 : w85.cell? ⟨gb295, 0, none⟩ = some (.int .u64 x296000_1) := (blk_cell BK295.out 0).trans rfl
              have hcz91_1 : w85.cell? ⟨gb295, 1, none⟩ = some (.int .u64 x296001_1) := (blk_cell BK295.out 1).trans rfl
              have hfz91_0 := blk_frozen BK295.out 0
              have hfz91_1 := blk_frozen BK295.out 1
              have hnb92 := NB304_299.out
              have hnc92 := NB299_304.out
              have hnb93 := NB304_300.out
              have hnc93 := NB300_304.out
              have hcz94_0 : w85.cell? ⟨gb304, 0, none⟩ = some (.int .u64 x305000_3) := (blk_cell BK304.out 0).trans rfl
              have hcz94_1 : w85.cell? ⟨gb304, 1, none⟩ = some (.int .u64 x305001_3) := (blk_cell BK304.out 1).trans rfl
              have hfz94_0 := blk_frozen BK304.out 0
              have hfz94_1 := blk_frozen BK304.out 1
              go_wp2_with (first | ((with_reducible refine gate_callee (f := 99) rfl ?_); refine goesL_ (some 68) rfl rfl Tryd.func99 (by kernel_rfl) rfl #[.agg #[.int .u64 x296000_1, .int .u64 x296001_1], .agg #[.int .u64 x305000_3, .int .u64 x305001_3]] rfl zL ?_; (with_reducible refine (smaltoref01_Less.calls x296000_1 x296001_1 x305000_3 x305001_3 t312 _ A87.out).mono ?_); rintro e w95 ⟨rfl, hb⟩; refine ⟨_, rfl, ?_⟩; have n0_ := Aside0.mk (blk_below (zK BK295) hb); have n1_ := Aside0.mk (blk_below (zK BK299) hb); have n2_ := Aside0.mk (blk_below (zK BK300) hb); have n3_ := Aside0.mk (blk_below (zK BK304) hb); have n4_ := Aside0.mk (below_step zB hb); clear BK295; clear BK299; clear BK300; clear BK304; clear HB; have BK295 := n0_; have BK299 := n1_; have BK300 := n2_; have BK304 := n3_; have HB := n4_; clear n0_ n1_ n2_ n3_ n4_; (try clear hb); (try clear hb2); (try clear hk); (try clear hi)))
              go_meet
              case rel => exact ⟨_, (t312), zT, H', ⟨by have := HK1.out; have := HK2.out; have := HK3.out; first | omega | exact Nat.le_refl _⟩, ⟨zK BK295⟩, ⟨zK BK299⟩, ⟨zK BK300⟩, ⟨zK BK304⟩, ⟨zB⟩⟩
             ·rw [if_neg c86] at H
              have c86b0 : decide (a0 < 0) = false := decide_eq_false c86
              clear c86
              (first | rw [c86b0] | (simp only [i64_w, i32_w]; rw [c86b0]) | skip)
              have H' := Aside0.mk H
              clear H
              go_wp2
              go_meet
              case rel => exact ⟨_, (!t311), zT, H', ⟨by have := HK1.out; have := HK2.out; have := HK3.out; first | omega | exact Nat.le_refl _⟩, ⟨zK BK295⟩, ⟨zK BK299⟩, ⟨zK BK300⟩, ⟨zK BK304⟩, ⟨zB⟩⟩
            case rest =>
             clear HC77
             try clear c1
             try clear c2
             try clear p2
             try clear c3
             try clear c3b0
             try clear c4
             try clear c4b0
             try clear c5
             try clear c6
             try clear p6
             try clear c7
             try clear c7b0
             try clear c8
             try clear c9
             try clear c10
             try clear c14
             try clear c17
             try clear c18
             try clear c20
             try clear c20b0
             try clear c28
             try clear c29
             try clear c32
             try clear c33
             try clear c34
             try clear c36
             try clear c36b0
             try clear c38
             try clear c38b0
             try clear c38b1
             try clear c39
             try clear c40
             try clear c41
             try clear c45
             try clear c46
             try clear c47
             try clear c48
             try clear c50
             try clear c50b0
             try clear c52
             try clear c53
             try clear c54
             try clear c55
             try clear c60
             try clear c61
             try clear c62
             try clear c63
             try clear p64
             try clear c65
             try clear c66
             try clear c67
             try clear c71
             try clear c72
             try clear c73
             try clear c78
             try clear c79
             try clear c80
             try clear c82
             try clear c83
             try clear c86
             try clear c86b0
             try clear c88
             try clear c89
             try clear c90
             try clear c92
             try clear c93
             try clear hcz11_0
             try clear hcz11_1
             try clear hcz15_0
             try clear hcz15_1
             try clear hcz19_0
             try clear hcz19_1
             try clear hcz30_0
             try clear hcz30_1
             try clear hcz35_0
             try clear hcz35_1
             try clear hcz42_0
             try clear hcz42_1
             try clear hcz49_0
             try clear hcz49_1
             try clear hcz56_0
             try clear hcz56_1
             try clear hcz58_0
             try clear hcz58_1
             try clear hcz64_0
             try clear hcz64_1
             try clear hcz68_0
             try clear hcz68_1
             try clear hcz6_0
             try clear hcz6_1
             try clear hcz70_0
             try clear hcz70_1
             try clear hcz74_0
             try clear hcz74_1
             try clear hcz81_0
             try clear hcz81_1
             try clear hcz84_0
             try clear hcz84_1
             try clear hcz91_0
             try clear hcz91_1
             try clear hcz94_0
             try clear hcz94_1
             try clear hcz9_0
             try clear hcz9_1
             try clear hfz11_0
             try clear hfz11_1
             try clear hfz15_0
             try clear hfz15_1
             try clear hfz19_0
             try clear hfz19_1
             try clear hfz30_0
             try clear hfz30_1
             try clear hfz35_0
             try clear hfz35_1
             try clear hfz42_0
             try clear hfz42_1
             try clear hfz49_0
             try clear hfz49_1
             try clear hfz56_0
             try clear hfz56_1
             try clear hfz58_0
             try clear hfz58_1
             try clear hfz64_0
             try clear hfz64_1
             try clear hfz68_0
             try clear hfz68_1
             try clear hfz6_0
             try clear hfz6_1
             try clear hfz70_0
             try clear hfz70_1
             try clear hfz74_0
             try clear hfz74_1
             try clear hfz81_0
             try clear hfz81_1
             try clear hfz84_0
             try clear hfz84_1
             try clear hfz91_0
             try clear hfz91_1
             try clear hfz94_0
             try clear hfz94_1
             try clear hfz9_0
             try clear hfz9_1
             try clear p2
             try clear p6
             obtain ⟨kq, x12_76, rfl, HA, HJ76, BK295, BK299, BK300, BK304, HB⟩ := hcut
             cases kq with
             | zero => exact absurd HA.out (by simp [smaltoref01_Shift.j4])
             | succ kj76 =>
              have H := HA.out
              clear HA
              simp only [smaltoref01_Shift.j4] at H
              by_cases c96 : x12_76 = true
              ·subst c96
               have H1 := H; rw [if_pos rfl] at H1; try dsimp only at H1
               clear H
               have H := H1
               clear H1
               replace H := Option.bind_eq_some_iff.mp H
               obtain ⟨⟨t313, t314⟩, A970, H⟩ := H
               try dsimp only at H
               have A97 := Aside0.mk A970
               clear A970
               replace H := Option.bind_eq_some_iff.mp H
               obtain ⟨t315, A980, H⟩ := H
               try dsimp only at H
               have A98 := Aside0.mk A980
               clear A980
               obtain rfl := Option.some.inj H
               have hnb99 := NB300_295.out
               have hnc99 := NB295_300.out
               have hnb100 := NB300_299.out
               have hnc100 := NB299_300.out
               have hnb101 := NB300_304.out
               have hnc101 := NB304_300.out
               have hcz102_0 : wc.cell? ⟨gb300, 0, none⟩ = some (.int .u64 x301000_2) := (blk_cell BK300.out 0).trans rfl
               have hcz102_1 : wc.cell? ⟨gb300, 1, none⟩ = some (.int .u64 x301001_2) := (blk_cell BK300.out 1).trans rfl
               have hfz102_0 := blk_frozen BK300.out 0
               have hfz102_1 := blk_frozen BK300.out 1
               go_wp2_with (first | ((with_reducible refine gate_callee (f := 73) rfl ?_); refine goesL_ (some 72) rfl rfl Tryd.func73 (by kernel_rfl) rfl #[.agg #[.int .u64 x301000_2, .int .u64 x301001_2], .agg #[.int .u64 0, .int .u64 1]] rfl zL ?_; (with_reducible refine (smaltoref01_Plus.calls x301000_2 x301001_2 0 1 t313 t314 _ A97.out).mono ?_); rintro e w103 ⟨rfl, hb⟩; refine ⟨_, rfl, ?_⟩; have n0_ := Aside0.mk (blk_below (zK BK295) hb); have n1_ := Aside0.mk (blk_below (zK BK299) hb); have n2_ := Aside0.mk (blk_below (zK BK300) hb); have n3_ := Aside0.mk (blk_below (zK BK304) hb); have n4_ := Aside0.mk (below_step zB hb); clear BK295; clear BK299; clear BK300; clear BK304; clear HB; have BK295 := n0_; have BK299 := n1_; have BK300 := n2_; have BK304 := n3_; have HB := n4_; clear n0_ n1_ n2_ n3_ n4_; (try clear hb); (try clear hb2); (try clear hk); (try clear hi); have hcz104_0 : w103.cell? ⟨gb300, 0, none⟩ = some (.int .u64 x301000_2) := (blk_cell BK300.out 0).trans rfl; have hcz104_1 : w103.cell? ⟨gb300, 1, none⟩ = some (.int .u64 x301001_2) := (blk_cell BK300.out 1).trans rfl; have hfz104_0 := blk_frozen BK300.out 0; have hfz104_1 := blk_frozen BK300.out 1) | ((with_reducible refine gate_callee (f := 74) rfl ?_); refine goesL_ (some 76) rfl rfl Tryd.func74 (by kernel_rfl) rfl #[.agg #[.int .u64 t313, .int .u64 t314], .bool (decide (a0 < 0))] rfl zL ?_; (with_reducible refine (smaltoref01_Hold.calls kj76 t313 t314 (decide (a0 < 0)) t315 _ A98.out).mono ?_); rintro e w105 ⟨rfl, hb⟩; refine ⟨_, rfl, ?_⟩; have n0_ := Aside0.mk (blk_below (zK BK295) hb); have n1_ := Aside0.mk (blk_below (zK BK299) hb); have n2_ := Aside0.mk (blk_below (g := gb300) (o := .cells #[.int .u64 t313, .int .u64 t314] 94 (0, 0)) (by refine zD ?_; refine blk_put (cs := #[.int .u64 t313, .int .u64 x301001_2]) ?_ 1 _ rfl; refine zD ?_; refine blk_put (cs := #[.int .u64 x301000_2, .int .u64 x301001_2]) ?_ 0 _ rfl; refine zD ?_; exact BK300.out) hb); have n3_ := Aside0.mk (blk_below (zK BK304) hb); have n4_ := Aside0.mk (below_step zB hb); clear BK295; clear BK299; clear BK300; clear BK304; clear HB; have BK295 := n0_; have BK299 := n1_; have BK300 := n2_; have BK304 := n3_; have HB := n4_; clear n0_ n1_ n2_ n3_ n4_; (try clear hb); (try clear hb2); (try clear hk); (try clear hi)))
               go_ret
               exact ⟨zS, zB⟩
              ·replace c96 := Bool.eq_false_iff.mpr c96
               subst c96
               have H1 := H; rw [if_neg (show ¬ (false = true) by decide)] at H1; try dsimp only at H1
               clear H
               have H := H1
               clear H1
               replace H := Option.bind_eq_some_iff.mp H
               obtain ⟨t316, A1060, H⟩ := H
               try dsimp only at H
               have A106 := Aside0.mk A1060
               clear A1060
               obtain rfl := Option.some.inj H
               have hnb107 := NB300_295.out
               have hnc107 := NB295_300.out
               have hnb108 := NB300_299.out
               have hnc108 := NB299_300.out
               have hnb109 := NB300_304.out
               have hnc109 := NB304_300.out
               have hcz110_0 : wc.cell? ⟨gb300, 0, none⟩ = some (.int .u64 x301000_2) := (blk_cell BK300.out 0).trans rfl
               have hcz110_1 : wc.cell? ⟨gb300, 1, none⟩ = some (.int .u64 x301001_2) := (blk_cell BK300.out 1).trans rfl
               have hfz110_0 := blk_frozen BK300.out 0
               have hfz110_1 := blk_frozen BK300.out 1
               go_wp2_with (first | ((with_reducible refine gate_callee (f := 74) rfl ?_); refine goesL_ (some 76) rfl rfl Tryd.func74 (by kernel_rfl) rfl #[.agg #[.int .u64 x301000_2, .int .u64 x301001_2], .bool (decide (a0 < 0))] rfl zL ?_; (with_reducible refine (smaltoref01_Hold.calls kj76 x301000_2 x301001_2 (decide (a0 < 0)) t316 _ A106.out).mono ?_); rintro e w111 ⟨rfl, hb⟩; refine ⟨_, rfl, ?_⟩; have n0_ := Aside0.mk (blk_below (zK BK295) hb); have n1_ := Aside0.mk (blk_below (zK BK299) hb); have n2_ := Aside0.mk (blk_below (zK BK300) hb); have n3_ := Aside0.mk (blk_below (zK BK304) hb); have n4_ := Aside0.mk (below_step zB hb); clear BK295; clear BK299; clear BK300; clear BK304; clear HB; have BK295 := n0_; have BK299 := n1_; have BK300 := n2_; have BK304 := n3_; have HB := n4_; clear n0_ n1_ n2_ n3_ n4_; (try clear hb); (try clear hb2); (try clear hk); (try clear hi)))
               go_ret
               exact ⟨zS, zB⟩
end Go.Proofs.YthaajkpiknbdbaaDoor.QA

namespace Go.Proofs.YthaajkpiknbdbaaDoor.QA
open Go.Proofs.YthaajkpiknbdbaaDoor.T
open Go.RowKit Go.Proofs.YthaajkpiknbdbaaDoorW.PrintWords Go.Proofs.YthaajkpiknbdbaaDoorW.PrintLast Go.Proofs.YthaajkpiknbdbaaDoorW.PrintMore
attribute [local go_sem] ext_call max2_int min2_int max_two min_two max_three min_three max_four min_four   -- for this text's walks alone
set_option linter.unusedVariables false
set_option linter.unusedSimpArgs false
def smaltoref04_Lanczos.j0 : Nat → Int → Int → Bool → Option (Int)
 | 0, _, _, _ => none
 | k + 1, x0, x1, x21 => if x21 = true then (some 0) else ((smaltoref04_Series.f k x0 x1).bind fun t318 => ((smaltoref04_Series.f k x0 (wrap64 (3 * x1))).bind fun t319 => ((smaltoref02_MulShift.f k t318 t319 40).bind fun t320 => ((smaltoref01_Shift.f k t320 10).bind fun t321 => (some t321)))))
def smaltoref04_Lanczos.f (k : Nat) (a0 : Int) (a1 : Int) : Option (Int) := (smaltoref04_May.f a0 a1).bind fun t317 => (if t317 = true then (if a0 ≥ (wrap64 (3 * a1)) then (smaltoref04_Lanczos.j0 k a0 a1 true) else (smaltoref04_Lanczos.j0 k a0 a1 (decide (a0 ≤ (wrap64 ((-3) * a1)))))) else (smaltoref04_Lanczos.j0 k a0 a1 true))
theorem smaltoref04_Lanczos.mono_l : ∀ k, (∀ y0 y1 y2, LeO (smaltoref04_Lanczos.j0 k y0 y1 y2) (smaltoref04_Lanczos.j0 (k + 1) y0 y1 y2))
 | 0 => fun _ _ _ r h => by simp [smaltoref04_Lanczos.j0] at h
 | k + 1 => by
  have ih0 := smaltoref04_Lanczos.mono_l k
  ·intro y0 y1 y2
   unfold smaltoref04_Lanczos.j0
   repeat' (with_reducible first | exact ih0 _ _ _ | exact smaltoref01_Shift.mono _ _ _ | exact smaltoref02_MulShift.mono _ _ _ _ | exact smaltoref04_Series.mono _ _ _ | exact zM | refine LeO.ite ?_ ?_ | refine LeO.bind ?_ (fun _ => ?_))
theorem smaltoref04_Lanczos.mono : ∀ a0 a1 k, LeO (smaltoref04_Lanczos.f k a0 a1) (smaltoref04_Lanczos.f (k + 1) a0 a1) := by
 intro a0 a1 k
 have ih0 := smaltoref04_Lanczos.mono_l k
 unfold smaltoref04_Lanczos.f
 repeat' (with_reducible first | exact ih0 _ _ _ | exact smaltoref01_Shift.mono _ _ _ | exact smaltoref02_MulShift.mono _ _ _ _ | exact smaltoref04_Series.mono _ _ _ | exact zM | refine LeO.ite ?_ ?_ | refine LeO.bind ?_ (fun _ => ?_))
set_option maxHeartbeats 8000000 in
set_option maxRecDepth 100000 in
theorem smaltoref04_Lanczos.calls (k : Nat) (a0 : Int) (a1 : Int) (r : Int) (w : World) (h : smaltoref04_Lanczos.f k a0 a1 = some r) :
  Calls Tryd.prog 70 #[.int .i64 a0, .int .i64 a1] w fun e w' => e = .returned (.int .i64 r) ∧ Below w.heap.size w w' := by
 have HB := Aside0.mk (Below.refl w.heap.size w)
 have H : ((smaltoref04_May.f a0 a1).bind fun t317 => (if t317 = true then (if a0 ≥ (wrap64 (3 * a1)) then (smaltoref04_Lanczos.j0 k a0 a1 true) else (smaltoref04_Lanczos.j0 k a0 a1 (decide (a0 ≤ (wrap64 ((-3) * a1)))))) else (smaltoref04_Lanczos.j0 k a0 a1 true))) = some r := h
 clear h
 have HC3 := Aside0.mk H
 clear H
 go_enter Tryd.func70, Tryd.ntmps70
 go_upto_region 1 with (fail)
 go_cut [21] (fun v21 wc => ∃ (kq : Nat) (x21_2 : Bool), v21 = .bool x21_2 ∧ Aside0 (smaltoref04_Lanczos.j0 kq a0 a1 x21_2 = some r) ∧ Aside0 (kq ≤ k) ∧ Aside0 (Below w.heap.size w wc))
 case first =>
  have H := HC3.out
  clear HC3
  replace H := Option.bind_eq_some_iff.mp H
  obtain ⟨t317, A40, H⟩ := H
  try dsimp only at H
  have A4 := Aside0.mk A40
  clear A40
  by_cases c5 : t317 = true
  ·subst c5
   have H1 := H; rw [if_pos rfl] at H1; try dsimp only at H1
   clear H
   have H := H1
   clear H1
   by_cases c6 : a0 ≥ (wrap64 (3 * a1))
   ·rw [if_pos c6] at H
    have c6b0 : decide ((wrap64 (3 * a1)) ≤ a0) = true := decide_eq_true c6
    clear c6
    (first | rw [c6b0] | (simp only [i64_w, i32_w]; rw [c6b0]) | skip)
    have H' := Aside0.mk H
    clear H
    go_wp2_with (first | ((with_reducible refine gate_callee (f := 93) rfl ?_); refine goesL_ (some 8) rfl rfl Tryd.func93 (by kernel_rfl) rfl #[.int .i64 a0, .int .i64 a1] rfl zL ?_; (with_reducible refine (smaltoref04_May.calls a0 a1 true _ A4.out).mono ?_); rintro e w' ⟨rfl, ⟨nd, rfl⟩⟩; refine ⟨_, rfl, ?_⟩))
    go_meet
    case rel => exact ⟨_, (true), zT, H', ⟨by first | omega | exact Nat.le_refl _⟩, ⟨zB⟩⟩
   ·rw [if_neg c6] at H
    have c6b0 : decide ((wrap64 (3 * a1)) ≤ a0) = false := decide_eq_false c6
    clear c6
    (first | rw [c6b0] | (simp only [i64_w, i32_w]; rw [c6b0]) | skip)
    have H' := Aside0.mk H
    clear H
    go_wp2_with (first | ((with_reducible refine gate_callee (f := 93) rfl ?_); refine goesL_ (some 8) rfl rfl Tryd.func93 (by kernel_rfl) rfl #[.int .i64 a0, .int .i64 a1] rfl zL ?_; (with_reducible refine (smaltoref04_May.calls a0 a1 true _ A4.out).mono ?_); rintro e w' ⟨rfl, ⟨nd, rfl⟩⟩; refine ⟨_, rfl, ?_⟩))
    go_meet
    case rel => exact ⟨_, (decide (a0 ≤ (wrap64 ((-3) * a1)))), zT, H', ⟨by first | omega | exact Nat.le_refl _⟩, ⟨zB⟩⟩
  ·replace c5 := Bool.eq_false_iff.mpr c5
   subst c5
   have H1 := H; rw [if_neg (show ¬ (false = true) by decide)] at H1; try dsimp only at H1
   clear H
   have H := H1
   clear H1
   have H' := Aside0.mk H
   clear H
   go_wp2_with (first | ((with_reducible refine gate_callee (f := 93) rfl ?_); refine goesL_ (some 8) rfl rfl Tryd.func93 (by kernel_rfl) rfl #[.int .i64 a0, .int .i64 a1] rfl zL ?_; (with_reducible refine (smaltoref04_May.calls a0 a1 false _ A4.out).mono ?_); rintro e w' ⟨rfl, ⟨nd, rfl⟩⟩; refine ⟨_, rfl, ?_⟩))
   go_meet
   case rel => exact ⟨_, (true), zT, H', ⟨by first | omega | exact Nat.le_refl _⟩, ⟨zB⟩⟩
 case rest =>
  clear HC3
  try clear p2
  try clear c5
  try clear c6
  try clear c6b0
  try clear p6
  obtain ⟨kq, x21_2, rfl, HA, HJ2, HB⟩ := hcut
  cases kq with
  | zero => exact absurd HA.out (by simp [smaltoref04_Lanczos.j0])
  | succ kj2 =>
   have H := HA.out
   clear HA
   simp only [smaltoref04_Lanczos.j0] at H
   by_cases c7 : x21_2 = true
   ·subst c7
    have H1 := H; rw [if_pos rfl] at H1; try dsimp only at H1
    clear H
    have H := H1
    clear H1
    obtain rfl := Option.some.inj H
    go_wp2
    go_ret
    exact ⟨zS, zB⟩
   ·replace c7 := Bool.eq_false_iff.mpr c7
    subst c7
    have H1 := H; rw [if_neg (show ¬ (false = true) by decide)] at H1; try dsimp only at H1
    clear H
    have H := H1
    clear H1
    replace H := Option.bind_eq_some_iff.mp H
    obtain ⟨t318, A80, H⟩ := H
    try dsimp only at H
    have A8 := Aside0.mk A80
    clear A80
    replace H := Option.bind_eq_some_iff.mp H
    obtain ⟨t319, A90, H⟩ := H
    try dsimp only at H
    have A9 := Aside0.mk A90
    clear A90
    replace H := Option.bind_eq_some_iff.mp H
    obtain ⟨t320, A100, H⟩ := H
    try dsimp only at H
    have A10 := Aside0.mk A100
    clear A100
    replace H := Option.bind_eq_some_iff.mp H
    obtain ⟨t321, A110, H⟩ := H
    try dsimp only at H
    have A11 := Aside0.mk A110
    clear A110
    obtain rfl := Option.some.inj H
    go_wp2_with (first | ((with_reducible refine gate_callee (f := 95) rfl ?_); refine goesL_ (some 24) rfl rfl Tryd.func95 (by kernel_rfl) rfl #[.int .i64 a0, .int .i64 a1] rfl zL ?_; (with_reducible refine (smaltoref04_Series.calls kj2 a0 a1 t318 _ A8.out).mono ?_); rintro e w12 ⟨rfl, hb⟩; refine ⟨_, rfl, ?_⟩; have n0_ := Aside0.mk (below_step zB hb); clear HB; have HB := n0_; clear n0_; (try clear hb); (try clear hb2); (try clear hk); (try clear hi)) | ((with_reducible refine gate_callee (f := 95) rfl ?_); refine goesL_ (some 28) rfl rfl Tryd.func95 (by kernel_rfl) rfl #[.int .i64 a0, .int .i64 (wrap64 (3 * a1))] rfl zL ?_; (with_reducible refine (smaltoref04_Series.calls kj2 a0 (wrap64 (3 * a1)) t319 _ A9.out).mono ?_); rintro e w13 ⟨rfl, hb⟩; refine ⟨_, rfl, ?_⟩; have n0_ := Aside0.mk (below_step zB hb); clear HB; have HB := n0_; clear n0_; (try clear hb); (try clear hb2); (try clear hk); (try clear hi)) | ((with_reducible refine gate_callee (f := 94) rfl ?_); refine goesL_ (some 29) rfl rfl Tryd.func94 (by kernel_rfl) rfl #[.int .i64 t318, .int .i64 t319, .int .i64 40] rfl zL ?_; (with_reducible refine (smaltoref02_MulShift.calls kj2 t318 t319 40 t320 _ A10.out).mono ?_); rintro e w14 ⟨rfl, hb⟩; refine ⟨_, rfl, ?_⟩; have n0_ := Aside0.mk (below_step zB hb); clear HB; have HB := n0_; clear n0_; (try clear hb); (try clear hb2); (try clear hk); (try clear hi)) | ((with_reducible refine gate_callee (f := 96) rfl ?_); refine goesL_ (some 31) rfl rfl Tryd.func96 (by kernel_rfl) rfl #[.int .i64 t320, .int .i64 10] rfl zL ?_; (with_reducible refine (smaltoref01_Shift.calls kj2 t320 10 t321 _ A11.out).mono ?_); rintro e w15 ⟨rfl, hb⟩; refine ⟨_, rfl, ?_⟩; have n0_ := Aside0.mk (below_step zB hb); clear HB; have HB := n0_; clear n0_; (try clear hb); (try clear hb2); (try clear hk); (try clear hi)))
    go_ret
    exact ⟨zS, zB⟩
def smaltoref05_Weight.f (k : Nat) (a0 : Int) (a1 : Int) (a2 : Int) (a3 : Int) (a4 : Int) : Option (Int) := if a0 = 0 then (if (wrap64 (a4 * a2)) > (wrap64 (a3 * a1)) then (if (wrap64 ((wrap64 (a4 + 1)) * a2)) < (wrap64 ((wrap64 (a3 + 1)) * a1)) then ((smaltoref02_MulDiv.f k (wrap64 ((wrap64 ((wrap64 (a4 + 1)) * a2)) - (wrap64 (a4 * a2)))) 1073741824 a1).bind fun t322 => (some t322)) else ((smaltoref02_MulDiv.f k (wrap64 ((wrap64 ((wrap64 (a3 + 1)) * a1)) - (wrap64 (a4 * a2)))) 1073741824 a1).bind fun t323 => (some t323))) else (if (wrap64 ((wrap64 (a4 + 1)) * a2)) < (wrap64 ((wrap64 (a3 + 1)) * a1)) then ((smaltoref02_MulDiv.f k (wrap64 ((wrap64 ((wrap64 (a4 + 1)) * a2)) - (wrap64 (a3 * a1)))) 1073741824 a1).bind fun t324 => (some t324)) else ((smaltoref02_MulDiv.f k (wrap64 ((wrap64 ((wrap64 (a3 + 1)) * a1)) - (wrap64 (a3 * a1)))) 1073741824 a1).bind fun t325 => (some t325)))) else ((smaltoref05_fraction.f a1 a2 a3 a4).bind fun bt326 => (if a0 = 1 then ((smaltoref05_Keys.f k bt326.1 bt326.2).bind fun t328 => (some t328)) else ((smaltoref04_Lanczos.f k bt326.1 bt326.2).bind fun t329 => (some t329))))
theorem smaltoref05_Weight.mono : ∀ a0 a1 a2 a3 a4 k, LeO (smaltoref05_Weight.f k a0 a1 a2 a3 a4) (smaltoref05_Weight.f (k + 1) a0 a1 a2 a3 a4) := by
 intro a0 a1 a2 a3 a4 k
 unfold smaltoref05_Weight.f
 repeat' (with_reducible first | exact smaltoref02_MulDiv.mono _ _ _ _ | exact smaltoref04_Lanczos.mono _ _ _ | exact smaltoref05_Keys.mono _ _ _ | exact zM | refine LeO.ite ?_ ?_ | refine LeO.bind ?_ (fun _ => ?_))
set_option maxHeartbeats 8000000 in
set_option maxRecDepth 100000 in
theorem smaltoref05_Weight.calls (k : Nat) (a0 : Int) (a1 : Int) (a2 : Int) (a3 : Int) (a4 : Int) (r : Int) (w : World) (h : smaltoref05_Weight.f k a0 a1 a2 a3 a4 = some r) :
  Calls Tryd.prog 49 #[.int .i64 a0, .int .i64 a1, .int .i64 a2, .int .i64 a3, .int .i64 a4] w fun e w' => e = .returned (.int .i64 r) ∧ Below w.heap.size w w' := by
 have HB := Aside0.mk (Below.refl w.heap.size w)
 have H : (if a0 = 0 then (if (wrap64 (a4 * a2)) > (wrap64 (a3 * a1)) then (if (wrap64 ((wrap64 (a4 + 1)) * a2)) < (wrap64 ((wrap64 (a3 + 1)) * a1)) then ((smaltoref02_MulDiv.f k (wrap64 ((wrap64 ((wrap64 (a4 + 1)) * a2)) - (wrap64 (a4 * a2)))) 1073741824 a1).bind fun t322 => (some t322)) else ((smaltoref02_MulDiv.f k (wrap64 ((wrap64 ((wrap64 (a3 + 1)) * a1)) - (wrap64 (a4 * a2)))) 1073741824 a1).bind fun t323 => (some t323))) else (if (wrap64 ((wrap64 (a4 + 1)) * a2)) < (wrap64 ((wrap64 (a3 + 1)) * a1)) then ((smaltoref02_MulDiv.f k (wrap64 ((wrap64 ((wrap64 (a4 + 1)) * a2)) - (wrap64 (a3 * a1)))) 1073741824 a1).bind fun t324 => (some t324)) else ((smaltoref02_MulDiv.f k (wrap64 ((wrap64 ((wrap64 (a3 + 1)) * a1)) - (wrap64 (a3 * a1)))) 1073741824 a1).bind fun t325 => (some t325)))) else ((smaltoref05_fraction.f a1 a2 a3 a4).bind fun bt326 => (if a0 = 1 then ((smaltoref05_Keys.f k bt326.1 bt326.2).bind fun t328 => (some t328)) else ((smaltoref04_Lanczos.f k bt326.1 bt326.2).bind fun t329 => (some t329))))) = some r := h
 clear h
 by_cases c6 : a0 = 0
 ·rw [if_pos c6] at H
  have c6b0 : (a0 == 0) = true := beq_iff_eq.mpr c6
  have c6b1 : (a0 != 0) = false := bne_eq_false_iff_eq.mpr c6
  clear c6
  by_cases c7 : (wrap64 (a4 * a2)) > (wrap64 (a3 * a1))
  ·rw [if_pos c7] at H
   have c7b0 : decide ((wrap64 (a3 * a1)) < (wrap64 (a4 * a2))) = true := decide_eq_true c7
   clear c7
   by_cases c8 : (wrap64 ((wrap64 (a4 + 1)) * a2)) < (wrap64 ((wrap64 (a3 + 1)) * a1))
   ·rw [if_pos c8] at H
    have c8b0 : decide ((wrap64 ((wrap64 (a4 + 1)) * a2)) < (wrap64 ((wrap64 (a3 + 1)) * a1))) = true := decide_eq_true c8
    clear c8
    replace H := Option.bind_eq_some_iff.mp H
    obtain ⟨t322, A90, H⟩ := H
    try dsimp only at H
    have A9 := Aside0.mk A90
    clear A90
    obtain rfl := Option.some.inj H
    go_enter Tryd.func49, Tryd.ntmps49
    go_wp2_with (first | ((with_reducible refine gate_callee (f := 68) rfl ?_); refine goesL_ (some 46) rfl rfl Tryd.func68 (by kernel_rfl) rfl #[.int .i64 (wrap64 ((wrap64 ((wrap64 (a4 + 1)) * a2)) - (wrap64 (a4 * a2)))), .int .i64 1073741824, .int .i64 a1] rfl zL ?_; (with_reducible refine (smaltoref02_MulDiv.calls k (wrap64 ((wrap64 ((wrap64 (a4 + 1)) * a2)) - (wrap64 (a4 * a2)))) 1073741824 a1 t322 _ A9.out).mono ?_); rintro e w10 ⟨rfl, hb⟩; refine ⟨_, rfl, ?_⟩; have n0_ := Aside0.mk (below_step zB hb); clear HB; have HB := n0_; clear n0_; (try clear hb); (try clear hb2); (try clear hk); (try clear hi)))
    go_ret
    exact ⟨zS, zB⟩
   ·rw [if_neg c8] at H
    have c8b0 : decide ((wrap64 ((wrap64 (a4 + 1)) * a2)) < (wrap64 ((wrap64 (a3 + 1)) * a1))) = false := decide_eq_false c8
    clear c8
    replace H := Option.bind_eq_some_iff.mp H
    obtain ⟨t323, A110, H⟩ := H
    try dsimp only at H
    have A11 := Aside0.mk A110
    clear A110
    obtain rfl := Option.some.inj H
    go_enter Tryd.func49, Tryd.ntmps49
    go_wp2_with (first | ((with_reducible refine gate_callee (f := 68) rfl ?_); refine goesL_ (some 46) rfl rfl Tryd.func68 (by kernel_rfl) rfl #[.int .i64 (wrap64 ((wrap64 ((wrap64 (a3 + 1)) * a1)) - (wrap64 (a4 * a2)))), .int .i64 1073741824, .int .i64 a1] rfl zL ?_; (with_reducible refine (smaltoref02_MulDiv.calls k (wrap64 ((wrap64 ((wrap64 (a3 + 1)) * a1)) - (wrap64 (a4 * a2)))) 1073741824 a1 t323 _ A11.out).mono ?_); rintro e w12 ⟨rfl, hb⟩; refine ⟨_, rfl, ?_⟩; have n0_ := Aside0.mk (below_step zB hb); clear HB; have HB := n0_; clear n0_; (try clear hb); (try clear hb2); (try clear hk); (try clear hi)))
    go_ret
    exact ⟨zS, zB⟩
  ·rw [if_neg c7] at H
   have c7b0 : decide ((wrap64 (a3 * a1)) < (wrap64 (a4 * a2))) = false := decide_eq_false c7
   clear c7
   by_cases c13 : (wrap64 ((wrap64 (a4 + 1)) * a2)) < (wrap64 ((wrap64 (a3 + 1)) * a1))
   ·rw [if_pos c13] at H
    have c13b0 : decide ((wrap64 ((wrap64 (a4 + 1)) * a2)) < (wrap64 ((wrap64 (a3 + 1)) * a1))) = true := decide_eq_true c13
    clear c13
    replace H := Option.bind_eq_some_iff.mp H
    obtain ⟨t324, A140, H⟩ := H
    try dsimp only at H
    have A14 := Aside0.mk A140
    clear A140
    obtain rfl := Option.some.inj H
    go_enter Tryd.func49, Tryd.ntmps49
    go_wp2_with (first | ((with_reducible refine gate_callee (f := 68) rfl ?_); refine goesL_ (some 46) rfl rfl Tryd.func68 (by kernel_rfl) rfl #[.int .i64 (wrap64 ((wrap64 ((wrap64 (a4 + 1)) * a2)) - (wrap64 (a3 * a1)))), .int .i64 1073741824, .int .i64 a1] rfl zL ?_; (with_reducible refine (smaltoref02_MulDiv.calls k (wrap64 ((wrap64 ((wrap64 (a4 + 1)) * a2)) - (wrap64 (a3 * a1)))) 1073741824 a1 t324 _ A14.out).mono ?_); rintro e w15 ⟨rfl, hb⟩; refine ⟨_, rfl, ?_⟩; have n0_ := Aside0.mk (below_step zB hb); clear HB; have HB := n0_; clear n0_; (try clear hb); (try clear hb2); (try clear hk); (try clear hi)))
    go_ret
    exact ⟨zS, zB⟩
   ·rw [if_neg c13] at H
    have c13b0 : decide ((wrap64 ((wrap64 (a4 + 1)) * a2)) < (wrap64 ((wrap64 (a3 + 1)) * a1))) = false := decide_eq_false c13
    clear c13
    replace H := Option.bind_eq_some_iff.mp H
    obtain ⟨t325, A160, H⟩ := H
    try dsimp only at H
    have A16 := Aside0.mk A160
    clear A160
    obtain rfl := Option.some.inj H
    go_enter Tryd.func49, Tryd.ntmps49
    go_wp2_with (first | ((with_reducible refine gate_callee (f := 68) rfl ?_); refine goesL_ (some 46) rfl rfl Tryd.func68 (by kernel_rfl) rfl #[.int .i64 (wrap64 ((wrap64 ((wrap64 (a3 + 1)) * a1)) - (wrap64 (a3 * a1)))), .int .i64 1073741824, .int .i64 a1] rfl zL ?_; (with_reducible refine (smaltoref02_MulDiv.calls k (wrap64 ((wrap64 ((wrap64 (a3 + 1)) * a1)) - (wrap64 (a3 * a1)))) 1073741824 a1 t325 _ A16.out).mono ?_); rintro e w17 ⟨rfl, hb⟩; refine ⟨_, rfl, ?_⟩; have n0_ := Aside0.mk (below_step zB hb); clear HB; have HB := n0_; clear n0_; (try clear hb); (try clear hb2); (try clear hk); (try clear hi)))
    go_ret
    exact ⟨zS, zB⟩
 ·rw [if_neg c6] at H
  have c6b0 : (a0 == 0) = false := beq_eq_false_iff_ne.mpr c6
  have c6b1 : (a0 != 0) = true := bne_iff_ne.mpr c6
  replace H := Option.bind_eq_some_iff.mp H
  obtain ⟨⟨t326, t327⟩, A180, H⟩ := H
  try dsimp only at H
  have A18 := Aside0.mk A180
  clear A180
  by_cases c19 : a0 = 1
  ·rw [if_pos c19] at H
   have c19b0 : (a0 == 1) = true := beq_iff_eq.mpr c19
   have c19b1 : (a0 != 1) = false := bne_eq_false_iff_eq.mpr c19
   clear c19
   replace H := Option.bind_eq_some_iff.mp H
   obtain ⟨t328, A200, H⟩ := H
   try dsimp only at H
   have A20 := Aside0.mk A200
   clear A200
   obtain rfl := Option.some.inj H
   go_enter Tryd.func49, Tryd.ntmps49
   go_wp2_with (first | ((with_reducible refine gate_callee (f := 67) rfl ?_); refine goesL_ (some 52) rfl rfl Tryd.func67 (by kernel_rfl) rfl #[.int .i64 a1, .int .i64 a2, .int .i64 a3, .int .i64 a4] rfl zL ?_; (with_reducible refine (smaltoref05_fraction.calls a1 a2 a3 a4 t326 t327 _ A18.out).mono ?_); rintro e w' ⟨rfl, ⟨nd, rfl⟩⟩; refine ⟨_, rfl, ?_⟩) | ((with_reducible refine gate_callee (f := 69) rfl ?_); refine goesL_ (some 59) rfl rfl Tryd.func69 (by kernel_rfl) rfl #[.int .i64 t326, .int .i64 t327] rfl zL ?_; (with_reducible refine (smaltoref05_Keys.calls k t326 t327 t328 _ A20.out).mono ?_); rintro e w21 ⟨rfl, hb⟩; refine ⟨_, rfl, ?_⟩; have n0_ := Aside0.mk (below_step zB hb); clear HB; have HB := n0_; clear n0_; (try clear hb); (try clear hb2); (try clear hk); (try clear hi)))
   go_ret
   exact ⟨zS, zB⟩
  ·rw [if_neg c19] at H
   have c19b0 : (a0 == 1) = false := beq_eq_false_iff_ne.mpr c19
   have c19b1 : (a0 != 1) = true := bne_iff_ne.mpr c19
   replace H := Option.bind_eq_some_iff.mp H
   obtain ⟨t329, A220, H⟩ := H
   try dsimp only at H
   have A22 := Aside0.mk A220
   clear A220
   obtain rfl := Option.some.inj H
   go_enter Tryd.func49, Tryd.ntmps49
   go_wp2_with (first | ((with_reducible refine gate_callee (f := 67) rfl ?_); refine goesL_ (some 52) rfl rfl Tryd.func67 (by kernel_rfl) rfl #[.int .i64 a1, .int .i64 a2, .int .i64 a3, .int .i64 a4] rfl zL ?_; (with_reducible refine (smaltoref05_fraction.calls a1 a2 a3 a4 t326 t327 _ A18.out).mono ?_); rintro e w' ⟨rfl, ⟨nd, rfl⟩⟩; refine ⟨_, rfl, ?_⟩) | ((with_reducible refine gate_callee (f := 70) rfl ?_); refine goesL_ (some 62) rfl rfl Tryd.func70 (by kernel_rfl) rfl #[.int .i64 t326, .int .i64 t327] rfl zL ?_; (with_reducible refine (smaltoref04_Lanczos.calls k t326 t327 t329 _ A22.out).mono ?_); rintro e w23 ⟨rfl, hb⟩; refine ⟨_, rfl, ?_⟩; have n0_ := Aside0.mk (below_step zB hb); clear HB; have HB := n0_; clear n0_; (try clear hb); (try clear hb2); (try clear hk); (try clear hi)))
   go_ret
   exact ⟨zS, zB⟩
end Go.Proofs.YthaajkpiknbdbaaDoor.QA

namespace Go.Proofs.YthaajkpiknbdbaaDoor.QA
open Go.Proofs.YthaajkpiknbdbaaDoor.T
open Go.RowKit Go.Proofs.YthaajkpiknbdbaaDoorW.PrintWords Go.Proofs.YthaajkpiknbdbaaDoorW.PrintLast Go.Proofs.YthaajkpiknbdbaaDoorW.PrintMore
attribute [local go_sem] ext_call max2_int min2_int max_two min_two max_three min_three max_four min_four   -- for this text's walks alone
set_option linter.unusedVariables false
set_option linter.unusedSimpArgs false
mutual
def smaltoref05_Row.l0 : Nat → Int → Int → Int → Int → Int → Option (Int × List Int)
 | 0, _, _, _, _, _ => none
 | k + 1, x0, x1, x2, x3, x10 => (smaltoref05_In.f x0 x1 x2 x3 (wrap64 (x10 - 1))).bind fun t331 => (if t331 = true then (smaltoref05_Row.l0 k x0 x1 x2 x3 (wrap64 (x10 - 1))) else (smaltoref05_Row.l1 k x0 x1 x2 x3 x10))
def smaltoref05_Row.l1 : Nat → Int → Int → Int → Int → Int → Option (Int × List Int)
 | 0, _, _, _, _, _ => none
 | k + 1, x0, x1, x2, x3, x10 => (smaltoref05_In.f x0 x1 x2 x3 x10).bind fun t332 => (if t332 = true then (smaltoref05_Row.l2 k x0 x1 x2 x3 x10 x10 ([] : List Int)) else (smaltoref05_Row.l1 k x0 x1 x2 x3 (wrap64 (x10 + 1))))
def smaltoref05_Row.l2 : Nat → Int → Int → Int → Int → Int → Int → List Int → Option (Int × List Int)
 | 0, _, _, _, _, _, _, _ => none
 | k + 1, x0, x1, x2, x3, x10, x11, x12 => (smaltoref05_In.f x0 x1 x2 x3 x10).bind fun t333 => (if t333 = true then ((smaltoref05_Weight.f k x0 x1 x2 x3 x10).bind fun t334 => (if x12.length < 17592186044416 then (smaltoref05_Row.l2 k x0 x1 x2 x3 (wrap64 (x10 + 1)) x11 (x12 ++ [t334])) else (none))) else (some (x11, x12)))
end
def smaltoref05_Row.f (k : Nat) (a0 : Int) (a1 : Int) (a2 : Int) (a3 : Int) : Option (Int × List Int) := (smaltoref05_May.f a0 a1 a2 a3).bind fun t330 => (if t330 = true then (if a2 = 0 then (none) else (smaltoref05_Row.l0 k a0 a1 a2 a3 (wrap64 (Int.tdiv (wrap64 (a3 * a1)) a2)))) else (some (0, ([] : List Int))))
theorem smaltoref05_Row.mono_l : ∀ k, (∀ y0 y1 y2 y3 y4, LeO (smaltoref05_Row.l0 k y0 y1 y2 y3 y4) (smaltoref05_Row.l0 (k + 1) y0 y1 y2 y3 y4)) ∧ (∀ y0 y1 y2 y3 y4, LeO (smaltoref05_Row.l1 k y0 y1 y2 y3 y4) (smaltoref05_Row.l1 (k + 1) y0 y1 y2 y3 y4)) ∧ (∀ y0 y1 y2 y3 y4 y5 y6, LeO (smaltoref05_Row.l2 k y0 y1 y2 y3 y4 y5 y6) (smaltoref05_Row.l2 (k + 1) y0 y1 y2 y3 y4 y5 y6))
 | 0 => ⟨fun _ _ _ _ _ r h => by simp [smaltoref05_Row.l0] at h, fun _ _ _ _ _ r h => by simp [smaltoref05_Row.l1] at h, fun _ _ _ _ _ _ _ r h => by simp [smaltoref05_Row.l2] at h⟩
 | k + 1 => by
  obtain ⟨ih0, ih1, ih2⟩ := smaltoref05_Row.mono_l k
  refine ⟨?_, ?_, ?_⟩
  ·intro y0 y1 y2 y3 y4
   unfold smaltoref05_Row.l0
   repeat' (with_reducible first | exact ih0 _ _ _ _ _ | exact ih1 _ _ _ _ _ | exact ih2 _ _ _ _ _ _ _ | exact smaltoref05_Weight.mono _ _ _ _ _ _ | exact zM | refine LeO.ite ?_ ?_ | refine LeO.bind ?_ (fun _ => ?_))
  ·intro y0 y1 y2 y3 y4
   unfold smaltoref05_Row.l1
   repeat' (with_reducible first | exact ih0 _ _ _ _ _ | exact ih1 _ _ _ _ _ | exact ih2 _ _ _ _ _ _ _ | exact smaltoref05_Weight.mono _ _ _ _ _ _ | exact zM | refine LeO.ite ?_ ?_ | refine LeO.bind ?_ (fun _ => ?_))
  ·intro y0 y1 y2 y3 y4 y5 y6
   unfold smaltoref05_Row.l2
   repeat' (with_reducible first | exact ih0 _ _ _ _ _ | exact ih1 _ _ _ _ _ | exact ih2 _ _ _ _ _ _ _ | exact smaltoref05_Weight.mono _ _ _ _ _ _ | exact zM | refine LeO.ite ?_ ?_ | refine LeO.bind ?_ (fun _ => ?_))
theorem smaltoref05_Row.mono : ∀ a0 a1 a2 a3 k, LeO (smaltoref05_Row.f k a0 a1 a2 a3) (smaltoref05_Row.f (k + 1) a0 a1 a2 a3) := by
 intro a0 a1 a2 a3 k
 obtain ⟨ih0, ih1, ih2⟩ := smaltoref05_Row.mono_l k
 unfold smaltoref05_Row.f
 repeat' (with_reducible first | exact ih0 _ _ _ _ _ | exact ih1 _ _ _ _ _ | exact ih2 _ _ _ _ _ _ _ | exact smaltoref05_Weight.mono _ _ _ _ _ _ | exact zM | refine LeO.ite ?_ ?_ | refine LeO.bind ?_ (fun _ => ?_))
set_option maxHeartbeats 8000000 in
set_option maxRecDepth 100000 in
theorem smaltoref05_Row.calls (k : Nat) (a0 : Int) (a1 : Int) (a2 : Int) (a3 : Int) (r1 : Int) (r2 : List Int) (w : World) (h : smaltoref05_Row.f k a0 a1 a2 a3 = some (r1, r2)) :
  Calls Tryd.prog 31 #[.int .i64 a0, .int .i64 a1, .int .i64 a2, .int .i64 a3] w fun e w' => ∃ v1_ : Value, e = .returned (.tuple #[.int .i64 r1, v1_]) ∧ Kd.R (Kd.int .i64) 2 w' w.heap.size (fun _ => True) v1_ r2 ∧ Below w.heap.size w w' := by
 have HB := Aside0.mk (Below.refl w.heap.size w)
 have H : ((smaltoref05_May.f a0 a1 a2 a3).bind fun t330 => (if t330 = true then (if a2 = 0 then (none) else (smaltoref05_Row.l0 k a0 a1 a2 a3 (wrap64 (Int.tdiv (wrap64 (a3 * a1)) a2)))) else (some (0, ([] : List Int))))) = some (r1, r2) := h
 clear h
 replace H := Option.bind_eq_some_iff.mp H
 obtain ⟨t330, A50, H⟩ := H
 try dsimp only at H
 have A5 := Aside0.mk A50
 clear A50
 by_cases c6 : t330 = true
 ·subst c6
  have H1 := H; rw [if_pos rfl] at H1; try dsimp only at H1
  clear H
  have H := H1
  clear H1
  by_cases c7 : a2 = 0
  ·rw [if_pos c7] at H
   exact absurd H (by simp)
  ·rw [if_neg c7] at H
   have c7b0 : (a2 == 0) = false := beq_eq_false_iff_ne.mpr c7
   have c7b1 : (a2 != 0) = true := bne_iff_ne.mpr c7
   have H' := Aside0.mk H
   clear H
   go_enter Tryd.func31, Tryd.ntmps31
   go_wp2_with (first | ((with_reducible refine gate_callee (f := 47) rfl ?_); refine goesL_ (some 17) rfl rfl Tryd.func47 (by kernel_rfl) rfl #[.int .i64 a0, .int .i64 a1, .int .i64 a2, .int .i64 a3] rfl zL ?_; (with_reducible refine (smaltoref05_May.calls a0 a1 a2 a3 true _ A5.out).mono ?_); rintro e w' ⟨rfl, ⟨nd, rfl⟩⟩; refine ⟨_, rfl, ?_⟩))
   go_loopg [10] k (fun kq v10 w' => ∃ (x10_1 : Int), v10 = .int .i64 x10_1 ∧ Aside0 (smaltoref05_Row.l0 kq a0 a1 a2 a3 x10_1 = some (r1, r2)) ∧ Aside0 (kq ≤ k) ∧ Aside0 (Below w.heap.size w w'))
   case atStart => exact ⟨(wrap64 (Int.tdiv (wrap64 (a3 * a1)) a2)), zT, H', ⟨Nat.le_refl _⟩, ⟨zB⟩⟩
   case round =>
    clear H'
    try clear p2
    try clear c3
    try clear c4
    try clear c6
    try clear p6
    try clear c7
    try clear c7b0
    try clear c7b1
    obtain ⟨x10_1, rfl, HA, HK1, HB⟩ := hrel
    cases gk with
    | zero => exact absurd HA.out (by simp [smaltoref05_Row.l0])
    | succ k1 =>
     have H := HA.out
     clear HA
     simp only [smaltoref05_Row.l0] at H
     replace H := Option.bind_eq_some_iff.mp H
     obtain ⟨t331, A80, H⟩ := H
     try dsimp only at H
     have A8 := Aside0.mk A80
     clear A80
     by_cases c9 : t331 = true
     ·subst c9
      have H1 := H; rw [if_pos rfl] at H1; try dsimp only at H1
      clear H
      have H := H1
      clear H1
      have H' := Aside0.mk H
      clear H
      go_wp2_with (first | ((with_reducible refine gate_callee (f := 48) rfl ?_); refine goesL_ (some 30) rfl rfl Tryd.func48 (by kernel_rfl) rfl #[.int .i64 a0, .int .i64 a1, .int .i64 a2, .int .i64 a3, .int .i64 (wrap64 (x10_1 - 1))] rfl zL ?_; (with_reducible refine (smaltoref05_In.calls a0 a1 a2 a3 (wrap64 (x10_1 - 1)) true _ A8.out).mono ?_); rintro e w' ⟨rfl, ⟨nd, rfl⟩⟩; refine ⟨_, rfl, ?_⟩))
      go_roundg k1
      case measure => have := HK1.out; omega
      case rel => exact ⟨(wrap64 (x10_1 - 1)), zT, H', ⟨by have := HK1.out; omega⟩, ⟨zB⟩⟩
     ·replace c9 := Bool.eq_false_iff.mpr c9
      subst c9
      have H1 := H; rw [if_neg (show ¬ (false = true) by decide)] at H1; try dsimp only at H1
      clear H
      have H := H1
      clear H1
      have H' := Aside0.mk H
      clear H
      go_wp2_with (first | ((with_reducible refine gate_callee (f := 48) rfl ?_); refine goesL_ (some 30) rfl rfl Tryd.func48 (by kernel_rfl) rfl #[.int .i64 a0, .int .i64 a1, .int .i64 a2, .int .i64 a3, .int .i64 (wrap64 (x10_1 - 1))] rfl zL ?_; (with_reducible refine (smaltoref05_In.calls a0 a1 a2 a3 (wrap64 (x10_1 - 1)) false _ A8.out).mono ?_); rintro e w' ⟨rfl, ⟨nd, rfl⟩⟩; refine ⟨_, rfl, ?_⟩))
      try simp only [Act.put, List.setIfInBounds_toArray, List.set_cons_succ, List.set_cons_zero]
      go_loopg [10] k1 (fun kq v10 w' => ∃ (x10_2 : Int), v10 = .int .i64 x10_2 ∧ Aside0 (smaltoref05_Row.l1 kq a0 a1 a2 a3 x10_2 = some (r1, r2)) ∧ Aside0 (kq ≤ k1) ∧ Aside0 (Below w.heap.size w w'))
      case atStart => exact ⟨(x10_1), zT, H', ⟨Nat.le_refl _⟩, ⟨zB⟩⟩
      case round =>
       clear H'
       try clear p2
       try clear c3
       try clear c4
       try clear c6
       try clear p6
       try clear c7
       try clear c7b0
       try clear c7b1
       try clear c9
       try clear p2
       try clear p6
       obtain ⟨x10_2, rfl, HA, HK2, HB⟩ := hrel
       cases gk with
       | zero => exact absurd HA.out (by simp [smaltoref05_Row.l1])
       | succ k2 =>
        have H := HA.out
        clear HA
        simp only [smaltoref05_Row.l1] at H
        replace H := Option.bind_eq_some_iff.mp H
        obtain ⟨t332, A100, H⟩ := H
        try dsimp only at H
        have A10 := Aside0.mk A100
        clear A100
        by_cases c11 : t332 = true
        ·subst c11
         have H1 := H; rw [if_pos rfl] at H1; try dsimp only at H1
         clear H
         have H := H1
         clear H1
         have H' := Aside0.mk H
         clear H
         go_wp2_with (first | ((with_reducible refine gate_callee (f := 48) rfl ?_); refine goesL_ (some 38) rfl rfl Tryd.func48 (by kernel_rfl) rfl #[.int .i64 a0, .int .i64 a1, .int .i64 a2, .int .i64 a3, .int .i64 x10_2] rfl zL ?_; (with_reducible refine (smaltoref05_In.calls a0 a1 a2 a3 x10_2 true _ A10.out).mono ?_); rintro e w' ⟨rfl, ⟨nd, rfl⟩⟩; refine ⟨_, rfl, ?_⟩))
         try simp only [Act.put, List.setIfInBounds_toArray, List.set_cons_succ, List.set_cons_zero]
         go_loopg [10, 12] k2 (fun kq v10 v12 w' => ∃ (x10_3 : Int) (x12_3 : List Int), v10 = .int .i64 x10_3 ∧ Aside0 (smaltoref05_Row.l2 kq a0 a1 a2 a3 x10_3 x10_2 x12_3 = some (r1, r2)) ∧ Aside0 (kq ≤ k2) ∧ Aside0 (Kd.R (Kd.int .i64) 2 w' w.heap.size (fun _ => True) v12 x12_3) ∧ Aside0 (Below w.heap.size w w'))
         case atStart => exact ⟨(x10_2), (([] : List Int)), zT, H', ⟨Nat.le_refl _⟩, ⟨by first | exact Kd.R_nil _ _ _ _ _ | exact Kd.N_nil _ _ _ _ _ | exact Kd.V_nil _ _ _ _ _ | exact Kd.Q_nil _ _ _ _ _ | exact Kd.S_nil _ _ _ _ _⟩, ⟨zB⟩⟩
         case round =>
          clear H'
          try clear c1
          try clear p2
          try clear c3
          try clear c4
          try clear c6
          try clear p6
          try clear c7
          try clear c7b0
          try clear c7b1
          try clear c9
          try clear c11
          try clear p2
          try clear p6
          obtain ⟨x10_3, x12_3, rfl, HA, HK3, HO_12, HB⟩ := hrel
          cases gk with
          | zero => exact absurd HA.out (by simp [smaltoref05_Row.l2])
          | succ k3 =>
           have H := HA.out
           clear HA
           simp only [smaltoref05_Row.l2] at H
           replace H := Option.bind_eq_some_iff.mp H
           obtain ⟨t333, A120, H⟩ := H
           try dsimp only at H
           have A12 := Aside0.mk A120
           clear A120
           by_cases c13 : t333 = true
           ·subst c13
            have H1 := H; rw [if_pos rfl] at H1; try dsimp only at H1
            clear H
            have H := H1
            clear H1
            replace H := Option.bind_eq_some_iff.mp H
            obtain ⟨t334, A140, H⟩ := H
            try dsimp only at H
            have A14 := Aside0.mk A140
            clear A140
            by_cases c15 : x12_3.length < 17592186044416
            ·rw [if_pos c15] at H
             have LMc15 := Aside0.mk c15
             clear c15
             obtain ⟨y335, hy335⟩ : ∃ y_ : List Int, y_ = (x12_3 ++ [t334]) := ⟨_, rfl⟩
             replace H : (smaltoref05_Row.l2 k3 a0 a1 a2 a3 (wrap64 (x10_3 + 1)) x10_2 y335) = some (r1, r2) := by first | (rw [hy335]; with_reducible exact H) | (have H2_ := (Option.bind_some _ _).symm.trans H; rw [hy335]; with_reducible exact H2_) | (have H2_ := (Option.bind_some _ _).symm.trans H; with_reducible exact H2_) | with_reducible exact H | (rw [hy335]; exact H) | exact H
             have Ny335 := Aside0.mk hy335
             clear hy335
             have H' := Aside0.mk H
             clear H
             go_wp2_with (first | ((with_reducible refine gate_callee (f := 48) rfl ?_); refine goesL_ (some 48) rfl rfl Tryd.func48 (by kernel_rfl) rfl #[.int .i64 a0, .int .i64 a1, .int .i64 a2, .int .i64 a3, .int .i64 x10_3] rfl zL ?_; (with_reducible refine (smaltoref05_In.calls a0 a1 a2 a3 x10_3 true _ A12.out).mono ?_); rintro e w' ⟨rfl, ⟨nd, rfl⟩⟩; refine ⟨_, rfl, ?_⟩) | ((with_reducible refine gate_callee (f := 49) rfl ?_); refine goesL_ (some 55) rfl rfl Tryd.func49 (by kernel_rfl) rfl #[.int .i64 a0, .int .i64 a1, .int .i64 a2, .int .i64 a3, .int .i64 x10_3] rfl zL ?_; (with_reducible refine (smaltoref05_Weight.calls k3 a0 a1 a2 a3 x10_3 t334 _ A14.out).mono ?_); rintro e w16 ⟨rfl, hb⟩; refine ⟨_, rfl, ?_⟩; have n0_ := Aside0.mk (Kd.R_below (by (with_reducible repeat (first | apply Kd.R_alloc | apply Kd.R_drewN | apply Kd.R_drew)); exact HO_12.out) hb); have n1_ := Aside0.mk (below_step zB hb); clear HO_12; clear HB; have HO_12 := n0_; have HB := n1_; clear n0_ n1_; (try clear hb); (try clear hb2); (try clear hk); (try clear hi)) | ((with_reducible refine gate_builtin (b := .append) (xs := #[.tmp 49, .tmp 56]) rfl ?_); at_builtin; refine Kd.R_append (Kd.int .i64) (w0 := w) w.heap.size rfl (.tmp 49) (.tmp 56) 29 2 (.int .i64 0) 8 rfl Tryd.underlying29 info2 rfl (by decide) (by omega) u12 x12_3 t334 [.int .i64 t334] (fun _ => True) (fun _ => False) rfl rfl ?aP (fun _ hk => hk.elim) ?aF ?aO ?aB ?aS ?aL ?_; (case aP => exact rfl); (case aB => exact zB); (case aF => exact (fun _ _ => trivial)); (case aO => exact (by (with_reducible repeat (first | apply Kd.R_alloc | apply Kd.R_drewN | apply Kd.R_drew)); exact HO_12.out)); (case aS => exact (below_size zB)); (case aL => have := LMc15.out; omega); intro v336 w17 ho hb hg hat; rw [← Ny335.out] at ho; have n0_ := Aside0.mk (hb); have n1_ := Aside0.mk (ho); clear HB; clear HO_12; have HB := n0_; have HO337 := n1_; clear n0_ n1_; clear ho hb hg hat))
             go_roundg k3
             case measure => have := HK1.out; have := HK2.out; have := HK3.out; omega
             case rel => exact ⟨(wrap64 (x10_3 + 1)), (y335), zT, H', ⟨by have := HK1.out; have := HK2.out; have := HK3.out; omega⟩, ⟨by (with_reducible repeat (first | apply Kd.R_alloc | apply Kd.R_drewN | apply Kd.R_drew)); exact HO337.out⟩, ⟨zB⟩⟩
            ·rw [if_neg c15] at H
             exact absurd H (by simp)
           ·replace c13 := Bool.eq_false_iff.mpr c13
            subst c13
            have H1 := H; rw [if_neg (show ¬ (false = true) by decide)] at H1; try dsimp only at H1
            clear H
            have H := H1
            clear H1
            simp only [Option.some.injEq, Prod.mk.injEq] at H
            obtain ⟨rfl, rfl⟩ := H
            go_wp2_with (first | ((with_reducible refine gate_callee (f := 48) rfl ?_); refine goesL_ (some 48) rfl rfl Tryd.func48 (by kernel_rfl) rfl #[.int .i64 a0, .int .i64 a1, .int .i64 a2, .int .i64 a3, .int .i64 x10_3] rfl zL ?_; (with_reducible refine (smaltoref05_In.calls a0 a1 a2 a3 x10_3 false _ A12.out).mono ?_); rintro e w' ⟨rfl, ⟨nd, rfl⟩⟩; refine ⟨_, rfl, ?_⟩))
            go_ret2
            exact ⟨_, zS, by (with_reducible repeat (first | apply Kd.R_alloc | apply Kd.R_drewN | apply Kd.R_drew)); exact HO_12.out, zB⟩
        ·replace c11 := Bool.eq_false_iff.mpr c11
         subst c11
         have H1 := H; rw [if_neg (show ¬ (false = true) by decide)] at H1; try dsimp only at H1
         clear H
         have H := H1
         clear H1
         have H' := Aside0.mk H
         clear H
         go_wp2_with (first | ((with_reducible refine gate_callee (f := 48) rfl ?_); refine goesL_ (some 38) rfl rfl Tryd.func48 (by kernel_rfl) rfl #[.int .i64 a0, .int .i64 a1, .int .i64 a2, .int .i64 a3, .int .i64 x10_2] rfl zL ?_; (with_reducible refine (smaltoref05_In.calls a0 a1 a2 a3 x10_2 false _ A10.out).mono ?_); rintro e w' ⟨rfl, ⟨nd, rfl⟩⟩; refine ⟨_, rfl, ?_⟩))
         go_roundg k2
         case measure => have := HK1.out; have := HK2.out; omega
         case rel => exact ⟨(wrap64 (x10_2 + 1)), zT, H', ⟨by have := HK1.out; have := HK2.out; omega⟩, ⟨zB⟩⟩
 ·replace c6 := Bool.eq_false_iff.mpr c6
  subst c6
  have H1 := H; rw [if_neg (show ¬ (false = true) by decide)] at H1; try dsimp only at H1
  clear H
  have H := H1
  clear H1
  simp only [Option.some.injEq, Prod.mk.injEq] at H
  obtain ⟨rfl, rfl⟩ := H
  go_enter Tryd.func31, Tryd.ntmps31
  go_wp2_with (first | ((with_reducible refine gate_callee (f := 47) rfl ?_); refine goesL_ (some 17) rfl rfl Tryd.func47 (by kernel_rfl) rfl #[.int .i64 a0, .int .i64 a1, .int .i64 a2, .int .i64 a3] rfl zL ?_; (with_reducible refine (smaltoref05_May.calls a0 a1 a2 a3 false _ A5.out).mono ?_); rintro e w' ⟨rfl, ⟨nd, rfl⟩⟩; refine ⟨_, rfl, ?_⟩))
  go_ret2
  exact ⟨_, zS, by first | exact Kd.R_nil _ _ _ _ _ | exact Kd.N_nil _ _ _ _ _ | exact Kd.V_nil _ _ _ _ _ | exact Kd.Q_nil _ _ _ _ _ | exact Kd.S_nil _ _ _ _ _, zB⟩
def smaltoref06_Size.f (a0 : Int) : Option (Int) := if a0 ≥ 0 then (some a0) else (if a0 < (-9223372036854775807) then (some 9223372036854775807) else (some (wrap64 (-a0))))
set_option maxHeartbeats 8000000 in
set_option maxRecDepth 100000 in
theorem smaltoref06_Size.calls (a0 : Int) (r : Int) (w : World) (h : smaltoref06_Size.f a0 = some r) :
  Calls Tryd.prog 50 #[.int .i64 a0] w fun e w' => e = .returned (.int .i64 r) ∧ Drawn0 w w' := by
 have H : (if a0 ≥ 0 then (some a0) else (if a0 < (-9223372036854775807) then (some 9223372036854775807) else (some (wrap64 (-a0))))) = some r := h
 clear h
 by_cases c2 : a0 ≥ 0
 ·rw [if_pos c2] at H
  have c2b0 : decide (0 ≤ a0) = true := decide_eq_true c2
  clear c2
  obtain rfl := Option.some.inj H
  go_enter Tryd.func50, Tryd.ntmps50
  go_wp2
  go_ret
  exact ⟨zT, zW⟩
 ·rw [if_neg c2] at H
  have c2b0 : decide (0 ≤ a0) = false := decide_eq_false c2
  clear c2
  by_cases c3 : a0 < (-9223372036854775807)
  ·rw [if_pos c3] at H
   have c3b0 : decide (a0 < (-9223372036854775807)) = true := decide_eq_true c3
   clear c3
   obtain rfl := Option.some.inj H
   go_enter Tryd.func50, Tryd.ntmps50
   go_wp2
   go_ret
   exact ⟨zT, zW⟩
  ·rw [if_neg c3] at H
   have c3b0 : decide (a0 < (-9223372036854775807)) = false := decide_eq_false c3
   clear c3
   obtain rfl := Option.some.inj H
   go_enter Tryd.func50, Tryd.ntmps50
   go_wp2
   go_ret
   exact ⟨zT, zW⟩
end Go.Proofs.YthaajkpiknbdbaaDoor.QA
