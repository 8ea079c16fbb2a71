-- Written by wip/tools/pp.py over the kit's print.py; not trusted: Lean checks it.
import Derived.Test.YtabojpnelbmifaaQMx0
import Derived.Test.YtabojpnelbmifaaQMx9
namespace Go.Proofs.Ytabojpnelbmifaa.QM
open Go.Proofs.Ytabojpnelbmifaa.T
open Go.RowKit Go.Proofs.YtabojpnelbmifaaW.PrintWords Go.Proofs.YtabojpnelbmifaaW.PrintLast Go.Proofs.YtabojpnelbmifaaW.PrintMore
attribute [local go_sem] ext_call max2_int min2_int max_two min_two max_three min_three max_four min_four   -- for this text's walks alone
set_option linter.unusedVariables false
set_option linter.unusedSimpArgs false

/-! ### smaltoref01_Shift: function 60 -/
mutual
def smaltoref01_Shift.l0 : Nat → Int → Int → Int → Int → Int → Int → Option (Int)
 | 0, _, _, _, _, _, _ => none
 | k + 1, x0, x1, x20, x21, x171000, x171001 => if x21 < x20 then ((smaltoref01_Twice.f x171000 x171001 0).bind fun bt171 => (smaltoref01_Shift.l0 k x0 x1 x20 (wrap64 (x21 + 1)) bt171.1 bt171.2)) else ((smaltoref01_Size.f x0).bind fun t173 => (smaltoref01_Shift.l1 k x0 x1 127 x171000 x171001 0 t173 0 0))
def smaltoref01_Shift.l1 : Nat → Int → Int → Int → Int → Int → Int → Int → Int → Int → Option (Int)
 | 0, _, _, _, _, _, _, _, _, _ => none
 | k + 1, x0, x1, x8, x171000, x171001, x175000, x175001, x176000, x176001 => if x8 ≥ x1 then ((smaltoref01_Bit.f x175000 x175001 x8).bind fun t176 => ((smaltoref01_Twice.f x176000 x176001 t176).bind fun bt177 => (smaltoref01_Shift.l1 k x0 x1 (wrap64 (x8 - 1)) x171000 x171001 x175000 x175001 bt177.1 bt177.2))) else (smaltoref01_Shift.l2 k x0 x1 x171000 x171001 x175000 x175001 x176000 x176001 x175000 x175001)
def smaltoref01_Shift.l2 : Nat → Int → Int → Int → Int → Int → Int → Int → Int → Int → Int → Option (Int)
 | 0, _, _, _, _, _, _, _, _, _, _ => none
 | k + 1, x0, x10, x171000, x171001, x175000, x175001, x176000, x176001, x180000, x180001 => if x10 < 128 then ((smaltoref01_Bit.f x175000 x175001 x10).bind fun t180 => (if t180 = 1 then (smaltoref01_Shift.l3 k x0 x10 x10 0 x171000 x171001 x175000 x175001 x176000 x176001 x180000 x180001 0 1) else (smaltoref01_Shift.l2 k x0 (wrap64 (x10 + 1)) x171000 x171001 x175000 x175001 x176000 x176001 x180000 x180001))) else ((smaltoref01_Less.f x180000 x180001 x171000 x171001).bind fun t186 => (if x0 < 0 then ((smaltoref01_Less.f x171000 x171001 x180000 x180001).bind fun t187 => (smaltoref01_Shift.j4 k x0 t187 x176000 x176001)) else (smaltoref01_Shift.j4 k x0 (!t186) x176000 x176001)))
def smaltoref01_Shift.l3 : Nat → Int → Int → Int → Int → Int → Int → Int → Int → Int → Int → Int → Int → Int → Int → Option (Int)
 | 0, _, _, _, _, _, _, _, _, _, _, _, _, _, _ => none
 | k + 1, x0, x10, x51, x52, x171000, x171001, x175000, x175001, x176000, x176001, x180000, x180001, x182000, x182001 => if x52 < x51 then ((smaltoref01_Twice.f x182000 x182001 0).bind fun bt182 => (smaltoref01_Shift.l3 k x0 x10 x51 (wrap64 (x52 + 1)) x171000 x171001 x175000 x175001 x176000 x176001 x180000 x180001 bt182.1 bt182.2)) else ((smaltoref01_Minus.f x180000 x180001 x182000 x182001).bind fun bt184 => (smaltoref01_Shift.l2 k x0 (wrap64 (x10 + 1)) x171000 x171001 x175000 x175001 x176000 x176001 bt184.1 bt184.2))
def smaltoref01_Shift.j4 : Nat → Int → Bool → Int → Int → Option (Int)
 | 0, _, _, _, _ => none
 | k + 1, x0, x12, x176000, x176001 => if x12 = true then ((smaltoref01_Plus.f x176000 x176001 0 1).bind fun bt188 => ((smaltoref01_Hold.f k bt188.1 bt188.2 (decide (x0 < 0))).bind fun t190 => (some t190))) else ((smaltoref01_Hold.f k x176000 x176001 (decide (x0 < 0))).bind fun t191 => (some t191))
end
def smaltoref01_Shift.f (k : Nat) (a0 : Int) (a1 : Int) : Option (Int) := if a1 < 1 then (some a0) else (if a1 > 64 then (some 0) else (smaltoref01_Shift.l0 k a0 a1 (wrap64 (a1 - 1)) 0 0 1))
theorem smaltoref01_Shift.mono_l : ∀ k, (∀ y0 y1 y2 y3 y4 y5, LeO (smaltoref01_Shift.l0 k y0 y1 y2 y3 y4 y5) (smaltoref01_Shift.l0 (k + 1) y0 y1 y2 y3 y4 y5)) ∧ (∀ y0 y1 y2 y3 y4 y5 y6 y7 y8, LeO (smaltoref01_Shift.l1 k y0 y1 y2 y3 y4 y5 y6 y7 y8) (smaltoref01_Shift.l1 (k + 1) y0 y1 y2 y3 y4 y5 y6 y7 y8)) ∧ (∀ y0 y1 y2 y3 y4 y5 y6 y7 y8 y9, LeO (smaltoref01_Shift.l2 k y0 y1 y2 y3 y4 y5 y6 y7 y8 y9) (smaltoref01_Shift.l2 (k + 1) y0 y1 y2 y3 y4 y5 y6 y7 y8 y9)) ∧ (∀ y0 y1 y2 y3 y4 y5 y6 y7 y8 y9 y10 y11 y12 y13, LeO (smaltoref01_Shift.l3 k y0 y1 y2 y3 y4 y5 y6 y7 y8 y9 y10 y11 y12 y13) (smaltoref01_Shift.l3 (k + 1) y0 y1 y2 y3 y4 y5 y6 y7 y8 y9 y10 y11 y12 y13)) ∧ (∀ y0 y1 y2 y3, LeO (smaltoref01_Shift.j4 k y0 y1 y2 y3) (smaltoref01_Shift.j4 (k + 1) y0 y1 y2 y3))
 | 0 => ⟨fun _ _ _ _ _ _ r h => by simp [smaltoref01_Shift.l0] at h, fun _ _ _ _ _ _ _ _ _ r h => by simp [smaltoref01_Shift.l1] at h, fun _ _ _ _ _ _ _ _ _ _ r h => by simp [smaltoref01_Shift.l2] at h, fun _ _ _ _ _ _ _ _ _ _ _ _ _ _ r h => by simp [smaltoref01_Shift.l3] at h, fun _ _ _ _ r h => by simp [smaltoref01_Shift.j4] at h⟩
 | k + 1 => by
  obtain ⟨ih0, ih1, ih2, ih3, ih4⟩ := smaltoref01_Shift.mono_l k
  refine ⟨?_, ?_, ?_, ?_, ?_⟩
  ·intro y0 y1 y2 y3 y4 y5
   unfold smaltoref01_Shift.l0
   repeat' first
   | (with_reducible exact ih0 _ _ _ _ _ _)
   | (with_reducible exact ih1 _ _ _ _ _ _ _ _ _)
   | (with_reducible exact ih2 _ _ _ _ _ _ _ _ _ _)
   | (with_reducible exact ih3 _ _ _ _ _ _ _ _ _ _ _ _ _ _)
   | (with_reducible exact ih4 _ _ _ _)
   | (with_reducible exact smaltoref01_Hold.mono _ _ _ _)
   | (with_reducible exact LeO.refl _)
   | (with_reducible exact LeO.none _)
   | (with_reducible refine LeO.ite ?_ ?_)
   | (with_reducible refine LeO.bind ?_ (fun _ => ?_))
   | exact ih0 _ _ _ _ _ _
   | exact ih1 _ _ _ _ _ _ _ _ _
   | exact ih2 _ _ _ _ _ _ _ _ _ _
   | exact ih3 _ _ _ _ _ _ _ _ _ _ _ _ _ _
   | exact ih4 _ _ _ _
   | exact smaltoref01_Hold.mono _ _ _ _
   | exact LeO.none _
   | refine LeO.ite ?_ ?_
   | refine LeO.bind ?_ (fun _ => ?_)
  ·intro y0 y1 y2 y3 y4 y5 y6 y7 y8
   unfold smaltoref01_Shift.l1
   repeat' first
   | (with_reducible exact ih0 _ _ _ _ _ _)
   | (with_reducible exact ih1 _ _ _ _ _ _ _ _ _)
   | (with_reducible exact ih2 _ _ _ _ _ _ _ _ _ _)
   | (with_reducible exact ih3 _ _ _ _ _ _ _ _ _ _ _ _ _ _)
   | (with_reducible exact ih4 _ _ _ _)
   | (with_reducible exact smaltoref01_Hold.mono _ _ _ _)
   | (with_reducible exact LeO.refl _)
   | (with_reducible exact LeO.none _)
   | (with_reducible refine LeO.ite ?_ ?_)
   | (with_reducible refine LeO.bind ?_ (fun _ => ?_))
   | exact ih0 _ _ _ _ _ _
   | exact ih1 _ _ _ _ _ _ _ _ _
   | exact ih2 _ _ _ _ _ _ _ _ _ _
   | exact ih3 _ _ _ _ _ _ _ _ _ _ _ _ _ _
   | exact ih4 _ _ _ _
   | exact smaltoref01_Hold.mono _ _ _ _
   | exact LeO.none _
   | refine LeO.ite ?_ ?_
   | refine LeO.bind ?_ (fun _ => ?_)
  ·intro y0 y1 y2 y3 y4 y5 y6 y7 y8 y9
   unfold smaltoref01_Shift.l2
   repeat' first
   | (with_reducible exact ih0 _ _ _ _ _ _)
   | (with_reducible exact ih1 _ _ _ _ _ _ _ _ _)
   | (with_reducible exact ih2 _ _ _ _ _ _ _ _ _ _)
   | (with_reducible exact ih3 _ _ _ _ _ _ _ _ _ _ _ _ _ _)
   | (with_reducible exact ih4 _ _ _ _)
   | (with_reducible exact smaltoref01_Hold.mono _ _ _ _)
   | (with_reducible exact LeO.refl _)
   | (with_reducible exact LeO.none _)
   | (with_reducible refine LeO.ite ?_ ?_)
   | (with_reducible refine LeO.bind ?_ (fun _ => ?_))
   | exact ih0 _ _ _ _ _ _
   | exact ih1 _ _ _ _ _ _ _ _ _
   | exact ih2 _ _ _ _ _ _ _ _ _ _
   | exact ih3 _ _ _ _ _ _ _ _ _ _ _ _ _ _
   | exact ih4 _ _ _ _
   | exact smaltoref01_Hold.mono _ _ _ _
   | exact LeO.none _
   | refine LeO.ite ?_ ?_
   | refine LeO.bind ?_ (fun _ => ?_)
  ·intro y0 y1 y2 y3 y4 y5 y6 y7 y8 y9 y10 y11 y12 y13
   unfold smaltoref01_Shift.l3
   repeat' first
   | (with_reducible exact ih0 _ _ _ _ _ _)
   | (with_reducible exact ih1 _ _ _ _ _ _ _ _ _)
   | (with_reducible exact ih2 _ _ _ _ _ _ _ _ _ _)
   | (with_reducible exact ih3 _ _ _ _ _ _ _ _ _ _ _ _ _ _)
   | (with_reducible exact ih4 _ _ _ _)
   | (with_reducible exact smaltoref01_Hold.mono _ _ _ _)
   | (with_reducible exact LeO.refl _)
   | (with_reducible exact LeO.none _)
   | (with_reducible refine LeO.ite ?_ ?_)
   | (with_reducible refine LeO.bind ?_ (fun _ => ?_))
   | exact ih0 _ _ _ _ _ _
   | exact ih1 _ _ _ _ _ _ _ _ _
   | exact ih2 _ _ _ _ _ _ _ _ _ _
   | exact ih3 _ _ _ _ _ _ _ _ _ _ _ _ _ _
   | exact ih4 _ _ _ _
   | exact smaltoref01_Hold.mono _ _ _ _
   | exact LeO.none _
   | refine LeO.ite ?_ ?_
   | refine LeO.bind ?_ (fun _ => ?_)
  ·intro y0 y1 y2 y3
   unfold smaltoref01_Shift.j4
   repeat' first
   | (with_reducible exact ih0 _ _ _ _ _ _)
   | (with_reducible exact ih1 _ _ _ _ _ _ _ _ _)
   | (with_reducible exact ih2 _ _ _ _ _ _ _ _ _ _)
   | (with_reducible exact ih3 _ _ _ _ _ _ _ _ _ _ _ _ _ _)
   | (with_reducible exact ih4 _ _ _ _)
   | (with_reducible exact smaltoref01_Hold.mono _ _ _ _)
   | (with_reducible exact LeO.refl _)
   | (with_reducible exact LeO.none _)
   | (with_reducible refine LeO.ite ?_ ?_)
   | (with_reducible refine LeO.bind ?_ (fun _ => ?_))
   | exact ih0 _ _ _ _ _ _
   | exact ih1 _ _ _ _ _ _ _ _ _
   | exact ih2 _ _ _ _ _ _ _ _ _ _
   | exact ih3 _ _ _ _ _ _ _ _ _ _ _ _ _ _
   | exact ih4 _ _ _ _
   | exact smaltoref01_Hold.mono _ _ _ _
   | exact LeO.none _
   | refine LeO.ite ?_ ?_
   | refine LeO.bind ?_ (fun _ => ?_)
theorem smaltoref01_Shift.mono : ∀ a0 a1 k, LeO (smaltoref01_Shift.f k a0 a1) (smaltoref01_Shift.f (k + 1) a0 a1) := by
 intro a0 a1 k
 obtain ⟨ih0, ih1, ih2, ih3, ih4⟩ := smaltoref01_Shift.mono_l k
 unfold smaltoref01_Shift.f
 repeat' first
   | (with_reducible exact ih0 _ _ _ _ _ _)
   | (with_reducible exact ih1 _ _ _ _ _ _ _ _ _)
   | (with_reducible exact ih2 _ _ _ _ _ _ _ _ _ _)
   | (with_reducible exact ih3 _ _ _ _ _ _ _ _ _ _ _ _ _ _)
   | (with_reducible exact ih4 _ _ _ _)
   | (with_reducible exact smaltoref01_Hold.mono _ _ _ _)
   | (with_reducible exact LeO.refl _)
   | (with_reducible exact LeO.none _)
   | (with_reducible refine LeO.ite ?_ ?_)
   | (with_reducible refine LeO.bind ?_ (fun _ => ?_))
   | exact ih0 _ _ _ _ _ _
   | exact ih1 _ _ _ _ _ _ _ _ _
   | exact ih2 _ _ _ _ _ _ _ _ _ _
   | exact ih3 _ _ _ _ _ _ _ _ _ _ _ _ _ _
   | exact ih4 _ _ _ _
   | exact smaltoref01_Hold.mono _ _ _ _
   | exact LeO.none _
   | refine LeO.ite ?_ ?_
   | refine LeO.bind ?_ (fun _ => ?_)
set_option maxHeartbeats 8000000 in
set_option maxRecDepth 100000 in
theorem smaltoref01_Shift.calls (k : Nat) (a0 : Int) (a1 : Int) (r : Int) (w : World) (h : smaltoref01_Shift.f k a0 a1 = some r) :
  Calls Try.prog 60 #[.int .i64 a0, .int .i64 a1] w fun e w' => e = .returned (.int .i64 r) ∧ Below w.heap.size w w' := by
 have hu57 := Try.underlying57
 have HB := Aside0.mk (Below.refl w.heap.size w)
 have H : (if a1 < 1 then (some a0) else (if a1 > 64 then (some 0) else (smaltoref01_Shift.l0 k a0 a1 (wrap64 (a1 - 1)) 0 0 1))) = some r := h
 clear h
 by_cases c3 : a1 < 1
 ·rw [if_pos c3] at H
  have c3b0 : decide (a1 < 1) = true := decide_eq_true c3
  clear c3
  obtain rfl := Option.some.inj H
  go_enter Try.func60, Try.ntmps60
  go_wp2
  go_ret
  exact ⟨by first | rfl | (simp [errW_none, errW_some] <;> rfl) | (simp [*, errW_none, errW_some] <;> rfl), by repeat (first | (with_reducible first | exact HB.out | apply below_alloc | apply pw_below_drewN | apply below_drew1) | exact HB.out)⟩
 ·rw [if_neg c3] at H
  have c3b0 : decide (a1 < 1) = false := decide_eq_false c3
  clear c3
  by_cases c4 : a1 > 64
  ·rw [if_pos c4] at H
   have c4b0 : decide (64 < a1) = true := decide_eq_true c4
   clear c4
   obtain rfl := Option.some.inj H
   go_enter Try.func60, Try.ntmps60
   go_wp2
   go_ret
   exact ⟨by first | rfl | (simp [errW_none, errW_some] <;> rfl) | (simp [*, errW_none, errW_some] <;> rfl), by repeat (first | (with_reducible first | exact HB.out | apply below_alloc | apply pw_below_drewN | apply below_drew1) | exact HB.out)⟩
  ·rw [if_neg c4] at H
   have c4b0 : decide (64 < a1) = false := decide_eq_false c4
   clear c4
   have H' := Aside0.mk H
   clear H
   go_enter Try.func60, Try.ntmps60
   go_wp2_with (first | ((with_reducible refine gate_dst (N := 5) rfl ?_); refine box_event ?hg (N := 5) ?hd (cs := #[.int .u64 0, .int .u64 0]) (t := 57) ?hr ?_; (case hd => rfl); (case hg => rfl); (case hr => first | (go_simp; done) | (go_simp; rfl)); intro gb170 hg w5 hbox hb; have n0_ := Aside0.mk (below_step (by repeat (first | (with_reducible first | exact HB.out | apply below_alloc | apply pw_below_drewN | apply below_drew1) | exact HB.out)) hb); have n1_ := Aside0.mk (hbox); have n2_ := Aside0.mk ((by rw [hg]; exact (below_size (by repeat (first | (with_reducible first | exact HB.out | apply below_alloc | apply pw_below_drewN | apply below_drew1) | exact HB.out))) : w.heap.size ≤ gb170)); have n3_ := Aside0.mk ((by rw [hg]; exact (below_size (by repeat (first | (with_reducible first | exact HB.out | apply below_alloc | apply pw_below_drewN | apply below_drew1) | exact HB.out))) : w.heap.size ≤ gb170)); clear HB; have HB := n0_; have BK170 := n1_; have GW170 := n2_; have GE170 := n3_; clear n0_ n1_ n2_ n3_; clear hb hbox hg; have hcz6_0 : w5.cell? ⟨gb170, 0, none⟩ = some (.int .u64 0) := (blk_cell BK170.out 0).trans rfl; have hcz6_1 : w5.cell? ⟨gb170, 1, none⟩ = some (.int .u64 0) := (blk_cell BK170.out 1).trans rfl; have hfz6_0 := blk_frozen BK170.out 0; have hfz6_1 := blk_frozen BK170.out 1))
   go_loopg [21] k (fun kq v21 w' => ∃ (x21_1 : Int) (x171000_1 : Int) (x171001_1 : Int), v21 = .int .i64 x21_1 ∧ Aside0 (smaltoref01_Shift.l0 kq a0 a1 (wrap64 (a1 - 1)) x21_1 x171000_1 x171001_1 = some r) ∧ Aside0 (kq ≤ k) ∧ Aside0 (w'.heap[gb170]? = some (.cells #[.int .u64 x171000_1, .int .u64 x171001_1] 57 (0, 0))) ∧ Aside0 (Below w.heap.size w w'))
   case atStart => exact ⟨(0), (0), (1), (by first | rfl | (simp; done) | (simp [*]; done)), H', ⟨Nat.le_refl _⟩, ⟨by (with_reducible repeat (first | refine blk_drewN ?_ _ | refine blk_drew ?_ | refine blk_alloc ?_ _)); refine blk_put (cs := #[.int .u64 0, .int .u64 0]) ?_ 1 _ rfl; (with_reducible repeat (first | refine blk_drewN ?_ _ | refine blk_drew ?_ | refine blk_alloc ?_ _)); refine blk_put (cs := #[.int .u64 0, .int .u64 0]) ?_ 0 _ rfl; (with_reducible repeat (first | refine blk_drewN ?_ _ | refine blk_drew ?_ | refine blk_alloc ?_ _)); exact BK170.out⟩, ⟨by repeat (first | (with_reducible first | exact HB.out | apply below_alloc | apply pw_below_drewN | apply below_drew1 | refine below_set ?_ GE170.out) | exact HB.out)⟩⟩
   case round =>
    clear H'
    try clear p2
    try clear c3
    try clear c3b0
    try clear c4
    try clear c4b0
    try clear c6
    try clear p6
    try clear hcz6_0
    try clear hcz6_1
    try clear hfz6_0
    try clear hfz6_1
    obtain ⟨x21_1, x171000_1, x171001_1, rfl, HA, HK1, BK170, HB⟩ := hrel
    cases gk with
    | zero => exact absurd HA.out (by simp [smaltoref01_Shift.l0])
    | succ k1 =>
     have H := HA.out
     clear HA
     simp only [smaltoref01_Shift.l0] at H
     by_cases c7 : x21_1 < (wrap64 (a1 - 1))
     ·rw [if_pos c7] at H
      have c7b0 : decide (x21_1 < (wrap64 (a1 - 1))) = true := decide_eq_true c7
      clear c7
      replace H := Option.bind_eq_some_iff.mp H
      obtain ⟨⟨t171, t172⟩, A80, H⟩ := H
      replace H : (smaltoref01_Shift.l0 k1 a0 a1 (wrap64 (a1 - 1)) (wrap64 (x21_1 + 1)) t171 t172) = some r := H
      have A8 := Aside0.mk A80
      clear A80
      have H' := Aside0.mk H
      clear H
      have hcz9_0 : wr.cell? ⟨gb170, 0, none⟩ = some (.int .u64 x171000_1) := (blk_cell BK170.out 0).trans rfl
      have hcz9_1 : wr.cell? ⟨gb170, 1, none⟩ = some (.int .u64 x171001_1) := (blk_cell BK170.out 1).trans rfl
      have hfz9_0 := blk_frozen BK170.out 0
      have hfz9_1 := blk_frozen BK170.out 1
      go_wp2_with (first | ((with_reducible refine gate_callee (f := 67) rfl ?_); refine goesL_ (some 24) rfl rfl Try.func67 (by kernel_rfl) rfl #[.agg #[.int .u64 x171000_1, .int .u64 x171001_1], .int .u64 0] rfl (by (try simp only [List.map_toArray, List.map_cons, List.map_nil]); first | done | rfl | (simp only [List.length_drop, List.length_take]; rfl)) ?_; (with_reducible refine (smaltoref01_Twice.calls x171000_1 x171001_1 0 t171 t172 _ A8.out).mono ?_); rintro e w10 ⟨rfl, hb⟩; refine ⟨_, rfl, ?_⟩; have n0_ := Aside0.mk (blk_below (g := gb170) (o := .cells #[.int .u64 x171000_1, .int .u64 x171001_1] 57 (0, 0)) (by (with_reducible repeat (first | refine blk_drewN ?_ _ | refine blk_drew ?_ | refine blk_alloc ?_ _)); exact BK170.out) hb); have n1_ := Aside0.mk (below_step (by repeat (first | (with_reducible first | exact HB.out | apply below_alloc | apply pw_below_drewN | apply below_drew1 | refine below_set ?_ GE170.out) | exact HB.out)) hb); clear BK170; clear HB; have BK170 := n0_; have HB := n1_; clear n0_ n1_; (try clear hb); (try clear hb2); (try clear hk); (try clear hi); have hcz11_0 : w10.cell? ⟨gb170, 0, none⟩ = some (.int .u64 x171000_1) := (blk_cell BK170.out 0).trans rfl; have hcz11_1 : w10.cell? ⟨gb170, 1, none⟩ = some (.int .u64 x171001_1) := (blk_cell BK170.out 1).trans rfl; have hfz11_0 := blk_frozen BK170.out 0; have hfz11_1 := blk_frozen BK170.out 1))
      go_roundg k1
      case measure => have := HK1.out; omega
      case rel => exact ⟨(wrap64 (x21_1 + 1)), (t171), (t172), (by first | rfl | (simp; done) | (simp [*]; done)), H', ⟨by have := HK1.out; omega⟩, ⟨by (with_reducible repeat (first | refine blk_drewN ?_ _ | refine blk_drew ?_ | refine blk_alloc ?_ _)); refine blk_put (cs := #[.int .u64 t171, .int .u64 x171001_1]) ?_ 1 _ rfl; (with_reducible repeat (first | refine blk_drewN ?_ _ | refine blk_drew ?_ | refine blk_alloc ?_ _)); refine blk_put (cs := #[.int .u64 x171000_1, .int .u64 x171001_1]) ?_ 0 _ rfl; (with_reducible repeat (first | refine blk_drewN ?_ _ | refine blk_drew ?_ | refine blk_alloc ?_ _)); exact BK170.out⟩, ⟨by repeat (first | (with_reducible first | exact HB.out | apply below_alloc | apply pw_below_drewN | apply below_drew1 | refine below_set ?_ GE170.out) | exact HB.out)⟩⟩
     ·rw [if_neg c7] at H
      have c7b0 : decide (x21_1 < (wrap64 (a1 - 1))) = false := decide_eq_false c7
      clear c7
      replace H := Option.bind_eq_some_iff.mp H
      obtain ⟨t173, A120, H⟩ := H
      replace H : (smaltoref01_Shift.l1 k1 a0 a1 127 x171000_1 x171001_1 0 t173 0 0) = some r := H
      have A12 := Aside0.mk A120
      clear A120
      have H' := Aside0.mk H
      clear H
      go_wp2_with (first | ((with_reducible refine gate_callee (f := 46) rfl ?_); refine goesL_ (some 27) rfl rfl Try.func46 (by kernel_rfl) rfl #[.int .i64 a0] rfl (by (try simp only [List.map_toArray, List.map_cons, List.map_nil]); first | done | rfl | (simp only [List.length_drop, List.length_take]; rfl)) ?_; (with_reducible refine (smaltoref01_Size.calls a0 t173 _ A12.out).mono ?_); rintro e w' ⟨rfl, ⟨nd, rfl⟩⟩; refine ⟨_, rfl, ?_⟩; (try (rw [drewN_self wr]; generalize hq_ : World.drewN wr _ = wr; have n0_ : Aside0 (wr.heap[gb170]? = some (.cells #[.int .u64 x171000_1, .int .u64 x171001_1] 57 (0, 0))) := ⟨by rw [← hq_]; exact (by (with_reducible repeat (first | refine blk_drewN ?_ _ | refine blk_drew ?_ | refine blk_alloc ?_ _)); exact BK170.out)⟩; have n1_ : Aside0 (Below w.heap.size w wr) := ⟨by rw [← hq_]; exact (by repeat (first | (with_reducible first | exact HB.out | apply below_alloc | apply pw_below_drewN | apply below_drew1 | refine below_set ?_ GE170.out) | exact HB.out))⟩; clear BK170 HB hq_; have BK170 := n0_; have HB := n1_; clear n0_ n1_))) | ((with_reducible refine gate_dst (N := 6) rfl ?_); refine box_event ?hg (N := 6) ?hd (cs := #[.int .u64 0, .int .u64 0]) (t := 57) ?hr ?_; (case hd => rfl); (case hg => rfl); (case hr => first | (go_simp; done) | (go_simp; rfl)); intro gb174 hg w13 hbox hb; have n0_ := Aside0.mk (blk_below (g := gb170) (o := .cells #[.int .u64 x171000_1, .int .u64 x171001_1] 57 (0, 0)) (by (with_reducible repeat (first | refine blk_drewN ?_ _ | refine blk_drew ?_ | refine blk_alloc ?_ _)); exact BK170.out) hb); have n1_ := Aside0.mk (below_step (by repeat (first | (with_reducible first | exact HB.out | apply below_alloc | apply pw_below_drewN | apply below_drew1 | refine below_set ?_ GE170.out) | exact HB.out)) hb); have n2_ := Aside0.mk (hbox); have n3_ := Aside0.mk ((by rw [hg]; exact (below_size (by repeat (first | (with_reducible first | exact HB.out | apply below_alloc | apply pw_below_drewN | apply below_drew1 | refine below_set ?_ GE170.out) | exact HB.out))) : w.heap.size ≤ gb174)); have n4_ := Aside0.mk ((by rw [hg]; exact (below_size (by repeat (first | (with_reducible first | exact HB.out | apply below_alloc | apply pw_below_drewN | apply below_drew1 | refine below_set ?_ GE170.out) | exact HB.out))) : w.heap.size ≤ gb174)); have n5_ := Aside0.mk ((by rw [hg]; exact Nat.ne_of_lt (blk_lt (g := gb170) (o := .cells #[.int .u64 x171000_1, .int .u64 x171001_1] 57 (0, 0)) (by (with_reducible repeat (first | refine blk_drewN ?_ _ | refine blk_drew ?_ | refine blk_alloc ?_ _)); exact BK170.out)) : gb170 ≠ gb174)); have n6_ := Aside0.mk ((by rw [hg]; exact Nat.ne_of_gt (blk_lt (g := gb170) (o := .cells #[.int .u64 x171000_1, .int .u64 x171001_1] 57 (0, 0)) (by (with_reducible repeat (first | refine blk_drewN ?_ _ | refine blk_drew ?_ | refine blk_alloc ?_ _)); exact BK170.out)) : gb174 ≠ gb170)); clear BK170; clear HB; have BK170 := n0_; have HB := n1_; have BK174 := n2_; have GW174 := n3_; have GE174 := n4_; have NB170_174 := n5_; have NB174_170 := n6_; clear n0_ n1_ n2_ n3_ n4_ n5_ n6_; clear hb hbox hg; have hnb14 := NB174_170.out; have hnc14 := NB170_174.out; have hcz15_0 : w13.cell? ⟨gb174, 0, none⟩ = some (.int .u64 0) := (blk_cell BK174.out 0).trans rfl; have hcz15_1 : w13.cell? ⟨gb174, 1, none⟩ = some (.int .u64 0) := (blk_cell BK174.out 1).trans rfl; have hfz15_0 := blk_frozen BK174.out 0; have hfz15_1 := blk_frozen BK174.out 1) | ((with_reducible refine gate_dst (N := 7) rfl ?_); refine box_event ?hg (N := 7) ?hd (cs := #[.int .u64 0, .int .u64 0]) (t := 57) ?hr ?_; (case hd => rfl); (case hg => rfl); (case hr => first | (go_simp; done) | (go_simp; rfl)); intro gb175 hg w16 hbox hb; have n0_ := Aside0.mk (blk_below (g := gb170) (o := .cells #[.int .u64 x171000_1, .int .u64 x171001_1] 57 (0, 0)) (by (with_reducible repeat (first | refine blk_drewN ?_ _ | refine blk_drew ?_ | refine blk_alloc ?_ _)); refine blk_far ?_ NB170_174.out _; (with_reducible repeat (first | refine blk_drewN ?_ _ | refine blk_drew ?_ | refine blk_alloc ?_ _)); refine blk_far ?_ NB170_174.out _; (with_reducible repeat (first | refine blk_drewN ?_ _ | refine blk_drew ?_ | refine blk_alloc ?_ _)); exact BK170.out) hb); have n1_ := Aside0.mk (blk_below (g := gb174) (o := .cells #[.int .u64 0, .int .u64 t173] 57 (0, 0)) (by (with_reducible repeat (first | refine blk_drewN ?_ _ | refine blk_drew ?_ | refine blk_alloc ?_ _)); refine blk_put (cs := #[.int .u64 0, .int .u64 0]) ?_ 1 _ rfl; (with_reducible repeat (first | refine blk_drewN ?_ _ | refine blk_drew ?_ | refine blk_alloc ?_ _)); refine blk_put (cs := #[.int .u64 0, .int .u64 0]) ?_ 0 _ rfl; (with_reducible repeat (first | refine blk_drewN ?_ _ | refine blk_drew ?_ | refine blk_alloc ?_ _)); exact BK174.out) hb); have n2_ := Aside0.mk (below_step (by repeat (first | (with_reducible first | exact HB.out | apply below_alloc | apply pw_below_drewN | apply below_drew1 | refine below_set ?_ GE170.out | refine below_set ?_ GE174.out) | exact HB.out)) hb); have n3_ := Aside0.mk (hbox); have n4_ := Aside0.mk ((by rw [hg]; exact (below_size (by repeat (first | (with_reducible first | exact HB.out | apply below_alloc | apply pw_below_drewN | apply below_drew1 | refine below_set ?_ GE170.out | refine below_set ?_ GE174.out) | exact HB.out))) : w.heap.size ≤ gb175)); have n5_ := Aside0.mk ((by rw [hg]; exact (below_size (by repeat (first | (with_reducible first | exact HB.out | apply below_alloc | apply pw_below_drewN | apply below_drew1 | refine below_set ?_ GE170.out | refine below_set ?_ GE174.out) | exact HB.out))) : w.heap.size ≤ gb175)); have n6_ := Aside0.mk ((by rw [hg]; exact Nat.ne_of_lt (blk_lt (g := gb170) (o := .cells #[.int .u64 x171000_1, .int .u64 x171001_1] 57 (0, 0)) (by (with_reducible repeat (first | refine blk_drewN ?_ _ | refine blk_drew ?_ | refine blk_alloc ?_ _)); refine blk_far ?_ NB170_174.out _; (with_reducible repeat (first | refine blk_drewN ?_ _ | refine blk_drew ?_ | refine blk_alloc ?_ _)); refine blk_far ?_ NB170_174.out _; (with_reducible repeat (first | refine blk_drewN ?_ _ | refine blk_drew ?_ | refine blk_alloc ?_ _)); exact BK170.out)) : gb170 ≠ gb175)); have n7_ := Aside0.mk ((by rw [hg]; exact Nat.ne_of_gt (blk_lt (g := gb170) (o := .cells #[.int .u64 x171000_1, .int .u64 x171001_1] 57 (0, 0)) (by (with_reducible repeat (first | refine blk_drewN ?_ _ | refine blk_drew ?_ | refine blk_alloc ?_ _)); refine blk_far ?_ NB170_174.out _; (with_reducible repeat (first | refine blk_drewN ?_ _ | refine blk_drew ?_ | refine blk_alloc ?_ _)); refine blk_far ?_ NB170_174.out _; (with_reducible repeat (first | refine blk_drewN ?_ _ | refine blk_drew ?_ | refine blk_alloc ?_ _)); exact BK170.out)) : gb175 ≠ gb170)); have n8_ := Aside0.mk ((by rw [hg]; exact Nat.ne_of_lt (blk_lt (g := gb174) (o := .cells #[.int .u64 0, .int .u64 t173] 57 (0, 0)) (by (with_reducible repeat (first | refine blk_drewN ?_ _ | refine blk_drew ?_ | refine blk_alloc ?_ _)); refine blk_put (cs := #[.int .u64 0, .int .u64 0]) ?_ 1 _ rfl; (with_reducible repeat (first | refine blk_drewN ?_ _ | refine blk_drew ?_ | refine blk_alloc ?_ _)); refine blk_put (cs := #[.int .u64 0, .int .u64 0]) ?_ 0 _ rfl; (with_reducible repeat (first | refine blk_drewN ?_ _ | refine blk_drew ?_ | refine blk_alloc ?_ _)); exact BK174.out)) : gb174 ≠ gb175)); have n9_ := Aside0.mk ((by rw [hg]; exact Nat.ne_of_gt (blk_lt (g := gb174) (o := .cells #[.int .u64 0, .int .u64 t173] 57 (0, 0)) (by (with_reducible repeat (first | refine blk_drewN ?_ _ | refine blk_drew ?_ | refine blk_alloc ?_ _)); refine blk_put (cs := #[.int .u64 0, .int .u64 0]) ?_ 1 _ rfl; (with_reducible repeat (first | refine blk_drewN ?_ _ | refine blk_drew ?_ | refine blk_alloc ?_ _)); refine blk_put (cs := #[.int .u64 0, .int .u64 0]) ?_ 0 _ rfl; (with_reducible repeat (first | refine blk_drewN ?_ _ | refine blk_drew ?_ | refine blk_alloc ?_ _)); exact BK174.out)) : gb175 ≠ gb174)); clear BK170; clear BK174; clear HB; have BK170 := n0_; have BK174 := n1_; have HB := n2_; have BK175 := n3_; have GW175 := n4_; have GE175 := n5_; have NB170_175 := n6_; have NB175_170 := n7_; have NB174_175 := n8_; have NB175_174 := n9_; clear n0_ n1_ n2_ n3_ n4_ n5_ n6_ n7_ n8_ n9_; clear hb hbox hg; have hnb17 := NB175_170.out; have hnc17 := NB170_175.out; have hnb18 := NB175_174.out; have hnc18 := NB174_175.out; have hcz19_0 : w16.cell? ⟨gb175, 0, none⟩ = some (.int .u64 0) := (blk_cell BK175.out 0).trans rfl; have hcz19_1 : w16.cell? ⟨gb175, 1, none⟩ = some (.int .u64 0) := (blk_cell BK175.out 1).trans rfl; have hfz19_0 := blk_frozen BK175.out 0; have hfz19_1 := blk_frozen BK175.out 1))
      try simp only [Act.put, List.setIfInBounds_toArray, List.set_cons_succ, List.set_cons_zero]
      go_loopg [8] k1 (fun kq v8 w' => ∃ (x8_2 : Int) (x176000_2 : Int) (x176001_2 : Int), v8 = .int .i64 x8_2 ∧ Aside0 (smaltoref01_Shift.l1 kq a0 a1 x8_2 x171000_1 x171001_1 0 t173 x176000_2 x176001_2 = some r) ∧ Aside0 (kq ≤ k1) ∧ Aside0 (w'.heap[gb170]? = some (.cells #[.int .u64 x171000_1, .int .u64 x171001_1] 57 (0, 0))) ∧ Aside0 (w'.heap[gb174]? = some (.cells #[.int .u64 0, .int .u64 t173] 57 (0, 0))) ∧ Aside0 (w'.heap[gb175]? = some (.cells #[.int .u64 x176000_2, .int .u64 x176001_2] 57 (0, 0))) ∧ Aside0 (Below w.heap.size w w'))
      case atStart => exact ⟨(127), (0), (0), (by first | rfl | (simp; done) | (simp [*]; done)), H', ⟨Nat.le_refl _⟩, ⟨by (with_reducible repeat (first | refine blk_drewN ?_ _ | refine blk_drew ?_ | refine blk_alloc ?_ _)); refine blk_far ?_ NB170_175.out _; (with_reducible repeat (first | refine blk_drewN ?_ _ | refine blk_drew ?_ | refine blk_alloc ?_ _)); refine blk_far ?_ NB170_175.out _; (with_reducible repeat (first | refine blk_drewN ?_ _ | refine blk_drew ?_ | refine blk_alloc ?_ _)); exact BK170.out⟩, ⟨by (with_reducible repeat (first | refine blk_drewN ?_ _ | refine blk_drew ?_ | refine blk_alloc ?_ _)); refine blk_far ?_ NB174_175.out _; (with_reducible repeat (first | refine blk_drewN ?_ _ | refine blk_drew ?_ | refine blk_alloc ?_ _)); refine blk_far ?_ NB174_175.out _; (with_reducible repeat (first | refine blk_drewN ?_ _ | refine blk_drew ?_ | refine blk_alloc ?_ _)); exact BK174.out⟩, ⟨by (with_reducible repeat (first | refine blk_drewN ?_ _ | refine blk_drew ?_ | refine blk_alloc ?_ _)); refine blk_put (cs := #[.int .u64 0, .int .u64 0]) ?_ 1 _ rfl; (with_reducible repeat (first | refine blk_drewN ?_ _ | refine blk_drew ?_ | refine blk_alloc ?_ _)); refine blk_put (cs := #[.int .u64 0, .int .u64 0]) ?_ 0 _ rfl; (with_reducible repeat (first | refine blk_drewN ?_ _ | refine blk_drew ?_ | refine blk_alloc ?_ _)); exact BK175.out⟩, ⟨by repeat (first | (with_reducible first | exact HB.out | apply below_alloc | apply pw_below_drewN | apply below_drew1 | refine below_set ?_ GE170.out | refine below_set ?_ GE174.out | refine below_set ?_ GE175.out) | exact HB.out)⟩⟩
      case round =>
       clear H'
       try clear c1
       try clear p2
       try clear c3
       try clear c3b0
       try clear c4
       try clear c4b0
       try clear c6
       try clear p6
       try clear c7
       try clear c7b0
       try clear c14
       try clear c17
       try clear c18
       try clear hcz11_0
       try clear hcz11_1
       try clear hcz15_0
       try clear hcz15_1
       try clear hcz19_0
       try clear hcz19_1
       try clear hcz6_0
       try clear hcz6_1
       try clear hcz9_0
       try clear hcz9_1
       try clear hfz11_0
       try clear hfz11_1
       try clear hfz15_0
       try clear hfz15_1
       try clear hfz19_0
       try clear hfz19_1
       try clear hfz6_0
       try clear hfz6_1
       try clear hfz9_0
       try clear hfz9_1
       try clear p2
       try clear p6
       obtain ⟨x8_2, x176000_2, x176001_2, rfl, HA, HK2, BK170, BK174, BK175, HB⟩ := hrel
       cases gk with
       | zero => exact absurd HA.out (by simp [smaltoref01_Shift.l1])
       | succ k2 =>
        have H := HA.out
        clear HA
        simp only [smaltoref01_Shift.l1] at H
        by_cases c20 : x8_2 ≥ a1
        ·rw [if_pos c20] at H
         have c20b0 : decide (a1 ≤ x8_2) = true := decide_eq_true c20
         clear c20
         replace H := Option.bind_eq_some_iff.mp H
         obtain ⟨t176, A210, H⟩ := H
         replace H : ((smaltoref01_Twice.f x176000_2 x176001_2 t176).bind fun bt177 => (smaltoref01_Shift.l1 k2 a0 a1 (wrap64 (x8_2 - 1)) x171000_1 x171001_1 0 t173 bt177.1 bt177.2)) = some r := H
         have A21 := Aside0.mk A210
         clear A210
         replace H := Option.bind_eq_some_iff.mp H
         obtain ⟨⟨t177, t178⟩, A220, H⟩ := H
         replace H : (smaltoref01_Shift.l1 k2 a0 a1 (wrap64 (x8_2 - 1)) x171000_1 x171001_1 0 t173 t177 t178) = some r := H
         have A22 := Aside0.mk A220
         clear A220
         have H' := Aside0.mk H
         clear H
         try go_wp2
         have n0_ := Aside0.mk (blk_drew BK170.out)
         have n1_ := Aside0.mk (blk_drew BK174.out)
         have n2_ := Aside0.mk (blk_drew BK175.out)
         have n3_ := Aside0.mk (below_drew1 HB.out)
         clear BK170
         clear BK174
         clear BK175
         clear HB
         have BK170 := n0_
         have BK174 := n1_
         have BK175 := n2_
         have HB := n3_
         clear n0_ n1_ n2_ n3_
         refine start_ (n := 6) (S := fun w' => w'.cell? ⟨gb175, 0, none⟩ = some (.int .u64 x176000_2) ∧ w'.cell? ⟨gb175, 1, none⟩ = some (.int .u64 x176001_2) ∧ w'.cell? ⟨gb174, 0, none⟩ = some (.int .u64 0) ∧ w'.cell? ⟨gb174, 1, none⟩ = some (.int .u64 t173)) (ds := [5]) #[false, false, false, false, false, false] (by kernel_rfl) rfl rfl ⟨(blk_cell BK175.out 0).trans rfl, (blk_cell BK175.out 1).trans rfl, (blk_cell BK174.out 0).trans rfl, (blk_cell BK174.out 1).trans rfl⟩ (fun hHeld => ?_)
         generalize wr.drew = w23 at BK170 BK174 BK175 HB hHeld ⊢
         refine pure_ (i := 2) (N := some 37) (v := ?_) (a' := ?_) #[false, false, true, false, false, false] rfl rfl (by kernel_rfl) (fun _ _ _ h => h) (Or.inl ⟨by rfl, ?_⟩) ?_ ?_
         rotate_left
         ·intro w'
          go_simp
          with_reducible rfl
         rotate_left
         ·simp only [Act.put, List.setIfInBounds_toArray, List.set_cons_zero, List.set_cons_succ, i64_w, i32_w]
          rfl
         refine take_ (i := 0) (N := some 35) (v := ?_) (a' := ?_) #[true, false, true, false, false, false] rfl rfl (by kernel_rfl) (fun _ _ _ h => h) (Or.inl ⟨by rfl, ?_⟩) hHeld ?_ ?_
         rotate_left
         ·rintro w' ⟨s0, s1, s2, s3⟩
          go_simp
          with_reducible rfl
         rotate_left
         ·simp only [Act.put, List.setIfInBounds_toArray, List.set_cons_zero, List.set_cons_succ, i64_w, i32_w]
          rfl
         refine take_ (i := 1) (N := some 36) (v := ?_) (a' := ?_) #[true, true, true, false, false, false] rfl rfl (by kernel_rfl) (fun _ _ _ h => h) (Or.inl ⟨by rfl, ?_⟩) hHeld ?_ ?_
         rotate_left
         ·rintro w' ⟨s0, s1, s2, s3⟩
          go_simp
          with_reducible rfl
         rotate_left
         ·simp only [Act.put, List.setIfInBounds_toArray, List.set_cons_zero, List.set_cons_succ, i64_w, i32_w]
          rfl
         refine one_ (i := 3) (N := some 38) #[true, true, true, true, false, false] rfl rfl (by kernel_rfl) (by decide) (fun K hK => ?_)
         refine goes_ Try.func68 (by kernel_rfl) rfl #[.agg #[.int .u64 0, .int .u64 t173], .int .i64 x8_2] (by rfl) rfl rfl (by (try simp only [List.map_toArray, List.map_cons, List.map_nil]); first | done | rfl | (simp only [List.length_drop, List.length_take]; rfl)) ?_
         with_reducible refine (smaltoref01_Bit.calls 0 t173 x8_2 t176 _ A21.out).mono ?_
         rintro e w24 ⟨rfl, hb⟩
         refine ⟨_, rfl, ?_⟩
         have n0_ := Aside0.mk (blk_below (g := gb170) (o := .cells #[.int .u64 x171000_1, .int .u64 x171001_1] 57 (0, 0)) (by (with_reducible repeat (first | refine blk_drewN ?_ _ | refine blk_drew ?_ | refine blk_alloc ?_ _)); exact BK170.out) hb)
         have n1_ := Aside0.mk (blk_below (g := gb174) (o := .cells #[.int .u64 0, .int .u64 t173] 57 (0, 0)) (by (with_reducible repeat (first | refine blk_drewN ?_ _ | refine blk_drew ?_ | refine blk_alloc ?_ _)); exact BK174.out) hb)
         have n2_ := Aside0.mk (blk_below (g := gb175) (o := .cells #[.int .u64 x176000_2, .int .u64 x176001_2] 57 (0, 0)) (by (with_reducible repeat (first | refine blk_drewN ?_ _ | refine blk_drew ?_ | refine blk_alloc ?_ _)); exact BK175.out) hb)
         have n3_ := Aside0.mk (below_step (by repeat (first | (with_reducible first | exact HB.out | apply below_alloc | apply pw_below_drewN | apply below_drew1 | refine below_set ?_ GE170.out | refine below_set ?_ GE174.out | refine below_set ?_ GE175.out) | exact HB.out)) hb)
         clear BK170
         clear BK174
         clear BK175
         clear HB
         have BK170 := n0_
         have BK174 := n1_
         have BK175 := n2_
         have HB := n3_
         clear n0_ n1_ n2_ n3_
         (try clear hb)
         (try clear hb2)
         (try clear hk)
         (try clear hi)
         refine hK.out _ _ ⟨(blk_cell BK175.out 0).trans rfl, (blk_cell BK175.out 1).trans rfl, (blk_cell BK174.out 0).trans rfl, (blk_cell BK174.out 1).trans rfl⟩ (fun hHeld => ?_)
         clear hK K
         refine norm_ (a' := ?_) ?_ ?_
         rotate_left
         ·show Act.put _ (some 38) _ = _
          simp only [Act.put, List.setIfInBounds_toArray, List.set_cons_zero, List.set_cons_succ, i64_w, i32_w]
          rfl
         refine one_ (i := 4) (N := some 39) #[true, true, true, true, true, false] rfl rfl (by kernel_rfl) (by decide) (fun K hK => ?_)
         refine goes_ Try.func67 (by kernel_rfl) rfl #[.agg #[.int .u64 x176000_2, .int .u64 x176001_2], .int .u64 t176] (by rfl) rfl rfl (by (try simp only [List.map_toArray, List.map_cons, List.map_nil]); first | done | rfl | (simp only [List.length_drop, List.length_take]; rfl)) ?_
         with_reducible refine (smaltoref01_Twice.calls x176000_2 x176001_2 t176 t177 t178 _ A22.out).mono ?_
         rintro e w25 ⟨rfl, hb⟩
         refine ⟨_, rfl, ?_⟩
         have n0_ := Aside0.mk (blk_below (g := gb170) (o := .cells #[.int .u64 x171000_1, .int .u64 x171001_1] 57 (0, 0)) (by (with_reducible repeat (first | refine blk_drewN ?_ _ | refine blk_drew ?_ | refine blk_alloc ?_ _)); exact BK170.out) hb)
         have n1_ := Aside0.mk (blk_below (g := gb174) (o := .cells #[.int .u64 0, .int .u64 t173] 57 (0, 0)) (by (with_reducible repeat (first | refine blk_drewN ?_ _ | refine blk_drew ?_ | refine blk_alloc ?_ _)); exact BK174.out) hb)
         have n2_ := Aside0.mk (blk_below (g := gb175) (o := .cells #[.int .u64 x176000_2, .int .u64 x176001_2] 57 (0, 0)) (by (with_reducible repeat (first | refine blk_drewN ?_ _ | refine blk_drew ?_ | refine blk_alloc ?_ _)); exact BK175.out) hb)
         have n3_ := Aside0.mk (below_step (by repeat (first | (with_reducible first | exact HB.out | apply below_alloc | apply pw_below_drewN | apply below_drew1 | refine below_set ?_ GE170.out | refine below_set ?_ GE174.out | refine below_set ?_ GE175.out) | exact HB.out)) hb)
         clear BK170
         clear BK174
         clear BK175
         clear HB
         have BK170 := n0_
         have BK174 := n1_
         have BK175 := n2_
         have HB := n3_
         clear n0_ n1_ n2_ n3_
         (try clear hb)
         (try clear hb2)
         (try clear hk)
         (try clear hi)
         refine hK.out _ _ ⟨(blk_cell BK175.out 0).trans rfl, (blk_cell BK175.out 1).trans rfl, (blk_cell BK174.out 0).trans rfl, (blk_cell BK174.out 1).trans rfl⟩ (fun hHeld => ?_)
         clear hK K
         refine norm_ (a' := ?_) ?_ ?_
         rotate_left
         ·show Act.put _ (some 39) _ = _
          simp only [Act.put, List.setIfInBounds_toArray, List.set_cons_zero, List.set_cons_succ, i64_w, i32_w]
          rfl
         refine last_ (i := 5) (N := none) #[true, true, true, true, true, true] rfl rfl (by kernel_rfl) (by decide) (fun K hK => ?_)
         have hs26 : w25.cell? ⟨gb175, 0, none⟩ = some (.int .u64 x176000_2) := (blk_cell BK175.out 0).trans rfl
         have hfs26 := blk_frozen BK175.out 0
         have hns26_0 := NB170_175.out
         have hns26_1 := NB174_175.out
         have hms26_0 := NB175_170.out
         have hms26_1 := NB175_174.out
         have hs27 : w25.cell? ⟨gb175, 1, none⟩ = some (.int .u64 x176001_2) := (blk_cell BK175.out 1).trans rfl
         have hfs27 := blk_frozen BK175.out 1
         have hns27_0 := NB170_175.out
         have hns27_1 := NB174_175.out
         have hms27_0 := NB175_170.out
         have hms27_1 := NB175_174.out
         refine skip_ (w1 := ?_) (by rfl) rfl ?_ ?_
         rotate_left
         ·go_simp
          rfl
         refine hK.out _ _ ?_
         clear hK K
         refine done_ (by kernel_rfl) ?_
         try go_wp2
         go_roundg k2
         case measure => have := HK1.out; have := HK2.out; omega
         case rel => exact ⟨(wrap64 (x8_2 - 1)), (t177), (t178), (by first | rfl | (simp; done) | (simp [*]; done)), H', ⟨by have := HK1.out; have := HK2.out; omega⟩, ⟨by (with_reducible repeat (first | refine blk_drewN ?_ _ | refine blk_drew ?_ | refine blk_alloc ?_ _)); refine blk_far ?_ NB170_175.out _; (with_reducible repeat (first | refine blk_drewN ?_ _ | refine blk_drew ?_ | refine blk_alloc ?_ _)); refine blk_far ?_ NB170_175.out _; (with_reducible repeat (first | refine blk_drewN ?_ _ | refine blk_drew ?_ | refine blk_alloc ?_ _)); exact BK170.out⟩, ⟨by (with_reducible repeat (first | refine blk_drewN ?_ _ | refine blk_drew ?_ | refine blk_alloc ?_ _)); refine blk_far ?_ NB174_175.out _; (with_reducible repeat (first | refine blk_drewN ?_ _ | refine blk_drew ?_ | refine blk_alloc ?_ _)); refine blk_far ?_ NB174_175.out _; (with_reducible repeat (first | refine blk_drewN ?_ _ | refine blk_drew ?_ | refine blk_alloc ?_ _)); exact BK174.out⟩, ⟨by (with_reducible repeat (first | refine blk_drewN ?_ _ | refine blk_drew ?_ | refine blk_alloc ?_ _)); refine blk_put (cs := #[.int .u64 t177, .int .u64 x176001_2]) ?_ 1 _ rfl; (with_reducible repeat (first | refine blk_drewN ?_ _ | refine blk_drew ?_ | refine blk_alloc ?_ _)); refine blk_put (cs := #[.int .u64 x176000_2, .int .u64 x176001_2]) ?_ 0 _ rfl; (with_reducible repeat (first | refine blk_drewN ?_ _ | refine blk_drew ?_ | refine blk_alloc ?_ _)); exact BK175.out⟩, ⟨by repeat (first | (with_reducible first | exact HB.out | apply below_alloc | apply pw_below_drewN | apply below_drew1 | refine below_set ?_ GE170.out | refine below_set ?_ GE174.out | refine below_set ?_ GE175.out) | exact HB.out)⟩⟩
        ·rw [if_neg c20] at H
         have c20b0 : decide (a1 ≤ x8_2) = false := decide_eq_false c20
         clear c20
         have H' := Aside0.mk H
         clear H
         have hnb28 := NB174_170.out
         have hnc28 := NB170_174.out
         have hnb29 := NB174_175.out
         have hnc29 := NB175_174.out
         have hcz30_0 : wr.cell? ⟨gb174, 0, none⟩ = some (.int .u64 0) := (blk_cell BK174.out 0).trans rfl
         have hcz30_1 : wr.cell? ⟨gb174, 1, none⟩ = some (.int .u64 t173) := (blk_cell BK174.out 1).trans rfl
         have hfz30_0 := blk_frozen BK174.out 0
         have hfz30_1 := blk_frozen BK174.out 1
         go_wp2_with (first | ((with_reducible refine gate_dst (N := 9) rfl ?_); refine box_event ?hg (N := 9) ?hd (cs := #[.int .u64 0, .int .u64 0]) (t := 57) ?hr ?_; (case hd => rfl); (case hg => rfl); (case hr => first | (go_simp; done) | (go_simp; rfl)); intro gb179 hg w31 hbox hb; have n0_ := Aside0.mk (blk_below (g := gb170) (o := .cells #[.int .u64 x171000_1, .int .u64 x171001_1] 57 (0, 0)) (by (with_reducible repeat (first | refine blk_drewN ?_ _ | refine blk_drew ?_ | refine blk_alloc ?_ _)); exact BK170.out) hb); have n1_ := Aside0.mk (blk_below (g := gb174) (o := .cells #[.int .u64 0, .int .u64 t173] 57 (0, 0)) (by (with_reducible repeat (first | refine blk_drewN ?_ _ | refine blk_drew ?_ | refine blk_alloc ?_ _)); exact BK174.out) hb); have n2_ := Aside0.mk (blk_below (g := gb175) (o := .cells #[.int .u64 x176000_2, .int .u64 x176001_2] 57 (0, 0)) (by (with_reducible repeat (first | refine blk_drewN ?_ _ | refine blk_drew ?_ | refine blk_alloc ?_ _)); exact BK175.out) hb); have n3_ := Aside0.mk (below_step (by repeat (first | (with_reducible first | exact HB.out | apply below_alloc | apply pw_below_drewN | apply below_drew1 | refine below_set ?_ GE170.out | refine below_set ?_ GE174.out | refine below_set ?_ GE175.out) | exact HB.out)) hb); have n4_ := Aside0.mk (hbox); have n5_ := Aside0.mk ((by rw [hg]; exact (below_size (by repeat (first | (with_reducible first | exact HB.out | apply below_alloc | apply pw_below_drewN | apply below_drew1 | refine below_set ?_ GE170.out | refine below_set ?_ GE174.out | refine below_set ?_ GE175.out) | exact HB.out))) : w.heap.size ≤ gb179)); have n6_ := Aside0.mk ((by rw [hg]; exact (below_size (by repeat (first | (with_reducible first | exact HB.out | apply below_alloc | apply pw_below_drewN | apply below_drew1 | refine below_set ?_ GE170.out | refine below_set ?_ GE174.out | refine below_set ?_ GE175.out) | exact HB.out))) : w.heap.size ≤ gb179)); have n7_ := Aside0.mk ((by rw [hg]; exact Nat.ne_of_lt (blk_lt (g := gb170) (o := .cells #[.int .u64 x171000_1, .int .u64 x171001_1] 57 (0, 0)) (by (with_reducible repeat (first | refine blk_drewN ?_ _ | refine blk_drew ?_ | refine blk_alloc ?_ _)); exact BK170.out)) : gb170 ≠ gb179)); have n8_ := Aside0.mk ((by rw [hg]; exact Nat.ne_of_gt (blk_lt (g := gb170) (o := .cells #[.int .u64 x171000_1, .int .u64 x171001_1] 57 (0, 0)) (by (with_reducible repeat (first | refine blk_drewN ?_ _ | refine blk_drew ?_ | refine blk_alloc ?_ _)); exact BK170.out)) : gb179 ≠ gb170)); have n9_ := Aside0.mk ((by rw [hg]; exact Nat.ne_of_lt (blk_lt (g := gb174) (o := .cells #[.int .u64 0, .int .u64 t173] 57 (0, 0)) (by (with_reducible repeat (first | refine blk_drewN ?_ _ | refine blk_drew ?_ | refine blk_alloc ?_ _)); exact BK174.out)) : gb174 ≠ gb179)); have n10_ := Aside0.mk ((by rw [hg]; exact Nat.ne_of_gt (blk_lt (g := gb174) (o := .cells #[.int .u64 0, .int .u64 t173] 57 (0, 0)) (by (with_reducible repeat (first | refine blk_drewN ?_ _ | refine blk_drew ?_ | refine blk_alloc ?_ _)); exact BK174.out)) : gb179 ≠ gb174)); have n11_ := Aside0.mk ((by rw [hg]; exact Nat.ne_of_lt (blk_lt (g := gb175) (o := .cells #[.int .u64 x176000_2, .int .u64 x176001_2] 57 (0, 0)) (by (with_reducible repeat (first | refine blk_drewN ?_ _ | refine blk_drew ?_ | refine blk_alloc ?_ _)); exact BK175.out)) : gb175 ≠ gb179)); have n12_ := Aside0.mk ((by rw [hg]; exact Nat.ne_of_gt (blk_lt (g := gb175) (o := .cells #[.int .u64 x176000_2, .int .u64 x176001_2] 57 (0, 0)) (by (with_reducible repeat (first | refine blk_drewN ?_ _ | refine blk_drew ?_ | refine blk_alloc ?_ _)); exact BK175.out)) : gb179 ≠ gb175)); clear BK170; clear BK174; clear BK175; clear HB; have BK170 := n0_; have BK174 := n1_; have BK175 := n2_; have HB := n3_; have BK179 := n4_; have GW179 := n5_; have GE179 := n6_; have NB170_179 := n7_; have NB179_170 := n8_; have NB174_179 := n9_; have NB179_174 := n10_; have NB175_179 := n11_; have NB179_175 := n12_; clear n0_ n1_ n2_ n3_ n4_ n5_ n6_ n7_ n8_ n9_ n10_ n11_ n12_; clear hb hbox hg; have hnb32 := NB179_170.out; have hnc32 := NB170_179.out; have hnb33 := NB179_174.out; have hnc33 := NB174_179.out; have hnb34 := NB179_175.out; have hnc34 := NB175_179.out; have hcz35_0 : w31.cell? ⟨gb179, 0, none⟩ = some (.int .u64 0) := (blk_cell BK179.out 0).trans rfl; have hcz35_1 : w31.cell? ⟨gb179, 1, none⟩ = some (.int .u64 0) := (blk_cell BK179.out 1).trans rfl; have hfz35_0 := blk_frozen BK179.out 0; have hfz35_1 := blk_frozen BK179.out 1))
         try simp only [Act.put, List.setIfInBounds_toArray, List.set_cons_succ, List.set_cons_zero]
         go_loopg [10] k2 (fun kq v10 w' => ∃ (x10_3 : Int) (x180000_3 : Int) (x180001_3 : Int), v10 = .int .i64 x10_3 ∧ Aside0 (smaltoref01_Shift.l2 kq a0 x10_3 x171000_1 x171001_1 0 t173 x176000_2 x176001_2 x180000_3 x180001_3 = some r) ∧ Aside0 (kq ≤ k2) ∧ Aside0 (w'.heap[gb170]? = some (.cells #[.int .u64 x171000_1, .int .u64 x171001_1] 57 (0, 0))) ∧ Aside0 (w'.heap[gb174]? = some (.cells #[.int .u64 0, .int .u64 t173] 57 (0, 0))) ∧ Aside0 (w'.heap[gb175]? = some (.cells #[.int .u64 x176000_2, .int .u64 x176001_2] 57 (0, 0))) ∧ Aside0 (w'.heap[gb179]? = some (.cells #[.int .u64 x180000_3, .int .u64 x180001_3] 57 (0, 0))) ∧ Aside0 (Below w.heap.size w w'))
         case atStart => exact ⟨(a1), (0), (t173), (by first | rfl | (simp; done) | (simp [*]; done)), H', ⟨Nat.le_refl _⟩, ⟨by (with_reducible repeat (first | refine blk_drewN ?_ _ | refine blk_drew ?_ | refine blk_alloc ?_ _)); refine blk_far ?_ NB170_179.out _; (with_reducible repeat (first | refine blk_drewN ?_ _ | refine blk_drew ?_ | refine blk_alloc ?_ _)); refine blk_far ?_ NB170_179.out _; (with_reducible repeat (first | refine blk_drewN ?_ _ | refine blk_drew ?_ | refine blk_alloc ?_ _)); exact BK170.out⟩, ⟨by (with_reducible repeat (first | refine blk_drewN ?_ _ | refine blk_drew ?_ | refine blk_alloc ?_ _)); refine blk_far ?_ NB174_179.out _; (with_reducible repeat (first | refine blk_drewN ?_ _ | refine blk_drew ?_ | refine blk_alloc ?_ _)); refine blk_far ?_ NB174_179.out _; (with_reducible repeat (first | refine blk_drewN ?_ _ | refine blk_drew ?_ | refine blk_alloc ?_ _)); exact BK174.out⟩, ⟨by (with_reducible repeat (first | refine blk_drewN ?_ _ | refine blk_drew ?_ | refine blk_alloc ?_ _)); refine blk_far ?_ NB175_179.out _; (with_reducible repeat (first | refine blk_drewN ?_ _ | refine blk_drew ?_ | refine blk_alloc ?_ _)); refine blk_far ?_ NB175_179.out _; (with_reducible repeat (first | refine blk_drewN ?_ _ | refine blk_drew ?_ | refine blk_alloc ?_ _)); exact BK175.out⟩, ⟨by (with_reducible repeat (first | refine blk_drewN ?_ _ | refine blk_drew ?_ | refine blk_alloc ?_ _)); refine blk_put (cs := #[.int .u64 0, .int .u64 0]) ?_ 1 _ rfl; (with_reducible repeat (first | refine blk_drewN ?_ _ | refine blk_drew ?_ | refine blk_alloc ?_ _)); refine blk_put (cs := #[.int .u64 0, .int .u64 0]) ?_ 0 _ rfl; (with_reducible repeat (first | refine blk_drewN ?_ _ | refine blk_drew ?_ | refine blk_alloc ?_ _)); exact BK179.out⟩, ⟨by repeat (first | (with_reducible first | exact HB.out | apply below_alloc | apply pw_below_drewN | apply below_drew1 | refine below_set ?_ GE170.out | refine below_set ?_ GE174.out | refine below_set ?_ GE175.out | refine below_set ?_ GE179.out) | exact HB.out)⟩⟩
         case round =>
          clear H'
          try clear c1
          try clear c2
          try clear p2
          try clear c3
          try clear c3b0
          try clear c4
          try clear c4b0
          try clear c6
          try clear p6
          try clear c7
          try clear c7b0
          try clear c14
          try clear c17
          try clear c18
          try clear c20
          try clear c20b0
          try clear c28
          try clear c29
          try clear c32
          try clear c33
          try clear c34
          try clear hcz11_0
          try clear hcz11_1
          try clear hcz15_0
          try clear hcz15_1
          try clear hcz19_0
          try clear hcz19_1
          try clear hcz30_0
          try clear hcz30_1
          try clear hcz35_0
          try clear hcz35_1
          try clear hcz6_0
          try clear hcz6_1
          try clear hcz9_0
          try clear hcz9_1
          try clear hfz11_0
          try clear hfz11_1
          try clear hfz15_0
          try clear hfz15_1
          try clear hfz19_0
          try clear hfz19_1
          try clear hfz30_0
          try clear hfz30_1
          try clear hfz35_0
          try clear hfz35_1
          try clear hfz6_0
          try clear hfz6_1
          try clear hfz9_0
          try clear hfz9_1
          try clear p2
          try clear p6
          obtain ⟨x10_3, x180000_3, x180001_3, rfl, HA, HK3, BK170, BK174, BK175, BK179, HB⟩ := hrel
          cases gk with
          | zero => exact absurd HA.out (by simp [smaltoref01_Shift.l2])
          | succ k3 =>
           have H := HA.out
           clear HA
           simp only [smaltoref01_Shift.l2] at H
           by_cases c36 : x10_3 < 128
           ·rw [if_pos c36] at H
            have c36b0 : decide (x10_3 < 128) = true := decide_eq_true c36
            clear c36
            replace H := Option.bind_eq_some_iff.mp H
            obtain ⟨t180, A370, H⟩ := H
            replace H : (if t180 = 1 then (smaltoref01_Shift.l3 k3 a0 x10_3 x10_3 0 x171000_1 x171001_1 0 t173 x176000_2 x176001_2 x180000_3 x180001_3 0 1) else (smaltoref01_Shift.l2 k3 a0 (wrap64 (x10_3 + 1)) x171000_1 x171001_1 0 t173 x176000_2 x176001_2 x180000_3 x180001_3)) = some r := H
            have A37 := Aside0.mk A370
            clear A370
            by_cases c38 : t180 = 1
            ·rw [if_pos c38] at H
             have c38b0 : (t180 == 1) = true := beq_iff_eq.mpr c38
             have c38b1 : (t180 != 1) = false := bne_eq_false_iff_eq.mpr c38
             clear c38
             have H' := Aside0.mk H
             clear H
             have hnb39 := NB174_170.out
             have hnc39 := NB170_174.out
             have hnb40 := NB174_175.out
             have hnc40 := NB175_174.out
             have hnb41 := NB174_179.out
             have hnc41 := NB179_174.out
             have hcz42_0 : wr.cell? ⟨gb174, 0, none⟩ = some (.int .u64 0) := (blk_cell BK174.out 0).trans rfl
             have hcz42_1 : wr.cell? ⟨gb174, 1, none⟩ = some (.int .u64 t173) := (blk_cell BK174.out 1).trans rfl
             have hfz42_0 := blk_frozen BK174.out 0
             have hfz42_1 := blk_frozen BK174.out 1
             go_wp2_with (first | ((with_reducible refine gate_callee (f := 68) rfl ?_); refine goesL_ (some 48) rfl rfl Try.func68 (by kernel_rfl) rfl #[.agg #[.int .u64 0, .int .u64 t173], .int .i64 x10_3] rfl (by (try simp only [List.map_toArray, List.map_cons, List.map_nil]); first | done | rfl | (simp only [List.length_drop, List.length_take]; rfl)) ?_; (with_reducible refine (smaltoref01_Bit.calls 0 t173 x10_3 t180 _ A37.out).mono ?_); rintro e w43 ⟨rfl, hb⟩; refine ⟨_, rfl, ?_⟩; have n0_ := Aside0.mk (blk_below (g := gb170) (o := .cells #[.int .u64 x171000_1, .int .u64 x171001_1] 57 (0, 0)) (by (with_reducible repeat (first | refine blk_drewN ?_ _ | refine blk_drew ?_ | refine blk_alloc ?_ _)); exact BK170.out) hb); have n1_ := Aside0.mk (blk_below (g := gb174) (o := .cells #[.int .u64 0, .int .u64 t173] 57 (0, 0)) (by (with_reducible repeat (first | refine blk_drewN ?_ _ | refine blk_drew ?_ | refine blk_alloc ?_ _)); exact BK174.out) hb); have n2_ := Aside0.mk (blk_below (g := gb175) (o := .cells #[.int .u64 x176000_2, .int .u64 x176001_2] 57 (0, 0)) (by (with_reducible repeat (first | refine blk_drewN ?_ _ | refine blk_drew ?_ | refine blk_alloc ?_ _)); exact BK175.out) hb); have n3_ := Aside0.mk (blk_below (g := gb179) (o := .cells #[.int .u64 x180000_3, .int .u64 x180001_3] 57 (0, 0)) (by (with_reducible repeat (first | refine blk_drewN ?_ _ | refine blk_drew ?_ | refine blk_alloc ?_ _)); exact BK179.out) hb); have n4_ := Aside0.mk (below_step (by repeat (first | (with_reducible first | exact HB.out | apply below_alloc | apply pw_below_drewN | apply below_drew1 | refine below_set ?_ GE170.out | refine below_set ?_ GE174.out | refine below_set ?_ GE175.out | refine below_set ?_ GE179.out) | exact HB.out)) hb); clear BK170; clear BK174; clear BK175; clear BK179; clear HB; have BK170 := n0_; have BK174 := n1_; have BK175 := n2_; have BK179 := n3_; have HB := n4_; clear n0_ n1_ n2_ n3_ n4_; (try clear hb); (try clear hb2); (try clear hk); (try clear hi)) | ((with_reducible refine gate_dst (N := 11) rfl ?_); refine box_event ?hg (N := 11) ?hd (cs := #[.int .u64 0, .int .u64 0]) (t := 57) ?hr ?_; (case hd => rfl); (case hg => rfl); (case hr => first | (go_simp; done) | (go_simp; rfl)); intro gb181 hg w44 hbox hb; have n0_ := Aside0.mk (blk_below (g := gb170) (o := .cells #[.int .u64 x171000_1, .int .u64 x171001_1] 57 (0, 0)) (by (with_reducible repeat (first | refine blk_drewN ?_ _ | refine blk_drew ?_ | refine blk_alloc ?_ _)); exact BK170.out) hb); have n1_ := Aside0.mk (blk_below (g := gb174) (o := .cells #[.int .u64 0, .int .u64 t173] 57 (0, 0)) (by (with_reducible repeat (first | refine blk_drewN ?_ _ | refine blk_drew ?_ | refine blk_alloc ?_ _)); exact BK174.out) hb); have n2_ := Aside0.mk (blk_below (g := gb175) (o := .cells #[.int .u64 x176000_2, .int .u64 x176001_2] 57 (0, 0)) (by (with_reducible repeat (first | refine blk_drewN ?_ _ | refine blk_drew ?_ | refine blk_alloc ?_ _)); exact BK175.out) hb); have n3_ := Aside0.mk (blk_below (g := gb179) (o := .cells #[.int .u64 x180000_3, .int .u64 x180001_3] 57 (0, 0)) (by (with_reducible repeat (first | refine blk_drewN ?_ _ | refine blk_drew ?_ | refine blk_alloc ?_ _)); exact BK179.out) hb); have n4_ := Aside0.mk (below_step (by repeat (first | (with_reducible first | exact HB.out | apply below_alloc | apply pw_below_drewN | apply below_drew1 | refine below_set ?_ GE170.out | refine below_set ?_ GE174.out | refine below_set ?_ GE175.out | refine below_set ?_ GE179.out) | exact HB.out)) hb); have n5_ := Aside0.mk (hbox); have n6_ := Aside0.mk ((by rw [hg]; exact (below_size (by repeat (first | (with_reducible first | exact HB.out | apply below_alloc | apply pw_below_drewN | apply below_drew1 | refine below_set ?_ GE170.out | refine below_set ?_ GE174.out | refine below_set ?_ GE175.out | refine below_set ?_ GE179.out) | exact HB.out))) : w.heap.size ≤ gb181)); have n7_ := Aside0.mk ((by rw [hg]; exact (below_size (by repeat (first | (with_reducible first | exact HB.out | apply below_alloc | apply pw_below_drewN | apply below_drew1 | refine below_set ?_ GE170.out | refine below_set ?_ GE174.out | refine below_set ?_ GE175.out | refine below_set ?_ GE179.out) | exact HB.out))) : w.heap.size ≤ gb181)); have n8_ := Aside0.mk ((by rw [hg]; exact Nat.ne_of_lt (blk_lt (g := gb170) (o := .cells #[.int .u64 x171000_1, .int .u64 x171001_1] 57 (0, 0)) (by (with_reducible repeat (first | refine blk_drewN ?_ _ | refine blk_drew ?_ | refine blk_alloc ?_ _)); exact BK170.out)) : gb170 ≠ gb181)); have n9_ := Aside0.mk ((by rw [hg]; exact Nat.ne_of_gt (blk_lt (g := gb170) (o := .cells #[.int .u64 x171000_1, .int .u64 x171001_1] 57 (0, 0)) (by (with_reducible repeat (first | refine blk_drewN ?_ _ | refine blk_drew ?_ | refine blk_alloc ?_ _)); exact BK170.out)) : gb181 ≠ gb170)); have n10_ := Aside0.mk ((by rw [hg]; exact Nat.ne_of_lt (blk_lt (g := gb174) (o := .cells #[.int .u64 0, .int .u64 t173] 57 (0, 0)) (by (with_reducible repeat (first | refine blk_drewN ?_ _ | refine blk_drew ?_ | refine blk_alloc ?_ _)); exact BK174.out)) : gb174 ≠ gb181)); have n11_ := Aside0.mk ((by rw [hg]; exact Nat.ne_of_gt (blk_lt (g := gb174) (o := .cells #[.int .u64 0, .int .u64 t173] 57 (0, 0)) (by (with_reducible repeat (first | refine blk_drewN ?_ _ | refine blk_drew ?_ | refine blk_alloc ?_ _)); exact BK174.out)) : gb181 ≠ gb174)); have n12_ := Aside0.mk ((by rw [hg]; exact Nat.ne_of_lt (blk_lt (g := gb175) (o := .cells #[.int .u64 x176000_2, .int .u64 x176001_2] 57 (0, 0)) (by (with_reducible repeat (first | refine blk_drewN ?_ _ | refine blk_drew ?_ | refine blk_alloc ?_ _)); exact BK175.out)) : gb175 ≠ gb181)); have n13_ := Aside0.mk ((by rw [hg]; exact Nat.ne_of_gt (blk_lt (g := gb175) (o := .cells #[.int .u64 x176000_2, .int .u64 x176001_2] 57 (0, 0)) (by (with_reducible repeat (first | refine blk_drewN ?_ _ | refine blk_drew ?_ | refine blk_alloc ?_ _)); exact BK175.out)) : gb181 ≠ gb175)); have n14_ := Aside0.mk ((by rw [hg]; exact Nat.ne_of_lt (blk_lt (g := gb179) (o := .cells #[.int .u64 x180000_3, .int .u64 x180001_3] 57 (0, 0)) (by (with_reducible repeat (first | refine blk_drewN ?_ _ | refine blk_drew ?_ | refine blk_alloc ?_ _)); exact BK179.out)) : gb179 ≠ gb181)); have n15_ := Aside0.mk ((by rw [hg]; exact Nat.ne_of_gt (blk_lt (g := gb179) (o := .cells #[.int .u64 x180000_3, .int .u64 x180001_3] 57 (0, 0)) (by (with_reducible repeat (first | refine blk_drewN ?_ _ | refine blk_drew ?_ | refine blk_alloc ?_ _)); exact BK179.out)) : gb181 ≠ gb179)); clear BK170; clear BK174; clear BK175; clear BK179; clear HB; have BK170 := n0_; have BK174 := n1_; have BK175 := n2_; have BK179 := n3_; have HB := n4_; have BK181 := n5_; have GW181 := n6_; have GE181 := n7_; have NB170_181 := n8_; have NB181_170 := n9_; have NB174_181 := n10_; have NB181_174 := n11_; have NB175_181 := n12_; have NB181_175 := n13_; have NB179_181 := n14_; have NB181_179 := n15_; clear n0_ n1_ n2_ n3_ n4_ n5_ n6_ n7_ n8_ n9_ n10_ n11_ n12_ n13_ n14_ n15_; clear hb hbox hg; have hnb45 := NB181_170.out; have hnc45 := NB170_181.out; have hnb46 := NB181_174.out; have hnc46 := NB174_181.out; have hnb47 := NB181_175.out; have hnc47 := NB175_181.out; have hnb48 := NB181_179.out; have hnc48 := NB179_181.out; have hcz49_0 : w44.cell? ⟨gb181, 0, none⟩ = some (.int .u64 0) := (blk_cell BK181.out 0).trans rfl; have hcz49_1 : w44.cell? ⟨gb181, 1, none⟩ = some (.int .u64 0) := (blk_cell BK181.out 1).trans rfl; have hfz49_0 := blk_frozen BK181.out 0; have hfz49_1 := blk_frozen BK181.out 1))
             try simp only [Act.put, List.setIfInBounds_toArray, List.set_cons_succ, List.set_cons_zero]
             go_loopg [52] k3 (fun kq v52 w' => ∃ (x52_4 : Int) (x182000_4 : Int) (x182001_4 : Int), v52 = .int .i64 x52_4 ∧ Aside0 (smaltoref01_Shift.l3 kq a0 x10_3 x10_3 x52_4 x171000_1 x171001_1 0 t173 x176000_2 x176001_2 x180000_3 x180001_3 x182000_4 x182001_4 = some r) ∧ Aside0 (kq ≤ k3) ∧ Aside0 (w'.heap[gb170]? = some (.cells #[.int .u64 x171000_1, .int .u64 x171001_1] 57 (0, 0))) ∧ Aside0 (w'.heap[gb174]? = some (.cells #[.int .u64 0, .int .u64 t173] 57 (0, 0))) ∧ Aside0 (w'.heap[gb175]? = some (.cells #[.int .u64 x176000_2, .int .u64 x176001_2] 57 (0, 0))) ∧ Aside0 (w'.heap[gb179]? = some (.cells #[.int .u64 x180000_3, .int .u64 x180001_3] 57 (0, 0))) ∧ Aside0 (w'.heap[gb181]? = some (.cells #[.int .u64 x182000_4, .int .u64 x182001_4] 57 (0, 0))) ∧ Aside0 (Below w.heap.size w w'))
             case atStart => exact ⟨(0), (0), (1), (by first | rfl | (simp; done) | (simp [*]; done)), H', ⟨Nat.le_refl _⟩, ⟨by (with_reducible repeat (first | refine blk_drewN ?_ _ | refine blk_drew ?_ | refine blk_alloc ?_ _)); refine blk_far ?_ NB170_181.out _; (with_reducible repeat (first | refine blk_drewN ?_ _ | refine blk_drew ?_ | refine blk_alloc ?_ _)); refine blk_far ?_ NB170_181.out _; (with_reducible repeat (first | refine blk_drewN ?_ _ | refine blk_drew ?_ | refine blk_alloc ?_ _)); exact BK170.out⟩, ⟨by (with_reducible repeat (first | refine blk_drewN ?_ _ | refine blk_drew ?_ | refine blk_alloc ?_ _)); refine blk_far ?_ NB174_181.out _; (with_reducible repeat (first | refine blk_drewN ?_ _ | refine blk_drew ?_ | refine blk_alloc ?_ _)); refine blk_far ?_ NB174_181.out _; (with_reducible repeat (first | refine blk_drewN ?_ _ | refine blk_drew ?_ | refine blk_alloc ?_ _)); exact BK174.out⟩, ⟨by (with_reducible repeat (first | refine blk_drewN ?_ _ | refine blk_drew ?_ | refine blk_alloc ?_ _)); refine blk_far ?_ NB175_181.out _; (with_reducible repeat (first | refine blk_drewN ?_ _ | refine blk_drew ?_ | refine blk_alloc ?_ _)); refine blk_far ?_ NB175_181.out _; (with_reducible repeat (first | refine blk_drewN ?_ _ | refine blk_drew ?_ | refine blk_alloc ?_ _)); exact BK175.out⟩, ⟨by (with_reducible repeat (first | refine blk_drewN ?_ _ | refine blk_drew ?_ | refine blk_alloc ?_ _)); refine blk_far ?_ NB179_181.out _; (with_reducible repeat (first | refine blk_drewN ?_ _ | refine blk_drew ?_ | refine blk_alloc ?_ _)); refine blk_far ?_ NB179_181.out _; (with_reducible repeat (first | refine blk_drewN ?_ _ | refine blk_drew ?_ | refine blk_alloc ?_ _)); exact BK179.out⟩, ⟨by (with_reducible repeat (first | refine blk_drewN ?_ _ | refine blk_drew ?_ | refine blk_alloc ?_ _)); refine blk_put (cs := #[.int .u64 0, .int .u64 0]) ?_ 1 _ rfl; (with_reducible repeat (first | refine blk_drewN ?_ _ | refine blk_drew ?_ | refine blk_alloc ?_ _)); refine blk_put (cs := #[.int .u64 0, .int .u64 0]) ?_ 0 _ rfl; (with_reducible repeat (first | refine blk_drewN ?_ _ | refine blk_drew ?_ | refine blk_alloc ?_ _)); exact BK181.out⟩, ⟨by repeat (first | (with_reducible first | exact HB.out | apply below_alloc | apply pw_below_drewN | apply below_drew1 | refine below_set ?_ GE170.out | refine below_set ?_ GE174.out | refine below_set ?_ GE175.out | refine below_set ?_ GE179.out | refine below_set ?_ GE181.out) | exact HB.out)⟩⟩
             case round =>
              clear H'
              try clear c1
              try clear c2
              try clear p2
              try clear c3
              try clear c3b0
              try clear c4
              try clear c4b0
              try clear c6
              try clear p6
              try clear c7
              try clear c7b0
              try clear c14
              try clear c17
              try clear c18
              try clear c20
              try clear c20b0
              try clear c28
              try clear c29
              try clear c32
              try clear c33
              try clear c34
              try clear c36
              try clear c36b0
              try clear c38
              try clear c38b0
              try clear c38b1
              try clear c39
              try clear c40
              try clear c41
              try clear c45
              try clear c46
              try clear c47
              try clear c48
              try clear hcz11_0
              try clear hcz11_1
              try clear hcz15_0
              try clear hcz15_1
              try clear hcz19_0
              try clear hcz19_1
              try clear hcz30_0
              try clear hcz30_1
              try clear hcz35_0
              try clear hcz35_1
              try clear hcz42_0
              try clear hcz42_1
              try clear hcz49_0
              try clear hcz49_1
              try clear hcz6_0
              try clear hcz6_1
              try clear hcz9_0
              try clear hcz9_1
              try clear hfz11_0
              try clear hfz11_1
              try clear hfz15_0
              try clear hfz15_1
              try clear hfz19_0
              try clear hfz19_1
              try clear hfz30_0
              try clear hfz30_1
              try clear hfz35_0
              try clear hfz35_1
              try clear hfz42_0
              try clear hfz42_1
              try clear hfz49_0
              try clear hfz49_1
              try clear hfz6_0
              try clear hfz6_1
              try clear hfz9_0
              try clear hfz9_1
              try clear p2
              try clear p6
              obtain ⟨x52_4, x182000_4, x182001_4, rfl, HA, HK4, BK170, BK174, BK175, BK179, BK181, HB⟩ := hrel
              cases gk with
              | zero => exact absurd HA.out (by simp [smaltoref01_Shift.l3])
              | succ k4 =>
               have H := HA.out
               clear HA
               simp only [smaltoref01_Shift.l3] at H
               by_cases c50 : x52_4 < x10_3
               ·rw [if_pos c50] at H
                have c50b0 : decide (x52_4 < x10_3) = true := decide_eq_true c50
                clear c50
                replace H := Option.bind_eq_some_iff.mp H
                obtain ⟨⟨t182, t183⟩, A510, H⟩ := H
                replace H : (smaltoref01_Shift.l3 k4 a0 x10_3 x10_3 (wrap64 (x52_4 + 1)) x171000_1 x171001_1 0 t173 x176000_2 x176001_2 x180000_3 x180001_3 t182 t183) = some r := H
                have A51 := Aside0.mk A510
                clear A510
                have H' := Aside0.mk H
                clear H
                have hnb52 := NB181_170.out
                have hnc52 := NB170_181.out
                have hnb53 := NB181_174.out
                have hnc53 := NB174_181.out
                have hnb54 := NB181_175.out
                have hnc54 := NB175_181.out
                have hnb55 := NB181_179.out
                have hnc55 := NB179_181.out
                have hcz56_0 : wr.cell? ⟨gb181, 0, none⟩ = some (.int .u64 x182000_4) := (blk_cell BK181.out 0).trans rfl
                have hcz56_1 : wr.cell? ⟨gb181, 1, none⟩ = some (.int .u64 x182001_4) := (blk_cell BK181.out 1).trans rfl
                have hfz56_0 := blk_frozen BK181.out 0
                have hfz56_1 := blk_frozen BK181.out 1
                go_wp2_with (first | ((with_reducible refine gate_callee (f := 67) rfl ?_); refine goesL_ (some 55) rfl rfl Try.func67 (by kernel_rfl) rfl #[.agg #[.int .u64 x182000_4, .int .u64 x182001_4], .int .u64 0] rfl (by (try simp only [List.map_toArray, List.map_cons, List.map_nil]); first | done | rfl | (simp only [List.length_drop, List.length_take]; rfl)) ?_; (with_reducible refine (smaltoref01_Twice.calls x182000_4 x182001_4 0 t182 t183 _ A51.out).mono ?_); rintro e w57 ⟨rfl, hb⟩; refine ⟨_, rfl, ?_⟩; have n0_ := Aside0.mk (blk_below (g := gb170) (o := .cells #[.int .u64 x171000_1, .int .u64 x171001_1] 57 (0, 0)) (by (with_reducible repeat (first | refine blk_drewN ?_ _ | refine blk_drew ?_ | refine blk_alloc ?_ _)); exact BK170.out) hb); have n1_ := Aside0.mk (blk_below (g := gb174) (o := .cells #[.int .u64 0, .int .u64 t173] 57 (0, 0)) (by (with_reducible repeat (first | refine blk_drewN ?_ _ | refine blk_drew ?_ | refine blk_alloc ?_ _)); exact BK174.out) hb); have n2_ := Aside0.mk (blk_below (g := gb175) (o := .cells #[.int .u64 x176000_2, .int .u64 x176001_2] 57 (0, 0)) (by (with_reducible repeat (first | refine blk_drewN ?_ _ | refine blk_drew ?_ | refine blk_alloc ?_ _)); exact BK175.out) hb); have n3_ := Aside0.mk (blk_below (g := gb179) (o := .cells #[.int .u64 x180000_3, .int .u64 x180001_3] 57 (0, 0)) (by (with_reducible repeat (first | refine blk_drewN ?_ _ | refine blk_drew ?_ | refine blk_alloc ?_ _)); exact BK179.out) hb); have n4_ := Aside0.mk (blk_below (g := gb181) (o := .cells #[.int .u64 x182000_4, .int .u64 x182001_4] 57 (0, 0)) (by (with_reducible repeat (first | refine blk_drewN ?_ _ | refine blk_drew ?_ | refine blk_alloc ?_ _)); exact BK181.out) hb); have n5_ := Aside0.mk (below_step (by repeat (first | (with_reducible first | exact HB.out | apply below_alloc | apply pw_below_drewN | apply below_drew1 | refine below_set ?_ GE170.out | refine below_set ?_ GE174.out | refine below_set ?_ GE175.out | refine below_set ?_ GE179.out | refine below_set ?_ GE181.out) | exact HB.out)) hb); clear BK170; clear BK174; clear BK175; clear BK179; clear BK181; clear HB; have BK170 := n0_; have BK174 := n1_; have BK175 := n2_; have BK179 := n3_; have BK181 := n4_; have HB := n5_; clear n0_ n1_ n2_ n3_ n4_ n5_; (try clear hb); (try clear hb2); (try clear hk); (try clear hi); have hcz58_0 : w57.cell? ⟨gb181, 0, none⟩ = some (.int .u64 x182000_4) := (blk_cell BK181.out 0).trans rfl; have hcz58_1 : w57.cell? ⟨gb181, 1, none⟩ = some (.int .u64 x182001_4) := (blk_cell BK181.out 1).trans rfl; have hfz58_0 := blk_frozen BK181.out 0; have hfz58_1 := blk_frozen BK181.out 1))
                go_roundg k4
                case measure => have := HK1.out; have := HK2.out; have := HK3.out; have := HK4.out; omega
                case rel => exact ⟨(wrap64 (x52_4 + 1)), (t182), (t183), (by first | rfl | (simp; done) | (simp [*]; done)), H', ⟨by have := HK1.out; have := HK2.out; have := HK3.out; have := HK4.out; omega⟩, ⟨by (with_reducible repeat (first | refine blk_drewN ?_ _ | refine blk_drew ?_ | refine blk_alloc ?_ _)); refine blk_far ?_ NB170_181.out _; (with_reducible repeat (first | refine blk_drewN ?_ _ | refine blk_drew ?_ | refine blk_alloc ?_ _)); refine blk_far ?_ NB170_181.out _; (with_reducible repeat (first | refine blk_drewN ?_ _ | refine blk_drew ?_ | refine blk_alloc ?_ _)); exact BK170.out⟩, ⟨by (with_reducible repeat (first | refine blk_drewN ?_ _ | refine blk_drew ?_ | refine blk_alloc ?_ _)); refine blk_far ?_ NB174_181.out _; (with_reducible repeat (first | refine blk_drewN ?_ _ | refine blk_drew ?_ | refine blk_alloc ?_ _)); refine blk_far ?_ NB174_181.out _; (with_reducible repeat (first | refine blk_drewN ?_ _ | refine blk_drew ?_ | refine blk_alloc ?_ _)); exact BK174.out⟩, ⟨by (with_reducible repeat (first | refine blk_drewN ?_ _ | refine blk_drew ?_ | refine blk_alloc ?_ _)); refine blk_far ?_ NB175_181.out _; (with_reducible repeat (first | refine blk_drewN ?_ _ | refine blk_drew ?_ | refine blk_alloc ?_ _)); refine blk_far ?_ NB175_181.out _; (with_reducible repeat (first | refine blk_drewN ?_ _ | refine blk_drew ?_ | refine blk_alloc ?_ _)); exact BK175.out⟩, ⟨by (with_reducible repeat (first | refine blk_drewN ?_ _ | refine blk_drew ?_ | refine blk_alloc ?_ _)); refine blk_far ?_ NB179_181.out _; (with_reducible repeat (first | refine blk_drewN ?_ _ | refine blk_drew ?_ | refine blk_alloc ?_ _)); refine blk_far ?_ NB179_181.out _; (with_reducible repeat (first | refine blk_drewN ?_ _ | refine blk_drew ?_ | refine blk_alloc ?_ _)); exact BK179.out⟩, ⟨by (with_reducible repeat (first | refine blk_drewN ?_ _ | refine blk_drew ?_ | refine blk_alloc ?_ _)); refine blk_put (cs := #[.int .u64 t182, .int .u64 x182001_4]) ?_ 1 _ rfl; (with_reducible repeat (first | refine blk_drewN ?_ _ | refine blk_drew ?_ | refine blk_alloc ?_ _)); refine blk_put (cs := #[.int .u64 x182000_4, .int .u64 x182001_4]) ?_ 0 _ rfl; (with_reducible repeat (first | refine blk_drewN ?_ _ | refine blk_drew ?_ | refine blk_alloc ?_ _)); exact BK181.out⟩, ⟨by repeat (first | (with_reducible first | exact HB.out | apply below_alloc | apply pw_below_drewN | apply below_drew1 | refine below_set ?_ GE170.out | refine below_set ?_ GE174.out | refine below_set ?_ GE175.out | refine below_set ?_ GE179.out | refine below_set ?_ GE181.out) | exact HB.out)⟩⟩
               ·rw [if_neg c50] at H
                have c50b0 : decide (x52_4 < x10_3) = false := decide_eq_false c50
                clear c50
                replace H := Option.bind_eq_some_iff.mp H
                obtain ⟨⟨t184, t185⟩, A590, H⟩ := H
                replace H : (smaltoref01_Shift.l2 k4 a0 (wrap64 (x10_3 + 1)) x171000_1 x171001_1 0 t173 x176000_2 x176001_2 t184 t185) = some r := H
                have A59 := Aside0.mk A590
                clear A590
                have H' := Aside0.mk H
                clear H
                have hnb60 := NB179_170.out
                have hnc60 := NB170_179.out
                have hnb61 := NB179_174.out
                have hnc61 := NB174_179.out
                have hnb62 := NB179_175.out
                have hnc62 := NB175_179.out
                have hnb63 := NB179_181.out
                have hnc63 := NB181_179.out
                have hcz64_0 : wr.cell? ⟨gb179, 0, none⟩ = some (.int .u64 x180000_3) := (blk_cell BK179.out 0).trans rfl
                have hcz64_1 : wr.cell? ⟨gb179, 1, none⟩ = some (.int .u64 x180001_3) := (blk_cell BK179.out 1).trans rfl
                have hfz64_0 := blk_frozen BK179.out 0
                have hfz64_1 := blk_frozen BK179.out 1
                have hnb65 := NB181_170.out
                have hnc65 := NB170_181.out
                have hnb66 := NB181_174.out
                have hnc66 := NB174_181.out
                have hnb67 := NB181_175.out
                have hnc67 := NB175_181.out
                have hcz68_0 : wr.cell? ⟨gb181, 0, none⟩ = some (.int .u64 x182000_4) := (blk_cell BK181.out 0).trans rfl
                have hcz68_1 : wr.cell? ⟨gb181, 1, none⟩ = some (.int .u64 x182001_4) := (blk_cell BK181.out 1).trans rfl
                have hfz68_0 := blk_frozen BK181.out 0
                have hfz68_1 := blk_frozen BK181.out 1
                go_wp2_with (first | ((with_reducible refine gate_callee (f := 70) rfl ?_); refine goesL_ (some 59) rfl rfl Try.func70 (by kernel_rfl) rfl #[.agg #[.int .u64 x180000_3, .int .u64 x180001_3], .agg #[.int .u64 x182000_4, .int .u64 x182001_4]] rfl (by (try simp only [List.map_toArray, List.map_cons, List.map_nil]); first | done | rfl | (simp only [List.length_drop, List.length_take]; rfl)) ?_; (with_reducible refine (smaltoref01_Minus.calls x180000_3 x180001_3 x182000_4 x182001_4 t184 t185 _ A59.out).mono ?_); rintro e w69 ⟨rfl, hb⟩; refine ⟨_, rfl, ?_⟩; have n0_ := Aside0.mk (blk_below (g := gb170) (o := .cells #[.int .u64 x171000_1, .int .u64 x171001_1] 57 (0, 0)) (by (with_reducible repeat (first | refine blk_drewN ?_ _ | refine blk_drew ?_ | refine blk_alloc ?_ _)); exact BK170.out) hb); have n1_ := Aside0.mk (blk_below (g := gb174) (o := .cells #[.int .u64 0, .int .u64 t173] 57 (0, 0)) (by (with_reducible repeat (first | refine blk_drewN ?_ _ | refine blk_drew ?_ | refine blk_alloc ?_ _)); exact BK174.out) hb); have n2_ := Aside0.mk (blk_below (g := gb175) (o := .cells #[.int .u64 x176000_2, .int .u64 x176001_2] 57 (0, 0)) (by (with_reducible repeat (first | refine blk_drewN ?_ _ | refine blk_drew ?_ | refine blk_alloc ?_ _)); exact BK175.out) hb); have n3_ := Aside0.mk (blk_below (g := gb179) (o := .cells #[.int .u64 x180000_3, .int .u64 x180001_3] 57 (0, 0)) (by (with_reducible repeat (first | refine blk_drewN ?_ _ | refine blk_drew ?_ | refine blk_alloc ?_ _)); exact BK179.out) hb); have n4_ := Aside0.mk (blk_below (g := gb181) (o := .cells #[.int .u64 x182000_4, .int .u64 x182001_4] 57 (0, 0)) (by (with_reducible repeat (first | refine blk_drewN ?_ _ | refine blk_drew ?_ | refine blk_alloc ?_ _)); exact BK181.out) hb); have n5_ := Aside0.mk (below_step (by repeat (first | (with_reducible first | exact HB.out | apply below_alloc | apply pw_below_drewN | apply below_drew1 | refine below_set ?_ GE170.out | refine below_set ?_ GE174.out | refine below_set ?_ GE175.out | refine below_set ?_ GE179.out | refine below_set ?_ GE181.out) | exact HB.out)) hb); clear BK170; clear BK174; clear BK175; clear BK179; clear BK181; clear HB; have BK170 := n0_; have BK174 := n1_; have BK175 := n2_; have BK179 := n3_; have BK181 := n4_; have HB := n5_; clear n0_ n1_ n2_ n3_ n4_ n5_; (try clear hb); (try clear hb2); (try clear hk); (try clear hi); have hcz70_0 : w69.cell? ⟨gb179, 0, none⟩ = some (.int .u64 x180000_3) := (blk_cell BK179.out 0).trans rfl; have hcz70_1 : w69.cell? ⟨gb179, 1, none⟩ = some (.int .u64 x180001_3) := (blk_cell BK179.out 1).trans rfl; have hfz70_0 := blk_frozen BK179.out 0; have hfz70_1 := blk_frozen BK179.out 1))
                go_roundg k4
                case measure => have := HK1.out; have := HK2.out; have := HK3.out; have := HK4.out; omega
                case rel => exact ⟨(wrap64 (x10_3 + 1)), (t184), (t185), (by first | rfl | (simp; done) | (simp [*]; done)), H', ⟨by have := HK1.out; have := HK2.out; have := HK3.out; have := HK4.out; omega⟩, ⟨by (with_reducible repeat (first | refine blk_drewN ?_ _ | refine blk_drew ?_ | refine blk_alloc ?_ _)); refine blk_far ?_ NB170_179.out _; (with_reducible repeat (first | refine blk_drewN ?_ _ | refine blk_drew ?_ | refine blk_alloc ?_ _)); refine blk_far ?_ NB170_179.out _; (with_reducible repeat (first | refine blk_drewN ?_ _ | refine blk_drew ?_ | refine blk_alloc ?_ _)); exact BK170.out⟩, ⟨by (with_reducible repeat (first | refine blk_drewN ?_ _ | refine blk_drew ?_ | refine blk_alloc ?_ _)); refine blk_far ?_ NB174_179.out _; (with_reducible repeat (first | refine blk_drewN ?_ _ | refine blk_drew ?_ | refine blk_alloc ?_ _)); refine blk_far ?_ NB174_179.out _; (with_reducible repeat (first | refine blk_drewN ?_ _ | refine blk_drew ?_ | refine blk_alloc ?_ _)); exact BK174.out⟩, ⟨by (with_reducible repeat (first | refine blk_drewN ?_ _ | refine blk_drew ?_ | refine blk_alloc ?_ _)); refine blk_far ?_ NB175_179.out _; (with_reducible repeat (first | refine blk_drewN ?_ _ | refine blk_drew ?_ | refine blk_alloc ?_ _)); refine blk_far ?_ NB175_179.out _; (with_reducible repeat (first | refine blk_drewN ?_ _ | refine blk_drew ?_ | refine blk_alloc ?_ _)); exact BK175.out⟩, ⟨by (with_reducible repeat (first | refine blk_drewN ?_ _ | refine blk_drew ?_ | refine blk_alloc ?_ _)); refine blk_put (cs := #[.int .u64 t184, .int .u64 x180001_3]) ?_ 1 _ rfl; (with_reducible repeat (first | refine blk_drewN ?_ _ | refine blk_drew ?_ | refine blk_alloc ?_ _)); refine blk_put (cs := #[.int .u64 x180000_3, .int .u64 x180001_3]) ?_ 0 _ rfl; (with_reducible repeat (first | refine blk_drewN ?_ _ | refine blk_drew ?_ | refine blk_alloc ?_ _)); exact BK179.out⟩, ⟨by repeat (first | (with_reducible first | exact HB.out | apply below_alloc | apply pw_below_drewN | apply below_drew1 | refine below_set ?_ GE170.out | refine below_set ?_ GE174.out | refine below_set ?_ GE175.out | refine below_set ?_ GE179.out | refine below_set ?_ GE181.out) | exact HB.out)⟩⟩
            ·rw [if_neg c38] at H
             have c38b0 : (t180 == 1) = false := beq_eq_false_iff_ne.mpr c38
             have c38b1 : (t180 != 1) = true := bne_iff_ne.mpr c38
             have H' := Aside0.mk H
             clear H
             have hnb71 := NB174_170.out
             have hnc71 := NB170_174.out
             have hnb72 := NB174_175.out
             have hnc72 := NB175_174.out
             have hnb73 := NB174_179.out
             have hnc73 := NB179_174.out
             have hcz74_0 : wr.cell? ⟨gb174, 0, none⟩ = some (.int .u64 0) := (blk_cell BK174.out 0).trans rfl
             have hcz74_1 : wr.cell? ⟨gb174, 1, none⟩ = some (.int .u64 t173) := (blk_cell BK174.out 1).trans rfl
             have hfz74_0 := blk_frozen BK174.out 0
             have hfz74_1 := blk_frozen BK174.out 1
             go_wp2_with (first | ((with_reducible refine gate_callee (f := 68) rfl ?_); refine goesL_ (some 48) rfl rfl Try.func68 (by kernel_rfl) rfl #[.agg #[.int .u64 0, .int .u64 t173], .int .i64 x10_3] rfl (by (try simp only [List.map_toArray, List.map_cons, List.map_nil]); first | done | rfl | (simp only [List.length_drop, List.length_take]; rfl)) ?_; (with_reducible refine (smaltoref01_Bit.calls 0 t173 x10_3 t180 _ A37.out).mono ?_); rintro e w75 ⟨rfl, hb⟩; refine ⟨_, rfl, ?_⟩; have n0_ := Aside0.mk (blk_below (g := gb170) (o := .cells #[.int .u64 x171000_1, .int .u64 x171001_1] 57 (0, 0)) (by (with_reducible repeat (first | refine blk_drewN ?_ _ | refine blk_drew ?_ | refine blk_alloc ?_ _)); exact BK170.out) hb); have n1_ := Aside0.mk (blk_below (g := gb174) (o := .cells #[.int .u64 0, .int .u64 t173] 57 (0, 0)) (by (with_reducible repeat (first | refine blk_drewN ?_ _ | refine blk_drew ?_ | refine blk_alloc ?_ _)); exact BK174.out) hb); have n2_ := Aside0.mk (blk_below (g := gb175) (o := .cells #[.int .u64 x176000_2, .int .u64 x176001_2] 57 (0, 0)) (by (with_reducible repeat (first | refine blk_drewN ?_ _ | refine blk_drew ?_ | refine blk_alloc ?_ _)); exact BK175.out) hb); have n3_ := Aside0.mk (blk_below (g := gb179) (o := .cells #[.int .u64 x180000_3, .int .u64 x180001_3] 57 (0, 0)) (by (with_reducible repeat (first | refine blk_drewN ?_ _ | refine blk_drew ?_ | refine blk_alloc ?_ _)); exact BK179.out) hb); have n4_ := Aside0.mk (below_step (by repeat (first | (with_reducible first | exact HB.out | apply below_alloc | apply pw_below_drewN | apply below_drew1 | refine below_set ?_ GE170.out | refine below_set ?_ GE174.out | refine below_set ?_ GE175.out | refine below_set ?_ GE179.out) | exact HB.out)) hb); clear BK170; clear BK174; clear BK175; clear BK179; clear HB; have BK170 := n0_; have BK174 := n1_; have BK175 := n2_; have BK179 := n3_; have HB := n4_; clear n0_ n1_ n2_ n3_ n4_; (try clear hb); (try clear hb2); (try clear hk); (try clear hi)))
             go_roundg k3
             case measure => have := HK1.out; have := HK2.out; have := HK3.out; omega
             case rel => exact ⟨(wrap64 (x10_3 + 1)), (x180000_3), (x180001_3), (by first | rfl | (simp; done) | (simp [*]; done)), H', ⟨by have := HK1.out; have := HK2.out; have := HK3.out; omega⟩, ⟨by (with_reducible repeat (first | refine blk_drewN ?_ _ | refine blk_drew ?_ | refine blk_alloc ?_ _)); exact BK170.out⟩, ⟨by (with_reducible repeat (first | refine blk_drewN ?_ _ | refine blk_drew ?_ | refine blk_alloc ?_ _)); exact BK174.out⟩, ⟨by (with_reducible repeat (first | refine blk_drewN ?_ _ | refine blk_drew ?_ | refine blk_alloc ?_ _)); exact BK175.out⟩, ⟨by (with_reducible repeat (first | refine blk_drewN ?_ _ | refine blk_drew ?_ | refine blk_alloc ?_ _)); exact BK179.out⟩, ⟨by repeat (first | (with_reducible first | exact HB.out | apply below_alloc | apply pw_below_drewN | apply below_drew1 | refine below_set ?_ GE170.out | refine below_set ?_ GE174.out | refine below_set ?_ GE175.out | refine below_set ?_ GE179.out) | exact HB.out)⟩⟩
           ·rw [if_neg c36] at H
            have c36b0 : decide (x10_3 < 128) = false := decide_eq_false c36
            clear c36
            replace H := Option.bind_eq_some_iff.mp H
            obtain ⟨t186, A760, H⟩ := H
            replace H : (if a0 < 0 then ((smaltoref01_Less.f x171000_1 x171001_1 x180000_3 x180001_3).bind fun t187 => (smaltoref01_Shift.j4 k3 a0 t187 x176000_2 x176001_2)) else (smaltoref01_Shift.j4 k3 a0 (!t186) x176000_2 x176001_2)) = some r := H
            have A76 := Aside0.mk A760
            clear A760
            have HC77 := Aside0.mk H
            clear H
            have hnb78 := NB179_170.out
            have hnc78 := NB170_179.out
            have hnb79 := NB179_174.out
            have hnc79 := NB174_179.out
            have hnb80 := NB179_175.out
            have hnc80 := NB175_179.out
            have hcz81_0 : wr.cell? ⟨gb179, 0, none⟩ = some (.int .u64 x180000_3) := (blk_cell BK179.out 0).trans rfl
            have hcz81_1 : wr.cell? ⟨gb179, 1, none⟩ = some (.int .u64 x180001_3) := (blk_cell BK179.out 1).trans rfl
            have hfz81_0 := blk_frozen BK179.out 0
            have hfz81_1 := blk_frozen BK179.out 1
            have hnb82 := NB170_174.out
            have hnc82 := NB174_170.out
            have hnb83 := NB170_175.out
            have hnc83 := NB175_170.out
            have hcz84_0 : wr.cell? ⟨gb170, 0, none⟩ = some (.int .u64 x171000_1) := (blk_cell BK170.out 0).trans rfl
            have hcz84_1 : wr.cell? ⟨gb170, 1, none⟩ = some (.int .u64 x171001_1) := (blk_cell BK170.out 1).trans rfl
            have hfz84_0 := blk_frozen BK170.out 0
            have hfz84_1 := blk_frozen BK170.out 1
            go_upto_if 65 with (first | ((with_reducible refine gate_callee (f := 69) rfl ?_); refine goesL_ (some 62) rfl rfl Try.func69 (by kernel_rfl) rfl #[.agg #[.int .u64 x180000_3, .int .u64 x180001_3], .agg #[.int .u64 x171000_1, .int .u64 x171001_1]] rfl (by (try simp only [List.map_toArray, List.map_cons, List.map_nil]); first | done | rfl | (simp only [List.length_drop, List.length_take]; rfl)) ?_; (with_reducible refine (smaltoref01_Less.calls x180000_3 x180001_3 x171000_1 x171001_1 t186 _ A76.out).mono ?_); rintro e w85 ⟨rfl, hb⟩; refine ⟨_, rfl, ?_⟩; have n0_ := Aside0.mk (blk_below (g := gb170) (o := .cells #[.int .u64 x171000_1, .int .u64 x171001_1] 57 (0, 0)) (by (with_reducible repeat (first | refine blk_drewN ?_ _ | refine blk_drew ?_ | refine blk_alloc ?_ _)); exact BK170.out) hb); have n1_ := Aside0.mk (blk_below (g := gb174) (o := .cells #[.int .u64 0, .int .u64 t173] 57 (0, 0)) (by (with_reducible repeat (first | refine blk_drewN ?_ _ | refine blk_drew ?_ | refine blk_alloc ?_ _)); exact BK174.out) hb); have n2_ := Aside0.mk (blk_below (g := gb175) (o := .cells #[.int .u64 x176000_2, .int .u64 x176001_2] 57 (0, 0)) (by (with_reducible repeat (first | refine blk_drewN ?_ _ | refine blk_drew ?_ | refine blk_alloc ?_ _)); exact BK175.out) hb); have n3_ := Aside0.mk (blk_below (g := gb179) (o := .cells #[.int .u64 x180000_3, .int .u64 x180001_3] 57 (0, 0)) (by (with_reducible repeat (first | refine blk_drewN ?_ _ | refine blk_drew ?_ | refine blk_alloc ?_ _)); exact BK179.out) hb); have n4_ := Aside0.mk (below_step (by repeat (first | (with_reducible first | exact HB.out | apply below_alloc | apply pw_below_drewN | apply below_drew1 | refine below_set ?_ GE170.out | refine below_set ?_ GE174.out | refine below_set ?_ GE175.out | refine below_set ?_ GE179.out) | exact HB.out)) hb); clear BK170; clear BK174; clear BK175; clear BK179; clear HB; have BK170 := n0_; have BK174 := n1_; have BK175 := n2_; have BK179 := n3_; have HB := n4_; clear n0_ n1_ n2_ n3_ n4_; (try clear hb); (try clear hb2); (try clear hk); (try clear hi)))
            (try simp only [Act.put, List.setIfInBounds_toArray, List.set_cons_zero, List.set_cons_succ])
            go_cut [12] (fun v12 wc => ∃ (kq : Nat) (x12_76 : Bool), v12 = .bool x12_76 ∧ Aside0 (smaltoref01_Shift.j4 kq a0 x12_76 x176000_2 x176001_2 = some r) ∧ Aside0 (kq ≤ k3) ∧ Aside0 (wc.heap[gb170]? = some (.cells #[.int .u64 x171000_1, .int .u64 x171001_1] 57 (0, 0))) ∧ Aside0 (wc.heap[gb174]? = some (.cells #[.int .u64 0, .int .u64 t173] 57 (0, 0))) ∧ Aside0 (wc.heap[gb175]? = some (.cells #[.int .u64 x176000_2, .int .u64 x176001_2] 57 (0, 0))) ∧ Aside0 (wc.heap[gb179]? = some (.cells #[.int .u64 x180000_3, .int .u64 x180001_3] 57 (0, 0))) ∧ Aside0 (Below w.heap.size w wc))
            case first =>
             have H := HC77.out
             clear HC77
             by_cases c86 : a0 < 0
             ·rw [if_pos c86] at H
              have c86b0 : decide (a0 < 0) = true := decide_eq_true c86
              clear c86
              (first | rw [c86b0] | (simp only [i64_w, i32_w]; rw [c86b0]) | skip)
              replace H := Option.bind_eq_some_iff.mp H
              obtain ⟨t187, A870, H⟩ := H
              replace H : (smaltoref01_Shift.j4 k3 a0 t187 x176000_2 x176001_2) = some r := H
              have A87 := Aside0.mk A870
              clear A870
              have H' := Aside0.mk H
              clear H
              have hnb88 := NB170_174.out
              have hnc88 := NB174_170.out
              have hnb89 := NB170_175.out
              have hnc89 := NB175_170.out
              have hnb90 := NB170_179.out
              have hnc90 := NB179_170.out
              have hcz91_0 : w85.cell? ⟨gb170, 0, none⟩ = some (.int .u64 x171000_1) := (blk_cell BK170.out 0).trans rfl
              have hcz91_1 : w85.cell? ⟨gb170, 1, none⟩ = some (.int .u64 x171001_1) := (blk_cell BK170.out 1).trans rfl
              have hfz91_0 := blk_frozen BK170.out 0
              have hfz91_1 := blk_frozen BK170.out 1
              have hnb92 := NB179_174.out
              have hnc92 := NB174_179.out
              have hnb93 := NB179_175.out
              have hnc93 := NB175_179.out
              have hcz94_0 : w85.cell? ⟨gb179, 0, none⟩ = some (.int .u64 x180000_3) := (blk_cell BK179.out 0).trans rfl
              have hcz94_1 : w85.cell? ⟨gb179, 1, none⟩ = some (.int .u64 x180001_3) := (blk_cell BK179.out 1).trans rfl
              have hfz94_0 := blk_frozen BK179.out 0
              have hfz94_1 := blk_frozen BK179.out 1
              go_wp2_with (first | ((with_reducible refine gate_callee (f := 69) rfl ?_); refine goesL_ (some 68) rfl rfl Try.func69 (by kernel_rfl) rfl #[.agg #[.int .u64 x171000_1, .int .u64 x171001_1], .agg #[.int .u64 x180000_3, .int .u64 x180001_3]] rfl (by (try simp only [List.map_toArray, List.map_cons, List.map_nil]); first | done | rfl | (simp only [List.length_drop, List.length_take]; rfl)) ?_; (with_reducible refine (smaltoref01_Less.calls x171000_1 x171001_1 x180000_3 x180001_3 t187 _ A87.out).mono ?_); rintro e w95 ⟨rfl, hb⟩; refine ⟨_, rfl, ?_⟩; have n0_ := Aside0.mk (blk_below (g := gb170) (o := .cells #[.int .u64 x171000_1, .int .u64 x171001_1] 57 (0, 0)) (by (with_reducible repeat (first | refine blk_drewN ?_ _ | refine blk_drew ?_ | refine blk_alloc ?_ _)); exact BK170.out) hb); have n1_ := Aside0.mk (blk_below (g := gb174) (o := .cells #[.int .u64 0, .int .u64 t173] 57 (0, 0)) (by (with_reducible repeat (first | refine blk_drewN ?_ _ | refine blk_drew ?_ | refine blk_alloc ?_ _)); exact BK174.out) hb); have n2_ := Aside0.mk (blk_below (g := gb175) (o := .cells #[.int .u64 x176000_2, .int .u64 x176001_2] 57 (0, 0)) (by (with_reducible repeat (first | refine blk_drewN ?_ _ | refine blk_drew ?_ | refine blk_alloc ?_ _)); exact BK175.out) hb); have n3_ := Aside0.mk (blk_below (g := gb179) (o := .cells #[.int .u64 x180000_3, .int .u64 x180001_3] 57 (0, 0)) (by (with_reducible repeat (first | refine blk_drewN ?_ _ | refine blk_drew ?_ | refine blk_alloc ?_ _)); exact BK179.out) hb); have n4_ := Aside0.mk (below_step (by repeat (first | (with_reducible first | exact HB.out | apply below_alloc | apply pw_below_drewN | apply below_drew1 | refine below_set ?_ GE170.out | refine below_set ?_ GE174.out | refine below_set ?_ GE175.out | refine below_set ?_ GE179.out) | exact HB.out)) hb); clear BK170; clear BK174; clear BK175; clear BK179; clear HB; have BK170 := n0_; have BK174 := n1_; have BK175 := n2_; have BK179 := n3_; have HB := n4_; clear n0_ n1_ n2_ n3_ n4_; (try clear hb); (try clear hb2); (try clear hk); (try clear hi)))
              go_meet
              case rel => exact ⟨_, (t187), (by first | rfl | (simp; done) | (simp [*]; done)), H', ⟨by have := HK1.out; have := HK2.out; have := HK3.out; first | omega | exact Nat.le_refl _⟩, ⟨by (with_reducible repeat (first | refine blk_drewN ?_ _ | refine blk_drew ?_ | refine blk_alloc ?_ _)); exact BK170.out⟩, ⟨by (with_reducible repeat (first | refine blk_drewN ?_ _ | refine blk_drew ?_ | refine blk_alloc ?_ _)); exact BK174.out⟩, ⟨by (with_reducible repeat (first | refine blk_drewN ?_ _ | refine blk_drew ?_ | refine blk_alloc ?_ _)); exact BK175.out⟩, ⟨by (with_reducible repeat (first | refine blk_drewN ?_ _ | refine blk_drew ?_ | refine blk_alloc ?_ _)); exact BK179.out⟩, ⟨by repeat (first | (with_reducible first | exact HB.out | apply below_alloc | apply pw_below_drewN | apply below_drew1 | refine below_set ?_ GE170.out | refine below_set ?_ GE174.out | refine below_set ?_ GE175.out | refine below_set ?_ GE179.out) | exact HB.out)⟩⟩
             ·rw [if_neg c86] at H
              have c86b0 : decide (a0 < 0) = false := decide_eq_false c86
              clear c86
              (first | rw [c86b0] | (simp only [i64_w, i32_w]; rw [c86b0]) | skip)
              have H' := Aside0.mk H
              clear H
              go_wp2
              go_meet
              case rel => exact ⟨_, (!t186), (by first | rfl | (simp; done) | (simp [*]; done)), H', ⟨by have := HK1.out; have := HK2.out; have := HK3.out; first | omega | exact Nat.le_refl _⟩, ⟨by (with_reducible repeat (first | refine blk_drewN ?_ _ | refine blk_drew ?_ | refine blk_alloc ?_ _)); exact BK170.out⟩, ⟨by (with_reducible repeat (first | refine blk_drewN ?_ _ | refine blk_drew ?_ | refine blk_alloc ?_ _)); exact BK174.out⟩, ⟨by (with_reducible repeat (first | refine blk_drewN ?_ _ | refine blk_drew ?_ | refine blk_alloc ?_ _)); exact BK175.out⟩, ⟨by (with_reducible repeat (first | refine blk_drewN ?_ _ | refine blk_drew ?_ | refine blk_alloc ?_ _)); exact BK179.out⟩, ⟨by repeat (first | (with_reducible first | exact HB.out | apply below_alloc | apply pw_below_drewN | apply below_drew1 | refine below_set ?_ GE170.out | refine below_set ?_ GE174.out | refine below_set ?_ GE175.out | refine below_set ?_ GE179.out) | exact HB.out)⟩⟩
            case rest =>
             clear HC77
             try clear c1
             try clear c2
             try clear p2
             try clear c3
             try clear c3b0
             try clear c4
             try clear c4b0
             try clear c5
             try clear c6
             try clear p6
             try clear c7
             try clear c7b0
             try clear c8
             try clear c9
             try clear c14
             try clear c17
             try clear c18
             try clear c20
             try clear c20b0
             try clear c28
             try clear c29
             try clear c32
             try clear c33
             try clear c34
             try clear c36
             try clear c36b0
             try clear c38
             try clear c38b0
             try clear c38b1
             try clear c39
             try clear c40
             try clear c41
             try clear c45
             try clear c46
             try clear c47
             try clear c48
             try clear c50
             try clear c50b0
             try clear c52
             try clear c53
             try clear c54
             try clear c55
             try clear c60
             try clear c61
             try clear c62
             try clear c63
             try clear p64
             try clear c65
             try clear c66
             try clear c67
             try clear c68
             try clear c69
             try clear c70
             try clear c71
             try clear c72
             try clear c73
             try clear c78
             try clear c79
             try clear c80
             try clear c82
             try clear c83
             try clear c86
             try clear c86b0
             try clear c88
             try clear c89
             try clear c90
             try clear c92
             try clear c93
             try clear hcz11_0
             try clear hcz11_1
             try clear hcz15_0
             try clear hcz15_1
             try clear hcz19_0
             try clear hcz19_1
             try clear hcz30_0
             try clear hcz30_1
             try clear hcz35_0
             try clear hcz35_1
             try clear hcz42_0
             try clear hcz42_1
             try clear hcz49_0
             try clear hcz49_1
             try clear hcz56_0
             try clear hcz56_1
             try clear hcz58_0
             try clear hcz58_1
             try clear hcz64_0
             try clear hcz64_1
             try clear hcz68_0
             try clear hcz68_1
             try clear hcz6_0
             try clear hcz6_1
             try clear hcz70_0
             try clear hcz70_1
             try clear hcz74_0
             try clear hcz74_1
             try clear hcz81_0
             try clear hcz81_1
             try clear hcz84_0
             try clear hcz84_1
             try clear hcz91_0
             try clear hcz91_1
             try clear hcz94_0
             try clear hcz94_1
             try clear hcz9_0
             try clear hcz9_1
             try clear hfz11_0
             try clear hfz11_1
             try clear hfz15_0
             try clear hfz15_1
             try clear hfz19_0
             try clear hfz19_1
             try clear hfz30_0
             try clear hfz30_1
             try clear hfz35_0
             try clear hfz35_1
             try clear hfz42_0
             try clear hfz42_1
             try clear hfz49_0
             try clear hfz49_1
             try clear hfz56_0
             try clear hfz56_1
             try clear hfz58_0
             try clear hfz58_1
             try clear hfz64_0
             try clear hfz64_1
             try clear hfz68_0
             try clear hfz68_1
             try clear hfz6_0
             try clear hfz6_1
             try clear hfz70_0
             try clear hfz70_1
             try clear hfz74_0
             try clear hfz74_1
             try clear hfz81_0
             try clear hfz81_1
             try clear hfz84_0
             try clear hfz84_1
             try clear hfz91_0
             try clear hfz91_1
             try clear hfz94_0
             try clear hfz94_1
             try clear hfz9_0
             try clear hfz9_1
             try clear p2
             try clear p6
             obtain ⟨kq, x12_76, rfl, HA, HJ76, BK170, BK174, BK175, BK179, HB⟩ := hcut
             cases kq with
             | zero => exact absurd HA.out (by simp [smaltoref01_Shift.j4])
             | succ kj76 =>
              have H := HA.out
              clear HA
              simp only [smaltoref01_Shift.j4] at H
              by_cases c96 : x12_76 = true
              ·subst c96
               have H1 : ((smaltoref01_Plus.f x176000_2 x176001_2 0 1).bind fun bt188 => ((smaltoref01_Hold.f kj76 bt188.1 bt188.2 (decide (a0 < 0))).bind fun t190 => (some t190))) = some r := by rw [if_pos rfl] at H; exact H
               clear H
               have H := H1
               clear H1
               replace H := Option.bind_eq_some_iff.mp H
               obtain ⟨⟨t188, t189⟩, A970, H⟩ := H
               replace H : ((smaltoref01_Hold.f kj76 t188 t189 (decide (a0 < 0))).bind fun t190 => (some t190)) = some r := H
               have A97 := Aside0.mk A970
               clear A970
               replace H := Option.bind_eq_some_iff.mp H
               obtain ⟨t190, A980, H⟩ := H
               replace H : (some t190) = some r := H
               have A98 := Aside0.mk A980
               clear A980
               obtain rfl := Option.some.inj H
               have hnb99 := NB175_170.out
               have hnc99 := NB170_175.out
               have hnb100 := NB175_174.out
               have hnc100 := NB174_175.out
               have hnb101 := NB175_179.out
               have hnc101 := NB179_175.out
               have hcz102_0 : wc.cell? ⟨gb175, 0, none⟩ = some (.int .u64 x176000_2) := (blk_cell BK175.out 0).trans rfl
               have hcz102_1 : wc.cell? ⟨gb175, 1, none⟩ = some (.int .u64 x176001_2) := (blk_cell BK175.out 1).trans rfl
               have hfz102_0 := blk_frozen BK175.out 0
               have hfz102_1 := blk_frozen BK175.out 1
               go_wp2_with (first | ((with_reducible refine gate_callee (f := 47) rfl ?_); refine goesL_ (some 72) rfl rfl Try.func47 (by kernel_rfl) rfl #[.agg #[.int .u64 x176000_2, .int .u64 x176001_2], .agg #[.int .u64 0, .int .u64 1]] rfl (by (try simp only [List.map_toArray, List.map_cons, List.map_nil]); first | done | rfl | (simp only [List.length_drop, List.length_take]; rfl)) ?_; (with_reducible refine (smaltoref01_Plus.calls x176000_2 x176001_2 0 1 t188 t189 _ A97.out).mono ?_); rintro e w103 ⟨rfl, hb⟩; refine ⟨_, rfl, ?_⟩; have n0_ := Aside0.mk (blk_below (g := gb170) (o := .cells #[.int .u64 x171000_1, .int .u64 x171001_1] 57 (0, 0)) (by (with_reducible repeat (first | refine blk_drewN ?_ _ | refine blk_drew ?_ | refine blk_alloc ?_ _)); exact BK170.out) hb); have n1_ := Aside0.mk (blk_below (g := gb174) (o := .cells #[.int .u64 0, .int .u64 t173] 57 (0, 0)) (by (with_reducible repeat (first | refine blk_drewN ?_ _ | refine blk_drew ?_ | refine blk_alloc ?_ _)); exact BK174.out) hb); have n2_ := Aside0.mk (blk_below (g := gb175) (o := .cells #[.int .u64 x176000_2, .int .u64 x176001_2] 57 (0, 0)) (by (with_reducible repeat (first | refine blk_drewN ?_ _ | refine blk_drew ?_ | refine blk_alloc ?_ _)); exact BK175.out) hb); have n3_ := Aside0.mk (blk_below (g := gb179) (o := .cells #[.int .u64 x180000_3, .int .u64 x180001_3] 57 (0, 0)) (by (with_reducible repeat (first | refine blk_drewN ?_ _ | refine blk_drew ?_ | refine blk_alloc ?_ _)); exact BK179.out) hb); have n4_ := Aside0.mk (below_step (by repeat (first | (with_reducible first | exact HB.out | apply below_alloc | apply pw_below_drewN | apply below_drew1 | refine below_set ?_ GE170.out | refine below_set ?_ GE174.out | refine below_set ?_ GE175.out | refine below_set ?_ GE179.out) | exact HB.out)) hb); clear BK170; clear BK174; clear BK175; clear BK179; clear HB; have BK170 := n0_; have BK174 := n1_; have BK175 := n2_; have BK179 := n3_; have HB := n4_; clear n0_ n1_ n2_ n3_ n4_; (try clear hb); (try clear hb2); (try clear hk); (try clear hi); have hcz104_0 : w103.cell? ⟨gb175, 0, none⟩ = some (.int .u64 x176000_2) := (blk_cell BK175.out 0).trans rfl; have hcz104_1 : w103.cell? ⟨gb175, 1, none⟩ = some (.int .u64 x176001_2) := (blk_cell BK175.out 1).trans rfl; have hfz104_0 := blk_frozen BK175.out 0; have hfz104_1 := blk_frozen BK175.out 1) | ((with_reducible refine gate_callee (f := 48) rfl ?_); refine goesL_ (some 76) rfl rfl Try.func48 (by kernel_rfl) rfl #[.agg #[.int .u64 t188, .int .u64 t189], .bool (decide (a0 < 0))] rfl (by (try simp only [List.map_toArray, List.map_cons, List.map_nil]); first | done | rfl | (simp only [List.length_drop, List.length_take]; rfl)) ?_; (with_reducible refine (smaltoref01_Hold.calls kj76 t188 t189 (decide (a0 < 0)) t190 _ A98.out).mono ?_); rintro e w105 ⟨rfl, hb⟩; refine ⟨_, rfl, ?_⟩; have n0_ := Aside0.mk (blk_below (g := gb170) (o := .cells #[.int .u64 x171000_1, .int .u64 x171001_1] 57 (0, 0)) (by (with_reducible repeat (first | refine blk_drewN ?_ _ | refine blk_drew ?_ | refine blk_alloc ?_ _)); refine blk_far ?_ NB170_175.out _; (with_reducible repeat (first | refine blk_drewN ?_ _ | refine blk_drew ?_ | refine blk_alloc ?_ _)); refine blk_far ?_ NB170_175.out _; (with_reducible repeat (first | refine blk_drewN ?_ _ | refine blk_drew ?_ | refine blk_alloc ?_ _)); exact BK170.out) hb); have n1_ := Aside0.mk (blk_below (g := gb174) (o := .cells #[.int .u64 0, .int .u64 t173] 57 (0, 0)) (by (with_reducible repeat (first | refine blk_drewN ?_ _ | refine blk_drew ?_ | refine blk_alloc ?_ _)); refine blk_far ?_ NB174_175.out _; (with_reducible repeat (first | refine blk_drewN ?_ _ | refine blk_drew ?_ | refine blk_alloc ?_ _)); refine blk_far ?_ NB174_175.out _; (with_reducible repeat (first | refine blk_drewN ?_ _ | refine blk_drew ?_ | refine blk_alloc ?_ _)); exact BK174.out) hb); have n2_ := Aside0.mk (blk_below (g := gb175) (o := .cells #[.int .u64 t188, .int .u64 t189] 57 (0, 0)) (by (with_reducible repeat (first | refine blk_drewN ?_ _ | refine blk_drew ?_ | refine blk_alloc ?_ _)); refine blk_put (cs := #[.int .u64 t188, .int .u64 x176001_2]) ?_ 1 _ rfl; (with_reducible repeat (first | refine blk_drewN ?_ _ | refine blk_drew ?_ | refine blk_alloc ?_ _)); refine blk_put (cs := #[.int .u64 x176000_2, .int .u64 x176001_2]) ?_ 0 _ rfl; (with_reducible repeat (first | refine blk_drewN ?_ _ | refine blk_drew ?_ | refine blk_alloc ?_ _)); exact BK175.out) hb); have n3_ := Aside0.mk (blk_below (g := gb179) (o := .cells #[.int .u64 x180000_3, .int .u64 x180001_3] 57 (0, 0)) (by (with_reducible repeat (first | refine blk_drewN ?_ _ | refine blk_drew ?_ | refine blk_alloc ?_ _)); refine blk_far ?_ NB179_175.out _; (with_reducible repeat (first | refine blk_drewN ?_ _ | refine blk_drew ?_ | refine blk_alloc ?_ _)); refine blk_far ?_ NB179_175.out _; (with_reducible repeat (first | refine blk_drewN ?_ _ | refine blk_drew ?_ | refine blk_alloc ?_ _)); exact BK179.out) hb); have n4_ := Aside0.mk (below_step (by repeat (first | (with_reducible first | exact HB.out | apply below_alloc | apply pw_below_drewN | apply below_drew1 | refine below_set ?_ GE170.out | refine below_set ?_ GE174.out | refine below_set ?_ GE175.out | refine below_set ?_ GE179.out) | exact HB.out)) hb); clear BK170; clear BK174; clear BK175; clear BK179; clear HB; have BK170 := n0_; have BK174 := n1_; have BK175 := n2_; have BK179 := n3_; have HB := n4_; clear n0_ n1_ n2_ n3_ n4_; (try clear hb); (try clear hb2); (try clear hk); (try clear hi)))
               go_ret
               exact ⟨by first | rfl | (simp [errW_none, errW_some] <;> rfl) | (simp [*, errW_none, errW_some] <;> rfl), by repeat (first | (with_reducible first | exact HB.out | apply below_alloc | apply pw_below_drewN | apply below_drew1 | refine below_set ?_ GE170.out | refine below_set ?_ GE174.out | refine below_set ?_ GE175.out | refine below_set ?_ GE179.out) | exact HB.out)⟩
              ·replace c96 := Bool.eq_false_iff.mpr c96
               subst c96
               have H1 : ((smaltoref01_Hold.f kj76 x176000_2 x176001_2 (decide (a0 < 0))).bind fun t191 => (some t191)) = some r := by rw [if_neg (show ¬ (false = true) by decide)] at H; exact H
               clear H
               have H := H1
               clear H1
               replace H := Option.bind_eq_some_iff.mp H
               obtain ⟨t191, A1060, H⟩ := H
               replace H : (some t191) = some r := H
               have A106 := Aside0.mk A1060
               clear A1060
               obtain rfl := Option.some.inj H
               have hnb107 := NB175_170.out
               have hnc107 := NB170_175.out
               have hnb108 := NB175_174.out
               have hnc108 := NB174_175.out
               have hnb109 := NB175_179.out
               have hnc109 := NB179_175.out
               have hcz110_0 : wc.cell? ⟨gb175, 0, none⟩ = some (.int .u64 x176000_2) := (blk_cell BK175.out 0).trans rfl
               have hcz110_1 : wc.cell? ⟨gb175, 1, none⟩ = some (.int .u64 x176001_2) := (blk_cell BK175.out 1).trans rfl
               have hfz110_0 := blk_frozen BK175.out 0
               have hfz110_1 := blk_frozen BK175.out 1
               go_wp2_with (first | ((with_reducible refine gate_callee (f := 48) rfl ?_); refine goesL_ (some 76) rfl rfl Try.func48 (by kernel_rfl) rfl #[.agg #[.int .u64 x176000_2, .int .u64 x176001_2], .bool (decide (a0 < 0))] rfl (by (try simp only [List.map_toArray, List.map_cons, List.map_nil]); first | done | rfl | (simp only [List.length_drop, List.length_take]; rfl)) ?_; (with_reducible refine (smaltoref01_Hold.calls kj76 x176000_2 x176001_2 (decide (a0 < 0)) t191 _ A106.out).mono ?_); rintro e w111 ⟨rfl, hb⟩; refine ⟨_, rfl, ?_⟩; have n0_ := Aside0.mk (blk_below (g := gb170) (o := .cells #[.int .u64 x171000_1, .int .u64 x171001_1] 57 (0, 0)) (by (with_reducible repeat (first | refine blk_drewN ?_ _ | refine blk_drew ?_ | refine blk_alloc ?_ _)); exact BK170.out) hb); have n1_ := Aside0.mk (blk_below (g := gb174) (o := .cells #[.int .u64 0, .int .u64 t173] 57 (0, 0)) (by (with_reducible repeat (first | refine blk_drewN ?_ _ | refine blk_drew ?_ | refine blk_alloc ?_ _)); exact BK174.out) hb); have n2_ := Aside0.mk (blk_below (g := gb175) (o := .cells #[.int .u64 x176000_2, .int .u64 x176001_2] 57 (0, 0)) (by (with_reducible repeat (first | refine blk_drewN ?_ _ | refine blk_drew ?_ | refine blk_alloc ?_ _)); exact BK175.out) hb); have n3_ := Aside0.mk (blk_below (g := gb179) (o := .cells #[.int .u64 x180000_3, .int .u64 x180001_3] 57 (0, 0)) (by (with_reducible repeat (first | refine blk_drewN ?_ _ | refine blk_drew ?_ | refine blk_alloc ?_ _)); exact BK179.out) hb); have n4_ := Aside0.mk (below_step (by repeat (first | (with_reducible first | exact HB.out | apply below_alloc | apply pw_below_drewN | apply below_drew1 | refine below_set ?_ GE170.out | refine below_set ?_ GE174.out | refine below_set ?_ GE175.out | refine below_set ?_ GE179.out) | exact HB.out)) hb); clear BK170; clear BK174; clear BK175; clear BK179; clear HB; have BK170 := n0_; have BK174 := n1_; have BK175 := n2_; have BK179 := n3_; have HB := n4_; clear n0_ n1_ n2_ n3_ n4_; (try clear hb); (try clear hb2); (try clear hk); (try clear hi)))
               go_ret
               exact ⟨by first | rfl | (simp [errW_none, errW_some] <;> rfl) | (simp [*, errW_none, errW_some] <;> rfl), by repeat (first | (with_reducible first | exact HB.out | apply below_alloc | apply pw_below_drewN | apply below_drew1 | refine below_set ?_ GE170.out | refine below_set ?_ GE174.out | refine below_set ?_ GE175.out | refine below_set ?_ GE179.out) | exact HB.out)⟩

end Go.Proofs.Ytabojpnelbmifaa.QM
