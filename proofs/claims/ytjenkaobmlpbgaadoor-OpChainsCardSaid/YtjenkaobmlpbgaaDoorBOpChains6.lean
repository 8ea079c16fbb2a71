/- Joined by wip/tools/bundle.py out of: QAx21. -/
import Derived.Test.YtjenkaobmlpbgaaDoorBOpChains0
namespace Go.Proofs.YtjenkaobmlpbgaaDoor.QA
open Go.Proofs.YtjenkaobmlpbgaaDoor.T
open Go.RowKit Go.Proofs.YtjenkaobmlpbgaaDoorW.PrintWords Go.Proofs.YtjenkaobmlpbgaaDoorW.PrintLast Go.Proofs.YtjenkaobmlpbgaaDoorW.PrintMore
attribute [local go_sem] ext_call max2_int min2_int max_two min_two max_three min_three max_four min_four   -- for this text's walks alone
set_option linter.unusedVariables false
set_option linter.unusedSimpArgs false
def smaltolaw12_Little.l0 : Nat → Int → List (S34) → Int → Int → Option (Bool)
 | 0, _, _, _, _ => none
 | k + 1, x1, x7, x8, x9 => if x9 < x8 then (if 0 ≤ x9 then (if x9 < (x7.length : Int) then (if (((rd_T34 x7 x9).f4).length : Int) > 40 then (some false) else (if (((rd_T34 x7 x9).f5).length : Int) > 40 then (some false) else (if ((rd_T34 x7 x9).f2) > 262144 then (if ((rd_T34 x7 x9).f2) ≤ 4194304 then (some false) else (if ((rd_T34 x7 x9).f3) > 20 then (if ((rd_T34 x7 x9).f3) < 512 then (some false) else (if ((rd_T34 x7 x9).f7) > x1 then (if ((rd_T34 x7 x9).f7) ≤ 65536 then (some false) else (if ((rd_T34 x7 x9).f8) > x1 then (if ((rd_T34 x7 x9).f8) ≤ 65536 then (some false) else (smaltolaw12_Little.l0 k x1 x7 x8 (wrap64 (x9 + 1)))) else (smaltolaw12_Little.l0 k x1 x7 x8 (wrap64 (x9 + 1))))) else (if ((rd_T34 x7 x9).f8) > x1 then (if ((rd_T34 x7 x9).f8) ≤ 65536 then (some false) else (smaltolaw12_Little.l0 k x1 x7 x8 (wrap64 (x9 + 1)))) else (smaltolaw12_Little.l0 k x1 x7 x8 (wrap64 (x9 + 1)))))) else (if ((rd_T34 x7 x9).f7) > x1 then (if ((rd_T34 x7 x9).f7) ≤ 65536 then (some false) else (if ((rd_T34 x7 x9).f8) > x1 then (if ((rd_T34 x7 x9).f8) ≤ 65536 then (some false) else (smaltolaw12_Little.l0 k x1 x7 x8 (wrap64 (x9 + 1)))) else (smaltolaw12_Little.l0 k x1 x7 x8 (wrap64 (x9 + 1))))) else (if ((rd_T34 x7 x9).f8) > x1 then (if ((rd_T34 x7 x9).f8) ≤ 65536 then (some false) else (smaltolaw12_Little.l0 k x1 x7 x8 (wrap64 (x9 + 1)))) else (smaltolaw12_Little.l0 k x1 x7 x8 (wrap64 (x9 + 1))))))) else (if ((rd_T34 x7 x9).f3) > 20 then (if ((rd_T34 x7 x9).f3) < 512 then (some false) else (if ((rd_T34 x7 x9).f7) > x1 then (if ((rd_T34 x7 x9).f7) ≤ 65536 then (some false) else (if ((rd_T34 x7 x9).f8) > x1 then (if ((rd_T34 x7 x9).f8) ≤ 65536 then (some false) else (smaltolaw12_Little.l0 k x1 x7 x8 (wrap64 (x9 + 1)))) else (smaltolaw12_Little.l0 k x1 x7 x8 (wrap64 (x9 + 1))))) else (if ((rd_T34 x7 x9).f8) > x1 then (if ((rd_T34 x7 x9).f8) ≤ 65536 then (some false) else (smaltolaw12_Little.l0 k x1 x7 x8 (wrap64 (x9 + 1)))) else (smaltolaw12_Little.l0 k x1 x7 x8 (wrap64 (x9 + 1)))))) else (if ((rd_T34 x7 x9).f7) > x1 then (if ((rd_T34 x7 x9).f7) ≤ 65536 then (some false) else (if ((rd_T34 x7 x9).f8) > x1 then (if ((rd_T34 x7 x9).f8) ≤ 65536 then (some false) else (smaltolaw12_Little.l0 k x1 x7 x8 (wrap64 (x9 + 1)))) else (smaltolaw12_Little.l0 k x1 x7 x8 (wrap64 (x9 + 1))))) else (if ((rd_T34 x7 x9).f8) > x1 then (if ((rd_T34 x7 x9).f8) ≤ 65536 then (some false) else (smaltolaw12_Little.l0 k x1 x7 x8 (wrap64 (x9 + 1)))) else (smaltolaw12_Little.l0 k x1 x7 x8 (wrap64 (x9 + 1))))))))) else (none)) else (none)) else (some true)
def smaltolaw12_Little.f (k : Nat) (l0 : List (S34)) (a1 : Int) : Option (Bool) := smaltolaw12_Little.l0 k a1 l0 (l0.length : Int) 0
set_option maxHeartbeats 8000000 in
set_option maxRecDepth 100000 in
theorem smaltolaw12_Little.calls (k : Nat) (A0 : Option Addr) (c0 : Nat) (l0 : List (S34)) (a1 : Int) (r : Bool) (w : World) (hr0 : Kd.C k34 w A0 l0.length l0) (hc0 : l0.length ≤ c0) (h : smaltolaw12_Little.f k l0 a1 = some r) :
  Calls Tryd.prog 9 #[.slice A0 l0.length c0, .int .i64 a1] w fun e w' => e = .returned (.bool r) ∧ Below w.heap.size w w' := by
 have hu34 := Tryd.underlying34
 have HR0 := Aside0.mk hr0
 have HC0 := Aside0.mk hc0
 clear hr0 hc0
 have HB := Aside0.mk (Below.refl w.heap.size w)
 have H : (smaltolaw12_Little.l0 k a1 l0 (l0.length : Int) 0) = some r := h
 clear h
 have H' := Aside0.mk H
 clear H
 go_enter Tryd.func9, Tryd.ntmps9
 go_wp2
 go_loopg [9] k (fun kq v9 w' => ∃ (x9_1 : Int), v9 = .int .i64 x9_1 ∧ Aside0 (smaltolaw12_Little.l0 kq a1 l0 (l0.length : Int) x9_1 = some r) ∧ Aside0 (kq ≤ k) ∧ Aside0 (Below w.heap.size w w'))
 case atStart => exact ⟨(0), (by first | rfl | (simp; done) | (simp [*]; done)), H', ⟨Nat.le_refl _⟩, ⟨by repeat (first | (with_reducible first | exact HB.out | apply below_alloc | apply pw_below_drewN | apply below_drew1) | exact HB.out)⟩⟩
 case round =>
  clear H'
  try clear p2
  obtain ⟨x9_1, rfl, HA, HK1, HB⟩ := hrel
  cases gk with
  | zero => exact absurd HA.out (by simp [smaltolaw12_Little.l0])
  | succ k1 =>
   have H := HA.out
   clear HA
   simp only [smaltolaw12_Little.l0] at H
   by_cases c3 : x9_1 < (l0.length : Int)
   ·rw [if_pos c3] at H
    have c3b0 : decide (x9_1 < (l0.length : Int)) = true := decide_eq_true c3
    clear c3
    by_cases c4 : 0 ≤ x9_1
    ·rw [if_pos c4] at H
     have c4b0 : decide (0 ≤ x9_1) = true := decide_eq_true c4
     clear c4
     by_cases c5 : x9_1 < (l0.length : Int)
     ·rw [if_pos c5] at H
      have c5b0 : decide (x9_1 < (l0.length : Int)) = true := decide_eq_true c5
      clear c5
      by_cases c6 : (((rd_T34 l0 x9_1).f4).length : Int) > 40
      ·rw [if_pos c6] at H
       have c6b0 : decide (40 < (((rd_T34 l0 x9_1).f4).length : Int)) = true := decide_eq_true c6
       have c6b1 : decide (40 < ((rd_T34 l0 x9_1).f4).length) = true := decide_eq_true (by omega)
       clear c6
       obtain rfl := Option.some.inj H
       have p257 : 0 ≤ (x9_1 : Int) := of_decide_eq_true (by first | (with_reducible assumption) | assumption)
       have q257 : x9_1 < (l0.length : Int) := of_decide_eq_true (by first | (with_reducible assumption) | assumption)
       obtain ⟨ad257, A257_4, c257_4, A257_5, c257_5, e257, hx257_0, hx257_1, hx257_2, hx257_3, hx257_4, hx257_5, hx257_6, hx257_7, hx257_8, hl257_4, hi257_4, hl257_5, hi257_5⟩ := at_T34 HR0.out x9_1 p257 q257
       cases e257
       replace hx257_0 := (HB.out.cell (World.block_lt_of_cell? w _ hx257_0)).trans hx257_0
       replace hx257_1 := (HB.out.cell (World.block_lt_of_cell? w _ hx257_1)).trans hx257_1
       replace hx257_2 := (HB.out.cell (World.block_lt_of_cell? w _ hx257_2)).trans hx257_2
       replace hx257_3 := (HB.out.cell (World.block_lt_of_cell? w _ hx257_3)).trans hx257_3
       replace hx257_4 := (HB.out.cell (World.block_lt_of_cell? w _ hx257_4)).trans hx257_4
       replace hx257_5 := (HB.out.cell (World.block_lt_of_cell? w _ hx257_5)).trans hx257_5
       replace hx257_6 := (HB.out.cell (World.block_lt_of_cell? w _ hx257_6)).trans hx257_6
       replace hx257_7 := (HB.out.cell (World.block_lt_of_cell? w _ hx257_7)).trans hx257_7
       replace hx257_8 := (HB.out.cell (World.block_lt_of_cell? w _ hx257_8)).trans hx257_8
       have HR257_4 := Aside0.mk hi257_4
       have HC257_4 := Aside0.mk hl257_4
       clear hi257_4 hl257_4
       have HR257_5 := Aside0.mk hi257_5
       have HC257_5 := Aside0.mk hl257_5
       clear hi257_5 hl257_5
       replace p257 := eq_true p257
       replace q257 := eq_true q257
       go_wp2_with (first | ((with_reducible refine gate_dst (N := 6) rfl ?_); (try (refine gate_guard (by rfl) ?_; dsimp only)); refine box_event ?hg (N := 6) ?hd (cs := #[.int .i64 0, .int .i64 0, .int .i64 0, .int .i64 0, .slice none 0 0, .slice none 0 0, .int .i64 0, .int .i64 0, .int .i64 0]) (t := 34) ?hr ?_; (case hd => rfl); (case hg => rfl); (case hr => first | (go_simp; done) | (go_simp; rfl)); intro gb258 hg w7 hbox hb; have n0_ := Aside0.mk (below_step (by repeat (first | (with_reducible first | exact HB.out | apply below_alloc | apply pw_below_drewN | apply below_drew1) | exact HB.out)) hb); have n1_ := Aside0.mk (hbox); have n2_ := Aside0.mk ((by rw [hg]; exact (below_size (by repeat (first | (with_reducible first | exact HB.out | apply below_alloc | apply pw_below_drewN | apply below_drew1) | exact HB.out))) : w.heap.size ≤ gb258)); have n3_ := Aside0.mk ((by rw [hg]; exact (below_size (by repeat (first | (with_reducible first | exact HB.out | apply below_alloc | apply pw_below_drewN | apply below_drew1) | exact HB.out))) : w.heap.size ≤ gb258)); clear HB; have HB := n0_; have BK258 := n1_; have GW258 := n2_; have GE258 := n3_; clear n0_ n1_ n2_ n3_; clear hb hbox hg; have hcz8_0 : w7.cell? ⟨gb258, 0, none⟩ = some (.int .i64 0) := (blk_cell BK258.out 0).trans rfl; have hcz8_1 : w7.cell? ⟨gb258, 1, none⟩ = some (.int .i64 0) := (blk_cell BK258.out 1).trans rfl; have hcz8_2 : w7.cell? ⟨gb258, 2, none⟩ = some (.int .i64 0) := (blk_cell BK258.out 2).trans rfl; have hcz8_3 : w7.cell? ⟨gb258, 3, none⟩ = some (.int .i64 0) := (blk_cell BK258.out 3).trans rfl; have hcz8_4 : w7.cell? ⟨gb258, 4, none⟩ = some (.slice none 0 0) := (blk_cell BK258.out 4).trans rfl; have hcz8_5 : w7.cell? ⟨gb258, 5, none⟩ = some (.slice none 0 0) := (blk_cell BK258.out 5).trans rfl; have hcz8_6 : w7.cell? ⟨gb258, 6, none⟩ = some (.int .i64 0) := (blk_cell BK258.out 6).trans rfl; have hcz8_7 : w7.cell? ⟨gb258, 7, none⟩ = some (.int .i64 0) := (blk_cell BK258.out 7).trans rfl; have hcz8_8 : w7.cell? ⟨gb258, 8, none⟩ = some (.int .i64 0) := (blk_cell BK258.out 8).trans rfl; have hfz8_0 := blk_frozen BK258.out 0; have hfz8_1 := blk_frozen BK258.out 1; have hfz8_2 := blk_frozen BK258.out 2; have hfz8_3 := blk_frozen BK258.out 3; have hfz8_4 := blk_frozen BK258.out 4; have hfz8_5 := blk_frozen BK258.out 5; have hfz8_6 := blk_frozen BK258.out 6; have hfz8_7 := blk_frozen BK258.out 7; have hfz8_8 := blk_frozen BK258.out 8))
       go_ret
       exact ⟨by first | rfl | (simp [errW_none, errW_some] <;> rfl) | (simp [*, errW_none, errW_some] <;> rfl), by repeat (first | (with_reducible first | exact HB.out | apply below_alloc | apply pw_below_drewN | apply below_drew1 | refine below_set ?_ GE258.out) | exact HB.out)⟩
      ·rw [if_neg c6] at H
       have c6b0 : decide (40 < (((rd_T34 l0 x9_1).f4).length : Int)) = false := decide_eq_false c6
       have c6b1 : decide (40 < ((rd_T34 l0 x9_1).f4).length) = false := decide_eq_false (by omega)
       clear c6
       by_cases c9 : (((rd_T34 l0 x9_1).f5).length : Int) > 40
       ·rw [if_pos c9] at H
        have c9b0 : decide (40 < (((rd_T34 l0 x9_1).f5).length : Int)) = true := decide_eq_true c9
        have c9b1 : decide (40 < ((rd_T34 l0 x9_1).f5).length) = true := decide_eq_true (by omega)
        clear c9
        obtain rfl := Option.some.inj H
        have p257 : 0 ≤ (x9_1 : Int) := of_decide_eq_true (by first | (with_reducible assumption) | assumption)
        have q257 : x9_1 < (l0.length : Int) := of_decide_eq_true (by first | (with_reducible assumption) | assumption)
        obtain ⟨ad257, A257_4, c257_4, A257_5, c257_5, e257, hx257_0, hx257_1, hx257_2, hx257_3, hx257_4, hx257_5, hx257_6, hx257_7, hx257_8, hl257_4, hi257_4, hl257_5, hi257_5⟩ := at_T34 HR0.out x9_1 p257 q257
        cases e257
        replace hx257_0 := (HB.out.cell (World.block_lt_of_cell? w _ hx257_0)).trans hx257_0
        replace hx257_1 := (HB.out.cell (World.block_lt_of_cell? w _ hx257_1)).trans hx257_1
        replace hx257_2 := (HB.out.cell (World.block_lt_of_cell? w _ hx257_2)).trans hx257_2
        replace hx257_3 := (HB.out.cell (World.block_lt_of_cell? w _ hx257_3)).trans hx257_3
        replace hx257_4 := (HB.out.cell (World.block_lt_of_cell? w _ hx257_4)).trans hx257_4
        replace hx257_5 := (HB.out.cell (World.block_lt_of_cell? w _ hx257_5)).trans hx257_5
        replace hx257_6 := (HB.out.cell (World.block_lt_of_cell? w _ hx257_6)).trans hx257_6
        replace hx257_7 := (HB.out.cell (World.block_lt_of_cell? w _ hx257_7)).trans hx257_7
        replace hx257_8 := (HB.out.cell (World.block_lt_of_cell? w _ hx257_8)).trans hx257_8
        have HR257_4 := Aside0.mk hi257_4
        have HC257_4 := Aside0.mk hl257_4
        clear hi257_4 hl257_4
        have HR257_5 := Aside0.mk hi257_5
        have HC257_5 := Aside0.mk hl257_5
        clear hi257_5 hl257_5
        replace p257 := eq_true p257
        replace q257 := eq_true q257
        go_wp2_with (first | ((with_reducible refine gate_dst (N := 6) rfl ?_); (try (refine gate_guard (by rfl) ?_; dsimp only)); refine box_event ?hg (N := 6) ?hd (cs := #[.int .i64 0, .int .i64 0, .int .i64 0, .int .i64 0, .slice none 0 0, .slice none 0 0, .int .i64 0, .int .i64 0, .int .i64 0]) (t := 34) ?hr ?_; (case hd => rfl); (case hg => rfl); (case hr => first | (go_simp; done) | (go_simp; rfl)); intro gb258 hg w10 hbox hb; have n0_ := Aside0.mk (below_step (by repeat (first | (with_reducible first | exact HB.out | apply below_alloc | apply pw_below_drewN | apply below_drew1) | exact HB.out)) hb); have n1_ := Aside0.mk (hbox); have n2_ := Aside0.mk ((by rw [hg]; exact (below_size (by repeat (first | (with_reducible first | exact HB.out | apply below_alloc | apply pw_below_drewN | apply below_drew1) | exact HB.out))) : w.heap.size ≤ gb258)); have n3_ := Aside0.mk ((by rw [hg]; exact (below_size (by repeat (first | (with_reducible first | exact HB.out | apply below_alloc | apply pw_below_drewN | apply below_drew1) | exact HB.out))) : w.heap.size ≤ gb258)); clear HB; have HB := n0_; have BK258 := n1_; have GW258 := n2_; have GE258 := n3_; clear n0_ n1_ n2_ n3_; clear hb hbox hg; have hcz11_0 : w10.cell? ⟨gb258, 0, none⟩ = some (.int .i64 0) := (blk_cell BK258.out 0).trans rfl; have hcz11_1 : w10.cell? ⟨gb258, 1, none⟩ = some (.int .i64 0) := (blk_cell BK258.out 1).trans rfl; have hcz11_2 : w10.cell? ⟨gb258, 2, none⟩ = some (.int .i64 0) := (blk_cell BK258.out 2).trans rfl; have hcz11_3 : w10.cell? ⟨gb258, 3, none⟩ = some (.int .i64 0) := (blk_cell BK258.out 3).trans rfl; have hcz11_4 : w10.cell? ⟨gb258, 4, none⟩ = some (.slice none 0 0) := (blk_cell BK258.out 4).trans rfl; have hcz11_5 : w10.cell? ⟨gb258, 5, none⟩ = some (.slice none 0 0) := (blk_cell BK258.out 5).trans rfl; have hcz11_6 : w10.cell? ⟨gb258, 6, none⟩ = some (.int .i64 0) := (blk_cell BK258.out 6).trans rfl; have hcz11_7 : w10.cell? ⟨gb258, 7, none⟩ = some (.int .i64 0) := (blk_cell BK258.out 7).trans rfl; have hcz11_8 : w10.cell? ⟨gb258, 8, none⟩ = some (.int .i64 0) := (blk_cell BK258.out 8).trans rfl; have hfz11_0 := blk_frozen BK258.out 0; have hfz11_1 := blk_frozen BK258.out 1; have hfz11_2 := blk_frozen BK258.out 2; have hfz11_3 := blk_frozen BK258.out 3; have hfz11_4 := blk_frozen BK258.out 4; have hfz11_5 := blk_frozen BK258.out 5; have hfz11_6 := blk_frozen BK258.out 6; have hfz11_7 := blk_frozen BK258.out 7; have hfz11_8 := blk_frozen BK258.out 8))
        go_ret
        exact ⟨by first | rfl | (simp [errW_none, errW_some] <;> rfl) | (simp [*, errW_none, errW_some] <;> rfl), by repeat (first | (with_reducible first | exact HB.out | apply below_alloc | apply pw_below_drewN | apply below_drew1 | refine below_set ?_ GE258.out) | exact HB.out)⟩
       ·rw [if_neg c9] at H
        have c9b0 : decide (40 < (((rd_T34 l0 x9_1).f5).length : Int)) = false := decide_eq_false c9
        have c9b1 : decide (40 < ((rd_T34 l0 x9_1).f5).length) = false := decide_eq_false (by omega)
        clear c9
        by_cases c12 : ((rd_T34 l0 x9_1).f2) > 262144
        ·rw [if_pos c12] at H
         have c12b0 : decide (262144 < ((rd_T34 l0 x9_1).f2)) = true := decide_eq_true c12
         clear c12
         by_cases c13 : ((rd_T34 l0 x9_1).f2) ≤ 4194304
         ·rw [if_pos c13] at H
          have c13b0 : decide (((rd_T34 l0 x9_1).f2) ≤ 4194304) = true := decide_eq_true c13
          clear c13
          obtain rfl := Option.some.inj H
          have p257 : 0 ≤ (x9_1 : Int) := of_decide_eq_true (by first | (with_reducible assumption) | assumption)
          have q257 : x9_1 < (l0.length : Int) := of_decide_eq_true (by first | (with_reducible assumption) | assumption)
          obtain ⟨ad257, A257_4, c257_4, A257_5, c257_5, e257, hx257_0, hx257_1, hx257_2, hx257_3, hx257_4, hx257_5, hx257_6, hx257_7, hx257_8, hl257_4, hi257_4, hl257_5, hi257_5⟩ := at_T34 HR0.out x9_1 p257 q257
          cases e257
          replace hx257_0 := (HB.out.cell (World.block_lt_of_cell? w _ hx257_0)).trans hx257_0
          replace hx257_1 := (HB.out.cell (World.block_lt_of_cell? w _ hx257_1)).trans hx257_1
          replace hx257_2 := (HB.out.cell (World.block_lt_of_cell? w _ hx257_2)).trans hx257_2
          replace hx257_3 := (HB.out.cell (World.block_lt_of_cell? w _ hx257_3)).trans hx257_3
          replace hx257_4 := (HB.out.cell (World.block_lt_of_cell? w _ hx257_4)).trans hx257_4
          replace hx257_5 := (HB.out.cell (World.block_lt_of_cell? w _ hx257_5)).trans hx257_5
          replace hx257_6 := (HB.out.cell (World.block_lt_of_cell? w _ hx257_6)).trans hx257_6
          replace hx257_7 := (HB.out.cell (World.block_lt_of_cell? w _ hx257_7)).trans hx257_7
          replace hx257_8 := (HB.out.cell (World.block_lt_of_cell? w _ hx257_8)).trans hx257_8
          have HR257_4 := Aside0.mk hi257_4
          have HC257_4 := Aside0.mk hl257_4
          clear hi257_4 hl257_4
          have HR257_5 := Aside0.mk hi257_5
          have HC257_5 := Aside0.mk hl257_5
          clear hi257_5 hl257_5
          replace p257 := eq_true p257
          replace q257 := eq_true q257
          go_wp2_with (first | ((with_reducible refine gate_dst (N := 6) rfl ?_); (try (refine gate_guard (by rfl) ?_; dsimp only)); refine box_event ?hg (N := 6) ?hd (cs := #[.int .i64 0, .int .i64 0, .int .i64 0, .int .i64 0, .slice none 0 0, .slice none 0 0, .int .i64 0, .int .i64 0, .int .i64 0]) (t := 34) ?hr ?_; (case hd => rfl); (case hg => rfl); (case hr => first | (go_simp; done) | (go_simp; rfl)); intro gb258 hg w14 hbox hb; have n0_ := Aside0.mk (below_step (by repeat (first | (with_reducible first | exact HB.out | apply below_alloc | apply pw_below_drewN | apply below_drew1) | exact HB.out)) hb); have n1_ := Aside0.mk (hbox); have n2_ := Aside0.mk ((by rw [hg]; exact (below_size (by repeat (first | (with_reducible first | exact HB.out | apply below_alloc | apply pw_below_drewN | apply below_drew1) | exact HB.out))) : w.heap.size ≤ gb258)); have n3_ := Aside0.mk ((by rw [hg]; exact (below_size (by repeat (first | (with_reducible first | exact HB.out | apply below_alloc | apply pw_below_drewN | apply below_drew1) | exact HB.out))) : w.heap.size ≤ gb258)); clear HB; have HB := n0_; have BK258 := n1_; have GW258 := n2_; have GE258 := n3_; clear n0_ n1_ n2_ n3_; clear hb hbox hg; have hcz15_0 : w14.cell? ⟨gb258, 0, none⟩ = some (.int .i64 0) := (blk_cell BK258.out 0).trans rfl; have hcz15_1 : w14.cell? ⟨gb258, 1, none⟩ = some (.int .i64 0) := (blk_cell BK258.out 1).trans rfl; have hcz15_2 : w14.cell? ⟨gb258, 2, none⟩ = some (.int .i64 0) := (blk_cell BK258.out 2).trans rfl; have hcz15_3 : w14.cell? ⟨gb258, 3, none⟩ = some (.int .i64 0) := (blk_cell BK258.out 3).trans rfl; have hcz15_4 : w14.cell? ⟨gb258, 4, none⟩ = some (.slice none 0 0) := (blk_cell BK258.out 4).trans rfl; have hcz15_5 : w14.cell? ⟨gb258, 5, none⟩ = some (.slice none 0 0) := (blk_cell BK258.out 5).trans rfl; have hcz15_6 : w14.cell? ⟨gb258, 6, none⟩ = some (.int .i64 0) := (blk_cell BK258.out 6).trans rfl; have hcz15_7 : w14.cell? ⟨gb258, 7, none⟩ = some (.int .i64 0) := (blk_cell BK258.out 7).trans rfl; have hcz15_8 : w14.cell? ⟨gb258, 8, none⟩ = some (.int .i64 0) := (blk_cell BK258.out 8).trans rfl; have hfz15_0 := blk_frozen BK258.out 0; have hfz15_1 := blk_frozen BK258.out 1; have hfz15_2 := blk_frozen BK258.out 2; have hfz15_3 := blk_frozen BK258.out 3; have hfz15_4 := blk_frozen BK258.out 4; have hfz15_5 := blk_frozen BK258.out 5; have hfz15_6 := blk_frozen BK258.out 6; have hfz15_7 := blk_frozen BK258.out 7; have hfz15_8 := blk_frozen BK258.out 8))
          go_ret
          exact ⟨by first | rfl | (simp [errW_none, errW_some] <;> rfl) | (simp [*, errW_none, errW_some] <;> rfl), by repeat (first | (with_reducible first | exact HB.out | apply below_alloc | apply pw_below_drewN | apply below_drew1 | refine below_set ?_ GE258.out) | exact HB.out)⟩
         ·rw [if_neg c13] at H
          have c13b0 : decide (((rd_T34 l0 x9_1).f2) ≤ 4194304) = false := decide_eq_false c13
          clear c13
          by_cases c16 : ((rd_T34 l0 x9_1).f3) > 20
          ·rw [if_pos c16] at H
           have c16b0 : decide (20 < ((rd_T34 l0 x9_1).f3)) = true := decide_eq_true c16
           clear c16
           by_cases c17 : ((rd_T34 l0 x9_1).f3) < 512
           ·rw [if_pos c17] at H
            have c17b0 : decide (((rd_T34 l0 x9_1).f3) < 512) = true := decide_eq_true c17
            clear c17
            obtain rfl := Option.some.inj H
            have p257 : 0 ≤ (x9_1 : Int) := of_decide_eq_true (by first | (with_reducible assumption) | assumption)
            have q257 : x9_1 < (l0.length : Int) := of_decide_eq_true (by first | (with_reducible assumption) | assumption)
            obtain ⟨ad257, A257_4, c257_4, A257_5, c257_5, e257, hx257_0, hx257_1, hx257_2, hx257_3, hx257_4, hx257_5, hx257_6, hx257_7, hx257_8, hl257_4, hi257_4, hl257_5, hi257_5⟩ := at_T34 HR0.out x9_1 p257 q257
            cases e257
            replace hx257_0 := (HB.out.cell (World.block_lt_of_cell? w _ hx257_0)).trans hx257_0
            replace hx257_1 := (HB.out.cell (World.block_lt_of_cell? w _ hx257_1)).trans hx257_1
            replace hx257_2 := (HB.out.cell (World.block_lt_of_cell? w _ hx257_2)).trans hx257_2
            replace hx257_3 := (HB.out.cell (World.block_lt_of_cell? w _ hx257_3)).trans hx257_3
            replace hx257_4 := (HB.out.cell (World.block_lt_of_cell? w _ hx257_4)).trans hx257_4
            replace hx257_5 := (HB.out.cell (World.block_lt_of_cell? w _ hx257_5)).trans hx257_5
            replace hx257_6 := (HB.out.cell (World.block_lt_of_cell? w _ hx257_6)).trans hx257_6
            replace hx257_7 := (HB.out.cell (World.block_lt_of_cell? w _ hx257_7)).trans hx257_7
            replace hx257_8 := (HB.out.cell (World.block_lt_of_cell? w _ hx257_8)).trans hx257_8
            have HR257_4 := Aside0.mk hi257_4
            have HC257_4 := Aside0.mk hl257_4
            clear hi257_4 hl257_4
            have HR257_5 := Aside0.mk hi257_5
            have HC257_5 := Aside0.mk hl257_5
            clear hi257_5 hl257_5
            replace p257 := eq_true p257
            replace q257 := eq_true q257
            go_wp2_with (first | ((with_reducible refine gate_dst (N := 6) rfl ?_); (try (refine gate_guard (by rfl) ?_; dsimp only)); refine box_event ?hg (N := 6) ?hd (cs := #[.int .i64 0, .int .i64 0, .int .i64 0, .int .i64 0, .slice none 0 0, .slice none 0 0, .int .i64 0, .int .i64 0, .int .i64 0]) (t := 34) ?hr ?_; (case hd => rfl); (case hg => rfl); (case hr => first | (go_simp; done) | (go_simp; rfl)); intro gb258 hg w18 hbox hb; have n0_ := Aside0.mk (below_step (by repeat (first | (with_reducible first | exact HB.out | apply below_alloc | apply pw_below_drewN | apply below_drew1) | exact HB.out)) hb); have n1_ := Aside0.mk (hbox); have n2_ := Aside0.mk ((by rw [hg]; exact (below_size (by repeat (first | (with_reducible first | exact HB.out | apply below_alloc | apply pw_below_drewN | apply below_drew1) | exact HB.out))) : w.heap.size ≤ gb258)); have n3_ := Aside0.mk ((by rw [hg]; exact (below_size (by repeat (first | (with_reducible first | exact HB.out | apply below_alloc | apply pw_below_drewN | apply below_drew1) | exact HB.out))) : w.heap.size ≤ gb258)); clear HB; have HB := n0_; have BK258 := n1_; have GW258 := n2_; have GE258 := n3_; clear n0_ n1_ n2_ n3_; clear hb hbox hg; have hcz19_0 : w18.cell? ⟨gb258, 0, none⟩ = some (.int .i64 0) := (blk_cell BK258.out 0).trans rfl; have hcz19_1 : w18.cell? ⟨gb258, 1, none⟩ = some (.int .i64 0) := (blk_cell BK258.out 1).trans rfl; have hcz19_2 : w18.cell? ⟨gb258, 2, none⟩ = some (.int .i64 0) := (blk_cell BK258.out 2).trans rfl; have hcz19_3 : w18.cell? ⟨gb258, 3, none⟩ = some (.int .i64 0) := (blk_cell BK258.out 3).trans rfl; have hcz19_4 : w18.cell? ⟨gb258, 4, none⟩ = some (.slice none 0 0) := (blk_cell BK258.out 4).trans rfl; have hcz19_5 : w18.cell? ⟨gb258, 5, none⟩ = some (.slice none 0 0) := (blk_cell BK258.out 5).trans rfl; have hcz19_6 : w18.cell? ⟨gb258, 6, none⟩ = some (.int .i64 0) := (blk_cell BK258.out 6).trans rfl; have hcz19_7 : w18.cell? ⟨gb258, 7, none⟩ = some (.int .i64 0) := (blk_cell BK258.out 7).trans rfl; have hcz19_8 : w18.cell? ⟨gb258, 8, none⟩ = some (.int .i64 0) := (blk_cell BK258.out 8).trans rfl; have hfz19_0 := blk_frozen BK258.out 0; have hfz19_1 := blk_frozen BK258.out 1; have hfz19_2 := blk_frozen BK258.out 2; have hfz19_3 := blk_frozen BK258.out 3; have hfz19_4 := blk_frozen BK258.out 4; have hfz19_5 := blk_frozen BK258.out 5; have hfz19_6 := blk_frozen BK258.out 6; have hfz19_7 := blk_frozen BK258.out 7; have hfz19_8 := blk_frozen BK258.out 8))
            go_ret
            exact ⟨by first | rfl | (simp [errW_none, errW_some] <;> rfl) | (simp [*, errW_none, errW_some] <;> rfl), by repeat (first | (with_reducible first | exact HB.out | apply below_alloc | apply pw_below_drewN | apply below_drew1 | refine below_set ?_ GE258.out) | exact HB.out)⟩
           ·rw [if_neg c17] at H
            have c17b0 : decide (((rd_T34 l0 x9_1).f3) < 512) = false := decide_eq_false c17
            clear c17
            by_cases c20 : ((rd_T34 l0 x9_1).f7) > a1
            ·rw [if_pos c20] at H
             have c20b0 : decide (a1 < ((rd_T34 l0 x9_1).f7)) = true := decide_eq_true c20
             clear c20
             by_cases c21 : ((rd_T34 l0 x9_1).f7) ≤ 65536
             ·rw [if_pos c21] at H
              have c21b0 : decide (((rd_T34 l0 x9_1).f7) ≤ 65536) = true := decide_eq_true c21
              clear c21
              obtain rfl := Option.some.inj H
              have p257 : 0 ≤ (x9_1 : Int) := of_decide_eq_true (by first | (with_reducible assumption) | assumption)
              have q257 : x9_1 < (l0.length : Int) := of_decide_eq_true (by first | (with_reducible assumption) | assumption)
              obtain ⟨ad257, A257_4, c257_4, A257_5, c257_5, e257, hx257_0, hx257_1, hx257_2, hx257_3, hx257_4, hx257_5, hx257_6, hx257_7, hx257_8, hl257_4, hi257_4, hl257_5, hi257_5⟩ := at_T34 HR0.out x9_1 p257 q257
              cases e257
              replace hx257_0 := (HB.out.cell (World.block_lt_of_cell? w _ hx257_0)).trans hx257_0
              replace hx257_1 := (HB.out.cell (World.block_lt_of_cell? w _ hx257_1)).trans hx257_1
              replace hx257_2 := (HB.out.cell (World.block_lt_of_cell? w _ hx257_2)).trans hx257_2
              replace hx257_3 := (HB.out.cell (World.block_lt_of_cell? w _ hx257_3)).trans hx257_3
              replace hx257_4 := (HB.out.cell (World.block_lt_of_cell? w _ hx257_4)).trans hx257_4
              replace hx257_5 := (HB.out.cell (World.block_lt_of_cell? w _ hx257_5)).trans hx257_5
              replace hx257_6 := (HB.out.cell (World.block_lt_of_cell? w _ hx257_6)).trans hx257_6
              replace hx257_7 := (HB.out.cell (World.block_lt_of_cell? w _ hx257_7)).trans hx257_7
              replace hx257_8 := (HB.out.cell (World.block_lt_of_cell? w _ hx257_8)).trans hx257_8
              have HR257_4 := Aside0.mk hi257_4
              have HC257_4 := Aside0.mk hl257_4
              clear hi257_4 hl257_4
              have HR257_5 := Aside0.mk hi257_5
              have HC257_5 := Aside0.mk hl257_5
              clear hi257_5 hl257_5
              replace p257 := eq_true p257
              replace q257 := eq_true q257
              go_wp2_with (first | ((with_reducible refine gate_dst (N := 6) rfl ?_); (try (refine gate_guard (by rfl) ?_; dsimp only)); refine box_event ?hg (N := 6) ?hd (cs := #[.int .i64 0, .int .i64 0, .int .i64 0, .int .i64 0, .slice none 0 0, .slice none 0 0, .int .i64 0, .int .i64 0, .int .i64 0]) (t := 34) ?hr ?_; (case hd => rfl); (case hg => rfl); (case hr => first | (go_simp; done) | (go_simp; rfl)); intro gb258 hg w22 hbox hb; have n0_ := Aside0.mk (below_step (by repeat (first | (with_reducible first | exact HB.out | apply below_alloc | apply pw_below_drewN | apply below_drew1) | exact HB.out)) hb); have n1_ := Aside0.mk (hbox); have n2_ := Aside0.mk ((by rw [hg]; exact (below_size (by repeat (first | (with_reducible first | exact HB.out | apply below_alloc | apply pw_below_drewN | apply below_drew1) | exact HB.out))) : w.heap.size ≤ gb258)); have n3_ := Aside0.mk ((by rw [hg]; exact (below_size (by repeat (first | (with_reducible first | exact HB.out | apply below_alloc | apply pw_below_drewN | apply below_drew1) | exact HB.out))) : w.heap.size ≤ gb258)); clear HB; have HB := n0_; have BK258 := n1_; have GW258 := n2_; have GE258 := n3_; clear n0_ n1_ n2_ n3_; clear hb hbox hg; have hcz23_0 : w22.cell? ⟨gb258, 0, none⟩ = some (.int .i64 0) := (blk_cell BK258.out 0).trans rfl; have hcz23_1 : w22.cell? ⟨gb258, 1, none⟩ = some (.int .i64 0) := (blk_cell BK258.out 1).trans rfl; have hcz23_2 : w22.cell? ⟨gb258, 2, none⟩ = some (.int .i64 0) := (blk_cell BK258.out 2).trans rfl; have hcz23_3 : w22.cell? ⟨gb258, 3, none⟩ = some (.int .i64 0) := (blk_cell BK258.out 3).trans rfl; have hcz23_4 : w22.cell? ⟨gb258, 4, none⟩ = some (.slice none 0 0) := (blk_cell BK258.out 4).trans rfl; have hcz23_5 : w22.cell? ⟨gb258, 5, none⟩ = some (.slice none 0 0) := (blk_cell BK258.out 5).trans rfl; have hcz23_6 : w22.cell? ⟨gb258, 6, none⟩ = some (.int .i64 0) := (blk_cell BK258.out 6).trans rfl; have hcz23_7 : w22.cell? ⟨gb258, 7, none⟩ = some (.int .i64 0) := (blk_cell BK258.out 7).trans rfl; have hcz23_8 : w22.cell? ⟨gb258, 8, none⟩ = some (.int .i64 0) := (blk_cell BK258.out 8).trans rfl; have hfz23_0 := blk_frozen BK258.out 0; have hfz23_1 := blk_frozen BK258.out 1; have hfz23_2 := blk_frozen BK258.out 2; have hfz23_3 := blk_frozen BK258.out 3; have hfz23_4 := blk_frozen BK258.out 4; have hfz23_5 := blk_frozen BK258.out 5; have hfz23_6 := blk_frozen BK258.out 6; have hfz23_7 := blk_frozen BK258.out 7; have hfz23_8 := blk_frozen BK258.out 8))
              go_ret
              exact ⟨by first | rfl | (simp [errW_none, errW_some] <;> rfl) | (simp [*, errW_none, errW_some] <;> rfl), by repeat (first | (with_reducible first | exact HB.out | apply below_alloc | apply pw_below_drewN | apply below_drew1 | refine below_set ?_ GE258.out) | exact HB.out)⟩
             ·rw [if_neg c21] at H
              have c21b0 : decide (((rd_T34 l0 x9_1).f7) ≤ 65536) = false := decide_eq_false c21
              clear c21
              by_cases c24 : ((rd_T34 l0 x9_1).f8) > a1
              ·rw [if_pos c24] at H
               have c24b0 : decide (a1 < ((rd_T34 l0 x9_1).f8)) = true := decide_eq_true c24
               clear c24
               by_cases c25 : ((rd_T34 l0 x9_1).f8) ≤ 65536
               ·rw [if_pos c25] at H
                have c25b0 : decide (((rd_T34 l0 x9_1).f8) ≤ 65536) = true := decide_eq_true c25
                clear c25
                obtain rfl := Option.some.inj H
                have p257 : 0 ≤ (x9_1 : Int) := of_decide_eq_true (by first | (with_reducible assumption) | assumption)
                have q257 : x9_1 < (l0.length : Int) := of_decide_eq_true (by first | (with_reducible assumption) | assumption)
                obtain ⟨ad257, A257_4, c257_4, A257_5, c257_5, e257, hx257_0, hx257_1, hx257_2, hx257_3, hx257_4, hx257_5, hx257_6, hx257_7, hx257_8, hl257_4, hi257_4, hl257_5, hi257_5⟩ := at_T34 HR0.out x9_1 p257 q257
                cases e257
                replace hx257_0 := (HB.out.cell (World.block_lt_of_cell? w _ hx257_0)).trans hx257_0
                replace hx257_1 := (HB.out.cell (World.block_lt_of_cell? w _ hx257_1)).trans hx257_1
                replace hx257_2 := (HB.out.cell (World.block_lt_of_cell? w _ hx257_2)).trans hx257_2
                replace hx257_3 := (HB.out.cell (World.block_lt_of_cell? w _ hx257_3)).trans hx257_3
                replace hx257_4 := (HB.out.cell (World.block_lt_of_cell? w _ hx257_4)).trans hx257_4
                replace hx257_5 := (HB.out.cell (World.block_lt_of_cell? w _ hx257_5)).trans hx257_5
                replace hx257_6 := (HB.out.cell (World.block_lt_of_cell? w _ hx257_6)).trans hx257_6
                replace hx257_7 := (HB.out.cell (World.block_lt_of_cell? w _ hx257_7)).trans hx257_7
                replace hx257_8 := (HB.out.cell (World.block_lt_of_cell? w _ hx257_8)).trans hx257_8
                have HR257_4 := Aside0.mk hi257_4
                have HC257_4 := Aside0.mk hl257_4
                clear hi257_4 hl257_4
                have HR257_5 := Aside0.mk hi257_5
                have HC257_5 := Aside0.mk hl257_5
                clear hi257_5 hl257_5
                replace p257 := eq_true p257
                replace q257 := eq_true q257
                go_wp2_with (first | ((with_reducible refine gate_dst (N := 6) rfl ?_); (try (refine gate_guard (by rfl) ?_; dsimp only)); refine box_event ?hg (N := 6) ?hd (cs := #[.int .i64 0, .int .i64 0, .int .i64 0, .int .i64 0, .slice none 0 0, .slice none 0 0, .int .i64 0, .int .i64 0, .int .i64 0]) (t := 34) ?hr ?_; (case hd => rfl); (case hg => rfl); (case hr => first | (go_simp; done) | (go_simp; rfl)); intro gb258 hg w26 hbox hb; have n0_ := Aside0.mk (below_step (by repeat (first | (with_reducible first | exact HB.out | apply below_alloc | apply pw_below_drewN | apply below_drew1) | exact HB.out)) hb); have n1_ := Aside0.mk (hbox); have n2_ := Aside0.mk ((by rw [hg]; exact (below_size (by repeat (first | (with_reducible first | exact HB.out | apply below_alloc | apply pw_below_drewN | apply below_drew1) | exact HB.out))) : w.heap.size ≤ gb258)); have n3_ := Aside0.mk ((by rw [hg]; exact (below_size (by repeat (first | (with_reducible first | exact HB.out | apply below_alloc | apply pw_below_drewN | apply below_drew1) | exact HB.out))) : w.heap.size ≤ gb258)); clear HB; have HB := n0_; have BK258 := n1_; have GW258 := n2_; have GE258 := n3_; clear n0_ n1_ n2_ n3_; clear hb hbox hg; have hcz27_0 : w26.cell? ⟨gb258, 0, none⟩ = some (.int .i64 0) := (blk_cell BK258.out 0).trans rfl; have hcz27_1 : w26.cell? ⟨gb258, 1, none⟩ = some (.int .i64 0) := (blk_cell BK258.out 1).trans rfl; have hcz27_2 : w26.cell? ⟨gb258, 2, none⟩ = some (.int .i64 0) := (blk_cell BK258.out 2).trans rfl; have hcz27_3 : w26.cell? ⟨gb258, 3, none⟩ = some (.int .i64 0) := (blk_cell BK258.out 3).trans rfl; have hcz27_4 : w26.cell? ⟨gb258, 4, none⟩ = some (.slice none 0 0) := (blk_cell BK258.out 4).trans rfl; have hcz27_5 : w26.cell? ⟨gb258, 5, none⟩ = some (.slice none 0 0) := (blk_cell BK258.out 5).trans rfl; have hcz27_6 : w26.cell? ⟨gb258, 6, none⟩ = some (.int .i64 0) := (blk_cell BK258.out 6).trans rfl; have hcz27_7 : w26.cell? ⟨gb258, 7, none⟩ = some (.int .i64 0) := (blk_cell BK258.out 7).trans rfl; have hcz27_8 : w26.cell? ⟨gb258, 8, none⟩ = some (.int .i64 0) := (blk_cell BK258.out 8).trans rfl; have hfz27_0 := blk_frozen BK258.out 0; have hfz27_1 := blk_frozen BK258.out 1; have hfz27_2 := blk_frozen BK258.out 2; have hfz27_3 := blk_frozen BK258.out 3; have hfz27_4 := blk_frozen BK258.out 4; have hfz27_5 := blk_frozen BK258.out 5; have hfz27_6 := blk_frozen BK258.out 6; have hfz27_7 := blk_frozen BK258.out 7; have hfz27_8 := blk_frozen BK258.out 8))
                go_ret
                exact ⟨by first | rfl | (simp [errW_none, errW_some] <;> rfl) | (simp [*, errW_none, errW_some] <;> rfl), by repeat (first | (with_reducible first | exact HB.out | apply below_alloc | apply pw_below_drewN | apply below_drew1 | refine below_set ?_ GE258.out) | exact HB.out)⟩
               ·rw [if_neg c25] at H
                have c25b0 : decide (((rd_T34 l0 x9_1).f8) ≤ 65536) = false := decide_eq_false c25
                clear c25
                have H' := Aside0.mk H
                clear H
                have p257 : 0 ≤ (x9_1 : Int) := of_decide_eq_true (by first | (with_reducible assumption) | assumption)
                have q257 : x9_1 < (l0.length : Int) := of_decide_eq_true (by first | (with_reducible assumption) | assumption)
                obtain ⟨ad257, A257_4, c257_4, A257_5, c257_5, e257, hx257_0, hx257_1, hx257_2, hx257_3, hx257_4, hx257_5, hx257_6, hx257_7, hx257_8, hl257_4, hi257_4, hl257_5, hi257_5⟩ := at_T34 HR0.out x9_1 p257 q257
                cases e257
                replace hx257_0 := (HB.out.cell (World.block_lt_of_cell? w _ hx257_0)).trans hx257_0
                replace hx257_1 := (HB.out.cell (World.block_lt_of_cell? w _ hx257_1)).trans hx257_1
                replace hx257_2 := (HB.out.cell (World.block_lt_of_cell? w _ hx257_2)).trans hx257_2
                replace hx257_3 := (HB.out.cell (World.block_lt_of_cell? w _ hx257_3)).trans hx257_3
                replace hx257_4 := (HB.out.cell (World.block_lt_of_cell? w _ hx257_4)).trans hx257_4
                replace hx257_5 := (HB.out.cell (World.block_lt_of_cell? w _ hx257_5)).trans hx257_5
                replace hx257_6 := (HB.out.cell (World.block_lt_of_cell? w _ hx257_6)).trans hx257_6
                replace hx257_7 := (HB.out.cell (World.block_lt_of_cell? w _ hx257_7)).trans hx257_7
                replace hx257_8 := (HB.out.cell (World.block_lt_of_cell? w _ hx257_8)).trans hx257_8
                have HR257_4 := Aside0.mk hi257_4
                have HC257_4 := Aside0.mk hl257_4
                clear hi257_4 hl257_4
                have HR257_5 := Aside0.mk hi257_5
                have HC257_5 := Aside0.mk hl257_5
                clear hi257_5 hl257_5
                replace p257 := eq_true p257
                replace q257 := eq_true q257
                go_wp2_with (first | ((with_reducible refine gate_dst (N := 6) rfl ?_); (try (refine gate_guard (by rfl) ?_; dsimp only)); refine box_event ?hg (N := 6) ?hd (cs := #[.int .i64 0, .int .i64 0, .int .i64 0, .int .i64 0, .slice none 0 0, .slice none 0 0, .int .i64 0, .int .i64 0, .int .i64 0]) (t := 34) ?hr ?_; (case hd => rfl); (case hg => rfl); (case hr => first | (go_simp; done) | (go_simp; rfl)); intro gb258 hg w28 hbox hb; have n0_ := Aside0.mk (below_step (by repeat (first | (with_reducible first | exact HB.out | apply below_alloc | apply pw_below_drewN | apply below_drew1) | exact HB.out)) hb); have n1_ := Aside0.mk (hbox); have n2_ := Aside0.mk ((by rw [hg]; exact (below_size (by repeat (first | (with_reducible first | exact HB.out | apply below_alloc | apply pw_below_drewN | apply below_drew1) | exact HB.out))) : w.heap.size ≤ gb258)); have n3_ := Aside0.mk ((by rw [hg]; exact (below_size (by repeat (first | (with_reducible first | exact HB.out | apply below_alloc | apply pw_below_drewN | apply below_drew1) | exact HB.out))) : w.heap.size ≤ gb258)); clear HB; have HB := n0_; have BK258 := n1_; have GW258 := n2_; have GE258 := n3_; clear n0_ n1_ n2_ n3_; clear hb hbox hg; have hcz29_0 : w28.cell? ⟨gb258, 0, none⟩ = some (.int .i64 0) := (blk_cell BK258.out 0).trans rfl; have hcz29_1 : w28.cell? ⟨gb258, 1, none⟩ = some (.int .i64 0) := (blk_cell BK258.out 1).trans rfl; have hcz29_2 : w28.cell? ⟨gb258, 2, none⟩ = some (.int .i64 0) := (blk_cell BK258.out 2).trans rfl; have hcz29_3 : w28.cell? ⟨gb258, 3, none⟩ = some (.int .i64 0) := (blk_cell BK258.out 3).trans rfl; have hcz29_4 : w28.cell? ⟨gb258, 4, none⟩ = some (.slice none 0 0) := (blk_cell BK258.out 4).trans rfl; have hcz29_5 : w28.cell? ⟨gb258, 5, none⟩ = some (.slice none 0 0) := (blk_cell BK258.out 5).trans rfl; have hcz29_6 : w28.cell? ⟨gb258, 6, none⟩ = some (.int .i64 0) := (blk_cell BK258.out 6).trans rfl; have hcz29_7 : w28.cell? ⟨gb258, 7, none⟩ = some (.int .i64 0) := (blk_cell BK258.out 7).trans rfl; have hcz29_8 : w28.cell? ⟨gb258, 8, none⟩ = some (.int .i64 0) := (blk_cell BK258.out 8).trans rfl; have hfz29_0 := blk_frozen BK258.out 0; have hfz29_1 := blk_frozen BK258.out 1; have hfz29_2 := blk_frozen BK258.out 2; have hfz29_3 := blk_frozen BK258.out 3; have hfz29_4 := blk_frozen BK258.out 4; have hfz29_5 := blk_frozen BK258.out 5; have hfz29_6 := blk_frozen BK258.out 6; have hfz29_7 := blk_frozen BK258.out 7; have hfz29_8 := blk_frozen BK258.out 8))
                go_roundg k1
                case measure => have := HK1.out; omega
                case rel => exact ⟨(wrap64 (x9_1 + 1)), (by first | rfl | (simp; done) | (simp [*]; done)), H', ⟨by have := HK1.out; omega⟩, ⟨by repeat (first | (with_reducible first | exact HB.out | apply below_alloc | apply pw_below_drewN | apply below_drew1 | refine below_set ?_ GE258.out) | exact HB.out)⟩⟩
              ·rw [if_neg c24] at H
               have c24b0 : decide (a1 < ((rd_T34 l0 x9_1).f8)) = false := decide_eq_false c24
               clear c24
               have H' := Aside0.mk H
               clear H
               have p257 : 0 ≤ (x9_1 : Int) := of_decide_eq_true (by first | (with_reducible assumption) | assumption)
               have q257 : x9_1 < (l0.length : Int) := of_decide_eq_true (by first | (with_reducible assumption) | assumption)
               obtain ⟨ad257, A257_4, c257_4, A257_5, c257_5, e257, hx257_0, hx257_1, hx257_2, hx257_3, hx257_4, hx257_5, hx257_6, hx257_7, hx257_8, hl257_4, hi257_4, hl257_5, hi257_5⟩ := at_T34 HR0.out x9_1 p257 q257
               cases e257
               replace hx257_0 := (HB.out.cell (World.block_lt_of_cell? w _ hx257_0)).trans hx257_0
               replace hx257_1 := (HB.out.cell (World.block_lt_of_cell? w _ hx257_1)).trans hx257_1
               replace hx257_2 := (HB.out.cell (World.block_lt_of_cell? w _ hx257_2)).trans hx257_2
               replace hx257_3 := (HB.out.cell (World.block_lt_of_cell? w _ hx257_3)).trans hx257_3
               replace hx257_4 := (HB.out.cell (World.block_lt_of_cell? w _ hx257_4)).trans hx257_4
               replace hx257_5 := (HB.out.cell (World.block_lt_of_cell? w _ hx257_5)).trans hx257_5
               replace hx257_6 := (HB.out.cell (World.block_lt_of_cell? w _ hx257_6)).trans hx257_6
               replace hx257_7 := (HB.out.cell (World.block_lt_of_cell? w _ hx257_7)).trans hx257_7
               replace hx257_8 := (HB.out.cell (World.block_lt_of_cell? w _ hx257_8)).trans hx257_8
               have HR257_4 := Aside0.mk hi257_4
               have HC257_4 := Aside0.mk hl257_4
               clear hi257_4 hl257_4
               have HR257_5 := Aside0.mk hi257_5
               have HC257_5 := Aside0.mk hl257_5
               clear hi257_5 hl257_5
               replace p257 := eq_true p257
               replace q257 := eq_true q257
               go_wp2_with (first | ((with_reducible refine gate_dst (N := 6) rfl ?_); (try (refine gate_guard (by rfl) ?_; dsimp only)); refine box_event ?hg (N := 6) ?hd (cs := #[.int .i64 0, .int .i64 0, .int .i64 0, .int .i64 0, .slice none 0 0, .slice none 0 0, .int .i64 0, .int .i64 0, .int .i64 0]) (t := 34) ?hr ?_; (case hd => rfl); (case hg => rfl); (case hr => first | (go_simp; done) | (go_simp; rfl)); intro gb258 hg w30 hbox hb; have n0_ := Aside0.mk (below_step (by repeat (first | (with_reducible first | exact HB.out | apply below_alloc | apply pw_below_drewN | apply below_drew1) | exact HB.out)) hb); have n1_ := Aside0.mk (hbox); have n2_ := Aside0.mk ((by rw [hg]; exact (below_size (by repeat (first | (with_reducible first | exact HB.out | apply below_alloc | apply pw_below_drewN | apply below_drew1) | exact HB.out))) : w.heap.size ≤ gb258)); have n3_ := Aside0.mk ((by rw [hg]; exact (below_size (by repeat (first | (with_reducible first | exact HB.out | apply below_alloc | apply pw_below_drewN | apply below_drew1) | exact HB.out))) : w.heap.size ≤ gb258)); clear HB; have HB := n0_; have BK258 := n1_; have GW258 := n2_; have GE258 := n3_; clear n0_ n1_ n2_ n3_; clear hb hbox hg; have hcz31_0 : w30.cell? ⟨gb258, 0, none⟩ = some (.int .i64 0) := (blk_cell BK258.out 0).trans rfl; have hcz31_1 : w30.cell? ⟨gb258, 1, none⟩ = some (.int .i64 0) := (blk_cell BK258.out 1).trans rfl; have hcz31_2 : w30.cell? ⟨gb258, 2, none⟩ = some (.int .i64 0) := (blk_cell BK258.out 2).trans rfl; have hcz31_3 : w30.cell? ⟨gb258, 3, none⟩ = some (.int .i64 0) := (blk_cell BK258.out 3).trans rfl; have hcz31_4 : w30.cell? ⟨gb258, 4, none⟩ = some (.slice none 0 0) := (blk_cell BK258.out 4).trans rfl; have hcz31_5 : w30.cell? ⟨gb258, 5, none⟩ = some (.slice none 0 0) := (blk_cell BK258.out 5).trans rfl; have hcz31_6 : w30.cell? ⟨gb258, 6, none⟩ = some (.int .i64 0) := (blk_cell BK258.out 6).trans rfl; have hcz31_7 : w30.cell? ⟨gb258, 7, none⟩ = some (.int .i64 0) := (blk_cell BK258.out 7).trans rfl; have hcz31_8 : w30.cell? ⟨gb258, 8, none⟩ = some (.int .i64 0) := (blk_cell BK258.out 8).trans rfl; have hfz31_0 := blk_frozen BK258.out 0; have hfz31_1 := blk_frozen BK258.out 1; have hfz31_2 := blk_frozen BK258.out 2; have hfz31_3 := blk_frozen BK258.out 3; have hfz31_4 := blk_frozen BK258.out 4; have hfz31_5 := blk_frozen BK258.out 5; have hfz31_6 := blk_frozen BK258.out 6; have hfz31_7 := blk_frozen BK258.out 7; have hfz31_8 := blk_frozen BK258.out 8))
               go_roundg k1
               case measure => have := HK1.out; omega
               case rel => exact ⟨(wrap64 (x9_1 + 1)), (by first | rfl | (simp; done) | (simp [*]; done)), H', ⟨by have := HK1.out; omega⟩, ⟨by repeat (first | (with_reducible first | exact HB.out | apply below_alloc | apply pw_below_drewN | apply below_drew1 | refine below_set ?_ GE258.out) | exact HB.out)⟩⟩
            ·rw [if_neg c20] at H
             have c20b0 : decide (a1 < ((rd_T34 l0 x9_1).f7)) = false := decide_eq_false c20
             clear c20
             by_cases c32 : ((rd_T34 l0 x9_1).f8) > a1
             ·rw [if_pos c32] at H
              have c32b0 : decide (a1 < ((rd_T34 l0 x9_1).f8)) = true := decide_eq_true c32
              clear c32
              by_cases c33 : ((rd_T34 l0 x9_1).f8) ≤ 65536
              ·rw [if_pos c33] at H
               have c33b0 : decide (((rd_T34 l0 x9_1).f8) ≤ 65536) = true := decide_eq_true c33
               clear c33
               obtain rfl := Option.some.inj H
               have p257 : 0 ≤ (x9_1 : Int) := of_decide_eq_true (by first | (with_reducible assumption) | assumption)
               have q257 : x9_1 < (l0.length : Int) := of_decide_eq_true (by first | (with_reducible assumption) | assumption)
               obtain ⟨ad257, A257_4, c257_4, A257_5, c257_5, e257, hx257_0, hx257_1, hx257_2, hx257_3, hx257_4, hx257_5, hx257_6, hx257_7, hx257_8, hl257_4, hi257_4, hl257_5, hi257_5⟩ := at_T34 HR0.out x9_1 p257 q257
               cases e257
               replace hx257_0 := (HB.out.cell (World.block_lt_of_cell? w _ hx257_0)).trans hx257_0
               replace hx257_1 := (HB.out.cell (World.block_lt_of_cell? w _ hx257_1)).trans hx257_1
               replace hx257_2 := (HB.out.cell (World.block_lt_of_cell? w _ hx257_2)).trans hx257_2
               replace hx257_3 := (HB.out.cell (World.block_lt_of_cell? w _ hx257_3)).trans hx257_3
               replace hx257_4 := (HB.out.cell (World.block_lt_of_cell? w _ hx257_4)).trans hx257_4
               replace hx257_5 := (HB.out.cell (World.block_lt_of_cell? w _ hx257_5)).trans hx257_5
               replace hx257_6 := (HB.out.cell (World.block_lt_of_cell? w _ hx257_6)).trans hx257_6
               replace hx257_7 := (HB.out.cell (World.block_lt_of_cell? w _ hx257_7)).trans hx257_7
               replace hx257_8 := (HB.out.cell (World.block_lt_of_cell? w _ hx257_8)).trans hx257_8
               have HR257_4 := Aside0.mk hi257_4
               have HC257_4 := Aside0.mk hl257_4
               clear hi257_4 hl257_4
               have HR257_5 := Aside0.mk hi257_5
               have HC257_5 := Aside0.mk hl257_5
               clear hi257_5 hl257_5
               replace p257 := eq_true p257
               replace q257 := eq_true q257
               go_wp2_with (first | ((with_reducible refine gate_dst (N := 6) rfl ?_); (try (refine gate_guard (by rfl) ?_; dsimp only)); refine box_event ?hg (N := 6) ?hd (cs := #[.int .i64 0, .int .i64 0, .int .i64 0, .int .i64 0, .slice none 0 0, .slice none 0 0, .int .i64 0, .int .i64 0, .int .i64 0]) (t := 34) ?hr ?_; (case hd => rfl); (case hg => rfl); (case hr => first | (go_simp; done) | (go_simp; rfl)); intro gb258 hg w34 hbox hb; have n0_ := Aside0.mk (below_step (by repeat (first | (with_reducible first | exact HB.out | apply below_alloc | apply pw_below_drewN | apply below_drew1) | exact HB.out)) hb); have n1_ := Aside0.mk (hbox); have n2_ := Aside0.mk ((by rw [hg]; exact (below_size (by repeat (first | (with_reducible first | exact HB.out | apply below_alloc | apply pw_below_drewN | apply below_drew1) | exact HB.out))) : w.heap.size ≤ gb258)); have n3_ := Aside0.mk ((by rw [hg]; exact (below_size (by repeat (first | (with_reducible first | exact HB.out | apply below_alloc | apply pw_below_drewN | apply below_drew1) | exact HB.out))) : w.heap.size ≤ gb258)); clear HB; have HB := n0_; have BK258 := n1_; have GW258 := n2_; have GE258 := n3_; clear n0_ n1_ n2_ n3_; clear hb hbox hg; have hcz35_0 : w34.cell? ⟨gb258, 0, none⟩ = some (.int .i64 0) := (blk_cell BK258.out 0).trans rfl; have hcz35_1 : w34.cell? ⟨gb258, 1, none⟩ = some (.int .i64 0) := (blk_cell BK258.out 1).trans rfl; have hcz35_2 : w34.cell? ⟨gb258, 2, none⟩ = some (.int .i64 0) := (blk_cell BK258.out 2).trans rfl; have hcz35_3 : w34.cell? ⟨gb258, 3, none⟩ = some (.int .i64 0) := (blk_cell BK258.out 3).trans rfl; have hcz35_4 : w34.cell? ⟨gb258, 4, none⟩ = some (.slice none 0 0) := (blk_cell BK258.out 4).trans rfl; have hcz35_5 : w34.cell? ⟨gb258, 5, none⟩ = some (.slice none 0 0) := (blk_cell BK258.out 5).trans rfl; have hcz35_6 : w34.cell? ⟨gb258, 6, none⟩ = some (.int .i64 0) := (blk_cell BK258.out 6).trans rfl; have hcz35_7 : w34.cell? ⟨gb258, 7, none⟩ = some (.int .i64 0) := (blk_cell BK258.out 7).trans rfl; have hcz35_8 : w34.cell? ⟨gb258, 8, none⟩ = some (.int .i64 0) := (blk_cell BK258.out 8).trans rfl; have hfz35_0 := blk_frozen BK258.out 0; have hfz35_1 := blk_frozen BK258.out 1; have hfz35_2 := blk_frozen BK258.out 2; have hfz35_3 := blk_frozen BK258.out 3; have hfz35_4 := blk_frozen BK258.out 4; have hfz35_5 := blk_frozen BK258.out 5; have hfz35_6 := blk_frozen BK258.out 6; have hfz35_7 := blk_frozen BK258.out 7; have hfz35_8 := blk_frozen BK258.out 8))
               go_ret
               exact ⟨by first | rfl | (simp [errW_none, errW_some] <;> rfl) | (simp [*, errW_none, errW_some] <;> rfl), by repeat (first | (with_reducible first | exact HB.out | apply below_alloc | apply pw_below_drewN | apply below_drew1 | refine below_set ?_ GE258.out) | exact HB.out)⟩
              ·rw [if_neg c33] at H
               have c33b0 : decide (((rd_T34 l0 x9_1).f8) ≤ 65536) = false := decide_eq_false c33
               clear c33
               have H' := Aside0.mk H
               clear H
               have p257 : 0 ≤ (x9_1 : Int) := of_decide_eq_true (by first | (with_reducible assumption) | assumption)
               have q257 : x9_1 < (l0.length : Int) := of_decide_eq_true (by first | (with_reducible assumption) | assumption)
               obtain ⟨ad257, A257_4, c257_4, A257_5, c257_5, e257, hx257_0, hx257_1, hx257_2, hx257_3, hx257_4, hx257_5, hx257_6, hx257_7, hx257_8, hl257_4, hi257_4, hl257_5, hi257_5⟩ := at_T34 HR0.out x9_1 p257 q257
               cases e257
               replace hx257_0 := (HB.out.cell (World.block_lt_of_cell? w _ hx257_0)).trans hx257_0
               replace hx257_1 := (HB.out.cell (World.block_lt_of_cell? w _ hx257_1)).trans hx257_1
               replace hx257_2 := (HB.out.cell (World.block_lt_of_cell? w _ hx257_2)).trans hx257_2
               replace hx257_3 := (HB.out.cell (World.block_lt_of_cell? w _ hx257_3)).trans hx257_3
               replace hx257_4 := (HB.out.cell (World.block_lt_of_cell? w _ hx257_4)).trans hx257_4
               replace hx257_5 := (HB.out.cell (World.block_lt_of_cell? w _ hx257_5)).trans hx257_5
               replace hx257_6 := (HB.out.cell (World.block_lt_of_cell? w _ hx257_6)).trans hx257_6
               replace hx257_7 := (HB.out.cell (World.block_lt_of_cell? w _ hx257_7)).trans hx257_7
               replace hx257_8 := (HB.out.cell (World.block_lt_of_cell? w _ hx257_8)).trans hx257_8
               have HR257_4 := Aside0.mk hi257_4
               have HC257_4 := Aside0.mk hl257_4
               clear hi257_4 hl257_4
               have HR257_5 := Aside0.mk hi257_5
               have HC257_5 := Aside0.mk hl257_5
               clear hi257_5 hl257_5
               replace p257 := eq_true p257
               replace q257 := eq_true q257
               go_wp2_with (first | ((with_reducible refine gate_dst (N := 6) rfl ?_); (try (refine gate_guard (by rfl) ?_; dsimp only)); refine box_event ?hg (N := 6) ?hd (cs := #[.int .i64 0, .int .i64 0, .int .i64 0, .int .i64 0, .slice none 0 0, .slice none 0 0, .int .i64 0, .int .i64 0, .int .i64 0]) (t := 34) ?hr ?_; (case hd => rfl); (case hg => rfl); (case hr => first | (go_simp; done) | (go_simp; rfl)); intro gb258 hg w36 hbox hb; have n0_ := Aside0.mk (below_step (by repeat (first | (with_reducible first | exact HB.out | apply below_alloc | apply pw_below_drewN | apply below_drew1) | exact HB.out)) hb); have n1_ := Aside0.mk (hbox); have n2_ := Aside0.mk ((by rw [hg]; exact (below_size (by repeat (first | (with_reducible first | exact HB.out | apply below_alloc | apply pw_below_drewN | apply below_drew1) | exact HB.out))) : w.heap.size ≤ gb258)); have n3_ := Aside0.mk ((by rw [hg]; exact (below_size (by repeat (first | (with_reducible first | exact HB.out | apply below_alloc | apply pw_below_drewN | apply below_drew1) | exact HB.out))) : w.heap.size ≤ gb258)); clear HB; have HB := n0_; have BK258 := n1_; have GW258 := n2_; have GE258 := n3_; clear n0_ n1_ n2_ n3_; clear hb hbox hg; have hcz37_0 : w36.cell? ⟨gb258, 0, none⟩ = some (.int .i64 0) := (blk_cell BK258.out 0).trans rfl; have hcz37_1 : w36.cell? ⟨gb258, 1, none⟩ = some (.int .i64 0) := (blk_cell BK258.out 1).trans rfl; have hcz37_2 : w36.cell? ⟨gb258, 2, none⟩ = some (.int .i64 0) := (blk_cell BK258.out 2).trans rfl; have hcz37_3 : w36.cell? ⟨gb258, 3, none⟩ = some (.int .i64 0) := (blk_cell BK258.out 3).trans rfl; have hcz37_4 : w36.cell? ⟨gb258, 4, none⟩ = some (.slice none 0 0) := (blk_cell BK258.out 4).trans rfl; have hcz37_5 : w36.cell? ⟨gb258, 5, none⟩ = some (.slice none 0 0) := (blk_cell BK258.out 5).trans rfl; have hcz37_6 : w36.cell? ⟨gb258, 6, none⟩ = some (.int .i64 0) := (blk_cell BK258.out 6).trans rfl; have hcz37_7 : w36.cell? ⟨gb258, 7, none⟩ = some (.int .i64 0) := (blk_cell BK258.out 7).trans rfl; have hcz37_8 : w36.cell? ⟨gb258, 8, none⟩ = some (.int .i64 0) := (blk_cell BK258.out 8).trans rfl; have hfz37_0 := blk_frozen BK258.out 0; have hfz37_1 := blk_frozen BK258.out 1; have hfz37_2 := blk_frozen BK258.out 2; have hfz37_3 := blk_frozen BK258.out 3; have hfz37_4 := blk_frozen BK258.out 4; have hfz37_5 := blk_frozen BK258.out 5; have hfz37_6 := blk_frozen BK258.out 6; have hfz37_7 := blk_frozen BK258.out 7; have hfz37_8 := blk_frozen BK258.out 8))
               go_roundg k1
               case measure => have := HK1.out; omega
               case rel => exact ⟨(wrap64 (x9_1 + 1)), (by first | rfl | (simp; done) | (simp [*]; done)), H', ⟨by have := HK1.out; omega⟩, ⟨by repeat (first | (with_reducible first | exact HB.out | apply below_alloc | apply pw_below_drewN | apply below_drew1 | refine below_set ?_ GE258.out) | exact HB.out)⟩⟩
             ·rw [if_neg c32] at H
              have c32b0 : decide (a1 < ((rd_T34 l0 x9_1).f8)) = false := decide_eq_false c32
              clear c32
              have H' := Aside0.mk H
              clear H
              have p257 : 0 ≤ (x9_1 : Int) := of_decide_eq_true (by first | (with_reducible assumption) | assumption)
              have q257 : x9_1 < (l0.length : Int) := of_decide_eq_true (by first | (with_reducible assumption) | assumption)
              obtain ⟨ad257, A257_4, c257_4, A257_5, c257_5, e257, hx257_0, hx257_1, hx257_2, hx257_3, hx257_4, hx257_5, hx257_6, hx257_7, hx257_8, hl257_4, hi257_4, hl257_5, hi257_5⟩ := at_T34 HR0.out x9_1 p257 q257
              cases e257
              replace hx257_0 := (HB.out.cell (World.block_lt_of_cell? w _ hx257_0)).trans hx257_0
              replace hx257_1 := (HB.out.cell (World.block_lt_of_cell? w _ hx257_1)).trans hx257_1
              replace hx257_2 := (HB.out.cell (World.block_lt_of_cell? w _ hx257_2)).trans hx257_2
              replace hx257_3 := (HB.out.cell (World.block_lt_of_cell? w _ hx257_3)).trans hx257_3
              replace hx257_4 := (HB.out.cell (World.block_lt_of_cell? w _ hx257_4)).trans hx257_4
              replace hx257_5 := (HB.out.cell (World.block_lt_of_cell? w _ hx257_5)).trans hx257_5
              replace hx257_6 := (HB.out.cell (World.block_lt_of_cell? w _ hx257_6)).trans hx257_6
              replace hx257_7 := (HB.out.cell (World.block_lt_of_cell? w _ hx257_7)).trans hx257_7
              replace hx257_8 := (HB.out.cell (World.block_lt_of_cell? w _ hx257_8)).trans hx257_8
              have HR257_4 := Aside0.mk hi257_4
              have HC257_4 := Aside0.mk hl257_4
              clear hi257_4 hl257_4
              have HR257_5 := Aside0.mk hi257_5
              have HC257_5 := Aside0.mk hl257_5
              clear hi257_5 hl257_5
              replace p257 := eq_true p257
              replace q257 := eq_true q257
              go_wp2_with (first | ((with_reducible refine gate_dst (N := 6) rfl ?_); (try (refine gate_guard (by rfl) ?_; dsimp only)); refine box_event ?hg (N := 6) ?hd (cs := #[.int .i64 0, .int .i64 0, .int .i64 0, .int .i64 0, .slice none 0 0, .slice none 0 0, .int .i64 0, .int .i64 0, .int .i64 0]) (t := 34) ?hr ?_; (case hd => rfl); (case hg => rfl); (case hr => first | (go_simp; done) | (go_simp; rfl)); intro gb258 hg w38 hbox hb; have n0_ := Aside0.mk (below_step (by repeat (first | (with_reducible first | exact HB.out | apply below_alloc | apply pw_below_drewN | apply below_drew1) | exact HB.out)) hb); have n1_ := Aside0.mk (hbox); have n2_ := Aside0.mk ((by rw [hg]; exact (below_size (by repeat (first | (with_reducible first | exact HB.out | apply below_alloc | apply pw_below_drewN | apply below_drew1) | exact HB.out))) : w.heap.size ≤ gb258)); have n3_ := Aside0.mk ((by rw [hg]; exact (below_size (by repeat (first | (with_reducible first | exact HB.out | apply below_alloc | apply pw_below_drewN | apply below_drew1) | exact HB.out))) : w.heap.size ≤ gb258)); clear HB; have HB := n0_; have BK258 := n1_; have GW258 := n2_; have GE258 := n3_; clear n0_ n1_ n2_ n3_; clear hb hbox hg; have hcz39_0 : w38.cell? ⟨gb258, 0, none⟩ = some (.int .i64 0) := (blk_cell BK258.out 0).trans rfl; have hcz39_1 : w38.cell? ⟨gb258, 1, none⟩ = some (.int .i64 0) := (blk_cell BK258.out 1).trans rfl; have hcz39_2 : w38.cell? ⟨gb258, 2, none⟩ = some (.int .i64 0) := (blk_cell BK258.out 2).trans rfl; have hcz39_3 : w38.cell? ⟨gb258, 3, none⟩ = some (.int .i64 0) := (blk_cell BK258.out 3).trans rfl; have hcz39_4 : w38.cell? ⟨gb258, 4, none⟩ = some (.slice none 0 0) := (blk_cell BK258.out 4).trans rfl; have hcz39_5 : w38.cell? ⟨gb258, 5, none⟩ = some (.slice none 0 0) := (blk_cell BK258.out 5).trans rfl; have hcz39_6 : w38.cell? ⟨gb258, 6, none⟩ = some (.int .i64 0) := (blk_cell BK258.out 6).trans rfl; have hcz39_7 : w38.cell? ⟨gb258, 7, none⟩ = some (.int .i64 0) := (blk_cell BK258.out 7).trans rfl; have hcz39_8 : w38.cell? ⟨gb258, 8, none⟩ = some (.int .i64 0) := (blk_cell BK258.out 8).trans rfl; have hfz39_0 := blk_frozen BK258.out 0; have hfz39_1 := blk_frozen BK258.out 1; have hfz39_2 := blk_frozen BK258.out 2; have hfz39_3 := blk_frozen BK258.out 3; have hfz39_4 := blk_frozen BK258.out 4; have hfz39_5 := blk_frozen BK258.out 5; have hfz39_6 := blk_frozen BK258.out 6; have hfz39_7 := blk_frozen BK258.out 7; have hfz39_8 := blk_frozen BK258.out 8))
              go_roundg k1
              case measure => have := HK1.out; omega
              case rel => exact ⟨(wrap64 (x9_1 + 1)), (by first | rfl | (simp; done) | (simp [*]; done)), H', ⟨by have := HK1.out; omega⟩, ⟨by repeat (first | (with_reducible first | exact HB.out | apply below_alloc | apply pw_below_drewN | apply below_drew1 | refine below_set ?_ GE258.out) | exact HB.out)⟩⟩
          ·rw [if_neg c16] at H
           have c16b0 : decide (20 < ((rd_T34 l0 x9_1).f3)) = false := decide_eq_false c16
           clear c16
           by_cases c40 : ((rd_T34 l0 x9_1).f7) > a1
           ·rw [if_pos c40] at H
            have c40b0 : decide (a1 < ((rd_T34 l0 x9_1).f7)) = true := decide_eq_true c40
            clear c40
            by_cases c41 : ((rd_T34 l0 x9_1).f7) ≤ 65536
            ·rw [if_pos c41] at H
             have c41b0 : decide (((rd_T34 l0 x9_1).f7) ≤ 65536) = true := decide_eq_true c41
             clear c41
             obtain rfl := Option.some.inj H
             have p257 : 0 ≤ (x9_1 : Int) := of_decide_eq_true (by first | (with_reducible assumption) | assumption)
             have q257 : x9_1 < (l0.length : Int) := of_decide_eq_true (by first | (with_reducible assumption) | assumption)
             obtain ⟨ad257, A257_4, c257_4, A257_5, c257_5, e257, hx257_0, hx257_1, hx257_2, hx257_3, hx257_4, hx257_5, hx257_6, hx257_7, hx257_8, hl257_4, hi257_4, hl257_5, hi257_5⟩ := at_T34 HR0.out x9_1 p257 q257
             cases e257
             replace hx257_0 := (HB.out.cell (World.block_lt_of_cell? w _ hx257_0)).trans hx257_0
             replace hx257_1 := (HB.out.cell (World.block_lt_of_cell? w _ hx257_1)).trans hx257_1
             replace hx257_2 := (HB.out.cell (World.block_lt_of_cell? w _ hx257_2)).trans hx257_2
             replace hx257_3 := (HB.out.cell (World.block_lt_of_cell? w _ hx257_3)).trans hx257_3
             replace hx257_4 := (HB.out.cell (World.block_lt_of_cell? w _ hx257_4)).trans hx257_4
             replace hx257_5 := (HB.out.cell (World.block_lt_of_cell? w _ hx257_5)).trans hx257_5
             replace hx257_6 := (HB.out.cell (World.block_lt_of_cell? w _ hx257_6)).trans hx257_6
             replace hx257_7 := (HB.out.cell (World.block_lt_of_cell? w _ hx257_7)).trans hx257_7
             replace hx257_8 := (HB.out.cell (World.block_lt_of_cell? w _ hx257_8)).trans hx257_8
             have HR257_4 := Aside0.mk hi257_4
             have HC257_4 := Aside0.mk hl257_4
             clear hi257_4 hl257_4
             have HR257_5 := Aside0.mk hi257_5
             have HC257_5 := Aside0.mk hl257_5
             clear hi257_5 hl257_5
             replace p257 := eq_true p257
             replace q257 := eq_true q257
             go_wp2_with (first | ((with_reducible refine gate_dst (N := 6) rfl ?_); (try (refine gate_guard (by rfl) ?_; dsimp only)); refine box_event ?hg (N := 6) ?hd (cs := #[.int .i64 0, .int .i64 0, .int .i64 0, .int .i64 0, .slice none 0 0, .slice none 0 0, .int .i64 0, .int .i64 0, .int .i64 0]) (t := 34) ?hr ?_; (case hd => rfl); (case hg => rfl); (case hr => first | (go_simp; done) | (go_simp; rfl)); intro gb258 hg w42 hbox hb; have n0_ := Aside0.mk (below_step (by repeat (first | (with_reducible first | exact HB.out | apply below_alloc | apply pw_below_drewN | apply below_drew1) | exact HB.out)) hb); have n1_ := Aside0.mk (hbox); have n2_ := Aside0.mk ((by rw [hg]; exact (below_size (by repeat (first | (with_reducible first | exact HB.out | apply below_alloc | apply pw_below_drewN | apply below_drew1) | exact HB.out))) : w.heap.size ≤ gb258)); have n3_ := Aside0.mk ((by rw [hg]; exact (below_size (by repeat (first | (with_reducible first | exact HB.out | apply below_alloc | apply pw_below_drewN | apply below_drew1) | exact HB.out))) : w.heap.size ≤ gb258)); clear HB; have HB := n0_; have BK258 := n1_; have GW258 := n2_; have GE258 := n3_; clear n0_ n1_ n2_ n3_; clear hb hbox hg; have hcz43_0 : w42.cell? ⟨gb258, 0, none⟩ = some (.int .i64 0) := (blk_cell BK258.out 0).trans rfl; have hcz43_1 : w42.cell? ⟨gb258, 1, none⟩ = some (.int .i64 0) := (blk_cell BK258.out 1).trans rfl; have hcz43_2 : w42.cell? ⟨gb258, 2, none⟩ = some (.int .i64 0) := (blk_cell BK258.out 2).trans rfl; have hcz43_3 : w42.cell? ⟨gb258, 3, none⟩ = some (.int .i64 0) := (blk_cell BK258.out 3).trans rfl; have hcz43_4 : w42.cell? ⟨gb258, 4, none⟩ = some (.slice none 0 0) := (blk_cell BK258.out 4).trans rfl; have hcz43_5 : w42.cell? ⟨gb258, 5, none⟩ = some (.slice none 0 0) := (blk_cell BK258.out 5).trans rfl; have hcz43_6 : w42.cell? ⟨gb258, 6, none⟩ = some (.int .i64 0) := (blk_cell BK258.out 6).trans rfl; have hcz43_7 : w42.cell? ⟨gb258, 7, none⟩ = some (.int .i64 0) := (blk_cell BK258.out 7).trans rfl; have hcz43_8 : w42.cell? ⟨gb258, 8, none⟩ = some (.int .i64 0) := (blk_cell BK258.out 8).trans rfl; have hfz43_0 := blk_frozen BK258.out 0; have hfz43_1 := blk_frozen BK258.out 1; have hfz43_2 := blk_frozen BK258.out 2; have hfz43_3 := blk_frozen BK258.out 3; have hfz43_4 := blk_frozen BK258.out 4; have hfz43_5 := blk_frozen BK258.out 5; have hfz43_6 := blk_frozen BK258.out 6; have hfz43_7 := blk_frozen BK258.out 7; have hfz43_8 := blk_frozen BK258.out 8))
             go_ret
             exact ⟨by first | rfl | (simp [errW_none, errW_some] <;> rfl) | (simp [*, errW_none, errW_some] <;> rfl), by repeat (first | (with_reducible first | exact HB.out | apply below_alloc | apply pw_below_drewN | apply below_drew1 | refine below_set ?_ GE258.out) | exact HB.out)⟩
            ·rw [if_neg c41] at H
             have c41b0 : decide (((rd_T34 l0 x9_1).f7) ≤ 65536) = false := decide_eq_false c41
             clear c41
             by_cases c44 : ((rd_T34 l0 x9_1).f8) > a1
             ·rw [if_pos c44] at H
              have c44b0 : decide (a1 < ((rd_T34 l0 x9_1).f8)) = true := decide_eq_true c44
              clear c44
              by_cases c45 : ((rd_T34 l0 x9_1).f8) ≤ 65536
              ·rw [if_pos c45] at H
               have c45b0 : decide (((rd_T34 l0 x9_1).f8) ≤ 65536) = true := decide_eq_true c45
               clear c45
               obtain rfl := Option.some.inj H
               have p257 : 0 ≤ (x9_1 : Int) := of_decide_eq_true (by first | (with_reducible assumption) | assumption)
               have q257 : x9_1 < (l0.length : Int) := of_decide_eq_true (by first | (with_reducible assumption) | assumption)
               obtain ⟨ad257, A257_4, c257_4, A257_5, c257_5, e257, hx257_0, hx257_1, hx257_2, hx257_3, hx257_4, hx257_5, hx257_6, hx257_7, hx257_8, hl257_4, hi257_4, hl257_5, hi257_5⟩ := at_T34 HR0.out x9_1 p257 q257
               cases e257
               replace hx257_0 := (HB.out.cell (World.block_lt_of_cell? w _ hx257_0)).trans hx257_0
               replace hx257_1 := (HB.out.cell (World.block_lt_of_cell? w _ hx257_1)).trans hx257_1
               replace hx257_2 := (HB.out.cell (World.block_lt_of_cell? w _ hx257_2)).trans hx257_2
               replace hx257_3 := (HB.out.cell (World.block_lt_of_cell? w _ hx257_3)).trans hx257_3
               replace hx257_4 := (HB.out.cell (World.block_lt_of_cell? w _ hx257_4)).trans hx257_4
               replace hx257_5 := (HB.out.cell (World.block_lt_of_cell? w _ hx257_5)).trans hx257_5
               replace hx257_6 := (HB.out.cell (World.block_lt_of_cell? w _ hx257_6)).trans hx257_6
               replace hx257_7 := (HB.out.cell (World.block_lt_of_cell? w _ hx257_7)).trans hx257_7
               replace hx257_8 := (HB.out.cell (World.block_lt_of_cell? w _ hx257_8)).trans hx257_8
               have HR257_4 := Aside0.mk hi257_4
               have HC257_4 := Aside0.mk hl257_4
               clear hi257_4 hl257_4
               have HR257_5 := Aside0.mk hi257_5
               have HC257_5 := Aside0.mk hl257_5
               clear hi257_5 hl257_5
               replace p257 := eq_true p257
               replace q257 := eq_true q257
               go_wp2_with (first | ((with_reducible refine gate_dst (N := 6) rfl ?_); (try (refine gate_guard (by rfl) ?_; dsimp only)); refine box_event ?hg (N := 6) ?hd (cs := #[.int .i64 0, .int .i64 0, .int .i64 0, .int .i64 0, .slice none 0 0, .slice none 0 0, .int .i64 0, .int .i64 0, .int .i64 0]) (t := 34) ?hr ?_; (case hd => rfl); (case hg => rfl); (case hr => first | (go_simp; done) | (go_simp; rfl)); intro gb258 hg w46 hbox hb; have n0_ := Aside0.mk (below_step (by repeat (first | (with_reducible first | exact HB.out | apply below_alloc | apply pw_below_drewN | apply below_drew1) | exact HB.out)) hb); have n1_ := Aside0.mk (hbox); have n2_ := Aside0.mk ((by rw [hg]; exact (below_size (by repeat (first | (with_reducible first | exact HB.out | apply below_alloc | apply pw_below_drewN | apply below_drew1) | exact HB.out))) : w.heap.size ≤ gb258)); have n3_ := Aside0.mk ((by rw [hg]; exact (below_size (by repeat (first | (with_reducible first | exact HB.out | apply below_alloc | apply pw_below_drewN | apply below_drew1) | exact HB.out))) : w.heap.size ≤ gb258)); clear HB; have HB := n0_; have BK258 := n1_; have GW258 := n2_; have GE258 := n3_; clear n0_ n1_ n2_ n3_; clear hb hbox hg; have hcz47_0 : w46.cell? ⟨gb258, 0, none⟩ = some (.int .i64 0) := (blk_cell BK258.out 0).trans rfl; have hcz47_1 : w46.cell? ⟨gb258, 1, none⟩ = some (.int .i64 0) := (blk_cell BK258.out 1).trans rfl; have hcz47_2 : w46.cell? ⟨gb258, 2, none⟩ = some (.int .i64 0) := (blk_cell BK258.out 2).trans rfl; have hcz47_3 : w46.cell? ⟨gb258, 3, none⟩ = some (.int .i64 0) := (blk_cell BK258.out 3).trans rfl; have hcz47_4 : w46.cell? ⟨gb258, 4, none⟩ = some (.slice none 0 0) := (blk_cell BK258.out 4).trans rfl; have hcz47_5 : w46.cell? ⟨gb258, 5, none⟩ = some (.slice none 0 0) := (blk_cell BK258.out 5).trans rfl; have hcz47_6 : w46.cell? ⟨gb258, 6, none⟩ = some (.int .i64 0) := (blk_cell BK258.out 6).trans rfl; have hcz47_7 : w46.cell? ⟨gb258, 7, none⟩ = some (.int .i64 0) := (blk_cell BK258.out 7).trans rfl; have hcz47_8 : w46.cell? ⟨gb258, 8, none⟩ = some (.int .i64 0) := (blk_cell BK258.out 8).trans rfl; have hfz47_0 := blk_frozen BK258.out 0; have hfz47_1 := blk_frozen BK258.out 1; have hfz47_2 := blk_frozen BK258.out 2; have hfz47_3 := blk_frozen BK258.out 3; have hfz47_4 := blk_frozen BK258.out 4; have hfz47_5 := blk_frozen BK258.out 5; have hfz47_6 := blk_frozen BK258.out 6; have hfz47_7 := blk_frozen BK258.out 7; have hfz47_8 := blk_frozen BK258.out 8))
               go_ret
               exact ⟨by first | rfl | (simp [errW_none, errW_some] <;> rfl) | (simp [*, errW_none, errW_some] <;> rfl), by repeat (first | (with_reducible first | exact HB.out | apply below_alloc | apply pw_below_drewN | apply below_drew1 | refine below_set ?_ GE258.out) | exact HB.out)⟩
              ·rw [if_neg c45] at H
               have c45b0 : decide (((rd_T34 l0 x9_1).f8) ≤ 65536) = false := decide_eq_false c45
               clear c45
               have H' := Aside0.mk H
               clear H
               have p257 : 0 ≤ (x9_1 : Int) := of_decide_eq_true (by first | (with_reducible assumption) | assumption)
               have q257 : x9_1 < (l0.length : Int) := of_decide_eq_true (by first | (with_reducible assumption) | assumption)
               obtain ⟨ad257, A257_4, c257_4, A257_5, c257_5, e257, hx257_0, hx257_1, hx257_2, hx257_3, hx257_4, hx257_5, hx257_6, hx257_7, hx257_8, hl257_4, hi257_4, hl257_5, hi257_5⟩ := at_T34 HR0.out x9_1 p257 q257
               cases e257
               replace hx257_0 := (HB.out.cell (World.block_lt_of_cell? w _ hx257_0)).trans hx257_0
               replace hx257_1 := (HB.out.cell (World.block_lt_of_cell? w _ hx257_1)).trans hx257_1
               replace hx257_2 := (HB.out.cell (World.block_lt_of_cell? w _ hx257_2)).trans hx257_2
               replace hx257_3 := (HB.out.cell (World.block_lt_of_cell? w _ hx257_3)).trans hx257_3
               replace hx257_4 := (HB.out.cell (World.block_lt_of_cell? w _ hx257_4)).trans hx257_4
               replace hx257_5 := (HB.out.cell (World.block_lt_of_cell? w _ hx257_5)).trans hx257_5
               replace hx257_6 := (HB.out.cell (World.block_lt_of_cell? w _ hx257_6)).trans hx257_6
               replace hx257_7 := (HB.out.cell (World.block_lt_of_cell? w _ hx257_7)).trans hx257_7
               replace hx257_8 := (HB.out.cell (World.block_lt_of_cell? w _ hx257_8)).trans hx257_8
               have HR257_4 := Aside0.mk hi257_4
               have HC257_4 := Aside0.mk hl257_4
               clear hi257_4 hl257_4
               have HR257_5 := Aside0.mk hi257_5
               have HC257_5 := Aside0.mk hl257_5
               clear hi257_5 hl257_5
               replace p257 := eq_true p257
               replace q257 := eq_true q257
               go_wp2_with (first | ((with_reducible refine gate_dst (N := 6) rfl ?_); (try (refine gate_guard (by rfl) ?_; dsimp only)); refine box_event ?hg (N := 6) ?hd (cs := #[.int .i64 0, .int .i64 0, .int .i64 0, .int .i64 0, .slice none 0 0, .slice none 0 0, .int .i64 0, .int .i64 0, .int .i64 0]) (t := 34) ?hr ?_; (case hd => rfl); (case hg => rfl); (case hr => first | (go_simp; done) | (go_simp; rfl)); intro gb258 hg w48 hbox hb; have n0_ := Aside0.mk (below_step (by repeat (first | (with_reducible first | exact HB.out | apply below_alloc | apply pw_below_drewN | apply below_drew1) | exact HB.out)) hb); have n1_ := Aside0.mk (hbox); have n2_ := Aside0.mk ((by rw [hg]; exact (below_size (by repeat (first | (with_reducible first | exact HB.out | apply below_alloc | apply pw_below_drewN | apply below_drew1) | exact HB.out))) : w.heap.size ≤ gb258)); have n3_ := Aside0.mk ((by rw [hg]; exact (below_size (by repeat (first | (with_reducible first | exact HB.out | apply below_alloc | apply pw_below_drewN | apply below_drew1) | exact HB.out))) : w.heap.size ≤ gb258)); clear HB; have HB := n0_; have BK258 := n1_; have GW258 := n2_; have GE258 := n3_; clear n0_ n1_ n2_ n3_; clear hb hbox hg; have hcz49_0 : w48.cell? ⟨gb258, 0, none⟩ = some (.int .i64 0) := (blk_cell BK258.out 0).trans rfl; have hcz49_1 : w48.cell? ⟨gb258, 1, none⟩ = some (.int .i64 0) := (blk_cell BK258.out 1).trans rfl; have hcz49_2 : w48.cell? ⟨gb258, 2, none⟩ = some (.int .i64 0) := (blk_cell BK258.out 2).trans rfl; have hcz49_3 : w48.cell? ⟨gb258, 3, none⟩ = some (.int .i64 0) := (blk_cell BK258.out 3).trans rfl; have hcz49_4 : w48.cell? ⟨gb258, 4, none⟩ = some (.slice none 0 0) := (blk_cell BK258.out 4).trans rfl; have hcz49_5 : w48.cell? ⟨gb258, 5, none⟩ = some (.slice none 0 0) := (blk_cell BK258.out 5).trans rfl; have hcz49_6 : w48.cell? ⟨gb258, 6, none⟩ = some (.int .i64 0) := (blk_cell BK258.out 6).trans rfl; have hcz49_7 : w48.cell? ⟨gb258, 7, none⟩ = some (.int .i64 0) := (blk_cell BK258.out 7).trans rfl; have hcz49_8 : w48.cell? ⟨gb258, 8, none⟩ = some (.int .i64 0) := (blk_cell BK258.out 8).trans rfl; have hfz49_0 := blk_frozen BK258.out 0; have hfz49_1 := blk_frozen BK258.out 1; have hfz49_2 := blk_frozen BK258.out 2; have hfz49_3 := blk_frozen BK258.out 3; have hfz49_4 := blk_frozen BK258.out 4; have hfz49_5 := blk_frozen BK258.out 5; have hfz49_6 := blk_frozen BK258.out 6; have hfz49_7 := blk_frozen BK258.out 7; have hfz49_8 := blk_frozen BK258.out 8))
               go_roundg k1
               case measure => have := HK1.out; omega
               case rel => exact ⟨(wrap64 (x9_1 + 1)), (by first | rfl | (simp; done) | (simp [*]; done)), H', ⟨by have := HK1.out; omega⟩, ⟨by repeat (first | (with_reducible first | exact HB.out | apply below_alloc | apply pw_below_drewN | apply below_drew1 | refine below_set ?_ GE258.out) | exact HB.out)⟩⟩
             ·rw [if_neg c44] at H
              have c44b0 : decide (a1 < ((rd_T34 l0 x9_1).f8)) = false := decide_eq_false c44
              clear c44
              have H' := Aside0.mk H
              clear H
              have p257 : 0 ≤ (x9_1 : Int) := of_decide_eq_true (by first | (with_reducible assumption) | assumption)
              have q257 : x9_1 < (l0.length : Int) := of_decide_eq_true (by first | (with_reducible assumption) | assumption)
              obtain ⟨ad257, A257_4, c257_4, A257_5, c257_5, e257, hx257_0, hx257_1, hx257_2, hx257_3, hx257_4, hx257_5, hx257_6, hx257_7, hx257_8, hl257_4, hi257_4, hl257_5, hi257_5⟩ := at_T34 HR0.out x9_1 p257 q257
              cases e257
              replace hx257_0 := (HB.out.cell (World.block_lt_of_cell? w _ hx257_0)).trans hx257_0
              replace hx257_1 := (HB.out.cell (World.block_lt_of_cell? w _ hx257_1)).trans hx257_1
              replace hx257_2 := (HB.out.cell (World.block_lt_of_cell? w _ hx257_2)).trans hx257_2
              replace hx257_3 := (HB.out.cell (World.block_lt_of_cell? w _ hx257_3)).trans hx257_3
              replace hx257_4 := (HB.out.cell (World.block_lt_of_cell? w _ hx257_4)).trans hx257_4
              replace hx257_5 := (HB.out.cell (World.block_lt_of_cell? w _ hx257_5)).trans hx257_5
              replace hx257_6 := (HB.out.cell (World.block_lt_of_cell? w _ hx257_6)).trans hx257_6
              replace hx257_7 := (HB.out.cell (World.block_lt_of_cell? w _ hx257_7)).trans hx257_7
              replace hx257_8 := (HB.out.cell (World.block_lt_of_cell? w _ hx257_8)).trans hx257_8
              have HR257_4 := Aside0.mk hi257_4
              have HC257_4 := Aside0.mk hl257_4
              clear hi257_4 hl257_4
              have HR257_5 := Aside0.mk hi257_5
              have HC257_5 := Aside0.mk hl257_5
              clear hi257_5 hl257_5
              replace p257 := eq_true p257
              replace q257 := eq_true q257
              go_wp2_with (first | ((with_reducible refine gate_dst (N := 6) rfl ?_); (try (refine gate_guard (by rfl) ?_; dsimp only)); refine box_event ?hg (N := 6) ?hd (cs := #[.int .i64 0, .int .i64 0, .int .i64 0, .int .i64 0, .slice none 0 0, .slice none 0 0, .int .i64 0, .int .i64 0, .int .i64 0]) (t := 34) ?hr ?_; (case hd => rfl); (case hg => rfl); (case hr => first | (go_simp; done) | (go_simp; rfl)); intro gb258 hg w50 hbox hb; have n0_ := Aside0.mk (below_step (by repeat (first | (with_reducible first | exact HB.out | apply below_alloc | apply pw_below_drewN | apply below_drew1) | exact HB.out)) hb); have n1_ := Aside0.mk (hbox); have n2_ := Aside0.mk ((by rw [hg]; exact (below_size (by repeat (first | (with_reducible first | exact HB.out | apply below_alloc | apply pw_below_drewN | apply below_drew1) | exact HB.out))) : w.heap.size ≤ gb258)); have n3_ := Aside0.mk ((by rw [hg]; exact (below_size (by repeat (first | (with_reducible first | exact HB.out | apply below_alloc | apply pw_below_drewN | apply below_drew1) | exact HB.out))) : w.heap.size ≤ gb258)); clear HB; have HB := n0_; have BK258 := n1_; have GW258 := n2_; have GE258 := n3_; clear n0_ n1_ n2_ n3_; clear hb hbox hg; have hcz51_0 : w50.cell? ⟨gb258, 0, none⟩ = some (.int .i64 0) := (blk_cell BK258.out 0).trans rfl; have hcz51_1 : w50.cell? ⟨gb258, 1, none⟩ = some (.int .i64 0) := (blk_cell BK258.out 1).trans rfl; have hcz51_2 : w50.cell? ⟨gb258, 2, none⟩ = some (.int .i64 0) := (blk_cell BK258.out 2).trans rfl; have hcz51_3 : w50.cell? ⟨gb258, 3, none⟩ = some (.int .i64 0) := (blk_cell BK258.out 3).trans rfl; have hcz51_4 : w50.cell? ⟨gb258, 4, none⟩ = some (.slice none 0 0) := (blk_cell BK258.out 4).trans rfl; have hcz51_5 : w50.cell? ⟨gb258, 5, none⟩ = some (.slice none 0 0) := (blk_cell BK258.out 5).trans rfl; have hcz51_6 : w50.cell? ⟨gb258, 6, none⟩ = some (.int .i64 0) := (blk_cell BK258.out 6).trans rfl; have hcz51_7 : w50.cell? ⟨gb258, 7, none⟩ = some (.int .i64 0) := (blk_cell BK258.out 7).trans rfl; have hcz51_8 : w50.cell? ⟨gb258, 8, none⟩ = some (.int .i64 0) := (blk_cell BK258.out 8).trans rfl; have hfz51_0 := blk_frozen BK258.out 0; have hfz51_1 := blk_frozen BK258.out 1; have hfz51_2 := blk_frozen BK258.out 2; have hfz51_3 := blk_frozen BK258.out 3; have hfz51_4 := blk_frozen BK258.out 4; have hfz51_5 := blk_frozen BK258.out 5; have hfz51_6 := blk_frozen BK258.out 6; have hfz51_7 := blk_frozen BK258.out 7; have hfz51_8 := blk_frozen BK258.out 8))
              go_roundg k1
              case measure => have := HK1.out; omega
              case rel => exact ⟨(wrap64 (x9_1 + 1)), (by first | rfl | (simp; done) | (simp [*]; done)), H', ⟨by have := HK1.out; omega⟩, ⟨by repeat (first | (with_reducible first | exact HB.out | apply below_alloc | apply pw_below_drewN | apply below_drew1 | refine below_set ?_ GE258.out) | exact HB.out)⟩⟩
           ·rw [if_neg c40] at H
            have c40b0 : decide (a1 < ((rd_T34 l0 x9_1).f7)) = false := decide_eq_false c40
            clear c40
            by_cases c52 : ((rd_T34 l0 x9_1).f8) > a1
            ·rw [if_pos c52] at H
             have c52b0 : decide (a1 < ((rd_T34 l0 x9_1).f8)) = true := decide_eq_true c52
             clear c52
             by_cases c53 : ((rd_T34 l0 x9_1).f8) ≤ 65536
             ·rw [if_pos c53] at H
              have c53b0 : decide (((rd_T34 l0 x9_1).f8) ≤ 65536) = true := decide_eq_true c53
              clear c53
              obtain rfl := Option.some.inj H
              have p257 : 0 ≤ (x9_1 : Int) := of_decide_eq_true (by first | (with_reducible assumption) | assumption)
              have q257 : x9_1 < (l0.length : Int) := of_decide_eq_true (by first | (with_reducible assumption) | assumption)
              obtain ⟨ad257, A257_4, c257_4, A257_5, c257_5, e257, hx257_0, hx257_1, hx257_2, hx257_3, hx257_4, hx257_5, hx257_6, hx257_7, hx257_8, hl257_4, hi257_4, hl257_5, hi257_5⟩ := at_T34 HR0.out x9_1 p257 q257
              cases e257
              replace hx257_0 := (HB.out.cell (World.block_lt_of_cell? w _ hx257_0)).trans hx257_0
              replace hx257_1 := (HB.out.cell (World.block_lt_of_cell? w _ hx257_1)).trans hx257_1
              replace hx257_2 := (HB.out.cell (World.block_lt_of_cell? w _ hx257_2)).trans hx257_2
              replace hx257_3 := (HB.out.cell (World.block_lt_of_cell? w _ hx257_3)).trans hx257_3
              replace hx257_4 := (HB.out.cell (World.block_lt_of_cell? w _ hx257_4)).trans hx257_4
              replace hx257_5 := (HB.out.cell (World.block_lt_of_cell? w _ hx257_5)).trans hx257_5
              replace hx257_6 := (HB.out.cell (World.block_lt_of_cell? w _ hx257_6)).trans hx257_6
              replace hx257_7 := (HB.out.cell (World.block_lt_of_cell? w _ hx257_7)).trans hx257_7
              replace hx257_8 := (HB.out.cell (World.block_lt_of_cell? w _ hx257_8)).trans hx257_8
              have HR257_4 := Aside0.mk hi257_4
              have HC257_4 := Aside0.mk hl257_4
              clear hi257_4 hl257_4
              have HR257_5 := Aside0.mk hi257_5
              have HC257_5 := Aside0.mk hl257_5
              clear hi257_5 hl257_5
              replace p257 := eq_true p257
              replace q257 := eq_true q257
              go_wp2_with (first | ((with_reducible refine gate_dst (N := 6) rfl ?_); (try (refine gate_guard (by rfl) ?_; dsimp only)); refine box_event ?hg (N := 6) ?hd (cs := #[.int .i64 0, .int .i64 0, .int .i64 0, .int .i64 0, .slice none 0 0, .slice none 0 0, .int .i64 0, .int .i64 0, .int .i64 0]) (t := 34) ?hr ?_; (case hd => rfl); (case hg => rfl); (case hr => first | (go_simp; done) | (go_simp; rfl)); intro gb258 hg w54 hbox hb; have n0_ := Aside0.mk (below_step (by repeat (first | (with_reducible first | exact HB.out | apply below_alloc | apply pw_below_drewN | apply below_drew1) | exact HB.out)) hb); have n1_ := Aside0.mk (hbox); have n2_ := Aside0.mk ((by rw [hg]; exact (below_size (by repeat (first | (with_reducible first | exact HB.out | apply below_alloc | apply pw_below_drewN | apply below_drew1) | exact HB.out))) : w.heap.size ≤ gb258)); have n3_ := Aside0.mk ((by rw [hg]; exact (below_size (by repeat (first | (with_reducible first | exact HB.out | apply below_alloc | apply pw_below_drewN | apply below_drew1) | exact HB.out))) : w.heap.size ≤ gb258)); clear HB; have HB := n0_; have BK258 := n1_; have GW258 := n2_; have GE258 := n3_; clear n0_ n1_ n2_ n3_; clear hb hbox hg; have hcz55_0 : w54.cell? ⟨gb258, 0, none⟩ = some (.int .i64 0) := (blk_cell BK258.out 0).trans rfl; have hcz55_1 : w54.cell? ⟨gb258, 1, none⟩ = some (.int .i64 0) := (blk_cell BK258.out 1).trans rfl; have hcz55_2 : w54.cell? ⟨gb258, 2, none⟩ = some (.int .i64 0) := (blk_cell BK258.out 2).trans rfl; have hcz55_3 : w54.cell? ⟨gb258, 3, none⟩ = some (.int .i64 0) := (blk_cell BK258.out 3).trans rfl; have hcz55_4 : w54.cell? ⟨gb258, 4, none⟩ = some (.slice none 0 0) := (blk_cell BK258.out 4).trans rfl; have hcz55_5 : w54.cell? ⟨gb258, 5, none⟩ = some (.slice none 0 0) := (blk_cell BK258.out 5).trans rfl; have hcz55_6 : w54.cell? ⟨gb258, 6, none⟩ = some (.int .i64 0) := (blk_cell BK258.out 6).trans rfl; have hcz55_7 : w54.cell? ⟨gb258, 7, none⟩ = some (.int .i64 0) := (blk_cell BK258.out 7).trans rfl; have hcz55_8 : w54.cell? ⟨gb258, 8, none⟩ = some (.int .i64 0) := (blk_cell BK258.out 8).trans rfl; have hfz55_0 := blk_frozen BK258.out 0; have hfz55_1 := blk_frozen BK258.out 1; have hfz55_2 := blk_frozen BK258.out 2; have hfz55_3 := blk_frozen BK258.out 3; have hfz55_4 := blk_frozen BK258.out 4; have hfz55_5 := blk_frozen BK258.out 5; have hfz55_6 := blk_frozen BK258.out 6; have hfz55_7 := blk_frozen BK258.out 7; have hfz55_8 := blk_frozen BK258.out 8))
              go_ret
              exact ⟨by first | rfl | (simp [errW_none, errW_some] <;> rfl) | (simp [*, errW_none, errW_some] <;> rfl), by repeat (first | (with_reducible first | exact HB.out | apply below_alloc | apply pw_below_drewN | apply below_drew1 | refine below_set ?_ GE258.out) | exact HB.out)⟩
             ·rw [if_neg c53] at H
              have c53b0 : decide (((rd_T34 l0 x9_1).f8) ≤ 65536) = false := decide_eq_false c53
              clear c53
              have H' := Aside0.mk H
              clear H
              have p257 : 0 ≤ (x9_1 : Int) := of_decide_eq_true (by first | (with_reducible assumption) | assumption)
              have q257 : x9_1 < (l0.length : Int) := of_decide_eq_true (by first | (with_reducible assumption) | assumption)
              obtain ⟨ad257, A257_4, c257_4, A257_5, c257_5, e257, hx257_0, hx257_1, hx257_2, hx257_3, hx257_4, hx257_5, hx257_6, hx257_7, hx257_8, hl257_4, hi257_4, hl257_5, hi257_5⟩ := at_T34 HR0.out x9_1 p257 q257
              cases e257
              replace hx257_0 := (HB.out.cell (World.block_lt_of_cell? w _ hx257_0)).trans hx257_0
              replace hx257_1 := (HB.out.cell (World.block_lt_of_cell? w _ hx257_1)).trans hx257_1
              replace hx257_2 := (HB.out.cell (World.block_lt_of_cell? w _ hx257_2)).trans hx257_2
              replace hx257_3 := (HB.out.cell (World.block_lt_of_cell? w _ hx257_3)).trans hx257_3
              replace hx257_4 := (HB.out.cell (World.block_lt_of_cell? w _ hx257_4)).trans hx257_4
              replace hx257_5 := (HB.out.cell (World.block_lt_of_cell? w _ hx257_5)).trans hx257_5
              replace hx257_6 := (HB.out.cell (World.block_lt_of_cell? w _ hx257_6)).trans hx257_6
              replace hx257_7 := (HB.out.cell (World.block_lt_of_cell? w _ hx257_7)).trans hx257_7
              replace hx257_8 := (HB.out.cell (World.block_lt_of_cell? w _ hx257_8)).trans hx257_8
              have HR257_4 := Aside0.mk hi257_4
              have HC257_4 := Aside0.mk hl257_4
              clear hi257_4 hl257_4
              have HR257_5 := Aside0.mk hi257_5
              have HC257_5 := Aside0.mk hl257_5
              clear hi257_5 hl257_5
              replace p257 := eq_true p257
              replace q257 := eq_true q257
              go_wp2_with (first | ((with_reducible refine gate_dst (N := 6) rfl ?_); (try (refine gate_guard (by rfl) ?_; dsimp only)); refine box_event ?hg (N := 6) ?hd (cs := #[.int .i64 0, .int .i64 0, .int .i64 0, .int .i64 0, .slice none 0 0, .slice none 0 0, .int .i64 0, .int .i64 0, .int .i64 0]) (t := 34) ?hr ?_; (case hd => rfl); (case hg => rfl); (case hr => first | (go_simp; done) | (go_simp; rfl)); intro gb258 hg w56 hbox hb; have n0_ := Aside0.mk (below_step (by repeat (first | (with_reducible first | exact HB.out | apply below_alloc | apply pw_below_drewN | apply below_drew1) | exact HB.out)) hb); have n1_ := Aside0.mk (hbox); have n2_ := Aside0.mk ((by rw [hg]; exact (below_size (by repeat (first | (with_reducible first | exact HB.out | apply below_alloc | apply pw_below_drewN | apply below_drew1) | exact HB.out))) : w.heap.size ≤ gb258)); have n3_ := Aside0.mk ((by rw [hg]; exact (below_size (by repeat (first | (with_reducible first | exact HB.out | apply below_alloc | apply pw_below_drewN | apply below_drew1) | exact HB.out))) : w.heap.size ≤ gb258)); clear HB; have HB := n0_; have BK258 := n1_; have GW258 := n2_; have GE258 := n3_; clear n0_ n1_ n2_ n3_; clear hb hbox hg; have hcz57_0 : w56.cell? ⟨gb258, 0, none⟩ = some (.int .i64 0) := (blk_cell BK258.out 0).trans rfl; have hcz57_1 : w56.cell? ⟨gb258, 1, none⟩ = some (.int .i64 0) := (blk_cell BK258.out 1).trans rfl; have hcz57_2 : w56.cell? ⟨gb258, 2, none⟩ = some (.int .i64 0) := (blk_cell BK258.out 2).trans rfl; have hcz57_3 : w56.cell? ⟨gb258, 3, none⟩ = some (.int .i64 0) := (blk_cell BK258.out 3).trans rfl; have hcz57_4 : w56.cell? ⟨gb258, 4, none⟩ = some (.slice none 0 0) := (blk_cell BK258.out 4).trans rfl; have hcz57_5 : w56.cell? ⟨gb258, 5, none⟩ = some (.slice none 0 0) := (blk_cell BK258.out 5).trans rfl; have hcz57_6 : w56.cell? ⟨gb258, 6, none⟩ = some (.int .i64 0) := (blk_cell BK258.out 6).trans rfl; have hcz57_7 : w56.cell? ⟨gb258, 7, none⟩ = some (.int .i64 0) := (blk_cell BK258.out 7).trans rfl; have hcz57_8 : w56.cell? ⟨gb258, 8, none⟩ = some (.int .i64 0) := (blk_cell BK258.out 8).trans rfl; have hfz57_0 := blk_frozen BK258.out 0; have hfz57_1 := blk_frozen BK258.out 1; have hfz57_2 := blk_frozen BK258.out 2; have hfz57_3 := blk_frozen BK258.out 3; have hfz57_4 := blk_frozen BK258.out 4; have hfz57_5 := blk_frozen BK258.out 5; have hfz57_6 := blk_frozen BK258.out 6; have hfz57_7 := blk_frozen BK258.out 7; have hfz57_8 := blk_frozen BK258.out 8))
              go_roundg k1
              case measure => have := HK1.out; omega
              case rel => exact ⟨(wrap64 (x9_1 + 1)), (by first | rfl | (simp; done) | (simp [*]; done)), H', ⟨by have := HK1.out; omega⟩, ⟨by repeat (first | (with_reducible first | exact HB.out | apply below_alloc | apply pw_below_drewN | apply below_drew1 | refine below_set ?_ GE258.out) | exact HB.out)⟩⟩
            ·rw [if_neg c52] at H
             have c52b0 : decide (a1 < ((rd_T34 l0 x9_1).f8)) = false := decide_eq_false c52
             clear c52
             have H' := Aside0.mk H
             clear H
             have p257 : 0 ≤ (x9_1 : Int) := of_decide_eq_true (by first | (with_reducible assumption) | assumption)
             have q257 : x9_1 < (l0.length : Int) := of_decide_eq_true (by first | (with_reducible assumption) | assumption)
             obtain ⟨ad257, A257_4, c257_4, A257_5, c257_5, e257, hx257_0, hx257_1, hx257_2, hx257_3, hx257_4, hx257_5, hx257_6, hx257_7, hx257_8, hl257_4, hi257_4, hl257_5, hi257_5⟩ := at_T34 HR0.out x9_1 p257 q257
             cases e257
             replace hx257_0 := (HB.out.cell (World.block_lt_of_cell? w _ hx257_0)).trans hx257_0
             replace hx257_1 := (HB.out.cell (World.block_lt_of_cell? w _ hx257_1)).trans hx257_1
             replace hx257_2 := (HB.out.cell (World.block_lt_of_cell? w _ hx257_2)).trans hx257_2
             replace hx257_3 := (HB.out.cell (World.block_lt_of_cell? w _ hx257_3)).trans hx257_3
             replace hx257_4 := (HB.out.cell (World.block_lt_of_cell? w _ hx257_4)).trans hx257_4
             replace hx257_5 := (HB.out.cell (World.block_lt_of_cell? w _ hx257_5)).trans hx257_5
             replace hx257_6 := (HB.out.cell (World.block_lt_of_cell? w _ hx257_6)).trans hx257_6
             replace hx257_7 := (HB.out.cell (World.block_lt_of_cell? w _ hx257_7)).trans hx257_7
             replace hx257_8 := (HB.out.cell (World.block_lt_of_cell? w _ hx257_8)).trans hx257_8
             have HR257_4 := Aside0.mk hi257_4
             have HC257_4 := Aside0.mk hl257_4
             clear hi257_4 hl257_4
             have HR257_5 := Aside0.mk hi257_5
             have HC257_5 := Aside0.mk hl257_5
             clear hi257_5 hl257_5
             replace p257 := eq_true p257
             replace q257 := eq_true q257
             go_wp2_with (first | ((with_reducible refine gate_dst (N := 6) rfl ?_); (try (refine gate_guard (by rfl) ?_; dsimp only)); refine box_event ?hg (N := 6) ?hd (cs := #[.int .i64 0, .int .i64 0, .int .i64 0, .int .i64 0, .slice none 0 0, .slice none 0 0, .int .i64 0, .int .i64 0, .int .i64 0]) (t := 34) ?hr ?_; (case hd => rfl); (case hg => rfl); (case hr => first | (go_simp; done) | (go_simp; rfl)); intro gb258 hg w58 hbox hb; have n0_ := Aside0.mk (below_step (by repeat (first | (with_reducible first | exact HB.out | apply below_alloc | apply pw_below_drewN | apply below_drew1) | exact HB.out)) hb); have n1_ := Aside0.mk (hbox); have n2_ := Aside0.mk ((by rw [hg]; exact (below_size (by repeat (first | (with_reducible first | exact HB.out | apply below_alloc | apply pw_below_drewN | apply below_drew1) | exact HB.out))) : w.heap.size ≤ gb258)); have n3_ := Aside0.mk ((by rw [hg]; exact (below_size (by repeat (first | (with_reducible first | exact HB.out | apply below_alloc | apply pw_below_drewN | apply below_drew1) | exact HB.out))) : w.heap.size ≤ gb258)); clear HB; have HB := n0_; have BK258 := n1_; have GW258 := n2_; have GE258 := n3_; clear n0_ n1_ n2_ n3_; clear hb hbox hg; have hcz59_0 : w58.cell? ⟨gb258, 0, none⟩ = some (.int .i64 0) := (blk_cell BK258.out 0).trans rfl; have hcz59_1 : w58.cell? ⟨gb258, 1, none⟩ = some (.int .i64 0) := (blk_cell BK258.out 1).trans rfl; have hcz59_2 : w58.cell? ⟨gb258, 2, none⟩ = some (.int .i64 0) := (blk_cell BK258.out 2).trans rfl; have hcz59_3 : w58.cell? ⟨gb258, 3, none⟩ = some (.int .i64 0) := (blk_cell BK258.out 3).trans rfl; have hcz59_4 : w58.cell? ⟨gb258, 4, none⟩ = some (.slice none 0 0) := (blk_cell BK258.out 4).trans rfl; have hcz59_5 : w58.cell? ⟨gb258, 5, none⟩ = some (.slice none 0 0) := (blk_cell BK258.out 5).trans rfl; have hcz59_6 : w58.cell? ⟨gb258, 6, none⟩ = some (.int .i64 0) := (blk_cell BK258.out 6).trans rfl; have hcz59_7 : w58.cell? ⟨gb258, 7, none⟩ = some (.int .i64 0) := (blk_cell BK258.out 7).trans rfl; have hcz59_8 : w58.cell? ⟨gb258, 8, none⟩ = some (.int .i64 0) := (blk_cell BK258.out 8).trans rfl; have hfz59_0 := blk_frozen BK258.out 0; have hfz59_1 := blk_frozen BK258.out 1; have hfz59_2 := blk_frozen BK258.out 2; have hfz59_3 := blk_frozen BK258.out 3; have hfz59_4 := blk_frozen BK258.out 4; have hfz59_5 := blk_frozen BK258.out 5; have hfz59_6 := blk_frozen BK258.out 6; have hfz59_7 := blk_frozen BK258.out 7; have hfz59_8 := blk_frozen BK258.out 8))
             go_roundg k1
             case measure => have := HK1.out; omega
             case rel => exact ⟨(wrap64 (x9_1 + 1)), (by first | rfl | (simp; done) | (simp [*]; done)), H', ⟨by have := HK1.out; omega⟩, ⟨by repeat (first | (with_reducible first | exact HB.out | apply below_alloc | apply pw_below_drewN | apply below_drew1 | refine below_set ?_ GE258.out) | exact HB.out)⟩⟩
        ·rw [if_neg c12] at H
         have c12b0 : decide (262144 < ((rd_T34 l0 x9_1).f2)) = false := decide_eq_false c12
         clear c12
         by_cases c60 : ((rd_T34 l0 x9_1).f3) > 20
         ·rw [if_pos c60] at H
          have c60b0 : decide (20 < ((rd_T34 l0 x9_1).f3)) = true := decide_eq_true c60
          clear c60
          by_cases c61 : ((rd_T34 l0 x9_1).f3) < 512
          ·rw [if_pos c61] at H
           have c61b0 : decide (((rd_T34 l0 x9_1).f3) < 512) = true := decide_eq_true c61
           clear c61
           obtain rfl := Option.some.inj H
           have p257 : 0 ≤ (x9_1 : Int) := of_decide_eq_true (by first | (with_reducible assumption) | assumption)
           have q257 : x9_1 < (l0.length : Int) := of_decide_eq_true (by first | (with_reducible assumption) | assumption)
           obtain ⟨ad257, A257_4, c257_4, A257_5, c257_5, e257, hx257_0, hx257_1, hx257_2, hx257_3, hx257_4, hx257_5, hx257_6, hx257_7, hx257_8, hl257_4, hi257_4, hl257_5, hi257_5⟩ := at_T34 HR0.out x9_1 p257 q257
           cases e257
           replace hx257_0 := (HB.out.cell (World.block_lt_of_cell? w _ hx257_0)).trans hx257_0
           replace hx257_1 := (HB.out.cell (World.block_lt_of_cell? w _ hx257_1)).trans hx257_1
           replace hx257_2 := (HB.out.cell (World.block_lt_of_cell? w _ hx257_2)).trans hx257_2
           replace hx257_3 := (HB.out.cell (World.block_lt_of_cell? w _ hx257_3)).trans hx257_3
           replace hx257_4 := (HB.out.cell (World.block_lt_of_cell? w _ hx257_4)).trans hx257_4
           replace hx257_5 := (HB.out.cell (World.block_lt_of_cell? w _ hx257_5)).trans hx257_5
           replace hx257_6 := (HB.out.cell (World.block_lt_of_cell? w _ hx257_6)).trans hx257_6
           replace hx257_7 := (HB.out.cell (World.block_lt_of_cell? w _ hx257_7)).trans hx257_7
           replace hx257_8 := (HB.out.cell (World.block_lt_of_cell? w _ hx257_8)).trans hx257_8
           have HR257_4 := Aside0.mk hi257_4
           have HC257_4 := Aside0.mk hl257_4
           clear hi257_4 hl257_4
           have HR257_5 := Aside0.mk hi257_5
           have HC257_5 := Aside0.mk hl257_5
           clear hi257_5 hl257_5
           replace p257 := eq_true p257
           replace q257 := eq_true q257
           go_wp2_with (first | ((with_reducible refine gate_dst (N := 6) rfl ?_); (try (refine gate_guard (by rfl) ?_; dsimp only)); refine box_event ?hg (N := 6) ?hd (cs := #[.int .i64 0, .int .i64 0, .int .i64 0, .int .i64 0, .slice none 0 0, .slice none 0 0, .int .i64 0, .int .i64 0, .int .i64 0]) (t := 34) ?hr ?_; (case hd => rfl); (case hg => rfl); (case hr => first | (go_simp; done) | (go_simp; rfl)); intro gb258 hg w62 hbox hb; have n0_ := Aside0.mk (below_step (by repeat (first | (with_reducible first | exact HB.out | apply below_alloc | apply pw_below_drewN | apply below_drew1) | exact HB.out)) hb); have n1_ := Aside0.mk (hbox); have n2_ := Aside0.mk ((by rw [hg]; exact (below_size (by repeat (first | (with_reducible first | exact HB.out | apply below_alloc | apply pw_below_drewN | apply below_drew1) | exact HB.out))) : w.heap.size ≤ gb258)); have n3_ := Aside0.mk ((by rw [hg]; exact (below_size (by repeat (first | (with_reducible first | exact HB.out | apply below_alloc | apply pw_below_drewN | apply below_drew1) | exact HB.out))) : w.heap.size ≤ gb258)); clear HB; have HB := n0_; have BK258 := n1_; have GW258 := n2_; have GE258 := n3_; clear n0_ n1_ n2_ n3_; clear hb hbox hg; have hcz63_0 : w62.cell? ⟨gb258, 0, none⟩ = some (.int .i64 0) := (blk_cell BK258.out 0).trans rfl; have hcz63_1 : w62.cell? ⟨gb258, 1, none⟩ = some (.int .i64 0) := (blk_cell BK258.out 1).trans rfl; have hcz63_2 : w62.cell? ⟨gb258, 2, none⟩ = some (.int .i64 0) := (blk_cell BK258.out 2).trans rfl; have hcz63_3 : w62.cell? ⟨gb258, 3, none⟩ = some (.int .i64 0) := (blk_cell BK258.out 3).trans rfl; have hcz63_4 : w62.cell? ⟨gb258, 4, none⟩ = some (.slice none 0 0) := (blk_cell BK258.out 4).trans rfl; have hcz63_5 : w62.cell? ⟨gb258, 5, none⟩ = some (.slice none 0 0) := (blk_cell BK258.out 5).trans rfl; have hcz63_6 : w62.cell? ⟨gb258, 6, none⟩ = some (.int .i64 0) := (blk_cell BK258.out 6).trans rfl; have hcz63_7 : w62.cell? ⟨gb258, 7, none⟩ = some (.int .i64 0) := (blk_cell BK258.out 7).trans rfl; have hcz63_8 : w62.cell? ⟨gb258, 8, none⟩ = some (.int .i64 0) := (blk_cell BK258.out 8).trans rfl; have hfz63_0 := blk_frozen BK258.out 0; have hfz63_1 := blk_frozen BK258.out 1; have hfz63_2 := blk_frozen BK258.out 2; have hfz63_3 := blk_frozen BK258.out 3; have hfz63_4 := blk_frozen BK258.out 4; have hfz63_5 := blk_frozen BK258.out 5; have hfz63_6 := blk_frozen BK258.out 6; have hfz63_7 := blk_frozen BK258.out 7; have hfz63_8 := blk_frozen BK258.out 8))
           go_ret
           exact ⟨by first | rfl | (simp [errW_none, errW_some] <;> rfl) | (simp [*, errW_none, errW_some] <;> rfl), by repeat (first | (with_reducible first | exact HB.out | apply below_alloc | apply pw_below_drewN | apply below_drew1 | refine below_set ?_ GE258.out) | exact HB.out)⟩
          ·rw [if_neg c61] at H
           have c61b0 : decide (((rd_T34 l0 x9_1).f3) < 512) = false := decide_eq_false c61
           clear c61
           by_cases c64 : ((rd_T34 l0 x9_1).f7) > a1
           ·rw [if_pos c64] at H
            have c64b0 : decide (a1 < ((rd_T34 l0 x9_1).f7)) = true := decide_eq_true c64
            clear c64
            by_cases c65 : ((rd_T34 l0 x9_1).f7) ≤ 65536
            ·rw [if_pos c65] at H
             have c65b0 : decide (((rd_T34 l0 x9_1).f7) ≤ 65536) = true := decide_eq_true c65
             clear c65
             obtain rfl := Option.some.inj H
             have p257 : 0 ≤ (x9_1 : Int) := of_decide_eq_true (by first | (with_reducible assumption) | assumption)
             have q257 : x9_1 < (l0.length : Int) := of_decide_eq_true (by first | (with_reducible assumption) | assumption)
             obtain ⟨ad257, A257_4, c257_4, A257_5, c257_5, e257, hx257_0, hx257_1, hx257_2, hx257_3, hx257_4, hx257_5, hx257_6, hx257_7, hx257_8, hl257_4, hi257_4, hl257_5, hi257_5⟩ := at_T34 HR0.out x9_1 p257 q257
             cases e257
             replace hx257_0 := (HB.out.cell (World.block_lt_of_cell? w _ hx257_0)).trans hx257_0
             replace hx257_1 := (HB.out.cell (World.block_lt_of_cell? w _ hx257_1)).trans hx257_1
             replace hx257_2 := (HB.out.cell (World.block_lt_of_cell? w _ hx257_2)).trans hx257_2
             replace hx257_3 := (HB.out.cell (World.block_lt_of_cell? w _ hx257_3)).trans hx257_3
             replace hx257_4 := (HB.out.cell (World.block_lt_of_cell? w _ hx257_4)).trans hx257_4
             replace hx257_5 := (HB.out.cell (World.block_lt_of_cell? w _ hx257_5)).trans hx257_5
             replace hx257_6 := (HB.out.cell (World.block_lt_of_cell? w _ hx257_6)).trans hx257_6
             replace hx257_7 := (HB.out.cell (World.block_lt_of_cell? w _ hx257_7)).trans hx257_7
             replace hx257_8 := (HB.out.cell (World.block_lt_of_cell? w _ hx257_8)).trans hx257_8
             have HR257_4 := Aside0.mk hi257_4
             have HC257_4 := Aside0.mk hl257_4
             clear hi257_4 hl257_4
             have HR257_5 := Aside0.mk hi257_5
             have HC257_5 := Aside0.mk hl257_5
             clear hi257_5 hl257_5
             replace p257 := eq_true p257
             replace q257 := eq_true q257
             go_wp2_with (first | ((with_reducible refine gate_dst (N := 6) rfl ?_); (try (refine gate_guard (by rfl) ?_; dsimp only)); refine box_event ?hg (N := 6) ?hd (cs := #[.int .i64 0, .int .i64 0, .int .i64 0, .int .i64 0, .slice none 0 0, .slice none 0 0, .int .i64 0, .int .i64 0, .int .i64 0]) (t := 34) ?hr ?_; (case hd => rfl); (case hg => rfl); (case hr => first | (go_simp; done) | (go_simp; rfl)); intro gb258 hg w66 hbox hb; have n0_ := Aside0.mk (below_step (by repeat (first | (with_reducible first | exact HB.out | apply below_alloc | apply pw_below_drewN | apply below_drew1) | exact HB.out)) hb); have n1_ := Aside0.mk (hbox); have n2_ := Aside0.mk ((by rw [hg]; exact (below_size (by repeat (first | (with_reducible first | exact HB.out | apply below_alloc | apply pw_below_drewN | apply below_drew1) | exact HB.out))) : w.heap.size ≤ gb258)); have n3_ := Aside0.mk ((by rw [hg]; exact (below_size (by repeat (first | (with_reducible first | exact HB.out | apply below_alloc | apply pw_below_drewN | apply below_drew1) | exact HB.out))) : w.heap.size ≤ gb258)); clear HB; have HB := n0_; have BK258 := n1_; have GW258 := n2_; have GE258 := n3_; clear n0_ n1_ n2_ n3_; clear hb hbox hg; have hcz67_0 : w66.cell? ⟨gb258, 0, none⟩ = some (.int .i64 0) := (blk_cell BK258.out 0).trans rfl; have hcz67_1 : w66.cell? ⟨gb258, 1, none⟩ = some (.int .i64 0) := (blk_cell BK258.out 1).trans rfl; have hcz67_2 : w66.cell? ⟨gb258, 2, none⟩ = some (.int .i64 0) := (blk_cell BK258.out 2).trans rfl; have hcz67_3 : w66.cell? ⟨gb258, 3, none⟩ = some (.int .i64 0) := (blk_cell BK258.out 3).trans rfl; have hcz67_4 : w66.cell? ⟨gb258, 4, none⟩ = some (.slice none 0 0) := (blk_cell BK258.out 4).trans rfl; have hcz67_5 : w66.cell? ⟨gb258, 5, none⟩ = some (.slice none 0 0) := (blk_cell BK258.out 5).trans rfl; have hcz67_6 : w66.cell? ⟨gb258, 6, none⟩ = some (.int .i64 0) := (blk_cell BK258.out 6).trans rfl; have hcz67_7 : w66.cell? ⟨gb258, 7, none⟩ = some (.int .i64 0) := (blk_cell BK258.out 7).trans rfl; have hcz67_8 : w66.cell? ⟨gb258, 8, none⟩ = some (.int .i64 0) := (blk_cell BK258.out 8).trans rfl; have hfz67_0 := blk_frozen BK258.out 0; have hfz67_1 := blk_frozen BK258.out 1; have hfz67_2 := blk_frozen BK258.out 2; have hfz67_3 := blk_frozen BK258.out 3; have hfz67_4 := blk_frozen BK258.out 4; have hfz67_5 := blk_frozen BK258.out 5; have hfz67_6 := blk_frozen BK258.out 6; have hfz67_7 := blk_frozen BK258.out 7; have hfz67_8 := blk_frozen BK258.out 8))
             go_ret
             exact ⟨by first | rfl | (simp [errW_none, errW_some] <;> rfl) | (simp [*, errW_none, errW_some] <;> rfl), by repeat (first | (with_reducible first | exact HB.out | apply below_alloc | apply pw_below_drewN | apply below_drew1 | refine below_set ?_ GE258.out) | exact HB.out)⟩
            ·rw [if_neg c65] at H
             have c65b0 : decide (((rd_T34 l0 x9_1).f7) ≤ 65536) = false := decide_eq_false c65
             clear c65
             by_cases c68 : ((rd_T34 l0 x9_1).f8) > a1
             ·rw [if_pos c68] at H
              have c68b0 : decide (a1 < ((rd_T34 l0 x9_1).f8)) = true := decide_eq_true c68
              clear c68
              by_cases c69 : ((rd_T34 l0 x9_1).f8) ≤ 65536
              ·rw [if_pos c69] at H
               have c69b0 : decide (((rd_T34 l0 x9_1).f8) ≤ 65536) = true := decide_eq_true c69
               clear c69
               obtain rfl := Option.some.inj H
               have p257 : 0 ≤ (x9_1 : Int) := of_decide_eq_true (by first | (with_reducible assumption) | assumption)
               have q257 : x9_1 < (l0.length : Int) := of_decide_eq_true (by first | (with_reducible assumption) | assumption)
               obtain ⟨ad257, A257_4, c257_4, A257_5, c257_5, e257, hx257_0, hx257_1, hx257_2, hx257_3, hx257_4, hx257_5, hx257_6, hx257_7, hx257_8, hl257_4, hi257_4, hl257_5, hi257_5⟩ := at_T34 HR0.out x9_1 p257 q257
               cases e257
               replace hx257_0 := (HB.out.cell (World.block_lt_of_cell? w _ hx257_0)).trans hx257_0
               replace hx257_1 := (HB.out.cell (World.block_lt_of_cell? w _ hx257_1)).trans hx257_1
               replace hx257_2 := (HB.out.cell (World.block_lt_of_cell? w _ hx257_2)).trans hx257_2
               replace hx257_3 := (HB.out.cell (World.block_lt_of_cell? w _ hx257_3)).trans hx257_3
               replace hx257_4 := (HB.out.cell (World.block_lt_of_cell? w _ hx257_4)).trans hx257_4
               replace hx257_5 := (HB.out.cell (World.block_lt_of_cell? w _ hx257_5)).trans hx257_5
               replace hx257_6 := (HB.out.cell (World.block_lt_of_cell? w _ hx257_6)).trans hx257_6
               replace hx257_7 := (HB.out.cell (World.block_lt_of_cell? w _ hx257_7)).trans hx257_7
               replace hx257_8 := (HB.out.cell (World.block_lt_of_cell? w _ hx257_8)).trans hx257_8
               have HR257_4 := Aside0.mk hi257_4
               have HC257_4 := Aside0.mk hl257_4
               clear hi257_4 hl257_4
               have HR257_5 := Aside0.mk hi257_5
               have HC257_5 := Aside0.mk hl257_5
               clear hi257_5 hl257_5
               replace p257 := eq_true p257
               replace q257 := eq_true q257
               go_wp2_with (first | ((with_reducible refine gate_dst (N := 6) rfl ?_); (try (refine gate_guard (by rfl) ?_; dsimp only)); refine box_event ?hg (N := 6) ?hd (cs := #[.int .i64 0, .int .i64 0, .int .i64 0, .int .i64 0, .slice none 0 0, .slice none 0 0, .int .i64 0, .int .i64 0, .int .i64 0]) (t := 34) ?hr ?_; (case hd => rfl); (case hg => rfl); (case hr => first | (go_simp; done) | (go_simp; rfl)); intro gb258 hg w70 hbox hb; have n0_ := Aside0.mk (below_step (by repeat (first | (with_reducible first | exact HB.out | apply below_alloc | apply pw_below_drewN | apply below_drew1) | exact HB.out)) hb); have n1_ := Aside0.mk (hbox); have n2_ := Aside0.mk ((by rw [hg]; exact (below_size (by repeat (first | (with_reducible first | exact HB.out | apply below_alloc | apply pw_below_drewN | apply below_drew1) | exact HB.out))) : w.heap.size ≤ gb258)); have n3_ := Aside0.mk ((by rw [hg]; exact (below_size (by repeat (first | (with_reducible first | exact HB.out | apply below_alloc | apply pw_below_drewN | apply below_drew1) | exact HB.out))) : w.heap.size ≤ gb258)); clear HB; have HB := n0_; have BK258 := n1_; have GW258 := n2_; have GE258 := n3_; clear n0_ n1_ n2_ n3_; clear hb hbox hg; have hcz71_0 : w70.cell? ⟨gb258, 0, none⟩ = some (.int .i64 0) := (blk_cell BK258.out 0).trans rfl; have hcz71_1 : w70.cell? ⟨gb258, 1, none⟩ = some (.int .i64 0) := (blk_cell BK258.out 1).trans rfl; have hcz71_2 : w70.cell? ⟨gb258, 2, none⟩ = some (.int .i64 0) := (blk_cell BK258.out 2).trans rfl; have hcz71_3 : w70.cell? ⟨gb258, 3, none⟩ = some (.int .i64 0) := (blk_cell BK258.out 3).trans rfl; have hcz71_4 : w70.cell? ⟨gb258, 4, none⟩ = some (.slice none 0 0) := (blk_cell BK258.out 4).trans rfl; have hcz71_5 : w70.cell? ⟨gb258, 5, none⟩ = some (.slice none 0 0) := (blk_cell BK258.out 5).trans rfl; have hcz71_6 : w70.cell? ⟨gb258, 6, none⟩ = some (.int .i64 0) := (blk_cell BK258.out 6).trans rfl; have hcz71_7 : w70.cell? ⟨gb258, 7, none⟩ = some (.int .i64 0) := (blk_cell BK258.out 7).trans rfl; have hcz71_8 : w70.cell? ⟨gb258, 8, none⟩ = some (.int .i64 0) := (blk_cell BK258.out 8).trans rfl; have hfz71_0 := blk_frozen BK258.out 0; have hfz71_1 := blk_frozen BK258.out 1; have hfz71_2 := blk_frozen BK258.out 2; have hfz71_3 := blk_frozen BK258.out 3; have hfz71_4 := blk_frozen BK258.out 4; have hfz71_5 := blk_frozen BK258.out 5; have hfz71_6 := blk_frozen BK258.out 6; have hfz71_7 := blk_frozen BK258.out 7; have hfz71_8 := blk_frozen BK258.out 8))
               go_ret
               exact ⟨by first | rfl | (simp [errW_none, errW_some] <;> rfl) | (simp [*, errW_none, errW_some] <;> rfl), by repeat (first | (with_reducible first | exact HB.out | apply below_alloc | apply pw_below_drewN | apply below_drew1 | refine below_set ?_ GE258.out) | exact HB.out)⟩
              ·rw [if_neg c69] at H
               have c69b0 : decide (((rd_T34 l0 x9_1).f8) ≤ 65536) = false := decide_eq_false c69
               clear c69
               have H' := Aside0.mk H
               clear H
               have p257 : 0 ≤ (x9_1 : Int) := of_decide_eq_true (by first | (with_reducible assumption) | assumption)
               have q257 : x9_1 < (l0.length : Int) := of_decide_eq_true (by first | (with_reducible assumption) | assumption)
               obtain ⟨ad257, A257_4, c257_4, A257_5, c257_5, e257, hx257_0, hx257_1, hx257_2, hx257_3, hx257_4, hx257_5, hx257_6, hx257_7, hx257_8, hl257_4, hi257_4, hl257_5, hi257_5⟩ := at_T34 HR0.out x9_1 p257 q257
               cases e257
               replace hx257_0 := (HB.out.cell (World.block_lt_of_cell? w _ hx257_0)).trans hx257_0
               replace hx257_1 := (HB.out.cell (World.block_lt_of_cell? w _ hx257_1)).trans hx257_1
               replace hx257_2 := (HB.out.cell (World.block_lt_of_cell? w _ hx257_2)).trans hx257_2
               replace hx257_3 := (HB.out.cell (World.block_lt_of_cell? w _ hx257_3)).trans hx257_3
               replace hx257_4 := (HB.out.cell (World.block_lt_of_cell? w _ hx257_4)).trans hx257_4
               replace hx257_5 := (HB.out.cell (World.block_lt_of_cell? w _ hx257_5)).trans hx257_5
               replace hx257_6 := (HB.out.cell (World.block_lt_of_cell? w _ hx257_6)).trans hx257_6
               replace hx257_7 := (HB.out.cell (World.block_lt_of_cell? w _ hx257_7)).trans hx257_7
               replace hx257_8 := (HB.out.cell (World.block_lt_of_cell? w _ hx257_8)).trans hx257_8
               have HR257_4 := Aside0.mk hi257_4
               have HC257_4 := Aside0.mk hl257_4
               clear hi257_4 hl257_4
               have HR257_5 := Aside0.mk hi257_5
               have HC257_5 := Aside0.mk hl257_5
               clear hi257_5 hl257_5
               replace p257 := eq_true p257
               replace q257 := eq_true q257
               go_wp2_with (first | ((with_reducible refine gate_dst (N := 6) rfl ?_); (try (refine gate_guard (by rfl) ?_; dsimp only)); refine box_event ?hg (N := 6) ?hd (cs := #[.int .i64 0, .int .i64 0, .int .i64 0, .int .i64 0, .slice none 0 0, .slice none 0 0, .int .i64 0, .int .i64 0, .int .i64 0]) (t := 34) ?hr ?_; (case hd => rfl); (case hg => rfl); (case hr => first | (go_simp; done) | (go_simp; rfl)); intro gb258 hg w72 hbox hb; have n0_ := Aside0.mk (below_step (by repeat (first | (with_reducible first | exact HB.out | apply below_alloc | apply pw_below_drewN | apply below_drew1) | exact HB.out)) hb); have n1_ := Aside0.mk (hbox); have n2_ := Aside0.mk ((by rw [hg]; exact (below_size (by repeat (first | (with_reducible first | exact HB.out | apply below_alloc | apply pw_below_drewN | apply below_drew1) | exact HB.out))) : w.heap.size ≤ gb258)); have n3_ := Aside0.mk ((by rw [hg]; exact (below_size (by repeat (first | (with_reducible first | exact HB.out | apply below_alloc | apply pw_below_drewN | apply below_drew1) | exact HB.out))) : w.heap.size ≤ gb258)); clear HB; have HB := n0_; have BK258 := n1_; have GW258 := n2_; have GE258 := n3_; clear n0_ n1_ n2_ n3_; clear hb hbox hg; have hcz73_0 : w72.cell? ⟨gb258, 0, none⟩ = some (.int .i64 0) := (blk_cell BK258.out 0).trans rfl; have hcz73_1 : w72.cell? ⟨gb258, 1, none⟩ = some (.int .i64 0) := (blk_cell BK258.out 1).trans rfl; have hcz73_2 : w72.cell? ⟨gb258, 2, none⟩ = some (.int .i64 0) := (blk_cell BK258.out 2).trans rfl; have hcz73_3 : w72.cell? ⟨gb258, 3, none⟩ = some (.int .i64 0) := (blk_cell BK258.out 3).trans rfl; have hcz73_4 : w72.cell? ⟨gb258, 4, none⟩ = some (.slice none 0 0) := (blk_cell BK258.out 4).trans rfl; have hcz73_5 : w72.cell? ⟨gb258, 5, none⟩ = some (.slice none 0 0) := (blk_cell BK258.out 5).trans rfl; have hcz73_6 : w72.cell? ⟨gb258, 6, none⟩ = some (.int .i64 0) := (blk_cell BK258.out 6).trans rfl; have hcz73_7 : w72.cell? ⟨gb258, 7, none⟩ = some (.int .i64 0) := (blk_cell BK258.out 7).trans rfl; have hcz73_8 : w72.cell? ⟨gb258, 8, none⟩ = some (.int .i64 0) := (blk_cell BK258.out 8).trans rfl; have hfz73_0 := blk_frozen BK258.out 0; have hfz73_1 := blk_frozen BK258.out 1; have hfz73_2 := blk_frozen BK258.out 2; have hfz73_3 := blk_frozen BK258.out 3; have hfz73_4 := blk_frozen BK258.out 4; have hfz73_5 := blk_frozen BK258.out 5; have hfz73_6 := blk_frozen BK258.out 6; have hfz73_7 := blk_frozen BK258.out 7; have hfz73_8 := blk_frozen BK258.out 8))
               go_roundg k1
               case measure => have := HK1.out; omega
               case rel => exact ⟨(wrap64 (x9_1 + 1)), (by first | rfl | (simp; done) | (simp [*]; done)), H', ⟨by have := HK1.out; omega⟩, ⟨by repeat (first | (with_reducible first | exact HB.out | apply below_alloc | apply pw_below_drewN | apply below_drew1 | refine below_set ?_ GE258.out) | exact HB.out)⟩⟩
             ·rw [if_neg c68] at H
              have c68b0 : decide (a1 < ((rd_T34 l0 x9_1).f8)) = false := decide_eq_false c68
              clear c68
              have H' := Aside0.mk H
              clear H
              have p257 : 0 ≤ (x9_1 : Int) := of_decide_eq_true (by first | (with_reducible assumption) | assumption)
              have q257 : x9_1 < (l0.length : Int) := of_decide_eq_true (by first | (with_reducible assumption) | assumption)
              obtain ⟨ad257, A257_4, c257_4, A257_5, c257_5, e257, hx257_0, hx257_1, hx257_2, hx257_3, hx257_4, hx257_5, hx257_6, hx257_7, hx257_8, hl257_4, hi257_4, hl257_5, hi257_5⟩ := at_T34 HR0.out x9_1 p257 q257
              cases e257
              replace hx257_0 := (HB.out.cell (World.block_lt_of_cell? w _ hx257_0)).trans hx257_0
              replace hx257_1 := (HB.out.cell (World.block_lt_of_cell? w _ hx257_1)).trans hx257_1
              replace hx257_2 := (HB.out.cell (World.block_lt_of_cell? w _ hx257_2)).trans hx257_2
              replace hx257_3 := (HB.out.cell (World.block_lt_of_cell? w _ hx257_3)).trans hx257_3
              replace hx257_4 := (HB.out.cell (World.block_lt_of_cell? w _ hx257_4)).trans hx257_4
              replace hx257_5 := (HB.out.cell (World.block_lt_of_cell? w _ hx257_5)).trans hx257_5
              replace hx257_6 := (HB.out.cell (World.block_lt_of_cell? w _ hx257_6)).trans hx257_6
              replace hx257_7 := (HB.out.cell (World.block_lt_of_cell? w _ hx257_7)).trans hx257_7
              replace hx257_8 := (HB.out.cell (World.block_lt_of_cell? w _ hx257_8)).trans hx257_8
              have HR257_4 := Aside0.mk hi257_4
              have HC257_4 := Aside0.mk hl257_4
              clear hi257_4 hl257_4
              have HR257_5 := Aside0.mk hi257_5
              have HC257_5 := Aside0.mk hl257_5
              clear hi257_5 hl257_5
              replace p257 := eq_true p257
              replace q257 := eq_true q257
              go_wp2_with (first | ((with_reducible refine gate_dst (N := 6) rfl ?_); (try (refine gate_guard (by rfl) ?_; dsimp only)); refine box_event ?hg (N := 6) ?hd (cs := #[.int .i64 0, .int .i64 0, .int .i64 0, .int .i64 0, .slice none 0 0, .slice none 0 0, .int .i64 0, .int .i64 0, .int .i64 0]) (t := 34) ?hr ?_; (case hd => rfl); (case hg => rfl); (case hr => first | (go_simp; done) | (go_simp; rfl)); intro gb258 hg w74 hbox hb; have n0_ := Aside0.mk (below_step (by repeat (first | (with_reducible first | exact HB.out | apply below_alloc | apply pw_below_drewN | apply below_drew1) | exact HB.out)) hb); have n1_ := Aside0.mk (hbox); have n2_ := Aside0.mk ((by rw [hg]; exact (below_size (by repeat (first | (with_reducible first | exact HB.out | apply below_alloc | apply pw_below_drewN | apply below_drew1) | exact HB.out))) : w.heap.size ≤ gb258)); have n3_ := Aside0.mk ((by rw [hg]; exact (below_size (by repeat (first | (with_reducible first | exact HB.out | apply below_alloc | apply pw_below_drewN | apply below_drew1) | exact HB.out))) : w.heap.size ≤ gb258)); clear HB; have HB := n0_; have BK258 := n1_; have GW258 := n2_; have GE258 := n3_; clear n0_ n1_ n2_ n3_; clear hb hbox hg; have hcz75_0 : w74.cell? ⟨gb258, 0, none⟩ = some (.int .i64 0) := (blk_cell BK258.out 0).trans rfl; have hcz75_1 : w74.cell? ⟨gb258, 1, none⟩ = some (.int .i64 0) := (blk_cell BK258.out 1).trans rfl; have hcz75_2 : w74.cell? ⟨gb258, 2, none⟩ = some (.int .i64 0) := (blk_cell BK258.out 2).trans rfl; have hcz75_3 : w74.cell? ⟨gb258, 3, none⟩ = some (.int .i64 0) := (blk_cell BK258.out 3).trans rfl; have hcz75_4 : w74.cell? ⟨gb258, 4, none⟩ = some (.slice none 0 0) := (blk_cell BK258.out 4).trans rfl; have hcz75_5 : w74.cell? ⟨gb258, 5, none⟩ = some (.slice none 0 0) := (blk_cell BK258.out 5).trans rfl; have hcz75_6 : w74.cell? ⟨gb258, 6, none⟩ = some (.int .i64 0) := (blk_cell BK258.out 6).trans rfl; have hcz75_7 : w74.cell? ⟨gb258, 7, none⟩ = some (.int .i64 0) := (blk_cell BK258.out 7).trans rfl; have hcz75_8 : w74.cell? ⟨gb258, 8, none⟩ = some (.int .i64 0) := (blk_cell BK258.out 8).trans rfl; have hfz75_0 := blk_frozen BK258.out 0; have hfz75_1 := blk_frozen BK258.out 1; have hfz75_2 := blk_frozen BK258.out 2; have hfz75_3 := blk_frozen BK258.out 3; have hfz75_4 := blk_frozen BK258.out 4; have hfz75_5 := blk_frozen BK258.out 5; have hfz75_6 := blk_frozen BK258.out 6; have hfz75_7 := blk_frozen BK258.out 7; have hfz75_8 := blk_frozen BK258.out 8))
              go_roundg k1
              case measure => have := HK1.out; omega
              case rel => exact ⟨(wrap64 (x9_1 + 1)), (by first | rfl | (simp; done) | (simp [*]; done)), H', ⟨by have := HK1.out; omega⟩, ⟨by repeat (first | (with_reducible first | exact HB.out | apply below_alloc | apply pw_below_drewN | apply below_drew1 | refine below_set ?_ GE258.out) | exact HB.out)⟩⟩
           ·rw [if_neg c64] at H
            have c64b0 : decide (a1 < ((rd_T34 l0 x9_1).f7)) = false := decide_eq_false c64
            clear c64
            by_cases c76 : ((rd_T34 l0 x9_1).f8) > a1
            ·rw [if_pos c76] at H
             have c76b0 : decide (a1 < ((rd_T34 l0 x9_1).f8)) = true := decide_eq_true c76
             clear c76
             by_cases c77 : ((rd_T34 l0 x9_1).f8) ≤ 65536
             ·rw [if_pos c77] at H
              have c77b0 : decide (((rd_T34 l0 x9_1).f8) ≤ 65536) = true := decide_eq_true c77
              clear c77
              obtain rfl := Option.some.inj H
              have p257 : 0 ≤ (x9_1 : Int) := of_decide_eq_true (by first | (with_reducible assumption) | assumption)
              have q257 : x9_1 < (l0.length : Int) := of_decide_eq_true (by first | (with_reducible assumption) | assumption)
              obtain ⟨ad257, A257_4, c257_4, A257_5, c257_5, e257, hx257_0, hx257_1, hx257_2, hx257_3, hx257_4, hx257_5, hx257_6, hx257_7, hx257_8, hl257_4, hi257_4, hl257_5, hi257_5⟩ := at_T34 HR0.out x9_1 p257 q257
              cases e257
              replace hx257_0 := (HB.out.cell (World.block_lt_of_cell? w _ hx257_0)).trans hx257_0
              replace hx257_1 := (HB.out.cell (World.block_lt_of_cell? w _ hx257_1)).trans hx257_1
              replace hx257_2 := (HB.out.cell (World.block_lt_of_cell? w _ hx257_2)).trans hx257_2
              replace hx257_3 := (HB.out.cell (World.block_lt_of_cell? w _ hx257_3)).trans hx257_3
              replace hx257_4 := (HB.out.cell (World.block_lt_of_cell? w _ hx257_4)).trans hx257_4
              replace hx257_5 := (HB.out.cell (World.block_lt_of_cell? w _ hx257_5)).trans hx257_5
              replace hx257_6 := (HB.out.cell (World.block_lt_of_cell? w _ hx257_6)).trans hx257_6
              replace hx257_7 := (HB.out.cell (World.block_lt_of_cell? w _ hx257_7)).trans hx257_7
              replace hx257_8 := (HB.out.cell (World.block_lt_of_cell? w _ hx257_8)).trans hx257_8
              have HR257_4 := Aside0.mk hi257_4
              have HC257_4 := Aside0.mk hl257_4
              clear hi257_4 hl257_4
              have HR257_5 := Aside0.mk hi257_5
              have HC257_5 := Aside0.mk hl257_5
              clear hi257_5 hl257_5
              replace p257 := eq_true p257
              replace q257 := eq_true q257
              go_wp2_with (first | ((with_reducible refine gate_dst (N := 6) rfl ?_); (try (refine gate_guard (by rfl) ?_; dsimp only)); refine box_event ?hg (N := 6) ?hd (cs := #[.int .i64 0, .int .i64 0, .int .i64 0, .int .i64 0, .slice none 0 0, .slice none 0 0, .int .i64 0, .int .i64 0, .int .i64 0]) (t := 34) ?hr ?_; (case hd => rfl); (case hg => rfl); (case hr => first | (go_simp; done) | (go_simp; rfl)); intro gb258 hg w78 hbox hb; have n0_ := Aside0.mk (below_step (by repeat (first | (with_reducible first | exact HB.out | apply below_alloc | apply pw_below_drewN | apply below_drew1) | exact HB.out)) hb); have n1_ := Aside0.mk (hbox); have n2_ := Aside0.mk ((by rw [hg]; exact (below_size (by repeat (first | (with_reducible first | exact HB.out | apply below_alloc | apply pw_below_drewN | apply below_drew1) | exact HB.out))) : w.heap.size ≤ gb258)); have n3_ := Aside0.mk ((by rw [hg]; exact (below_size (by repeat (first | (with_reducible first | exact HB.out | apply below_alloc | apply pw_below_drewN | apply below_drew1) | exact HB.out))) : w.heap.size ≤ gb258)); clear HB; have HB := n0_; have BK258 := n1_; have GW258 := n2_; have GE258 := n3_; clear n0_ n1_ n2_ n3_; clear hb hbox hg; have hcz79_0 : w78.cell? ⟨gb258, 0, none⟩ = some (.int .i64 0) := (blk_cell BK258.out 0).trans rfl; have hcz79_1 : w78.cell? ⟨gb258, 1, none⟩ = some (.int .i64 0) := (blk_cell BK258.out 1).trans rfl; have hcz79_2 : w78.cell? ⟨gb258, 2, none⟩ = some (.int .i64 0) := (blk_cell BK258.out 2).trans rfl; have hcz79_3 : w78.cell? ⟨gb258, 3, none⟩ = some (.int .i64 0) := (blk_cell BK258.out 3).trans rfl; have hcz79_4 : w78.cell? ⟨gb258, 4, none⟩ = some (.slice none 0 0) := (blk_cell BK258.out 4).trans rfl; have hcz79_5 : w78.cell? ⟨gb258, 5, none⟩ = some (.slice none 0 0) := (blk_cell BK258.out 5).trans rfl; have hcz79_6 : w78.cell? ⟨gb258, 6, none⟩ = some (.int .i64 0) := (blk_cell BK258.out 6).trans rfl; have hcz79_7 : w78.cell? ⟨gb258, 7, none⟩ = some (.int .i64 0) := (blk_cell BK258.out 7).trans rfl; have hcz79_8 : w78.cell? ⟨gb258, 8, none⟩ = some (.int .i64 0) := (blk_cell BK258.out 8).trans rfl; have hfz79_0 := blk_frozen BK258.out 0; have hfz79_1 := blk_frozen BK258.out 1; have hfz79_2 := blk_frozen BK258.out 2; have hfz79_3 := blk_frozen BK258.out 3; have hfz79_4 := blk_frozen BK258.out 4; have hfz79_5 := blk_frozen BK258.out 5; have hfz79_6 := blk_frozen BK258.out 6; have hfz79_7 := blk_frozen BK258.out 7; have hfz79_8 := blk_frozen BK258.out 8))
              go_ret
              exact ⟨by first | rfl | (simp [errW_none, errW_some] <;> rfl) | (simp [*, errW_none, errW_some] <;> rfl), by repeat (first | (with_reducible first | exact HB.out | apply below_alloc | apply pw_below_drewN | apply below_drew1 | refine below_set ?_ GE258.out) | exact HB.out)⟩
             ·rw [if_neg c77] at H
              have c77b0 : decide (((rd_T34 l0 x9_1).f8) ≤ 65536) = false := decide_eq_false c77
              clear c77
              have H' := Aside0.mk H
              clear H
              have p257 : 0 ≤ (x9_1 : Int) := of_decide_eq_true (by first | (with_reducible assumption) | assumption)
              have q257 : x9_1 < (l0.length : Int) := of_decide_eq_true (by first | (with_reducible assumption) | assumption)
              obtain ⟨ad257, A257_4, c257_4, A257_5, c257_5, e257, hx257_0, hx257_1, hx257_2, hx257_3, hx257_4, hx257_5, hx257_6, hx257_7, hx257_8, hl257_4, hi257_4, hl257_5, hi257_5⟩ := at_T34 HR0.out x9_1 p257 q257
              cases e257
              replace hx257_0 := (HB.out.cell (World.block_lt_of_cell? w _ hx257_0)).trans hx257_0
              replace hx257_1 := (HB.out.cell (World.block_lt_of_cell? w _ hx257_1)).trans hx257_1
              replace hx257_2 := (HB.out.cell (World.block_lt_of_cell? w _ hx257_2)).trans hx257_2
              replace hx257_3 := (HB.out.cell (World.block_lt_of_cell? w _ hx257_3)).trans hx257_3
              replace hx257_4 := (HB.out.cell (World.block_lt_of_cell? w _ hx257_4)).trans hx257_4
              replace hx257_5 := (HB.out.cell (World.block_lt_of_cell? w _ hx257_5)).trans hx257_5
              replace hx257_6 := (HB.out.cell (World.block_lt_of_cell? w _ hx257_6)).trans hx257_6
              replace hx257_7 := (HB.out.cell (World.block_lt_of_cell? w _ hx257_7)).trans hx257_7
              replace hx257_8 := (HB.out.cell (World.block_lt_of_cell? w _ hx257_8)).trans hx257_8
              have HR257_4 := Aside0.mk hi257_4
              have HC257_4 := Aside0.mk hl257_4
              clear hi257_4 hl257_4
              have HR257_5 := Aside0.mk hi257_5
              have HC257_5 := Aside0.mk hl257_5
              clear hi257_5 hl257_5
              replace p257 := eq_true p257
              replace q257 := eq_true q257
              go_wp2_with (first | ((with_reducible refine gate_dst (N := 6) rfl ?_); (try (refine gate_guard (by rfl) ?_; dsimp only)); refine box_event ?hg (N := 6) ?hd (cs := #[.int .i64 0, .int .i64 0, .int .i64 0, .int .i64 0, .slice none 0 0, .slice none 0 0, .int .i64 0, .int .i64 0, .int .i64 0]) (t := 34) ?hr ?_; (case hd => rfl); (case hg => rfl); (case hr => first | (go_simp; done) | (go_simp; rfl)); intro gb258 hg w80 hbox hb; have n0_ := Aside0.mk (below_step (by repeat (first | (with_reducible first | exact HB.out | apply below_alloc | apply pw_below_drewN | apply below_drew1) | exact HB.out)) hb); have n1_ := Aside0.mk (hbox); have n2_ := Aside0.mk ((by rw [hg]; exact (below_size (by repeat (first | (with_reducible first | exact HB.out | apply below_alloc | apply pw_below_drewN | apply below_drew1) | exact HB.out))) : w.heap.size ≤ gb258)); have n3_ := Aside0.mk ((by rw [hg]; exact (below_size (by repeat (first | (with_reducible first | exact HB.out | apply below_alloc | apply pw_below_drewN | apply below_drew1) | exact HB.out))) : w.heap.size ≤ gb258)); clear HB; have HB := n0_; have BK258 := n1_; have GW258 := n2_; have GE258 := n3_; clear n0_ n1_ n2_ n3_; clear hb hbox hg; have hcz81_0 : w80.cell? ⟨gb258, 0, none⟩ = some (.int .i64 0) := (blk_cell BK258.out 0).trans rfl; have hcz81_1 : w80.cell? ⟨gb258, 1, none⟩ = some (.int .i64 0) := (blk_cell BK258.out 1).trans rfl; have hcz81_2 : w80.cell? ⟨gb258, 2, none⟩ = some (.int .i64 0) := (blk_cell BK258.out 2).trans rfl; have hcz81_3 : w80.cell? ⟨gb258, 3, none⟩ = some (.int .i64 0) := (blk_cell BK258.out 3).trans rfl; have hcz81_4 : w80.cell? ⟨gb258, 4, none⟩ = some (.slice none 0 0) := (blk_cell BK258.out 4).trans rfl; have hcz81_5 : w80.cell? ⟨gb258, 5, none⟩ = some (.slice none 0 0) := (blk_cell BK258.out 5).trans rfl; have hcz81_6 : w80.cell? ⟨gb258, 6, none⟩ = some (.int .i64 0) := (blk_cell BK258.out 6).trans rfl; have hcz81_7 : w80.cell? ⟨gb258, 7, none⟩ = some (.int .i64 0) := (blk_cell BK258.out 7).trans rfl; have hcz81_8 : w80.cell? ⟨gb258, 8, none⟩ = some (.int .i64 0) := (blk_cell BK258.out 8).trans rfl; have hfz81_0 := blk_frozen BK258.out 0; have hfz81_1 := blk_frozen BK258.out 1; have hfz81_2 := blk_frozen BK258.out 2; have hfz81_3 := blk_frozen BK258.out 3; have hfz81_4 := blk_frozen BK258.out 4; have hfz81_5 := blk_frozen BK258.out 5; have hfz81_6 := blk_frozen BK258.out 6; have hfz81_7 := blk_frozen BK258.out 7; have hfz81_8 := blk_frozen BK258.out 8))
              go_roundg k1
              case measure => have := HK1.out; omega
              case rel => exact ⟨(wrap64 (x9_1 + 1)), (by first | rfl | (simp; done) | (simp [*]; done)), H', ⟨by have := HK1.out; omega⟩, ⟨by repeat (first | (with_reducible first | exact HB.out | apply below_alloc | apply pw_below_drewN | apply below_drew1 | refine below_set ?_ GE258.out) | exact HB.out)⟩⟩
            ·rw [if_neg c76] at H
             have c76b0 : decide (a1 < ((rd_T34 l0 x9_1).f8)) = false := decide_eq_false c76
             clear c76
             have H' := Aside0.mk H
             clear H
             have p257 : 0 ≤ (x9_1 : Int) := of_decide_eq_true (by first | (with_reducible assumption) | assumption)
             have q257 : x9_1 < (l0.length : Int) := of_decide_eq_true (by first | (with_reducible assumption) | assumption)
             obtain ⟨ad257, A257_4, c257_4, A257_5, c257_5, e257, hx257_0, hx257_1, hx257_2, hx257_3, hx257_4, hx257_5, hx257_6, hx257_7, hx257_8, hl257_4, hi257_4, hl257_5, hi257_5⟩ := at_T34 HR0.out x9_1 p257 q257
             cases e257
             replace hx257_0 := (HB.out.cell (World.block_lt_of_cell? w _ hx257_0)).trans hx257_0
             replace hx257_1 := (HB.out.cell (World.block_lt_of_cell? w _ hx257_1)).trans hx257_1
             replace hx257_2 := (HB.out.cell (World.block_lt_of_cell? w _ hx257_2)).trans hx257_2
             replace hx257_3 := (HB.out.cell (World.block_lt_of_cell? w _ hx257_3)).trans hx257_3
             replace hx257_4 := (HB.out.cell (World.block_lt_of_cell? w _ hx257_4)).trans hx257_4
             replace hx257_5 := (HB.out.cell (World.block_lt_of_cell? w _ hx257_5)).trans hx257_5
             replace hx257_6 := (HB.out.cell (World.block_lt_of_cell? w _ hx257_6)).trans hx257_6
             replace hx257_7 := (HB.out.cell (World.block_lt_of_cell? w _ hx257_7)).trans hx257_7
             replace hx257_8 := (HB.out.cell (World.block_lt_of_cell? w _ hx257_8)).trans hx257_8
             have HR257_4 := Aside0.mk hi257_4
             have HC257_4 := Aside0.mk hl257_4
             clear hi257_4 hl257_4
             have HR257_5 := Aside0.mk hi257_5
             have HC257_5 := Aside0.mk hl257_5
             clear hi257_5 hl257_5
             replace p257 := eq_true p257
             replace q257 := eq_true q257
             go_wp2_with (first | ((with_reducible refine gate_dst (N := 6) rfl ?_); (try (refine gate_guard (by rfl) ?_; dsimp only)); refine box_event ?hg (N := 6) ?hd (cs := #[.int .i64 0, .int .i64 0, .int .i64 0, .int .i64 0, .slice none 0 0, .slice none 0 0, .int .i64 0, .int .i64 0, .int .i64 0]) (t := 34) ?hr ?_; (case hd => rfl); (case hg => rfl); (case hr => first | (go_simp; done) | (go_simp; rfl)); intro gb258 hg w82 hbox hb; have n0_ := Aside0.mk (below_step (by repeat (first | (with_reducible first | exact HB.out | apply below_alloc | apply pw_below_drewN | apply below_drew1) | exact HB.out)) hb); have n1_ := Aside0.mk (hbox); have n2_ := Aside0.mk ((by rw [hg]; exact (below_size (by repeat (first | (with_reducible first | exact HB.out | apply below_alloc | apply pw_below_drewN | apply below_drew1) | exact HB.out))) : w.heap.size ≤ gb258)); have n3_ := Aside0.mk ((by rw [hg]; exact (below_size (by repeat (first | (with_reducible first | exact HB.out | apply below_alloc | apply pw_below_drewN | apply below_drew1) | exact HB.out))) : w.heap.size ≤ gb258)); clear HB; have HB := n0_; have BK258 := n1_; have GW258 := n2_; have GE258 := n3_; clear n0_ n1_ n2_ n3_; clear hb hbox hg; have hcz83_0 : w82.cell? ⟨gb258, 0, none⟩ = some (.int .i64 0) := (blk_cell BK258.out 0).trans rfl; have hcz83_1 : w82.cell? ⟨gb258, 1, none⟩ = some (.int .i64 0) := (blk_cell BK258.out 1).trans rfl; have hcz83_2 : w82.cell? ⟨gb258, 2, none⟩ = some (.int .i64 0) := (blk_cell BK258.out 2).trans rfl; have hcz83_3 : w82.cell? ⟨gb258, 3, none⟩ = some (.int .i64 0) := (blk_cell BK258.out 3).trans rfl; have hcz83_4 : w82.cell? ⟨gb258, 4, none⟩ = some (.slice none 0 0) := (blk_cell BK258.out 4).trans rfl; have hcz83_5 : w82.cell? ⟨gb258, 5, none⟩ = some (.slice none 0 0) := (blk_cell BK258.out 5).trans rfl; have hcz83_6 : w82.cell? ⟨gb258, 6, none⟩ = some (.int .i64 0) := (blk_cell BK258.out 6).trans rfl; have hcz83_7 : w82.cell? ⟨gb258, 7, none⟩ = some (.int .i64 0) := (blk_cell BK258.out 7).trans rfl; have hcz83_8 : w82.cell? ⟨gb258, 8, none⟩ = some (.int .i64 0) := (blk_cell BK258.out 8).trans rfl; have hfz83_0 := blk_frozen BK258.out 0; have hfz83_1 := blk_frozen BK258.out 1; have hfz83_2 := blk_frozen BK258.out 2; have hfz83_3 := blk_frozen BK258.out 3; have hfz83_4 := blk_frozen BK258.out 4; have hfz83_5 := blk_frozen BK258.out 5; have hfz83_6 := blk_frozen BK258.out 6; have hfz83_7 := blk_frozen BK258.out 7; have hfz83_8 := blk_frozen BK258.out 8))
             go_roundg k1
             case measure => have := HK1.out; omega
             case rel => exact ⟨(wrap64 (x9_1 + 1)), (by first | rfl | (simp; done) | (simp [*]; done)), H', ⟨by have := HK1.out; omega⟩, ⟨by repeat (first | (with_reducible first | exact HB.out | apply below_alloc | apply pw_below_drewN | apply below_drew1 | refine below_set ?_ GE258.out) | exact HB.out)⟩⟩
         ·rw [if_neg c60] at H
          have c60b0 : decide (20 < ((rd_T34 l0 x9_1).f3)) = false := decide_eq_false c60
          clear c60
          by_cases c84 : ((rd_T34 l0 x9_1).f7) > a1
          ·rw [if_pos c84] at H
           have c84b0 : decide (a1 < ((rd_T34 l0 x9_1).f7)) = true := decide_eq_true c84
           clear c84
           by_cases c85 : ((rd_T34 l0 x9_1).f7) ≤ 65536
           ·rw [if_pos c85] at H
            have c85b0 : decide (((rd_T34 l0 x9_1).f7) ≤ 65536) = true := decide_eq_true c85
            clear c85
            obtain rfl := Option.some.inj H
            have p257 : 0 ≤ (x9_1 : Int) := of_decide_eq_true (by first | (with_reducible assumption) | assumption)
            have q257 : x9_1 < (l0.length : Int) := of_decide_eq_true (by first | (with_reducible assumption) | assumption)
            obtain ⟨ad257, A257_4, c257_4, A257_5, c257_5, e257, hx257_0, hx257_1, hx257_2, hx257_3, hx257_4, hx257_5, hx257_6, hx257_7, hx257_8, hl257_4, hi257_4, hl257_5, hi257_5⟩ := at_T34 HR0.out x9_1 p257 q257
            cases e257
            replace hx257_0 := (HB.out.cell (World.block_lt_of_cell? w _ hx257_0)).trans hx257_0
            replace hx257_1 := (HB.out.cell (World.block_lt_of_cell? w _ hx257_1)).trans hx257_1
            replace hx257_2 := (HB.out.cell (World.block_lt_of_cell? w _ hx257_2)).trans hx257_2
            replace hx257_3 := (HB.out.cell (World.block_lt_of_cell? w _ hx257_3)).trans hx257_3
            replace hx257_4 := (HB.out.cell (World.block_lt_of_cell? w _ hx257_4)).trans hx257_4
            replace hx257_5 := (HB.out.cell (World.block_lt_of_cell? w _ hx257_5)).trans hx257_5
            replace hx257_6 := (HB.out.cell (World.block_lt_of_cell? w _ hx257_6)).trans hx257_6
            replace hx257_7 := (HB.out.cell (World.block_lt_of_cell? w _ hx257_7)).trans hx257_7
            replace hx257_8 := (HB.out.cell (World.block_lt_of_cell? w _ hx257_8)).trans hx257_8
            have HR257_4 := Aside0.mk hi257_4
            have HC257_4 := Aside0.mk hl257_4
            clear hi257_4 hl257_4
            have HR257_5 := Aside0.mk hi257_5
            have HC257_5 := Aside0.mk hl257_5
            clear hi257_5 hl257_5
            replace p257 := eq_true p257
            replace q257 := eq_true q257
            go_wp2_with (first | ((with_reducible refine gate_dst (N := 6) rfl ?_); (try (refine gate_guard (by rfl) ?_; dsimp only)); refine box_event ?hg (N := 6) ?hd (cs := #[.int .i64 0, .int .i64 0, .int .i64 0, .int .i64 0, .slice none 0 0, .slice none 0 0, .int .i64 0, .int .i64 0, .int .i64 0]) (t := 34) ?hr ?_; (case hd => rfl); (case hg => rfl); (case hr => first | (go_simp; done) | (go_simp; rfl)); intro gb258 hg w86 hbox hb; have n0_ := Aside0.mk (below_step (by repeat (first | (with_reducible first | exact HB.out | apply below_alloc | apply pw_below_drewN | apply below_drew1) | exact HB.out)) hb); have n1_ := Aside0.mk (hbox); have n2_ := Aside0.mk ((by rw [hg]; exact (below_size (by repeat (first | (with_reducible first | exact HB.out | apply below_alloc | apply pw_below_drewN | apply below_drew1) | exact HB.out))) : w.heap.size ≤ gb258)); have n3_ := Aside0.mk ((by rw [hg]; exact (below_size (by repeat (first | (with_reducible first | exact HB.out | apply below_alloc | apply pw_below_drewN | apply below_drew1) | exact HB.out))) : w.heap.size ≤ gb258)); clear HB; have HB := n0_; have BK258 := n1_; have GW258 := n2_; have GE258 := n3_; clear n0_ n1_ n2_ n3_; clear hb hbox hg; have hcz87_0 : w86.cell? ⟨gb258, 0, none⟩ = some (.int .i64 0) := (blk_cell BK258.out 0).trans rfl; have hcz87_1 : w86.cell? ⟨gb258, 1, none⟩ = some (.int .i64 0) := (blk_cell BK258.out 1).trans rfl; have hcz87_2 : w86.cell? ⟨gb258, 2, none⟩ = some (.int .i64 0) := (blk_cell BK258.out 2).trans rfl; have hcz87_3 : w86.cell? ⟨gb258, 3, none⟩ = some (.int .i64 0) := (blk_cell BK258.out 3).trans rfl; have hcz87_4 : w86.cell? ⟨gb258, 4, none⟩ = some (.slice none 0 0) := (blk_cell BK258.out 4).trans rfl; have hcz87_5 : w86.cell? ⟨gb258, 5, none⟩ = some (.slice none 0 0) := (blk_cell BK258.out 5).trans rfl; have hcz87_6 : w86.cell? ⟨gb258, 6, none⟩ = some (.int .i64 0) := (blk_cell BK258.out 6).trans rfl; have hcz87_7 : w86.cell? ⟨gb258, 7, none⟩ = some (.int .i64 0) := (blk_cell BK258.out 7).trans rfl; have hcz87_8 : w86.cell? ⟨gb258, 8, none⟩ = some (.int .i64 0) := (blk_cell BK258.out 8).trans rfl; have hfz87_0 := blk_frozen BK258.out 0; have hfz87_1 := blk_frozen BK258.out 1; have hfz87_2 := blk_frozen BK258.out 2; have hfz87_3 := blk_frozen BK258.out 3; have hfz87_4 := blk_frozen BK258.out 4; have hfz87_5 := blk_frozen BK258.out 5; have hfz87_6 := blk_frozen BK258.out 6; have hfz87_7 := blk_frozen BK258.out 7; have hfz87_8 := blk_frozen BK258.out 8))
            go_ret
            exact ⟨by first | rfl | (simp [errW_none, errW_some] <;> rfl) | (simp [*, errW_none, errW_some] <;> rfl), by repeat (first | (with_reducible first | exact HB.out | apply below_alloc | apply pw_below_drewN | apply below_drew1 | refine below_set ?_ GE258.out) | exact HB.out)⟩
           ·rw [if_neg c85] at H
            have c85b0 : decide (((rd_T34 l0 x9_1).f7) ≤ 65536) = false := decide_eq_false c85
            clear c85
            by_cases c88 : ((rd_T34 l0 x9_1).f8) > a1
            ·rw [if_pos c88] at H
             have c88b0 : decide (a1 < ((rd_T34 l0 x9_1).f8)) = true := decide_eq_true c88
             clear c88
             by_cases c89 : ((rd_T34 l0 x9_1).f8) ≤ 65536
             ·rw [if_pos c89] at H
              have c89b0 : decide (((rd_T34 l0 x9_1).f8) ≤ 65536) = true := decide_eq_true c89
              clear c89
              obtain rfl := Option.some.inj H
              have p257 : 0 ≤ (x9_1 : Int) := of_decide_eq_true (by first | (with_reducible assumption) | assumption)
              have q257 : x9_1 < (l0.length : Int) := of_decide_eq_true (by first | (with_reducible assumption) | assumption)
              obtain ⟨ad257, A257_4, c257_4, A257_5, c257_5, e257, hx257_0, hx257_1, hx257_2, hx257_3, hx257_4, hx257_5, hx257_6, hx257_7, hx257_8, hl257_4, hi257_4, hl257_5, hi257_5⟩ := at_T34 HR0.out x9_1 p257 q257
              cases e257
              replace hx257_0 := (HB.out.cell (World.block_lt_of_cell? w _ hx257_0)).trans hx257_0
              replace hx257_1 := (HB.out.cell (World.block_lt_of_cell? w _ hx257_1)).trans hx257_1
              replace hx257_2 := (HB.out.cell (World.block_lt_of_cell? w _ hx257_2)).trans hx257_2
              replace hx257_3 := (HB.out.cell (World.block_lt_of_cell? w _ hx257_3)).trans hx257_3
              replace hx257_4 := (HB.out.cell (World.block_lt_of_cell? w _ hx257_4)).trans hx257_4
              replace hx257_5 := (HB.out.cell (World.block_lt_of_cell? w _ hx257_5)).trans hx257_5
              replace hx257_6 := (HB.out.cell (World.block_lt_of_cell? w _ hx257_6)).trans hx257_6
              replace hx257_7 := (HB.out.cell (World.block_lt_of_cell? w _ hx257_7)).trans hx257_7
              replace hx257_8 := (HB.out.cell (World.block_lt_of_cell? w _ hx257_8)).trans hx257_8
              have HR257_4 := Aside0.mk hi257_4
              have HC257_4 := Aside0.mk hl257_4
              clear hi257_4 hl257_4
              have HR257_5 := Aside0.mk hi257_5
              have HC257_5 := Aside0.mk hl257_5
              clear hi257_5 hl257_5
              replace p257 := eq_true p257
              replace q257 := eq_true q257
              go_wp2_with (first | ((with_reducible refine gate_dst (N := 6) rfl ?_); (try (refine gate_guard (by rfl) ?_; dsimp only)); refine box_event ?hg (N := 6) ?hd (cs := #[.int .i64 0, .int .i64 0, .int .i64 0, .int .i64 0, .slice none 0 0, .slice none 0 0, .int .i64 0, .int .i64 0, .int .i64 0]) (t := 34) ?hr ?_; (case hd => rfl); (case hg => rfl); (case hr => first | (go_simp; done) | (go_simp; rfl)); intro gb258 hg w90 hbox hb; have n0_ := Aside0.mk (below_step (by repeat (first | (with_reducible first | exact HB.out | apply below_alloc | apply pw_below_drewN | apply below_drew1) | exact HB.out)) hb); have n1_ := Aside0.mk (hbox); have n2_ := Aside0.mk ((by rw [hg]; exact (below_size (by repeat (first | (with_reducible first | exact HB.out | apply below_alloc | apply pw_below_drewN | apply below_drew1) | exact HB.out))) : w.heap.size ≤ gb258)); have n3_ := Aside0.mk ((by rw [hg]; exact (below_size (by repeat (first | (with_reducible first | exact HB.out | apply below_alloc | apply pw_below_drewN | apply below_drew1) | exact HB.out))) : w.heap.size ≤ gb258)); clear HB; have HB := n0_; have BK258 := n1_; have GW258 := n2_; have GE258 := n3_; clear n0_ n1_ n2_ n3_; clear hb hbox hg; have hcz91_0 : w90.cell? ⟨gb258, 0, none⟩ = some (.int .i64 0) := (blk_cell BK258.out 0).trans rfl; have hcz91_1 : w90.cell? ⟨gb258, 1, none⟩ = some (.int .i64 0) := (blk_cell BK258.out 1).trans rfl; have hcz91_2 : w90.cell? ⟨gb258, 2, none⟩ = some (.int .i64 0) := (blk_cell BK258.out 2).trans rfl; have hcz91_3 : w90.cell? ⟨gb258, 3, none⟩ = some (.int .i64 0) := (blk_cell BK258.out 3).trans rfl; have hcz91_4 : w90.cell? ⟨gb258, 4, none⟩ = some (.slice none 0 0) := (blk_cell BK258.out 4).trans rfl; have hcz91_5 : w90.cell? ⟨gb258, 5, none⟩ = some (.slice none 0 0) := (blk_cell BK258.out 5).trans rfl; have hcz91_6 : w90.cell? ⟨gb258, 6, none⟩ = some (.int .i64 0) := (blk_cell BK258.out 6).trans rfl; have hcz91_7 : w90.cell? ⟨gb258, 7, none⟩ = some (.int .i64 0) := (blk_cell BK258.out 7).trans rfl; have hcz91_8 : w90.cell? ⟨gb258, 8, none⟩ = some (.int .i64 0) := (blk_cell BK258.out 8).trans rfl; have hfz91_0 := blk_frozen BK258.out 0; have hfz91_1 := blk_frozen BK258.out 1; have hfz91_2 := blk_frozen BK258.out 2; have hfz91_3 := blk_frozen BK258.out 3; have hfz91_4 := blk_frozen BK258.out 4; have hfz91_5 := blk_frozen BK258.out 5; have hfz91_6 := blk_frozen BK258.out 6; have hfz91_7 := blk_frozen BK258.out 7; have hfz91_8 := blk_frozen BK258.out 8))
              go_ret
              exact ⟨by first | rfl | (simp [errW_none, errW_some] <;> rfl) | (simp [*, errW_none, errW_some] <;> rfl), by repeat (first | (with_reducible first | exact HB.out | apply below_alloc | apply pw_below_drewN | apply below_drew1 | refine below_set ?_ GE258.out) | exact HB.out)⟩
             ·rw [if_neg c89] at H
              have c89b0 : decide (((rd_T34 l0 x9_1).f8) ≤ 65536) = false := decide_eq_false c89
              clear c89
              have H' := Aside0.mk H
              clear H
              have p257 : 0 ≤ (x9_1 : Int) := of_decide_eq_true (by first | (with_reducible assumption) | assumption)
              have q257 : x9_1 < (l0.length : Int) := of_decide_eq_true (by first | (with_reducible assumption) | assumption)
              obtain ⟨ad257, A257_4, c257_4, A257_5, c257_5, e257, hx257_0, hx257_1, hx257_2, hx257_3, hx257_4, hx257_5, hx257_6, hx257_7, hx257_8, hl257_4, hi257_4, hl257_5, hi257_5⟩ := at_T34 HR0.out x9_1 p257 q257
              cases e257
              replace hx257_0 := (HB.out.cell (World.block_lt_of_cell? w _ hx257_0)).trans hx257_0
              replace hx257_1 := (HB.out.cell (World.block_lt_of_cell? w _ hx257_1)).trans hx257_1
              replace hx257_2 := (HB.out.cell (World.block_lt_of_cell? w _ hx257_2)).trans hx257_2
              replace hx257_3 := (HB.out.cell (World.block_lt_of_cell? w _ hx257_3)).trans hx257_3
              replace hx257_4 := (HB.out.cell (World.block_lt_of_cell? w _ hx257_4)).trans hx257_4
              replace hx257_5 := (HB.out.cell (World.block_lt_of_cell? w _ hx257_5)).trans hx257_5
              replace hx257_6 := (HB.out.cell (World.block_lt_of_cell? w _ hx257_6)).trans hx257_6
              replace hx257_7 := (HB.out.cell (World.block_lt_of_cell? w _ hx257_7)).trans hx257_7
              replace hx257_8 := (HB.out.cell (World.block_lt_of_cell? w _ hx257_8)).trans hx257_8
              have HR257_4 := Aside0.mk hi257_4
              have HC257_4 := Aside0.mk hl257_4
              clear hi257_4 hl257_4
              have HR257_5 := Aside0.mk hi257_5
              have HC257_5 := Aside0.mk hl257_5
              clear hi257_5 hl257_5
              replace p257 := eq_true p257
              replace q257 := eq_true q257
              go_wp2_with (first | ((with_reducible refine gate_dst (N := 6) rfl ?_); (try (refine gate_guard (by rfl) ?_; dsimp only)); refine box_event ?hg (N := 6) ?hd (cs := #[.int .i64 0, .int .i64 0, .int .i64 0, .int .i64 0, .slice none 0 0, .slice none 0 0, .int .i64 0, .int .i64 0, .int .i64 0]) (t := 34) ?hr ?_; (case hd => rfl); (case hg => rfl); (case hr => first | (go_simp; done) | (go_simp; rfl)); intro gb258 hg w92 hbox hb; have n0_ := Aside0.mk (below_step (by repeat (first | (with_reducible first | exact HB.out | apply below_alloc | apply pw_below_drewN | apply below_drew1) | exact HB.out)) hb); have n1_ := Aside0.mk (hbox); have n2_ := Aside0.mk ((by rw [hg]; exact (below_size (by repeat (first | (with_reducible first | exact HB.out | apply below_alloc | apply pw_below_drewN | apply below_drew1) | exact HB.out))) : w.heap.size ≤ gb258)); have n3_ := Aside0.mk ((by rw [hg]; exact (below_size (by repeat (first | (with_reducible first | exact HB.out | apply below_alloc | apply pw_below_drewN | apply below_drew1) | exact HB.out))) : w.heap.size ≤ gb258)); clear HB; have HB := n0_; have BK258 := n1_; have GW258 := n2_; have GE258 := n3_; clear n0_ n1_ n2_ n3_; clear hb hbox hg; have hcz93_0 : w92.cell? ⟨gb258, 0, none⟩ = some (.int .i64 0) := (blk_cell BK258.out 0).trans rfl; have hcz93_1 : w92.cell? ⟨gb258, 1, none⟩ = some (.int .i64 0) := (blk_cell BK258.out 1).trans rfl; have hcz93_2 : w92.cell? ⟨gb258, 2, none⟩ = some (.int .i64 0) := (blk_cell BK258.out 2).trans rfl; have hcz93_3 : w92.cell? ⟨gb258, 3, none⟩ = some (.int .i64 0) := (blk_cell BK258.out 3).trans rfl; have hcz93_4 : w92.cell? ⟨gb258, 4, none⟩ = some (.slice none 0 0) := (blk_cell BK258.out 4).trans rfl; have hcz93_5 : w92.cell? ⟨gb258, 5, none⟩ = some (.slice none 0 0) := (blk_cell BK258.out 5).trans rfl; have hcz93_6 : w92.cell? ⟨gb258, 6, none⟩ = some (.int .i64 0) := (blk_cell BK258.out 6).trans rfl; have hcz93_7 : w92.cell? ⟨gb258, 7, none⟩ = some (.int .i64 0) := (blk_cell BK258.out 7).trans rfl; have hcz93_8 : w92.cell? ⟨gb258, 8, none⟩ = some (.int .i64 0) := (blk_cell BK258.out 8).trans rfl; have hfz93_0 := blk_frozen BK258.out 0; have hfz93_1 := blk_frozen BK258.out 1; have hfz93_2 := blk_frozen BK258.out 2; have hfz93_3 := blk_frozen BK258.out 3; have hfz93_4 := blk_frozen BK258.out 4; have hfz93_5 := blk_frozen BK258.out 5; have hfz93_6 := blk_frozen BK258.out 6; have hfz93_7 := blk_frozen BK258.out 7; have hfz93_8 := blk_frozen BK258.out 8))
              go_roundg k1
              case measure => have := HK1.out; omega
              case rel => exact ⟨(wrap64 (x9_1 + 1)), (by first | rfl | (simp; done) | (simp [*]; done)), H', ⟨by have := HK1.out; omega⟩, ⟨by repeat (first | (with_reducible first | exact HB.out | apply below_alloc | apply pw_below_drewN | apply below_drew1 | refine below_set ?_ GE258.out) | exact HB.out)⟩⟩
            ·rw [if_neg c88] at H
             have c88b0 : decide (a1 < ((rd_T34 l0 x9_1).f8)) = false := decide_eq_false c88
             clear c88
             have H' := Aside0.mk H
             clear H
             have p257 : 0 ≤ (x9_1 : Int) := of_decide_eq_true (by first | (with_reducible assumption) | assumption)
             have q257 : x9_1 < (l0.length : Int) := of_decide_eq_true (by first | (with_reducible assumption) | assumption)
             obtain ⟨ad257, A257_4, c257_4, A257_5, c257_5, e257, hx257_0, hx257_1, hx257_2, hx257_3, hx257_4, hx257_5, hx257_6, hx257_7, hx257_8, hl257_4, hi257_4, hl257_5, hi257_5⟩ := at_T34 HR0.out x9_1 p257 q257
             cases e257
             replace hx257_0 := (HB.out.cell (World.block_lt_of_cell? w _ hx257_0)).trans hx257_0
             replace hx257_1 := (HB.out.cell (World.block_lt_of_cell? w _ hx257_1)).trans hx257_1
             replace hx257_2 := (HB.out.cell (World.block_lt_of_cell? w _ hx257_2)).trans hx257_2
             replace hx257_3 := (HB.out.cell (World.block_lt_of_cell? w _ hx257_3)).trans hx257_3
             replace hx257_4 := (HB.out.cell (World.block_lt_of_cell? w _ hx257_4)).trans hx257_4
             replace hx257_5 := (HB.out.cell (World.block_lt_of_cell? w _ hx257_5)).trans hx257_5
             replace hx257_6 := (HB.out.cell (World.block_lt_of_cell? w _ hx257_6)).trans hx257_6
             replace hx257_7 := (HB.out.cell (World.block_lt_of_cell? w _ hx257_7)).trans hx257_7
             replace hx257_8 := (HB.out.cell (World.block_lt_of_cell? w _ hx257_8)).trans hx257_8
             have HR257_4 := Aside0.mk hi257_4
             have HC257_4 := Aside0.mk hl257_4
             clear hi257_4 hl257_4
             have HR257_5 := Aside0.mk hi257_5
             have HC257_5 := Aside0.mk hl257_5
             clear hi257_5 hl257_5
             replace p257 := eq_true p257
             replace q257 := eq_true q257
             go_wp2_with (first | ((with_reducible refine gate_dst (N := 6) rfl ?_); (try (refine gate_guard (by rfl) ?_; dsimp only)); refine box_event ?hg (N := 6) ?hd (cs := #[.int .i64 0, .int .i64 0, .int .i64 0, .int .i64 0, .slice none 0 0, .slice none 0 0, .int .i64 0, .int .i64 0, .int .i64 0]) (t := 34) ?hr ?_; (case hd => rfl); (case hg => rfl); (case hr => first | (go_simp; done) | (go_simp; rfl)); intro gb258 hg w94 hbox hb; have n0_ := Aside0.mk (below_step (by repeat (first | (with_reducible first | exact HB.out | apply below_alloc | apply pw_below_drewN | apply below_drew1) | exact HB.out)) hb); have n1_ := Aside0.mk (hbox); have n2_ := Aside0.mk ((by rw [hg]; exact (below_size (by repeat (first | (with_reducible first | exact HB.out | apply below_alloc | apply pw_below_drewN | apply below_drew1) | exact HB.out))) : w.heap.size ≤ gb258)); have n3_ := Aside0.mk ((by rw [hg]; exact (below_size (by repeat (first | (with_reducible first | exact HB.out | apply below_alloc | apply pw_below_drewN | apply below_drew1) | exact HB.out))) : w.heap.size ≤ gb258)); clear HB; have HB := n0_; have BK258 := n1_; have GW258 := n2_; have GE258 := n3_; clear n0_ n1_ n2_ n3_; clear hb hbox hg; have hcz95_0 : w94.cell? ⟨gb258, 0, none⟩ = some (.int .i64 0) := (blk_cell BK258.out 0).trans rfl; have hcz95_1 : w94.cell? ⟨gb258, 1, none⟩ = some (.int .i64 0) := (blk_cell BK258.out 1).trans rfl; have hcz95_2 : w94.cell? ⟨gb258, 2, none⟩ = some (.int .i64 0) := (blk_cell BK258.out 2).trans rfl; have hcz95_3 : w94.cell? ⟨gb258, 3, none⟩ = some (.int .i64 0) := (blk_cell BK258.out 3).trans rfl; have hcz95_4 : w94.cell? ⟨gb258, 4, none⟩ = some (.slice none 0 0) := (blk_cell BK258.out 4).trans rfl; have hcz95_5 : w94.cell? ⟨gb258, 5, none⟩ = some (.slice none 0 0) := (blk_cell BK258.out 5).trans rfl; have hcz95_6 : w94.cell? ⟨gb258, 6, none⟩ = some (.int .i64 0) := (blk_cell BK258.out 6).trans rfl; have hcz95_7 : w94.cell? ⟨gb258, 7, none⟩ = some (.int .i64 0) := (blk_cell BK258.out 7).trans rfl; have hcz95_8 : w94.cell? ⟨gb258, 8, none⟩ = some (.int .i64 0) := (blk_cell BK258.out 8).trans rfl; have hfz95_0 := blk_frozen BK258.out 0; have hfz95_1 := blk_frozen BK258.out 1; have hfz95_2 := blk_frozen BK258.out 2; have hfz95_3 := blk_frozen BK258.out 3; have hfz95_4 := blk_frozen BK258.out 4; have hfz95_5 := blk_frozen BK258.out 5; have hfz95_6 := blk_frozen BK258.out 6; have hfz95_7 := blk_frozen BK258.out 7; have hfz95_8 := blk_frozen BK258.out 8))
             go_roundg k1
             case measure => have := HK1.out; omega
             case rel => exact ⟨(wrap64 (x9_1 + 1)), (by first | rfl | (simp; done) | (simp [*]; done)), H', ⟨by have := HK1.out; omega⟩, ⟨by repeat (first | (with_reducible first | exact HB.out | apply below_alloc | apply pw_below_drewN | apply below_drew1 | refine below_set ?_ GE258.out) | exact HB.out)⟩⟩
          ·rw [if_neg c84] at H
           have c84b0 : decide (a1 < ((rd_T34 l0 x9_1).f7)) = false := decide_eq_false c84
           clear c84
           by_cases c96 : ((rd_T34 l0 x9_1).f8) > a1
           ·rw [if_pos c96] at H
            have c96b0 : decide (a1 < ((rd_T34 l0 x9_1).f8)) = true := decide_eq_true c96
            clear c96
            by_cases c97 : ((rd_T34 l0 x9_1).f8) ≤ 65536
            ·rw [if_pos c97] at H
             have c97b0 : decide (((rd_T34 l0 x9_1).f8) ≤ 65536) = true := decide_eq_true c97
             clear c97
             obtain rfl := Option.some.inj H
             have p257 : 0 ≤ (x9_1 : Int) := of_decide_eq_true (by first | (with_reducible assumption) | assumption)
             have q257 : x9_1 < (l0.length : Int) := of_decide_eq_true (by first | (with_reducible assumption) | assumption)
             obtain ⟨ad257, A257_4, c257_4, A257_5, c257_5, e257, hx257_0, hx257_1, hx257_2, hx257_3, hx257_4, hx257_5, hx257_6, hx257_7, hx257_8, hl257_4, hi257_4, hl257_5, hi257_5⟩ := at_T34 HR0.out x9_1 p257 q257
             cases e257
             replace hx257_0 := (HB.out.cell (World.block_lt_of_cell? w _ hx257_0)).trans hx257_0
             replace hx257_1 := (HB.out.cell (World.block_lt_of_cell? w _ hx257_1)).trans hx257_1
             replace hx257_2 := (HB.out.cell (World.block_lt_of_cell? w _ hx257_2)).trans hx257_2
             replace hx257_3 := (HB.out.cell (World.block_lt_of_cell? w _ hx257_3)).trans hx257_3
             replace hx257_4 := (HB.out.cell (World.block_lt_of_cell? w _ hx257_4)).trans hx257_4
             replace hx257_5 := (HB.out.cell (World.block_lt_of_cell? w _ hx257_5)).trans hx257_5
             replace hx257_6 := (HB.out.cell (World.block_lt_of_cell? w _ hx257_6)).trans hx257_6
             replace hx257_7 := (HB.out.cell (World.block_lt_of_cell? w _ hx257_7)).trans hx257_7
             replace hx257_8 := (HB.out.cell (World.block_lt_of_cell? w _ hx257_8)).trans hx257_8
             have HR257_4 := Aside0.mk hi257_4
             have HC257_4 := Aside0.mk hl257_4
             clear hi257_4 hl257_4
             have HR257_5 := Aside0.mk hi257_5
             have HC257_5 := Aside0.mk hl257_5
             clear hi257_5 hl257_5
             replace p257 := eq_true p257
             replace q257 := eq_true q257
             go_wp2_with (first | ((with_reducible refine gate_dst (N := 6) rfl ?_); (try (refine gate_guard (by rfl) ?_; dsimp only)); refine box_event ?hg (N := 6) ?hd (cs := #[.int .i64 0, .int .i64 0, .int .i64 0, .int .i64 0, .slice none 0 0, .slice none 0 0, .int .i64 0, .int .i64 0, .int .i64 0]) (t := 34) ?hr ?_; (case hd => rfl); (case hg => rfl); (case hr => first | (go_simp; done) | (go_simp; rfl)); intro gb258 hg w98 hbox hb; have n0_ := Aside0.mk (below_step (by repeat (first | (with_reducible first | exact HB.out | apply below_alloc | apply pw_below_drewN | apply below_drew1) | exact HB.out)) hb); have n1_ := Aside0.mk (hbox); have n2_ := Aside0.mk ((by rw [hg]; exact (below_size (by repeat (first | (with_reducible first | exact HB.out | apply below_alloc | apply pw_below_drewN | apply below_drew1) | exact HB.out))) : w.heap.size ≤ gb258)); have n3_ := Aside0.mk ((by rw [hg]; exact (below_size (by repeat (first | (with_reducible first | exact HB.out | apply below_alloc | apply pw_below_drewN | apply below_drew1) | exact HB.out))) : w.heap.size ≤ gb258)); clear HB; have HB := n0_; have BK258 := n1_; have GW258 := n2_; have GE258 := n3_; clear n0_ n1_ n2_ n3_; clear hb hbox hg; have hcz99_0 : w98.cell? ⟨gb258, 0, none⟩ = some (.int .i64 0) := (blk_cell BK258.out 0).trans rfl; have hcz99_1 : w98.cell? ⟨gb258, 1, none⟩ = some (.int .i64 0) := (blk_cell BK258.out 1).trans rfl; have hcz99_2 : w98.cell? ⟨gb258, 2, none⟩ = some (.int .i64 0) := (blk_cell BK258.out 2).trans rfl; have hcz99_3 : w98.cell? ⟨gb258, 3, none⟩ = some (.int .i64 0) := (blk_cell BK258.out 3).trans rfl; have hcz99_4 : w98.cell? ⟨gb258, 4, none⟩ = some (.slice none 0 0) := (blk_cell BK258.out 4).trans rfl; have hcz99_5 : w98.cell? ⟨gb258, 5, none⟩ = some (.slice none 0 0) := (blk_cell BK258.out 5).trans rfl; have hcz99_6 : w98.cell? ⟨gb258, 6, none⟩ = some (.int .i64 0) := (blk_cell BK258.out 6).trans rfl; have hcz99_7 : w98.cell? ⟨gb258, 7, none⟩ = some (.int .i64 0) := (blk_cell BK258.out 7).trans rfl; have hcz99_8 : w98.cell? ⟨gb258, 8, none⟩ = some (.int .i64 0) := (blk_cell BK258.out 8).trans rfl; have hfz99_0 := blk_frozen BK258.out 0; have hfz99_1 := blk_frozen BK258.out 1; have hfz99_2 := blk_frozen BK258.out 2; have hfz99_3 := blk_frozen BK258.out 3; have hfz99_4 := blk_frozen BK258.out 4; have hfz99_5 := blk_frozen BK258.out 5; have hfz99_6 := blk_frozen BK258.out 6; have hfz99_7 := blk_frozen BK258.out 7; have hfz99_8 := blk_frozen BK258.out 8))
             go_ret
             exact ⟨by first | rfl | (simp [errW_none, errW_some] <;> rfl) | (simp [*, errW_none, errW_some] <;> rfl), by repeat (first | (with_reducible first | exact HB.out | apply below_alloc | apply pw_below_drewN | apply below_drew1 | refine below_set ?_ GE258.out) | exact HB.out)⟩
            ·rw [if_neg c97] at H
             have c97b0 : decide (((rd_T34 l0 x9_1).f8) ≤ 65536) = false := decide_eq_false c97
             clear c97
             have H' := Aside0.mk H
             clear H
             have p257 : 0 ≤ (x9_1 : Int) := of_decide_eq_true (by first | (with_reducible assumption) | assumption)
             have q257 : x9_1 < (l0.length : Int) := of_decide_eq_true (by first | (with_reducible assumption) | assumption)
             obtain ⟨ad257, A257_4, c257_4, A257_5, c257_5, e257, hx257_0, hx257_1, hx257_2, hx257_3, hx257_4, hx257_5, hx257_6, hx257_7, hx257_8, hl257_4, hi257_4, hl257_5, hi257_5⟩ := at_T34 HR0.out x9_1 p257 q257
             cases e257
             replace hx257_0 := (HB.out.cell (World.block_lt_of_cell? w _ hx257_0)).trans hx257_0
             replace hx257_1 := (HB.out.cell (World.block_lt_of_cell? w _ hx257_1)).trans hx257_1
             replace hx257_2 := (HB.out.cell (World.block_lt_of_cell? w _ hx257_2)).trans hx257_2
             replace hx257_3 := (HB.out.cell (World.block_lt_of_cell? w _ hx257_3)).trans hx257_3
             replace hx257_4 := (HB.out.cell (World.block_lt_of_cell? w _ hx257_4)).trans hx257_4
             replace hx257_5 := (HB.out.cell (World.block_lt_of_cell? w _ hx257_5)).trans hx257_5
             replace hx257_6 := (HB.out.cell (World.block_lt_of_cell? w _ hx257_6)).trans hx257_6
             replace hx257_7 := (HB.out.cell (World.block_lt_of_cell? w _ hx257_7)).trans hx257_7
             replace hx257_8 := (HB.out.cell (World.block_lt_of_cell? w _ hx257_8)).trans hx257_8
             have HR257_4 := Aside0.mk hi257_4
             have HC257_4 := Aside0.mk hl257_4
             clear hi257_4 hl257_4
             have HR257_5 := Aside0.mk hi257_5
             have HC257_5 := Aside0.mk hl257_5
             clear hi257_5 hl257_5
             replace p257 := eq_true p257
             replace q257 := eq_true q257
             go_wp2_with (first | ((with_reducible refine gate_dst (N := 6) rfl ?_); (try (refine gate_guard (by rfl) ?_; dsimp only)); refine box_event ?hg (N := 6) ?hd (cs := #[.int .i64 0, .int .i64 0, .int .i64 0, .int .i64 0, .slice none 0 0, .slice none 0 0, .int .i64 0, .int .i64 0, .int .i64 0]) (t := 34) ?hr ?_; (case hd => rfl); (case hg => rfl); (case hr => first | (go_simp; done) | (go_simp; rfl)); intro gb258 hg w100 hbox hb; have n0_ := Aside0.mk (below_step (by repeat (first | (with_reducible first | exact HB.out | apply below_alloc | apply pw_below_drewN | apply below_drew1) | exact HB.out)) hb); have n1_ := Aside0.mk (hbox); have n2_ := Aside0.mk ((by rw [hg]; exact (below_size (by repeat (first | (with_reducible first | exact HB.out | apply below_alloc | apply pw_below_drewN | apply below_drew1) | exact HB.out))) : w.heap.size ≤ gb258)); have n3_ := Aside0.mk ((by rw [hg]; exact (below_size (by repeat (first | (with_reducible first | exact HB.out | apply below_alloc | apply pw_below_drewN | apply below_drew1) | exact HB.out))) : w.heap.size ≤ gb258)); clear HB; have HB := n0_; have BK258 := n1_; have GW258 := n2_; have GE258 := n3_; clear n0_ n1_ n2_ n3_; clear hb hbox hg; have hcz101_0 : w100.cell? ⟨gb258, 0, none⟩ = some (.int .i64 0) := (blk_cell BK258.out 0).trans rfl; have hcz101_1 : w100.cell? ⟨gb258, 1, none⟩ = some (.int .i64 0) := (blk_cell BK258.out 1).trans rfl; have hcz101_2 : w100.cell? ⟨gb258, 2, none⟩ = some (.int .i64 0) := (blk_cell BK258.out 2).trans rfl; have hcz101_3 : w100.cell? ⟨gb258, 3, none⟩ = some (.int .i64 0) := (blk_cell BK258.out 3).trans rfl; have hcz101_4 : w100.cell? ⟨gb258, 4, none⟩ = some (.slice none 0 0) := (blk_cell BK258.out 4).trans rfl; have hcz101_5 : w100.cell? ⟨gb258, 5, none⟩ = some (.slice none 0 0) := (blk_cell BK258.out 5).trans rfl; have hcz101_6 : w100.cell? ⟨gb258, 6, none⟩ = some (.int .i64 0) := (blk_cell BK258.out 6).trans rfl; have hcz101_7 : w100.cell? ⟨gb258, 7, none⟩ = some (.int .i64 0) := (blk_cell BK258.out 7).trans rfl; have hcz101_8 : w100.cell? ⟨gb258, 8, none⟩ = some (.int .i64 0) := (blk_cell BK258.out 8).trans rfl; have hfz101_0 := blk_frozen BK258.out 0; have hfz101_1 := blk_frozen BK258.out 1; have hfz101_2 := blk_frozen BK258.out 2; have hfz101_3 := blk_frozen BK258.out 3; have hfz101_4 := blk_frozen BK258.out 4; have hfz101_5 := blk_frozen BK258.out 5; have hfz101_6 := blk_frozen BK258.out 6; have hfz101_7 := blk_frozen BK258.out 7; have hfz101_8 := blk_frozen BK258.out 8))
             go_roundg k1
             case measure => have := HK1.out; omega
             case rel => exact ⟨(wrap64 (x9_1 + 1)), (by first | rfl | (simp; done) | (simp [*]; done)), H', ⟨by have := HK1.out; omega⟩, ⟨by repeat (first | (with_reducible first | exact HB.out | apply below_alloc | apply pw_below_drewN | apply below_drew1 | refine below_set ?_ GE258.out) | exact HB.out)⟩⟩
           ·rw [if_neg c96] at H
            have c96b0 : decide (a1 < ((rd_T34 l0 x9_1).f8)) = false := decide_eq_false c96
            clear c96
            have H' := Aside0.mk H
            clear H
            have p257 : 0 ≤ (x9_1 : Int) := of_decide_eq_true (by first | (with_reducible assumption) | assumption)
            have q257 : x9_1 < (l0.length : Int) := of_decide_eq_true (by first | (with_reducible assumption) | assumption)
            obtain ⟨ad257, A257_4, c257_4, A257_5, c257_5, e257, hx257_0, hx257_1, hx257_2, hx257_3, hx257_4, hx257_5, hx257_6, hx257_7, hx257_8, hl257_4, hi257_4, hl257_5, hi257_5⟩ := at_T34 HR0.out x9_1 p257 q257
            cases e257
            replace hx257_0 := (HB.out.cell (World.block_lt_of_cell? w _ hx257_0)).trans hx257_0
            replace hx257_1 := (HB.out.cell (World.block_lt_of_cell? w _ hx257_1)).trans hx257_1
            replace hx257_2 := (HB.out.cell (World.block_lt_of_cell? w _ hx257_2)).trans hx257_2
            replace hx257_3 := (HB.out.cell (World.block_lt_of_cell? w _ hx257_3)).trans hx257_3
            replace hx257_4 := (HB.out.cell (World.block_lt_of_cell? w _ hx257_4)).trans hx257_4
            replace hx257_5 := (HB.out.cell (World.block_lt_of_cell? w _ hx257_5)).trans hx257_5
            replace hx257_6 := (HB.out.cell (World.block_lt_of_cell? w _ hx257_6)).trans hx257_6
            replace hx257_7 := (HB.out.cell (World.block_lt_of_cell? w _ hx257_7)).trans hx257_7
            replace hx257_8 := (HB.out.cell (World.block_lt_of_cell? w _ hx257_8)).trans hx257_8
            have HR257_4 := Aside0.mk hi257_4
            have HC257_4 := Aside0.mk hl257_4
            clear hi257_4 hl257_4
            have HR257_5 := Aside0.mk hi257_5
            have HC257_5 := Aside0.mk hl257_5
            clear hi257_5 hl257_5
            replace p257 := eq_true p257
            replace q257 := eq_true q257
            go_wp2_with (first | ((with_reducible refine gate_dst (N := 6) rfl ?_); (try (refine gate_guard (by rfl) ?_; dsimp only)); refine box_event ?hg (N := 6) ?hd (cs := #[.int .i64 0, .int .i64 0, .int .i64 0, .int .i64 0, .slice none 0 0, .slice none 0 0, .int .i64 0, .int .i64 0, .int .i64 0]) (t := 34) ?hr ?_; (case hd => rfl); (case hg => rfl); (case hr => first | (go_simp; done) | (go_simp; rfl)); intro gb258 hg w102 hbox hb; have n0_ := Aside0.mk (below_step (by repeat (first | (with_reducible first | exact HB.out | apply below_alloc | apply pw_below_drewN | apply below_drew1) | exact HB.out)) hb); have n1_ := Aside0.mk (hbox); have n2_ := Aside0.mk ((by rw [hg]; exact (below_size (by repeat (first | (with_reducible first | exact HB.out | apply below_alloc | apply pw_below_drewN | apply below_drew1) | exact HB.out))) : w.heap.size ≤ gb258)); have n3_ := Aside0.mk ((by rw [hg]; exact (below_size (by repeat (first | (with_reducible first | exact HB.out | apply below_alloc | apply pw_below_drewN | apply below_drew1) | exact HB.out))) : w.heap.size ≤ gb258)); clear HB; have HB := n0_; have BK258 := n1_; have GW258 := n2_; have GE258 := n3_; clear n0_ n1_ n2_ n3_; clear hb hbox hg; have hcz103_0 : w102.cell? ⟨gb258, 0, none⟩ = some (.int .i64 0) := (blk_cell BK258.out 0).trans rfl; have hcz103_1 : w102.cell? ⟨gb258, 1, none⟩ = some (.int .i64 0) := (blk_cell BK258.out 1).trans rfl; have hcz103_2 : w102.cell? ⟨gb258, 2, none⟩ = some (.int .i64 0) := (blk_cell BK258.out 2).trans rfl; have hcz103_3 : w102.cell? ⟨gb258, 3, none⟩ = some (.int .i64 0) := (blk_cell BK258.out 3).trans rfl; have hcz103_4 : w102.cell? ⟨gb258, 4, none⟩ = some (.slice none 0 0) := (blk_cell BK258.out 4).trans rfl; have hcz103_5 : w102.cell? ⟨gb258, 5, none⟩ = some (.slice none 0 0) := (blk_cell BK258.out 5).trans rfl; have hcz103_6 : w102.cell? ⟨gb258, 6, none⟩ = some (.int .i64 0) := (blk_cell BK258.out 6).trans rfl; have hcz103_7 : w102.cell? ⟨gb258, 7, none⟩ = some (.int .i64 0) := (blk_cell BK258.out 7).trans rfl; have hcz103_8 : w102.cell? ⟨gb258, 8, none⟩ = some (.int .i64 0) := (blk_cell BK258.out 8).trans rfl; have hfz103_0 := blk_frozen BK258.out 0; have hfz103_1 := blk_frozen BK258.out 1; have hfz103_2 := blk_frozen BK258.out 2; have hfz103_3 := blk_frozen BK258.out 3; have hfz103_4 := blk_frozen BK258.out 4; have hfz103_5 := blk_frozen BK258.out 5; have hfz103_6 := blk_frozen BK258.out 6; have hfz103_7 := blk_frozen BK258.out 7; have hfz103_8 := blk_frozen BK258.out 8))
            go_roundg k1
            case measure => have := HK1.out; omega
            case rel => exact ⟨(wrap64 (x9_1 + 1)), (by first | rfl | (simp; done) | (simp [*]; done)), H', ⟨by have := HK1.out; omega⟩, ⟨by repeat (first | (with_reducible first | exact HB.out | apply below_alloc | apply pw_below_drewN | apply below_drew1 | refine below_set ?_ GE258.out) | exact HB.out)⟩⟩
     ·rw [if_neg c5] at H
      exact absurd H (by simp)
    ·rw [if_neg c4] at H
     exact absurd H (by simp)
   ·rw [if_neg c3] at H
    have c3b0 : decide (x9_1 < (l0.length : Int)) = false := decide_eq_false c3
    clear c3
    obtain rfl := Option.some.inj H
    go_wp2
    go_ret
    exact ⟨by first | rfl | (simp [errW_none, errW_some] <;> rfl) | (simp [*, errW_none, errW_some] <;> rfl), by repeat (first | (with_reducible first | exact HB.out | apply below_alloc | apply pw_below_drewN | apply below_drew1) | exact HB.out)⟩
end Go.Proofs.YtjenkaobmlpbgaaDoor.QA
