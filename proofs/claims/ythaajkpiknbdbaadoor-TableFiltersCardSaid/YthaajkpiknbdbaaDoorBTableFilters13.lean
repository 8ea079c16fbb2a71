/- Joined by wip/tools/bundle.py out of: H08 P08b T08c T08d T08e. -/
import Derived.Test.YthaajkpiknbdbaaDoorBTableFilters1
import Derived.Test.YthaajkpiknbdbaaDoorBTableFilters5
import Derived.Test.YthaajkpiknbdbaaDoorBTableFilters3
import Derived.Test.YthaajkpiknbdbaaDoorBTableFilters6
import Derived.Handy
import Derived.Lib.SliceRun
import Derived.Test.YthaajkpiknbdbaaDoorBTableFilters2
import Derived.Test.YthaajkpiknbdbaaDoorBTableFilters0
import Derived.Test.YthaajkpiknbdbaaDoorBTableFilters12
import Derived.Test.YthaajkpiknbdbaaDoorBTableFilters11
import Derived.Test.YthaajkpiknbdbaaDoorBTableFilters10
namespace Go.Proofs.YthaajkpiknbdbaaDoor.QA
open Go.RowKit Go.Proofs.YthaajkpiknbdbaaDoorW.PrintWords Go.Proofs.YthaajkpiknbdbaaDoorW.PrintLast Go.Proofs.YthaajkpiknbdbaaDoorW.PrintMore Go.Proofs.YthaajkpiknbdbaaDoor.T
set_option linter.unusedVariables false
set_option linter.unusedSimpArgs false
/-- A table: of how many, its lines, the most taps, the greatest. -/
structure Tab where
  n : Int
  lines : List S31
  most : Int
  size : Int
def Tab.add (t : Tab) (first : Int) (l : List Int) : Tab := ⟨t.n, t.lines ++ [(⟨first, l⟩ : S31)], mx t.most (l.length : Int), mx t.size (szFrom 0 l)⟩
/-- A table that is being made, of the call's own. -/
def TabO (w : World) (base b : Nat) (t : Tab) : Prop := base ≤ b ∧ ∃ v, w.heap[b]? = some (.cells #[.int .i64 t.n, v, .int .i64 t.most, .int .i64 t.size] 52 (0, 0)) ∧ k31.R 31 w base (fun k => k ≠ b) v t.lines
/-- A table that is read. -/
def TabC (w : World) (b : Nat) (t : Tab) : Prop := ∃ A c, w.heap[b]? = some (.cells #[.int .i64 t.n, .slice A t.lines.length c, .int .i64 t.most, .int .i64 t.size] 52 (0, 0)) ∧ t.lines.length ≤ c ∧ Kd.C k31 w A t.lines.length t.lines
theorem TabC.below {w w' : World} {b : Nat} {t : Tab} (h : TabC w b t) (hb : Below w.heap.size w w') : TabC w' b t := by
  obtain ⟨A, c, h1, h2, h3⟩ := h
  exact ⟨A, c, (hb.block b (blk_lt h1)).trans h1, h2, Kd.C_below h3 hb⟩
theorem TabO.below {w w' : World} {base b : Nat} {t : Tab} (h : TabO w base b t) (hb : Below w.heap.size w w') : TabO w' base b t := by
  obtain ⟨h0, v, h1, h2⟩ := h
  exact ⟨h0, v, (hb.block b (blk_lt h1)).trans h1, Kd.R_below h2 hb⟩
theorem TabO.lower {w : World} {base base' b : Nat} {t : Tab} (h : TabO w base b t) (hl : base' ≤ base) : TabO w base' b t := by
  obtain ⟨h0, v, h1, h2⟩ := h
  exact ⟨Nat.le_trans hl h0, v, h1, Kd.R_lower h2 hl⟩
theorem TabO.far {w : World} {base b : Nat} {t : Tab} (h : TabO w base b t) {p : Addr} (hp : p.block < base) (u : Value) : TabO (w.setCell p u) base b t := by
  obtain ⟨h0, v, h1, h2⟩ := h
  refine ⟨h0, v, blk_far h1 (by omega) u, ?_⟩
  have h3 := Kd.R_mono (ok' := fun k => k ≠ b ∧ base ≤ k) (Kd.R_bound h2) (fun k hk => ⟨hk.1, hk.2.1⟩)
  exact Kd.R_mono (Kd.R_far h3 (fun k hk => by have := hk.2; omega) u) (fun k hk => hk.1)
theorem TabO.reads {w : World} {base b : Nat} {t : Tab} (h : TabO w base b t) : TabC w b t := by
  obtain ⟨h0, v, h1, h2⟩ := h
  obtain ⟨A, c, rfl, h3, h4⟩ := Kd.R_reads h2
  exact ⟨A, c, h1, h3, h4⟩
theorem infoL : (Tryd.prog.info? 31).map (fun i => (i.zero, i.size, i.bytes)) = some (some (.agg #[(.int .i64 0), (.slice none 0 0)]), 2, 32) := by kernel_rfl
attribute [local go_sem] max2_int min2_int max_two min_two max_three min_three max_four min_four
set_option maxHeartbeats 8000000 in
set_option maxRecDepth 100000 in
theorem add_calls (b : Nat) (first : Int) (l : List Int) (vl : Value) (t : Tab) (w0 w : World) (HB : Below w0.heap.size w0 w) (hbase : w0.heap.size ≤ w.heap.size) (ht : TabO w w0.heap.size b t) (hl : Kd.R (Kd.int .i64) 2 w w0.heap.size (fun k => k ≠ b) vl l) (hx : ∀ x ∈ l, I64 x) (h1 : t.lines.length ≤ 70000) (h2 : l.length ≤ 1048576) :
    Calls Tryd.prog 28 #[.pointer (some ⟨b, 0, none⟩), .int .i64 first, vl] w fun e w' => e = .returned (.tuple #[]) ∧ TabO w' w0.heap.size b (t.add first l) ∧ Below w0.heap.size w0 w' ∧ w0.heap.size ≤ w'.heap.size ∧ Kd.R (Kd.int .i64) 2 w' w0.heap.size (fun k => k ≠ b) vl l := by
  obtain ⟨hb, v, c0, r0⟩ := ht
  have hsz : taps_Size.f (l.length + 3) l = some (szFrom 0 l) := taps_Size_eq (Nat.le_refl _) (by omega) hx
  obtain ⟨S, hS⟩ : ∃ S, S = szFrom 0 l := ⟨_, rfl⟩
  rw [← hS] at hsz
  obtain ⟨Al, cl, rfl⟩ := Kd.R_slice hl
  have c1 : w.cell? ⟨b, 1, none⟩ = some v := (blk_cell c0 1).trans rfl
  have f1 := blk_frozen c0 1
  have HC0 := Aside0.mk c0
  have HR0 := Aside0.mk r0
  have HL := Aside0.mk hl
  have HBB := Aside0.mk hb
  have HB0 := Aside0.mk HB
  have HBS := Aside0.mk hbase
  have HSZ := Aside0.mk hsz
  have HX := Aside0.mk hx
  have HSS := Aside0.mk hS
  clear HB c0 r0 hl hsz hx hS hbase
  have mixed : Tryd.prog.follows .mixedOrders = true := by kernel_rfl
  go_enter Tryd.func28, Tryd.ntmps28
  go_upto_region 1 with (at_builtin; refine Kd.R_append k31 (w0 := w0) w0.heap.size rfl (.tmp 10) (.tmp 14) 48 31 (.agg #[(.int .i64 0), (.slice none 0 0)]) 32 rfl Tryd.underlying48 infoL rfl (by decide) (by omega) v t.lines (⟨first, l⟩ : S31) [.int .i64 first, .slice Al l.length cl] (fun k => k ≠ b) (fun k => k ≠ b ∧ some k ≠ v.ownBlock) rfl rfl ?aP (fun k hk => hk) ?aF HR0.out HB0.out HBS.out ?aL ?_; (case aP => exact k31_mkM _ _ _ (⟨first, l⟩ : S31) (Kd.R_apartR HL.out HR0.out (by decide))); (case aF => exact (fun k hk => by have := blk_lt HC0.out; omega)); (case aL => omega); intro v1 w1 ho hb1 hg hat; obtain ⟨ys, hys⟩ : ∃ ys, ys = t.lines ++ [(⟨first, l⟩ : S31)] := ⟨_, rfl⟩; rw [← hys] at ho; have HY := Aside0.mk hys; clear hys; obtain ⟨A3, c3, rfl⟩ := Kd.R_slice ho; have hc1 := (hg.block b (blk_lt HC0.out) (fun e => HR0.out.1 b e.symm rfl)).trans HC0.out; have f2 := blk_frozen hc1 1; have d1 : w1.cell? ⟨b, 1, none⟩ = some v := (blk_cell hc1 1).trans rfl; have HC1 := Aside0.mk hc1; have HO1 := Aside0.mk ho; have HB1 := Aside0.mk hb1; have HL1 := Aside0.mk (Kd.R_over HL.out HR0.out (by decide) hg); clear ho hb1 hg hat hc1)
  have hc2 : (w1.setCell ⟨b, 1, none⟩ (.slice A3 ys.length c3)).heap[b]? = some (.cells #[.int .i64 t.n, .slice A3 ys.length c3, .int .i64 t.most, .int .i64 t.size] 52 (0, 0)) := by simpa using blk_set HC1.out 1 (.slice A3 ys.length c3)
  have HO2 := Aside0.mk (Kd.R_far (p := ⟨b, 1, none⟩) HO1.out (fun _ hk => hk) (.slice A3 ys.length c3))
  have HL2 := Aside0.mk (Kd.R_far (p := ⟨b, 1, none⟩) HL1.out (fun _ hk => hk) (.slice A3 ys.length c3))
  have HB2 := Aside0.mk (HB1.out.setCell (p := ⟨b, 1, none⟩) HBB.out (.slice A3 ys.length c3))
  generalize w1.setCell ⟨b, 1, none⟩ (.slice A3 ys.length c3) = w2 at hc2 HO2 HL2 HB2 ⊢
  have d2 : w2.cell? ⟨b, 2, none⟩ = some (.int .i64 t.most) := (blk_cell hc2 2).trans rfl
  have e2 := blk_frozen hc2 2
  have HC2 := Aside0.mk hc2
  clear c1 f1 f2 d1 hc2 HO1 HL1 HB1 HC1
  go_upto_region 2 with fail
  obtain ⟨M2, hM2⟩ : ∃ x, x = (if t.most < (l.length : Int) then (l.length : Int) else t.most) := ⟨_, rfl⟩
  rw [← hM2]
  have HM2 := Aside0.mk hM2
  clear hM2
  have hc3 : (w2.setCell ⟨b, 2, none⟩ (.int .i64 M2)).heap[b]? = some (.cells #[.int .i64 t.n, .slice A3 ys.length c3, .int .i64 M2, .int .i64 t.size] 52 (0, 0)) := by simpa using blk_set HC2.out 2 (.int .i64 M2)
  have HO3 := Aside0.mk (Kd.R_far (p := ⟨b, 2, none⟩) HO2.out (fun _ hk => hk) (.int .i64 M2))
  have HL3 := Aside0.mk (Kd.R_far (p := ⟨b, 2, none⟩) HL2.out (fun _ hk => hk) (.int .i64 M2))
  have HB3 := Aside0.mk (HB2.out.setCell (p := ⟨b, 2, none⟩) HBB.out (.int .i64 M2))
  generalize w2.setCell ⟨b, 2, none⟩ (.int .i64 M2) = w3 at hc3 HO3 HL3 HB3 ⊢
  have d3 : w3.cell? ⟨b, 3, none⟩ = some (.int .i64 t.size) := (blk_cell hc3 3).trans rfl
  have e3 := blk_frozen hc3 3
  have HC3 := Aside0.mk hc3
  have HSC := Aside0.mk (fun w' (hb : Below w3.heap.size w3 w') => taps_Size.calls (l.length + 3) Al cl l S w' (Kd.C_below (Kd.R_reads' HL3.out).2.2 hb) (Kd.R_reads' HL3.out).2.1 HSZ.out)
  clear d2 e2 hc3 HO2 HL2 HB2 HC2
  go_region_law (first | (go_simp; go_at_call 46; (with_reducible refine (HSC.out _ (by repeat (first | (with_reducible first | exact Below.refl _ _ | apply pw_below_drewN | apply below_drew1) | exact Below.refl _ _))).mono ?_); rintro e w4 ⟨rfl, hb4⟩; have hc4 := (hb4.block b (blk_lt HC3.out)).trans HC3.out; have d4 : w4.cell? ⟨b, 3, none⟩ = some (.int .i64 t.size) := (blk_cell hc4 3).trans rfl; have e4 := blk_frozen hc4 3; have HC4 := Aside0.mk hc4; have HB4 := Aside0.mk hb4; clear hc4 hb4))
  all_goals (
    obtain ⟨M3, hM3⟩ : ∃ x, x = (if t.size < S then S else t.size) := ⟨_, rfl⟩
    first | rw [← hM3] | skip
    have HM3 := Aside0.mk hM3
    clear hM3
    have hc5 : (w4.setCell ⟨b, 3, none⟩ (.int .i64 M3)).heap[b]? = some (.cells #[.int .i64 t.n, .slice A3 ys.length c3, .int .i64 M2, .int .i64 M3] 52 (0, 0)) := by simpa using blk_set HC4.out 3 (.int .i64 M3)
    have HC5 := Aside0.mk hc5
    have HO5 := Aside0.mk (Kd.R_far (p := ⟨b, 3, none⟩) (Kd.R_below (Kd.R_drew HO3.out) HB4.out) (fun _ hk => hk) (.int .i64 M3))
    have HL5 := Aside0.mk (Kd.R_far (p := ⟨b, 3, none⟩) (Kd.R_below (Kd.R_drew HL3.out) HB4.out) (fun _ hk => hk) (.int .i64 M3))
    have HB5 := Aside0.mk ((below_step (below_drew1 HB3.out) HB4.out).setCell (p := ⟨b, 3, none⟩) HBB.out (.int .i64 M3))
    generalize w4.setCell ⟨b, 3, none⟩ (.int .i64 M3) = w5 at hc5 HC5 HO5 HL5 HB5 ⊢
    clear hc5
    go_end0
    refine ⟨rfl, ⟨HBB.out, .slice A3 ys.length c3, ?_, ?_⟩, HB5.out, ?_, HL5.out⟩
    · rw [HC5.out, HM2.out, HM3.out, HSS.out]; rfl
    · have := HO5.out; rw [HY.out] at this ⊢; exact this
    · have := (blk_lt HC5.out); have := HBB.out; omega)
/-- What a table's maker answers: the table, or what is wrong. -/
def TabP (t : Tab) (c : Int) (w : World) (e : Ending) (w' : World) : Prop := Below w.heap.size w w' ∧ if c = 0 then ∃ b, e = .returned (.tuple #[.pointer (some ⟨b, 0, none⟩), .int .i64 0]) ∧ TabO w' w.heap.size b t else e = .returned (.tuple #[.pointer none, .int .i64 c])
/-- May a filter be resized? -/
def okR (f n m : Int) : Prop := 0 ≤ f ∧ f < 3 ∧ 1 ≤ n ∧ n ≤ 65536 ∧ 1 ≤ m ∧ m ≤ 65536
/-- A resize's table, of the first outputs. -/
def resTab (f n m : Int) : Nat → Tab
  | 0 => ⟨n, [], 0, 0⟩
  | i + 1 => (resTab f n m i).add (winLo f n m i) (appL (rowV f n m i))
/-- The first code that isn't OK, from an output on. -/
def resCode (f n m : Int) : Nat → Nat → Int
  | _, 0 => 0
  | i, d + 1 => if chkV (rowV f n m i) = 0 then resCode f n m (i + 1) d else chkV (rowV f n m i)
theorem resTab_len (f n m : Int) : ∀ i, (resTab f n m i).lines.length = i
  | 0 => rfl
  | i + 1 => by simp [resTab, Tab.add, resTab_len f n m i]
theorem table_side_eq (n : Int) : table_side.f n = some (decide (1 ≤ n ∧ n ≤ 65536)) := by
  unfold table_side.f
  by_cases h : n ≥ 1
  · rw [if_pos h]; congr 1; by_cases c : n ≤ 65536
    · rw [decide_eq_true c, decide_eq_true ⟨h, c⟩]
    · rw [decide_eq_false c, decide_eq_false (fun q => c q.2)]
  · rw [if_neg h]; congr 1; rw [decide_eq_false (fun q => h q.1)]
theorem rowV_i64 (f n m i : Int) : ∀ x ∈ rowV f n m i, I64 x := by
  intro x hx
  obtain ⟨t, _, rfl⟩ := List.mem_map.1 hx
  exact wV_i _ _ _ _ _
theorem appF_is {l : List Int} (hx : ∀ x ∈ l, I64 x) : taps_Apportion.f l = some (if chkV l = 0 then (appL l, 0) else ([], chkV l)) := by
  unfold taps_Apportion.f appF
  rw [if_pos hx]
set_option maxHeartbeats 8000000 in
set_option maxRecDepth 100000 in
theorem resize_calls (f n : Int) (M : Nat) (w : World) (hG : GL w) (h : okR f n M) :
    Calls Tryd.prog 9 #[.int .i64 f, .int .i64 n, .int .i64 M] w (TabP (resTab f n M M) (resCode f n M 0 M) w) := by
  obtain ⟨h1, h2, h3, h4, h5, h6⟩ := h
  have hs1 : table_side.f n = some true := by rw [table_side_eq, decide_eq_true ⟨h3, h4⟩]
  have hs2 : table_side.f M = some true := by rw [table_side_eq, decide_eq_true ⟨h5, h6⟩]
  obtain ⟨nm, hn1, hn3⟩ : ∃ s, raw_Name.f f = some s ∧ s.toList.isEmpty = false := by
    have : f = 0 ∨ f = 1 ∨ f = 2 := by omega
    rcases this with rfl | rfl | rfl
    · exact ⟨_, rfl, by kernel_rfl⟩
    · exact ⟨_, rfl, by kernel_rfl⟩
    · exact ⟨_, rfl, by kernel_rfl⟩
  have hn2 : ¬ nm.toList = [] := fun h => by rw [h] at hn3; exact absurd hn3 (by decide)
  have hx := rowV_i64 f n M
  have HG := Aside0.mk hG
  have HX := Aside0.mk hx
  have HN := Aside0.mk (And.intro h1 (And.intro h2 (And.intro h3 (And.intro h4 (And.intro h5 h6)))))
  clear hG hx h1 h2 h3 h4
  have mixed : Tryd.prog.follows .mixedOrders = true := by kernel_rfl
  go_enter Tryd.func9, Tryd.ntmps9
  go_upto_region 4 with (first | (go_at_call 24; (with_reducible refine (raw_Name.calls f nm _ HG.out hn1).mono ?_); rintro e w' ⟨rfl, ⟨nd, rfl⟩⟩) | (go_at_call 25; (with_reducible refine (table_side.calls n true _ hs1).mono ?_); rintro e w' ⟨rfl, ⟨nd1, rfl⟩⟩) | (go_at_call 25; (with_reducible refine (table_side.calls M true _ hs2).mono ?_); rintro e w' ⟨rfl, ⟨nd2, rfl⟩⟩))
  clear hn1 hn2 hn3 hs1 hs2
  go_wp2
  obtain ⟨b, hb⟩ : ∃ b, b = w.heap.size := ⟨_, rfl⟩
  rw [← hb]
  have HBQ := Aside0.mk hb
  clear hb
  go_loopg [31] M (fun kx s31 wr => ∃ (i : Nat), s31 = .int .i64 i ∧ i ≤ M ∧ M - i ≤ kx ∧ Aside0 (TabO wr w.heap.size b (resTab f n M i)) ∧ Aside0 (Below w.heap.size w wr) ∧ Aside0 (resCode f n M i (M - i) = resCode f n M 0 M))
  case atStart =>
    refine ⟨0, rfl, by omega, by omega, ⟨by rw [HBQ.out]; exact Nat.le_refl _, .slice none 0 0, by rw [HBQ.out]; exact heap_alloc_new _ _, Kd.R_nil _ _ _ _ _⟩, ⟨?_⟩, ⟨rfl⟩⟩
    · repeat (first | (with_reducible first | exact Below.refl _ _ | apply below_alloc | apply pw_below_drewN | apply below_drew1) | exact Below.refl _ _)
  case round =>
    obtain ⟨i, rfl, i1, i2, HT, HB, HC⟩ := hrel
    have wi : IntKind.i64.wrap ((i : Int) + 1) = (i : Int) + 1 := by rw [i64w]; exact w64_id (by omega) (by omega)
    by_cases hlt : (i : Int) < (M : Int)
    · have hm : mayR f n M i := ⟨HN.out.1, HN.out.2.1, HN.out.2.2.1, HN.out.2.2.2.1, by omega, by omega, by omega, hlt⟩
      have hrow := fun w' hG' => raw_Row.calls ((winHi f n M i - winLo f n M i).toNat + 401) f n M i _ _ w' hG' (raw_Row_may hm (Nat.le_refl _))
      have happ := appF_is (HX.out i)
      obtain ⟨lo, hlo⟩ : ∃ v, v = winLo f n M i := ⟨_, rfl⟩
      obtain ⟨row, hrw⟩ : ∃ v, v = rowV f n M i := ⟨_, rfl⟩
      have hstep : M - i = (M - (i + 1)) + 1 := by omega
      have HCS := HC.out
      rw [hstep, resCode] at HCS
      rw [← hrw] at happ HCS hrow
      rw [← hlo] at hrow
      have hrx : ∀ x ∈ row, I64 x := by rw [hrw]; exact HX.out i
      have hadd := fun (hc : chkV row = 0) vl w' HB hb ht hl => add_calls b lo (appL row) vl (resTab f n M i) w w' HB hb ht hl (appL_i64 hrx hc) (by rw [resTab_len]; omega) (by rw [appL_len2]; exact (appL_bnd hrx hc).1)
      have HHC := Aside0.mk HCS
      have HLO := Aside0.mk hlo
      have HRW := Aside0.mk hrw
      have HROW := Aside0.mk hrow
      have HADD := Aside0.mk hadd
      clear HC HCS hlo hrw hrow hstep hm hadd hrx
      by_cases hc : chkV row = 0
      · rw [if_pos hc] at happ
        go_wp2_with (first
          | (go_at_call 26; refine (HROW.out _ (HG.out.below (by repeat (first | (with_reducible first | exact HB.out | apply pw_below_drewN | apply below_drew1) | exact HB.out)))).mono ?_; rintro e w1 ⟨v1, rfl, hr1, hb1⟩; obtain ⟨A1, c1, rfl, l1, g1⟩ := Kd.R_reads hr1; have HB1 := Aside0.mk hb1; have G1 := Aside0.mk g1; clear hr1 hb1 g1)
          | (go_at_call 27; refine (taps_Apportion.calls A1 c1 row (appL row) 0 w1 G1.out l1 happ).mono ?_; rintro e w2 ⟨v2, rfl, hr2, hb2⟩; have HR2 := Aside0.mk hr2; have HB2 := Aside0.mk hb2; clear hr2 hb2)
          | (go_at_call 28
             have hT1 := HT.out.below HB1.out
             have hb01 := (below_step HB.out HB1.out).size
             refine (HADD.out hc v2 w2 (below_step (below_step HB.out HB1.out) HB2.out) (below_step (below_step HB.out HB1.out) HB2.out).size (hT1.below HB2.out) (Kd.R_mono (Kd.R_lower (Kd.R_newB HR2.out hT1.2.choose_spec.1) hb01) (fun k hk => hk.2))).mono ?_
             rintro e w3 ⟨rfl, ht3, hb3, hs3, hr3⟩
             have HT3 := Aside0.mk ht3
             have HB3 := Aside0.mk hb3
             clear hT1 hb01 ht3 hb3 hs3 hr3))
        go_roundg (M - (i + 1))
        case measure => omega
        case rel =>
          refine ⟨i + 1, by simp, by omega, Nat.le_refl _, ⟨?_⟩, HB3, ⟨?_⟩⟩
          · rw [resTab, ← HLO.out, ← HRW.out]; exact HT3.out
          · rw [← HHC.out, if_pos hc]
      · rw [if_neg hc] at happ
        obtain ⟨cv, hcv⟩ : ∃ v, v = chkV row := ⟨_, rfl⟩
        have HF : Aside0 (resCode f n M 0 M = cv) := ⟨by rw [← HHC.out, if_neg hc, hcv]⟩
        rw [← hcv] at happ hc
        have bk : (cv == 0) = false := by simpa using hc
        have bk2 : (cv != 0) = true := by simpa using hc
        clear hcv
        go_wp2_with (first
          | (go_at_call 26; refine (HROW.out _ (HG.out.below (by repeat (first | (with_reducible first | exact HB.out | apply pw_below_drewN | apply below_drew1) | exact HB.out)))).mono ?_; rintro e w1 ⟨v1, rfl, hr1, hb1⟩; obtain ⟨A1, c1, rfl, l1, g1⟩ := Kd.R_reads hr1; have HB1 := Aside0.mk hb1; have G1 := Aside0.mk g1; clear hr1 hb1 g1)
          | (go_at_call 27; refine (taps_Apportion.calls A1 c1 row [] cv w1 G1.out l1 happ).mono ?_; rintro e w2 ⟨v2, rfl, hr2, hb2⟩; have HB2 := Aside0.mk hb2; clear hr2 hb2))
        go_ret2
        refine ⟨below_step (below_step HB.out HB1.out) HB2.out, ?_⟩
        rw [if_neg (by rw [HF.out]; exact hc), HF.out]
        rfl
    · have him : i = M := by omega
      subst him
      have HCS := HC.out
      rw [Nat.sub_self, resCode] at HCS
      have HCS2 := Aside0.mk HCS
      clear HC HCS
      go_wp2
      go_ret2
      refine ⟨HB.out, ?_⟩
      rw [if_pos HCS2.out.symm]
      exact ⟨b, rfl, HT.out⟩
/-- A kernel's table, of the first outputs. -/
def filTab (n h : Int) (l : List Int) : Nat → Tab
  | 0 => ⟨n, [], 0, 0⟩
  | i + 1 => (filTab n h l i).add ((i : Int) - h) l
/-- What a kernel's table lacks. -/
def filCode (l : List Int) (n : Int) : Int := if 1 ≤ n ∧ n ≤ 65536 then if l.length % 2 = 0 then 7 else chkV l else 6
theorem filTab_len (n h : Int) (l : List Int) : ∀ i, (filTab n h l i).lines.length = i
  | 0 => rfl
  | i + 1 => by simp [filTab, Tab.add, filTab_len n h l i]
set_option maxHeartbeats 8000000 in
set_option maxRecDepth 100000 in
theorem filter_bad (A0 : Option Addr) (c0 : Nat) (l : List Int) (n : Int) (w : World) (h : ¬ (1 ≤ n ∧ n ≤ 65536)) :
    Calls Tryd.prog 18 #[.slice A0 l.length c0, .int .i64 n] w fun e w' => Below w.heap.size w w' ∧ e = .returned (.tuple #[.pointer none, .int .i64 6]) := by
  have hs1 : table_side.f n = some false := by rw [table_side_eq, decide_eq_false h]
  go_enter Tryd.func18, Tryd.ntmps18
  go_wp2_with (go_at_call 25; refine (table_side.calls n false _ hs1).mono ?_; rintro e w' ⟨rfl, ⟨nd, rfl⟩⟩)
  go_ret2
  exact ⟨pw_below_drewN (Below.refl _ _) _, rfl⟩
set_option maxHeartbeats 8000000 in
set_option maxRecDepth 100000 in
theorem filter_calls (A0 : Option Addr) (c0 : Nat) (l : List Int) (N : Nat) (w : World) (hr0 : Kd.C (Kd.int .i64) w A0 l.length l) (hc0 : l.length ≤ c0) (hx : ∀ x ∈ l, I64 x) (hl : l.length < 4611686018427387904) (h1 : 1 ≤ N) (h2 : N ≤ 65536) :
    Calls Tryd.prog 18 #[.slice A0 l.length c0, .int .i64 N] w (TabP (filTab N ((l.length / 2 : Nat) : Int) (appL l) N) (filCode l N) w) := by
  have hs1 : table_side.f N = some true := by rw [table_side_eq, decide_eq_true ⟨by omega, by omega⟩]
  have hfc : filCode l N = if l.length % 2 = 0 then 7 else chkV l := by unfold filCode; rw [if_pos ⟨by omega, by omega⟩]
  rw [hfc]
  clear hfc
  have happ := appF_is hx
  obtain ⟨L, hL⟩ : ∃ L, L = l.length := ⟨_, rfl⟩
  have HR0 := Aside0.mk hr0
  have HX := Aside0.mk hx
  have mixed : Tryd.prog.follows .mixedOrders = true := by kernel_rfl
  have hdv : Int.tdiv (L : Int) 2 = ((L / 2 : Nat) : Int) := rfl
  have HDV := Aside0.mk hdv
  clear hr0 hx hdv
  by_cases hev : L % 2 = 0
  · rw [← hL]
    rw [if_pos hev]
    have hrm : Int.tmod (L : Int) 2 = 0 := by show ((L % 2 : Nat) : Int) = 0; rw [hev]; rfl
    have HL := Aside0.mk hL
    clear hL hev happ
    go_enter Tryd.func18, Tryd.ntmps18
    go_wp2_with (go_at_call 25; refine (table_side.calls N true _ hs1).mono ?_; rintro e w' ⟨rfl, ⟨nd, rfl⟩⟩)
    go_ret2
    refine ⟨pw_below_drewN (Below.refl _ _) _, ?_⟩
    rw [if_neg (by decide)]; rfl
  · rw [← hL, if_neg hev]
    have hrm : Int.tmod (L : Int) 2 = 1 := by show ((L % 2 : Nat) : Int) = 1; rw [show L % 2 = 1 by omega]; rfl
    have HLL := Aside0.mk hL
    by_cases hc : chkV l = 0
    · rw [if_pos hc] at happ
      rw [hc]
      have ha := appL_i64 HX.out hc
      have hb := (appL_bnd HX.out hc).1
      have hla : (appL l).length = L := by rw [appL_len2, hL]
      obtain ⟨tp, htp⟩ : ∃ v, v = appL l := ⟨_, rfl⟩
      rw [← htp] at happ ha hla ⊢
      have hadd := fun (b : Nat) (i : Nat) (hi : i ≤ 65536) vl w' HB hbs ht hl => add_calls b ((i : Int) - ((L / 2 : Nat) : Int)) tp vl (filTab N ((L / 2 : Nat) : Int) tp i) w w' HB hbs ht hl ha (by rw [filTab_len]; omega) (by omega)
      have HADD := Aside0.mk hadd
      have HLA := Aside0.mk hla
      have HAPC := Aside0.mk (show ∀ w', Below w.heap.size w w' → Calls Tryd.prog 27 #[.slice A0 L c0] w' (fun e w'' => ∃ v0_ : Value, e = .returned (.tuple #[v0_, .int .i64 0]) ∧ Kd.R (Kd.int .i64) 2 w'' w'.heap.size (fun _ => True) v0_ tp ∧ Below w'.heap.size w' w'') by intro w' hb; rw [hL]; exact taps_Apportion.calls A0 c0 l tp 0 w' (Kd.C_below HR0.out hb) hc0 happ)
      have hL9 : L ≤ 1048576 := by omega
      have HTP := Aside0.mk htp
      clear hadd ha hb htp hev hla happ hc
      clear hL
      go_enter Tryd.func18, Tryd.ntmps18
      go_upto_region 9 with (first | (go_at_call 25; refine (table_side.calls N true _ hs1).mono ?_; rintro e w' ⟨rfl, ⟨nd, rfl⟩⟩) | (go_at_call 27; refine (HAPC.out _ (pw_below_drewN (Below.refl _ _) _)).mono ?_; rintro e w2 ⟨v2, rfl, hr2, hb2⟩; obtain ⟨A2, c2, rfl⟩ := Kd.R_slice hr2; have HR2 := Aside0.mk hr2; have HB2 := Aside0.mk (below_step (pw_below_drewN (Below.refl _ _) _) hb2); clear hr2 hb2))
      go_wp2
      obtain ⟨b, hb⟩ : ∃ b, b = w2.heap.size := ⟨_, rfl⟩
      rw [← hb]
      have HBQ := Aside0.mk hb
      clear hb
      go_loopg [31] N (fun kx s31 wr => ∃ (i : Nat), s31 = .int .i64 i ∧ i ≤ N ∧ N - i ≤ kx ∧ Aside0 (TabO wr w.heap.size b (filTab N ((L / 2 : Nat) : Int) tp i)) ∧ Aside0 (Below w.heap.size w wr) ∧ Aside0 (Kd.R (Kd.int .i64) 2 wr w.heap.size (fun k => k ≠ b) (.slice A2 tp.length c2) tp))
      case atStart =>
        have hs := HB2.out.size
        refine ⟨0, rfl, by omega, by omega, ⟨by rw [HBQ.out]; exact hs, .slice none 0 0, by rw [HBQ.out]; exact heap_alloc_new _ _, Kd.R_nil _ _ _ _ _⟩, ⟨below_alloc HB2.out _⟩, ⟨?_⟩⟩
        refine Kd.R_alloc (Kd.R_mono (Kd.R_bound (Kd.R_lower HR2.out (show w.heap.size ≤ _ from Nat.le_refl _))) (fun k hk => ?_)) _
        have := hk.2.2.1
        rw [HBQ.out]; omega
      case round =>
        obtain ⟨i, rfl, i1, i2, HT, HB, HR⟩ := hrel
        have wi : IntKind.i64.wrap ((i : Int) + 1) = (i : Int) + 1 := by rw [i64w]; exact w64_id (by omega) (by omega)
        have wd : IntKind.i64.wrap ((i : Int) - ((L / 2 : Nat) : Int)) = (i : Int) - ((L / 2 : Nat) : Int) := by rw [i64w]; exact w64_id (by omega) (by omega)
        by_cases hlt : (i : Int) < (N : Int)
        · have hq : Int.tdiv (tp.length : Int) 2 = ((L / 2 : Nat) : Int) := by rw [HLA.out]; exact HDV.out
          go_wp2_with (go_at_call 28; refine (HADD.out b i (by omega) _ _ HB.out HB.out.size HT.out HR.out).mono ?_; rintro e w3 ⟨rfl, ht3, hb3, hs3, hr3⟩; have HT3 := Aside0.mk ht3; have HB3 := Aside0.mk hb3; have HR3 := Aside0.mk hr3; clear ht3 hb3 hs3 hr3)
          go_roundg (N - (i + 1))
          case measure => omega
          case rel => exact ⟨i + 1, by simp, by omega, Nat.le_refl _, HT3, HB3, HR3⟩
        · have him : i = N := by omega
          subst him
          go_wp2
          go_ret2
          refine ⟨HB.out, ?_⟩
          rw [if_pos rfl]
          exact ⟨b, rfl, HT.out⟩
    · rw [if_neg hc] at happ
      obtain ⟨cv, hcv⟩ : ∃ v, v = chkV l := ⟨_, rfl⟩
      rw [← hcv] at happ hc ⊢
      have bk : (cv == 0) = false := by simpa using hc
      have bk2 : (cv != 0) = true := by simpa using hc
      have HAPC := Aside0.mk (show ∀ w', Below w.heap.size w w' → Calls Tryd.prog 27 #[.slice A0 L c0] w' (fun e w'' => ∃ v0_ : Value, e = .returned (.tuple #[v0_, .int .i64 cv]) ∧ Kd.R (Kd.int .i64) 2 w'' w'.heap.size (fun _ => True) v0_ [] ∧ Below w'.heap.size w' w'') by intro w' hb; rw [hL]; exact taps_Apportion.calls A0 c0 l [] cv w' (Kd.C_below HR0.out hb) hc0 happ)
      clear hcv hev happ
      clear hL
      go_enter Tryd.func18, Tryd.ntmps18
      go_wp2_with (first | (go_at_call 25; refine (table_side.calls N true _ hs1).mono ?_; rintro e w' ⟨rfl, ⟨nd, rfl⟩⟩) | (go_at_call 27; refine (HAPC.out _ (pw_below_drewN (Below.refl _ _) _)).mono ?_; rintro e w2 ⟨v2, rfl, hr2, hb2⟩; have HB2 := Aside0.mk (below_step (pw_below_drewN (Below.refl _ _) _) hb2); clear hr2 hb2))
      go_ret2
      refine ⟨HB2.out, ?_⟩
      rw [if_neg hc]
      rfl
theorem tab_cells {w : World} {b : Nat} {t : Tab} (h : TabC w b t) : ∃ A c, w.cell? ⟨b, 0, none⟩ = some (.int .i64 t.n) ∧ w.cell? ⟨b, 1, none⟩ = some (.slice A t.lines.length c) ∧ w.cell? ⟨b, 2, none⟩ = some (.int .i64 t.most) ∧ w.cell? ⟨b, 3, none⟩ = some (.int .i64 t.size) ∧ t.lines.length ≤ c ∧ Kd.C k31 w A t.lines.length t.lines := by
  obtain ⟨A, c, h1, h2, h3⟩ := h
  exact ⟨A, c, (blk_cell h1 0).trans rfl, (blk_cell h1 1).trans rfl, (blk_cell h1 2).trans rfl, (blk_cell h1 3).trans rfl, h2, h3⟩
theorem from_calls (b : Nat) (t : Tab) (w : World) (h : TabC w b t) : Calls Tryd.prog 14 #[.pointer (some ⟨b, 0, none⟩)] w fun e w' => e = .returned (.int .i64 t.n) ∧ w' = w := by
  obtain ⟨A, c, h0, h1, h2, h3, -, -⟩ := tab_cells h
  clear h
  go_enter Tryd.func14, Tryd.ntmps14
  go_wp2
  go_ret
  exact ⟨rfl, rfl⟩
theorem to_calls (b : Nat) (t : Tab) (w : World) (h : TabC w b t) : Calls Tryd.prog 15 #[.pointer (some ⟨b, 0, none⟩)] w fun e w' => e = .returned (.int .i64 t.lines.length) ∧ w' = w := by
  obtain ⟨A, c, h0, h1, h2, h3, -, -⟩ := tab_cells h
  clear h
  go_enter Tryd.func15, Tryd.ntmps15
  go_wp2
  go_ret
  exact ⟨rfl, rfl⟩
theorem most_calls (b : Nat) (t : Tab) (w : World) (h : TabC w b t) : Calls Tryd.prog 16 #[.pointer (some ⟨b, 0, none⟩)] w fun e w' => e = .returned (.int .i64 t.most) ∧ w' = w := by
  obtain ⟨A, c, h0, h1, h2, h3, -, -⟩ := tab_cells h
  clear h
  go_enter Tryd.func16, Tryd.ntmps16
  go_wp2
  go_ret
  exact ⟨rfl, rfl⟩
theorem size_calls (b : Nat) (t : Tab) (w : World) (h : TabC w b t) : Calls Tryd.prog 17 #[.pointer (some ⟨b, 0, none⟩)] w fun e w' => e = .returned (.int .i64 t.size) ∧ w' = w := by
  obtain ⟨A, c, h0, h1, h2, h3, -, -⟩ := tab_cells h
  clear h
  go_enter Tryd.func17, Tryd.ntmps17
  go_wp2
  go_ret
  exact ⟨rfl, rfl⟩
set_option maxHeartbeats 8000000 in
set_option maxRecDepth 100000 in
theorem clone_calls (A0 : Option Addr) (c0 : Nat) (l : List Int) (w : World) (hr0 : Kd.C (Kd.int .i64) w A0 l.length l) (hc0 : l.length ≤ c0) (hl : l.length ≤ 2097152) :
    Calls Tryd.prog 29 #[.slice A0 l.length c0] w fun e w' => ∃ v, e = .returned v ∧ Kd.R (Kd.int .i64) 2 w' w.heap.size (fun _ => True) v l ∧ Below w.heap.size w w' := by
  have q : ∀ (w : World) (a : Option Addr) (n c n' c' : Nat), (binOp .eql 29 (.slice a n c) (.slice none n' c')).run Tryd.prog w = .ok (.bool a.isNone) w := fun w a n c n' c' => Lib.run_eql_slice_nil w _ _ a n c n' c' Tryd.underlying29
  cases A0 with
  | none =>
    have hn : l = [] := by
      cases l with
      | nil => rfl
      | cons x r => obtain ⟨ad, e, _⟩ := Kd.at_int hr0 0 (by omega) (by simp); cases e
    subst hn
    clear hr0
    go_enter Tryd.func29, Tryd.ntmps29
    go_wp2
    go_ret
    exact ⟨_, rfl, Kd.R_nil _ _ _ _ _, Below.refl _ _⟩
  | some ad =>
    have HR := Aside0.mk hr0
    clear hr0
    go_enter Tryd.func29, Tryd.ntmps29
    go_wp2_with (at_builtin; refine Kd.R_append_row (Value.int .i64) (0 : Int) (h1 := fun _ => rfl) (w0 := w) w.heap.size rfl (.tmp 5) (.tmp 6) 29 2 (.int .i64 0) 8 rfl Tryd.underlying29 info2 rfl (by omega) (.slice (some ⟨w.heap.size, 0, none⟩) 0 0) [] l (some ad) l.length c0 (fun _ => True) rfl rfl (fun _ _ => trivial) (Kd.R_of_own (World.ownsRow_made w #[] 0 (Nat.le_refl _) (Nat.zero_le _) rfl) (fun _ _ => trivial)) (Kd.C_alloc HR.out _) (below_alloc (Below.refl _ _) _) (by simp) (by simp; omega) ?_; intro v1 w1 ho hb hg hat; have HO := Aside0.mk ho; have HB := Aside0.mk hb; clear ho hb hg hat)
    go_ret
    exact ⟨_, rfl, HO.out, HB.out⟩
/-- A table's line, or none. -/
def lineAt (t : Tab) (i : Int) : S31 := if 0 ≤ i ∧ i < t.lines.length then rd_T31 t.lines i else ⟨0, []⟩
set_option maxHeartbeats 8000000 in
set_option maxRecDepth 100000 in
theorem line_out (b : Nat) (t : Tab) (i : Int) (w : World) (h : TabC w b t) (hi : ¬ (0 ≤ i ∧ i < t.lines.length)) :
    Calls Tryd.prog 10 #[.pointer (some ⟨b, 0, none⟩), .int .i64 i] w fun e w' => e = .returned (.agg #[.int .i64 0, .slice none 0 0]) ∧ Below w.heap.size w w' := by
  obtain ⟨A, c, h0, h1, h2, h3, -, -⟩ := tab_cells h
  have h1' := cell_below h1 (below_alloc (Below.refl _ _) (.cells #[.int .i64 0, .slice none 0 0] 31))
  clear h
  by_cases c0 : i < 0
  · go_enter Tryd.func10, Tryd.ntmps10
    go_wp2
    go_returns
    exact ⟨rfl, below_alloc (Below.refl _ _) _⟩
  · have c1 : (t.lines.length : Int) ≤ i := by omega
    go_enter Tryd.func10, Tryd.ntmps10
    go_wp2
    go_returns
    exact ⟨rfl, below_alloc (Below.refl _ _) _⟩
set_option maxHeartbeats 8000000 in
set_option maxRecDepth 100000 in
theorem line_in (b : Nat) (t : Tab) (i : Int) (w : World) (h : TabC w b t) (i0 : 0 ≤ i) (i1 : i < t.lines.length) (hl : (rd_T31 t.lines i).f1.length ≤ 2097152) :
    Calls Tryd.prog 10 #[.pointer (some ⟨b, 0, none⟩), .int .i64 i] w fun e w' => ∃ v, e = .returned (.agg #[.int .i64 (rd_T31 t.lines i).f0, v]) ∧ Kd.R (Kd.int .i64) 2 w' w.heap.size (fun _ => True) v (rd_T31 t.lines i).f1 ∧ Below w.heap.size w w' := by
  obtain ⟨A, c, h0, h1, h2, h3, hlc, hC⟩ := tab_cells h
  obtain ⟨ad, A1, c1, rfl, k0, k1, l1, g1⟩ := at_T31 hC i i0 i1
  have hB := below_alloc (Below.refl w.heap.size w) (.cells #[.int .i64 0, .slice none 0 0] 31)
  have q1 := cell_below h1 hB
  have m0 := cell_below k0 hB
  have m1 := cell_below k1 hB
  have r0 := heap_alloc_new w (.cells #[.int .i64 0, .slice none 0 0] 31)
  obtain ⟨fst, hf⟩ : ∃ v, v = (rd_T31 t.lines i).f0 := ⟨_, rfl⟩
  obtain ⟨tp, ht⟩ : ∃ v, v = (rd_T31 t.lines i).f1 := ⟨_, rfl⟩
  rw [← hf] at m0 k0 ⊢
  rw [← ht] at k1 m1 l1 g1 hl ⊢
  have HG := Aside0.mk g1
  have HR0 := Aside0.mk r0
  have HB := Aside0.mk hB
  have HCL := Aside0.mk (fun w' (hb : Below w.heap.size w w') => clone_calls A1 c1 tp w' (Kd.C_below g1 hb) l1 hl)
  have HQ := Aside0.mk (And.intro q1 (And.intro m0 m1))
  clear h hC g1 r0 hB hf ht h0 h2 h3 k0 k1 h1
  have n0 : ¬ i < 0 := by omega
  have n1 : ¬ (t.lines.length : Int) ≤ i := by omega
  have mixed : Tryd.prog.follows .mixedOrders = true := by kernel_rfl
  go_enter Tryd.func10, Tryd.ntmps10
  go_wp2
  generalize w.alloc (.cells #[.int .i64 0, .slice none 0 0] 31) = W0 at q1 m0 m1 HR0 HB HQ ⊢
  obtain ⟨r, hr⟩ : ∃ r, r = w.heap.size := ⟨_, rfl⟩
  rw [← hr]
  have hr0 := HR0.out
  rw [← hr] at hr0
  have z0 : W0.cell? ⟨r, 0, none⟩ = some (.int .i64 0) := (blk_cell hr0 0).trans rfl
  have z1 : W0.cell? ⟨r, 1, none⟩ = some (.slice none 0 0) := (blk_cell hr0 1).trans rfl
  have y0 := blk_frozen hr0 0
  have y1 := blk_frozen hr0 1
  have HRR := Aside0.mk hr0
  have HRQ := Aside0.mk hr
  clear hr0 hr HR0
  go_region_law (first | (go_simp; go_at_call 29; refine (HCL.out _ (by repeat (first | (with_reducible first | exact HB.out | apply pw_below_drewN | apply below_drew1) | exact HB.out))).mono ?_; rintro e w2 ⟨v2, rfl, hr2, hb2⟩; obtain ⟨A2, c2, rfl⟩ := Kd.R_slice hr2; have x1 := cell_below (show W0.drew.cell? _ = _ from HQ.out.1) hb2; have x2 := cell_below (show W0.drew.cell? _ = _ from HQ.out.2.1) hb2; have x3 := cell_below (show W0.drew.cell? _ = _ from HQ.out.2.2) hb2; have hr3 := (hb2.block r (blk_lt HRR.out)).trans HRR.out; have z2 : w2.cell? ⟨r, 0, none⟩ = some (.int .i64 0) := (blk_cell hr3 0).trans rfl; have z3 : w2.cell? ⟨r, 1, none⟩ = some (.slice none 0 0) := (blk_cell hr3 1).trans rfl; have y2 := blk_frozen hr3 0; have y3 := blk_frozen hr3 1; have HR3 := Aside0.mk hr3; have HR2 := Aside0.mk hr2; have HB2 := Aside0.mk hb2; clear hr2 hb2 hr3))
  all_goals (
    have hr5 : ((w2.setCell ⟨r, 0, none⟩ (.int .i64 fst)).setCell ⟨r, 1, none⟩ (.slice A2 tp.length c2)).heap[r]? = some (.cells #[.int .i64 fst, .slice A2 tp.length c2] 31 (0, 0)) := by simpa using blk_set (blk_set HR3.out 0 (.int .i64 fst)) 1 (.slice A2 tp.length c2)
    have HN := Aside0.mk (show r < W0.drew.heap.size from blk_lt HRR.out)
    have HO5 := Aside0.mk (Kd.R_far (p := ⟨r, 1, none⟩) (Kd.R_far (p := ⟨r, 0, none⟩) (Kd.R_mono (Kd.R_bound HR2.out) (fun k hk => (show k ≠ r by have := hk.2.1; have := HN.out; omega))) (fun _ hk => hk) (.int .i64 fst)) (fun _ hk => hk) (.slice A2 tp.length c2))
    have HB5 := Aside0.mk (((below_step (below_drew1 HB.out) HB2.out).setCell (p := ⟨r, 0, none⟩) (Nat.le_of_eq HRQ.out.symm) (.int .i64 fst)).setCell (p := ⟨r, 1, none⟩) (Nat.le_of_eq HRQ.out.symm) (.slice A2 tp.length c2))
    have HS5 := Aside0.mk (below_size (below_drew1 HB.out))
    generalize (w2.setCell ⟨r, 0, none⟩ (.int .i64 fst)).setCell ⟨r, 1, none⟩ (.slice A2 tp.length c2) = w5 at hr5 HO5 HB5 ⊢
    have p0 : w5.cell? ⟨r, 0, none⟩ = some (.int .i64 fst) := (blk_cell hr5 0).trans rfl
    have p1 : w5.cell? ⟨r, 1, none⟩ = some (.slice A2 tp.length c2) := (blk_cell hr5 1).trans rfl
    clear hr5
    try simp only [Exit.inBlock, Exit.then]
    go_wp2
    try simp only [Exit.inBlock, Exit.then]
    refine bodyPost_ret (by simp [results, Tryd.results10, go_sem, p0, p1]; try rfl) rfl ?_
    exact ⟨_, rfl, Kd.R_mono (Kd.R_lower HO5.out HS5.out) (fun _ _ => trivial), HB5.out⟩)
/-- The least first sample and one behind the greatest, of some lines. -/
def reachF (lo hi : Int) : List S31 → Int × Int
  | [] => (lo, hi)
  | x :: r => reachF (mn lo x.f0) (mx hi (wrap64 (x.f0 + x.f1.length))) r
def reachP (l : List S31) (p q : Nat) : Int × Int := reachF (rd_T31 l p).f0 (rd_T31 l p).f0 ((l.take q).drop p)
def reachV (t : Tab) (i k : Int) : Int × Int := if mx i 0 < mn k t.lines.length then ((reachP t.lines (mx i 0).toNat (mn k t.lines.length).toNat).1, wrap64 ((reachP t.lines (mx i 0).toNat (mn k t.lines.length).toNat).2 - (reachP t.lines (mx i 0).toNat (mn k t.lines.length).toNat).1)) else (0, 0)
theorem reach_step (l : List S31) {q p : Nat} (h : p < q) (hq : q ≤ l.length) (lo hi : Int) : reachF lo hi ((l.take q).drop p) = reachF (mn lo (rd_T31 l p).f0) (mx hi (wrap64 ((rd_T31 l p).f0 + (rd_T31 l p).f1.length))) ((l.take q).drop (p + 1)) := by
  have e : (l.take q).drop p = rd_T31 l p :: (l.take q).drop (p + 1) := by
    rw [List.drop_eq_getElem_cons (by rw [List.length_take]; omega)]
    congr 1
    unfold rd_T31
    rw [List.getElem_take, Int.toNat_natCast, List.getD_eq_getElem?_getD, List.getElem?_eq_getElem (by omega)]
    rfl
  rw [e, reachF]
theorem rd_drop (l : List S31) (p j : Nat) : rd_T31 (l.drop p) j = rd_T31 l ((p + j : Nat) : Int) := by
  unfold rd_T31
  rw [Int.toNat_natCast, Int.toNat_natCast, List.getD_eq_getElem?_getD, List.getD_eq_getElem?_getD, List.getElem?_drop]
attribute [local go_sem] max2_int min2_int max_two min_two max_three min_three max_four min_four
set_option maxHeartbeats 8000000 in
set_option maxRecDepth 100000 in
theorem reach_calls (b : Nat) (t : Tab) (i k : Int) (w : World) (h : TabC w b t) (hl : t.lines.length ≤ 70000) :
    Calls Tryd.prog 11 #[.pointer (some ⟨b, 0, none⟩), .int .i64 i, .int .i64 k] w fun e w' => e = .returned (.tuple #[.int .i64 (reachV t i k).1, .int .i64 (reachV t i k).2]) ∧ Below w.heap.size w w' := by
  obtain ⟨A, c, h0, h1, h2, h3, hlc, hC⟩ := tab_cells h
  clear h h0 h2 h3
  have HC := Aside0.mk hC
  clear hC
  have mixed : Tryd.prog.follows .mixedOrders = true := by kernel_rfl
  go_enter Tryd.func11, Tryd.ntmps11
  go_upto_region 1 with fail
  go_quiet (fail)
  obtain ⟨I, hI⟩ : ∃ I, I = (if i < 0 then 0 else i) := ⟨_, rfl⟩
  obtain ⟨K, hK⟩ : ∃ K, K = (if (t.lines.length : Int) < k then (t.lines.length : Int) else k) := ⟨_, rfl⟩
  rw [← hI, ← hK]
  have hrv : reachV t i k = if I < K then ((reachP t.lines I.toNat K.toNat).1, wrap64 ((reachP t.lines I.toNat K.toNat).2 - (reachP t.lines I.toNat K.toNat).1)) else (0, 0) := by unfold reachV mx mn; rw [← hI, ← hK]
  have hI0 : 0 ≤ I := by rw [hI]; split <;> omega
  have hK0 : K ≤ t.lines.length := by rw [hK]; split <;> omega
  have HV := Aside0.mk hrv
  have HQ := Aside0.mk (And.intro hI hK)
  clear hI hK hrv
  have hB0 : Below w.heap.size w (w.drewN nq) := pw_below_drewN (Below.refl _ _) _
  have HB0 := Aside0.mk hB0
  have HCD := Aside0.mk (Kd.C_below HC.out hB0)
  have q1 := cell_below h1 hB0
  clear h1 hB0 HC
  generalize w.drewN nq = W at q1 HB0 HCD ⊢
  by_cases hIK : K ≤ I
  · go_wp2
    go_ret2
    refine ⟨?_, HB0.out⟩
    rw [HV.out, if_neg (by omega)]; rfl
  · obtain ⟨p, rfl⟩ := Int.eq_ofNat_of_zero_le hI0
    obtain ⟨q, rfl⟩ := Int.eq_ofNat_of_zero_le (show 0 ≤ K by omega)
    have HV2 := Aside0.mk (show reachV t i k = ((reachP t.lines p q).1, wrap64 ((reachP t.lines p q).2 - (reachP t.lines p q).1)) by rw [HV.out, if_pos (by omega)]; simp only [Int.toNat_natCast])
    have hp := Int.toNat_natCast p
    obtain ⟨ad, A1, c1, rfl, k0, k1, l1, g1⟩ := at_T31 HCD.out p hI0 (by omega)
    have hCd := Kd.C_drop (c := c) HCD.out (show p ≤ t.lines.length by omega) hlc
    rw [if_neg (by omega)] at hCd
    have HCX := Aside0.mk hCd
    have hlp : p < t.lines.length := by omega
    have hpq : p < q := by omega
    rw [hp] at k0
    have HP := Aside0.mk hp
    have w1 : IntKind.i64.wrap ((q : Int) - (p : Int)) = ((q - p : Nat) : Int) := by rw [i64w, w64_id (by omega) (by omega)]; omega
    clear hCd k1 l1 g1 HV HQ hp
    go_upto_region 7 with fail
    go_loopg [6, 8, 40] (q - p) (fun kx s6 s8 s40 wr => ∃ (lo hi : Int) (j : Nat), s6 = .int .i64 lo ∧ s8 = .int .i64 hi ∧ s40 = .int .i64 j ∧ j ≤ q - p ∧ q - p - j ≤ kx ∧ Aside0 (reachF lo hi ((t.lines.take q).drop (p + j)) = reachP t.lines p q) ∧ Aside0 (Below W.heap.size W wr))
    case atStart => exact ⟨_, _, 0, rfl, rfl, rfl, by omega, by omega, ⟨rfl⟩, ⟨Below.refl _ _⟩⟩
    case round =>
      obtain ⟨lo, hi, j, rfl, rfl, rfl, j1, j2, HR, HB⟩ := hrel
      have wj : IntKind.i64.wrap ((j : Int) + 1) = (j : Int) + 1 := by rw [i64w]; exact w64_id (by omega) (by omega)
      by_cases hlt : j < q - p
      · have hlj : (j : Int) < ((t.lines.drop p).length : Int) := by rw [List.length_drop]; omega
        obtain ⟨ad2, A2, c2, e2, m0, m1, l2, g2⟩ := at_T31 (Kd.C_below HCX.out HB.out) j (by omega) hlj
        obtain rfl : ad.add (p * 2) = ad2 := Option.some.inj e2
        rw [Int.toNat_natCast, rd_drop] at m0
        rw [Int.toNat_natCast, rd_drop] at m1
        have hst := reach_step t.lines (show p + j < q by omega) (by omega) lo hi
        obtain ⟨x, hx⟩ : ∃ x, x = rd_T31 t.lines ((p + j : Nat) : Int) := ⟨_, rfl⟩
        rw [← hx] at m0 m1 hst
        have HST := Aside0.mk (hst.symm.trans HR.out)
        obtain ⟨f0, hf0⟩ : ∃ v, v = x.f0 := ⟨_, rfl⟩
        obtain ⟨ln, hln⟩ : ∃ v, v = x.f1.length := ⟨_, rfl⟩
        rw [← hf0] at m0
        rw [← hln] at m1
        have HX := Aside0.mk (And.intro hf0 hln)
        have zj : (0 : Int) ≤ (j : Int) := by omega
        have zl : (j : Int) < ((q - p : Nat) : Int) := by omega
        clear e2 l2 g2 hst hx hf0 hln hlj HR
        go_wp2
        all_goals (
          go_roundg (q - p - (j + 1))
          case measure => omega
          case rel =>
            refine ⟨_, _, j + 1, rfl, rfl, by simp, by omega, Nat.le_refl _, ⟨?_⟩, ⟨?_⟩⟩
            · rw [← HST.out, ← HX.out.1, ← HX.out.2, show p + (j + 1) = p + j + 1 from rfl]
              unfold mn mx
              first
                | (rw [if_pos (by assumption), if_pos (by assumption)]; done)
                | (rw [if_pos (by assumption), if_neg (by omega)]; done)
                | (rw [if_neg (by omega), if_pos (by assumption)]; done)
                | (rw [if_neg (by omega), if_neg (by omega)]; done)
            · repeat (first | (with_reducible first | exact HB.out | apply below_alloc | apply pw_below_drewN | apply below_drew1) | exact HB.out | (refine Below.setCell ?_ (by have := HB.out.size; omega) _)))
      · have : j = q - p := by omega
        subst this
        have HF := Aside0.mk (show reachP t.lines p q = (lo, hi) by rw [← HR.out, show p + (q - p) = q by omega, List.drop_eq_nil_of_le (by rw [List.length_take]; omega)]; rfl)
        clear HR
        go_wp2
        go_ret2
        refine ⟨?_, below_step HB0.out HB.out⟩
        rw [HV2.out, HF.out, ← i64w]; rfl
theorem field_first (x : Int) (v : Value) (w : World) : (Instr.field 31 (.agg #[.int .i64 x, v]) 0).run Tryd.prog w = .ok (.int .i64 x) w := by
  have u : ∀ w, Sem.run Tryd.prog (underlying 31) w = .ok _ w := run_underlying Tryd.underlying31
  simp [Instr.field, u, go_sem]
  rfl
theorem C_lit (W : World) (l : List Int) (hm : l.length ≤ 9223372036854775807) : Kd.C (Kd.int .i64) (W.alloc (.cells (l.map (Value.int .i64)).toArray 2 (0, 0))) (some ⟨W.heap.size, 0, none⟩) l.length l := by
  have h := own_lit W W.heap.size 2 .i64 l (Nat.le_refl _) hm
  exact (Kd.R_reads' (Kd.R_of_own (ok := fun _ => True) h (fun _ _ => trivial))).2.2
def tab42 : Tab := ⟨4, [⟨0, [8192, 8192]⟩, ⟨2, [8192, 8192]⟩], 2, 16384⟩
theorem tab42_is : resTab 0 4 2 2 = tab42 := by kernel_rfl
theorem tab42_code : resCode 0 4 2 0 2 = 0 := by kernel_rfl
set_option maxHeartbeats 8000000 in
set_option maxRecDepth 100000 in
theorem lives08_calls (w : World) (hG : GL w) : Calls Tryd.prog 8 #[] w fun e w' => e = .returned (.bool true) ∧ Below w.heap.size w w' := by
  have HG := Aside0.mk hG
  have l5 := fun w' (hb : Below w.heap.size w w') => smaltolaw05_Lives.calls 400 true w' (hG.below hb) (lives05 (Nat.le_refl _))
  have l6 := fun w' => smaltolaw06_Lives.calls 400 true w' (lives06 (Nat.le_refl _))
  have rs := fun w' (hb : Below w.heap.size w w') => resize_calls 0 4 2 w' (hG.below hb) ⟨by decide, by decide, by decide, by decide, by decide, by decide⟩
  rw [show ((2 : Nat) : Int) = 2 from rfl, tab42_is, tab42_code] at rs
  have same := fun w' A0 c0 A1 c1 h0 h1 h2 h3 => smaltoref06_Same.calls 10 A0 c0 [8192, 8192] A1 c1 [8192, 8192] true w' h0 h1 h2 h3 (by kernel_rfl)
  have L5 := Aside0.mk l5
  have L6 := Aside0.mk l6
  have RS := Aside0.mk rs
  have SM := Aside0.mk same
  clear hG l5 l6 rs same
  have mixed : Tryd.prog.follows .mixedOrders = true := by kernel_rfl
  go_enter Tryd.func8, Tryd.ntmps8
  go_upto_region 4 with (first
    | (go_at_call 22; refine (L5.out _ (Below.refl _ _)).mono ?_; rintro e w1 ⟨rfl, hb1⟩; have B1 := Aside0.mk hb1; clear hb1)
    | (go_at_call 23; refine (L6.out _).mono ?_; rintro e w2 ⟨rfl, hb2⟩; have B2 := Aside0.mk (below_step B1.out hb2); clear hb2)
    | (go_at_call 9; refine (RS.out _ B2.out).mono ?_; rintro e w3 ⟨hb3, hT⟩; rw [if_pos rfl] at hT; obtain ⟨b, rfl, hT⟩ := hT; have B3 := Aside0.mk (below_step B2.out hb3); have T3 := Aside0.mk hT.reads; clear hb3 hT))
  clear L5 L6 RS
  have hfl := field_first
  have LN1 := Aside0.mk (show Calls Tryd.prog 10 #[.pointer (some ⟨b, 0, none⟩), .int .i64 1] w3 fun e w' => ∃ v, e = .returned (.agg #[.int .i64 2, v]) ∧ Kd.R (Kd.int .i64) 2 w' w3.heap.size (fun _ => True) v [8192, 8192] ∧ Below w3.heap.size w3 w' from line_in b tab42 1 w3 T3.out (by decide) (by decide) (by decide))
  go_upto_region 7 with (first
    | (go_at_call 10; refine LN1.out.mono ?_; rintro e w4 ⟨v4, rfl, hr4, hb4⟩; obtain ⟨A4, c4, rfl⟩ := Kd.R_slice hr4; have R4 := Aside0.mk hr4; have B4 := Aside0.mk (below_step B3.out hb4); have T4 := Aside0.mk (T3.out.below hb4); clear hr4 hb4))
  have hr := heap_alloc_new w4 (.cells #[.int .i64 2, .slice A4 2 c4] 31)
  have R5 := Aside0.mk (Kd.R_reads' (Kd.R_alloc R4.out (.cells #[.int .i64 2, .slice A4 2 c4] 31)))
  have T5 := Aside0.mk (T4.out.below (below_alloc (Below.refl _ _) (.cells #[.int .i64 2, .slice A4 2 c4] 31)))
  have B5 := Aside0.mk (below_alloc B4.out (.cells #[.int .i64 2, .slice A4 2 c4] 31))
  obtain ⟨r, hrr⟩ : ∃ r, r = w4.heap.size := ⟨_, rfl⟩
  rw [← hrr] at hr ⊢
  have HR := Aside0.mk hr
  clear hr hrr T4 R4 B4
  generalize w4.alloc (.cells #[.int .i64 2, .slice A4 2 c4] 31) = w5 at HR R5 T5 B5 ⊢
  have RC := Aside0.mk (show Calls Tryd.prog 11 #[.pointer (some ⟨b, 0, none⟩), .int .i64 0, .int .i64 2] w5 fun e w' => e = .returned (.tuple #[.int .i64 0, .int .i64 4]) ∧ Below w5.heap.size w5 w' from (reach_calls b tab42 0 2 w5 T5.out (by decide)).mono (fun e w' h => ⟨h.1.trans (by kernel_rfl), h.2⟩))
  go_upto_region 8 with (first
    | (go_at_call 11; refine RC.out.mono ?_; rintro e w6 ⟨rfl, hb6⟩; have B6 := Aside0.mk hb6; clear hb6))
  have LN0 := Aside0.mk (show Calls Tryd.prog 10 #[.pointer (some ⟨b, 0, none⟩), .int .i64 0] w6 fun e w' => ∃ v, e = .returned (.agg #[.int .i64 0, v]) ∧ Kd.R (Kd.int .i64) 2 w' w6.heap.size (fun _ => True) v [8192, 8192] ∧ Below w6.heap.size w6 w' from line_in b tab42 0 w6 (T5.out.below B6.out) (by decide) (by decide) (by decide))
  go_wp2_with (first
    | (go_at_call 10; refine LN0.out.mono ?_; rintro e w7 ⟨v7, rfl, hr7, hb7⟩; obtain ⟨A7, c7, rfl⟩ := Kd.R_slice hr7; have B7 := Aside0.mk (below_step B6.out hb7); have hr9 := (B7.out.block r (blk_lt HR.out)).trans HR.out; have z0 : w7.cell? ⟨r, 0, none⟩ = some (.int .i64 2) := (blk_cell hr9 0).trans rfl; have z1 : w7.cell? ⟨r, 1, none⟩ = some (.slice A4 2 c4) := (blk_cell hr9 1).trans rfl; clear hr7 hb7 hr9)
    | (go_at_call 20; refine (SM.out _ A4 c4 _ _ (Kd.C_below R5.out.2.2 (below_alloc B7.out _)) R5.out.2.1 (C_lit w7 [8192, 8192] (by decide)) (Nat.le_refl _)).mono ?_; rintro e w8 ⟨rfl, ⟨nd, rfl⟩⟩))
  go_ret
  exact ⟨rfl, pw_below_drewN (below_step B5.out (below_alloc B7.out _)) _⟩
theorem one_chk : filCode [1073741824] 1 = 0 := by kernel_rfl
theorem one_app : appL [1073741824] = [16384] := by kernel_rfl
set_option maxHeartbeats 8000000 in
set_option maxRecDepth 100000 in
theorem same_bad (n : Int) (w : World) (h : ¬ (1 ≤ n ∧ n ≤ 65536)) : Calls Tryd.prog 21 #[.int .i64 n] w fun e w' => e = .returned (.pointer none) ∧ Below w.heap.size w w' := by
  have hf := fun w' A0 => filter_bad A0 1 [1073741824] n w' h
  have HF := Aside0.mk hf
  clear hf
  go_enter Tryd.func21, Tryd.ntmps21
  go_wp2_with (go_at_call 18; refine (HF.out _ _).mono ?_; rintro e w1 ⟨hb, rfl⟩; have HB := Aside0.mk hb; clear hb)
  go_ret
  exact ⟨rfl, below_step (below_alloc (Below.refl _ _) _) HB.out⟩
set_option maxHeartbeats 8000000 in
set_option maxRecDepth 100000 in
theorem same_calls (N : Nat) (w : World) (h1 : 1 ≤ N) (h2 : N ≤ 65536) : Calls Tryd.prog 21 #[.int .i64 N] w fun e w' => ∃ b, e = .returned (.pointer (some ⟨b, 0, none⟩)) ∧ TabC w' b (filTab N 0 [16384] N) ∧ Below w.heap.size w w' := by
  have hc : filCode [1073741824] N = 0 := by unfold filCode; rw [if_pos ⟨by omega, by omega⟩]; exact one_chk
  have hf := fun w' => filter_calls (some ⟨w'.heap.size, 0, none⟩) 1 [1073741824] N (w'.alloc (.cells ([1073741824].map (Value.int .i64)).toArray 2 (0, 0))) (C_lit w' [1073741824] (by decide)) (by decide) (by intro x hx; simp at hx; subst hx; decide) (by decide) h1 h2
  rw [hc, one_app] at hf
  have HF := Aside0.mk hf
  clear hf hc
  go_enter Tryd.func21, Tryd.ntmps21
  go_wp2_with (go_at_call 18; refine (HF.out _).mono ?_; rintro e w1 ⟨hb, hT⟩; rw [if_pos rfl] at hT; obtain ⟨b, rfl, hT⟩ := hT; have HB := Aside0.mk hb; have HT := Aside0.mk hT.reads; clear hb hT)
  go_ret
  exact ⟨_, rfl, HT.out, below_step (below_alloc (Below.refl _ _) _) HB.out⟩
end Go.Proofs.YthaajkpiknbdbaaDoor.QA

namespace Go.Proofs.YthaajkpiknbdbaaDoor.QA
open Go.RowKit Go.Proofs.YthaajkpiknbdbaaDoorW.PrintWords Go.Proofs.YthaajkpiknbdbaaDoorW.PrintLast Go.Proofs.YthaajkpiknbdbaaDoorW.PrintMore Go.Proofs.YthaajkpiknbdbaaDoor.T
set_option linter.unusedVariables false
set_option linter.unusedSimpArgs false
/-- A line, as the document has it. -/
def toR (x : S31) : S62 := ⟨x.f0, x.f1⟩
/-- What the document's loop over a line's taps leaves. -/
def inn (lo hi : Int) (is : Bool) (f0 : Int) (t L : Nat) : Int × Int × Bool := if t < L then (if is = true then mn lo (f0 + t) else f0 + t, if is = true then mx hi (f0 + L) else f0 + L, true) else (lo, hi, is)
theorem inn_end (lo hi : Int) (is : Bool) (f0 : Int) (L : Nat) : inn lo hi is f0 L L = (lo, hi, is) := by unfold inn; rw [if_neg (Nat.lt_irrefl _)]
theorem inn_false {f0 : Int} {t L : Nat} (h : t < L) (lo hi : Int) : inn (f0 + t) (f0 + t + 1) true f0 (t + 1) L = inn lo hi false f0 t L := by
  unfold inn
  by_cases c : t + 1 < L
  · rw [if_pos c, if_pos h]
    simp only [if_true, Bool.false_eq_true, if_false]
    have e1 : mn (f0 + t) (f0 + ((t + 1 : Nat) : Int)) = f0 + t := by unfold mn; rw [if_neg (by omega)]
    have e2 : mx (f0 + t + 1) (f0 + L) = f0 + L := by unfold mx; rw [if_pos (by omega)]
    rw [e1, e2]
  · rw [if_neg c, if_pos h]
    simp only [Bool.false_eq_true, if_false]
    have : f0 + t + 1 = f0 + L := by omega
    rw [this]
theorem inn_true {f0 : Int} {t L : Nat} (h : t < L) (lo hi : Int) : inn (mn lo (f0 + t)) (mx hi (f0 + t + 1)) true f0 (t + 1) L = inn lo hi true f0 t L := by
  unfold inn
  by_cases c : t + 1 < L
  · rw [if_pos c, if_pos h]
    simp only [if_true]
    have e1 : mn (mn lo (f0 + t)) (f0 + ((t + 1 : Nat) : Int)) = mn lo (f0 + t) := by unfold mn; (repeat' split) <;> omega
    have e2 : mx (mx hi (f0 + t + 1)) (f0 + L) = mx hi (f0 + L) := by unfold mx; (repeat' split) <;> omega
    rw [e1, e2]
  · rw [if_neg c, if_pos h]
    simp only [if_true]
    have : f0 + t + 1 = f0 + L := by omega
    rw [this]
theorem reach_l1 (i k : Int) (ws : List S62) (len o f0 : Int) (tp : List Int) (hL : tp.length ≤ 2097152) (hf : -1099511627776 ≤ f0 ∧ f0 ≤ 1099511627776) : ∀ (d t : Nat) (lo hi : Int) (is : Bool), t + d = tp.length → ∀ (K : Nat) (R : Option (Int × Int × Bool)),
    (∀ q, K ≤ q → smaltoref08_Reach.l0 q i k (inn lo hi is f0 t tp.length).1 (inn lo hi is f0 t tp.length).2.1 (inn lo hi is f0 t tp.length).2.2 ws len (wrap64 (o + 1)) = R) → ∀ q, K + 2 * d + 1 ≤ q → smaltoref08_Reach.l1 q i k lo hi is ws len o (tp.length : Int) (t : Int) f0 tp = R
  | 0, t, lo, hi, is, h, K, R, hR, q, hq => by
    obtain ⟨q, rfl⟩ : ∃ m, q = m + 1 := ⟨q - 1, by omega⟩
    have ht : t = tp.length := by omega
    subst ht
    rw [smaltoref08_Reach.l1, if_neg (by omega)]
    have := hR q (by omega)
    rw [inn_end] at this
    exact this
  | d + 1, t, lo, hi, is, h, K, R, hR, q, hq => by
    obtain ⟨q, rfl⟩ : ∃ m, q = m + 1 + 1 := ⟨q - 2, by omega⟩
    have hlt : t < tp.length := by omega
    have w1 : wrap64 (f0 + (t : Int)) = f0 + t := w64_id (by omega) (by omega)
    have w2 : wrap64 (f0 + (t : Int) + 1) = f0 + t + 1 := w64_id (by omega) (by omega)
    have w3 : wrap64 ((t : Int) + 1) = ((t + 1 : Nat) : Int) := by rw [w64_id (by omega) (by omega)]; omega
    rw [smaltoref08_Reach.l1, if_pos (by omega), w1]
    cases is with
    | false =>
      rw [if_neg (by decide), smaltoref08_Reach.j3, if_pos rfl, if_neg (by decide), w2, w3]
      exact reach_l1 i k ws len o f0 tp hL hf d (t + 1) _ _ true (by omega) K R (by rw [inn_false (f0 := f0) hlt lo hi]; exact hR) q (by omega)
    | true =>
      rw [if_pos rfl, smaltoref08_Reach.j3, w2, w3]
      have ih := fun lo' hi' (e : inn lo' hi' true f0 (t + 1) tp.length = inn lo hi true f0 t tp.length) => reach_l1 i k ws len o f0 tp hL hf d (t + 1) lo' hi' true (by omega) K R (by rw [e]; exact hR) q (by omega)
      have ie := inn_true (f0 := f0) hlt lo hi
      by_cases c1 : f0 + (t : Int) < lo
      · rw [decide_eq_true c1, if_pos rfl, if_pos rfl]
        rw [show mn lo (f0 + t) = f0 + t by unfold mn; rw [if_pos c1]] at ie
        by_cases c2 : f0 + (t : Int) + 1 > hi
        · rw [if_pos c2]
          rw [show mx hi (f0 + t + 1) = f0 + t + 1 by unfold mx; rw [if_pos (by omega)]] at ie
          exact ih _ _ ie
        · rw [if_neg c2]
          rw [show mx hi (f0 + t + 1) = hi by unfold mx; rw [if_neg (by omega)]] at ie
          exact ih _ _ ie
      · rw [decide_eq_false c1, if_neg (by decide), if_pos rfl]
        rw [show mn lo (f0 + t) = lo by unfold mn; rw [if_neg (by omega)]] at ie
        by_cases c2 : f0 + (t : Int) + 1 > hi
        · rw [if_pos c2]
          rw [show mx hi (f0 + t + 1) = f0 + t + 1 by unfold mx; rw [if_pos (by omega)]] at ie
          exact ih _ _ ie
        · rw [if_neg c2]
          rw [show mx hi (f0 + t + 1) = hi by unfold mx; rw [if_neg (by omega)]] at ie
          exact ih _ _ ie
/-- What the document's loop over the lines leaves. -/
def outF (i k : Int) : Nat → Int × Int × Bool → List S62 → Int × Int × Bool
  | _, s, [] => s
  | o, s, x :: r => outF i k (o + 1) (if i ≤ (o : Int) ∧ (o : Int) < k then inn s.1 s.2.1 s.2.2 x.f0 0 x.f1.length else s) r
theorem drop_rdR (l : List S62) {o : Nat} (h : o < l.length) : l.drop o = rd_T62 l (o : Int) :: l.drop (o + 1) := by
  rw [List.drop_eq_getElem_cons h]
  congr 1
  unfold rd_T62
  rw [Int.toNat_natCast, List.getD_eq_getElem?_getD, List.getElem?_eq_getElem h]; rfl
theorem reach_l0 (B : Nat) (hB : 4194400 ≤ B) (i k : Int) (ws : List S62) (hn : ws.length ≤ 70000) (hw : ∀ o : Nat, o < ws.length → (rd_T62 ws (o : Int)).f1.length ≤ 2097152 ∧ -1099511627776 ≤ (rd_T62 ws (o : Int)).f0 ∧ (rd_T62 ws (o : Int)).f0 ≤ 1099511627776) : ∀ (d o : Nat) (s : Int × Int × Bool), o + d = ws.length →
    ∀ q, d * B + 1 ≤ q → smaltoref08_Reach.l0 q i k s.1 s.2.1 s.2.2 ws (ws.length : Int) (o : Int) = some (outF i k o s (ws.drop o))
  | 0, o, s, h, q, hq => by
    obtain ⟨q, rfl⟩ : ∃ m, q = m + 1 := ⟨q - 1, by omega⟩
    rw [smaltoref08_Reach.l0, if_neg (by omega), List.drop_eq_nil_of_le (by omega)]; rfl
  | d + 1, o, s, h, q, hq => by
    rw [Nat.succ_mul] at hq
    obtain ⟨q, rfl⟩ : ∃ m, q = m + 1 + 1 := ⟨q - 2, by omega⟩
    have hlt : o < ws.length := by omega
    have w3 : wrap64 ((o : Int) + 1) = ((o + 1 : Nat) : Int) := by rw [w64_id (by omega) (by omega)]; omega
    obtain ⟨b1, b2, b3⟩ := hw o hlt
    rw [smaltoref08_Reach.l0, if_pos (by omega), if_pos (by omega), if_pos (by omega), drop_rdR ws hlt, outF]
    have ih := fun s' q' hq' => reach_l0 B hB i k ws hn hw d (o + 1) s' (by omega) q' hq'
    by_cases c1 : (o : Int) < i
    · rw [if_pos c1, smaltoref08_Reach.j1, if_pos rfl, w3, if_neg (by omega)]
      exact ih s q (by omega)
    · rw [if_neg c1]
      by_cases c2 : (o : Int) ≥ k
      · rw [decide_eq_true c2, smaltoref08_Reach.j1, if_pos rfl, w3, if_neg (by omega)]
        exact ih s q (by omega)
      · rw [decide_eq_false c2, smaltoref08_Reach.j1, if_neg (by decide), if_pos (by omega)]
        refine reach_l1 i k ws _ _ _ _ b1 ⟨b2, b3⟩ (rd_T62 ws (o : Int)).f1.length 0 s.1 s.2.1 s.2.2 (by omega) (d * B + 1) _ (fun q' hq' => ?_) q (by omega)
        rw [w3]
        exact ih _ q' hq'
theorem outF_skip (i k : Int) : ∀ (l : List S62) (o : Nat) (s : Int × Int × Bool), (∀ j : Nat, o ≤ j → j < o + l.length → ¬ (i ≤ (j : Int) ∧ (j : Int) < k)) → outF i k o s l = s
  | [], o, s, h => rfl
  | x :: r, o, s, h => by
    rw [outF, if_neg (h o (Nat.le_refl _) (by simp))]
    exact outF_skip i k r (o + 1) s (fun j h1 h2 => h j (by omega) (by simp at h2 ⊢; omega))
theorem map_drop_rd (l : List S31) {o : Nat} (h : o < l.length) : l.drop o = rd_T31 l (o : Int) :: l.drop (o + 1) := by
  rw [List.drop_eq_getElem_cons h]
  congr 1
  unfold rd_T31
  rw [Int.toNat_natCast, List.getD_eq_getElem?_getD, List.getElem?_eq_getElem h]; rfl
theorem outF_in (i k : Int) (l : List S31) (q : Nat) (hq : q ≤ l.length) (hqk : (q : Int) ≤ k) (hend : q = l.length ∨ (q : Int) = k) (hl : ∀ o : Nat, o < l.length → 1 ≤ (rd_T31 l (o : Int)).f1.length ∧ (rd_T31 l (o : Int)).f1.length ≤ 2097152 ∧ -1099511627776 ≤ (rd_T31 l (o : Int)).f0 ∧ (rd_T31 l (o : Int)).f0 ≤ 1099511627776) : ∀ (d o : Nat) (lo hi : Int), o + d = q → i ≤ (o : Int) →
    outF i k o (lo, hi, true) ((l.map toR).drop o) = ((reachF lo hi ((l.take q).drop o)).1, (reachF lo hi ((l.take q).drop o)).2, true)
  | 0, o, lo, hi, h, hi0 => by
    have : o = q := by omega
    subst this
    rw [List.drop_eq_nil_of_le (show (l.take o).length ≤ o by rw [List.length_take]; omega)]
    refine outF_skip _ _ _ _ _ (fun j h1 h2 h3 => ?_)
    rw [List.length_drop, List.length_map] at h2
    rcases hend with e | e <;> omega
  | d + 1, o, lo, hi, h, hi0 => by
    have hlt : o < l.length := by omega
    obtain ⟨b0, b1, b2, b3⟩ := hl o hlt
    rw [reach_step l (show o < q by omega) hq, ← List.map_drop, map_drop_rd l hlt, List.map_cons, outF, if_pos ⟨hi0, by omega⟩]
    have e : inn lo hi true (toR (rd_T31 l (o : Int))).f0 0 (toR (rd_T31 l (o : Int))).f1.length = (mn lo (rd_T31 l (o : Int)).f0, mx hi (wrap64 ((rd_T31 l (o : Int)).f0 + (rd_T31 l (o : Int)).f1.length)), true) := by
      unfold inn toR
      rw [if_pos (show 0 < (rd_T31 l (o : Int)).f1.length by omega), if_pos rfl, if_pos rfl, w64_id (by omega) (by omega), show (rd_T31 l (o : Int)).f0 + ((0 : Nat) : Int) = (rd_T31 l (o : Int)).f0 by omega]
    rw [e, List.map_drop]
    exact outF_in i k l q hq hqk hend hl d (o + 1) _ _ (by omega) (by omega)
theorem outF_pre (i k : Int) (s : Int × Int × Bool) : ∀ (d : Nat) (l : List S62) (o : Nat), (o : Int) + d ≤ i → outF i k o s l = outF i k (o + d) s (l.drop d)
  | 0, l, o, h => rfl
  | d + 1, [], o, h => by simp [outF]
  | d + 1, x :: r, o, h => by
    rw [outF, if_neg (by omega), List.drop_succ_cons, outF_pre i k s d r (o + 1) (by omega), show o + 1 + d = o + (d + 1) by omega]
/-- The document's reach is the code's. -/
theorem reach_same (l : List S31) (t : Tab) (ht : t.lines = l) (i k : Int) (hn : l.length ≤ 70000) (hl : ∀ o : Nat, o < l.length → 1 ≤ (rd_T31 l (o : Int)).f1.length ∧ (rd_T31 l (o : Int)).f1.length ≤ 2097152 ∧ -1099511627776 ≤ (rd_T31 l (o : Int)).f0 ∧ (rd_T31 l (o : Int)).f0 ≤ 1099511627776) :
    (mx i 0 < mn k l.length ∧ ∃ lo hi, outF i k 0 (0, 0, false) (l.map toR) = (lo, hi, true) ∧ reachV t i k = (lo, wrap64 (hi - lo)) ∧ lo < hi ∧ -1099511627776 ≤ lo ∧ hi ≤ 1099511627776 + 2097152) ∨ (outF i k 0 (0, 0, false) (l.map toR) = (0, 0, false) ∧ reachV t i k = (0, 0)) := by
  have mxv : mx i 0 = if i < 0 then 0 else i := rfl
  have mnv : mn k (l.length : Int) = if (l.length : Int) < k then (l.length : Int) else k := rfl
  by_cases c : mx i 0 < mn k l.length
  · left
    refine ⟨c, ?_⟩
    obtain ⟨p, hp⟩ : ∃ p : Nat, mx i 0 = (p : Int) := ⟨(mx i 0).toNat, by rw [mxv]; split <;> omega⟩
    have hmx0 : 0 ≤ mx i 0 := by rw [mxv]; split <;> omega
    obtain ⟨q, hq⟩ : ∃ q : Nat, mn k (l.length : Int) = (q : Int) := ⟨(mn k (l.length : Int)).toNat, by omega⟩
    rw [hp, hq] at c
    have hq1 : q ≤ l.length := by rw [mnv] at hq; split at hq <;> omega
    have hq2 : (q : Int) ≤ k := by rw [mnv] at hq; split at hq <;> omega
    have hq3 : q = l.length ∨ (q : Int) = k := by rw [mnv] at hq; split at hq <;> omega
    have hp1 : i ≤ (p : Int) := by rw [mxv] at hp; split at hp <;> omega
    have hp2 : p = 0 ∨ (p : Int) = i := by rw [mxv] at hp; split at hp <;> omega
    have hpq : p < q := by omega
    have hpl : p < l.length := by omega
    obtain ⟨b0, b1, b2, b3⟩ := hl p hpl
    have e0 : outF i k 0 (0, 0, false) (l.map toR) = outF i k p (0, 0, false) ((l.map toR).drop p) := by
      rcases hp2 with rfl | hp2
      · rfl
      · have := outF_pre i k (0, 0, false) p (l.map toR) 0 (by omega)
        rw [this, Nat.zero_add]
    have e1 : outF i k p (0, 0, false) ((l.map toR).drop p) = outF i k (p + 1) ((rd_T31 l (p : Int)).f0, (rd_T31 l (p : Int)).f0 + (rd_T31 l (p : Int)).f1.length, true) ((l.map toR).drop (p + 1)) := by
      rw [← List.map_drop, map_drop_rd l hpl, List.map_cons, outF, if_pos ⟨hp1, by omega⟩, List.map_drop]
      congr 1
      unfold inn toR
      rw [if_pos (show 0 < (rd_T31 l (p : Int)).f1.length by omega), if_neg (by decide), if_neg (by decide), show (rd_T31 l (p : Int)).f0 + ((0 : Nat) : Int) = (rd_T31 l (p : Int)).f0 by omega]
    have e2 : reachP l p q = reachF (rd_T31 l (p : Int)).f0 ((rd_T31 l (p : Int)).f0 + (rd_T31 l (p : Int)).f1.length) ((l.take q).drop (p + 1)) := by
      unfold reachP
      rw [reach_step l hpq hq1]
      have a1 : mn (rd_T31 l (p : Int)).f0 (rd_T31 l (p : Int)).f0 = (rd_T31 l (p : Int)).f0 := by unfold mn; split <;> rfl
      have a2 : mx (rd_T31 l (p : Int)).f0 (wrap64 ((rd_T31 l (p : Int)).f0 + (rd_T31 l (p : Int)).f1.length)) = (rd_T31 l (p : Int)).f0 + (rd_T31 l (p : Int)).f1.length := by
        rw [w64_id (by omega) (by omega)]; unfold mx; rw [if_pos (by omega)]
      rw [a1, a2]
    have e3 := outF_in i k l q hq1 hq2 hq3 hl (q - (p + 1)) (p + 1) (rd_T31 l (p : Int)).f0 ((rd_T31 l (p : Int)).f0 + (rd_T31 l (p : Int)).f1.length) (by omega) (by omega)
    have bnd : ∀ (d o : Nat) (lo hi : Int), o + d = q → lo < hi → -1099511627776 ≤ lo → hi ≤ 1099511627776 + 2097152 → (reachF lo hi ((l.take q).drop o)).1 < (reachF lo hi ((l.take q).drop o)).2 ∧ -1099511627776 ≤ (reachF lo hi ((l.take q).drop o)).1 ∧ (reachF lo hi ((l.take q).drop o)).2 ≤ 1099511627776 + 2097152 := by
      intro d
      induction d with
      | zero =>
        intro o lo hi h h1 h2 h3
        rw [List.drop_eq_nil_of_le (show (l.take q).length ≤ o by rw [List.length_take]; omega)]
        exact ⟨h1, h2, h3⟩
      | succ d ih =>
        intro o lo hi h h1 h2 h3
        obtain ⟨b0, b1, b2, b3⟩ := hl o (by omega)
        rw [reach_step l (show o < q by omega) hq1, w64_id (by omega) (by omega)]
        refine ih (o + 1) _ _ (by omega) ?_ ?_ ?_
        · unfold mn mx; (repeat' split) <;> omega
        · unfold mn; (repeat' split) <;> omega
        · unfold mx; (repeat' split) <;> omega
    obtain ⟨g1, g2, g3⟩ := bnd (q - (p + 1)) (p + 1) (rd_T31 l (p : Int)).f0 ((rd_T31 l (p : Int)).f0 + (rd_T31 l (p : Int)).f1.length) (by omega) (by omega) (by omega) (by omega)
    refine ⟨_, _, by rw [e0, e1, e3], ?_, g1, g2, g3⟩
    unfold reachV
    rw [ht, hp, hq, if_pos (by omega), Int.toNat_natCast, Int.toNat_natCast, e2]
  · right
    refine ⟨outF_skip _ _ _ _ _ (fun j h1 h2 h3 => ?_), ?_⟩
    · rw [List.length_map] at h2
      rw [mxv, mnv] at c
      split at c <;> split at c <;> omega
    · unfold reachV
      rw [ht, if_neg c]
end Go.Proofs.YthaajkpiknbdbaaDoor.QA

namespace Go.Proofs.YthaajkpiknbdbaaDoor.QA
open Go.RowKit Go.Proofs.YthaajkpiknbdbaaDoorW.PrintWords Go.Proofs.YthaajkpiknbdbaaDoorW.PrintLast Go.Proofs.YthaajkpiknbdbaaDoorW.PrintMore Go.Proofs.YthaajkpiknbdbaaDoor.T
set_option linter.unusedVariables false
set_option linter.unusedSimpArgs false
def mostU (l : List S31) : Int := l.foldl (fun m x => mx m (x.f1.length : Int)) 0
def sizeU (l : List S31) : Int := l.foldl (fun m x => mx m (szFrom 0 x.f1)) 0
/-- A table that its lines tell. -/
structure Told (t : Tab) : Prop where
  m : t.most = mostU t.lines
  s : t.size = sizeU t.lines
  n : t.lines.length ≤ 70000
  l : ∀ o : Nat, o < t.lines.length → (1 ≤ (rd_T31 t.lines (o : Int)).f1.length ∧ (rd_T31 t.lines (o : Int)).f1.length ≤ 2097152 ∧ -1099511627776 ≤ (rd_T31 t.lines (o : Int)).f0 ∧ (rd_T31 t.lines (o : Int)).f0 ≤ 1099511627776) ∧ ∀ x ∈ (rd_T31 t.lines (o : Int)).f1, I64 x
theorem take_succ_rd (l : List S31) {o : Nat} (h : o < l.length) : l.take (o + 1) = l.take o ++ [rd_T31 l (o : Int)] := by
  rw [List.take_add_one, List.getElem?_eq_getElem h]
  unfold rd_T31
  rw [Int.toNat_natCast, List.getD_eq_getElem?_getD, List.getElem?_eq_getElem h]; rfl
theorem mostU_succ (l : List S31) {o : Nat} (h : o < l.length) : mostU (l.take (o + 1)) = mx (mostU (l.take o)) ((rd_T31 l (o : Int)).f1.length : Int) := by rw [take_succ_rd l h]; unfold mostU; rw [List.foldl_append]; rfl
theorem sizeU_succ (l : List S31) {o : Nat} (h : o < l.length) : sizeU (l.take (o + 1)) = mx (sizeU (l.take o)) (szFrom 0 (rd_T31 l (o : Int)).f1) := by rw [take_succ_rd l h]; unfold sizeU; rw [List.foldl_append]; rfl
theorem rd_map (l : List S31) {o : Nat} (h : o < l.length) : rd_T62 (l.map toR) (o : Int) = toR (rd_T31 l (o : Int)) := by
  unfold rd_T62 rd_T31
  rw [Int.toNat_natCast, List.getD_eq_getElem?_getD, List.getD_eq_getElem?_getD, List.getElem?_map, List.getElem?_eq_getElem h]; rfl
theorem ref_reach {t : Tab} (T : Told t) (i k : Int) : ∃ K, smaltoref08_Reach.f K (t.lines.map toR) i k = some (outF i k 0 (0, 0, false) (t.lines.map toR)) := by
  obtain ⟨B, hB⟩ : ∃ B : Nat, 4194400 ≤ B := ⟨_, Nat.le_refl _⟩
  refine ⟨t.lines.length * B + 1, ?_⟩
  unfold smaltoref08_Reach.f
  have hl : (t.lines.map toR).length = t.lines.length := List.length_map ..
  have h := reach_l0 B hB i k (t.lines.map toR) (by rw [hl]; exact T.n) (fun o ho => by
    rw [hl] at ho
    rw [rd_map _ ho]
    have := (T.l o ho).1
    exact ⟨this.2.1, this.2.2.1, this.2.2.2⟩) t.lines.length 0 (0, 0, false) (by rw [hl]; omega) _ (Nat.le_refl _)
  exact h
attribute [local go_sem] max2_int min2_int max_two min_two
set_option maxHeartbeats 8000000 in
set_option maxRecDepth 100000 in
theorem same08_calls (b : Nat) (t : Tab) (A : Option Addr) (c : Nat) (i k : Int) (w : World) (hT : TabC w b t) (T : Told t) (hw : Kd.C k62 w A t.lines.length (t.lines.map toR)) (hc : t.lines.length ≤ c) :
    Calls Tryd.prog 13 #[.pointer (some ⟨b, 0, none⟩), .slice A t.lines.length c, .int .i64 t.n, .int .i64 i, .int .i64 k] w fun e w' => e = .returned (.bool true) ∧ Below w.heap.size w w' := by
  obtain ⟨K, hK⟩ := ref_reach T i k
  have hrs := reach_same t.lines t rfl i k T.n (fun o ho => (T.l o ho).1)
  have RC := Aside0.mk (fun w' (hb : Below w.heap.size w w') => smaltoref08_Reach.calls K A c (t.lines.map toR) i k _ _ _ w' (by rw [List.length_map]; exact Kd.C_below hw hb) (by rw [List.length_map]; exact hc) hK)
  rw [List.length_map] at RC
  have RV := Aside0.mk (fun w' (hb : Below w.heap.size w w') => reach_calls b t i k w' (hT.below hb) T.n)
  have FR := Aside0.mk (fun w' (hb : Below w.heap.size w w') => from_calls b t w' (hT.below hb))
  have TO := Aside0.mk (fun w' (hb : Below w.heap.size w w') => to_calls b t w' (hT.below hb))
  have MO := Aside0.mk (fun w' (hb : Below w.heap.size w w') => most_calls b t w' (hT.below hb))
  have SZ := Aside0.mk (fun w' (hb : Below w.heap.size w w') => size_calls b t w' (hT.below hb))
  have L1 := Aside0.mk (fun w' (hb : Below w.heap.size w w') => line_out b t (-1) w' (hT.below hb) (by omega))
  have L2 := Aside0.mk (fun w' (hb : Below w.heap.size w w') => line_out b t (t.lines.length : Int) w' (hT.below hb) (by omega))
  have LN := Aside0.mk (fun (o : Nat) (ho : o < t.lines.length) w' (hb : Below w.heap.size w w') => line_in b t (o : Int) w' (hT.below hb) (by omega) (by omega) (T.l o ho).1.2.1)
  have HT := Aside0.mk T
  have HWC := Aside0.mk hw
  have HRS := Aside0.mk hrs
  obtain ⟨n, hn⟩ : ∃ n, n = t.lines.length := ⟨_, rfl⟩
  rw [← hn] at hc RC TO L2 LN ⊢
  have HN := Aside0.mk hn
  have hn7 : n ≤ 70000 := by rw [hn]; exact T.n
  have q0 : (t.n != t.n) = false := by simp
  have q1 : ((n : Int) != (n : Int)) = false := by simp
  clear hT T hw hK hrs hn
  have mixed : Tryd.prog.follows .mixedOrders = true := by kernel_rfl
  go_enter Tryd.func13, Tryd.ntmps13
  go_upto_region 5 with (first
    | (go_at_call 14; refine (FR.out _ (Below.refl _ _)).mono ?_; rintro e w1 ⟨rfl, rfl⟩)
    | (go_at_call 15; refine (TO.out _ (Below.refl _ _)).mono ?_; rintro e w1 ⟨rfl, rfl⟩))
  clear q0 q1
  go_loopg [11, 12, 36] n (fun kx s11 s12 s36 wr => ∃ (o : Nat) (m s : Int), s11 = .int .i64 m ∧ s12 = .int .i64 s ∧ s36 = .int .i64 o ∧ o ≤ n ∧ n - o ≤ kx ∧ Aside0 (m = mostU (t.lines.take o) ∧ s = sizeU (t.lines.take o)) ∧ Aside0 (Below w1.heap.size w1 wr))
  case atStart => exact ⟨0, 0, 0, rfl, rfl, rfl, by omega, by omega, ⟨rfl, rfl⟩, ⟨Below.refl _ _⟩⟩
  case round =>
    obtain ⟨o, m, s, rfl, rfl, rfl, o1, o2, HMS, HW⟩ := hrel
    by_cases hlo : o < n
    · have hlo2 : (o : Int) < (n : Int) := by omega
      have zo : (0 : Int) ≤ (o : Int) := by omega
      have wo : IntKind.i64.wrap ((o : Int) + 1) = (o : Int) + 1 := by rw [i64w]; exact w64_id (by omega) (by omega)
      have hx := (HT.out.l o (by rw [← HN.out]; exact hlo))
      obtain ⟨ad, A1, c1, e1, m0, m1, l1, g1⟩ := at_T62 (Kd.C_below HWC.out HW.out) (o : Int) zo (by rw [← HN.out]; exact hlo2)
      cases e1
      rw [rd_map t.lines (by rw [← HN.out]; exact hlo)] at m0 m1 l1 g1
      rw [Int.toNat_natCast] at m0 m1
      have hms1 := mostU_succ t.lines (show o < t.lines.length by rw [← HN.out]; exact hlo)
      have hms2 := sizeU_succ t.lines (show o < t.lines.length by rw [← HN.out]; exact hlo)
      have LO := Aside0.mk (LN.out o hlo)
      obtain ⟨x, hxx⟩ : ∃ x, x = rd_T31 t.lines (o : Int) := ⟨_, rfl⟩
      rw [← hxx] at m0 m1 l1 g1 hx hms1 hms2 LO
      obtain ⟨xf, hxf⟩ : ∃ v, v = x.f0 := ⟨_, rfl⟩
      obtain ⟨tp, htp⟩ : ∃ v, v = x.f1 := ⟨_, rfl⟩
      have m0' : wr.cell? (ad.add (o * 2)) = some (.int .i64 xf) := by rw [hxf]; exact m0
      have m1' : wr.cell? ⟨(ad.add (o * 2)).block, (ad.add (o * 2)).off + 1, none⟩ = some (.slice A1 tp.length c1) := by rw [htp]; exact m1
      have g1' : Kd.C (Kd.int .i64) wr A1 tp.length tp := by rw [htp]; exact g1
      have l1' : tp.length ≤ c1 := by rw [htp]; exact l1
      rw [← hxf, ← htp] at LO
      rw [← htp] at hms1 hms2
      obtain ⟨⟨x1, x2, -, -⟩, x5⟩ := hx
      rw [← htp] at x1 x2 x5
      have HM1 := Aside0.mk (And.intro hms1 hms2)
      have G1 := Aside0.mk g1'
      have SQ := Aside0.mk (fun w' A2 c2 (h1 : Kd.C (Kd.int .i64) w' A2 tp.length tp) (h2 : tp.length ≤ c2) (h3 : Kd.C (Kd.int .i64) w' A1 tp.length tp) => smaltoref06_Same.calls (tp.length + 2) A2 c2 tp A1 c1 tp true w' h1 h2 h3 l1' (same_refl tp (by omega) (Nat.le_refl _)))
      have SS := Aside0.mk (fun w' (h3 : Kd.C (Kd.int .i64) w' A1 tp.length tp) => smaltoref06_Sizes.calls (tp.length + 3) A1 c1 tp (szFrom 0 tp) w' h3 l1' (ref06_Sizes_eq (Nat.le_refl _) (by omega) x5))
      obtain ⟨S, hS⟩ : ∃ S, S = szFrom 0 tp := ⟨_, rfl⟩
      rw [← hS] at SS
      have HS := Aside0.mk hS
      have b0 : (xf != xf) = false := by simp
      clear m0 m1 g1 l1 hxx hxf htp hms1 hms2 x5 hS g1'
      go_upto_region 7 with fail
      have hr1 := heap_alloc_new wr (.cells #[.int .i64 xf, .slice A1 tp.length c1] 62)
      have ba := below_alloc (Below.refl wr.heap.size wr) (.cells #[.int .i64 xf, .slice A1 tp.length c1] 62)
      have G7 := Aside0.mk (Kd.C_below G1.out ba)
      have B7 := Aside0.mk (below_step HW.out ba)
      obtain ⟨r1, hr1q⟩ : ∃ r, r = wr.heap.size := ⟨_, rfl⟩
      rw [← hr1q] at hr1 ⊢
      have HR1 := Aside0.mk hr1
      clear hr1 ba hr1q m0' m1' G1 HW
      generalize wr.alloc (.cells #[.int .i64 xf, .slice A1 tp.length c1] 62) = w7 at HR1 G7 B7 ⊢
      go_upto_region 8 with (go_at_call 10; refine (LO.out _ B7.out).mono ?_; rintro e w8 ⟨v8, rfl, hr8, hb8⟩; obtain ⟨A8, c8, rfl⟩ := Kd.R_slice hr8; have R8 := Aside0.mk hr8; have B8 := Aside0.mk hb8; clear hr8 hb8)
      have hr2 := heap_alloc_new w8 (.cells #[.int .i64 xf, .slice A8 tp.length c8] 31)
      have ba := below_alloc (Below.refl w8.heap.size w8) (.cells #[.int .i64 xf, .slice A8 tp.length c8] 31)
      have hr1 := ((below_step B8.out ba).block r1 (blk_lt HR1.out)).trans HR1.out
      have G8 := Aside0.mk (Kd.R_reads' (Kd.R_alloc R8.out (.cells #[.int .i64 xf, .slice A8 tp.length c8] 31)))
      have G9 := Aside0.mk (Kd.C_below G7.out (below_step B8.out ba))
      have B9 := Aside0.mk (below_step B7.out (below_step B8.out ba))
      obtain ⟨r2, hr2q⟩ : ∃ r, r = w8.heap.size := ⟨_, rfl⟩
      rw [← hr2q] at hr2 ⊢
      clear ba hr2q R8 B8 G7 B7 HR1
      generalize w8.alloc (.cells #[.int .i64 xf, .slice A8 tp.length c8] 31) = w9 at hr1 hr2 G8 G9 B9 ⊢
      have z0 : w9.cell? ⟨r1, 0, none⟩ = some (.int .i64 xf) := (blk_cell hr1 0).trans rfl
      have z1 : w9.cell? ⟨r1, 1, none⟩ = some (.slice A1 tp.length c1) := (blk_cell hr1 1).trans rfl
      have y0 : w9.cell? ⟨r2, 0, none⟩ = some (.int .i64 xf) := (blk_cell hr2 0).trans rfl
      have y1 : w9.cell? ⟨r2, 1, none⟩ = some (.slice A8 tp.length c8) := (blk_cell hr2 1).trans rfl
      clear hr1 hr2
      go_wp2_with (first
        | (go_at_call 20; refine (SQ.out w9 A8 c8 G8.out.2.2 G8.out.2.1 G9.out).mono ?_; rintro e w10 ⟨rfl, ⟨nd, rfl⟩⟩)
        | (go_at_call 33; refine (SS.out _ (Kd.C_drewN G9.out nd)).mono ?_; rintro e w11 ⟨rfl, ⟨nd2, rfl⟩⟩))
      all_goals (
        go_roundg (n - (o + 1))
        case measure => omega
        case rel =>
          refine ⟨o + 1, _, _, rfl, rfl, by simp, by omega, Nat.le_refl _, ⟨?_, ?_⟩, ⟨by repeat (first | (with_reducible first | exact B9.out | apply pw_below_drewN | apply below_drew1) | exact B9.out)⟩⟩
          · rw [HM1.out.1, ← HMS.out.1]; unfold mx
            first
              | rw [if_pos (by assumption)]
              | rw [if_neg (by omega)]
          · rw [HM1.out.2, ← HMS.out.2, ← HS.out]; unfold mx
            first
              | rw [if_pos (by assumption)]
              | rw [if_neg (by omega)])
    · have : o = n := by omega
      subst this
      have hm : m = t.most := by rw [HMS.out.1, HT.out.m, HN.out, List.take_length]
      have hs : s = t.size := by rw [HMS.out.2, HT.out.s, HN.out, List.take_length]
      subst hm hs
      have q1 : (t.most == t.most) = true := by simp
      have q2 : (t.size == t.size) = true := by simp
      clear LN
      rcases HRS.out with ⟨-, lo, hi, e1, e2, l1, l2, l3⟩ | ⟨e1, e2⟩
      · rw [e1] at RC
        have wD : wrap64 (hi - lo) = hi - lo := w64_id (by omega) (by omega)
        obtain ⟨D, hD⟩ : ∃ D, D = hi - lo := ⟨_, rfl⟩
        rw [wD, ← hD] at e2
        rw [e2] at RV
        have wD2 : IntKind.i64.wrap (hi - lo) = D := by rw [i64w, wD, hD]
        have hD0 : 0 < D := by omega
        have q3 : (lo != lo) = false := by simp
        have q4 : (D != D) = false := by simp
        clear e1 e2 wD hD HRS l1 l2 l3
        go_wp2_with (first
          | (go_at_call 34; refine (RC.out _ HW.out).mono ?_; rintro e w2 ⟨rfl, hb2⟩; have B2 := Aside0.mk (below_step HW.out hb2); clear hb2)
          | (go_at_call 11; refine (RV.out _ B2.out).mono ?_; rintro e w3 ⟨rfl, hb3⟩; have B3 := Aside0.mk (below_step B2.out hb3); clear hb3)
          | (go_at_call 10; (with_reducible refine (L1.out _ B3.out).mono ?_); rintro e w4 ⟨rfl, hb4⟩; have B4 := Aside0.mk (below_step B3.out hb4); clear hb4)
          | (go_at_call 10; (with_reducible refine (L2.out _ B4.out).mono ?_); rintro e w5 ⟨rfl, hb5⟩; have B9 := Aside0.mk (below_step B4.out hb5); clear hb5)
          | (go_at_call 16; refine (MO.out _ (by repeat (first | (with_reducible first | exact B9.out | apply below_alloc | apply pw_below_drewN | apply below_drew1) | exact B9.out))).mono ?_; rintro e w6 ⟨rfl, rfl⟩)
          | (go_at_call 17; refine (SZ.out _ (by repeat (first | (with_reducible first | exact B9.out | apply below_alloc | apply pw_below_drewN | apply below_drew1) | exact B9.out))).mono ?_; rintro e w6 ⟨rfl, rfl⟩))
        go_ret
        exact ⟨rfl, (by repeat (first | (with_reducible first | exact B9.out | apply below_alloc | apply pw_below_drewN | apply below_drew1) | exact B9.out))⟩
      · rw [e1] at RC
        rw [e2] at RV
        clear e1 e2 HRS
        go_wp2_with (first
          | (go_at_call 34; refine (RC.out _ HW.out).mono ?_; rintro e w2 ⟨rfl, hb2⟩; have B2 := Aside0.mk (below_step HW.out hb2); clear hb2)
          | (go_at_call 11; refine (RV.out _ B2.out).mono ?_; rintro e w3 ⟨rfl, hb3⟩; have B3 := Aside0.mk (below_step B2.out hb3); clear hb3)
          | (go_at_call 10; (with_reducible refine (L1.out _ B3.out).mono ?_); rintro e w4 ⟨rfl, hb4⟩; have B4 := Aside0.mk (below_step B3.out hb4); clear hb4)
          | (go_at_call 10; (with_reducible refine (L2.out _ B4.out).mono ?_); rintro e w5 ⟨rfl, hb5⟩; have B9 := Aside0.mk (below_step B4.out hb5); clear hb5)
          | (go_at_call 16; refine (MO.out _ (by repeat (first | (with_reducible first | exact B9.out | apply below_alloc | apply pw_below_drewN | apply below_drew1) | exact B9.out))).mono ?_; rintro e w6 ⟨rfl, rfl⟩)
          | (go_at_call 17; refine (SZ.out _ (by repeat (first | (with_reducible first | exact B9.out | apply below_alloc | apply pw_below_drewN | apply below_drew1) | exact B9.out))).mono ?_; rintro e w6 ⟨rfl, rfl⟩))
        go_ret
        exact ⟨rfl, (by repeat (first | (with_reducible first | exact B9.out | apply below_alloc | apply pw_below_drewN | apply below_drew1) | exact B9.out))⟩
end Go.Proofs.YthaajkpiknbdbaaDoor.QA

namespace Go.Proofs.YthaajkpiknbdbaaDoor.QA
open Go.RowKit Go.Proofs.YthaajkpiknbdbaaDoorW.PrintWords Go.Proofs.YthaajkpiknbdbaaDoorW.PrintLast Go.Proofs.YthaajkpiknbdbaaDoorW.PrintMore Go.Proofs.YthaajkpiknbdbaaDoor.T
set_option linter.unusedVariables false
set_option linter.unusedSimpArgs false
theorem rd_snoc (l : List S31) (x : S31) (j : Nat) : rd_T31 (l ++ [x]) (j : Int) = if j = l.length then x else rd_T31 l (j : Int) := by
  unfold rd_T31
  rw [Int.toNat_natCast, List.getD_eq_getElem?_getD, List.getD_eq_getElem?_getD]
  by_cases h : j < l.length
  · rw [List.getElem?_append_left h, if_neg (by omega)]
  · rw [List.getElem?_append_right (by omega)]
    by_cases e : j = l.length
    · subst e; simp
    · rw [if_neg e, List.getElem?_eq_none (by simp; omega), List.getElem?_eq_none (by omega)]
theorem resTab_rd (f n m : Int) : ∀ (i j : Nat), j < i → rd_T31 (resTab f n m i).lines (j : Int) = ⟨winLo f n m j, appL (rowV f n m j)⟩
  | 0, j, h => by omega
  | i + 1, j, h => by
    show rd_T31 ((resTab f n m i).lines ++ [_]) (j : Int) = _
    rw [rd_snoc, resTab_len]
    by_cases e : j = i
    · rw [if_pos e, e]
    · rw [if_neg e]; exact resTab_rd f n m i j (by omega)
theorem filTab_rd (n h : Int) (l : List Int) : ∀ (i j : Nat), j < i → rd_T31 (filTab n h l i).lines (j : Int) = ⟨(j : Int) - h, l⟩
  | 0, j, h => by omega
  | i + 1, j, hj => by
    show rd_T31 ((filTab n h l i).lines ++ [_]) (j : Int) = _
    rw [rd_snoc, filTab_len]
    by_cases e : j = i
    · rw [if_pos e, e]
    · rw [if_neg e]; exact filTab_rd n h l i j (by omega)
theorem filTab_most (n h : Int) (l : List Int) : ∀ i, 1 ≤ i → (filTab n h l i).most = l.length
  | 1, _ => by
    show mx 0 (l.length : Int) = _
    unfold mx; split <;> omega
  | i + 2, _ => by
    show mx (filTab n h l (i + 1)).most (l.length : Int) = _
    rw [filTab_most n h l (i + 1) (by omega)]; unfold mx; split <;> omega
theorem resCode_zero (f n m : Int) : ∀ (d i : Nat), (∀ j : Nat, i ≤ j → j < i + d → chkV (rowV f n m j) = 0) → resCode f n m i d = 0
  | 0, i, h => rfl
  | d + 1, i, h => by
    rw [resCode, if_pos (h i (Nat.le_refl _) (by omega))]
    exact resCode_zero f n m d (i + 1) (fun j h1 h2 => h j (by omega) (by omega))
theorem box_row {n : Int} (hn : 1 ≤ n) (i : Int) : winLo 0 n n i = i ∧ rowV 0 n n i = [1073741824] := by
  have e1 : winLo 0 n n i = i := by unfold winLo; rw [if_pos rfl, Int.mul_ediv_cancel _ (by omega)]
  have e2 : winHi 0 n n i = i + 1 := by
    unfold winHi cei; rw [if_pos rfl]
    have : -(i * n + n) = (-(i + 1)) * n := by rw [Int.neg_mul, Int.add_mul, Int.one_mul]
    rw [this, Int.mul_ediv_cancel _ (by omega)]; omega
  refine ⟨e1, ?_⟩
  unfold rowV
  rw [e1, e2, show (i + 1 - i).toNat = 1 by omega]
  show [wV 0 n n i (i + ((0 : Nat) : Int))] = _
  congr 1
  unfold wV partR
  rw [if_pos rfl]
  have e3 : mn (i * n + n) ((i + ((0 : Nat) : Int)) * n + n) - mx (i * n) ((i + ((0 : Nat) : Int)) * n) = n := by
    rw [show i + ((0 : Nat) : Int) = i by omega]; unfold mn mx; rw [if_neg (by omega), if_neg (by omega)]; omega
  rw [e3]
  unfold rdiv
  rw [if_pos (by omega)]
  have : 2 * (n * 1073741824) + n = (2 * n) * 1073741824 + n := by rw [Int.mul_assoc]
  rw [this, Int.add_comm, Int.add_mul_ediv_left _ _ (by omega), Int.ediv_eq_zero_of_lt (by omega) (by omega)]
  decide
theorem rdiv_self {c d : Int} (hd : 0 < d) : rdiv (c * d) d = c := by
  unfold rdiv
  rw [if_pos hd]
  have : 2 * (c * d) + d = d + (2 * d) * c := by rw [Int.mul_assoc, Int.mul_comm d c]; omega
  rw [this, Int.add_mul_ediv_left _ _ (by omega), Int.ediv_eq_zero_of_lt (by omega) (by omega)]; omega
theorem cubic_row {n : Int} (hn : 1 ≤ n) (hn2 : n ≤ 65536) (i : Int) : winLo 1 n n i = i - 1 ∧ rowV 1 n n i = [0, 1073741824, 0] := by
  have hr : reachR 1 n n = 4 * n := by unfold reachR mx; rw [if_pos rfl]; split <;> rfl
  have e1 : winLo 1 n n i = i - 1 := by
    unfold winLo; rw [if_neg (by decide), hr]
    have : 2 * (i * n) + n - n - 4 * n = (i - 2) * (2 * n) := by rw [Int.sub_mul, Int.mul_left_comm]; omega
    rw [this, Int.mul_ediv_cancel _ (by omega)]; omega
  have e2 : winHi 1 n n i = i + 2 := by
    unfold winHi cei; rw [if_neg (by decide), hr]
    have : -(2 * (i * n) + n - n + 4 * n) = (-(i + 2)) * (2 * n) := by rw [Int.neg_mul, Int.add_mul, Int.mul_left_comm]; omega
    rw [this, Int.mul_ediv_cancel _ (by omega)]; omega
  refine ⟨e1, ?_⟩
  unfold rowV
  rw [e1, e2, show (i + 2 - (i - 1)).toNat = 3 by omega]
  show [wV 1 n n i (i - 1 + ((0 : Nat) : Int)), wV 1 n n i (i - 1 + ((1 : Nat) : Int)), wV 1 n n i (i - 1 + ((2 : Nat) : Int))] = _
  have hm : mx n n = n := by unfold mx; split <;> rfl
  obtain ⟨q, hq⟩ : ∃ q, q = 2 * n := ⟨_, rfl⟩
  have hq1 : 0 < q * q * q := Int.mul_pos (Int.mul_pos (by omega) (by omega)) (by omega)
  have k1 : keyV (2 * n) (2 * n) = 0 := by
    rw [← hq]; unfold keyV
    rw [if_pos (by omega), show siz q = q by unfold siz; rw [if_neg (by omega)], if_pos (Int.le_refl _)]
    rw [show -(q * q * q) + 5 * (q * q * q) - 8 * (q * q * q) + 4 * (q * q * q) = 0 by omega]
    rw [show (0 : Int) * 1073741824 = 0 * (2 * (q * q * q)) by omega, rdiv_self (by omega)]; decide
  have k0 : keyV 0 (2 * n) = 1073741824 := by
    rw [← hq]; unfold keyV
    rw [if_pos (by omega), show siz 0 = 0 from rfl, if_neg (by omega)]
    rw [show 3 * ((0 : Int) * 0 * 0) - 5 * (0 * 0 * q) + 2 * (q * q * q) = 2 * (q * q * q) by rw [Int.zero_mul, Int.zero_mul]; omega]
    rw [show 2 * (q * q * q) * 1073741824 = 1073741824 * (2 * (q * q * q)) from Int.mul_comm _ _, rdiv_self (by omega)]; decide
  have f0 : wV 1 n n i (i - 1 + ((0 : Nat) : Int)) = 0 := by
    unfold wV; rw [if_neg (by decide), if_pos rfl, hm]
    have : fracR n n i (i - 1 + ((0 : Nat) : Int)) = -(2 * n) := by
      unfold fracR; rw [show i - 1 + ((0 : Nat) : Int) = i - 1 by omega, Int.mul_sub, Int.mul_one, Int.mul_comm n i]; omega
    rw [this, keyV_neg]; exact k1
  have f1 : wV 1 n n i (i - 1 + ((1 : Nat) : Int)) = 1073741824 := by
    unfold wV; rw [if_neg (by decide), if_pos rfl, hm]
    have : fracR n n i (i - 1 + ((1 : Nat) : Int)) = 0 := by
      unfold fracR; rw [show i - 1 + ((1 : Nat) : Int) = i by omega, Int.mul_comm n i]; omega
    rw [this]; exact k0
  have f2 : wV 1 n n i (i - 1 + ((2 : Nat) : Int)) = 0 := by
    unfold wV; rw [if_neg (by decide), if_pos rfl, hm]
    have : fracR n n i (i - 1 + ((2 : Nat) : Int)) = 2 * n := by
      unfold fracR; rw [show i - 1 + ((2 : Nat) : Int) = i + 1 by omega, Int.mul_add, Int.mul_one, Int.mul_comm n i]; omega
    rw [this]; exact k1
  rw [f0, f1, f2]
theorem box_same {N : Nat} (h : 1 ≤ N) : resCode 0 N N 0 N = 0 ∧ ∀ j : Nat, j < N → rd_T31 (resTab 0 N N N).lines (j : Int) = ⟨(j : Int), [16384]⟩ := by
  have hc : chkV [1073741824] = 0 := by kernel_rfl
  refine ⟨resCode_zero _ _ _ _ _ (fun j _ _ => by rw [(box_row (by omega) _).2]; exact hc), fun j hj => ?_⟩
  rw [resTab_rd _ _ _ _ _ hj, (box_row (by omega) _).1, (box_row (by omega) _).2]
  have : appL [1073741824] = [16384] := by kernel_rfl
  rw [this]
theorem cubic_same {N : Nat} (h : 1 ≤ N) (h2 : N ≤ 65536) : resCode 1 N N 0 N = 0 ∧ ∀ j : Nat, j < N → rd_T31 (resTab 1 N N N).lines (j : Int) = ⟨(j : Int) - 1, [0, 16384, 0]⟩ := by
  have hc : chkV [0, 1073741824, 0] = 0 := by kernel_rfl
  refine ⟨resCode_zero _ _ _ _ _ (fun j _ _ => by rw [(cubic_row (by omega) (by omega) _).2]; exact hc), fun j hj => ?_⟩
  rw [resTab_rd _ _ _ _ _ hj, (cubic_row (by omega) (by omega) _).1, (cubic_row (by omega) (by omega) _).2]
  have : appL [0, 1073741824, 0] = [0, 16384, 0] := by kernel_rfl
  rw [this]
theorem ref08_side_eq (n : Int) : smaltoref08_side.f n = some (decide (1 ≤ n ∧ n ≤ 65536)) := by
  unfold smaltoref08_side.f
  by_cases h : n ≥ 1
  · rw [if_pos h]; congr 1; by_cases c : n ≤ 65536
    · rw [decide_eq_true c, decide_eq_true ⟨h, c⟩]
    · rw [decide_eq_false c, decide_eq_false (fun q => c q.2)]
  · rw [if_neg h]; congr 1; rw [decide_eq_false (fun q => h q.1)]
theorem resTab_n (f n m : Int) : ∀ i, (resTab f n m i).n = n
  | 0 => rfl
  | i + 1 => resTab_n f n m i
theorem ref08_Resize_l0 {f n : Int} {M : Nat} (h : okR f n M) : ∀ (d i : Nat), i + d = M → ∃ K, ∀ k, K ≤ k → smaltoref08_Resize.l0 k f n M ((resTab f n M i).lines.map toR) M i = some (if resCode f n M i d = 0 then ((resTab f n M M).lines.map toR, 0) else ([], resCode f n M i d))
  | 0, i, hi => by
    have : i = M := by omega
    subst this
    refine ⟨1, fun k hk => ?_⟩
    obtain ⟨k, rfl⟩ : ∃ m, k = m + 1 := ⟨k - 1, by omega⟩
    rw [smaltoref08_Resize.l0, if_neg (by omega), resCode, if_pos rfl]
  | d + 1, i, hi => by
    obtain ⟨h1, h2, h3, h4, h5, h6⟩ := h
    obtain ⟨K1, ih⟩ := ref08_Resize_l0 ⟨h1, h2, h3, h4, h5, h6⟩ d (i + 1) (by omega)
    have hm : mayR f n M i := ⟨h1, h2, h3, h4, by omega, by omega, by omega, by omega⟩
    have hb := win_bnd hm
    obtain ⟨K2, ha⟩ := ref06_Apportion_eq (rowV_i64 f n M i) (by rw [rowV_len]; omega)
    obtain ⟨K3, hK3⟩ : ∃ K3, K3 = 2 * (winHi f n M i - winLo f n M i).toNat + 60201 := ⟨_, rfl⟩
    refine ⟨K1 + K2 + K3 + 1, fun k hk => ?_⟩
    obtain ⟨k, rfl⟩ : ∃ m, k = m + 1 := ⟨k - 1, by omega⟩
    rw [smaltoref08_Resize.l0, if_pos (by omega), ref05_Row_may hm (show 2 * (winHi f n M i - winLo f n M i).toNat + 60201 ≤ k by rw [← hK3]; omega), Option.bind_some, ha k (by omega), Option.bind_some, resCode]
    by_cases hc : chkV (rowV f n M i) = 0
    · rw [if_pos hc, if_pos hc, if_pos rfl, if_pos (by rw [List.length_map, resTab_len]; omega), show wrap64 ((i : Int) + 1) = ((i + 1 : Nat) : Int) by rw [w64_id (by omega) (by omega)]; omega]
      have e : (resTab f n M i).lines.map toR ++ [(⟨winLo f n M i, appL (rowV f n M i)⟩ : S62)] = (resTab f n M (i + 1)).lines.map toR := by
        show _ = ((resTab f n M i).lines ++ [_]).map toR
        rw [List.map_append]; rfl
      rw [e]
      exact ih k (by omega)
    · rw [if_neg hc, if_neg hc, if_neg hc, if_neg hc]
theorem ref08_Resize_eq {f n : Int} {M : Nat} (h : okR f n M) : ∃ K, smaltoref08_Resize.f K f n M = some (if resCode f n M 0 M = 0 then ((resTab f n M M).lines.map toR, 0) else ([], resCode f n M 0 M)) := by
  obtain ⟨K, hK⟩ := ref08_Resize_l0 h M 0 (by omega)
  obtain ⟨h1, h2, h3, h4, h5, h6⟩ := h
  refine ⟨K + 1, ?_⟩
  unfold smaltoref08_Resize.f
  rw [if_neg (by omega), if_neg (by omega), ref08_side_eq, decide_eq_true ⟨h3, h4⟩, Option.bind_some, if_pos rfl, ref08_side_eq, decide_eq_true ⟨h5, h6⟩, Option.bind_some, smaltoref08_Resize.j0, if_neg (by decide)]
  exact hK K (Nat.le_refl _)
theorem ref08_Resize_bad {f n m : Int} (h : ¬ okR f n m) : smaltoref08_Resize.f 1 f n m = some ([], 6) := by
  unfold smaltoref08_Resize.f
  by_cases c1 : f < 0
  · rw [if_pos c1, smaltoref08_Resize.j0, if_pos rfl]
  · rw [if_neg c1]
    by_cases c2 : f > 2
    · rw [if_pos c2, smaltoref08_Resize.j0, if_pos rfl]
    · rw [if_neg c2, ref08_side_eq, Option.bind_some]
      by_cases c3 : 1 ≤ n ∧ n ≤ 65536
      · rw [decide_eq_true c3, if_pos rfl, ref08_side_eq, Option.bind_some]
        have c4 : ¬ (1 ≤ m ∧ m ≤ 65536) := fun q => h ⟨by omega, by omega, c3.1, c3.2, q.1, q.2⟩
        rw [decide_eq_false c4, smaltoref08_Resize.j0]; rfl
      · rw [decide_eq_false c3, if_neg (by decide), smaltoref08_Resize.j0, if_pos rfl]
theorem told_res {f n : Int} {M : Nat} (h : okR f n M) (hc : resCode f n M 0 M = 0) : Told (resTab f n M M) := by
  obtain ⟨h1, h2, h3, h4, h5, h6⟩ := h
  have hz : ∀ (d i : Nat), resCode f n M i d = 0 → ∀ j : Nat, i ≤ j → j < i + d → chkV (rowV f n M j) = 0 := by
    intro d
    induction d with
    | zero => intro i _ j h1 h2; omega
    | succ d ih =>
      intro i h j h1 h2
      rw [resCode] at h
      by_cases c : chkV (rowV f n M i) = 0
      · rw [if_pos c] at h
        by_cases e : j = i
        · rw [e]; exact c
        · exact ih (i + 1) h j (by omega) (by omega)
      · rw [if_neg c] at h; exact absurd h c
  have hk := hz M 0 hc
  have hms : ∀ i, (resTab f n M i).most = mostU (resTab f n M i).lines ∧ (resTab f n M i).size = sizeU (resTab f n M i).lines := by
    intro i
    induction i with
    | zero => exact ⟨rfl, rfl⟩
    | succ i ih =>
      refine ⟨?_, ?_⟩
      · show mx (resTab f n M i).most _ = mostU ((resTab f n M i).lines ++ [_])
        rw [ih.1]; unfold mostU; rw [List.foldl_append]; rfl
      · show mx (resTab f n M i).size _ = sizeU ((resTab f n M i).lines ++ [_])
        rw [ih.2]; unfold sizeU; rw [List.foldl_append]; rfl
  refine ⟨(hms M).1, (hms M).2, by rw [resTab_len]; omega, fun o ho => ?_⟩
  rw [resTab_len] at ho
  rw [resTab_rd f n M M o ho]
  have hm : mayR f n M o := ⟨h1, h2, h3, h4, by omega, by omega, by omega, by omega⟩
  have hb := win_bnd hm
  have hko := hk o (by omega) (by omega)
  have hl := appL_bnd (rowV_i64 f n M o) hko
  have hg := good_of_chk (fun i => rd_i64 (rowV_i64 f n M o) _) hko
  refine ⟨⟨?_, ?_, ?_, ?_⟩, appL_i64 (rowV_i64 f n M o) hko⟩
  · show 1 ≤ (appL (rowV f n M o)).length
    rw [appL_len2]; exact hg.n0
  · show (appL (rowV f n M o)).length ≤ 2097152
    rw [appL_len2]; have := hl.1; omega
  · show -1099511627776 ≤ winLo f n M o
    omega
  · show winLo f n M o ≤ 1099511627776
    omega
set_option maxHeartbeats 8000000 in
set_option maxRecDepth 100000 in
theorem resize_bad (f n m : Int) (w : World) (hG : GL w) (h : ¬ okR f n m) : Calls Tryd.prog 9 #[.int .i64 f, .int .i64 n, .int .i64 m] w fun e w' => e = .returned (.tuple #[.pointer none, .int .i64 6]) ∧ Below w.heap.size w w' := by
  have HG := Aside0.mk hG
  by_cases hf : 0 ≤ f ∧ f < 3
  · obtain ⟨nm, hn1, hn3⟩ : ∃ s, raw_Name.f f = some s ∧ s.toList.isEmpty = false := by
      have : f = 0 ∨ f = 1 ∨ f = 2 := by omega
      rcases this with rfl | rfl | rfl
      · exact ⟨_, rfl, by kernel_rfl⟩
      · exact ⟨_, rfl, by kernel_rfl⟩
      · exact ⟨_, rfl, by kernel_rfl⟩
    have hn2 : ¬ nm.toList = [] := fun h => by rw [h] at hn3; exact absurd hn3 (by decide)
    by_cases hs : 1 ≤ n ∧ n ≤ 65536
    · have hs1 : table_side.f n = some true := by rw [table_side_eq, decide_eq_true hs]
      have hs2 : table_side.f m = some false := by rw [table_side_eq, decide_eq_false (fun q => h ⟨hf.1, hf.2, hs.1, hs.2, q.1, q.2⟩)]
      clear h hf hs hG
      go_enter Tryd.func9, Tryd.ntmps9
      go_wp2_with (first | (go_at_call 24; (with_reducible refine (raw_Name.calls f nm _ HG.out hn1).mono ?_); rintro e w' ⟨rfl, ⟨nd, rfl⟩⟩) | (go_at_call 25; (with_reducible refine (table_side.calls n true _ hs1).mono ?_); rintro e w' ⟨rfl, ⟨nd1, rfl⟩⟩) | (go_at_call 25; (with_reducible refine (table_side.calls m false _ hs2).mono ?_); rintro e w' ⟨rfl, ⟨nd2, rfl⟩⟩))
      go_ret2
      exact ⟨rfl, by repeat (first | (with_reducible first | exact Below.refl _ _ | apply pw_below_drewN | apply below_drew1) | exact Below.refl _ _)⟩
    · have hs1 : table_side.f n = some false := by rw [table_side_eq, decide_eq_false hs]
      clear h hf hs hG
      go_enter Tryd.func9, Tryd.ntmps9
      go_wp2_with (first | (go_at_call 24; (with_reducible refine (raw_Name.calls f nm _ HG.out hn1).mono ?_); rintro e w' ⟨rfl, ⟨nd, rfl⟩⟩) | (go_at_call 25; (with_reducible refine (table_side.calls n false _ hs1).mono ?_); rintro e w' ⟨rfl, ⟨nd1, rfl⟩⟩))
      go_ret2
      exact ⟨rfl, by repeat (first | (with_reducible first | exact Below.refl _ _ | apply pw_below_drewN | apply below_drew1) | exact Below.refl _ _)⟩
  · have hn1 : raw_Name.f f = some (⟨#[]⟩ : ByteArray) := by
      unfold raw_Name.f raw_Name_gen.f
      rw [if_neg (by omega), if_neg (by omega), if_neg (by omega)]
      by_cases c : f < 0
      · rw [if_pos c]
      · rw [if_neg c, if_pos (by omega)]
    clear h hf hG
    go_enter Tryd.func9, Tryd.ntmps9
    go_wp2_with (go_at_call 24; (with_reducible refine (raw_Name.calls f _ _ HG.out hn1).mono ?_); rintro e w' ⟨rfl, ⟨nd, rfl⟩⟩)
    go_ret2
    exact ⟨rfl, by repeat (first | (with_reducible first | exact Below.refl _ _ | apply pw_below_drewN | apply below_drew1) | exact Below.refl _ _)⟩
end Go.Proofs.YthaajkpiknbdbaaDoor.QA

namespace Go.Proofs.YthaajkpiknbdbaaDoor.QA
open Go.RowKit Go.Proofs.YthaajkpiknbdbaaDoorW.PrintWords Go.Proofs.YthaajkpiknbdbaaDoorW.PrintLast Go.Proofs.YthaajkpiknbdbaaDoorW.PrintMore Go.Proofs.YthaajkpiknbdbaaDoor.T
set_option linter.unusedVariables false
set_option linter.unusedSimpArgs false
/-- What the document's Filter answers. -/
def RefP (xs : List S62) (N : Nat) (c : Int) (w : World) (e : Ending) (w' : World) : Prop := Below w.heap.size w w' ∧ if c = 0 then ∃ A cc, e = .returned (.tuple #[.slice A N cc, .int .i64 0]) ∧ N ≤ cc ∧ Kd.C k62 w' A N xs else e = .returned (.tuple #[.slice none 0 0, .int .i64 c])
set_option maxHeartbeats 8000000 in
set_option maxRecDepth 100000 in
theorem refFilter_bad (A0 : Option Addr) (c0 : Nat) (l : List Int) (n : Int) (w : World) (h : ¬ (1 ≤ n ∧ n ≤ 65536)) :
    Calls Tryd.prog 19 #[.slice A0 l.length c0, .int .i64 n] w fun e w' => Below w.heap.size w w' ∧ e = .returned (.tuple #[.slice none 0 0, .int .i64 6]) := by
  have hs1 : smaltoref08_side.f n = some false := by rw [ref08_side_eq, decide_eq_false h]
  go_enter Tryd.func19, Tryd.ntmps19
  go_wp2_with (go_at_call 30; refine (smaltoref08_side.calls n false _ hs1).mono ?_; rintro e w' ⟨rfl, ⟨nd, rfl⟩⟩)
  go_ret2
  exact ⟨pw_below_drewN (Below.refl _ _) _, rfl⟩
theorem infoR : (Tryd.prog.info? 62).map (fun i => (i.zero, i.size, i.bytes)) = some (some (.agg #[(.int .i64 0), (.slice none 0 0)]), 2, 32) := by kernel_rfl
set_option maxHeartbeats 8000000 in
set_option maxRecDepth 100000 in
theorem refFilter_calls (A0 : Option Addr) (c0 : Nat) (l : List Int) (N : Nat) (w : World) (hr0 : Kd.C (Kd.int .i64) w A0 l.length l) (hc0 : l.length ≤ c0) (hx : ∀ x ∈ l, I64 x) (hl : l.length < 4611686018427387904) (h1 : 1 ≤ N) (h2 : N ≤ 65536) :
    Calls Tryd.prog 19 #[.slice A0 l.length c0, .int .i64 N] w (RefP ((filTab N ((l.length / 2 : Nat) : Int) (appL l) N).lines.map toR) N (filCode l N) w) := by
  have hs1 : smaltoref08_side.f N = some true := by rw [ref08_side_eq, decide_eq_true ⟨by omega, by omega⟩]
  have hfc : filCode l N = if l.length % 2 = 0 then 7 else chkV l := by unfold filCode; rw [if_pos ⟨by omega, by omega⟩]
  rw [hfc]
  clear hfc
  obtain ⟨K, hK⟩ := ref06_Apportion_eq hx hl
  have happ := hK K (Nat.le_refl _)
  clear hK
  obtain ⟨L, hL⟩ : ∃ L, L = l.length := ⟨_, rfl⟩
  have HR0 := Aside0.mk hr0
  have HX := Aside0.mk hx
  have mixed : Tryd.prog.follows .mixedOrders = true := by kernel_rfl
  have hdv : Int.tdiv (L : Int) 2 = ((L / 2 : Nat) : Int) := rfl
  have HDV := Aside0.mk hdv
  clear hr0 hx hdv
  by_cases hev : L % 2 = 0
  · rw [← hL]
    rw [if_pos hev]
    have hrm : Int.tmod (L : Int) 2 = 0 := by show ((L % 2 : Nat) : Int) = 0; rw [hev]; rfl
    have HL := Aside0.mk hL
    clear hL hev happ
    go_enter Tryd.func19, Tryd.ntmps19
    go_wp2_with (go_at_call 30; refine (smaltoref08_side.calls N true _ hs1).mono ?_; rintro e w' ⟨rfl, ⟨nd, rfl⟩⟩)
    go_ret2
    refine ⟨pw_below_drewN (Below.refl _ _) _, ?_⟩
    rw [if_neg (by decide)]; rfl
  · rw [← hL, if_neg hev]
    have hrm : Int.tmod (L : Int) 2 = 1 := by show ((L % 2 : Nat) : Int) = 1; rw [show L % 2 = 1 by omega]; rfl
    have HLL := Aside0.mk hL
    by_cases hc : chkV l = 0
    · rw [if_pos hc] at happ
      rw [hc]
      obtain ⟨tp, htp⟩ : ∃ v, v = appL l := ⟨_, rfl⟩
      have hL9 : L ≤ 1048576 := by rw [hL]; exact (appL_bnd HX.out hc).1
      rw [← htp] at happ ⊢
      have HAPC := Aside0.mk (show ∀ w', Below w.heap.size w w' → Calls Tryd.prog 32 #[.slice A0 L c0] w' (fun e w'' => ∃ v0_ : Value, e = .returned (.tuple #[v0_, .int .i64 0]) ∧ Kd.R (Kd.int .i64) 2 w'' w'.heap.size (fun _ => True) v0_ tp ∧ Below w'.heap.size w' w'') by intro w' hb; rw [hL]; exact smaltoref06_Apportion.calls K A0 c0 l tp 0 w' (Kd.C_below HR0.out hb) hc0 happ)
      have HTP := Aside0.mk htp
      clear htp hev happ hc hL
      go_enter Tryd.func19, Tryd.ntmps19
      go_upto_region 9 with (first | (go_at_call 30; refine (smaltoref08_side.calls N true _ hs1).mono ?_; rintro e w' ⟨rfl, ⟨nd, rfl⟩⟩) | (go_at_call 32; refine (HAPC.out _ (pw_below_drewN (Below.refl _ _) _)).mono ?_; rintro e w2 ⟨v2, rfl, hr2, hb2⟩; obtain ⟨A2, c2, rfl⟩ := Kd.R_slice hr2; have HR2 := Aside0.mk (Kd.R_lower hr2 (show w.heap.size ≤ _ from Nat.le_refl _)); have HB2 := Aside0.mk (below_step (pw_below_drewN (Below.refl _ _) _) hb2); clear hr2 hb2))
      go_wp2
      go_loopg [8, 26] N (fun kx s8 s26 wr => ∃ (i : Nat), s26 = .int .i64 i ∧ i ≤ N ∧ N - i ≤ kx ∧ Aside0 (Kd.R k62 62 wr w.heap.size (fun _ => True) s8 ((filTab N ((L / 2 : Nat) : Int) tp i).lines.map toR)) ∧ Aside0 (Below w.heap.size w wr) ∧ Aside0 (Kd.R (Kd.int .i64) 2 wr w.heap.size (fun _ => True) (.slice A2 tp.length c2) tp))
      case atStart => exact ⟨0, rfl, by omega, by omega, ⟨Kd.R_nil _ _ _ _ _⟩, HB2, HR2⟩
      case round =>
        obtain ⟨i, rfl, i1, i2, HO, HB, HR⟩ := hrel
        have wi : IntKind.i64.wrap ((i : Int) + 1) = (i : Int) + 1 := by rw [i64w]; exact w64_id (by omega) (by omega)
        have wd : IntKind.i64.wrap ((i : Int) - ((L / 2 : Nat) : Int)) = (i : Int) - ((L / 2 : Nat) : Int) := by rw [i64w]; exact w64_id (by omega) (by omega)
        by_cases hlt : (i : Int) < (N : Int)
        · have hq := HDV.out
          obtain ⟨A8, c8, hs8⟩ := Kd.R_slice HO.out
          subst hs8
          have hlen : ((filTab N ((L / 2 : Nat) : Int) tp i).lines.map toR).length = i := by rw [List.length_map, filTab_len]
          have HLN := Aside0.mk hlen
          obtain ⟨xs, hxs⟩ : ∃ xs, xs = (filTab N ((L / 2 : Nat) : Int) tp i).lines.map toR := ⟨_, rfl⟩
          rw [← hxs] at HO HLN ⊢
          have HXS := Aside0.mk hxs
          clear hxs hlen
          go_wp2_with (at_builtin; refine Kd.R_append k62 (w0 := w) w.heap.size rfl (.tmp 29) (.tmp 37) 36 62 (.agg #[(.int .i64 0), (.slice none 0 0)]) 32 rfl Tryd.underlying36 infoR rfl (by decide) (by omega) (.slice A8 xs.length c8) xs (⟨(i : Int) - ((L / 2 : Nat) : Int), tp⟩ : S62) [.int .i64 ((i : Int) - ((L / 2 : Nat) : Int)), .slice A2 tp.length c2] (fun _ => True) (fun k => some k ≠ (Value.slice A8 xs.length c8).ownBlock) rfl rfl ?aP (fun k hk => ⟨trivial, hk⟩) (fun _ _ => trivial) HO.out HB.out HB.out.size ?aL ?_; (case aP => exact k62_mkM _ _ _ (⟨(i : Int) - ((L / 2 : Nat) : Int), tp⟩ : S62) (Kd.R_mono (Kd.R_apartR HR.out HO.out (by decide)) (fun k hk => hk.2))); (case aL => rw [HLN.out]; omega); intro v1 w1 ho hb1 hg hat; have HO1 := Aside0.mk ho; have HB1 := Aside0.mk hb1; have HR1 := Aside0.mk (Kd.R_over HR.out HO.out (by decide) hg); clear ho hb1 hg hat)
          go_roundg (N - (i + 1))
          case measure => omega
          case rel =>
            refine ⟨i + 1, by simp, by omega, Nat.le_refl _, ⟨?_⟩, HB1, HR1⟩
            have e : (filTab N ((L / 2 : Nat) : Int) tp (i + 1)).lines.map toR = xs ++ [(⟨(i : Int) - ((L / 2 : Nat) : Int), tp⟩ : S62)] := by
              rw [HXS.out]
              show ((filTab N ((L / 2 : Nat) : Int) tp i).lines ++ [_]).map toR = _
              rw [List.map_append]; rfl
            rw [e]; exact HO1.out
        · have him : i = N := by omega
          subst him
          obtain ⟨A8, c8, hs8, l8, g8⟩ := Kd.R_reads HO.out
          subst hs8
          rw [List.length_map, filTab_len] at l8 g8 ⊢
          have G8 := Aside0.mk g8
          clear g8
          go_wp2
          go_ret2
          refine ⟨HB.out, ?_⟩
          rw [if_pos rfl]
          exact ⟨A8, c8, rfl, l8, G8.out⟩
    · rw [if_neg hc] at happ
      obtain ⟨cv, hcv⟩ : ∃ v, v = chkV l := ⟨_, rfl⟩
      rw [← hcv] at happ hc ⊢
      have bk : (cv == 0) = false := by simpa using hc
      have bk2 : (cv != 0) = true := by simpa using hc
      have HAPC := Aside0.mk (show ∀ w', Below w.heap.size w w' → Calls Tryd.prog 32 #[.slice A0 L c0] w' (fun e w'' => ∃ v0_ : Value, e = .returned (.tuple #[v0_, .int .i64 cv]) ∧ Kd.R (Kd.int .i64) 2 w'' w'.heap.size (fun _ => True) v0_ [] ∧ Below w'.heap.size w' w'') by intro w' hb; rw [hL]; exact smaltoref06_Apportion.calls K A0 c0 l [] cv w' (Kd.C_below HR0.out hb) hc0 happ)
      clear hcv hev happ hL
      go_enter Tryd.func19, Tryd.ntmps19
      go_wp2_with (first | (go_at_call 30; refine (smaltoref08_side.calls N true _ hs1).mono ?_; rintro e w' ⟨rfl, ⟨nd, rfl⟩⟩) | (go_at_call 32; refine (HAPC.out _ (pw_below_drewN (Below.refl _ _) _)).mono ?_; rintro e w2 ⟨v2, rfl, hr2, hb2⟩; have HB2 := Aside0.mk (below_step (pw_below_drewN (Below.refl _ _) _) hb2); clear hr2 hb2))
      go_ret2
      refine ⟨HB2.out, ?_⟩
      rw [if_neg hc]
      rfl
end Go.Proofs.YthaajkpiknbdbaaDoor.QA
