/- What the weights of any output sample come to: at least a quarter, and what is below nought is less than thrice that; by it all taps are few together. -/
import Derived.Test.YthaajkpiknbdbaaDoorQAx0
import Derived.Test.YthaajkpiknbdbaaDoorQAx1
import Derived.Test.YthaajkpiknbdbaaDoorQAx8
import Derived.Test.YthaajkpiknbdbaaDoorQAx11
import Derived.Test.YthaajkpiknbdbaaDoorQAx12
import Derived.Test.YthaajkpiknbdbaaDoorQAx13
import Derived.Test.YthaajkpiknbdbaaDoorQAx14
import Derived.Handy
import Derived.Lib.SliceRun
import Derived.Test.YthaajkpiknbdbaaDoorTCore
import Derived.Test.YthaajkpiknbdbaaDoorTExt
import Derived.Test.YthaajkpiknbdbaaDoorH06e
import Derived.Test.YthaajkpiknbdbaaDoorTG
namespace Go.Proofs.YthaajkpiknbdbaaDoor.QA
open Go.RowKit Go.Proofs.YthaajkpiknbdbaaDoorW.PrintWords Go.Proofs.YthaajkpiknbdbaaDoorW.PrintLast Go.Proofs.YthaajkpiknbdbaaDoorW.PrintMore Go.Proofs.YthaajkpiknbdbaaDoor.T
set_option linter.unusedVariables false
set_option linter.unusedSimpArgs false

theorem lives05 {k : Nat} (hk : 400 ≤ k) : smaltolaw05_Lives.f k = some true :=
  at_rounds (fun k => smaltolaw05_Lives.mono k) hk (show smaltolaw05_Lives.f 400 = some true by decide +kernel)

theorem lives06 {k : Nat} (hk : 400 ≤ k) : smaltolaw06_Lives.f k = some true :=
  at_rounds (fun k => smaltolaw06_Lives.mono k) hk (show smaltolaw06_Lives.f 400 = some true by decide +kernel)

/-- A table: of how many, its lines, the most taps, the greatest. -/
structure Tab where
  n : Int
  lines : List S31
  most : Int
  size : Int
def Tab.add (t : Tab) (first : Int) (l : List Int) : Tab := ⟨t.n, t.lines ++ [(⟨first, l⟩ : S31)], mx t.most (l.length : Int), mx t.size (szFrom 0 l)⟩
/-- A table that is being made, of the call's own. -/
def TabO (w : World) (base b : Nat) (t : Tab) : Prop := base ≤ b ∧ ∃ v, w.heap[b]? = some (.cells #[.int .i64 t.n, v, .int .i64 t.most, .int .i64 t.size] 52 (0, 0)) ∧ k31.R 31 w base (fun k => k ≠ b) v t.lines
/-- A table that is read. -/
def TabC (w : World) (b : Nat) (t : Tab) : Prop := ∃ A c, w.heap[b]? = some (.cells #[.int .i64 t.n, .slice A t.lines.length c, .int .i64 t.most, .int .i64 t.size] 52 (0, 0)) ∧ t.lines.length ≤ c ∧ Kd.C k31 w A t.lines.length t.lines
theorem TabC.below {w w' : World} {b : Nat} {t : Tab} (h : TabC w b t) (hb : Below w.heap.size w w') : TabC w' b t := by
  obtain ⟨A, c, h1, h2, h3⟩ := h
  exact ⟨A, c, (hb.block b (blk_lt h1)).trans h1, h2, Kd.C_below h3 hb⟩
theorem TabO.below {w w' : World} {base b : Nat} {t : Tab} (h : TabO w base b t) (hb : Below w.heap.size w w') : TabO w' base b t := by
  obtain ⟨h0, v, h1, h2⟩ := h
  exact ⟨h0, v, (hb.block b (blk_lt h1)).trans h1, Kd.R_below h2 hb⟩
theorem TabO.lower {w : World} {base base' b : Nat} {t : Tab} (h : TabO w base b t) (hl : base' ≤ base) : TabO w base' b t := by
  obtain ⟨h0, v, h1, h2⟩ := h
  exact ⟨Nat.le_trans hl h0, v, h1, Kd.R_lower h2 hl⟩
theorem TabO.far {w : World} {base b : Nat} {t : Tab} (h : TabO w base b t) {p : Addr} (hp : p.block < base) (u : Value) : TabO (w.setCell p u) base b t := by
  obtain ⟨h0, v, h1, h2⟩ := h
  refine ⟨h0, v, blk_far h1 (by omega) u, ?_⟩
  have h3 := Kd.R_mono (ok' := fun k => k ≠ b ∧ base ≤ k) (Kd.R_bound h2) (fun k hk => ⟨hk.1, hk.2.1⟩)
  exact Kd.R_mono (Kd.R_far h3 (fun k hk => by have := hk.2; omega) u) (fun k hk => hk.1)
theorem TabO.reads {w : World} {base b : Nat} {t : Tab} (h : TabO w base b t) : TabC w b t := by
  obtain ⟨h0, v, h1, h2⟩ := h
  obtain ⟨A, c, rfl, h3, h4⟩ := Kd.R_reads h2
  exact ⟨A, c, h1, h3, h4⟩
theorem infoL : (Tryd.prog.info? 31).map (fun i => (i.zero, i.size, i.bytes)) = some (some (.agg #[(.int .i64 0), (.slice none 0 0)]), 2, 32) := by kernel_rfl

attribute [local go_sem] max2_int min2_int max_two min_two max_three min_three max_four min_four
set_option maxHeartbeats 8000000 in
set_option maxRecDepth 100000 in
theorem add_calls (b : Nat) (first : Int) (l : List Int) (vl : Value) (t : Tab) (w0 w : World) (HB : Below w0.heap.size w0 w) (hbase : w0.heap.size ≤ w.heap.size) (ht : TabO w w0.heap.size b t) (hl : Kd.R (Kd.int .i64) 2 w w0.heap.size (fun k => k ≠ b) vl l) (hx : ∀ x ∈ l, I64 x) (h1 : t.lines.length ≤ 70000) (h2 : l.length ≤ 1048576) :
    Calls Tryd.prog 28 #[.pointer (some ⟨b, 0, none⟩), .int .i64 first, vl] w fun e w' => e = .returned (.tuple #[]) ∧ TabO w' w0.heap.size b (t.add first l) ∧ Below w0.heap.size w0 w' ∧ w0.heap.size ≤ w'.heap.size ∧ Kd.R (Kd.int .i64) 2 w' w0.heap.size (fun k => k ≠ b) vl l := by
  obtain ⟨hb, v, c0, r0⟩ := ht
  have hsz : taps_Size.f (l.length + 3) l = some (szFrom 0 l) := taps_Size_eq (Nat.le_refl _) (by omega) hx
  obtain ⟨S, hS⟩ : ∃ S, S = szFrom 0 l := ⟨_, rfl⟩
  rw [← hS] at hsz
  obtain ⟨Al, cl, rfl⟩ := Kd.R_slice hl
  have c1 : w.cell? ⟨b, 1, none⟩ = some v := (blk_cell c0 1).trans rfl
  have f1 := blk_frozen c0 1
  have HC0 := Aside0.mk c0
  have HR0 := Aside0.mk r0
  have HL := Aside0.mk hl
  have HBB := Aside0.mk hb
  have HB0 := Aside0.mk HB
  have HBS := Aside0.mk hbase
  have HSZ := Aside0.mk hsz
  have HX := Aside0.mk hx
  have HSS := Aside0.mk hS
  clear HB c0 r0 hl hsz hx hS hbase
  have mixed : Tryd.prog.follows .mixedOrders = true := by kernel_rfl
  go_enter Tryd.func28, Tryd.ntmps28
  go_upto_region 1 with (at_builtin; refine Kd.R_append k31 (w0 := w0) w0.heap.size rfl (.tmp 10) (.tmp 14) 48 31 (.agg #[(.int .i64 0), (.slice none 0 0)]) 32 rfl Tryd.underlying48 infoL rfl (by decide) (by omega) v t.lines (⟨first, l⟩ : S31) [.int .i64 first, .slice Al l.length cl] (fun k => k ≠ b) (fun k => k ≠ b ∧ some k ≠ v.ownBlock) rfl rfl ?aP (fun k hk => hk) ?aF HR0.out HB0.out HBS.out ?aL ?_; (case aP => exact k31_mkM _ _ _ (⟨first, l⟩ : S31) (Kd.R_apartR HL.out HR0.out (by decide))); (case aF => exact (fun k hk => by have := blk_lt HC0.out; omega)); (case aL => omega); intro v1 w1 ho hb1 hg hat; obtain ⟨ys, hys⟩ : ∃ ys, ys = t.lines ++ [(⟨first, l⟩ : S31)] := ⟨_, rfl⟩; rw [← hys] at ho; have HY := Aside0.mk hys; clear hys; obtain ⟨A3, c3, rfl⟩ := Kd.R_slice ho; have hc1 := (hg.block b (blk_lt HC0.out) (fun e => HR0.out.1 b e.symm rfl)).trans HC0.out; have f2 := blk_frozen hc1 1; have d1 : w1.cell? ⟨b, 1, none⟩ = some v := (blk_cell hc1 1).trans rfl; have HC1 := Aside0.mk hc1; have HO1 := Aside0.mk ho; have HB1 := Aside0.mk hb1; have HL1 := Aside0.mk (Kd.R_over HL.out HR0.out (by decide) hg); clear ho hb1 hg hat hc1)
  have hc2 : (w1.setCell ⟨b, 1, none⟩ (.slice A3 ys.length c3)).heap[b]? = some (.cells #[.int .i64 t.n, .slice A3 ys.length c3, .int .i64 t.most, .int .i64 t.size] 52 (0, 0)) := by simpa using blk_set HC1.out 1 (.slice A3 ys.length c3)
  have HO2 := Aside0.mk (Kd.R_far (p := ⟨b, 1, none⟩) HO1.out (fun _ hk => hk) (.slice A3 ys.length c3))
  have HL2 := Aside0.mk (Kd.R_far (p := ⟨b, 1, none⟩) HL1.out (fun _ hk => hk) (.slice A3 ys.length c3))
  have HB2 := Aside0.mk (HB1.out.setCell (p := ⟨b, 1, none⟩) HBB.out (.slice A3 ys.length c3))
  generalize w1.setCell ⟨b, 1, none⟩ (.slice A3 ys.length c3) = w2 at hc2 HO2 HL2 HB2 ⊢
  have d2 : w2.cell? ⟨b, 2, none⟩ = some (.int .i64 t.most) := (blk_cell hc2 2).trans rfl
  have e2 := blk_frozen hc2 2
  have HC2 := Aside0.mk hc2
  clear c1 f1 f2 d1 hc2 HO1 HL1 HB1 HC1
  go_upto_region 2 with fail
  obtain ⟨M2, hM2⟩ : ∃ x, x = (if t.most < (l.length : Int) then (l.length : Int) else t.most) := ⟨_, rfl⟩
  rw [← hM2]
  have HM2 := Aside0.mk hM2
  clear hM2
  have hc3 : (w2.setCell ⟨b, 2, none⟩ (.int .i64 M2)).heap[b]? = some (.cells #[.int .i64 t.n, .slice A3 ys.length c3, .int .i64 M2, .int .i64 t.size] 52 (0, 0)) := by simpa using blk_set HC2.out 2 (.int .i64 M2)
  have HO3 := Aside0.mk (Kd.R_far (p := ⟨b, 2, none⟩) HO2.out (fun _ hk => hk) (.int .i64 M2))
  have HL3 := Aside0.mk (Kd.R_far (p := ⟨b, 2, none⟩) HL2.out (fun _ hk => hk) (.int .i64 M2))
  have HB3 := Aside0.mk (HB2.out.setCell (p := ⟨b, 2, none⟩) HBB.out (.int .i64 M2))
  generalize w2.setCell ⟨b, 2, none⟩ (.int .i64 M2) = w3 at hc3 HO3 HL3 HB3 ⊢
  have d3 : w3.cell? ⟨b, 3, none⟩ = some (.int .i64 t.size) := (blk_cell hc3 3).trans rfl
  have e3 := blk_frozen hc3 3
  have HC3 := Aside0.mk hc3
  have HSC := Aside0.mk (fun w' (hb : Below w3.heap.size w3 w') => taps_Size.calls (l.length + 3) Al cl l S w' (Kd.C_below (Kd.R_reads' HL3.out).2.2 hb) (Kd.R_reads' HL3.out).2.1 HSZ.out)
  clear d2 e2 hc3 HO2 HL2 HB2 HC2
  go_region_law (first | (go_simp; go_at_call 46; (with_reducible refine (HSC.out _ (by repeat (first | (with_reducible first | exact Below.refl _ _ | apply pw_below_drewN | apply below_drew1) | exact Below.refl _ _))).mono ?_); rintro e w4 ⟨rfl, hb4⟩; have hc4 := (hb4.block b (blk_lt HC3.out)).trans HC3.out; have d4 : w4.cell? ⟨b, 3, none⟩ = some (.int .i64 t.size) := (blk_cell hc4 3).trans rfl; have e4 := blk_frozen hc4 3; have HC4 := Aside0.mk hc4; have HB4 := Aside0.mk hb4; clear hc4 hb4))
  all_goals (
    obtain ⟨M3, hM3⟩ : ∃ x, x = (if t.size < S then S else t.size) := ⟨_, rfl⟩
    first | rw [← hM3] | skip
    have HM3 := Aside0.mk hM3
    clear hM3
    have hc5 : (w4.setCell ⟨b, 3, none⟩ (.int .i64 M3)).heap[b]? = some (.cells #[.int .i64 t.n, .slice A3 ys.length c3, .int .i64 M2, .int .i64 M3] 52 (0, 0)) := by simpa using blk_set HC4.out 3 (.int .i64 M3)
    have HC5 := Aside0.mk hc5
    have HO5 := Aside0.mk (Kd.R_far (p := ⟨b, 3, none⟩) (Kd.R_below (Kd.R_drew HO3.out) HB4.out) (fun _ hk => hk) (.int .i64 M3))
    have HL5 := Aside0.mk (Kd.R_far (p := ⟨b, 3, none⟩) (Kd.R_below (Kd.R_drew HL3.out) HB4.out) (fun _ hk => hk) (.int .i64 M3))
    have HB5 := Aside0.mk ((below_step (below_drew1 HB3.out) HB4.out).setCell (p := ⟨b, 3, none⟩) HBB.out (.int .i64 M3))
    generalize w4.setCell ⟨b, 3, none⟩ (.int .i64 M3) = w5 at hc5 HC5 HO5 HL5 HB5 ⊢
    clear hc5
    go_end0
    refine ⟨rfl, ⟨HBB.out, .slice A3 ys.length c3, ?_, ?_⟩, HB5.out, ?_, HL5.out⟩
    · rw [HC5.out, HM2.out, HM3.out, HSS.out]; rfl
    · have := HO5.out; rw [HY.out] at this ⊢; exact this
    · have := (blk_lt HC5.out); have := HBB.out; omega)

/-- What a table's maker answers: the table, or what is wrong. -/
def TabP (t : Tab) (c : Int) (w : World) (e : Ending) (w' : World) : Prop := Below w.heap.size w w' ∧ if c = 0 then ∃ b, e = .returned (.tuple #[.pointer (some ⟨b, 0, none⟩), .int .i64 0]) ∧ TabO w' w.heap.size b t else e = .returned (.tuple #[.pointer none, .int .i64 c])

/-- May a filter be resized? -/
def okR (f n m : Int) : Prop := 0 ≤ f ∧ f < 3 ∧ 1 ≤ n ∧ n ≤ 65536 ∧ 1 ≤ m ∧ m ≤ 65536
/-- A resize's table, of the first outputs. -/
def resTab (f n m : Int) : Nat → Tab
  | 0 => ⟨n, [], 0, 0⟩
  | i + 1 => (resTab f n m i).add (winLo f n m i) (appL (rowV f n m i))
/-- The first code that isn't OK, from an output on. -/
def resCode (f n m : Int) : Nat → Nat → Int
  | _, 0 => 0
  | i, d + 1 => if chkV (rowV f n m i) = 0 then resCode f n m (i + 1) d else chkV (rowV f n m i)
theorem resTab_len (f n m : Int) : ∀ i, (resTab f n m i).lines.length = i
  | 0 => rfl
  | i + 1 => by simp [resTab, Tab.add, resTab_len f n m i]
theorem table_side_eq (n : Int) : table_side.f n = some (decide (1 ≤ n ∧ n ≤ 65536)) := by
  unfold table_side.f
  by_cases h : n ≥ 1
  · rw [if_pos h]; congr 1; by_cases c : n ≤ 65536
    · rw [decide_eq_true c, decide_eq_true ⟨h, c⟩]
    · rw [decide_eq_false c, decide_eq_false (fun q => c q.2)]
  · rw [if_neg h]; congr 1; rw [decide_eq_false (fun q => h q.1)]
theorem rowV_i64 (f n m i : Int) : ∀ x ∈ rowV f n m i, I64 x := by
  intro x hx
  obtain ⟨t, _, rfl⟩ := List.mem_map.1 hx
  exact wV_i _ _ _ _ _
theorem appF_is {l : List Int} (hx : ∀ x ∈ l, I64 x) : taps_Apportion.f l = some (if chkV l = 0 then (appL l, 0) else ([], chkV l)) := by
  unfold taps_Apportion.f appF
  rw [if_pos hx]

set_option maxHeartbeats 8000000 in
set_option maxRecDepth 100000 in
theorem resize_calls (f n : Int) (M : Nat) (w : World) (hG : GL w) (h : okR f n M) :
    Calls Tryd.prog 9 #[.int .i64 f, .int .i64 n, .int .i64 M] w (TabP (resTab f n M M) (resCode f n M 0 M) w) := by
  obtain ⟨h1, h2, h3, h4, h5, h6⟩ := h
  have hs1 : table_side.f n = some true := by rw [table_side_eq, decide_eq_true ⟨h3, h4⟩]
  have hs2 : table_side.f M = some true := by rw [table_side_eq, decide_eq_true ⟨h5, h6⟩]
  obtain ⟨nm, hn1, hn3⟩ : ∃ s, raw_Name.f f = some s ∧ s.toList.isEmpty = false := by
    have : f = 0 ∨ f = 1 ∨ f = 2 := by omega
    rcases this with rfl | rfl | rfl
    · exact ⟨_, rfl, by kernel_rfl⟩
    · exact ⟨_, rfl, by kernel_rfl⟩
    · exact ⟨_, rfl, by kernel_rfl⟩
  have hn2 : ¬ nm.toList = [] := fun h => by rw [h] at hn3; exact absurd hn3 (by decide)
  have hx := rowV_i64 f n M
  have HG := Aside0.mk hG
  have HX := Aside0.mk hx
  have HN := Aside0.mk (And.intro h1 (And.intro h2 (And.intro h3 (And.intro h4 (And.intro h5 h6)))))
  clear hG hx h1 h2 h3 h4
  have mixed : Tryd.prog.follows .mixedOrders = true := by kernel_rfl
  go_enter Tryd.func9, Tryd.ntmps9
  go_upto_region 4 with (first | (go_at_call 24; (with_reducible refine (raw_Name.calls f nm _ HG.out hn1).mono ?_); rintro e w' ⟨rfl, ⟨nd, rfl⟩⟩) | (go_at_call 25; (with_reducible refine (table_side.calls n true _ hs1).mono ?_); rintro e w' ⟨rfl, ⟨nd1, rfl⟩⟩) | (go_at_call 25; (with_reducible refine (table_side.calls M true _ hs2).mono ?_); rintro e w' ⟨rfl, ⟨nd2, rfl⟩⟩))
  clear hn1 hn2 hn3 hs1 hs2
  go_wp2
  obtain ⟨b, hb⟩ : ∃ b, b = w.heap.size := ⟨_, rfl⟩
  rw [← hb]
  have HBQ := Aside0.mk hb
  clear hb
  go_loopg [31] M (fun kx s31 wr => ∃ (i : Nat), s31 = .int .i64 i ∧ i ≤ M ∧ M - i ≤ kx ∧ Aside0 (TabO wr w.heap.size b (resTab f n M i)) ∧ Aside0 (Below w.heap.size w wr) ∧ Aside0 (resCode f n M i (M - i) = resCode f n M 0 M))
  case atStart =>
    refine ⟨0, rfl, by omega, by omega, ⟨by rw [HBQ.out]; exact Nat.le_refl _, .slice none 0 0, by rw [HBQ.out]; exact heap_alloc_new _ _, Kd.R_nil _ _ _ _ _⟩, ⟨?_⟩, ⟨rfl⟩⟩
    · repeat (first | (with_reducible first | exact Below.refl _ _ | apply below_alloc | apply pw_below_drewN | apply below_drew1) | exact Below.refl _ _)
  case round =>
    obtain ⟨i, rfl, i1, i2, HT, HB, HC⟩ := hrel
    have wi : IntKind.i64.wrap ((i : Int) + 1) = (i : Int) + 1 := by rw [i64w]; exact w64_id (by omega) (by omega)
    by_cases hlt : (i : Int) < (M : Int)
    · have hm : mayR f n M i := ⟨HN.out.1, HN.out.2.1, HN.out.2.2.1, HN.out.2.2.2.1, by omega, by omega, by omega, hlt⟩
      have hrow := fun w' hG' => raw_Row.calls ((winHi f n M i - winLo f n M i).toNat + 401) f n M i _ _ w' hG' (raw_Row_may hm (Nat.le_refl _))
      have happ := appF_is (HX.out i)
      obtain ⟨lo, hlo⟩ : ∃ v, v = winLo f n M i := ⟨_, rfl⟩
      obtain ⟨row, hrw⟩ : ∃ v, v = rowV f n M i := ⟨_, rfl⟩
      have hstep : M - i = (M - (i + 1)) + 1 := by omega
      have HCS := HC.out
      rw [hstep, resCode] at HCS
      rw [← hrw] at happ HCS hrow
      rw [← hlo] at hrow
      have hrx : ∀ x ∈ row, I64 x := by rw [hrw]; exact HX.out i
      have hadd := fun (hc : chkV row = 0) vl w' HB hb ht hl => add_calls b lo (appL row) vl (resTab f n M i) w w' HB hb ht hl (appL_i64 hrx hc) (by rw [resTab_len]; omega) (by rw [appL_len2]; exact (appL_bnd hrx hc).1)
      have HHC := Aside0.mk HCS
      have HLO := Aside0.mk hlo
      have HRW := Aside0.mk hrw
      have HROW := Aside0.mk hrow
      have HADD := Aside0.mk hadd
      clear HC HCS hlo hrw hrow hstep hm hadd hrx
      by_cases hc : chkV row = 0
      · rw [if_pos hc] at happ
        go_wp2_with (first
          | (go_at_call 26; refine (HROW.out _ (HG.out.below (by repeat (first | (with_reducible first | exact HB.out | apply pw_below_drewN | apply below_drew1) | exact HB.out)))).mono ?_; rintro e w1 ⟨v1, rfl, hr1, hb1⟩; obtain ⟨A1, c1, rfl, l1, g1⟩ := Kd.R_reads hr1; have HB1 := Aside0.mk hb1; have G1 := Aside0.mk g1; clear hr1 hb1 g1)
          | (go_at_call 27; refine (taps_Apportion.calls A1 c1 row (appL row) 0 w1 G1.out l1 happ).mono ?_; rintro e w2 ⟨v2, rfl, hr2, hb2⟩; have HR2 := Aside0.mk hr2; have HB2 := Aside0.mk hb2; clear hr2 hb2)
          | (go_at_call 28
             have hT1 := HT.out.below HB1.out
             have hb01 := (below_step HB.out HB1.out).size
             refine (HADD.out hc v2 w2 (below_step (below_step HB.out HB1.out) HB2.out) (below_step (below_step HB.out HB1.out) HB2.out).size (hT1.below HB2.out) (Kd.R_mono (Kd.R_lower (Kd.R_newB HR2.out hT1.2.choose_spec.1) hb01) (fun k hk => hk.2))).mono ?_
             rintro e w3 ⟨rfl, ht3, hb3, hs3, hr3⟩
             have HT3 := Aside0.mk ht3
             have HB3 := Aside0.mk hb3
             clear hT1 hb01 ht3 hb3 hs3 hr3))
        go_roundg (M - (i + 1))
        case measure => omega
        case rel =>
          refine ⟨i + 1, by simp, by omega, Nat.le_refl _, ⟨?_⟩, HB3, ⟨?_⟩⟩
          · rw [resTab, ← HLO.out, ← HRW.out]; exact HT3.out
          · rw [← HHC.out, if_pos hc]
      · rw [if_neg hc] at happ
        obtain ⟨cv, hcv⟩ : ∃ v, v = chkV row := ⟨_, rfl⟩
        have HF : Aside0 (resCode f n M 0 M = cv) := ⟨by rw [← HHC.out, if_neg hc, hcv]⟩
        rw [← hcv] at happ hc
        have bk : (cv == 0) = false := by simpa using hc
        have bk2 : (cv != 0) = true := by simpa using hc
        clear hcv
        go_wp2_with (first
          | (go_at_call 26; refine (HROW.out _ (HG.out.below (by repeat (first | (with_reducible first | exact HB.out | apply pw_below_drewN | apply below_drew1) | exact HB.out)))).mono ?_; rintro e w1 ⟨v1, rfl, hr1, hb1⟩; obtain ⟨A1, c1, rfl, l1, g1⟩ := Kd.R_reads hr1; have HB1 := Aside0.mk hb1; have G1 := Aside0.mk g1; clear hr1 hb1 g1)
          | (go_at_call 27; refine (taps_Apportion.calls A1 c1 row [] cv w1 G1.out l1 happ).mono ?_; rintro e w2 ⟨v2, rfl, hr2, hb2⟩; have HB2 := Aside0.mk hb2; clear hr2 hb2))
        go_ret2
        refine ⟨below_step (below_step HB.out HB1.out) HB2.out, ?_⟩
        rw [if_neg (by rw [HF.out]; exact hc), HF.out]
        rfl
    · have him : i = M := by omega
      subst him
      have HCS := HC.out
      rw [Nat.sub_self, resCode] at HCS
      have HCS2 := Aside0.mk HCS
      clear HC HCS
      go_wp2
      go_ret2
      refine ⟨HB.out, ?_⟩
      rw [if_pos HCS2.out.symm]
      exact ⟨b, rfl, HT.out⟩

/-- A kernel's table, of the first outputs. -/
def filTab (n h : Int) (l : List Int) : Nat → Tab
  | 0 => ⟨n, [], 0, 0⟩
  | i + 1 => (filTab n h l i).add ((i : Int) - h) l
/-- What a kernel's table lacks. -/
def filCode (l : List Int) (n : Int) : Int := if 1 ≤ n ∧ n ≤ 65536 then if l.length % 2 = 0 then 7 else chkV l else 6
theorem filTab_len (n h : Int) (l : List Int) : ∀ i, (filTab n h l i).lines.length = i
  | 0 => rfl
  | i + 1 => by simp [filTab, Tab.add, filTab_len n h l i]

theorem tab_cells {w : World} {b : Nat} {t : Tab} (h : TabC w b t) : ∃ A c, w.cell? ⟨b, 0, none⟩ = some (.int .i64 t.n) ∧ w.cell? ⟨b, 1, none⟩ = some (.slice A t.lines.length c) ∧ w.cell? ⟨b, 2, none⟩ = some (.int .i64 t.most) ∧ w.cell? ⟨b, 3, none⟩ = some (.int .i64 t.size) ∧ t.lines.length ≤ c ∧ Kd.C k31 w A t.lines.length t.lines := by
  obtain ⟨A, c, h1, h2, h3⟩ := h
  exact ⟨A, c, (blk_cell h1 0).trans rfl, (blk_cell h1 1).trans rfl, (blk_cell h1 2).trans rfl, (blk_cell h1 3).trans rfl, h2, h3⟩
theorem from_calls (b : Nat) (t : Tab) (w : World) (h : TabC w b t) : Calls Tryd.prog 14 #[.pointer (some ⟨b, 0, none⟩)] w fun e w' => e = .returned (.int .i64 t.n) ∧ w' = w := by
  obtain ⟨A, c, h0, h1, h2, h3, -, -⟩ := tab_cells h
  clear h
  go_enter Tryd.func14, Tryd.ntmps14
  go_wp2
  go_ret
  exact ⟨rfl, rfl⟩
theorem to_calls (b : Nat) (t : Tab) (w : World) (h : TabC w b t) : Calls Tryd.prog 15 #[.pointer (some ⟨b, 0, none⟩)] w fun e w' => e = .returned (.int .i64 t.lines.length) ∧ w' = w := by
  obtain ⟨A, c, h0, h1, h2, h3, -, -⟩ := tab_cells h
  clear h
  go_enter Tryd.func15, Tryd.ntmps15
  go_wp2
  go_ret
  exact ⟨rfl, rfl⟩

theorem most_calls (b : Nat) (t : Tab) (w : World) (h : TabC w b t) : Calls Tryd.prog 16 #[.pointer (some ⟨b, 0, none⟩)] w fun e w' => e = .returned (.int .i64 t.most) ∧ w' = w := by
  obtain ⟨A, c, h0, h1, h2, h3, -, -⟩ := tab_cells h
  clear h
  go_enter Tryd.func16, Tryd.ntmps16
  go_wp2
  go_ret
  exact ⟨rfl, rfl⟩

theorem size_calls (b : Nat) (t : Tab) (w : World) (h : TabC w b t) : Calls Tryd.prog 17 #[.pointer (some ⟨b, 0, none⟩)] w fun e w' => e = .returned (.int .i64 t.size) ∧ w' = w := by
  obtain ⟨A, c, h0, h1, h2, h3, -, -⟩ := tab_cells h
  clear h
  go_enter Tryd.func17, Tryd.ntmps17
  go_wp2
  go_ret
  exact ⟨rfl, rfl⟩

set_option maxHeartbeats 8000000 in
set_option maxRecDepth 100000 in
theorem clone_calls (A0 : Option Addr) (c0 : Nat) (l : List Int) (w : World) (hr0 : Kd.C (Kd.int .i64) w A0 l.length l) (hc0 : l.length ≤ c0) (hl : l.length ≤ 2097152) :
    Calls Tryd.prog 29 #[.slice A0 l.length c0] w fun e w' => ∃ v, e = .returned v ∧ Kd.R (Kd.int .i64) 2 w' w.heap.size (fun _ => True) v l ∧ Below w.heap.size w w' := by
  have q : ∀ (w : World) (a : Option Addr) (n c n' c' : Nat), (binOp .eql 29 (.slice a n c) (.slice none n' c')).run Tryd.prog w = .ok (.bool a.isNone) w := fun w a n c n' c' => Lib.run_eql_slice_nil w _ _ a n c n' c' Tryd.underlying29
  cases A0 with
  | none =>
    have hn : l = [] := by
      cases l with
      | nil => rfl
      | cons x r => obtain ⟨ad, e, _⟩ := Kd.at_int hr0 0 (by omega) (by simp); cases e
    subst hn
    clear hr0
    go_enter Tryd.func29, Tryd.ntmps29
    go_wp2
    go_ret
    exact ⟨_, rfl, Kd.R_nil _ _ _ _ _, Below.refl _ _⟩
  | some ad =>
    have HR := Aside0.mk hr0
    clear hr0
    go_enter Tryd.func29, Tryd.ntmps29
    go_wp2_with (at_builtin; refine Kd.R_append_row (Value.int .i64) (0 : Int) (h1 := fun _ => rfl) (w0 := w) w.heap.size rfl (.tmp 5) (.tmp 6) 29 2 (.int .i64 0) 8 rfl Tryd.underlying29 info2 rfl (by omega) (.slice (some ⟨w.heap.size, 0, none⟩) 0 0) [] l (some ad) l.length c0 (fun _ => True) rfl rfl (fun _ _ => trivial) (Kd.R_of_own (World.ownsRow_made w #[] 0 (Nat.le_refl _) (Nat.zero_le _) rfl) (fun _ _ => trivial)) (Kd.C_alloc HR.out _) (below_alloc (Below.refl _ _) _) (by simp) (by simp; omega) ?_; intro v1 w1 ho hb hg hat; have HO := Aside0.mk ho; have HB := Aside0.mk hb; clear ho hb hg hat)
    go_ret
    exact ⟨_, rfl, HO.out, HB.out⟩

/-- A table's line, or none. -/
def lineAt (t : Tab) (i : Int) : S31 := if 0 ≤ i ∧ i < t.lines.length then rd_T31 t.lines i else ⟨0, []⟩
set_option maxHeartbeats 8000000 in
set_option maxRecDepth 100000 in
theorem line_out (b : Nat) (t : Tab) (i : Int) (w : World) (h : TabC w b t) (hi : ¬ (0 ≤ i ∧ i < t.lines.length)) :
    Calls Tryd.prog 10 #[.pointer (some ⟨b, 0, none⟩), .int .i64 i] w fun e w' => e = .returned (.agg #[.int .i64 0, .slice none 0 0]) ∧ Below w.heap.size w w' := by
  obtain ⟨A, c, h0, h1, h2, h3, -, -⟩ := tab_cells h
  have h1' := cell_below h1 (below_alloc (Below.refl _ _) (.cells #[.int .i64 0, .slice none 0 0] 31))
  clear h
  by_cases c0 : i < 0
  · go_enter Tryd.func10, Tryd.ntmps10
    go_wp2
    go_returns
    exact ⟨rfl, below_alloc (Below.refl _ _) _⟩
  · have c1 : (t.lines.length : Int) ≤ i := by omega
    go_enter Tryd.func10, Tryd.ntmps10
    go_wp2
    go_returns
    exact ⟨rfl, below_alloc (Below.refl _ _) _⟩
set_option maxHeartbeats 8000000 in
set_option maxRecDepth 100000 in
theorem line_in (b : Nat) (t : Tab) (i : Int) (w : World) (h : TabC w b t) (i0 : 0 ≤ i) (i1 : i < t.lines.length) (hl : (rd_T31 t.lines i).f1.length ≤ 2097152) :
    Calls Tryd.prog 10 #[.pointer (some ⟨b, 0, none⟩), .int .i64 i] w fun e w' => ∃ v, e = .returned (.agg #[.int .i64 (rd_T31 t.lines i).f0, v]) ∧ Kd.R (Kd.int .i64) 2 w' w.heap.size (fun _ => True) v (rd_T31 t.lines i).f1 ∧ Below w.heap.size w w' := by
  obtain ⟨A, c, h0, h1, h2, h3, hlc, hC⟩ := tab_cells h
  obtain ⟨ad, A1, c1, rfl, k0, k1, l1, g1⟩ := at_T31 hC i i0 i1
  have hB := below_alloc (Below.refl w.heap.size w) (.cells #[.int .i64 0, .slice none 0 0] 31)
  have q1 := cell_below h1 hB
  have m0 := cell_below k0 hB
  have m1 := cell_below k1 hB
  have r0 := heap_alloc_new w (.cells #[.int .i64 0, .slice none 0 0] 31)
  obtain ⟨fst, hf⟩ : ∃ v, v = (rd_T31 t.lines i).f0 := ⟨_, rfl⟩
  obtain ⟨tp, ht⟩ : ∃ v, v = (rd_T31 t.lines i).f1 := ⟨_, rfl⟩
  rw [← hf] at m0 k0 ⊢
  rw [← ht] at k1 m1 l1 g1 hl ⊢
  have HG := Aside0.mk g1
  have HR0 := Aside0.mk r0
  have HB := Aside0.mk hB
  have HCL := Aside0.mk (fun w' (hb : Below w.heap.size w w') => clone_calls A1 c1 tp w' (Kd.C_below g1 hb) l1 hl)
  have HQ := Aside0.mk (And.intro q1 (And.intro m0 m1))
  clear h hC g1 r0 hB hf ht h0 h2 h3 k0 k1 h1
  have n0 : ¬ i < 0 := by omega
  have n1 : ¬ (t.lines.length : Int) ≤ i := by omega
  have mixed : Tryd.prog.follows .mixedOrders = true := by kernel_rfl
  go_enter Tryd.func10, Tryd.ntmps10
  go_wp2
  generalize w.alloc (.cells #[.int .i64 0, .slice none 0 0] 31) = W0 at q1 m0 m1 HR0 HB HQ ⊢
  obtain ⟨r, hr⟩ : ∃ r, r = w.heap.size := ⟨_, rfl⟩
  rw [← hr]
  have hr0 := HR0.out
  rw [← hr] at hr0
  have z0 : W0.cell? ⟨r, 0, none⟩ = some (.int .i64 0) := (blk_cell hr0 0).trans rfl
  have z1 : W0.cell? ⟨r, 1, none⟩ = some (.slice none 0 0) := (blk_cell hr0 1).trans rfl
  have y0 := blk_frozen hr0 0
  have y1 := blk_frozen hr0 1
  have HRR := Aside0.mk hr0
  have HRQ := Aside0.mk hr
  clear hr0 hr HR0
  go_region_law (first | (go_simp; go_at_call 29; refine (HCL.out _ (by repeat (first | (with_reducible first | exact HB.out | apply pw_below_drewN | apply below_drew1) | exact HB.out))).mono ?_; rintro e w2 ⟨v2, rfl, hr2, hb2⟩; obtain ⟨A2, c2, rfl⟩ := Kd.R_slice hr2; have x1 := cell_below (show W0.drew.cell? _ = _ from HQ.out.1) hb2; have x2 := cell_below (show W0.drew.cell? _ = _ from HQ.out.2.1) hb2; have x3 := cell_below (show W0.drew.cell? _ = _ from HQ.out.2.2) hb2; have hr3 := (hb2.block r (blk_lt HRR.out)).trans HRR.out; have z2 : w2.cell? ⟨r, 0, none⟩ = some (.int .i64 0) := (blk_cell hr3 0).trans rfl; have z3 : w2.cell? ⟨r, 1, none⟩ = some (.slice none 0 0) := (blk_cell hr3 1).trans rfl; have y2 := blk_frozen hr3 0; have y3 := blk_frozen hr3 1; have HR3 := Aside0.mk hr3; have HR2 := Aside0.mk hr2; have HB2 := Aside0.mk hb2; clear hr2 hb2 hr3))
  all_goals (
    have hr5 : ((w2.setCell ⟨r, 0, none⟩ (.int .i64 fst)).setCell ⟨r, 1, none⟩ (.slice A2 tp.length c2)).heap[r]? = some (.cells #[.int .i64 fst, .slice A2 tp.length c2] 31 (0, 0)) := by simpa using blk_set (blk_set HR3.out 0 (.int .i64 fst)) 1 (.slice A2 tp.length c2)
    have HN := Aside0.mk (show r < W0.drew.heap.size from blk_lt HRR.out)
    have HO5 := Aside0.mk (Kd.R_far (p := ⟨r, 1, none⟩) (Kd.R_far (p := ⟨r, 0, none⟩) (Kd.R_mono (Kd.R_bound HR2.out) (fun k hk => (show k ≠ r by have := hk.2.1; have := HN.out; omega))) (fun _ hk => hk) (.int .i64 fst)) (fun _ hk => hk) (.slice A2 tp.length c2))
    have HB5 := Aside0.mk (((below_step (below_drew1 HB.out) HB2.out).setCell (p := ⟨r, 0, none⟩) (Nat.le_of_eq HRQ.out.symm) (.int .i64 fst)).setCell (p := ⟨r, 1, none⟩) (Nat.le_of_eq HRQ.out.symm) (.slice A2 tp.length c2))
    have HS5 := Aside0.mk (below_size (below_drew1 HB.out))
    generalize (w2.setCell ⟨r, 0, none⟩ (.int .i64 fst)).setCell ⟨r, 1, none⟩ (.slice A2 tp.length c2) = w5 at hr5 HO5 HB5 ⊢
    have p0 : w5.cell? ⟨r, 0, none⟩ = some (.int .i64 fst) := (blk_cell hr5 0).trans rfl
    have p1 : w5.cell? ⟨r, 1, none⟩ = some (.slice A2 tp.length c2) := (blk_cell hr5 1).trans rfl
    clear hr5
    try simp only [Exit.inBlock, Exit.then]
    go_wp2
    try simp only [Exit.inBlock, Exit.then]
    refine bodyPost_ret (by simp [results, Tryd.results10, go_sem, p0, p1]; try rfl) rfl ?_
    exact ⟨_, rfl, Kd.R_mono (Kd.R_lower HO5.out HS5.out) (fun _ _ => trivial), HB5.out⟩)

/-- The least first sample and one behind the greatest, of some lines. -/
def reachF (lo hi : Int) : List S31 → Int × Int
  | [] => (lo, hi)
  | x :: r => reachF (mn lo x.f0) (mx hi (wrap64 (x.f0 + x.f1.length))) r
def reachP (l : List S31) (p q : Nat) : Int × Int := reachF (rd_T31 l p).f0 (rd_T31 l p).f0 ((l.take q).drop p)
def reachV (t : Tab) (i k : Int) : Int × Int := if mx i 0 < mn k t.lines.length then ((reachP t.lines (mx i 0).toNat (mn k t.lines.length).toNat).1, wrap64 ((reachP t.lines (mx i 0).toNat (mn k t.lines.length).toNat).2 - (reachP t.lines (mx i 0).toNat (mn k t.lines.length).toNat).1)) else (0, 0)
theorem reach_step (l : List S31) {q p : Nat} (h : p < q) (hq : q ≤ l.length) (lo hi : Int) : reachF lo hi ((l.take q).drop p) = reachF (mn lo (rd_T31 l p).f0) (mx hi (wrap64 ((rd_T31 l p).f0 + (rd_T31 l p).f1.length))) ((l.take q).drop (p + 1)) := by
  have e : (l.take q).drop p = rd_T31 l p :: (l.take q).drop (p + 1) := by
    rw [List.drop_eq_getElem_cons (by rw [List.length_take]; omega)]
    congr 1
    unfold rd_T31
    rw [List.getElem_take, Int.toNat_natCast, List.getD_eq_getElem?_getD, List.getElem?_eq_getElem (by omega)]
    rfl
  rw [e, reachF]
theorem rd_drop (l : List S31) (p j : Nat) : rd_T31 (l.drop p) j = rd_T31 l ((p + j : Nat) : Int) := by
  unfold rd_T31
  rw [Int.toNat_natCast, Int.toNat_natCast, List.getD_eq_getElem?_getD, List.getD_eq_getElem?_getD, List.getElem?_drop]

attribute [local go_sem] max2_int min2_int max_two min_two max_three min_three max_four min_four
set_option maxHeartbeats 8000000 in
set_option maxRecDepth 100000 in
theorem reach_calls (b : Nat) (t : Tab) (i k : Int) (w : World) (h : TabC w b t) (hl : t.lines.length ≤ 70000) :
    Calls Tryd.prog 11 #[.pointer (some ⟨b, 0, none⟩), .int .i64 i, .int .i64 k] w fun e w' => e = .returned (.tuple #[.int .i64 (reachV t i k).1, .int .i64 (reachV t i k).2]) ∧ Below w.heap.size w w' := by
  obtain ⟨A, c, h0, h1, h2, h3, hlc, hC⟩ := tab_cells h
  clear h h0 h2 h3
  have HC := Aside0.mk hC
  clear hC
  have mixed : Tryd.prog.follows .mixedOrders = true := by kernel_rfl
  go_enter Tryd.func11, Tryd.ntmps11
  go_upto_region 1 with fail
  go_quiet (fail)
  obtain ⟨I, hI⟩ : ∃ I, I = (if i < 0 then 0 else i) := ⟨_, rfl⟩
  obtain ⟨K, hK⟩ : ∃ K, K = (if (t.lines.length : Int) < k then (t.lines.length : Int) else k) := ⟨_, rfl⟩
  rw [← hI, ← hK]
  have hrv : reachV t i k = if I < K then ((reachP t.lines I.toNat K.toNat).1, wrap64 ((reachP t.lines I.toNat K.toNat).2 - (reachP t.lines I.toNat K.toNat).1)) else (0, 0) := by unfold reachV mx mn; rw [← hI, ← hK]
  have hI0 : 0 ≤ I := by rw [hI]; split <;> omega
  have hK0 : K ≤ t.lines.length := by rw [hK]; split <;> omega
  have HV := Aside0.mk hrv
  have HQ := Aside0.mk (And.intro hI hK)
  clear hI hK hrv
  have hB0 : Below w.heap.size w (w.drewN nq) := pw_below_drewN (Below.refl _ _) _
  have HB0 := Aside0.mk hB0
  have HCD := Aside0.mk (Kd.C_below HC.out hB0)
  have q1 := cell_below h1 hB0
  clear h1 hB0 HC
  generalize w.drewN nq = W at q1 HB0 HCD ⊢
  by_cases hIK : K ≤ I
  · go_wp2
    go_ret2
    refine ⟨?_, HB0.out⟩
    rw [HV.out, if_neg (by omega)]; rfl
  · obtain ⟨p, rfl⟩ := Int.eq_ofNat_of_zero_le hI0
    obtain ⟨q, rfl⟩ := Int.eq_ofNat_of_zero_le (show 0 ≤ K by omega)
    have HV2 := Aside0.mk (show reachV t i k = ((reachP t.lines p q).1, wrap64 ((reachP t.lines p q).2 - (reachP t.lines p q).1)) by rw [HV.out, if_pos (by omega)]; simp only [Int.toNat_natCast])
    have hp := Int.toNat_natCast p
    obtain ⟨ad, A1, c1, rfl, k0, k1, l1, g1⟩ := at_T31 HCD.out p hI0 (by omega)
    have hCd := Kd.C_drop (c := c) HCD.out (show p ≤ t.lines.length by omega) hlc
    rw [if_neg (by omega)] at hCd
    have HCX := Aside0.mk hCd
    have hlp : p < t.lines.length := by omega
    have hpq : p < q := by omega
    rw [hp] at k0
    have HP := Aside0.mk hp
    have w1 : IntKind.i64.wrap ((q : Int) - (p : Int)) = ((q - p : Nat) : Int) := by rw [i64w, w64_id (by omega) (by omega)]; omega
    clear hCd k1 l1 g1 HV HQ hp
    go_upto_region 7 with fail
    go_loopg [6, 8, 40] (q - p) (fun kx s6 s8 s40 wr => ∃ (lo hi : Int) (j : Nat), s6 = .int .i64 lo ∧ s8 = .int .i64 hi ∧ s40 = .int .i64 j ∧ j ≤ q - p ∧ q - p - j ≤ kx ∧ Aside0 (reachF lo hi ((t.lines.take q).drop (p + j)) = reachP t.lines p q) ∧ Aside0 (Below W.heap.size W wr))
    case atStart => exact ⟨_, _, 0, rfl, rfl, rfl, by omega, by omega, ⟨rfl⟩, ⟨Below.refl _ _⟩⟩
    case round =>
      obtain ⟨lo, hi, j, rfl, rfl, rfl, j1, j2, HR, HB⟩ := hrel
      have wj : IntKind.i64.wrap ((j : Int) + 1) = (j : Int) + 1 := by rw [i64w]; exact w64_id (by omega) (by omega)
      by_cases hlt : j < q - p
      · have hlj : (j : Int) < ((t.lines.drop p).length : Int) := by rw [List.length_drop]; omega
        obtain ⟨ad2, A2, c2, e2, m0, m1, l2, g2⟩ := at_T31 (Kd.C_below HCX.out HB.out) j (by omega) hlj
        obtain rfl : ad.add (p * 2) = ad2 := Option.some.inj e2
        rw [Int.toNat_natCast, rd_drop] at m0
        rw [Int.toNat_natCast, rd_drop] at m1
        have hst := reach_step t.lines (show p + j < q by omega) (by omega) lo hi
        obtain ⟨x, hx⟩ : ∃ x, x = rd_T31 t.lines ((p + j : Nat) : Int) := ⟨_, rfl⟩
        rw [← hx] at m0 m1 hst
        have HST := Aside0.mk (hst.symm.trans HR.out)
        obtain ⟨f0, hf0⟩ : ∃ v, v = x.f0 := ⟨_, rfl⟩
        obtain ⟨ln, hln⟩ : ∃ v, v = x.f1.length := ⟨_, rfl⟩
        rw [← hf0] at m0
        rw [← hln] at m1
        have HX := Aside0.mk (And.intro hf0 hln)
        have zj : (0 : Int) ≤ (j : Int) := by omega
        have zl : (j : Int) < ((q - p : Nat) : Int) := by omega
        clear e2 l2 g2 hst hx hf0 hln hlj HR
        go_wp2
        all_goals (
          go_roundg (q - p - (j + 1))
          case measure => omega
          case rel =>
            refine ⟨_, _, j + 1, rfl, rfl, by simp, by omega, Nat.le_refl _, ⟨?_⟩, ⟨?_⟩⟩
            · rw [← HST.out, ← HX.out.1, ← HX.out.2, show p + (j + 1) = p + j + 1 from rfl]
              unfold mn mx
              first
                | (rw [if_pos (by assumption), if_pos (by assumption)]; done)
                | (rw [if_pos (by assumption), if_neg (by omega)]; done)
                | (rw [if_neg (by omega), if_pos (by assumption)]; done)
                | (rw [if_neg (by omega), if_neg (by omega)]; done)
            · repeat (first | (with_reducible first | exact HB.out | apply below_alloc | apply pw_below_drewN | apply below_drew1) | exact HB.out | (refine Below.setCell ?_ (by have := HB.out.size; omega) _)))
      · have : j = q - p := by omega
        subst this
        have HF := Aside0.mk (show reachP t.lines p q = (lo, hi) by rw [← HR.out, show p + (q - p) = q by omega, List.drop_eq_nil_of_le (by rw [List.length_take]; omega)]; rfl)
        clear HR
        go_wp2
        go_ret2
        refine ⟨?_, below_step HB0.out HB.out⟩
        rw [HV2.out, HF.out, ← i64w]; rfl

theorem field_first (x : Int) (v : Value) (w : World) : (Instr.field 31 (.agg #[.int .i64 x, v]) 0).run Tryd.prog w = .ok (.int .i64 x) w := by
  have u : ∀ w, Sem.run Tryd.prog (underlying 31) w = .ok _ w := run_underlying Tryd.underlying31
  simp [Instr.field, u, go_sem]
  rfl
theorem C_lit (W : World) (l : List Int) (hm : l.length ≤ 9223372036854775807) : Kd.C (Kd.int .i64) (W.alloc (.cells (l.map (Value.int .i64)).toArray 2 (0, 0))) (some ⟨W.heap.size, 0, none⟩) l.length l := by
  have h := own_lit W W.heap.size 2 .i64 l (Nat.le_refl _) hm
  exact (Kd.R_reads' (Kd.R_of_own (ok := fun _ => True) h (fun _ _ => trivial))).2.2

def tab42 : Tab := ⟨4, [⟨0, [8192, 8192]⟩, ⟨2, [8192, 8192]⟩], 2, 16384⟩
theorem tab42_is : resTab 0 4 2 2 = tab42 := by kernel_rfl
theorem tab42_code : resCode 0 4 2 0 2 = 0 := by kernel_rfl
set_option maxHeartbeats 8000000 in
set_option maxRecDepth 100000 in
theorem lives08_calls (w : World) (hG : GL w) : Calls Tryd.prog 8 #[] w fun e w' => e = .returned (.bool true) ∧ Below w.heap.size w w' := by
  have HG := Aside0.mk hG
  have l5 := fun w' (hb : Below w.heap.size w w') => smaltolaw05_Lives.calls 400 true w' (hG.below hb) (lives05 (Nat.le_refl _))
  have l6 := fun w' => smaltolaw06_Lives.calls 400 true w' (lives06 (Nat.le_refl _))
  have rs := fun w' (hb : Below w.heap.size w w') => resize_calls 0 4 2 w' (hG.below hb) ⟨by decide, by decide, by decide, by decide, by decide, by decide⟩
  rw [show ((2 : Nat) : Int) = 2 from rfl, tab42_is, tab42_code] at rs
  have same := fun w' A0 c0 A1 c1 h0 h1 h2 h3 => smaltoref06_Same.calls 10 A0 c0 [8192, 8192] A1 c1 [8192, 8192] true w' h0 h1 h2 h3 (by kernel_rfl)
  have L5 := Aside0.mk l5
  have L6 := Aside0.mk l6
  have RS := Aside0.mk rs
  have SM := Aside0.mk same
  clear hG l5 l6 rs same
  have mixed : Tryd.prog.follows .mixedOrders = true := by kernel_rfl
  go_enter Tryd.func8, Tryd.ntmps8
  go_upto_region 4 with (first
    | (go_at_call 22; refine (L5.out _ (Below.refl _ _)).mono ?_; rintro e w1 ⟨rfl, hb1⟩; have B1 := Aside0.mk hb1; clear hb1)
    | (go_at_call 23; refine (L6.out _).mono ?_; rintro e w2 ⟨rfl, hb2⟩; have B2 := Aside0.mk (below_step B1.out hb2); clear hb2)
    | (go_at_call 9; refine (RS.out _ B2.out).mono ?_; rintro e w3 ⟨hb3, hT⟩; rw [if_pos rfl] at hT; obtain ⟨b, rfl, hT⟩ := hT; have B3 := Aside0.mk (below_step B2.out hb3); have T3 := Aside0.mk hT.reads; clear hb3 hT))
  clear L5 L6 RS
  have hfl := field_first
  have LN1 := Aside0.mk (show Calls Tryd.prog 10 #[.pointer (some ⟨b, 0, none⟩), .int .i64 1] w3 fun e w' => ∃ v, e = .returned (.agg #[.int .i64 2, v]) ∧ Kd.R (Kd.int .i64) 2 w' w3.heap.size (fun _ => True) v [8192, 8192] ∧ Below w3.heap.size w3 w' from line_in b tab42 1 w3 T3.out (by decide) (by decide) (by decide))
  go_upto_region 7 with (first
    | (go_at_call 10; refine LN1.out.mono ?_; rintro e w4 ⟨v4, rfl, hr4, hb4⟩; obtain ⟨A4, c4, rfl⟩ := Kd.R_slice hr4; have R4 := Aside0.mk hr4; have B4 := Aside0.mk (below_step B3.out hb4); have T4 := Aside0.mk (T3.out.below hb4); clear hr4 hb4))
  have hr := heap_alloc_new w4 (.cells #[.int .i64 2, .slice A4 2 c4] 31)
  have R5 := Aside0.mk (Kd.R_reads' (Kd.R_alloc R4.out (.cells #[.int .i64 2, .slice A4 2 c4] 31)))
  have T5 := Aside0.mk (T4.out.below (below_alloc (Below.refl _ _) (.cells #[.int .i64 2, .slice A4 2 c4] 31)))
  have B5 := Aside0.mk (below_alloc B4.out (.cells #[.int .i64 2, .slice A4 2 c4] 31))
  obtain ⟨r, hrr⟩ : ∃ r, r = w4.heap.size := ⟨_, rfl⟩
  rw [← hrr] at hr ⊢
  have HR := Aside0.mk hr
  clear hr hrr T4 R4 B4
  generalize w4.alloc (.cells #[.int .i64 2, .slice A4 2 c4] 31) = w5 at HR R5 T5 B5 ⊢
  have RC := Aside0.mk (show Calls Tryd.prog 11 #[.pointer (some ⟨b, 0, none⟩), .int .i64 0, .int .i64 2] w5 fun e w' => e = .returned (.tuple #[.int .i64 0, .int .i64 4]) ∧ Below w5.heap.size w5 w' from (reach_calls b tab42 0 2 w5 T5.out (by decide)).mono (fun e w' h => ⟨h.1.trans (by kernel_rfl), h.2⟩))
  go_upto_region 8 with (first
    | (go_at_call 11; refine RC.out.mono ?_; rintro e w6 ⟨rfl, hb6⟩; have B6 := Aside0.mk hb6; clear hb6))
  have LN0 := Aside0.mk (show Calls Tryd.prog 10 #[.pointer (some ⟨b, 0, none⟩), .int .i64 0] w6 fun e w' => ∃ v, e = .returned (.agg #[.int .i64 0, v]) ∧ Kd.R (Kd.int .i64) 2 w' w6.heap.size (fun _ => True) v [8192, 8192] ∧ Below w6.heap.size w6 w' from line_in b tab42 0 w6 (T5.out.below B6.out) (by decide) (by decide) (by decide))
  go_wp2_with (first
    | (go_at_call 10; refine LN0.out.mono ?_; rintro e w7 ⟨v7, rfl, hr7, hb7⟩; obtain ⟨A7, c7, rfl⟩ := Kd.R_slice hr7; have B7 := Aside0.mk (below_step B6.out hb7); have hr9 := (B7.out.block r (blk_lt HR.out)).trans HR.out; have z0 : w7.cell? ⟨r, 0, none⟩ = some (.int .i64 2) := (blk_cell hr9 0).trans rfl; have z1 : w7.cell? ⟨r, 1, none⟩ = some (.slice A4 2 c4) := (blk_cell hr9 1).trans rfl; clear hr7 hb7 hr9)
    | (go_at_call 20; refine (SM.out _ A4 c4 _ _ (Kd.C_below R5.out.2.2 (below_alloc B7.out _)) R5.out.2.1 (C_lit w7 [8192, 8192] (by decide)) (Nat.le_refl _)).mono ?_; rintro e w8 ⟨rfl, ⟨nd, rfl⟩⟩))
  go_ret
  exact ⟨rfl, pw_below_drewN (below_step B5.out (below_alloc B7.out _)) _⟩

theorem rd_snoc (l : List S31) (x : S31) (j : Nat) : rd_T31 (l ++ [x]) (j : Int) = if j = l.length then x else rd_T31 l (j : Int) := by
  unfold rd_T31
  rw [Int.toNat_natCast, List.getD_eq_getElem?_getD, List.getD_eq_getElem?_getD]
  by_cases h : j < l.length
  · rw [List.getElem?_append_left h, if_neg (by omega)]
  · rw [List.getElem?_append_right (by omega)]
    by_cases e : j = l.length
    · subst e; simp
    · rw [if_neg e, List.getElem?_eq_none (by simp; omega), List.getElem?_eq_none (by omega)]
theorem resTab_rd (f n m : Int) : ∀ (i j : Nat), j < i → rd_T31 (resTab f n m i).lines (j : Int) = ⟨winLo f n m j, appL (rowV f n m j)⟩
  | 0, j, h => by omega
  | i + 1, j, h => by
    show rd_T31 ((resTab f n m i).lines ++ [_]) (j : Int) = _
    rw [rd_snoc, resTab_len]
    by_cases e : j = i
    · rw [if_pos e, e]
    · rw [if_neg e]; exact resTab_rd f n m i j (by omega)
theorem filTab_rd (n h : Int) (l : List Int) : ∀ (i j : Nat), j < i → rd_T31 (filTab n h l i).lines (j : Int) = ⟨(j : Int) - h, l⟩
  | 0, j, h => by omega
  | i + 1, j, hj => by
    show rd_T31 ((filTab n h l i).lines ++ [_]) (j : Int) = _
    rw [rd_snoc, filTab_len]
    by_cases e : j = i
    · rw [if_pos e, e]
    · rw [if_neg e]; exact filTab_rd n h l i j (by omega)
theorem filTab_most (n h : Int) (l : List Int) : ∀ i, 1 ≤ i → (filTab n h l i).most = l.length
  | 1, _ => by
    show mx 0 (l.length : Int) = _
    unfold mx; split <;> omega
  | i + 2, _ => by
    show mx (filTab n h l (i + 1)).most (l.length : Int) = _
    rw [filTab_most n h l (i + 1) (by omega)]; unfold mx; split <;> omega
theorem resCode_zero (f n m : Int) : ∀ (d i : Nat), (∀ j : Nat, i ≤ j → j < i + d → chkV (rowV f n m j) = 0) → resCode f n m i d = 0
  | 0, i, h => rfl
  | d + 1, i, h => by
    rw [resCode, if_pos (h i (Nat.le_refl _) (by omega))]
    exact resCode_zero f n m d (i + 1) (fun j h1 h2 => h j (by omega) (by omega))
theorem box_row {n : Int} (hn : 1 ≤ n) (i : Int) : winLo 0 n n i = i ∧ rowV 0 n n i = [1073741824] := by
  have e1 : winLo 0 n n i = i := by unfold winLo; rw [if_pos rfl, Int.mul_ediv_cancel _ (by omega)]
  have e2 : winHi 0 n n i = i + 1 := by
    unfold winHi cei; rw [if_pos rfl]
    have : -(i * n + n) = (-(i + 1)) * n := by rw [Int.neg_mul, Int.add_mul, Int.one_mul]
    rw [this, Int.mul_ediv_cancel _ (by omega)]; omega
  refine ⟨e1, ?_⟩
  unfold rowV
  rw [e1, e2, show (i + 1 - i).toNat = 1 by omega]
  show [wV 0 n n i (i + ((0 : Nat) : Int))] = _
  congr 1
  unfold wV partR
  rw [if_pos rfl]
  have e3 : mn (i * n + n) ((i + ((0 : Nat) : Int)) * n + n) - mx (i * n) ((i + ((0 : Nat) : Int)) * n) = n := by
    rw [show i + ((0 : Nat) : Int) = i by omega]; unfold mn mx; rw [if_neg (by omega), if_neg (by omega)]; omega
  rw [e3]
  unfold rdiv
  rw [if_pos (by omega)]
  have : 2 * (n * 1073741824) + n = (2 * n) * 1073741824 + n := by rw [Int.mul_assoc]
  rw [this, Int.add_comm, Int.add_mul_ediv_left _ _ (by omega), Int.ediv_eq_zero_of_lt (by omega) (by omega)]
  decide
theorem rdiv_self {c d : Int} (hd : 0 < d) : rdiv (c * d) d = c := by
  unfold rdiv
  rw [if_pos hd]
  have : 2 * (c * d) + d = d + (2 * d) * c := by rw [Int.mul_assoc, Int.mul_comm d c]; omega
  rw [this, Int.add_mul_ediv_left _ _ (by omega), Int.ediv_eq_zero_of_lt (by omega) (by omega)]; omega
theorem cubic_row {n : Int} (hn : 1 ≤ n) (hn2 : n ≤ 65536) (i : Int) : winLo 1 n n i = i - 1 ∧ rowV 1 n n i = [0, 1073741824, 0] := by
  have hr : reachR 1 n n = 4 * n := by unfold reachR mx; rw [if_pos rfl]; split <;> rfl
  have e1 : winLo 1 n n i = i - 1 := by
    unfold winLo; rw [if_neg (by decide), hr]
    have : 2 * (i * n) + n - n - 4 * n = (i - 2) * (2 * n) := by rw [Int.sub_mul, Int.mul_left_comm]; omega
    rw [this, Int.mul_ediv_cancel _ (by omega)]; omega
  have e2 : winHi 1 n n i = i + 2 := by
    unfold winHi cei; rw [if_neg (by decide), hr]
    have : -(2 * (i * n) + n - n + 4 * n) = (-(i + 2)) * (2 * n) := by rw [Int.neg_mul, Int.add_mul, Int.mul_left_comm]; omega
    rw [this, Int.mul_ediv_cancel _ (by omega)]; omega
  refine ⟨e1, ?_⟩
  unfold rowV
  rw [e1, e2, show (i + 2 - (i - 1)).toNat = 3 by omega]
  show [wV 1 n n i (i - 1 + ((0 : Nat) : Int)), wV 1 n n i (i - 1 + ((1 : Nat) : Int)), wV 1 n n i (i - 1 + ((2 : Nat) : Int))] = _
  have hm : mx n n = n := by unfold mx; split <;> rfl
  obtain ⟨q, hq⟩ : ∃ q, q = 2 * n := ⟨_, rfl⟩
  have hq1 : 0 < q * q * q := Int.mul_pos (Int.mul_pos (by omega) (by omega)) (by omega)
  have k1 : keyV (2 * n) (2 * n) = 0 := by
    rw [← hq]; unfold keyV
    rw [if_pos (by omega), show siz q = q by unfold siz; rw [if_neg (by omega)], if_pos (Int.le_refl _)]
    rw [show -(q * q * q) + 5 * (q * q * q) - 8 * (q * q * q) + 4 * (q * q * q) = 0 by omega]
    rw [show (0 : Int) * 1073741824 = 0 * (2 * (q * q * q)) by omega, rdiv_self (by omega)]; decide
  have k0 : keyV 0 (2 * n) = 1073741824 := by
    rw [← hq]; unfold keyV
    rw [if_pos (by omega), show siz 0 = 0 from rfl, if_neg (by omega)]
    rw [show 3 * ((0 : Int) * 0 * 0) - 5 * (0 * 0 * q) + 2 * (q * q * q) = 2 * (q * q * q) by rw [Int.zero_mul, Int.zero_mul]; omega]
    rw [show 2 * (q * q * q) * 1073741824 = 1073741824 * (2 * (q * q * q)) from Int.mul_comm _ _, rdiv_self (by omega)]; decide
  have f0 : wV 1 n n i (i - 1 + ((0 : Nat) : Int)) = 0 := by
    unfold wV; rw [if_neg (by decide), if_pos rfl, hm]
    have : fracR n n i (i - 1 + ((0 : Nat) : Int)) = -(2 * n) := by
      unfold fracR; rw [show i - 1 + ((0 : Nat) : Int) = i - 1 by omega, Int.mul_sub, Int.mul_one, Int.mul_comm n i]; omega
    rw [this, keyV_neg]; exact k1
  have f1 : wV 1 n n i (i - 1 + ((1 : Nat) : Int)) = 1073741824 := by
    unfold wV; rw [if_neg (by decide), if_pos rfl, hm]
    have : fracR n n i (i - 1 + ((1 : Nat) : Int)) = 0 := by
      unfold fracR; rw [show i - 1 + ((1 : Nat) : Int) = i by omega, Int.mul_comm n i]; omega
    rw [this]; exact k0
  have f2 : wV 1 n n i (i - 1 + ((2 : Nat) : Int)) = 0 := by
    unfold wV; rw [if_neg (by decide), if_pos rfl, hm]
    have : fracR n n i (i - 1 + ((2 : Nat) : Int)) = 2 * n := by
      unfold fracR; rw [show i - 1 + ((2 : Nat) : Int) = i + 1 by omega, Int.mul_add, Int.mul_one, Int.mul_comm n i]; omega
    rw [this]; exact k1
  rw [f0, f1, f2]

theorem box_same {N : Nat} (h : 1 ≤ N) : resCode 0 N N 0 N = 0 ∧ ∀ j : Nat, j < N → rd_T31 (resTab 0 N N N).lines (j : Int) = ⟨(j : Int), [16384]⟩ := by
  have hc : chkV [1073741824] = 0 := by kernel_rfl
  refine ⟨resCode_zero _ _ _ _ _ (fun j _ _ => by rw [(box_row (by omega) _).2]; exact hc), fun j hj => ?_⟩
  rw [resTab_rd _ _ _ _ _ hj, (box_row (by omega) _).1, (box_row (by omega) _).2]
  have : appL [1073741824] = [16384] := by kernel_rfl
  rw [this]
theorem cubic_same {N : Nat} (h : 1 ≤ N) (h2 : N ≤ 65536) : resCode 1 N N 0 N = 0 ∧ ∀ j : Nat, j < N → rd_T31 (resTab 1 N N N).lines (j : Int) = ⟨(j : Int) - 1, [0, 16384, 0]⟩ := by
  have hc : chkV [0, 1073741824, 0] = 0 := by kernel_rfl
  refine ⟨resCode_zero _ _ _ _ _ (fun j _ _ => by rw [(cubic_row (by omega) (by omega) _).2]; exact hc), fun j hj => ?_⟩
  rw [resTab_rd _ _ _ _ _ hj, (cubic_row (by omega) (by omega) _).1, (cubic_row (by omega) (by omega) _).2]
  have : appL [0, 1073741824, 0] = [0, 16384, 0] := by kernel_rfl
  rw [this]

theorem resTab_most (f n m : Int) : ∀ (i : Nat), 0 ≤ (resTab f n m i).most ∧ ∀ j : Nat, j < i → ((appL (rowV f n m j)).length : Int) ≤ (resTab f n m i).most
  | 0 => ⟨Int.le_refl _, fun j h => absurd h (by omega)⟩
  | i + 1 => by
    obtain ⟨a, b⟩ := resTab_most f n m i
    have e : (resTab f n m (i + 1)).most = mx (resTab f n m i).most ((appL (rowV f n m i)).length : Int) := rfl
    rw [e]
    have hm : (resTab f n m i).most ≤ mx (resTab f n m i).most ((appL (rowV f n m i)).length : Int) ∧ ((appL (rowV f n m i)).length : Int) ≤ mx (resTab f n m i).most ((appL (rowV f n m i)).length : Int) := by unfold mx; split <;> omega
    refine ⟨by omega, fun j hj => ?_⟩
    by_cases c : j = i
    · rw [c]; exact hm.2
    · have := b j (by omega); omega
theorem resTab_size (f n m : Int) (B : Int) (hB : 0 ≤ B) : ∀ (i : Nat), (∀ j : Nat, j < i → szFrom 0 (appL (rowV f n m j)) ≤ B) → (resTab f n m i).size ≤ B
  | 0, _ => hB
  | i + 1, h => by
    have a := resTab_size f n m B hB i (fun j hj => h j (by omega))
    have b := h i (by omega)
    have e : (resTab f n m (i + 1)).size = mx (resTab f n m i).size (szFrom 0 (appL (rowV f n m i))) := rfl
    rw [e]
    unfold mx; split <;> omega
/-- A resize's table, where sides are small: all that is asked. -/
theorem sums_facts {f n : Int} {M : Nat} (hf : 0 ≤ f ∧ f < 3) (hn : 1 ≤ n ∧ n ≤ 3000) (hM : 1 ≤ M ∧ M ≤ 60) : resCode f n M 0 M = 0 ∧ (resTab f n M M).size ≤ 131072 ∧ ∀ j : Nat, j < M → rd_T31 (resTab f n M M).lines (j : Int) = ⟨winLo f n M j, appL (rowV f n M j)⟩ ∧ 1 ≤ (appL (rowV f n M j)).length ∧ (appL (rowV f n M j)).length ≤ 18006 ∧ ((appL (rowV f n M j)).length : Int) ≤ (resTab f n M M).most ∧ psum (fun t => rd (appL (rowV f n M j)) (t : Int)) (appL (rowV f n M j)).length = 16384 ∧ (∀ t : Nat, t < (appL (rowV f n M j)).length → -134217728 ≤ rd (appL (rowV f n M j)) (t : Int) ∧ rd (appL (rowV f n M j)) (t : Int) ≤ 134217729) ∧ ((appL (rowV f n M j)).length : Int) = winHi f n M j - winLo f n M j := by
  have hm : ∀ j : Nat, j < M → mayR f n M j := fun j hj => ⟨hf.1, hf.2, hn.1, by omega, by omega, by omega, by omega, by omega⟩
  have ck := fun (j : Nat) (hj : j < M) => chk_row (hm j hj) hn.2 (show (M : Int) ≤ 60 by omega)
  refine ⟨resCode_zero f n M M 0 (fun j _ hj => (ck j (by omega)).1), resTab_size f n M 131072 (by decide) M (fun j hj => (taps_few (rowV_i64 f n M j) (ck j hj).1 (ck j hj).2.1 (ck j hj).2.2).1), fun j hj => ?_⟩
  have hlen : (appL (rowV f n M j)).length = (rowV f n M j).length := appL_len2 _
  have hg := good_of_chk (fun i => rd_i64 (rowV_i64 f n M j) _) (ck j hj).1
  have hb := (appL_bnd (rowV_i64 f n M j) (ck j hj).1).2
  have hmid := win_mid (hm j hj)
  have hl := rowV_len f n M j
  refine ⟨resTab_rd f n M M j hj, by rw [hlen]; exact hg.n0, by rw [hlen]; exact (ck j hj).2.1, (resTab_most f n M M).2 j hj, (taps_few (rowV_i64 f n M j) (ck j hj).1 (ck j hj).2.1 (ck j hj).2.2).2.2.1, fun t ht => ?_, by rw [hlen]; omega⟩
  refine hb _ ?_
  unfold rd
  rw [List.getD_eq_getElem?_getD, Int.toNat_natCast, List.getElem?_eq_getElem ht]
  exact List.getElem_mem _
theorem psum_small {g : Nat → Int} : ∀ n : Nat, n ≤ 100000 → (∀ t, t < n → -134217728 ≤ g t ∧ g t ≤ 134217729) → -134217728 * (n : Int) ≤ psum g n ∧ psum g n ≤ 134217729 * (n : Int)
  | 0, _, _ => by simp [psum]
  | n + 1, h, hg => by
    have a := psum_small n (by omega) (fun t ht => hg t (by omega))
    have b := hg n (by omega)
    rw [psum]; omega

set_option maxHeartbeats 8000000 in
set_option maxRecDepth 100000 in
theorem tableSums_calls (f n m : Int) (hf : 0 ≤ f ∧ f ≤ 255) (hn : 0 ≤ n ∧ n ≤ 65535) (hm : 0 ≤ m ∧ m ≤ 65535) (w : World) (hG : GL w) : Calls Tryd.prog 5 #[.int .u8 f, .int .u16 n, .int .u16 m] w fun e w' => e = .returned (.bool true) ∧ Below w.heap.size w w' := by
  have LV := Aside0.mk (lives08_calls w hG)
  obtain ⟨F, hF⟩ : ∃ F, F = f % 3 := ⟨_, rfl⟩
  obtain ⟨N, hN⟩ : ∃ N, N = 1 + n % 3000 := ⟨_, rfl⟩
  obtain ⟨M, hM⟩ : ∃ M : Nat, (M : Int) = 1 + m % 60 := ⟨(1 + m % 60).toNat, by omega⟩
  have hF1 : 0 ≤ F ∧ F < 3 := by omega
  have hN1 : 1 ≤ N ∧ N ≤ 3000 := by omega
  have hM1 : 1 ≤ M ∧ M ≤ 60 := by omega
  obtain ⟨s1, s2, s3⟩ := sums_facts hF1 hN1 hM1
  have rs := fun w' (hb : Below w.heap.size w w') => resize_calls F N M w' (hG.below hb) ⟨hF1.1, hF1.2, hN1.1, by omega, by omega, by omega⟩
  rw [s1] at rs
  obtain ⟨t, ht⟩ : ∃ t, t = resTab F N M M := ⟨_, rfl⟩
  have tn : t.n = N := by rw [ht]; have : ∀ i, (resTab F N M i).n = N := by intro i; induction i with | zero => rfl | succ i ih => exact ih
                          exact this M
  have tl : t.lines.length = M := by rw [ht]; exact resTab_len _ _ _ _
  rw [← ht] at rs s2 s3
  have RS := Aside0.mk rs
  have S3 := Aside0.mk s3
  have HE := Aside0.mk (And.intro hF (And.intro hN (And.intro hM (And.intro tn tl))))
  have g2 : decide (131072 < t.size) = false := decide_eq_false (by omega)
  have mixed : Tryd.prog.follows .mixedOrders = true := by kernel_rfl
  clear hG rs s1 s2 s3 hF hN hM ht tn tl
  go_enter Tryd.func5, Tryd.ntmps5
  go_upto_region 4 with (go_at_call 8; refine LV.out.mono ?_; rintro e w1 ⟨rfl, hb1⟩; have B1 := Aside0.mk hb1; clear hb1)
  rw [← HE.out.2.1, ← HE.out.2.2.1]
  clear LV hn hm
  go_upto_region 5 with (first
    | (go_at_call 9; rw [← HE.out.1]; refine (RS.out _ B1.out).mono ?_; rintro e w3 ⟨hb3, hT⟩; rw [if_pos rfl] at hT; obtain ⟨b, rfl, hT⟩ := hT; have B3 := Aside0.mk (below_step B1.out hb3); have T3 := Aside0.mk hT.reads; clear hb3 hT))
  clear RS hf
  have FR := Aside0.mk (show Calls Tryd.prog 14 #[.pointer (some ⟨b, 0, none⟩)] w3 fun e w' => e = .returned (.int .i64 N) ∧ w' = w3 by have h := from_calls b t w3 T3.out; rw [HE.out.2.2.2.1] at h; exact h)
  have TO := Aside0.mk (show Calls Tryd.prog 15 #[.pointer (some ⟨b, 0, none⟩)] w3 fun e w' => e = .returned (.int .i64 M) ∧ w' = w3 by have h := to_calls b t w3 T3.out; rw [HE.out.2.2.2.2] at h; exact h)
  have q0 : (N != N) = false := by simp
  have q1 : ((M : Int) != (M : Int)) = false := by simp
  go_upto_region 8 with (first
    | (go_at_call 14; (with_reducible refine FR.out.mono ?_); rintro e w4 ⟨rfl, rfl⟩)
    | (go_at_call 15; (with_reducible refine TO.out.mono ?_); rintro e w4 ⟨rfl, rfl⟩))
  clear FR TO q0 q1
  go_loopg [54] M (fun kx s54 wr => ∃ (a : Nat), s54 = .int .i64 a ∧ a ≤ M ∧ M - a ≤ kx ∧ Aside0 (Below w4.heap.size w4 wr))
  case atStart => exact ⟨0, rfl, by omega, by omega, ⟨Below.refl _ _⟩⟩
  case round =>
    obtain ⟨a, rfl, a1, a2, HW⟩ := hrel
    by_cases hla : (a : Int) < (M : Int)
    · obtain ⟨l1, l2, l3, l4, l5, l6, l7⟩ := S3.out a (by omega)
      have wa : IntKind.i64.wrap ((a : Int) + 1) = (a : Int) + 1 := by rw [i64w]; exact w64_id (by omega) (by omega)
      have LN := Aside0.mk (line_in b t (a : Int) wr (T3.out.below HW.out) (by omega) (by rw [HE.out.2.2.2.2]; exact hla) (by rw [l1]; show (appL (rowV F N M a)).length ≤ 2097152; omega))
      rw [l1] at LN
      obtain ⟨tp, htp⟩ : ∃ tp, tp = appL (rowV F N M a) := ⟨_, rfl⟩
      obtain ⟨lo, hlo⟩ : ∃ tp, tp = winLo F N M a := ⟨_, rfl⟩
      rw [← htp] at l2 l3 l4 l5 l6 LN
      rw [← hlo] at LN
      obtain ⟨L, hL⟩ : ∃ L, L = tp.length := ⟨_, rfl⟩
      have LN2 := Aside0.mk (show Calls Tryd.prog 10 #[.pointer (some ⟨b, 0, none⟩), .int .i64 a] wr fun e w'' => ∃ v, e = .returned (.agg #[.int .i64 lo, v]) ∧ Kd.R (Kd.int .i64) 2 w'' wr.heap.size (fun _ => True) v tp ∧ Below wr.heap.size wr w'' from LN.out)
      rw [← hL] at l2 l3 l4 l5 l6
      have L5 := Aside0.mk l5
      have L6 := Aside0.mk l6
      have HL := Aside0.mk hL
      have g1 : decide (t.most < (L : Int)) = false := decide_eq_false (by omega)
      have g0 : ((L : Int) == 0) = false := by rw [beq_eq_false_iff_ne]; omega
      clear l1 l5 l6 l7 LN htp hlo hL
      go_upto_region 11 with (go_at_call 10; refine LN2.out.mono ?_; rintro e w7 ⟨v7, rfl, hr7, hb7⟩; obtain ⟨A7, c7, rfl⟩ := Kd.R_slice hr7; have R7 := Aside0.mk hr7; have B7 := Aside0.mk (below_step HW.out hb7); rw [← HL.out] at R7 ⊢; clear hr7 hb7)
      have hn := heap_alloc_new w7 (.cells #[.int .i64 lo, .slice A7 L c7] 31)
      have B8 := Aside0.mk (below_alloc B7.out (.cells #[.int .i64 lo, .slice A7 L c7] 31))
      have hC := (Kd.R_reads' (Kd.R_alloc R7.out (.cells #[.int .i64 lo, .slice A7 L c7] 31))).2.2
      have HC := Aside0.mk hC
      obtain ⟨r7, hr7⟩ : ∃ r, r = w7.heap.size := ⟨_, rfl⟩
      rw [← hr7] at hn ⊢
      clear hC hr7
      generalize w7.alloc (.cells #[.int .i64 lo, .slice A7 L c7] 31) = w8 at hn B8 HC ⊢
      have y0 : w8.cell? ⟨r7, 0, none⟩ = some (.int .i64 lo) := (blk_cell hn 0).trans rfl
      have y1 : w8.cell? ⟨r7, 1, none⟩ = some (.slice A7 L c7) := (blk_cell hn 1).trans rfl
      clear hn R7
      go_upto_region 13 with fail
      go_loopg [13, 63] L (fun kx s13 s63 wz => ∃ (j : Nat), s13 = .int .i64 (psum (fun t => rd tp (t : Int)) j) ∧ s63 = .int .i64 j ∧ j ≤ L ∧ L - j ≤ kx ∧ wz = w8)
      case atStart => exact ⟨0, rfl, rfl, by omega, by omega, rfl⟩
      case round =>
        obtain ⟨j, rfl, rfl, j1, j2, rfl⟩ := hrel
        by_cases hlj : (j : Int) < (L : Int)
        · obtain ⟨ad, e7, t7⟩ := Kd.at_int HC.out (j : Int) (by omega) (by rw [← HL.out]; exact hlj)
          cases e7
          rw [Int.toNat_natCast] at t7
          have wj : IntKind.i64.wrap ((j : Int) + 1) = (j : Int) + 1 := by rw [i64w]; exact w64_id (by omega) (by omega)
          have pj := psum_small (g := fun t => rd tp (t : Int)) j (by omega) (fun t ht => L6.out t (by omega))
          have pj1 := psum_small (g := fun t => rd tp (t : Int)) (j + 1) (by omega) (fun t ht => L6.out t (by omega))
          have es : psum (fun t => rd tp (t : Int)) (j + 1) = psum (fun t => rd tp (t : Int)) j + rd tp (j : Int) := rfl
          have ws : IntKind.i64.wrap (psum (fun t => rd tp (t : Int)) j + rd tp (j : Int)) = psum (fun t => rd tp (t : Int)) (j + 1) := by rw [i64w, ← es]; exact w64_id (by omega) (by omega)
          have zj : (0 : Int) ≤ (j : Int) := by omega
          obtain ⟨sj, hsj⟩ : ∃ s, s = psum (fun t => rd tp (t : Int)) j := ⟨_, rfl⟩
          obtain ⟨sk, hsk⟩ : ∃ s, s = psum (fun t => rd tp (t : Int)) (j + 1) := ⟨_, rfl⟩
          rw [← hsj, ← hsk] at ws
          rw [← hsj]
          have HS := Aside0.mk hsk
          clear pj pj1 es hsj hsk
          go_wp2
          go_roundg (L - (j + 1))
          case measure => omega
          case rel => exact ⟨j + 1, by rw [← HS.out], by simp, by omega, Nat.le_refl _, rfl⟩
        · have : j = L := by omega
          subst this
          rw [L5.out]
          have M1 := Aside0.mk (fun nn => most_calls b t (wr.drewN nn) (((T3.out.below B8.out)).below (pw_below_drewN (Below.refl _ _) nn)))
          have Z1 := Aside0.mk (fun nn => size_calls b t (wr.drewN nn) (((T3.out.below B8.out)).below (pw_below_drewN (Below.refl _ _) nn)))
          go_wp2
          go_quiet (first
            | (go_at_call 16; exact Calls.quiet_of_same (M1.out _))
            | (go_at_call 17; exact Calls.quiet_of_same (Z1.out _)))
          go_wp2
          go_roundg (M - (a + 1))
          case measure => omega
          case rel => exact ⟨a + 1, by simp, by omega, Nat.le_refl _, ⟨pw_below_drewN B8.out _⟩⟩
    · have : a = M := by omega
      subst this
      go_wp2
      go_ret
      exact ⟨rfl, below_step B3.out HW.out⟩

end Go.Proofs.YthaajkpiknbdbaaDoor.QA
