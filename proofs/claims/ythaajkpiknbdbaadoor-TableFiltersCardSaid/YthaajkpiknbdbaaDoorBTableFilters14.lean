/- Joined by wip/tools/bundle.py out of: T08f TLaid WSized. -/
import Derived.Test.YthaajkpiknbdbaaDoorBTableFilters1
import Derived.Test.YthaajkpiknbdbaaDoorBTableFilters3
import Derived.Test.YthaajkpiknbdbaaDoorBTableFilters6
import Derived.Test.YthaajkpiknbdbaaDoorBTableFilters10
import Derived.Test.YthaajkpiknbdbaaDoorBTableFilters11
import Derived.Handy
import Derived.Test.YthaajkpiknbdbaaDoorBTableFilters2
import Derived.Test.YthaajkpiknbdbaaDoorBTableFilters0
import Derived.Test.YthaajkpiknbdbaaDoorBTableFilters12
import Derived.Test.YthaajkpiknbdbaaDoorBTableFilters13
import Derived.Test.YthaajkpiknbdbaaDoorRows
import Derived.ProofKit
import Derived.OpenShut
import Derived.LaidMore
import Derived.Lay
import Derived.ChangeSame
import Derived.SizedLaws
import Derived.ChangeSlices
namespace Go.Proofs.YthaajkpiknbdbaaDoor.QA
open Go.RowKit Go.Proofs.YthaajkpiknbdbaaDoorW.PrintWords Go.Proofs.YthaajkpiknbdbaaDoorW.PrintLast Go.Proofs.YthaajkpiknbdbaaDoorW.PrintMore Go.Proofs.YthaajkpiknbdbaaDoor.T
set_option linter.unusedVariables false
set_option linter.unusedSimpArgs false
theorem told_fil {l : List Int} {N : Nat} (h1 : 1 ≤ N) (h2 : N ≤ 65536) (hx : ∀ x ∈ l, I64 x) (hc : filCode l N = 0) : Told (filTab N ((l.length / 2 : Nat) : Int) (appL l) N) := by
  have hfc : filCode l N = if l.length % 2 = 0 then 7 else chkV l := by unfold filCode; rw [if_pos ⟨by omega, by omega⟩]
  rw [hfc] at hc
  have hk : chkV l = 0 := by
    by_cases c : l.length % 2 = 0
    · rw [if_pos c] at hc; exact absurd hc (by decide)
    · rw [if_neg c] at hc; exact hc
  have hms : ∀ i, (filTab N ((l.length / 2 : Nat) : Int) (appL l) i).most = mostU (filTab N ((l.length / 2 : Nat) : Int) (appL l) i).lines ∧ (filTab N ((l.length / 2 : Nat) : Int) (appL l) i).size = sizeU (filTab N ((l.length / 2 : Nat) : Int) (appL l) i).lines := by
    intro i
    induction i with
    | zero => exact ⟨rfl, rfl⟩
    | succ i ih =>
      refine ⟨?_, ?_⟩
      · show mx (filTab N ((l.length / 2 : Nat) : Int) (appL l) i).most _ = mostU ((filTab N ((l.length / 2 : Nat) : Int) (appL l) i).lines ++ [_])
        rw [ih.1]; unfold mostU; rw [List.foldl_append]; rfl
      · show mx (filTab N ((l.length / 2 : Nat) : Int) (appL l) i).size _ = sizeU ((filTab N ((l.length / 2 : Nat) : Int) (appL l) i).lines ++ [_])
        rw [ih.2]; unfold sizeU; rw [List.foldl_append]; rfl
  refine ⟨(hms N).1, (hms N).2, by rw [filTab_len]; omega, fun o ho => ?_⟩
  rw [filTab_len] at ho
  rw [filTab_rd _ _ _ N o ho]
  have hl := appL_bnd hx hk
  have hg := good_of_chk (fun i => rd_i64 hx _) hk
  refine ⟨⟨?_, ?_, ?_, ?_⟩, appL_i64 hx hk⟩
  · show 1 ≤ (appL l).length
    rw [appL_len2]; exact hg.n0
  · show (appL l).length ≤ 2097152
    rw [appL_len2]; have := hl.1; omega
  · show -1099511627776 ≤ (o : Int) - ((l.length / 2 : Nat) : Int)
    have := hl.1; omega
  · show (o : Int) - ((l.length / 2 : Nat) : Int) ≤ 1099511627776
    have := hl.1; omega
theorem filTab_n (n h : Int) (l : List Int) : ∀ i, (filTab n h l i).n = n
  | 0 => rfl
  | i + 1 => filTab_n n h l i
set_option maxHeartbeats 8000000 in
set_option maxRecDepth 100000 in
theorem tableFilters_calls (A0 : Option Addr) (c0 : Nat) (l : List Int) (n i k : Int) (w : World) (hG : GL w) (hr0 : Kd.C (Kd.int .i64) w A0 l.length l) (hc0 : l.length ≤ c0) (hx : ∀ x ∈ l, I64 x) (hl : l.length < 17592186044416) : Calls Tryd.prog 6 #[.slice A0 l.length c0, .int .i64 n, .int .i64 i, .int .i64 k] w fun e w' => e = .returned (.bool true) ∧ Below w.heap.size w w' := by
  have LV := Aside0.mk (fun w' (hb : Below w.heap.size w w') => lives08_calls w' (hG.below hb))
  have mixed : Tryd.prog.follows .mixedOrders = true := by kernel_rfl
  obtain ⟨L, hL⟩ : ∃ L, L = l.length := ⟨_, rfl⟩
  rw [← hL]
  by_cases hg : 100 < L ∨ (60 < n ∧ n ≤ 65536)
  · by_cases g1 : 100 < L
    · have g1' : (100 : Int) < (L : Int) := by omega
      clear hg hG hr0 hL
      go_enter Tryd.func6, Tryd.ntmps6
      go_upto_region 2 with (go_at_call 8; refine (LV.out _ (Below.refl _ _)).mono ?_; rintro e w1 ⟨rfl, hb1⟩; have B1 := Aside0.mk hb1; clear hb1)
      go_wp2_with (go_at_call 8; refine (LV.out _ B1.out).mono ?_; rintro e w2 ⟨rfl, hb2⟩; have B2 := Aside0.mk (below_step B1.out hb2); clear hb2)
      go_ret
      exact ⟨rfl, B2.out⟩
    · have g2 : 60 < n ∧ n ≤ 65536 := by rcases hg with h | h; exact absurd h g1; exact h
      obtain ⟨g2, g3⟩ := g2
      have g1' : ¬ (100 : Int) < (L : Int) := by omega
      clear hg hG hr0 hL g1
      go_enter Tryd.func6, Tryd.ntmps6
      go_upto_region 2 with (go_at_call 8; refine (LV.out _ (Below.refl _ _)).mono ?_; rintro e w1 ⟨rfl, hb1⟩; have B1 := Aside0.mk hb1; clear hb1)
      go_wp2_with (go_at_call 8; refine (LV.out _ B1.out).mono ?_; rintro e w2 ⟨rfl, hb2⟩; have B2 := Aside0.mk (below_step B1.out hb2); clear hb2)
      go_ret
      exact ⟨rfl, B2.out⟩
  · have g1 : ¬ (100 : Int) < (L : Int) := by omega
    have gn2 : (¬ 60 < n) ∨ (60 < n ∧ ¬ n ≤ 65536) := by omega
    have hLl : L < 17592186044416 := by omega
    have main : ∃ (c : Int) (t : Tab), (c = 0 → Told t ∧ t.n = n ∧ 1 ≤ t.lines.length) ∧ (∀ A cc w', Kd.C (Kd.int .i64) w' A L l → L ≤ cc → Calls Tryd.prog 18 #[.slice A L cc, .int .i64 n] w' (TabP t c w')) ∧ ∀ w', Below w.heap.size w w' → Calls Tryd.prog 19 #[.slice A0 L c0, .int .i64 n] w' fun e w'' => Below w'.heap.size w' w'' ∧ if c = 0 then ∃ A cc, e = .returned (.tuple #[.slice A t.lines.length cc, .int .i64 0]) ∧ t.lines.length ≤ cc ∧ Kd.C k62 w'' A t.lines.length (t.lines.map toR) else e = .returned (.tuple #[.slice none 0 0, .int .i64 c]) := by
      subst hL
      by_cases hok : 1 ≤ n ∧ n ≤ 65536
      · obtain ⟨N, rfl⟩ := Int.eq_ofNat_of_zero_le (show 0 ≤ n by omega)
        have n1 : 1 ≤ N := by omega
        have n2 : N ≤ 65536 := by omega
        refine ⟨filCode l N, filTab N ((l.length / 2 : Nat) : Int) (appL l) N, fun hc => ⟨told_fil n1 n2 hx hc, filTab_n _ _ _ _, by rw [filTab_len]; exact n1⟩, fun A cc w' h1 h2 => filter_calls A cc l N w' h1 h2 hx (by omega) n1 n2, fun w' hb => ?_⟩
        refine (refFilter_calls A0 c0 l N w' (Kd.C_below hr0 hb) hc0 hx (by omega) n1 n2).mono ?_
        rintro e w'' ⟨h1, h2⟩
        refine ⟨h1, ?_⟩
        rw [filTab_len]
        exact h2
      · refine ⟨6, ⟨0, [], 0, 0⟩, fun h => absurd h (by decide), fun A cc w' h1 h2 => (filter_bad A cc l n w' hok).mono (fun e w'' h => ⟨h.1, by rw [if_neg (by decide)]; exact h.2⟩), fun w' hb => (refFilter_bad A0 c0 l n w' hok).mono (fun e w'' h => ⟨h.1, by rw [if_neg (by decide)]; exact h.2⟩)⟩
    obtain ⟨c, t, ht, hr, hf⟩ := main
    have RS := Aside0.mk hr
    have RF := Aside0.mk hf
    have HL := Aside0.mk hL
    have SQ := Aside0.mk (fun w' A2 c2 (h1 : Kd.C (Kd.int .i64) w' A2 l.length l) (h2 : l.length ≤ c2) (h3 : Kd.C (Kd.int .i64) w' A0 l.length l) => smaltoref06_Same.calls (l.length + 2) A2 c2 l A0 c0 l true w' h1 h2 h3 hc0 (same_refl l (by omega) (Nat.le_refl _)))
    rw [← hL] at SQ hr0 hc0
    have HR0 := Aside0.mk hr0
    have HC0 := Aside0.mk hc0
    have LML := Aside0.mk hLl
    clear hg hr hf hr0 hc0 hx hl hL hLl
    by_cases hc : c = 0
    · subst hc
      obtain ⟨T, hn, hp⟩ := ht rfl
      have SM := Aside0.mk (fun (b : Nat) A cc w' (h1 : TabC w' b t) (h2 : Kd.C k62 w' A t.lines.length (t.lines.map toR)) (h3 : t.lines.length ≤ cc) => same08_calls b t A cc i k w' h1 T h2 h3)
      rw [hn] at SM
      have LI := Aside0.mk (fun b w' (h : TabC w' b t) => line_in b t 0 w' h (by omega) (by omega) (T.l 0 hp).1.2.1)
      have hp1 := (T.l 0 hp).1.1
      have hp2 := (T.l 0 hp).1.2.1
      obtain ⟨tp, htp⟩ : ∃ v, v = (rd_T31 t.lines ((0 : Nat) : Int)).f1 := ⟨_, rfl⟩
      obtain ⟨f0, hf0⟩ : ∃ v, v = (rd_T31 t.lines ((0 : Nat) : Int)).f0 := ⟨_, rfl⟩
      rw [← htp] at hp1 hp2
      have LI2 := Aside0.mk (fun b w' (h : TabC w' b t) => show Calls Tryd.prog 10 #[.pointer (some ⟨b, 0, none⟩), .int .i64 0] w' fun e w'' => ∃ v, e = .returned (.agg #[.int .i64 f0, v]) ∧ Kd.R (Kd.int .i64) 2 w'' w'.heap.size (fun _ => True) v tp ∧ Below w'.heap.size w' w'' by rw [htp, hf0]; exact LI.out b w' h)
      have HP1 := Aside0.mk hp1
      have HP2 := Aside0.mk hp2
      clear ht hn hG LI htp hf0 T hp hp1 hp2
      rcases gn2 with g3 | ⟨g3, g4⟩
      all_goals (
        go_enter Tryd.func6, Tryd.ntmps6
        go_upto_region 3 with (first
          | (go_at_call 8; refine (LV.out _ (Below.refl _ _)).mono ?_; rintro e w1 ⟨rfl, hb1⟩; have B1 := Aside0.mk hb1; clear hb1))
        go_upto_region 4 with (first
          | ((with_reducible refine gate_dst (N := 32) rfl ?_); refine Kd.R_lit (Kd.int .i64) _ 2 ?hg (N := 32) ?hd (xs := ([] : List Int)) (inner := []) (ok := fun _ => True) (okp := fun _ => True) ?hr ?hp (fun _ hk => hk) trivial (Below.refl _ _) (Nat.le_refl _) (by simp) ?_; (case hd => rfl); (case hg => rfl); (case hr => first | (go_simp; done) | (go_simp; rfl)); (case hp => exact (Reps.none _ _)); intro v5 w2 ho hb hg_ hnew_; have O5 := Aside0.mk (Kd.R_lower ho B1.out.size); have B2 := Aside0.mk (below_step B1.out hb); clear hg_ hnew_ ho hb)
          | (at_builtin; refine Kd.R_append_rows (Kd.int .i64) (w0 := w) w.heap.size rfl (.tmp 32) (.tmp 33) 29 2 (.int .i64 0) 8 rfl Tryd.underlying29 info2 rfl (by decide) (by omega) v5 [] l _ _ _ (fun _ => True) (fun _ => False) rfl rfl ?aO ?aR (fun _ _ h => h) (fun _ h => h.elim) ?aF ?aB ?aS ?aL ?_; (case aR => exact (Kd.C_below HR0.out B2.out)); (case aB => exact B2.out); (case aF => exact (fun _ _ => trivial)); (case aO => exact O5.out); (case aS => exact B2.out.size); (case aL => have := LML.out; have := HL.out; simp; omega); intro v6 w3 ho hb hg hat; obtain ⟨A6, c6, e6, l6, g6⟩ := Kd.R_reads ho; rw [List.nil_append, ← HL.out] at e6 l6 g6; subst e6; have G6 := Aside0.mk g6; have B3 := Aside0.mk hb; clear O5 B2 ho hb hg hat g6))
        go_upto_region 7 with (first
          | (go_at_call 18; refine (RS.out A6 c6 _ G6.out l6).mono ?_; rintro e w4 ⟨hb4, hT⟩; rw [if_pos rfl] at hT; obtain ⟨b, rfl, hT⟩ := hT; have B4 := Aside0.mk (below_step B3.out hb4); have TT := Aside0.mk hT.reads; have G4 := Aside0.mk (Kd.C_below G6.out hb4); clear hb4 hT)
          | (go_at_call 19; refine (RF.out _ B4.out).mono ?_; rintro e w5 ⟨hb5, hv⟩; (first | rw [if_pos rfl] at hv | rw [if_pos trivial] at hv); obtain ⟨A7, c7, rfl, l7, g7⟩ := hv; have B5 := Aside0.mk (below_step B4.out hb5); have T5 := Aside0.mk (TT.out.below hb5); have G5 := Aside0.mk (Kd.C_below G4.out hb5); have G7 := Aside0.mk g7; clear hb5 g7 TT G4)
          | (go_at_call 20; refine (SQ.out _ A6 c6 G5.out l6 (Kd.C_below HR0.out B5.out)).mono ?_; rintro e w6 ⟨rfl, ⟨nd, rfl⟩⟩; obtain ⟨wa, hwa⟩ : ∃ u, u = w5.drewN nd := ⟨_, rfl⟩; rw [← hwa]; have bd := pw_below_drewN (Below.refl w5.heap.size w5) nd; rw [← hwa] at bd; have B6 := Aside0.mk (below_step B5.out bd); have T6 := Aside0.mk (T5.out.below bd); have G8 := Aside0.mk (Kd.C_below G7.out bd); clear hwa bd B5 T5 G7 G5)
          | (go_at_call 10; refine (LI2.out b _ T6.out).mono ?_; rintro e w7 ⟨v7, rfl, hr, hb⟩; obtain ⟨g, cp, rfl, hbg, hgl, -⟩ := Kd.R_form hr HP1.out; have HGL := Aside0.mk hgl; have B7 := Aside0.mk (below_step B6.out hb); have B8 := Aside0.mk hb; have R7 := Aside0.mk hr; have HBG := Aside0.mk hbg; clear hr hb hbg hgl))
        obtain ⟨gx, hgx⟩ : ∃ q, q = w7.heap.size := ⟨_, rfl⟩
        have X8 := Aside0.mk (heap_alloc_new w7 (.cells #[.int .i64 f0, .slice (some ⟨g, 0, none⟩) tp.length cp] 31 (0, 0)))
        rw [← hgx] at X8 ⊢
        have HNE := Aside0.mk (show gx ≠ g by rw [hgx]; have := HGL.out; omega)
        obtain ⟨w8, hw8⟩ : ∃ u, u = w7.alloc (.cells #[.int .i64 f0, .slice (some ⟨g, 0, none⟩) tp.length cp] 31 (0, 0)) := ⟨_, rfl⟩
        have D8 := Aside0.mk (show Below w.heap.size w w8 by rw [hw8]; exact B7.out.alloc B7.out.size _)
        have E8 := Aside0.mk (show Below wa.heap.size wa w8 by rw [hw8]; exact B8.out.alloc B8.out.size _)
        have R8 := Aside0.mk (show Kd.R (Kd.int .i64) 2 w8 wa.heap.size (fun _ => True) (.slice (some ⟨g, 0, none⟩) tp.length cp) tp by rw [hw8]; exact Kd.R_alloc R7.out _)
        rw [← hw8] at X8 ⊢
        clear R7 B7 B8 hgx hw8
        go_loopg [70] tp.length (fun kx s70 wr => ∃ (j : Nat) (xs : List Int), s70 = .int .i64 j ∧ j ≤ tp.length ∧ tp.length - j ≤ kx ∧ Aside0 (xs.length = tp.length) ∧ Aside0 (Kd.R (Kd.int .i64) 2 wr wa.heap.size (fun _ => True) (.slice (some ⟨g, 0, none⟩) tp.length cp) xs) ∧ Aside0 (Below w.heap.size w wr) ∧ Aside0 (Below wa.heap.size wa wr) ∧ Aside0 (wr.heap[gx]? = some (.cells #[.int .i64 f0, .slice (some ⟨g, 0, none⟩) tp.length cp] 31 (0, 0))))
        case atStart => exact ⟨0, tp, by simp, by omega, by omega, ⟨rfl⟩, R8, D8, E8, X8⟩
        case round =>
          obtain ⟨j, xs, rfl, j1, j2, hxl, HR, HB, HA, HX⟩ := hrel
          have wi : IntKind.i64.wrap ((j : Int) + 1) = (j : Int) + 1 := by rw [i64w]; exact w64_id (by omega) (by have := HP2.out; omega)
          have hx1 : wr.cell? ⟨gx, 1, none⟩ = some (.slice (some ⟨g, 0, none⟩) tp.length cp) := (blk_cell HX.out 1).trans rfl
          have hx2 := blk_frozen HX.out 1
          by_cases hlt : (j : Int) < (tp.length : Int)
          · have hcl := Kd.R_celln (0 : Int) HR.out (j : Int) (by omega) (by omega)
            obtain ⟨hc1, hc2⟩ := hcl
            rw [show ((j : Int)).toNat = j from rfl] at hc1 hc2
            go_wp2
            go_roundg (tp.length - (j + 1))
            case measure => omega
            case rel =>
              refine ⟨j + 1, xs.set j _, by simp, by omega, Nat.le_refl _, ⟨by rw [List.length_set]; exact hxl.out⟩, ⟨Kd.R_putn HR.out (j : Int) _⟩, ⟨HB.out.setCell ?_ _⟩, ⟨HA.out.setCell ?_ _⟩, ⟨blk_far HX.out HNE.out _⟩⟩
              · exact Nat.le_trans B6.out.size HBG.out
              · exact HBG.out
          · go_wp2_with (go_at_call 13; refine (SM.out b A7 c7 _ (T6.out.below HA.out) (Kd.C_below G8.out HA.out) l7).mono ?_; rintro e w9 ⟨rfl, hb9⟩; have B9 := Aside0.mk (below_step HB.out hb9); clear hb9)
            go_ret
            exact ⟨rfl, B9.out⟩)
    · have b1 : (c != c) = false := by simp
      have b2 : (c != 0) = true := by simpa using hc
      have HC := Aside0.mk hc
      clear ht hG hc
      rcases gn2 with g3 | ⟨g3, g4⟩
      all_goals (
        go_enter Tryd.func6, Tryd.ntmps6
        go_upto_region 3 with (first
          | (go_at_call 8; refine (LV.out _ (Below.refl _ _)).mono ?_; rintro e w1 ⟨rfl, hb1⟩; have B1 := Aside0.mk hb1; clear hb1))
        go_upto_region 4 with (first
          | ((with_reducible refine gate_dst (N := 32) rfl ?_); refine Kd.R_lit (Kd.int .i64) _ 2 ?hg (N := 32) ?hd (xs := ([] : List Int)) (inner := []) (ok := fun _ => True) (okp := fun _ => True) ?hr ?hp (fun _ hk => hk) trivial (Below.refl _ _) (Nat.le_refl _) (by simp) ?_; (case hd => rfl); (case hg => rfl); (case hr => first | (go_simp; done) | (go_simp; rfl)); (case hp => exact (Reps.none _ _)); intro v5 w2 ho hb hg_ hnew_; have O5 := Aside0.mk (Kd.R_lower ho B1.out.size); have B2 := Aside0.mk (below_step B1.out hb); clear hg_ hnew_ ho hb)
          | (at_builtin; refine Kd.R_append_rows (Kd.int .i64) (w0 := w) w.heap.size rfl (.tmp 32) (.tmp 33) 29 2 (.int .i64 0) 8 rfl Tryd.underlying29 info2 rfl (by decide) (by omega) v5 [] l _ _ _ (fun _ => True) (fun _ => False) rfl rfl ?aO ?aR (fun _ _ h => h) (fun _ h => h.elim) ?aF ?aB ?aS ?aL ?_; (case aR => exact (Kd.C_below HR0.out B2.out)); (case aB => exact B2.out); (case aF => exact (fun _ _ => trivial)); (case aO => exact O5.out); (case aS => exact B2.out.size); (case aL => have := LML.out; have := HL.out; simp; omega); intro v6 w3 ho hb hg hat; obtain ⟨A6, c6, e6, l6, g6⟩ := Kd.R_reads ho; rw [List.nil_append, ← HL.out] at e6 l6 g6; subst e6; have G6 := Aside0.mk g6; have B3 := Aside0.mk hb; clear O5 B2 ho hb hg hat g6))
        go_wp2_with (first
          | (go_at_call 18; refine (RS.out A6 c6 _ G6.out l6).mono ?_; rintro e w4 ⟨hb4, hT⟩; rw [if_neg HC.out] at hT; obtain rfl := hT; have B4 := Aside0.mk (below_step B3.out hb4); have G4 := Aside0.mk (Kd.C_below G6.out hb4); clear hb4)
          | (go_at_call 19; refine (RF.out _ B4.out).mono ?_; rintro e w5 ⟨hb5, hv⟩; rw [if_neg HC.out] at hv; obtain rfl := hv; have B5 := Aside0.mk (below_step B4.out hb5); have G5 := Aside0.mk (Kd.C_below G4.out hb5); clear hb5 G4)
          | (go_at_call 20; refine (SQ.out _ A6 c6 G5.out l6 (Kd.C_below HR0.out B5.out)).mono ?_; rintro e w6 ⟨rfl, ⟨nd, rfl⟩⟩))
        go_ret
        exact ⟨rfl, pw_below_drewN B5.out _⟩)
theorem tableFilters_row (a0 : Option Addr) (len0 cap0 : Nat) (z0 : List Int) (n i k : Int) (w : World) (hG : GL w) (w0 : (a0 = none ∧ len0 = 0 ∧ cap0 = 0 ∧ z0 = []) ∨ ∃ x, a0 = some x ∧ len0 ≤ cap0 ∧ cap0 ≤ maxLen ∧ z0.length = cap0 ∧ (∀ i, i < z0.length → w.cell? (x.add i) = some (.int .i64 (z0.getD i 0))) ∧ ∀ n ∈ z0, (Lit.int .i64 n).wf = true) (y0 : len0 * 8 ≤ 140737488351232) : Calls Tryd.prog 6 #[.slice a0 len0 cap0, .int .i64 n, .int .i64 i, .int .i64 k] w fun e w' => e = .returned (.bool true) ∧ Below w.heap.size w w' := by
  obtain ⟨l0, rfl, hr0, hm0, hw0, hc0⟩ := ReadsInt.ofRowC w0
  exact tableFilters_calls a0 cap0 l0 n i k w hG (Kd.C_of_reads (d := (0 : Int)) (h1 := fun _ => rfl) hr0) hc0 (fun x hx => wf64 (hw0 x hx)) (by omega)
end Go.Proofs.YthaajkpiknbdbaaDoor.QA

namespace Go.Proofs.YthaajkpiknbdbaaDoor.T
open Go.ChangeShapes Go.WideShapes Go.ChangeAt Go.RowKit
theorem gKinds : Tryd.prog.globalNamed "smalto/raw.kinds" = some 0 := by kernel_rfl
theorem tKinds : (Tryd.prog.globals[0]?).map (·.type) = some 70 := by kernel_rfl
theorem cell_of {cs : List Value} {a b i : Nat} {v : Value} {ws : List Value} (hi : i < b) (h : ((cs.drop a).take b) = ws) (hv : ws[i]? = some v) : cs[a + i]? = some v := by
  rw [← h] at hv
  rw [List.getElem?_take, if_pos hi, List.getElem?_drop] at hv
  exact hv
theorem str_eq {s : ByteArray} {l : List UInt8} (h : s.data.toList = l) : s = ⟨l.toArray⟩ := by
  cases s with | mk d => simp only at h; rw [← h]
theorem kind_cells {W : World} {m : Nat} {cs : List Value} {s : List UInt8} {n : Int} {x : DataW Unit × List MemPlace}
    (h : DataW.trod (fun _ => ()) Tryd.prog W 0 (fun _ => true) false m 69 cs = some x) (hx : x.1 = .agg [.lit (.string s), .lit (.int .i64 n)]) :
    cs[0]? = some (.string ⟨s.toArray⟩) ∧ cs[1]? = some (.int .i64 n) := by
  obtain ⟨y0, y1, k, rfl, hl, h0, h1⟩ := trod_struct2 Tryd.underlying69 h
  simp only [DataW.agg.injEq, List.cons.injEq, and_true] at hx
  obtain ⟨z, e0, e1, _⟩ := DataW.trod_string Tryd.underlying9 h0
  obtain ⟨q, f0, f1, _⟩ := DataW.trod_int Tryd.underlying2 h1
  rw [e1, f1] at hx
  simp only [DataW.lit.injEq, Lit.string.injEq, Lit.int.injEq, true_and] at hx
  obtain ⟨hs, rfl⟩ := hx
  rw [str_eq hs] at e0
  constructor
  · simpa using cell_of (i := 0) (of_decide_eq_true (by kernel_rfl)) e0 rfl
  · simpa using cell_of (i := 0) (of_decide_eq_true (by kernel_rfl)) f0 rfl
set_option maxRecDepth 100000 in
theorem kinds_cells {W : World} {fuel : Nat} {cs : Array Value} {x : DataW Unit × List MemPlace} (hv : W.var? Tryd.prog "smalto/raw.kinds" = some cs)
    (h : DataW.trod (fun _ => ()) Tryd.prog W 0 (fun _ => true) false fuel 70 cs.toList = some x) (hx : x.1 = Rows.laid_smalto_raw_kinds) : GL W := by
  obtain ⟨xs, m, _, rfl, hl, hlen, hel⟩ := DataW.trod_array Tryd.underlying70 h
  have c2 : Tryd.prog.cellsOf 69 = 2 := by kernel_rfl
  match xs, hlen with
  | [x0, x1, x2], _ =>
    have hx' := hx
    simp only [Rows.laid_smalto_raw_kinds, List.map_cons, List.map_nil, DataW.agg.injEq, List.cons.injEq, and_true] at hx'
    obtain ⟨k0, k1, k2⟩ := hx'
    have g0 := kind_cells (hel 0 (by decide)) k0
    have g1 := kind_cells (hel 1 (by decide)) k1
    have g2 := kind_cells (hel 2 (by decide)) k2
    rw [c2] at g0 g1 g2
    simp only [List.getElem?_take, List.getElem?_drop] at g0 g1 g2
    simp at g0 g1 g2
    unfold GL
    simp only [World.var?_cell gKinds hv]
    exact ⟨g0.1, g0.2, g1.1, g1.2, g2.1, g2.2⟩
theorem gl_of_laid {W : World} (h : laidMetH Tryd.prog [("smalto/raw.kinds", Rows.laid_smalto_raw_kinds)] W) : GL W := by
  rw [MakeChecks.laidMetH_plain _ _ _ (by kernel_rfl)] at h
  obtain ⟨ps, ⟨g, t, cs, fuel, p, q, hg, ht, hv, hd, _, _⟩, _, _⟩ := h
  obtain rfl := Option.some.inj (gKinds.symm.trans hg)
  obtain rfl := Option.some.inj (tKinds.symm.trans ht)
  exact kinds_cells hv hd rfl
theorem laid_witness (os : Os) (args : Array Value) : laidMetH Tryd.prog [("smalto/raw.kinds", Rows.laid_smalto_raw_kinds)] ((World.laidAll Tryd.prog os [("smalto/raw.kinds", Rows.laid_smalto_raw_kinds)]).forCall (fun _ _ => 0) ⟨#[], args, []⟩).memory := by
  rw [MakeChecks.laidMetH_plain _ _ _ (by kernel_rfl)]
  exact laidMet_laidAll _ (by kernel_rfl) (by kernel_rfl)
end Go.Proofs.YthaajkpiknbdbaaDoor.T

namespace Go.Proofs.YthaajkpiknbdbaaDoorW.PrintWords
open Go.ChangeShapes Go.WideShapes
/-- A row's slice of whole numbers is no longer than its weight allows. -/
theorem sized_ints {H : Type} {enc : TypeId × Value → H} {P : Program} {W : World} {base : Nat} {spare : Nat → Bool} {held : Bool} {t e : TypeId} {k : IntKind} {a : Option Addr} {len cap : Nat} {d : DataW H} {ps : List MemPlace} {ts : List TypeId} {ds : List (DataW H)} {j : Nat}
    (hsz : (DataW.weightsEach P ts ds).all (· ≤ reachBytes) = true) (ht : ts[j]? = some t) (hd : ds[j]? = some d) (hu : P.underlying t = some (.slice e)) (he : P.underlying e = some (.int k)) (hc : P.cellsOf e = 1) {B : Nat} (hB : P.bytesOf e = B)
    (h : DataW.Trod enc P W base spare held t (.slice a len cap) d ps) : len * B ≤ 140737488351232 := by
  obtain ⟨fuel, hf⟩ := h
  rcases open_ints hu he hc hf with ⟨hcs, _⟩ | ⟨x, l, c, zs, hcs, _, hl, _, hz, hx, _, _⟩
  · simp [Value.cells] at hcs
    obtain ⟨rfl, rfl, rfl⟩ := hcs
    simp
  · simp [Value.cells] at hcs
    obtain ⟨rfl, rfl, rfl⟩ := hcs
    obtain ⟨hx, _⟩ := Prod.mk.inj hx
    subst hx
    have z := sized_slice hsz ht hd hu
    rw [hB] at z
    have hl2 : len ≤ zs.length := by
      rw [hz]
      split
      · exact hl
      · exact Nat.le_refl _
    have h1 : (lits (H := H) k (zs.take len)).length + (lits (H := H) k (zs.drop len)).length = zs.length := by
      simp [lits]
      omega
    rw [h1] at z
    exact Nat.le_trans (Nat.mul_le_mul_right _ hl2) z
end Go.Proofs.YthaajkpiknbdbaaDoorW.PrintWords
