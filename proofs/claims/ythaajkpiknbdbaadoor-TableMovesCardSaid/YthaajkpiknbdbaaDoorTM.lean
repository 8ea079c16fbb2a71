/- What the weights of any output sample come to: at least a quarter, and what is below nought is less than thrice that; by it all taps are few together. -/
import Derived.Test.YthaajkpiknbdbaaDoorQAx0
import Derived.Test.YthaajkpiknbdbaaDoorQAx1
import Derived.Test.YthaajkpiknbdbaaDoorQAx8
import Derived.Test.YthaajkpiknbdbaaDoorQAx11
import Derived.Handy
import Derived.Lib.SliceRun
import Derived.Test.YthaajkpiknbdbaaDoorTCore
import Derived.Test.YthaajkpiknbdbaaDoorTExt
import Derived.Test.YthaajkpiknbdbaaDoorH06e
import Derived.Test.YthaajkpiknbdbaaDoorTG
import Derived.Test.YthaajkpiknbdbaaDoorTS
namespace Go.Proofs.YthaajkpiknbdbaaDoor.QA
open Go.RowKit Go.Proofs.YthaajkpiknbdbaaDoorW.PrintWords Go.Proofs.YthaajkpiknbdbaaDoorW.PrintLast Go.Proofs.YthaajkpiknbdbaaDoorW.PrintMore Go.Proofs.YthaajkpiknbdbaaDoor.T
set_option linter.unusedVariables false
set_option linter.unusedSimpArgs false

theorem win_mono {f n m i : Int} (hn : 1 ≤ n) (hm : 1 ≤ m) : winLo f n m i ≤ winLo f n m (i + 1) ∧ winHi f n m i ≤ winHi f n m (i + 1) := by
  have e : (i + 1) * n = i * n + n := by rw [Int.add_mul, Int.one_mul]
  have cm : ∀ a b c : Int, 0 < c → a ≤ b → cei a c ≤ cei b c := by
    intro a b c hc hab
    unfold cei
    have := Int.ediv_le_ediv hc (show -b ≤ -a by omega)
    omega
  unfold winLo winHi
  rw [e]
  by_cases c : f = 0
  · rw [if_pos c, if_pos c, if_pos c, if_pos c]
    exact ⟨Int.ediv_le_ediv (by omega) (by omega), cm _ _ _ (by omega) (by omega)⟩
  · rw [if_neg c, if_neg c, if_neg c, if_neg c]
    have := Int.ediv_le_ediv (show 0 < 2 * m by omega) (show 2 * (i * n) + n - m - reachR f n m ≤ 2 * (i * n + n) + n - m - reachR f n m by omega)
    exact ⟨by omega, cm _ _ _ (by omega) (by omega)⟩
/-- What two neighbours reach. -/
theorem reach_two (t : Tab) (j : Nat) (x y : S31) (hj : j + 1 < t.lines.length) (hx : rd_T31 t.lines (j : Int) = x) (hy : rd_T31 t.lines ((j + 1 : Nat) : Int) = y) (b0 : -1000000000 ≤ x.f0 ∧ x.f0 ≤ y.f0 ∧ y.f0 ≤ 1000000000) (b1 : x.f0 + x.f1.length ≤ y.f0 + y.f1.length ∧ y.f1.length ≤ 1000000 ∧ x.f1.length ≤ 1000000) (i : Int) (hi : i = (j : Int) + 1) :
    reachV t (i - 1) (i + 1) = (x.f0, y.f0 + y.f1.length - x.f0) := by
  have m1 : mx (i - 1) 0 = (j : Int) := by rw [hi]; unfold mx; split <;> omega
  have m2 : mn (i + 1) (t.lines.length : Int) = ((j + 2 : Nat) : Int) := by rw [hi]; unfold mn; split <;> omega
  unfold reachV
  rw [m1, m2, if_pos (by omega), Int.toNat_natCast, Int.toNat_natCast]
  have e : reachP t.lines j (j + 2) = (x.f0, y.f0 + y.f1.length) := by
    unfold reachP
    rw [hx, reach_step t.lines (show j < j + 2 by omega) (by omega), hx, reach_step t.lines (show j + 1 < j + 2 by omega) (by omega), hy, List.drop_eq_nil_of_le (by rw [List.length_take]; omega)]
    show (mn (mn x.f0 x.f0) y.f0, mx (mx x.f0 (wrap64 (x.f0 + x.f1.length))) (wrap64 (y.f0 + y.f1.length))) = _
    rw [w64_id (by omega) (by omega), w64_id (by omega) (by omega)]
    have e1 : mn (mn x.f0 x.f0) y.f0 = x.f0 := by unfold mn; split <;> (try split) <;> omega
    have e2 : mx (mx x.f0 (x.f0 + (x.f1.length : Int))) (y.f0 + (y.f1.length : Int)) = y.f0 + (y.f1.length : Int) := by unfold mx; split <;> (try split) <;> omega
    rw [e1, e2]
  rw [e]
  show (x.f0, wrap64 (y.f0 + (y.f1.length : Int) - x.f0)) = _
  rw [w64_id (by omega) (by omega)]

set_option maxHeartbeats 8000000 in
set_option maxRecDepth 100000 in
theorem tableMoves_calls (f n m : Int) (hf : 0 ≤ f ∧ f ≤ 255) (hn : 0 ≤ n ∧ n ≤ 65535) (hm : 0 ≤ m ∧ m ≤ 65535) (w : World) (hG : GL w) : Calls Tryd.prog 3 #[.int .u8 f, .int .u16 n, .int .u16 m] w fun e w' => e = .returned (.bool true) ∧ Below w.heap.size w w' := by
  have LV := Aside0.mk (lives08_calls w hG)
  obtain ⟨F, hF⟩ : ∃ F, F = f % 3 := ⟨_, rfl⟩
  obtain ⟨N, hN⟩ : ∃ N, N = 1 + n % 3000 := ⟨_, rfl⟩
  obtain ⟨M, hM⟩ : ∃ M : Nat, (M : Int) = 1 + m % 60 := ⟨(1 + m % 60).toNat, by omega⟩
  have hF1 : 0 ≤ F ∧ F < 3 := by omega
  have hN1 : 1 ≤ N ∧ N ≤ 3000 := by omega
  have hM1 : 1 ≤ M ∧ M ≤ 60 := by omega
  obtain ⟨s1, s2, s3⟩ := sums_facts hF1 hN1 hM1
  have rs := fun w' (hb : Below w.heap.size w w') => resize_calls F N M w' (hG.below hb) ⟨hF1.1, hF1.2, hN1.1, by omega, by omega, by omega⟩
  rw [s1] at rs
  obtain ⟨t, ht⟩ : ∃ t, t = resTab F N M M := ⟨_, rfl⟩
  have tl : t.lines.length = M := by rw [ht]; exact resTab_len _ _ _ _
  rw [← ht] at rs s3
  have RS := Aside0.mk rs
  have S3 := Aside0.mk s3
  have HE := Aside0.mk (And.intro hF (And.intro hN (And.intro hM tl)))
  have HB0 := Aside0.mk (And.intro hF1 (And.intro hN1 hM1))
  have mixed : Tryd.prog.follows .mixedOrders = true := by kernel_rfl
  clear hG rs s1 s2 s3 hF hN hM ht tl hF1 hN1
  go_enter Tryd.func3, Tryd.ntmps3
  go_upto_region 4 with (go_at_call 8; refine LV.out.mono ?_; rintro e w1 ⟨rfl, hb1⟩; have B1 := Aside0.mk hb1; clear hb1)
  rw [← HE.out.2.1, ← HE.out.2.2.1]
  clear LV hn hm
  go_upto_region 8 with (first
    | (go_at_call 9; rw [← HE.out.1]; refine (RS.out _ B1.out).mono ?_; rintro e w3 ⟨hb3, hT⟩; rw [if_pos rfl] at hT; obtain ⟨b, rfl, hT⟩ := hT; have B3 := Aside0.mk (below_step B1.out hb3); have T3 := Aside0.mk hT.reads; clear hb3 hT))
  clear RS hf
  go_loopg [11] M (fun kx s11 wr => ∃ (j : Nat), s11 = .int .i64 ((j : Int) + 1) ∧ j + 1 ≤ M ∧ M - j ≤ kx ∧ Aside0 (Below w3.heap.size w3 wr))
  case atStart => exact ⟨0, rfl, by omega, by omega, ⟨Below.refl _ _⟩⟩
  case round =>
    obtain ⟨j, rfl, j1, j2, HW⟩ := hrel
    by_cases hla : (j : Int) + 1 < (M : Int)
    · obtain ⟨x1, x2, x3, x4, x5, x6, x7⟩ := S3.out j (by omega)
      obtain ⟨y1, y2, y3, y4, y5, y6, y7⟩ := S3.out (j + 1) (by omega)
      have wmo := win_mono (f := F) (n := N) (m := M) (i := j) HB0.out.2.1.1 (by omega)
      have hmr : mayR F N M j := ⟨HB0.out.1.1, HB0.out.1.2, HB0.out.2.1.1, by have := HB0.out.2.1.2; omega, by omega, by omega, by omega, by omega⟩
      have hmr2 : mayR F N M ((j + 1 : Nat) : Int) := ⟨HB0.out.1.1, HB0.out.1.2, HB0.out.2.1.1, by have := HB0.out.2.1.2; omega, by omega, by omega, by omega, by omega⟩
      have wb1 : -400000 ≤ winLo F N M j := by
        have hP : 0 ≤ (j : Int) * N := Int.mul_nonneg (by omega) (by have := HB0.out.2.1.1; omega)
        unfold winLo
        split
        · have := Int.ediv_nonneg hP (show (0 : Int) ≤ (M : Int) by omega); omega
        · have hR := reachR_le (f := F) (n := N) (m := M) ⟨HB0.out.2.1.1, by have := HB0.out.2.1.2; omega⟩ ⟨by omega, by omega⟩
          have : -400001 ≤ (2 * ((j : Int) * N) + N - M - reachR F N M) / (2 * (M : Int)) := by
            rw [Int.le_ediv_iff_mul_le (by omega)]; have := HB0.out.2.1.1; omega
          omega
      have wb2 : winLo F N M ((j + 1 : Nat) : Int) ≤ 4000000 := by
        have h1 := (win_mid hmr2).1
        have h2 : (((j + 1 : Nat) : Int) * N) ≤ 60 * 3000 := Int.mul_le_mul (by omega) HB0.out.2.1.2 (by have := HB0.out.2.1.1; omega) (by decide)
        have h3 : ((j + 1 : Nat) : Int) * N / (M : Int) ≤ ((j + 1 : Nat) : Int) * N := Int.ediv_le_self _ (Int.mul_nonneg (by omega) (by have := HB0.out.2.1.1; omega))
        omega
      have e1 : ((j + 1 : Nat) : Int) = (j : Int) + 1 := by omega
      rw [e1] at y1 y2 y3 y7 wb2
      have LX := Aside0.mk (fun w' (hb : Below w3.heap.size w3 w') => line_in b t (j : Int) w' (T3.out.below hb) (by omega) (by rw [HE.out.2.2.2]; omega) (by rw [x1]; show (appL (rowV F N M j)).length ≤ 2097152; omega))
      have LY := Aside0.mk (fun w' (hb : Below w3.heap.size w3 w') => line_in b t ((j : Int) + 1) w' (T3.out.below hb) (by omega) (by rw [HE.out.2.2.2]; exact hla) (by rw [y1]; show (appL (rowV F N M ((j : Int) + 1))).length ≤ 2097152; omega))
      have RC := reach_two t j ⟨winLo F N M j, appL (rowV F N M j)⟩ ⟨winLo F N M ((j : Int) + 1), appL (rowV F N M ((j : Int) + 1))⟩ (by rw [HE.out.2.2.2]; omega) x1 (by rw [e1]; exact y1) (by show -1000000000 ≤ winLo F N M j ∧ winLo F N M j ≤ winLo F N M ((j : Int) + 1) ∧ winLo F N M ((j : Int) + 1) ≤ 1000000000; omega) (by show winLo F N M j + ((appL (rowV F N M j)).length : Int) ≤ winLo F N M ((j : Int) + 1) + ((appL (rowV F N M ((j : Int) + 1))).length : Int) ∧ (appL (rowV F N M ((j : Int) + 1))).length ≤ 1000000 ∧ (appL (rowV F N M j)).length ≤ 1000000; omega) ((j : Int) + 1) rfl
      rw [x1] at LX
      rw [y1] at LY
      obtain ⟨tx, htx⟩ : ∃ tp, tp = appL (rowV F N M j) := ⟨_, rfl⟩
      obtain ⟨ty, hty⟩ : ∃ tp, tp = appL (rowV F N M ((j : Int) + 1)) := ⟨_, rfl⟩
      obtain ⟨lx, hlx⟩ : ∃ tp, tp = winLo F N M j := ⟨_, rfl⟩
      obtain ⟨ly, hly⟩ : ∃ tp, tp = winLo F N M ((j : Int) + 1) := ⟨_, rfl⟩
      rw [← htx] at x2 x3 x7 LX RC
      rw [← hty] at y2 y3 y7 LY RC
      rw [← hlx] at x7 LX RC wb1 wmo
      rw [← hly] at y7 LY RC wb2 wmo
      obtain ⟨X, hX⟩ : ∃ L, L = tx.length := ⟨_, rfl⟩
      obtain ⟨Y, hY⟩ : ∃ L, L = ty.length := ⟨_, rfl⟩
      rw [← hX] at x2 x3 x7
      rw [← hY] at y2 y3 y7
      have LX2 := Aside0.mk (show ∀ w' (hb : Below w3.heap.size w3 w'), Calls Tryd.prog 10 #[.pointer (some ⟨b, 0, none⟩), .int .i64 j] w' fun e w'' => ∃ v, e = .returned (.agg #[.int .i64 lx, v]) ∧ Kd.R (Kd.int .i64) 2 w'' w'.heap.size (fun _ => True) v tx ∧ Below w'.heap.size w' w'' from LX.out)
      have LY2 := Aside0.mk (show ∀ w' (hb : Below w3.heap.size w3 w'), Calls Tryd.prog 10 #[.pointer (some ⟨b, 0, none⟩), .int .i64 ((j : Int) + 1)] w' fun e w'' => ∃ v, e = .returned (.agg #[.int .i64 ly, v]) ∧ Kd.R (Kd.int .i64) 2 w'' w'.heap.size (fun _ => True) v ty ∧ Below w'.heap.size w' w'' from LY.out)
      have RR := Aside0.mk (fun w' (hb : Below w3.heap.size w3 w') => reach_calls b t ((j : Int) + 1 - 1) ((j : Int) + 1 + 1) w' (T3.out.below hb) (by rw [HE.out.2.2.2]; omega))
      rw [RC] at RR
      have q1 : (j : Int) + 1 - 1 = (j : Int) := by omega
      rw [q1] at RR
      have RR2 := Aside0.mk (show ∀ w' (hb : Below w3.heap.size w3 w'), Calls Tryd.prog 11 #[.pointer (some ⟨b, 0, none⟩), .int .i64 j, .int .i64 ((j : Int) + 1 + 1)] w' fun e w'' => e = .returned (.tuple #[.int .i64 lx, .int .i64 (ly + Y - lx)]) ∧ Below w'.heap.size w' w'' from by rw [hY]; exact RR.out)
      have HXY := Aside0.mk (And.intro hX hY)
      have g1 : ¬ ly < lx := by omega
      have g2 : ¬ ly + (Y : Int) < lx + (X : Int) := by omega
      have v1 : IntKind.i64.wrap (ly + (Y : Int)) = ly + (Y : Int) := by rw [i64w]; exact w64_id (by omega) (by omega)
      have v2 : IntKind.i64.wrap (lx + (X : Int)) = lx + (X : Int) := by rw [i64w]; exact w64_id (by omega) (by omega)
      have v3 : IntKind.i64.wrap (lx + (ly + (Y : Int) - lx)) = ly + (Y : Int) := by rw [show lx + (ly + (Y : Int) - lx) = ly + (Y : Int) by omega]; exact v1
      have v4 : IntKind.i64.wrap ((j : Int) + 1 - 1) = (j : Int) := by rw [q1, i64w]; exact w64_id (by omega) (by omega)
      have v5 : IntKind.i64.wrap ((j : Int) + 1 + 1) = (j : Int) + 1 + 1 := by rw [i64w]; exact w64_id (by omega) (by omega)
      clear x1 x2 x3 x4 x5 x6 x7 y1 y2 y3 y4 y5 y6 y7 LX LY RR RC htx hty hlx hly hX hY e1 hmr hmr2 wmo q1
      go_upto_region 11 with (first
        | (go_at_call 10; (with_reducible refine (LX2.out _ HW.out).mono ?_); rintro e w7 ⟨v7, rfl, hr7, hb7⟩; obtain ⟨A7, c7, rfl⟩ := Kd.R_slice hr7; have B7 := Aside0.mk (below_step HW.out hb7); rw [← HXY.out.1]; clear hr7 hb7)
        | (go_at_call 10; (with_reducible refine (LY2.out _ B7.out).mono ?_); rintro e w8 ⟨v8, rfl, hr8, hb8⟩; obtain ⟨A8, c8, rfl⟩ := Kd.R_slice hr8; have B8 := Aside0.mk (below_step B7.out hb8); rw [← HXY.out.2]; clear hr8 hb8))
      obtain ⟨g, hg⟩ : ∃ g, g = w8.heap.size := ⟨_, rfl⟩
      rw [← hg]
      have h1 : ((w8.alloc (.cells #[.int .i64 lx, .slice A7 X c7] 31)).alloc (.cells #[.int .i64 ly, .slice A8 Y c8] 31)).heap[g]? = some (.cells #[.int .i64 lx, .slice A7 X c7] 31 (0, 0)) := by rw [ha_old _ _ _ (by simp [hg]), hg]; exact heap_alloc_new w8 _
      have h2 : ((w8.alloc (.cells #[.int .i64 lx, .slice A7 X c7] 31)).alloc (.cells #[.int .i64 ly, .slice A8 Y c8] 31)).heap[g + 1]? = some (.cells #[.int .i64 ly, .slice A8 Y c8] 31 (0, 0)) := ha_at _ _ _ (by simp [hg])
      have B9 := Aside0.mk (below_alloc (below_alloc B8.out (.cells #[.int .i64 lx, .slice A7 X c7] 31)) (.cells #[.int .i64 ly, .slice A8 Y c8] 31))
      clear hg
      generalize (w8.alloc (.cells #[.int .i64 lx, .slice A7 X c7] 31)).alloc (.cells #[.int .i64 ly, .slice A8 Y c8] 31) = w9 at h1 h2 B9 ⊢
      have a0 : w9.cell? ⟨g, 0, none⟩ = some (.int .i64 lx) := (blk_cell h1 0).trans rfl
      have a1 : w9.cell? ⟨g, 1, none⟩ = some (.slice A7 X c7) := (blk_cell h1 1).trans rfl
      have b0 : w9.cell? ⟨g + 1, 0, none⟩ = some (.int .i64 ly) := (blk_cell h2 0).trans rfl
      have b1 : w9.cell? ⟨g + 1, 1, none⟩ = some (.slice A8 Y c8) := (blk_cell h2 1).trans rfl
      have H1 := Aside0.mk h1
      have H2 := Aside0.mk h2
      have g3 : (lx != lx) = false := by simp
      have g4 : (ly + (Y : Int) != ly + (Y : Int)) = false := by simp
      clear h1 h2
      go_wp2_with (go_at_call 11; (with_reducible refine (RR2.out _ B9.out).mono ?_); rintro e w10 ⟨rfl, hb10⟩; have h1 := (hb10.block g (blk_lt H1.out)).trans H1.out; have h2 := (hb10.block (g + 1) (blk_lt H2.out)).trans H2.out; have B10 := Aside0.mk (below_step B9.out hb10); clear a0 a1 b0 b1 hb10; have a0 : w10.cell? ⟨g, 0, none⟩ = some (.int .i64 lx) := (blk_cell h1 0).trans rfl; have b0 : w10.cell? ⟨g + 1, 0, none⟩ = some (.int .i64 ly) := (blk_cell h2 0).trans rfl; have b1 : w10.cell? ⟨g + 1, 1, none⟩ = some (.slice A8 Y c8) := (blk_cell h2 1).trans rfl; clear h1 h2)
      go_roundg (M - (j + 1))
      case measure => omega
      case rel => exact ⟨j + 1, by simp, by omega, Nat.le_refl _, B10⟩
    · have : j + 1 = M := by omega
      go_wp2
      go_ret
      exact ⟨rfl, below_step B3.out HW.out⟩

end Go.Proofs.YthaajkpiknbdbaaDoor.QA
