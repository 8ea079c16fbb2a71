/- A side that stays as it is has one tap for each sample; so has a resize of it by Box, and, by Cubic, one that isn't nothing: of at most 200 samples, by the law's own guard. -/
import Derived.Test.YthaajkpiknbdbaaDoorQAx0
import Derived.Test.YthaajkpiknbdbaaDoorQAx1
import Derived.Test.YthaajkpiknbdbaaDoorQAx8
import Derived.Test.YthaajkpiknbdbaaDoorQAx11
import Derived.Handy
import Derived.Test.YthaajkpiknbdbaaDoorTCore
import Derived.Test.YthaajkpiknbdbaaDoorTExt
import Derived.Test.YthaajkpiknbdbaaDoorH06e
import Derived.Test.YthaajkpiknbdbaaDoorF8
import Derived.Test.YthaajkpiknbdbaaDoorH08
namespace Go.Proofs.YthaajkpiknbdbaaDoor.QA
open Go.RowKit Go.Proofs.YthaajkpiknbdbaaDoorW.PrintWords Go.Proofs.YthaajkpiknbdbaaDoorW.PrintLast Go.Proofs.YthaajkpiknbdbaaDoorW.PrintMore Go.Proofs.YthaajkpiknbdbaaDoor.T
set_option linter.unusedVariables false
set_option linter.unusedSimpArgs false

theorem rd_snoc (l : List S31) (x : S31) (j : Nat) : rd_T31 (l ++ [x]) (j : Int) = if j = l.length then x else rd_T31 l (j : Int) := by
  unfold rd_T31
  rw [Int.toNat_natCast, List.getD_eq_getElem?_getD, List.getD_eq_getElem?_getD]
  by_cases h : j < l.length
  · rw [List.getElem?_append_left h, if_neg (by omega)]
  · rw [List.getElem?_append_right (by omega)]
    by_cases e : j = l.length
    · subst e; simp
    · rw [if_neg e, List.getElem?_eq_none (by simp; omega), List.getElem?_eq_none (by omega)]
theorem resTab_rd (f n m : Int) : ∀ (i j : Nat), j < i → rd_T31 (resTab f n m i).lines (j : Int) = ⟨winLo f n m j, appL (rowV f n m j)⟩
  | 0, j, h => by omega
  | i + 1, j, h => by
    show rd_T31 ((resTab f n m i).lines ++ [_]) (j : Int) = _
    rw [rd_snoc, resTab_len]
    by_cases e : j = i
    · rw [if_pos e, e]
    · rw [if_neg e]; exact resTab_rd f n m i j (by omega)
theorem filTab_rd (n h : Int) (l : List Int) : ∀ (i j : Nat), j < i → rd_T31 (filTab n h l i).lines (j : Int) = ⟨(j : Int) - h, l⟩
  | 0, j, h => by omega
  | i + 1, j, hj => by
    show rd_T31 ((filTab n h l i).lines ++ [_]) (j : Int) = _
    rw [rd_snoc, filTab_len]
    by_cases e : j = i
    · rw [if_pos e, e]
    · rw [if_neg e]; exact filTab_rd n h l i j (by omega)
theorem filTab_most (n h : Int) (l : List Int) : ∀ i, 1 ≤ i → (filTab n h l i).most = l.length
  | 1, _ => by
    show mx 0 (l.length : Int) = _
    unfold mx; split <;> omega
  | i + 2, _ => by
    show mx (filTab n h l (i + 1)).most (l.length : Int) = _
    rw [filTab_most n h l (i + 1) (by omega)]; unfold mx; split <;> omega
theorem resCode_zero (f n m : Int) : ∀ (d i : Nat), (∀ j : Nat, i ≤ j → j < i + d → chkV (rowV f n m j) = 0) → resCode f n m i d = 0
  | 0, i, h => rfl
  | d + 1, i, h => by
    rw [resCode, if_pos (h i (Nat.le_refl _) (by omega))]
    exact resCode_zero f n m d (i + 1) (fun j h1 h2 => h j (by omega) (by omega))
theorem box_row {n : Int} (hn : 1 ≤ n) (i : Int) : winLo 0 n n i = i ∧ rowV 0 n n i = [1073741824] := by
  have e1 : winLo 0 n n i = i := by unfold winLo; rw [if_pos rfl, Int.mul_ediv_cancel _ (by omega)]
  have e2 : winHi 0 n n i = i + 1 := by
    unfold winHi cei; rw [if_pos rfl]
    have : -(i * n + n) = (-(i + 1)) * n := by rw [Int.neg_mul, Int.add_mul, Int.one_mul]
    rw [this, Int.mul_ediv_cancel _ (by omega)]; omega
  refine ⟨e1, ?_⟩
  unfold rowV
  rw [e1, e2, show (i + 1 - i).toNat = 1 by omega]
  show [wV 0 n n i (i + ((0 : Nat) : Int))] = _
  congr 1
  unfold wV partR
  rw [if_pos rfl]
  have e3 : mn (i * n + n) ((i + ((0 : Nat) : Int)) * n + n) - mx (i * n) ((i + ((0 : Nat) : Int)) * n) = n := by
    rw [show i + ((0 : Nat) : Int) = i by omega]; unfold mn mx; rw [if_neg (by omega), if_neg (by omega)]; omega
  rw [e3]
  unfold rdiv
  rw [if_pos (by omega)]
  have : 2 * (n * 1073741824) + n = (2 * n) * 1073741824 + n := by rw [Int.mul_assoc]
  rw [this, Int.add_comm, Int.add_mul_ediv_left _ _ (by omega), Int.ediv_eq_zero_of_lt (by omega) (by omega)]
  decide
theorem rdiv_self {c d : Int} (hd : 0 < d) : rdiv (c * d) d = c := by
  unfold rdiv
  rw [if_pos hd]
  have : 2 * (c * d) + d = d + (2 * d) * c := by rw [Int.mul_assoc, Int.mul_comm d c]; omega
  rw [this, Int.add_mul_ediv_left _ _ (by omega), Int.ediv_eq_zero_of_lt (by omega) (by omega)]; omega
theorem cubic_row {n : Int} (hn : 1 ≤ n) (hn2 : n ≤ 65536) (i : Int) : winLo 1 n n i = i - 1 ∧ rowV 1 n n i = [0, 1073741824, 0] := by
  have hr : reachR 1 n n = 4 * n := by unfold reachR mx; rw [if_pos rfl]; split <;> rfl
  have e1 : winLo 1 n n i = i - 1 := by
    unfold winLo; rw [if_neg (by decide), hr]
    have : 2 * (i * n) + n - n - 4 * n = (i - 2) * (2 * n) := by rw [Int.sub_mul, Int.mul_left_comm]; omega
    rw [this, Int.mul_ediv_cancel _ (by omega)]; omega
  have e2 : winHi 1 n n i = i + 2 := by
    unfold winHi cei; rw [if_neg (by decide), hr]
    have : -(2 * (i * n) + n - n + 4 * n) = (-(i + 2)) * (2 * n) := by rw [Int.neg_mul, Int.add_mul, Int.mul_left_comm]; omega
    rw [this, Int.mul_ediv_cancel _ (by omega)]; omega
  refine ⟨e1, ?_⟩
  unfold rowV
  rw [e1, e2, show (i + 2 - (i - 1)).toNat = 3 by omega]
  show [wV 1 n n i (i - 1 + ((0 : Nat) : Int)), wV 1 n n i (i - 1 + ((1 : Nat) : Int)), wV 1 n n i (i - 1 + ((2 : Nat) : Int))] = _
  have hm : mx n n = n := by unfold mx; split <;> rfl
  obtain ⟨q, hq⟩ : ∃ q, q = 2 * n := ⟨_, rfl⟩
  have hq1 : 0 < q * q * q := Int.mul_pos (Int.mul_pos (by omega) (by omega)) (by omega)
  have k1 : keyV (2 * n) (2 * n) = 0 := by
    rw [← hq]; unfold keyV
    rw [if_pos (by omega), show siz q = q by unfold siz; rw [if_neg (by omega)], if_pos (Int.le_refl _)]
    rw [show -(q * q * q) + 5 * (q * q * q) - 8 * (q * q * q) + 4 * (q * q * q) = 0 by omega]
    rw [show (0 : Int) * 1073741824 = 0 * (2 * (q * q * q)) by omega, rdiv_self (by omega)]; decide
  have k0 : keyV 0 (2 * n) = 1073741824 := by
    rw [← hq]; unfold keyV
    rw [if_pos (by omega), show siz 0 = 0 from rfl, if_neg (by omega)]
    rw [show 3 * ((0 : Int) * 0 * 0) - 5 * (0 * 0 * q) + 2 * (q * q * q) = 2 * (q * q * q) by rw [Int.zero_mul, Int.zero_mul]; omega]
    rw [show 2 * (q * q * q) * 1073741824 = 1073741824 * (2 * (q * q * q)) from Int.mul_comm _ _, rdiv_self (by omega)]; decide
  have f0 : wV 1 n n i (i - 1 + ((0 : Nat) : Int)) = 0 := by
    unfold wV; rw [if_neg (by decide), if_pos rfl, hm]
    have : fracR n n i (i - 1 + ((0 : Nat) : Int)) = -(2 * n) := by
      unfold fracR; rw [show i - 1 + ((0 : Nat) : Int) = i - 1 by omega, Int.mul_sub, Int.mul_one, Int.mul_comm n i]; omega
    rw [this, keyV_neg]; exact k1
  have f1 : wV 1 n n i (i - 1 + ((1 : Nat) : Int)) = 1073741824 := by
    unfold wV; rw [if_neg (by decide), if_pos rfl, hm]
    have : fracR n n i (i - 1 + ((1 : Nat) : Int)) = 0 := by
      unfold fracR; rw [show i - 1 + ((1 : Nat) : Int) = i by omega, Int.mul_comm n i]; omega
    rw [this]; exact k0
  have f2 : wV 1 n n i (i - 1 + ((2 : Nat) : Int)) = 0 := by
    unfold wV; rw [if_neg (by decide), if_pos rfl, hm]
    have : fracR n n i (i - 1 + ((2 : Nat) : Int)) = 2 * n := by
      unfold fracR; rw [show i - 1 + ((2 : Nat) : Int) = i + 1 by omega, Int.mul_add, Int.mul_one, Int.mul_comm n i]; omega
    rw [this]; exact k1
  rw [f0, f1, f2]

theorem box_same {N : Nat} (h : 1 ≤ N) : resCode 0 N N 0 N = 0 ∧ ∀ j : Nat, j < N → rd_T31 (resTab 0 N N N).lines (j : Int) = ⟨(j : Int), [16384]⟩ := by
  have hc : chkV [1073741824] = 0 := by kernel_rfl
  refine ⟨resCode_zero _ _ _ _ _ (fun j _ _ => by rw [(box_row (by omega) _).2]; exact hc), fun j hj => ?_⟩
  rw [resTab_rd _ _ _ _ _ hj, (box_row (by omega) _).1, (box_row (by omega) _).2]
  have : appL [1073741824] = [16384] := by kernel_rfl
  rw [this]
theorem cubic_same {N : Nat} (h : 1 ≤ N) (h2 : N ≤ 65536) : resCode 1 N N 0 N = 0 ∧ ∀ j : Nat, j < N → rd_T31 (resTab 1 N N N).lines (j : Int) = ⟨(j : Int) - 1, [0, 16384, 0]⟩ := by
  have hc : chkV [0, 1073741824, 0] = 0 := by kernel_rfl
  refine ⟨resCode_zero _ _ _ _ _ (fun j _ _ => by rw [(cubic_row (by omega) (by omega) _).2]; exact hc), fun j hj => ?_⟩
  rw [resTab_rd _ _ _ _ _ hj, (cubic_row (by omega) (by omega) _).1, (cubic_row (by omega) (by omega) _).2]
  have : appL [0, 1073741824, 0] = [0, 16384, 0] := by kernel_rfl
  rw [this]

theorem C_three (W : World) (x0 x1 x2 : S31) (A0 A1 A2 : Option Addr) (c0 c1 c2 : Nat) (l0 : x0.f1.length ≤ c0) (l1 : x1.f1.length ≤ c1) (l2 : x2.f1.length ≤ c2) (g0 : Kd.C (Kd.int .i64) W A0 x0.f1.length x0.f1) (g1 : Kd.C (Kd.int .i64) W A1 x1.f1.length x1.f1) (g2 : Kd.C (Kd.int .i64) W A2 x2.f1.length x2.f1) :
    Kd.C k31 (W.alloc (.cells #[.int .i64 x0.f0, .slice A0 x0.f1.length c0, .int .i64 x1.f0, .slice A1 x1.f1.length c1, .int .i64 x2.f0, .slice A2 x2.f1.length c2] 31 (0, 0))) (some ⟨W.heap.size, 0, none⟩) 3 [x0, x1, x2] := by
  have hn := heap_alloc_new W (.cells #[.int .i64 x0.f0, .slice A0 x0.f1.length c0, .int .i64 x1.f0, .slice A1 x1.f1.length c1, .int .i64 x2.f0, .slice A2 x2.f1.length c2] 31 (0, 0))
  refine ⟨rfl, by decide, fun _ => ⟨⟨W.heap.size, 0, none⟩, rfl, fun j p hj => ?_⟩⟩
  match j, hj with
  | 0, hj =>
    obtain rfl := Option.some.inj hj
    refine ⟨_, rfl, k31_mk _ x0 l0 (Kd.C_alloc g0 _), fun i u hu => ?_⟩
    rw [add_plain, blk_cell hn]
    match i, hu with
    | 0, hu => exact hu
    | 1, hu => exact hu
  | 1, hj =>
    obtain rfl := Option.some.inj hj
    refine ⟨_, rfl, k31_mk _ x1 l1 (Kd.C_alloc g1 _), fun i u hu => ?_⟩
    rw [add_plain, blk_cell hn]
    match i, hu with
    | 0, hu => exact hu
    | 1, hu => exact hu
  | 2, hj =>
    obtain rfl := Option.some.inj hj
    refine ⟨_, rfl, k31_mk _ x2 l2 (Kd.C_alloc g2 _), fun i u hu => ?_⟩
    rw [add_plain, blk_cell hn]
    match i, hu with
    | 0, hu => exact hu
    | 1, hu => exact hu
/-- A line of one tap that isn't nothing, at sample i. -/
def OneTap (i : Nat) (x : S31) : Prop := (-100000 ≤ x.f0 ∧ x.f0 ≤ 100000) ∧ 1 ≤ x.f1.length ∧ x.f1.length ≤ 3 ∧ ∀ k : Nat, k < x.f1.length → (x.f0 + k = i ∧ rd x.f1 (k : Int) = 16384) ∨ (x.f0 + k ≠ i ∧ rd x.f1 (k : Int) = 0)

set_option maxHeartbeats 8000000 in
set_option maxRecDepth 100000 in
theorem tableSame_in (N : Nat) (w : World) (hG : GL w) (h1 : 1 ≤ N) (h2 : N ≤ 200) : Calls Tryd.prog 7 #[.int .i64 N] w fun e w' => e = .returned (.bool true) ∧ Below w.heap.size w w' := by
  have lv := fun w' (hb : Below w.heap.size w w') => lives08_calls w' (hG.below hb)
  have sm := fun w' => same_calls N w' h1 (by omega)
  have bx := fun w' (hb : Below w.heap.size w w') => resize_calls 0 N N w' (hG.below hb) ⟨by decide, by decide, by omega, by omega, by omega, by omega⟩
  have cb := fun w' (hb : Below w.heap.size w w') => resize_calls 1 N N w' (hG.below hb) ⟨by decide, by decide, by omega, by omega, by omega, by omega⟩
  have hb := box_same h1
  have hc := cubic_same h1 (show N ≤ 65536 by omega)
  rw [hb.1] at bx
  rw [hc.1] at cb
  have HB := Aside0.mk hb.2
  have HC := Aside0.mk hc.2
  have HF := Aside0.mk (fun j (hj : j < N) => filTab_rd N 0 [16384] N j hj)
  have HM := Aside0.mk (filTab_most N 0 [16384] N h1)
  have HFL := Aside0.mk (filTab_len N 0 [16384] N)
  have HBL := Aside0.mk (resTab_len 0 N N N)
  have HCL := Aside0.mk (resTab_len 1 N N N)
  obtain ⟨tf, htf⟩ : ∃ t, t = filTab N 0 [16384] N := ⟨_, rfl⟩
  obtain ⟨tb, htb⟩ : ∃ t, t = resTab 0 N N N := ⟨_, rfl⟩
  obtain ⟨tc, htc⟩ : ∃ t, t = resTab 1 N N N := ⟨_, rfl⟩
  rw [← htf] at HF HM HFL sm
  rw [← htb] at HB HBL bx
  rw [← htc] at HC HCL cb
  have LV := Aside0.mk lv
  have SM := Aside0.mk sm
  have BX := Aside0.mk bx
  have CB := Aside0.mk cb
  clear hb hc htf htb htc lv sm bx cb hG
  have n1 : ¬ (200 : Int) < (N : Int) := by omega
  have n2 : ¬ (N : Int) < 1 := by omega
  have n3 : ¬ (65536 : Int) < (N : Int) := by omega
  have mixed : Tryd.prog.follows .mixedOrders = true := by kernel_rfl
  go_enter Tryd.func7, Tryd.ntmps7
  go_upto_region 8 with (first
    | (go_at_call 8; refine (LV.out _ (Below.refl _ _)).mono ?_; rintro e w1 ⟨rfl, hb1⟩; have B1 := Aside0.mk hb1; clear hb1)
    | (go_at_call 21; refine (SM.out _).mono ?_; rintro e w2 ⟨b, rfl, hT, hb2⟩; have TF := Aside0.mk hT; have B2 := Aside0.mk (below_step B1.out hb2); clear hb2 hT)
    | (go_at_call 9; (with_reducible refine (BX.out _ B2.out).mono ?_); rintro e w3 ⟨hb3, hT⟩; rw [if_pos rfl] at hT; obtain ⟨bb, rfl, hT⟩ := hT; have TB := Aside0.mk hT; have B3 := Aside0.mk (below_step B2.out hb3); have TF3 := Aside0.mk (TF.out.below hb3); clear hb3 hT)
    | (go_at_call 9; (with_reducible refine (CB.out _ B3.out).mono ?_); rintro e w4 ⟨hb4, hT⟩; rw [if_pos rfl] at hT; obtain ⟨bc, rfl, hT⟩ := hT; have TC := Aside0.mk hT; have B4 := Aside0.mk (below_step B3.out hb4); have TF4 := Aside0.mk (TF3.out.below hb4); have TB4 := Aside0.mk (TB.out.below hb4); clear hb4 hT))
  clear LV SM BX CB B1 B2 B3 TF TF3 TB n2 n3
  have n4 : ((N : Int) != (N : Int)) = false := by simp
  have TO := Aside0.mk (show Calls Tryd.prog 15 #[.pointer (some ⟨b, 0, none⟩)] w4 fun e w' => e = .returned (.int .i64 N) ∧ w' = w4 by have h := to_calls b tf w4 TF4.out; rw [HFL.out] at h; exact h)
  have MO := Aside0.mk (show Calls Tryd.prog 16 #[.pointer (some ⟨b, 0, none⟩)] w4 fun e w' => e = .returned (.int .i64 1) ∧ w' = w4 by have h := most_calls b tf w4 TF4.out; rw [HM.out] at h; exact h)
  go_upto_region 11 with (first
    | (go_at_call 15; refine TO.out.mono ?_; rintro e w5 ⟨rfl, rfl⟩)
    | (go_at_call 16; refine MO.out.mono ?_; rintro e w5 ⟨rfl, rfl⟩))
  clear TO MO n4 HM
  have HB4 := B4
  go_loopg [77] N (fun kx s77 wr => ∃ (i : Nat), s77 = .int .i64 i ∧ i ≤ N ∧ N - i ≤ kx ∧ Aside0 (Below w5.heap.size w5 wr))
  case atStart => exact ⟨0, rfl, by omega, by omega, ⟨Below.refl _ _⟩⟩
  case round =>
    obtain ⟨i, rfl, i1, i2, HW⟩ := hrel
    have wi : IntKind.i64.wrap ((i : Int) + 1) = (i : Int) + 1 := by rw [i64w]; exact w64_id (by omega) (by omega)
    by_cases hlt : (i : Int) < (N : Int)
    · have L1 := Aside0.mk (show ∀ w', Below w5.heap.size w5 w' → Calls Tryd.prog 10 #[.pointer (some ⟨b, 0, none⟩), .int .i64 i] w' fun e w'' => ∃ v, e = .returned (.agg #[.int .i64 (i : Int), v]) ∧ Kd.R (Kd.int .i64) 2 w'' w'.heap.size (fun _ => True) v [16384] ∧ Below w'.heap.size w' w'' by
        intro w' hb
        have h := line_in b tf i w' (TF4.out.below hb) (by omega) (by rw [HFL.out]; exact hlt) (by rw [HF.out i (by omega)]; show (1 : Nat) ≤ 2097152; decide)
        rw [HF.out i (by omega), show (i : Int) - 0 = (i : Int) by omega] at h; exact h)
      have L2 := Aside0.mk (show ∀ w', Below w5.heap.size w5 w' → Calls Tryd.prog 10 #[.pointer (some ⟨bb, 0, none⟩), .int .i64 i] w' fun e w'' => ∃ v, e = .returned (.agg #[.int .i64 (i : Int), v]) ∧ Kd.R (Kd.int .i64) 2 w'' w'.heap.size (fun _ => True) v [16384] ∧ Below w'.heap.size w' w'' by
        intro w' hb
        have h := line_in bb tb i w' (TB4.out.below hb) (by omega) (by rw [HBL.out]; exact hlt) (by rw [HB.out i (by omega)]; show (1 : Nat) ≤ 2097152; decide)
        rw [HB.out i (by omega)] at h; exact h)
      have L3 := Aside0.mk (show ∀ w', Below w5.heap.size w5 w' → Calls Tryd.prog 10 #[.pointer (some ⟨bc, 0, none⟩), .int .i64 i] w' fun e w'' => ∃ v, e = .returned (.agg #[.int .i64 ((i : Int) - 1), v]) ∧ Kd.R (Kd.int .i64) 2 w'' w'.heap.size (fun _ => True) v [0, 16384, 0] ∧ Below w'.heap.size w' w'' by
        intro w' hb
        have h := line_in bc tc i w' (TC.out.below hb) (by omega) (by rw [HCL.out]; exact hlt) (by rw [HC.out i (by omega)]; show (3 : Nat) ≤ 2097152; decide)
        rw [HC.out i (by omega)] at h; exact h)
      clear wi
      go_upto_region 14 with (first
        | (go_at_call 10; (with_reducible refine (L1.out _ HW.out).mono ?_); rintro e w6 ⟨v6, rfl, hr, hb⟩; obtain ⟨A6, c6, rfl⟩ := Kd.R_slice hr; have R6 := Aside0.mk hr; have B6 := Aside0.mk (below_step HW.out hb); clear hr hb)
        | (go_at_call 10; (with_reducible refine (L2.out _ B6.out).mono ?_); rintro e w7 ⟨v7, rfl, hr, hb⟩; obtain ⟨A7, c7, rfl⟩ := Kd.R_slice hr; have R7 := Aside0.mk hr; have B7 := Aside0.mk (below_step B6.out hb); have R67 := Aside0.mk (Kd.R_below R6.out hb); clear hr hb)
        | (go_at_call 10; (with_reducible refine (L3.out _ B7.out).mono ?_); rintro e w8 ⟨v8, rfl, hr, hb⟩; obtain ⟨A8, c8, rfl⟩ := Kd.R_slice hr; have R8 := Aside0.mk hr; have B8 := Aside0.mk (below_step B7.out hb); have R68 := Aside0.mk (Kd.R_below R67.out hb); have R78 := Aside0.mk (Kd.R_below R7.out hb); clear hr hb))
      have HL0 := Aside0.mk (show Kd.C k31 (w8.alloc (.cells #[.int .i64 (i : Int), .slice A6 1 c6, .int .i64 (i : Int), .slice A7 1 c7, .int .i64 ((i : Int) - 1), .slice A8 3 c8] 31)) (some ⟨w8.heap.size, 0, none⟩) 3 [⟨(i : Int), [16384]⟩, ⟨(i : Int), [16384]⟩, ⟨(i : Int) - 1, [0, 16384, 0]⟩] from C_three w8 ⟨(i : Int), [16384]⟩ ⟨(i : Int), [16384]⟩ ⟨(i : Int) - 1, [0, 16384, 0]⟩ A6 A7 A8 c6 c7 c8 (Kd.R_reads' R68.out).2.1 (Kd.R_reads' R78.out).2.1 (Kd.R_reads' R8.out).2.1 (Kd.R_reads' R68.out).2.2 (Kd.R_reads' R78.out).2.2 (Kd.R_reads' R8.out).2.2)
      have B9 := Aside0.mk (below_alloc B8.out (.cells #[.int .i64 (i : Int), .slice A6 1 c6, .int .i64 (i : Int), .slice A7 1 c7, .int .i64 ((i : Int) - 1), .slice A8 3 c8] 31))
      have HOK := Aside0.mk (show ∀ a : Nat, a < 3 → OneTap i (rd_T31 [⟨(i : Int), [16384]⟩, ⟨(i : Int), [16384]⟩, ⟨(i : Int) - 1, [0, 16384, 0]⟩] (a : Int)) by
        intro a ha
        have : a = 0 ∨ a = 1 ∨ a = 2 := by omega
        rcases this with rfl | rfl | rfl
        · refine ⟨?_, (show (1 : Nat) ≤ 1 by decide), (show (1 : Nat) ≤ 3 by decide), fun k hk => ?_⟩
          · show -100000 ≤ (i : Int) ∧ (i : Int) ≤ 100000
            omega
          · have : k = 0 := by have : k < 1 := hk; omega
            subst this; left; exact ⟨Int.add_zero _, rfl⟩
        · refine ⟨?_, (show (1 : Nat) ≤ 1 by decide), (show (1 : Nat) ≤ 3 by decide), fun k hk => ?_⟩
          · show -100000 ≤ (i : Int) ∧ (i : Int) ≤ 100000
            omega
          · have : k = 0 := by have : k < 1 := hk; omega
            subst this; left; exact ⟨Int.add_zero _, rfl⟩
        · refine ⟨?_, (show (1 : Nat) ≤ 3 by decide), (show (3 : Nat) ≤ 3 by decide), fun k hk => ?_⟩
          · show -100000 ≤ (i : Int) - 1 ∧ (i : Int) - 1 ≤ 100000
            omega
          · have hk3 : k < 3 := hk
            have : k = 0 ∨ k = 1 ∨ k = 2 := by omega
            rcases this with rfl | rfl | rfl
            · right; exact ⟨by show (i : Int) - 1 + ((0 : Nat) : Int) ≠ i; omega, rfl⟩
            · left; exact ⟨by show (i : Int) - 1 + ((1 : Nat) : Int) = i; omega, rfl⟩
            · right; exact ⟨by show (i : Int) - 1 + ((2 : Nat) : Int) ≠ i; omega, rfl⟩)
      obtain ⟨LL, hLL⟩ : ∃ l : List S31, l = [⟨(i : Int), [16384]⟩, ⟨(i : Int), [16384]⟩, ⟨(i : Int) - 1, [0, 16384, 0]⟩] := ⟨_, rfl⟩
      rw [← hLL] at HL0 HOK
      obtain ⟨g, hg⟩ : ∃ g, g = w8.heap.size := ⟨_, rfl⟩
      rw [← hg] at HL0 ⊢
      generalize w8.alloc (.cells #[.int .i64 (i : Int), .slice A6 1 c6, .int .i64 (i : Int), .slice A7 1 c7, .int .i64 ((i : Int) - 1), .slice A8 3 c8] 31) = w9 at HL0 B9 ⊢
      clear hLL hg L1 L2 L3 R6 R7 R8 R67 R68 R78 B6 B7 B8 HW
      go_loopg [91] 3 (fun kx s91 wr => ∃ (a : Nat), s91 = .int .i64 a ∧ a ≤ 3 ∧ 3 - a ≤ kx ∧ Aside0 (Below w9.heap.size w9 wr))
      case atStart => exact ⟨0, rfl, by omega, by omega, ⟨Below.refl _ _⟩⟩
      case round =>
        obtain ⟨a, rfl, a1, a2, HW⟩ := hrel
        by_cases hla : a < 3
        · have hla2 : (a : Int) < ((3 : Nat) : Int) := by omega
          obtain ⟨ad, A1, c1, e1, m0, m1, l1, g1⟩ := at_T31 (Kd.C_below HL0.out HW.out) a (by omega) hla2
          cases e1
          rw [Int.toNat_natCast, add_plain] at m0 m1
          have hok := HOK.out a hla
          obtain ⟨x, hx⟩ : ∃ x, x = rd_T31 LL (a : Int) := ⟨_, rfl⟩
          rw [← hx] at m0 m1 l1 g1 hok
          obtain ⟨xf, hxf⟩ : ∃ v, v = x.f0 := ⟨_, rfl⟩
          obtain ⟨tp, htp⟩ : ∃ v, v = x.f1 := ⟨_, rfl⟩
          unfold OneTap at hok
          rw [← hxf, ← htp] at hok
          rw [← hxf] at m0
          rw [← htp] at m1 l1 g1
          obtain ⟨hb0, hn1, hn2, hok⟩ := hok
          have HK := Aside0.mk hok
          have G1 := Aside0.mk g1
          have za : (0 : Int) ≤ (a : Int) := by omega
          have za3 : (a : Int) < 3 := by omega
          clear hx hxf htp hok g1 hla2
          go_upto_region 17 with fail
          have hr0 := heap_alloc_new wr (.cells #[.int .i64 xf, .slice A1 tp.length c1] 31)
          have hbx := below_alloc (Below.refl wr.heap.size wr) (.cells #[.int .i64 xf, .slice A1 tp.length c1] 31)
          obtain ⟨r, hr⟩ : ∃ r, r = wr.heap.size := ⟨_, rfl⟩
          rw [← hr] at hr0 ⊢
          have BX := Aside0.mk (show Below wr.heap.size wr (wr.alloc (.cells #[.int .i64 xf, .slice A1 tp.length c1] 31)) from hbx)
          clear hbx hr
          generalize wr.alloc (.cells #[.int .i64 xf, .slice A1 tp.length c1] 31) = wa at hr0 BX ⊢
          have HR0 := Aside0.mk hr0
          clear hr0
          go_loopg [98] tp.length (fun kx s98 wz => ∃ (k : Nat), s98 = .int .i64 k ∧ k ≤ tp.length ∧ tp.length - k ≤ kx ∧ Aside0 (Below wa.heap.size wa wz))
          case atStart => exact ⟨0, rfl, by omega, by omega, ⟨Below.refl _ _⟩⟩
          case round =>
            obtain ⟨k, rfl, k1, k2, HZ⟩ := hrel
            have hr9 := (HZ.out.block r (blk_lt HR0.out)).trans HR0.out
            have z0 := (blk_cell hr9 0).trans (show _ = some (.int .i64 xf) from rfl)
            have z1 := (blk_cell hr9 1).trans (show _ = some (.slice A1 tp.length c1) from rfl)
            clear hr9
            by_cases hlk : k < tp.length
            · have hlk2 : (k : Int) < (tp.length : Int) := by omega
              have zk : (0 : Int) ≤ (k : Int) := by omega
              obtain ⟨ad2, e2, hx⟩ := Kd.at_int (Kd.C_below G1.out (below_step BX.out HZ.out)) (k : Int) zk hlk2
              cases e2
              rw [Int.toNat_natCast] at hx
              have wk : IntKind.i64.wrap (xf + (k : Int)) = xf + (k : Int) := by rw [i64w]; exact w64_id (by omega) (by omega)
              have wk1 : IntKind.i64.wrap ((k : Int) + 1) = (k : Int) + 1 := by rw [i64w]; exact w64_id (by omega) (by omega)
              rcases HK.out k hlk with ⟨e, v⟩ | ⟨e, v⟩
              · rw [v] at hx
                have wk9 := wk.trans e
                clear wk
                have q1 : ((i : Int) == (i : Int)) = true := by simp
                have q2 : ((i : Int) != (i : Int)) = false := by simp
                clear e v
                go_wp2
                go_roundg (tp.length - (k + 1))
                case measure => omega
                case rel => exact ⟨k + 1, by simp, by omega, Nat.le_refl _, HZ⟩
              · rw [v] at hx
                obtain ⟨J, hJ⟩ : ∃ J, J = xf + (k : Int) := ⟨_, rfl⟩
                rw [← hJ] at e
                have wk9 := wk.trans hJ.symm
                clear wk
                have q1 : (J == (i : Int)) = false := by simpa using e
                have q2 : (J != (i : Int)) = true := by simpa using e
                clear e v hJ
                go_wp2
                go_roundg (tp.length - (k + 1))
                case measure => omega
                case rel => exact ⟨k + 1, by simp, by omega, Nat.le_refl _, HZ⟩
            · have : k = tp.length := by omega
              subst this
              have wa1 : IntKind.i64.wrap ((a : Int) + 1) = (a : Int) + 1 := by rw [i64w]; exact w64_id (by omega) (by omega)
              have hne : ((tp.length : Int) == 0) = false := by simp; intro h; rw [h] at hn1; exact absurd hn1 (by decide)
              go_wp2
              go_roundg (3 - (a + 1))
              case measure => omega
              case rel => exact ⟨a + 1, by simp, by omega, Nat.le_refl _, ⟨below_step HW.out (below_step BX.out HZ.out)⟩⟩
        · have : a = 3 := by omega
          subst this
          have wi : IntKind.i64.wrap ((i : Int) + 1) = (i : Int) + 1 := by rw [i64w]; exact w64_id (by omega) (by omega)
          go_wp2
          go_roundg (N - (i + 1))
          case measure => omega
          case rel => exact ⟨i + 1, by simp, by omega, Nat.le_refl _, ⟨below_step B9.out HW.out⟩⟩
    · have him : i = N := by omega
      subst him
      go_wp2
      go_ret
      exact ⟨rfl, below_step B4.out HW.out⟩

set_option maxHeartbeats 8000000 in
set_option maxRecDepth 100000 in
theorem tableSame_calls (n : Int) (w : World) (hG : GL w) : Calls Tryd.prog 7 #[.int .i64 n] w fun e w' => e = .returned (.bool true) ∧ Below w.heap.size w w' := by
  by_cases hin : 1 ≤ n ∧ n ≤ 200
  · obtain ⟨N, rfl⟩ := Int.eq_ofNat_of_zero_le (show 0 ≤ n by omega)
    exact tableSame_in N w hG (by omega) (by omega)
  have LV := Aside0.mk (fun w' (hb : Below w.heap.size w w') => lives08_calls w' (hG.below hb))
  have mixed : Tryd.prog.follows .mixedOrders = true := by kernel_rfl
  by_cases h2 : 200 < n ∧ n ≤ 65536
  · obtain ⟨n1, n2⟩ := h2
    clear hin
    go_enter Tryd.func7, Tryd.ntmps7
    go_upto_region 2 with (go_at_call 8; refine (LV.out _ (Below.refl _ _)).mono ?_; rintro e w1 ⟨rfl, hb1⟩; have B1 := Aside0.mk hb1; clear hb1)
    go_wp2_with (go_at_call 8; refine (LV.out _ B1.out).mono ?_; rintro e w2 ⟨rfl, hb2⟩; have B2 := Aside0.mk (below_step B1.out hb2); clear hb2)
    go_ret
    exact ⟨rfl, B2.out⟩
  · have hbad : ¬ (1 ≤ n ∧ n ≤ 65536) := by omega
    have SM := Aside0.mk (fun w' => same_bad n w' hbad)
    by_cases n1 : n < 1
    · have n2 : ¬ 200 < n := by omega
      clear hin h2 hbad
      go_enter Tryd.func7, Tryd.ntmps7
      go_wp2_with (first
        | (go_at_call 8; refine (LV.out _ (Below.refl _ _)).mono ?_; rintro e w1 ⟨rfl, hb1⟩; have B1 := Aside0.mk hb1; clear hb1)
        | (go_at_call 21; refine (SM.out _).mono ?_; rintro e w2 ⟨rfl, hb2⟩; have B2 := Aside0.mk (below_step B1.out hb2); clear hb2))
      go_ret
      exact ⟨rfl, B2.out⟩
    · have n2 : 65536 < n := by omega
      have n3 : 200 < n := by omega
      have n4 : ¬ n ≤ 65536 := by omega
      clear hin h2 hbad
      go_enter Tryd.func7, Tryd.ntmps7
      go_wp2_with (first
        | (go_at_call 8; refine (LV.out _ (Below.refl _ _)).mono ?_; rintro e w1 ⟨rfl, hb1⟩; have B1 := Aside0.mk hb1; clear hb1)
        | (go_at_call 21; refine (SM.out _).mono ?_; rintro e w2 ⟨rfl, hb2⟩; have B2 := Aside0.mk (below_step B1.out hb2); clear hb2))
      go_ret
      exact ⟨rfl, B2.out⟩

end Go.Proofs.YthaajkpiknbdbaaDoor.QA
