/- Joined by wip/tools/bundle.py out of: T19 T20c T20p T20a T21 T22 TLaid WSized. -/
import Derived.Test.YtbcoieboldgdaaaGreatDoorBDirectSuits1
import Derived.Test.YtbcoieboldgdaaaGreatDoorBDirectSuits7
import Derived.Handy
import Derived.Lib.SliceRun
import Derived.Test.YtbcoieboldgdaaaGreatDoorBDirectSuits4
import Derived.Test.YtbcoieboldgdaaaGreatDoorBDirectSuits0
import Derived.Test.YtbcoieboldgdaaaGreatDoorBDirectSuits9
import Derived.Test.YtbcoieboldgdaaaGreatDoorBDirectSuits6
import Derived.Test.YtbcoieboldgdaaaGreatDoorBDirectSuits8
import Derived.ProofKit
import Derived.OpenShut
import Derived.ChangeSame
import Derived.LaidMore
import Derived.DataReads
import Derived.Test.YtbcoieboldgdaaaGreatDoorRows
import Derived.Lay
import Derived.SizedLaws
import Derived.ChangeSlices
namespace Go.Proofs.YtbcoieboldgdaaaGreatDoor.QA
open Go.RowKit Go.Proofs.YtbcoieboldgdaaaGreatDoorW.PrintWords Go.Proofs.YtbcoieboldgdaaaGreatDoorW.PrintLast Go.Proofs.YtbcoieboldgdaaaGreatDoorW.PrintMore Go.Proofs.YtbcoieboldgdaaaGreatDoor.T
set_option linter.unusedVariables false
set_option linter.unusedSimpArgs false
set_option maxHeartbeats 8000000 in
set_option maxRecDepth 100000 in
theorem imgCopy_calls (b : Nat) (m : Img) (w : World) (h : ImgC w b m) (hl : m.l.length ≤ 268435456) : Calls Tryz.prog 31 #[.pointer (some ⟨b, 0, none⟩)] w fun e w' => ∃ g, e = .returned (.pointer (some ⟨g, 0, none⟩)) ∧ ImgO w' w.heap.size g m ∧ Below w.heap.size w w' := by
  obtain ⟨A, cp, h0, hcp, hC⟩ := h
  have CL := Aside0.mk (fun w' (hb : Below w.heap.size w w') => cloneU_calls A cp m.l w' (Kd.C_below hC hb) hcp hl)
  have HK := Aside0.mk (fun w' (hb : Below w.heap.size w w') => img_cells ((hb.block b (blk_lt h0)).trans h0))
  obtain ⟨z0, z1, z2, z3, z4⟩ := img_cells h0
  obtain ⟨n, hn⟩ : ∃ n, n = m.l.length := ⟨_, rfl⟩
  obtain ⟨mw, hmw⟩ : ∃ n, n = m.w := ⟨_, rfl⟩
  obtain ⟨mh, hmh⟩ : ∃ n, n = m.h := ⟨_, rfl⟩
  obtain ⟨mc, hmc⟩ : ∃ n, n = m.c := ⟨_, rfl⟩
  obtain ⟨mm, hmm⟩ : ∃ n, n = m.most := ⟨_, rfl⟩
  have HE := Aside0.mk (And.intro hmw (And.intro hmh (And.intro hmc hmm)))
  rw [← hn] at z4 CL HK
  rw [← hmw] at z0 HK
  rw [← hmh] at z1 HK
  rw [← hmc] at z2 HK
  rw [← hmm] at z3 HK
  have mixed : Tryz.prog.follows .mixedOrders = true := by kernel_rfl
  clear h0 hC hcp hl hn hmw hmh hmc hmm
  have S0 := Below.refl w.heap.size w
  go_enter Tryz.func31, Tryz.ntmps31
  go_upto_region 1 with fail
  go_region_held3 (fun w' => w'.cell? ⟨b, 0, none⟩ = some (.int .i64 mw) ∧ w'.cell? ⟨b, 1, none⟩ = some (.int .i64 mh) ∧ w'.cell? ⟨b, 2, none⟩ = some (.int .i64 mc) ∧ w'.cell? ⟨b, 3, none⟩ = some (.int .i64 mm) ∧ w'.cell? ⟨b, 4, none⟩ = some (.slice A n cp))
    ((refine HK.out _ ?_; repeat (first | (with_reducible exact S0) | (with_reducible assumption) | (with_reducible apply below_drew1) | (with_reducible refine below_alloc ?_ _))))
    ((go_at_call 47; (with_reducible refine (CL.out _ ?hh).mono ?_); (case hh => (repeat (first | (with_reducible exact S0) | (with_reducible assumption) | (with_reducible apply below_drew1)))); rintro e w4 ⟨v, rfl, hv, hb4⟩; have hb5 : Below w.heap.size w w4 := below_step (by repeat (first | (with_reducible exact S0) | (with_reducible apply below_drew1))) hb4; obtain ⟨A2, c2, rfl⟩ := Kd.R_slice hv; have HV := Aside0.mk hv; clear hv))
  (try simp only [Exit.inBlock, Exit.then])
  go_wp2
  go_ret
  obtain ⟨rfl, rfl, rfl, rfl⟩ := HE.out
  refine ⟨w4.heap.size, rfl, ⟨hb5.size, .slice A2 m.l.length c2, heap_alloc_new w4 _, ?_⟩, below_alloc hb5 _⟩
  exact Kd.R_alloc (Kd.R_reok rfl (Kd.R_lower HV.out (Nat.le_refl _)) (fun k hk => by have := Kd.R_lt HV.out k hk; omega)) _
theorem equalU_l0 (l : List Int) (hl : l.length ≤ 268435456) : ∀ (d i : Nat), i + d = l.length → slices_Equal_uint16_uint16.l0 (d + 1) l l (l.length : Int) (i : Int) = some true
  | 0, i, h => by
    rw [slices_Equal_uint16_uint16.l0, if_neg (by omega)]
  | d + 1, i, h => by
    rw [slices_Equal_uint16_uint16.l0, if_pos (by omega), if_pos (by omega), if_pos (by omega), if_pos (by omega), if_pos rfl, w64_id (by omega) (by omega), show (i : Int) + 1 = ((i + 1 : Nat) : Int) by omega]
    exact equalU_l0 l hl d (i + 1) (by omega)
theorem equalU_eq {l : List Int} (hl : l.length ≤ 268435456) : slices_Equal_uint16_uint16.f (l.length + 1) l l = some true := by
  unfold slices_Equal_uint16_uint16.f
  rw [if_pos rfl]
  exact equalU_l0 l hl l.length 0 (by omega)
theorem quiet_drawnU {P : Program} {f : FuncId} {args : Array Value} {w : World} {n : Nat} {v : Value}
    (h : Calls P f args (w.drewN n) fun e w' => e = .returned v ∧ Drawn0 (w.drewN n) w') : Calls P f args (w.drewN n) fun e w'' => e = .returned v ∧ ∃ m, w'' = w.drewN m :=
  Calls.quiet_of (h.mono fun _ _ ⟨he, hd⟩ => ⟨he, hd.out⟩)
set_option maxHeartbeats 8000000 in
set_option maxRecDepth 100000 in
theorem imgSame_calls (b1 b2 : Nat) (m : Img) (w : World) (h1 : ImgC w b1 m) (h2 : ImgC w b2 m) (hl : m.l.length ≤ 268435456) : Calls Tryz.prog 11 #[.pointer (some ⟨b1, 0, none⟩), .pointer (some ⟨b2, 0, none⟩)] w fun e w' => e = .returned (.bool true) ∧ Drawn0 w w' := by
  obtain ⟨A1, c1, g1, l1, k1⟩ := h1
  obtain ⟨A2, c2, g2, l2, k2⟩ := h2
  have EQ := Aside0.mk (fun n => slices_Equal_uint16_uint16.calls (m.l.length + 1) A1 c1 m.l A2 c2 m.l true (w.drewN n) (Kd.C_below k1 (pw_below_drewN (Below.refl _ _) n)) l1 (Kd.C_below k2 (pw_below_drewN (Below.refl _ _) n)) l2 (equalU_eq hl))
  obtain ⟨z0, z1, z2, z3, z4⟩ := img_cells g1
  obtain ⟨y0, y1, y2, y3, y4⟩ := img_cells g2
  obtain ⟨n, hn⟩ : ∃ n, n = m.l.length := ⟨_, rfl⟩
  obtain ⟨mw, hmw⟩ : ∃ n, n = m.w := ⟨_, rfl⟩
  obtain ⟨mh, hmh⟩ : ∃ n, n = m.h := ⟨_, rfl⟩
  obtain ⟨mc, hmc⟩ : ∃ n, n = m.c := ⟨_, rfl⟩
  obtain ⟨mm, hmm⟩ : ∃ n, n = m.most := ⟨_, rfl⟩
  rw [← hn] at z4 y4 EQ
  rw [← hmw] at z0 y0
  rw [← hmh] at z1 y1
  rw [← hmc] at z2 y2
  rw [← hmm] at z3 y3
  have q0 : (mw == mw) = true := by simp
  have q1 : (mh == mh) = true := by simp
  have q2 : (mc == mc) = true := by simp
  have q3 : (mm == mm) = true := by simp
  clear g1 g2 l1 l2 k1 k2 hn hmw hmh hmc hmm hl
  go_enter Tryz.func11, Tryz.ntmps11
  go_upto_region 3 with fail
  go_quiet ((go_at_call 30; exact quiet_drawnU (EQ.out _)))
  go_wp2
  go_ret
  exact ⟨rfl, ⟨⟨nq, rfl⟩⟩⟩
/-- What Draw makes of raw numbers. -/
def drW (w : Int) : Int := 1 + w % 20
def drK (c : Int) : Int := 1 + 2 * (c % 2)
def drT (most : Int) : Int := 1 + most % 65535
def drV (top : Int) (l : List Int) (i : Nat) : Int := if l.length = 0 then 0 else (rd l ((i % l.length : Nat) : Int) + ((i / l.length : Nat) : Int)) % (top + 1)
def drI (w h c most : Int) (l : List Int) : Img := ⟨drW w, drW h, drK c, drT most, (List.range (drW w * drW h * drK c).toNat).map (drV (drT most) l)⟩
theorem dr_bnd {w h c most : Int} (h1 : 0 ≤ w) (h2 : 0 ≤ h) (h3 : 0 ≤ c) (h4 : 0 ≤ most) : (1 ≤ drW w ∧ drW w ≤ 20) ∧ (1 ≤ drW h ∧ drW h ≤ 20) ∧ (drK c = 1 ∨ drK c = 3) ∧ (1 ≤ drT most ∧ drT most ≤ 65535) := by
  unfold drW drK drT; omega
theorem dr_n {w h c : Int} (h1 : 0 ≤ w) (h2 : 0 ≤ h) (h3 : 0 ≤ c) : 1 ≤ drW w * drW h * drK c ∧ drW w * drW h * drK c ≤ 1200 ∧ 1 ≤ drW w * drW h ∧ drW w * drW h ≤ 400 := by
  obtain ⟨a, b, d, _⟩ := dr_bnd (most := 0) h1 h2 h3 (by decide)
  have e1 : drW w * drW h ≤ 20 * 20 := Int.mul_le_mul a.2 b.2 (by omega) (by decide)
  have e2 : 1 * 1 ≤ drW w * drW h := Int.mul_le_mul a.1 b.1 (by omega) (by omega)
  rcases d with d | d <;> rw [d] <;> omega
theorem drV_bnd {top : Int} (ht : 1 ≤ top) (l : List Int) (i : Nat) : 0 ≤ drV top l i ∧ drV top l i ≤ top := by
  unfold drV
  split
  · omega
  · have := Int.emod_nonneg (rd l ((i % l.length : Nat) : Int) + ((i / l.length : Nat) : Int)) (show top + 1 ≠ 0 by omega)
    have := Int.emod_lt_of_pos (rd l ((i % l.length : Nat) : Int) + ((i / l.length : Nat) : Int)) (show 0 < top + 1 by omega)
    omega
def drF (top : Int) (l : List Int) (N i : Nat) : List Int := (List.range N).map (fun j => if j < i then drV top l j else 0)
theorem drF_len (top : Int) (l : List Int) (N i : Nat) : (drF top l N i).length = N := by simp [drF]
theorem drF_zero (top : Int) (l : List Int) (N : Nat) : drF top l N 0 = List.replicate N 0 := by
  refine List.ext_getElem (by simp [drF]) (fun j h1 h2 => ?_)
  simp [drF]
theorem drF_step (top : Int) (l : List Int) (N i : Nat) : (drF top l N i).set i (drV top l i) = drF top l N (i + 1) := by
  refine List.ext_getElem (by simp [drF]) (fun j h1 h2 => ?_)
  rw [List.getElem_set]
  simp only [drF, List.getElem_map, List.getElem_range]
  by_cases c : i = j
  · subst c; rw [if_pos rfl, if_pos (by omega)]
  · rw [if_neg c]
    by_cases d : j < i
    · rw [if_pos d, if_pos (by omega)]
    · rw [if_neg d, if_neg (by omega)]
theorem drF_nil (top : Int) (l : List Int) (N i : Nat) (h : l.length = 0) : drF top l N i = drF top l N (i + 1) := by
  unfold drF
  refine List.map_congr_left (fun j _ => ?_)
  have : drV top l j = 0 := by unfold drV; rw [if_pos h]
  simp [this]
theorem drF_all (top : Int) (l : List Int) (N : Nat) : drF top l N N = (List.range N).map (drV top l) := by
  unfold drF
  refine List.map_congr_left (fun j hj => ?_)
  rw [if_pos (List.mem_range.1 hj)]
set_option maxHeartbeats 8000000 in
set_option maxRecDepth 100000 in
theorem draw_calls (wd ht c most : Int) (A0 : Option Addr) (c0 : Nat) (l : List Int) (w : World) (h1 : 0 ≤ wd ∧ wd ≤ 65535) (h2 : 0 ≤ ht ∧ ht ≤ 65535) (h3 : 0 ≤ c ∧ c ≤ 65535) (h4 : 0 ≤ most ∧ most ≤ 65535) (hr : Kd.C (Kd.int .u16) w A0 l.length l) (hc : l.length ≤ c0) (hv : ∀ j : Nat, j < l.length → 0 ≤ rd l (j : Int) ∧ rd l (j : Int) ≤ 65535) :
    Calls Tryz.prog 21 #[.int .u16 wd, .int .u16 ht, .int .u16 c, .int .u16 most, .slice A0 l.length c0] w fun e w' => ∃ g, e = .returned (.pointer (some ⟨g, 0, none⟩)) ∧ ImgO w' w.heap.size g (drI wd ht c most l) ∧ Below w.heap.size w w' := by
  have lm := hr.2.1
  obtain ⟨q1, q2, q3, q4⟩ := dr_bnd h1.1 h2.1 h3.1 h4.1
  obtain ⟨q5, q6, q7, q8⟩ := dr_n h1.1 h2.1 h3.1
  have HR := Aside0.mk hr
  have HV := Aside0.mk hv
  have HC := Aside0.mk hc
  obtain ⟨X, hX⟩ : ∃ X, X = drW wd := ⟨_, rfl⟩
  obtain ⟨Y, hY⟩ : ∃ X, X = drW ht := ⟨_, rfl⟩
  obtain ⟨K, hK⟩ : ∃ X, X = drK c := ⟨_, rfl⟩
  obtain ⟨T, hT⟩ : ∃ X, X = drT most := ⟨_, rfl⟩
  rw [← hX, ← hY] at q7 q8
  rw [← hX, ← hY, ← hK] at q5 q6
  rw [← hX] at q1
  rw [← hY] at q2
  rw [← hK] at q3
  rw [← hT] at q4
  obtain ⟨N, hN⟩ : ∃ N : Nat, X * Y * K = (N : Int) := Int.eq_ofNat_of_zero_le (by omega)
  have HE := Aside0.mk (And.intro hX (And.intro hY (And.intro hK (And.intro hT hN))))
  have v1 : wrap64 (X * Y) = X * Y := w64_id (by omega) (by omega)
  have v3 : wrap64 (X * Y * K) = (N : Int) := by rw [← hN]; exact w64_id (by omega) (by omega)
  rw [hN] at q5 q6
  have mk := print_make (P := Tryz.prog) 23 22 .u16 2 (by kernel_rfl) (by kernel_rfl) (by decide) N (by omega)
  have x1 : 1 + wd % 20 = X := hX.symm
  have x2 : 1 + ht % 20 = Y := hY.symm
  have x3 : 1 + 2 * (c % 2) = K := hK.symm
  have x4 : 1 + most % 65535 = T := hT.symm
  obtain ⟨n, hn⟩ : ∃ n, n = l.length := ⟨_, rfl⟩
  have HL := Aside0.mk hn
  rw [← hn] at lm ⊢
  clear hr hv hc hX hY hK hT hN hn
  have mixed : Tryz.prog.follows .mixedOrders = true := by kernel_rfl
  go_enter Tryz.func21, Tryz.ntmps21
  go_upto_region 4 with fail
  have hR := made_R w w.heap.size N (Nat.le_refl _) (by omega) (fun _ => True) trivial
  have B1 := Aside0.mk (below_alloc (Below.refl w.heap.size w) (.cells (madeCells #[.int .u16 0] N) 22))
  obtain ⟨g, hg⟩ : ∃ g, g = w.heap.size := ⟨_, rfl⟩
  rw [← hg] at hR ⊢
  generalize w.alloc (.cells (madeCells #[.int .u16 0] N) 22) = w1 at hR B1 ⊢
  rw [← drF_zero T l N] at hR
  have HS := Aside0.mk hR
  have HG := Aside0.mk hg
  clear hR hg v1 v3 mk x1 x2 x3 x4
  go_wp2
  go_loopg [16, 44] N (fun kx s16 s44 wr => ∃ (i : Nat), s44 = .int .i64 i ∧ i ≤ N ∧ N - i ≤ kx ∧ Aside0 (Below w.heap.size w wr) ∧ Aside0 (Kd.R (Kd.int .u16) 22 wr g (fun _ => True) (.slice (some ⟨g, 0, none⟩) N N) (drF T l N i)))
  case atStart => exact ⟨0, rfl, by omega, by omega, B1, HS⟩
  case round =>
    clear B1 HS
    obtain ⟨i, rfl, i1, i2, HB, HS⟩ := hrel
    have wi : IntKind.i64.wrap ((i : Int) + 1) = (i : Int) + 1 := by rw [i64w]; exact w64_id (by omega) (by omega)
    by_cases hlt : (i : Int) < (N : Int)
    rotate_left
    · have hin : i = N := by omega
      subst hin
      obtain ⟨r1, r2, r3⟩ := Kd.R_reads' HS.out
      obtain ⟨eX, eY, eK, eT, eN⟩ := HE.out
      have io := imgOf_ok X Y K T (some ⟨g, 0, none⟩) i (drF T l i i) wr ⟨q1.1, by omega⟩ ⟨q2.1, by omega⟩ q3 q4 (by omega) r3 (by rw [drF_len]; exact Nat.le_refl _) (by rw [drF_len, eN]) (by rw [drF_len]; omega) (fun x hx => by
        rw [drF_all] at hx
        obtain ⟨j, _, rfl⟩ := List.mem_map.1 hx
        exact drV_bnd q4.1 l j)
      rw [drF_len] at io
      have IO := Aside0.mk io
      clear io r1 r2 r3 eX eY eK eT eN
      go_wp2_with (go_at_call 16; refine IO.out.mono ?_; rintro e w2 ⟨hb2, g2, rfl, hi⟩; have B2 := Aside0.mk (below_step HB.out hb2); have HI := Aside0.mk (ImgO.lower hi HB.out.size); clear hb2 hi)
      go_ret
      refine ⟨g2, rfl, ?_, B2.out⟩
      have h := HI.out
      obtain ⟨rfl, rfl, rfl, rfl, eN⟩ := HE.out
      rw [drF_all] at h
      unfold drI
      rw [eN, Int.toNat_natCast]
      exact h
    by_cases n0 : n = 0
    · subst n0
      go_wp2
      go_roundg (N - (i + 1))
      case measure => omega
      case rel => exact ⟨i + 1, by simp, by omega, Nat.le_refl _, HB, ⟨by rw [← drF_nil T l N i HL.out.symm]; exact HS.out⟩⟩
    obtain ⟨j, hj⟩ : ∃ j, j = i % n := ⟨_, rfl⟩
    obtain ⟨q, hq⟩ : ∃ q, q = i / n := ⟨_, rfl⟩
    have hjn : j < n := by rw [hj]; exact Nat.mod_lt _ (by omega)
    have hqi : q ≤ i := by rw [hq]; exact Nat.div_le_self _ _
    obtain ⟨ad, eA, t7⟩ := Kd.at_int HR.out (j : Int) (by omega) (by rw [← HL.out]; omega)
    cases eA
    rw [Int.toNat_natCast] at t7
    have tb := World.block_lt_of_cell? w _ t7
    have FN : ad.add j ≠ ⟨g, i, none⟩ := fun e => by rw [e] at tb; have h := HG.out; simp only at tb; omega
    replace t7 := (HB.out.cell tb).trans t7
    clear tb
    have hs2 : Kd.R (Kd.int .u16) 22 wr g (fun _ => True) (.slice (some ⟨g, 0, none⟩) (drF T l N i).length N) (drF T l N i) := by rw [drF_len]; exact HS.out
    obtain ⟨k1, k2⟩ := Kd.R_cell (0 : Int) hs2 (i : Int) (by omega) (by rw [drF_len]; exact hlt)
    rw [Int.toNat_natCast] at k1 k2
    have vb := HV.out j (by rw [← HL.out]; exact hjn)
    obtain ⟨v, hv⟩ : ∃ v, v = rd l (j : Int) := ⟨_, rfl⟩
    rw [← hv] at vb t7
    obtain ⟨r, hr⟩ : ∃ r, r = drV T l i := ⟨_, rfl⟩
    have rb := drV_bnd q4.1 l i
    rw [← hr] at rb
    have er : r = (v + (q : Int)) % (T + 1) := by rw [hr]; unfold drV; rw [if_neg (by rw [← HL.out]; exact n0), ← HL.out, ← hj, ← hq, ← hv]
    have rt : Int.tmod (i : Int) (n : Int) = (j : Int) := by rw [hj]; rfl
    have qt : Int.tdiv (i : Int) (n : Int) = (q : Int) := by rw [hq]; rfl
    have rt2 : Int.tmod (v + (q : Int)) (T + 1) = r := by rw [er]; exact Int.tmod_eq_emod_of_nonneg (by omega)
    have wq : IntKind.i64.wrap (q : Int) = (q : Int) := by rw [i64w]; exact w64_id (by omega) (by omega)
    have ws : IntKind.i64.wrap (v + (q : Int)) = v + (q : Int) := by rw [i64w]; exact w64_id (by omega) (by omega)
    have wv : IntKind.i64.wrap v = v := by rw [i64w]; exact w64_id (by omega) (by omega)
    have wT : IntKind.i64.wrap (T + 1) = T + 1 := by rw [i64w]; exact w64_id (by omega) (by omega)
    have w16 : IntKind.u16.wrap r = r := by
      have h0 := rb.1
      have h1 : r ≤ 65535 := by omega
      unfold IntKind.wrap IntKind.bits IntKind.signed
      simp
      omega
    have nz : ¬ (n : Int) = 0 := by omega
    have nzb : ((n : Int) == 0) = false := by simpa using n0
    have tz : ¬ T + 1 = 0 := by omega
    have tzb : ((T + 1) == 0) = false := by simpa using tz
    have np : (0 : Int) < (n : Int) := by omega
    have HRR := Aside0.mk hr
    have put := Kd.R_drew (Kd.R_put hs2 (i : Int) r).1
    rw [drF_len, Int.toNat_natCast, HRR.out, drF_step, ← HRR.out] at put
    have PUT := Aside0.mk put
    have FAR := Aside0.mk (below_drew1 (HB.out.setCell (p := ⟨g, i, none⟩) (show w.heap.size ≤ g by rw [HG.out]; exact Nat.le_refl _) (.int .u16 r)))
    clear hj hq hv hr er vb rb hs2 put
    have KEEP := Aside0.mk (fun u => (show ((wr.setCell ⟨g, i, none⟩ u).drew).cell? (ad.add j) = some (.int .u16 v) from (World.cell?_setCell_other _ _ _ _ (Ne.symm FN)).trans t7))
    go_wp2
    go_region_held3 (fun w' => w'.cell? (ad.add j) = some (.int .u16 v)) ((first | exact KEEP.out _ | go_keep)) (fail)
    (try simp only [Exit.inBlock, Exit.then])
    go_wp2
    go_roundg (N - (i + 1))
    case measure => omega
    case rel => exact ⟨i + 1, by simp, by omega, Nat.le_refl _, FAR, PUT⟩
end Go.Proofs.YtbcoieboldgdaaaGreatDoor.QA

namespace Go.Proofs.YtbcoieboldgdaaaGreatDoor.QA
open Go.RowKit Go.Proofs.YtbcoieboldgdaaaGreatDoorW.PrintWords Go.Proofs.YtbcoieboldgdaaaGreatDoorW.PrintLast Go.Proofs.YtbcoieboldgdaaaGreatDoorW.PrintMore Go.Proofs.YtbcoieboldgdaaaGreatDoor.T
set_option linter.unusedVariables false
set_option linter.unusedSimpArgs false
set_option maxHeartbeats 8000000 in
set_option maxRecDepth 100000 in
theorem compose_no (b gs bx bz : Nat) (m : Img) (tx ty : Tab) (bd : Int) (w : World) (hG : GL w) (hI : ImgC w b m) (hl : m.l.length ≤ 268435456) (hx : TabC w bx tx) (hy : TabC w bz ty) (hn : ¬ suitB m tx ty bd) (hs : w.heap[gs]? = some (.cells #[.pointer (some ⟨bx, 0, none⟩), .pointer (some ⟨bz, 0, none⟩), .int .i64 bd] 33 (0, 0))) :
    Calls Tryz.prog 12 #[.pointer (some ⟨b, 0, none⟩), .slice (some ⟨gs, 0, none⟩) 1 1] w fun e w' => e = .returned (.tuple #[.pointer none, .int .i64 6]) ∧ Below w.heap.size w w' := by
  have CP := Aside0.mk (imgCopy_calls b m w hI hl)
  have AP := Aside0.mk (fun g w' (hb : Below w.heap.size w w') (hi : ImgC w' g m) => apply_no g bx bz m tx ty bd w' (hG.below hb) hi (hx.below hb) (hy.below hb) hn)
  have HS := Aside0.mk hs
  have mixed : Tryz.prog.follows .mixedOrders = true := by kernel_rfl
  clear hG hI hl hx hy hn hs
  unfold stV at AP
  go_enter Tryz.func12, Tryz.ntmps12
  go_upto_region 2 with (go_at_call 31; refine CP.out.mono ?_; rintro e w1 ⟨g, rfl, hi, hb1⟩; have B1 := Aside0.mk hb1; have HI := Aside0.mk hi.reads; clear hi hb1)
  have hr := (B1.out.block gs (blk_lt HS.out)).trans HS.out
  have z0 : w1.cell? ⟨gs, 0, none⟩ = some (.pointer (some ⟨bx, 0, none⟩)) := (blk_cell hr 0).trans rfl
  have z1 : w1.cell? ⟨gs, 1, none⟩ = some (.pointer (some ⟨bz, 0, none⟩)) := (blk_cell hr 1).trans rfl
  have z2 : w1.cell? ⟨gs, 2, none⟩ = some (.int .i64 bd) := (blk_cell hr 2).trans rfl
  clear hr
  go_wp2
  go_loopg [6, 15] 1 (fun kx s6 s15 wr => s6 = .pointer (some ⟨g, 0, none⟩) ∧ s15 = .int .i64 0 ∧ wr = w1)
  case atStart => exact ⟨rfl, rfl, rfl⟩
  case round =>
    obtain ⟨rfl, rfl, rfl⟩ := hrel
    go_upto_region 5 with fail
    have hr := heap_alloc_new wr (.cells #[.pointer (some ⟨bx, 0, none⟩), .pointer (some ⟨bz, 0, none⟩), .int .i64 bd] 33)
    have BA := Aside0.mk (below_alloc (Below.refl wr.heap.size wr) (.cells #[.pointer (some ⟨bx, 0, none⟩), .pointer (some ⟨bz, 0, none⟩), .int .i64 bd] 33))
    obtain ⟨r, hrr⟩ : ∃ r, r = wr.heap.size := ⟨_, rfl⟩
    rw [← hrr] at hr ⊢
    generalize wr.alloc (.cells #[.pointer (some ⟨bx, 0, none⟩), .pointer (some ⟨bz, 0, none⟩), .int .i64 bd] 33) = w3 at hr BA ⊢
    have s0 : w3.cell? ⟨r, 0, none⟩ = some (.pointer (some ⟨bx, 0, none⟩)) := (blk_cell hr 0).trans rfl
    have s1 : w3.cell? ⟨r, 1, none⟩ = some (.pointer (some ⟨bz, 0, none⟩)) := (blk_cell hr 1).trans rfl
    have s2 : w3.cell? ⟨r, 2, none⟩ = some (.int .i64 bd) := (blk_cell hr 2).trans rfl
    have B3 := Aside0.mk (below_step B1.out BA.out)
    have AP1 := Aside0.mk (AP.out g w3 B3.out (HI.out.below BA.out))
    clear hr hrr z0 z1 z2
    go_wp2_with (go_at_call 10; (with_reducible refine AP1.out.mono ?_); rintro e w4 ⟨rfl, hb4⟩; have B4 := Aside0.mk (below_step B3.out hb4); clear hb4)
    go_ret2
    exact ⟨rfl, B4.out⟩
theorem fits09_eq {a b c : Int} (ha : 1 ≤ a ∧ a ≤ 20) (hb : 1 ≤ b ∧ b ≤ 20) (hc : c = 1 ∨ c = 3) : smaltoref09_Fits.f 2 a b c = some true := by
  have h0 : a * b ≤ 20 * 20 := Int.mul_le_mul ha.2 hb.2 (by omega) (by decide)
  have h1 : 0 ≤ a * b := Int.mul_nonneg (by omega) (by omega)
  unfold smaltoref09_Fits.f
  rw [if_neg (by omega), if_neg (by omega), if_neg (by omega), decide_eq_false (by omega), smaltoref09_Fits.j0, if_neg (by decide), w64_id (x := a * b) (by omega) (by omega)]
  rcases hc with rfl | rfl
  · rw [if_pos rfl, if_neg (by decide), decide_eq_true (by rw [w64_id (by decide) (by decide)]; omega)]
  · rw [if_neg (by decide), if_pos rfl, if_neg (by decide), decide_eq_true (by rw [w64_id (by decide) (by decide)]; omega)]
end Go.Proofs.YtbcoieboldgdaaaGreatDoor.QA

namespace Go.Proofs.YtbcoieboldgdaaaGreatDoor.QA
open Go.RowKit Go.Proofs.YtbcoieboldgdaaaGreatDoorW.PrintWords Go.Proofs.YtbcoieboldgdaaaGreatDoorW.PrintLast Go.Proofs.YtbcoieboldgdaaaGreatDoorW.PrintMore Go.Proofs.YtbcoieboldgdaaaGreatDoor.T
set_option linter.unusedVariables false
set_option linter.unusedSimpArgs false
set_option maxHeartbeats 8000000 in
set_option maxRecDepth 100000 in
theorem picture_calls (wd ht c most : Int) (A0 : Option Addr) (c0 : Nat) (l : List Int) (w : World) (h1 : 0 ≤ wd ∧ wd ≤ 65535) (h2 : 0 ≤ ht ∧ ht ≤ 65535) (h3 : 0 ≤ c ∧ c ≤ 65535) (h4 : 0 ≤ most ∧ most ≤ 65535) (hr0 : Kd.C (Kd.int .u16) w A0 l.length l) (hc : l.length ≤ c0) (hv : ∀ j : Nat, j < l.length → 0 ≤ rd l (j : Int) ∧ rd l (j : Int) ≤ 65535) :
    Calls Tryz.prog 5 #[.agg #[.int .u16 wd, .int .u16 ht, .int .u16 c, .int .u16 most, .slice A0 l.length c0]] w fun e w' => ∃ g, e = .returned (.pointer (some ⟨g, 0, none⟩)) ∧ ImgC w' g (drI (wd % 12) (ht % 12) c most l) ∧ Below w.heap.size w w' := by
  have DR := Aside0.mk (fun w' (hb : Below w.heap.size w w') => draw_calls (wd % 12) (ht % 12) c most A0 c0 l w' ⟨by omega, by omega⟩ ⟨by omega, by omega⟩ h3 h4 (Kd.C_below hr0 hb) hc hv)
  obtain ⟨n, hn⟩ : ∃ n, n = l.length := ⟨_, rfl⟩
  rw [← hn] at DR ⊢
  have BX := Aside0.mk (below_alloc (Below.refl w.heap.size w) (.cells #[.int .u16 wd, .int .u16 ht, .int .u16 c, .int .u16 most, .slice A0 n c0] 25))
  have hr := heap_alloc_new w (.cells #[.int .u16 wd, .int .u16 ht, .int .u16 c, .int .u16 most, .slice A0 n c0] 25)
  have HR := Aside0.mk hr
  clear hr hr0 hc hv hn
  go_enter Tryz.func5, Tryz.ntmps5
  go_upto_region 1 with fail
  obtain ⟨r, hrr⟩ : ∃ r, r = w.heap.size := ⟨_, rfl⟩
  have hr := HR.out
  rw [← hrr] at hr ⊢
  generalize w.alloc (.cells #[.int .u16 wd, .int .u16 ht, .int .u16 c, .int .u16 most, .slice A0 n c0] 25) = w3 at hr BX ⊢
  have s0 : w3.cell? ⟨r, 0, none⟩ = some (.int .u16 wd) := (blk_cell hr 0).trans rfl
  have s1 : w3.cell? ⟨r, 1, none⟩ = some (.int .u16 ht) := (blk_cell hr 1).trans rfl
  have s2 : w3.cell? ⟨r, 2, none⟩ = some (.int .u16 c) := (blk_cell hr 2).trans rfl
  have s3 : w3.cell? ⟨r, 3, none⟩ = some (.int .u16 most) := (blk_cell hr 3).trans rfl
  have s4 : w3.cell? ⟨r, 4, none⟩ = some (.slice A0 n c0) := (blk_cell hr 4).trans rfl
  have DR1 := Aside0.mk (DR.out _ BX.out)
  clear hr HR hrr
  go_wp2_with (go_at_call 21; refine DR1.out.mono ?_; rintro e w4 ⟨g, rfl, hi, hb4⟩; have B4 := Aside0.mk (below_step BX.out hb4); have HI := Aside0.mk hi.reads; clear hi hb4)
  go_ret
  exact ⟨g, rfl, HI.out, B4.out⟩
end Go.Proofs.YtbcoieboldgdaaaGreatDoor.QA

namespace Go.Proofs.YtbcoieboldgdaaaGreatDoor.QA
open Go.RowKit Go.Proofs.YtbcoieboldgdaaaGreatDoorW.PrintWords Go.Proofs.YtbcoieboldgdaaaGreatDoorW.PrintLast Go.Proofs.YtbcoieboldgdaaaGreatDoorW.PrintMore Go.Proofs.YtbcoieboldgdaaaGreatDoor.T
set_option linter.unusedVariables false
set_option linter.unusedSimpArgs false
theorem one_lines {t : Tab} {N : Nat} (h : OneT t N) (h1 : 1 ≤ N) (h2 : N ≤ 65536) : LinesB t := ⟨by rw [h.2.1]; exact h1, by rw [h.2.1]; exact h2, fun j hj => by
  rw [h.2.1] at hj
  rw [h.2.2 j hj]
  exact ⟨by simp, by show (-1099511627776 : Int) ≤ (j : Int); omega, by show (j : Int) ≤ 1099511627776; omega⟩⟩
theorem one_fil (N : Nat) : OneT (filTab N 0 [16384] N) N := ⟨by
    have : ∀ i, (filTab N 0 [16384] i).n = N := by
      intro i
      induction i with
      | zero => rfl
      | succ i ih => exact ih
    exact this N, filTab_len _ _ _ _, fun j hj => by rw [filTab_rd _ _ _ _ _ hj, Int.sub_zero]⟩
theorem apply_same (b bx bz : Nat) (m : Img) (tx ty : Tab) (bd : Int) (N1 N2 : Nat) (w : World) (hG : GL w) (hI : ImgC w b m) (hx : TabC w bx tx) (hy : TabC w bz ty) (hb : 0 ≤ bd ∧ bd < 3) (B : ImgB m) (hv : ∀ j : Nat, j < m.l.length → 0 ≤ rd m.l (j : Int) ∧ rd m.l (j : Int) ≤ m.most) (hW : m.w = N1) (hH : m.h = N2) (h1 : OneT tx N1) (h2 : OneT ty N2) :
    Calls Tryz.prog 10 #[.pointer (some ⟨b, 0, none⟩), stV bx bz bd] w fun e w' => ∃ g, e = .returned (.tuple #[.pointer (some ⟨g, 0, none⟩), .int .i64 0]) ∧ ImgO w' w.heap.size g m ∧ Below w.heap.size w w' := by
  obtain ⟨C, hC⟩ : ∃ C : Nat, m.c = (C : Int) := Int.eq_ofNat_of_zero_le (by have := B.c1; omega)
  have w1 := B.w1; have w2 := B.w2; have q1 := B.h1; have q2 := B.h2
  have hs := one_same B hv hb hW hH hC h1 h2
  have hn := B.n2
  rw [hW, hH, hC] at hn
  have ha := apply_ok b bx bz m tx ty bd C w hG hI hx hy (by rw [h1.1, hW]) (by rw [h2.1, hH]) hb B hC (one_lines h1 (by omega) (by omega)) (one_lines h2 (by omega) (by omega)) (by rw [h1.2.1, h2.2.1]; exact hn)
  rw [hs, h1.2.1, h2.2.1, ← hW, ← hH] at ha
  exact ha
end Go.Proofs.YtbcoieboldgdaaaGreatDoor.QA

namespace Go.Proofs.YtbcoieboldgdaaaGreatDoor.QA
open Go.RowKit Go.Proofs.YtbcoieboldgdaaaGreatDoorW.PrintWords Go.Proofs.YtbcoieboldgdaaaGreatDoorW.PrintLast Go.Proofs.YtbcoieboldgdaaaGreatDoorW.PrintMore Go.Proofs.YtbcoieboldgdaaaGreatDoor.T
set_option linter.unusedVariables false
set_option linter.unusedSimpArgs false
theorem drI_B {wd ht c most : Int} {l : List Int} (h1 : 0 ≤ wd) (h2 : 0 ≤ ht) (h3 : 0 ≤ c) (h4 : 0 ≤ most) : ImgB (drI wd ht c most l) ∧ (∀ j : Nat, j < (drI wd ht c most l).l.length → 0 ≤ rd (drI wd ht c most l).l (j : Int) ∧ rd (drI wd ht c most l).l (j : Int) ≤ (drI wd ht c most l).most) ∧ (drI wd ht c most l).l.length ≤ 268435456 ∧ (drI wd ht c most l).w ≤ 20 ∧ (drI wd ht c most l).h ≤ 20 := by
  obtain ⟨q1, q2, q3, q4⟩ := dr_bnd h1 h2 h3 h4
  obtain ⟨q5, q6, q7, q8⟩ := dr_n h1 h2 h3
  have el : (drI wd ht c most l).l.length = (drW wd * drW ht * drK c).toNat := by show (List.map _ (List.range _)).length = _; simp
  refine ⟨⟨q1.1, Int.le_trans q1.2 (by decide), q2.1, Int.le_trans q2.2 (by decide), q3, q4.1, q4.2, ?_, Int.le_trans q6 (by decide)⟩, fun j hj => ?_, ?_, q1.2, q2.2⟩
  · rw [el]; exact Int.toNat_of_nonneg (by omega)
  · have e : rd (drI wd ht c most l).l (j : Int) = drV (drT most) l j := by
      rw [el] at hj
      show rd (List.map _ (List.range _)) _ = _
      unfold rd
      rw [Int.toNat_natCast, List.getD_eq_getElem?_getD, List.getElem?_map, List.getElem?_range hj]; rfl
    rw [e]
    exact drV_bnd q4.1 l j
  · rw [el]; omega
set_option maxHeartbeats 8000000 in
set_option maxRecDepth 100000 in
theorem directSuits_calls (wd ht c most : Int) (A0 : Option Addr) (c0 : Nat) (l : List Int) (sw sh bd : Int) (w : World) (hG : GL w) (h1 : 0 ≤ wd ∧ wd ≤ 65535) (h2 : 0 ≤ ht ∧ ht ≤ 65535) (h3 : 0 ≤ c ∧ c ≤ 65535) (h4 : 0 ≤ most ∧ most ≤ 65535) (hr : Kd.C (Kd.int .u16) w A0 l.length l) (hc : l.length ≤ c0) (hv : ∀ j : Nat, j < l.length → 0 ≤ rd l (j : Int) ∧ rd l (j : Int) ≤ 65535) (h5 : 0 ≤ sw ∧ sw ≤ 255) (h6 : 0 ≤ sh ∧ sh ≤ 255) (h7 : I64 bd) :
    Calls Tryz.prog 3 #[.agg #[.int .u16 wd, .int .u16 ht, .int .u16 c, .int .u16 most, .slice A0 l.length c0], .int .u8 sw, .int .u8 sh, .int .i64 bd] w fun e w' => e = .returned (.bool true) ∧ Below w.heap.size w w' := by
  have LV := Aside0.mk (fun w' (hb : Below w.heap.size w w') => lives15_calls w' (hG.below hb))
  have PC := Aside0.mk (fun w' (hb : Below w.heap.size w w') => picture_calls wd ht c most A0 c0 l w' h1 h2 h3 h4 (Kd.C_below hr hb) hc hv)
  have HG := Aside0.mk (fun w' (hb : Below w.heap.size w w') => hG.below hb)
  obtain ⟨MB, MV, ML, MW, MH⟩ := drI_B (wd := wd % 12) (ht := ht % 12) (c := c) (most := most) (l := l) (by omega) (by omega) (by omega) (by omega)
  generalize drI (wd % 12) (ht % 12) c most l = m at PC MB MV ML MW MH
  obtain ⟨N1, hN1⟩ : ∃ N : Nat, 1 + sw % 14 = (N : Int) := Int.eq_ofNat_of_zero_le (by omega)
  obtain ⟨N2, hN2⟩ : ∃ N : Nat, 1 + sh % 14 = (N : Int) := Int.eq_ofNat_of_zero_le (by omega)
  have SM := Aside0.mk (fun (N : Nat) (h1 : 1 ≤ N) (h2 : N ≤ 65536) w' => same_calls N w' h1 h2)
  have NB : (1 ≤ N1 ∧ N1 ≤ 65536) ∧ (1 ≤ N2 ∧ N2 ≤ 65536) := by omega
  obtain ⟨n, hn⟩ : ∃ n, n = l.length := ⟨_, rfl⟩
  rw [← hn] at PC ⊢
  have BX := Aside0.mk (below_alloc (Below.refl w.heap.size w) (.cells #[.int .u16 wd, .int .u16 ht, .int .u16 c, .int .u16 most, .slice A0 n c0] 25))
  have hr := heap_alloc_new w (.cells #[.int .u16 wd, .int .u16 ht, .int .u16 c, .int .u16 most, .slice A0 n c0] 25)
  have HR := Aside0.mk hr
  have mixed : Tryz.prog.follows .mixedOrders = true := by kernel_rfl
  have HMB := Aside0.mk (And.intro MB (And.intro MV (And.intro ML (And.intro MW MH))))
  have HNB := Aside0.mk NB
  clear hr hG hc hv hn h1 h2 h3 h4 MB MV ML MW MH NB
  go_enter Tryz.func3, Tryz.ntmps3
  go_upto_region 1 with fail
  obtain ⟨r, hrr⟩ : ∃ r, r = w.heap.size := ⟨_, rfl⟩
  have hr := HR.out
  rw [← hrr] at hr ⊢
  generalize w.alloc (.cells #[.int .u16 wd, .int .u16 ht, .int .u16 c, .int .u16 most, .slice A0 n c0] 25) = w3 at hr BX ⊢
  have HR3 := Aside0.mk hr
  clear hr HR hrr
  go_upto_region 3 with (go_at_call 4; refine (LV.out _ BX.out).mono ?_; rintro e w4 ⟨rfl, hb4⟩; have B4 := Aside0.mk (below_step BX.out hb4); have HR4 := Aside0.mk ((hb4.block r (blk_lt HR3.out)).trans HR3.out); clear hb4)
  have hr := HR4.out
  have s0 : w4.cell? ⟨r, 0, none⟩ = some (.int .u16 wd) := (blk_cell hr 0).trans rfl
  have s1 : w4.cell? ⟨r, 1, none⟩ = some (.int .u16 ht) := (blk_cell hr 1).trans rfl
  have s2 : w4.cell? ⟨r, 2, none⟩ = some (.int .u16 c) := (blk_cell hr 2).trans rfl
  have s3 : w4.cell? ⟨r, 3, none⟩ = some (.int .u16 most) := (blk_cell hr 3).trans rfl
  have s4 : w4.cell? ⟨r, 4, none⟩ = some (.slice A0 n c0) := (blk_cell hr 4).trans rfl
  have PC1 := Aside0.mk (PC.out _ B4.out)
  clear hr HR3 HR4 PC LV BX
  go_upto_region 6 with (go_at_call 5; refine PC1.out.mono ?_; rintro e w5 ⟨g, rfl, hi, hb5⟩; have B5 := Aside0.mk (below_step B4.out hb5); have HI := Aside0.mk hi; clear hi hb5)
  clear s0 s1 s2 s3 s4 PC1 B4
  have S1 := Aside0.mk (SM.out N1 HNB.out.1.1 HNB.out.1.2)
  have S2 := Aside0.mk (SM.out N2 HNB.out.2.1 HNB.out.2.2)
  go_upto_region 7 with (first
    | (go_at_call 6; (with_reducible refine (S1.out _).mono ?_); rintro e w6 ⟨bx, rfl, hx, hb6⟩; have B6 := Aside0.mk (below_step B5.out hb6); have HI6 := Aside0.mk (HI.out.below hb6); have HX := Aside0.mk hx; clear hx hb6 S1)
    | (go_at_call 6; (with_reducible refine (S2.out _).mono ?_); rintro e w7 ⟨bz, rfl, hy, hb7⟩; have B7 := Aside0.mk (below_step B6.out hb7); have HI7 := Aside0.mk (HI6.out.below hb7); have HX7 := Aside0.mk (HX.out.below hb7); have HY := Aside0.mk hy; clear hy hb7 S2))
  have hr := heap_alloc_new w7 (.cells #[.pointer (some ⟨bx, 0, none⟩), .pointer (some ⟨bz, 0, none⟩), .int .i64 bd] 33)
  have ha := below_alloc (Below.refl w7.heap.size w7) (.cells #[.pointer (some ⟨bx, 0, none⟩), .pointer (some ⟨bz, 0, none⟩), .int .i64 bd] 33)
  have HX8 := Aside0.mk (HX7.out.below ha)
  have HY8 := Aside0.mk (HY.out.below ha)
  have HI8 := Aside0.mk (HI7.out.below ha)
  have B8 := Aside0.mk (below_step B7.out ha)
  have HG8 := Aside0.mk (fun w' (hb : Below w.heap.size w w') => HG.out w' hb)
  obtain ⟨q, hq⟩ : ∃ q, q = w7.heap.size := ⟨_, rfl⟩
  rw [← hq] at hr ⊢
  clear ha hq HX HX7 HY HI HI6 HI7
  generalize w7.alloc (.cells #[.pointer (some ⟨bx, 0, none⟩), .pointer (some ⟨bz, 0, none⟩), .int .i64 bd] 33) = w8 at hr HX8 HY8 HI8 B8 ⊢
  have HR8 := Aside0.mk hr
  clear hr B5 B6 B7 HG SM
  have CELL := Aside0.mk (fun w' (hb : Below w8.heap.size w8 w') => (show w'.cell? ⟨q, 0, none⟩ = some (.pointer (some ⟨bx, 0, none⟩)) ∧ w'.cell? ⟨q, 1, none⟩ = some (.pointer (some ⟨bz, 0, none⟩)) ∧ w'.cell? ⟨q, 2, none⟩ = some (.int .i64 bd) from
    ⟨(blk_cell ((hb.block q (blk_lt HR8.out)).trans HR8.out) 0).trans rfl, (blk_cell ((hb.block q (blk_lt HR8.out)).trans HR8.out) 1).trans rfl, (blk_cell ((hb.block q (blk_lt HR8.out)).trans HR8.out) 2).trans rfl⟩))
  have W1 := Aside0.mk (fun w' (h : Below w8.heap.size w8 w') => imgWidth_calls g m w' (HI8.out.below h))
  have W2 := Aside0.mk (fun w' (h : Below w8.heap.size w8 w') => imgHeight_calls g m w' (HI8.out.below h))
  have S0 := Aside0.mk (Below.refl w8.heap.size w8)
  have T1 := Aside0.mk (one_fil N1)
  have T2 := Aside0.mk (one_fil N2)
  generalize filTab (N1 : Int) 0 [16384] N1 = tx at HX8 T1
  generalize filTab (N2 : Int) 0 [16384] N2 = ty at HY8 T2
  obtain ⟨z0, z1, z2⟩ := CELL.out _ S0.out
  by_cases su : suitB m tx ty bd
  · have SU := Aside0.mk (suits_yes g bx bz m tx ty bd w8 (HG8.out _ B8.out) HI8.out HX8.out HY8.out su.1 su.2.1 su.2.2)
    have e1 : m.w = N1 := su.1.symm.trans T1.out.1
    have e2 : m.h = N2 := su.2.1.symm.trans T2.out.1
    have AP := Aside0.mk (fun w' (hb : Below w8.heap.size w8 w') => apply_same g bx bz m tx ty bd N1 N2 w' (HG8.out _ (below_step B8.out hb)) (HI8.out.below hb) (HX8.out.below hb) (HY8.out.below hb) su.2.2 HMB.out.1 HMB.out.2.1 e1 e2 T1.out T2.out)
    have IS := Aside0.mk (fun g2 w' (hb : Below w8.heap.size w8 w') (h : ImgC w' g2 m) => imgSame_calls g2 g m w' h (HI8.out.below hb) HMB.out.2.2.1)
    have b0 : 0 ≤ bd := su.2.2.1
    have b1 : bd ≤ 2 := by have := su.2.2.2; omega
    have d0 : decide (0 ≤ bd) = true := decide_eq_true b0
    have d1 : decide (bd ≤ 2) = true := decide_eq_true b1
    have f1 : ((N1 : Int) == (N1 : Int)) = true := by simp
    have f2 : ((N2 : Int) == (N2 : Int)) = true := by simp
    rw [e1] at W1
    rw [e2] at W2
    unfold stV at SU AP
    clear su e1 e2 h7 HMB HNB
    go_upto_region 10 with (first
      | (go_at_call 7; (with_reducible refine (W1.out _ S0.out).mono ?_); rintro e w' ⟨rfl, rfl⟩)
      | (go_at_call 8; (with_reducible refine (W2.out _ S0.out).mono ?_); rintro e w' ⟨rfl, rfl⟩)
      | (go_at_call 9; (with_reducible refine SU.out.mono ?_); rintro e w9 ⟨rfl, hb9⟩; have B9 := Aside0.mk hb9; clear hb9))
    clear z0 z1 z2
    obtain ⟨z0, z1, z2⟩ := CELL.out _ B9.out
    have AP1 := Aside0.mk (AP.out _ B9.out)
    go_wp2_with (first
      | (go_at_call 10; (with_reducible refine AP1.out.mono ?_); rintro e w10 ⟨g2, rfl, hi, hb10⟩; have B10 := Aside0.mk (below_step B9.out hb10); have HI10 := Aside0.mk hi.reads; clear hi hb10)
      | (go_at_call 11; (with_reducible refine (IS.out g2 _ B10.out HI10.out).mono ?_); rintro e w11 ⟨rfl, ⟨nd, rfl⟩⟩))
    go_ret
    exact ⟨rfl, pw_below_drewN (below_step B8.out B10.out) nd⟩
  · have SU := Aside0.mk (suits_no g bx bz m tx ty bd w8 (HG8.out _ B8.out) HI8.out HX8.out HY8.out su)
    have AP := Aside0.mk (fun w' (hb : Below w8.heap.size w8 w') => apply_no g bx bz m tx ty bd w' (HG8.out _ (below_step B8.out hb)) (HI8.out.below hb) (HX8.out.below hb) (HY8.out.below hb) su)
    have SN := Aside0.mk (fun w' (hb : Below w8.heap.size w8 w') => sum_no g bx bz m tx ty bd 0 0 0 w' (HG8.out _ (below_step B8.out hb)) (HI8.out.below hb) (HX8.out.below hb) (HY8.out.below hb) su)
    have CN := Aside0.mk (fun w' (hb : Below w8.heap.size w8 w') => compose_no g w'.heap.size bx bz m tx ty bd (w'.alloc (.cells #[.pointer (some ⟨bx, 0, none⟩), .pointer (some ⟨bz, 0, none⟩), .int .i64 bd] 33)) (HG8.out _ (below_step B8.out (below_alloc hb _))) (HI8.out.below (below_alloc hb _)) HMB.out.2.2.1 (HX8.out.below (below_alloc hb _)) (HY8.out.below (below_alloc hb _)) su (heap_alloc_new w' _))
    have CH := Aside0.mk (fun w' (h : Below w8.heap.size w8 w') => imgChannels_calls g m w' (HI8.out.below h))
    have FT := Aside0.mk (fits09_eq (a := m.w) (b := m.h) (c := m.c) ⟨HMB.out.1.w1, HMB.out.2.2.2.1⟩ ⟨HMB.out.1.h1, HMB.out.2.2.2.2⟩ HMB.out.1.c1)
    have cs : m.w ≠ N1 ∨ (m.w = N1 ∧ m.h ≠ N2) ∨ (m.w = N1 ∧ m.h = N2 ∧ bd < 0) ∨ (m.w = N1 ∧ m.h = N2 ∧ 0 ≤ bd ∧ 2 < bd) := by
      have := T1.out.1
      have := T2.out.1
      unfold suitB at su
      omega
    obtain ⟨mw, hmw⟩ : ∃ v, v = m.w := ⟨_, rfl⟩
    obtain ⟨mh, hmh⟩ : ∃ v, v = m.h := ⟨_, rfl⟩
    obtain ⟨mc, hmc⟩ : ∃ v, v = m.c := ⟨_, rfl⟩
    rw [← hmw] at W1 FT cs
    rw [← hmh] at W2 FT cs
    rw [← hmc] at CH FT
    unfold stV at SU AP SN
    clear su h7 HMB HNB hmw hmh hmc
    rcases cs with k1 | ⟨rfl, k1⟩ | ⟨rfl, rfl, k1⟩ | ⟨rfl, rfl, k0, k1⟩
    · have f1 : (mw == (N1 : Int)) = false := by simpa using k1
      clear k1
      go_upto_region 10 with (first
        | (go_at_call 7; (with_reducible refine (W1.out _ S0.out).mono ?_); rintro e w' ⟨rfl, rfl⟩)
        | (go_at_call 8; (with_reducible refine (W2.out _ S0.out).mono ?_); rintro e w' ⟨rfl, rfl⟩)
        | (go_at_call 9; (with_reducible refine SU.out.mono ?_); rintro e w9 ⟨rfl, hb9⟩; have B9 := Aside0.mk hb9; clear hb9))
      clear z0 z1 z2 SU
      obtain ⟨z0, z1, z2⟩ := CELL.out _ B9.out
      have AP1 := Aside0.mk (AP.out _ B9.out)
      go_upto_region 13 with (go_at_call 10; (with_reducible refine AP1.out.mono ?_); rintro e w10 ⟨rfl, hb10⟩; have B10 := Aside0.mk (below_step B9.out hb10); clear hb10)
      clear z0 z1 z2 AP AP1
      obtain ⟨z0, z1, z2⟩ := CELL.out _ B10.out
      have CN1 := Aside0.mk (CN.out _ B10.out)
      have BA := Aside0.mk (below_alloc B10.out (.cells #[.pointer (some ⟨bx, 0, none⟩), .pointer (some ⟨bz, 0, none⟩), .int .i64 bd] 33))
      go_upto_region 14 with (go_at_call 12; (with_reducible refine CN1.out.mono ?_); rintro e w11 ⟨rfl, hb11⟩; have B11 := Aside0.mk (below_step BA.out hb11); clear hb11)
      clear z0 z1 z2 CN CN1
      obtain ⟨z0, z1, z2⟩ := CELL.out _ B11.out
      have SN1 := Aside0.mk (SN.out _ B11.out)
      go_wp2_with (first
        | (go_at_call 13; (with_reducible refine SN1.out.mono ?_); rintro e w12 ⟨rfl, hb12⟩; have B12 := Aside0.mk (below_step B11.out hb12); clear hb12)
        | (go_at_call 9; (with_reducible refine (suits_nil _ _).mono ?_); rintro e w13 ⟨rfl, hb13⟩; have B13 := Aside0.mk (below_step B12.out hb13); clear hb13)
        | (go_at_call 7; (with_reducible refine (W1.out _ B13.out).mono ?_); rintro e w' ⟨rfl, rfl⟩)
        | (go_at_call 8; (with_reducible refine (W2.out _ B13.out).mono ?_); rintro e w' ⟨rfl, rfl⟩)
        | (go_at_call 15; (with_reducible refine (CH.out _ B13.out).mono ?_); rintro e w' ⟨rfl, rfl⟩)
        | (go_at_call 14; (with_reducible refine (smaltoref09_Fits.calls 2 _ _ _ true _ FT.out).mono ?_); rintro e w14 ⟨rfl, ⟨nd, rfl⟩⟩))
      go_ret
      exact ⟨rfl, pw_below_drewN (below_step B8.out B13.out) nd⟩
    · have f1 : ((N1 : Int) == (N1 : Int)) = true := by simp
      have f2 : (mh == (N2 : Int)) = false := by simpa using k1
      clear k1
      go_upto_region 10 with (first
        | (go_at_call 7; (with_reducible refine (W1.out _ S0.out).mono ?_); rintro e w' ⟨rfl, rfl⟩)
        | (go_at_call 8; (with_reducible refine (W2.out _ S0.out).mono ?_); rintro e w' ⟨rfl, rfl⟩)
        | (go_at_call 9; (with_reducible refine SU.out.mono ?_); rintro e w9 ⟨rfl, hb9⟩; have B9 := Aside0.mk hb9; clear hb9))
      clear z0 z1 z2 SU
      obtain ⟨z0, z1, z2⟩ := CELL.out _ B9.out
      have AP1 := Aside0.mk (AP.out _ B9.out)
      go_upto_region 13 with (go_at_call 10; (with_reducible refine AP1.out.mono ?_); rintro e w10 ⟨rfl, hb10⟩; have B10 := Aside0.mk (below_step B9.out hb10); clear hb10)
      clear z0 z1 z2 AP AP1
      obtain ⟨z0, z1, z2⟩ := CELL.out _ B10.out
      have CN1 := Aside0.mk (CN.out _ B10.out)
      have BA := Aside0.mk (below_alloc B10.out (.cells #[.pointer (some ⟨bx, 0, none⟩), .pointer (some ⟨bz, 0, none⟩), .int .i64 bd] 33))
      go_upto_region 14 with (go_at_call 12; (with_reducible refine CN1.out.mono ?_); rintro e w11 ⟨rfl, hb11⟩; have B11 := Aside0.mk (below_step BA.out hb11); clear hb11)
      clear z0 z1 z2 CN CN1
      obtain ⟨z0, z1, z2⟩ := CELL.out _ B11.out
      have SN1 := Aside0.mk (SN.out _ B11.out)
      go_wp2_with (first
        | (go_at_call 13; (with_reducible refine SN1.out.mono ?_); rintro e w12 ⟨rfl, hb12⟩; have B12 := Aside0.mk (below_step B11.out hb12); clear hb12)
        | (go_at_call 9; (with_reducible refine (suits_nil _ _).mono ?_); rintro e w13 ⟨rfl, hb13⟩; have B13 := Aside0.mk (below_step B12.out hb13); clear hb13)
        | (go_at_call 7; (with_reducible refine (W1.out _ B13.out).mono ?_); rintro e w' ⟨rfl, rfl⟩)
        | (go_at_call 8; (with_reducible refine (W2.out _ B13.out).mono ?_); rintro e w' ⟨rfl, rfl⟩)
        | (go_at_call 15; (with_reducible refine (CH.out _ B13.out).mono ?_); rintro e w' ⟨rfl, rfl⟩)
        | (go_at_call 14; (with_reducible refine (smaltoref09_Fits.calls 2 _ _ _ true _ FT.out).mono ?_); rintro e w14 ⟨rfl, ⟨nd, rfl⟩⟩))
      go_ret
      exact ⟨rfl, pw_below_drewN (below_step B8.out B13.out) nd⟩
    · have f1 : ((N1 : Int) == (N1 : Int)) = true := by simp
      have f2 : ((N2 : Int) == (N2 : Int)) = true := by simp
      have d0 : decide (0 ≤ bd) = false := decide_eq_false (by omega)
      go_upto_region 10 with (first
        | (go_at_call 7; (with_reducible refine (W1.out _ S0.out).mono ?_); rintro e w' ⟨rfl, rfl⟩)
        | (go_at_call 8; (with_reducible refine (W2.out _ S0.out).mono ?_); rintro e w' ⟨rfl, rfl⟩)
        | (go_at_call 9; (with_reducible refine SU.out.mono ?_); rintro e w9 ⟨rfl, hb9⟩; have B9 := Aside0.mk hb9; clear hb9))
      clear z0 z1 z2 SU
      obtain ⟨z0, z1, z2⟩ := CELL.out _ B9.out
      have AP1 := Aside0.mk (AP.out _ B9.out)
      go_upto_region 13 with (go_at_call 10; (with_reducible refine AP1.out.mono ?_); rintro e w10 ⟨rfl, hb10⟩; have B10 := Aside0.mk (below_step B9.out hb10); clear hb10)
      clear z0 z1 z2 AP AP1
      obtain ⟨z0, z1, z2⟩ := CELL.out _ B10.out
      have CN1 := Aside0.mk (CN.out _ B10.out)
      have BA := Aside0.mk (below_alloc B10.out (.cells #[.pointer (some ⟨bx, 0, none⟩), .pointer (some ⟨bz, 0, none⟩), .int .i64 bd] 33))
      go_upto_region 14 with (go_at_call 12; (with_reducible refine CN1.out.mono ?_); rintro e w11 ⟨rfl, hb11⟩; have B11 := Aside0.mk (below_step BA.out hb11); clear hb11)
      clear z0 z1 z2 CN CN1
      obtain ⟨z0, z1, z2⟩ := CELL.out _ B11.out
      have SN1 := Aside0.mk (SN.out _ B11.out)
      go_wp2_with (first
        | (go_at_call 13; (with_reducible refine SN1.out.mono ?_); rintro e w12 ⟨rfl, hb12⟩; have B12 := Aside0.mk (below_step B11.out hb12); clear hb12)
        | (go_at_call 9; (with_reducible refine (suits_nil _ _).mono ?_); rintro e w13 ⟨rfl, hb13⟩; have B13 := Aside0.mk (below_step B12.out hb13); clear hb13)
        | (go_at_call 7; (with_reducible refine (W1.out _ B13.out).mono ?_); rintro e w' ⟨rfl, rfl⟩)
        | (go_at_call 8; (with_reducible refine (W2.out _ B13.out).mono ?_); rintro e w' ⟨rfl, rfl⟩)
        | (go_at_call 15; (with_reducible refine (CH.out _ B13.out).mono ?_); rintro e w' ⟨rfl, rfl⟩)
        | (go_at_call 14; (with_reducible refine (smaltoref09_Fits.calls 2 _ _ _ true _ FT.out).mono ?_); rintro e w14 ⟨rfl, ⟨nd, rfl⟩⟩))
      go_ret
      exact ⟨rfl, pw_below_drewN (below_step B8.out B13.out) nd⟩
    · have f1 : ((N1 : Int) == (N1 : Int)) = true := by simp
      have f2 : ((N2 : Int) == (N2 : Int)) = true := by simp
      have d0 : decide (0 ≤ bd) = true := decide_eq_true k0
      have d1 : decide (bd ≤ 2) = false := decide_eq_false (by omega)
      go_upto_region 10 with (first
        | (go_at_call 7; (with_reducible refine (W1.out _ S0.out).mono ?_); rintro e w' ⟨rfl, rfl⟩)
        | (go_at_call 8; (with_reducible refine (W2.out _ S0.out).mono ?_); rintro e w' ⟨rfl, rfl⟩)
        | (go_at_call 9; (with_reducible refine SU.out.mono ?_); rintro e w9 ⟨rfl, hb9⟩; have B9 := Aside0.mk hb9; clear hb9))
      clear z0 z1 z2 SU
      obtain ⟨z0, z1, z2⟩ := CELL.out _ B9.out
      have AP1 := Aside0.mk (AP.out _ B9.out)
      go_upto_region 13 with (go_at_call 10; (with_reducible refine AP1.out.mono ?_); rintro e w10 ⟨rfl, hb10⟩; have B10 := Aside0.mk (below_step B9.out hb10); clear hb10)
      clear z0 z1 z2 AP AP1
      obtain ⟨z0, z1, z2⟩ := CELL.out _ B10.out
      have CN1 := Aside0.mk (CN.out _ B10.out)
      have BA := Aside0.mk (below_alloc B10.out (.cells #[.pointer (some ⟨bx, 0, none⟩), .pointer (some ⟨bz, 0, none⟩), .int .i64 bd] 33))
      go_upto_region 14 with (go_at_call 12; (with_reducible refine CN1.out.mono ?_); rintro e w11 ⟨rfl, hb11⟩; have B11 := Aside0.mk (below_step BA.out hb11); clear hb11)
      clear z0 z1 z2 CN CN1
      obtain ⟨z0, z1, z2⟩ := CELL.out _ B11.out
      have SN1 := Aside0.mk (SN.out _ B11.out)
      go_wp2_with (first
        | (go_at_call 13; (with_reducible refine SN1.out.mono ?_); rintro e w12 ⟨rfl, hb12⟩; have B12 := Aside0.mk (below_step B11.out hb12); clear hb12)
        | (go_at_call 9; (with_reducible refine (suits_nil _ _).mono ?_); rintro e w13 ⟨rfl, hb13⟩; have B13 := Aside0.mk (below_step B12.out hb13); clear hb13)
        | (go_at_call 7; (with_reducible refine (W1.out _ B13.out).mono ?_); rintro e w' ⟨rfl, rfl⟩)
        | (go_at_call 8; (with_reducible refine (W2.out _ B13.out).mono ?_); rintro e w' ⟨rfl, rfl⟩)
        | (go_at_call 15; (with_reducible refine (CH.out _ B13.out).mono ?_); rintro e w' ⟨rfl, rfl⟩)
        | (go_at_call 14; (with_reducible refine (smaltoref09_Fits.calls 2 _ _ _ true _ FT.out).mono ?_); rintro e w14 ⟨rfl, ⟨nd, rfl⟩⟩))
      go_ret
      exact ⟨rfl, pw_below_drewN (below_step B8.out B13.out) nd⟩
end Go.Proofs.YtbcoieboldgdaaaGreatDoor.QA

namespace Go.Proofs.YtbcoieboldgdaaaGreatDoor.QA
open Go.RowKit Go.Proofs.YtbcoieboldgdaaaGreatDoorW.PrintWords Go.Proofs.YtbcoieboldgdaaaGreatDoorW.PrintLast Go.Proofs.YtbcoieboldgdaaaGreatDoorW.PrintMore Go.Proofs.YtbcoieboldgdaaaGreatDoor.T
set_option linter.unusedVariables false
set_option linter.unusedSimpArgs false
section
open Go.ChangeShapes Go.WideShapes Go.ChangeAt
variable {H : Type} {enc : TypeId × Value → H} {W : World} {fuel : Nat} {cs : List Value} {x : DataW H × List MemPlace}
theorem open_u16s (h : DataW.trod enc Tryz.prog W 0 (fun _ => true) true fuel 23 cs = some x) : ∃ (A : Option Addr) (l : List Int) (c : Nat), cs = [.slice A l.length c] ∧ l.length ≤ c ∧ Kd.C (Kd.int .u16) W A l.length l ∧ ∀ z ∈ l, 0 ≤ z ∧ z ≤ 65535 := by
  rcases open_ints Tryz.underlying23 Tryz.underlying22 (by kernel_rfl) h with ⟨hcs, _⟩ | ⟨a, len, cap, zs, hcs, _, hl, hm, hz, _, hcell, hwz⟩
  · exact ⟨none, [], 0, hcs, by decide, ⟨rfl, by decide, fun h => absurd h (by decide)⟩, by simp⟩
  · have hz : zs.length = cap := by simpa using hz
    obtain ⟨l, e, h1, h2, h3, h4⟩ := ReadsInt.ofRowC (k := .u16) (w := W) (a := some a) (len := len) (cap := cap) (zs := zs) (.inr ⟨a, rfl, hl, hm, hz, hcell, hwz⟩)
    subst e
    exact ⟨some a, l, cap, hcs, h4, Kd.C_of_reads (d := (0 : Int)) (h1 := fun _ => rfl) h1, fun z hz => T.wfu16 (h3 z hz)⟩
set_option maxRecDepth 100000 in
theorem open_pic {cs : Array Value} {d : DataW H} {ps : List MemPlace} (h : DataW.Trod enc Tryz.prog W 0 (fun _ => true) true 25 (.agg cs) d ps) : ∃ (v0 v1 v2 v3 : Int) (A : Option Addr) (l : List Int) (c : Nat), cs = #[.int .u16 v0, .int .u16 v1, .int .u16 v2, .int .u16 v3, .slice A l.length c] ∧ (0 ≤ v0 ∧ v0 ≤ 65535) ∧ (0 ≤ v1 ∧ v1 ≤ 65535) ∧ (0 ≤ v2 ∧ v2 ≤ 65535) ∧ (0 ≤ v3 ∧ v3 ≤ 65535) ∧ Kd.C (Kd.int .u16) W A l.length l ∧ l.length ≤ c ∧ ∀ j : Nat, j < l.length → 0 ≤ rd l (j : Int) ∧ rd l (j : Int) ≤ 65535 := by
  obtain ⟨fuel, hf0⟩ := h
  obtain ⟨xs, n, _, _, hl, hlen, hf⟩ := DataW.trod_struct Tryz.underlying25 hf0
  obtain ⟨us, hus⟩ : ∃ us : List Value, us = cs.toList := ⟨_, rfl⟩
  have hcs : (Value.agg cs).cells.toList = us := by rw [hus]; rfl
  rw [hcs] at hl hf
  have hl5 : us.length = 5 := hl.trans (by kernel_rfl)
  match us, hl5, hus with
  | [u0, u1, u2, u3, u4], _, hus =>
  match xs, hlen with
  | [y0, y1, y2, y3, y4], _ =>
  have c0 : Tryz.prog.cellsOf 22 = 1 := by kernel_rfl
  have c4 : Tryz.prog.cellsOf 23 = 1 := by kernel_rfl
  have g0 : DataW.trod enc Tryz.prog W 0 (fun _ => true) true n 22 (([u0, u1, u2, u3, u4].drop 0).take (Tryz.prog.cellsOf 22)) = some y0 := hf 0 _ rfl
  have g1 : DataW.trod enc Tryz.prog W 0 (fun _ => true) true n 22 (([u0, u1, u2, u3, u4].drop 1).take (Tryz.prog.cellsOf 22)) = some y1 := hf 1 _ rfl
  have g2 : DataW.trod enc Tryz.prog W 0 (fun _ => true) true n 22 (([u0, u1, u2, u3, u4].drop 2).take (Tryz.prog.cellsOf 22)) = some y2 := hf 2 _ rfl
  have g3 : DataW.trod enc Tryz.prog W 0 (fun _ => true) true n 22 (([u0, u1, u2, u3, u4].drop 3).take (Tryz.prog.cellsOf 22)) = some y3 := hf 3 _ rfl
  have g4 : DataW.trod enc Tryz.prog W 0 (fun _ => true) true n 23 (([u0, u1, u2, u3, u4].drop 4).take (Tryz.prog.cellsOf 23)) = some y4 := hf 4 _ rfl
  simp only [c0, c4] at g0 g1 g2 g3 g4
  simp [List.drop, List.take] at g0 g1 g2 g3 g4
  obtain ⟨v0, e0, _, w0⟩ := DataW.trod_int Tryz.underlying22 g0
  obtain ⟨v1, e1, _, w1⟩ := DataW.trod_int Tryz.underlying22 g1
  obtain ⟨v2, e2, _, w2⟩ := DataW.trod_int Tryz.underlying22 g2
  obtain ⟨v3, e3, _, w3⟩ := DataW.trod_int Tryz.underlying22 g3
  obtain ⟨A4, l4, k4, e4, m4, r4, w4⟩ := open_u16s g4
  simp only [List.cons.injEq, and_true] at e0 e1 e2 e3 e4
  subst e0 e1 e2 e3 e4
  refine ⟨v0, v1, v2, v3, A4, l4, k4, ?_, T.wfu16 w0, T.wfu16 w1, T.wfu16 w2, T.wfu16 w3, r4, m4, fun j hj => ?_⟩
  · cases cs with | mk ls => exact congrArg Array.mk hus.symm
  · refine w4 _ ?_
    unfold rd
    rw [Int.toNat_natCast, List.getD_eq_getElem?_getD, List.getElem?_eq_getElem hj]
    exact List.getElem_mem _
end
end Go.Proofs.YtbcoieboldgdaaaGreatDoor.QA

namespace Go.Proofs.YtbcoieboldgdaaaGreatDoor.T
open Go.ChangeShapes Go.WideShapes Go.ChangeAt Go.RowKit
theorem gKinds : Tryz.prog.globalNamed "smalto/raw.kinds" = some 1 := by kernel_rfl
theorem tKinds : (Tryz.prog.globals[1]?).map (·.type) = some 102 := by kernel_rfl
theorem cell_of {cs : List Value} {a b i : Nat} {v : Value} {ws : List Value} (hi : i < b) (h : ((cs.drop a).take b) = ws) (hv : ws[i]? = some v) : cs[a + i]? = some v := by
  rw [← h] at hv
  rw [List.getElem?_take, if_pos hi, List.getElem?_drop] at hv
  exact hv
theorem str_eq {s : ByteArray} {l : List UInt8} (h : s.data.toList = l) : s = ⟨l.toArray⟩ := by
  cases s with | mk d => simp only at h; rw [← h]
theorem kind_cells {W : World} {m : Nat} {cs : List Value} {s : List UInt8} {n : Int} {x : DataW Unit × List MemPlace}
    (h : DataW.trod (fun _ => ()) Tryz.prog W 0 (fun _ => true) false m 101 cs = some x) (hx : x.1 = .agg [.lit (.string s), .lit (.int .i64 n)]) :
    cs[0]? = some (.string ⟨s.toArray⟩) ∧ cs[1]? = some (.int .i64 n) := by
  obtain ⟨y0, y1, k, rfl, hl, h0, h1⟩ := trod_struct2 Tryz.underlying101 h
  simp only [DataW.agg.injEq, List.cons.injEq, and_true] at hx
  obtain ⟨z, e0, e1, _⟩ := DataW.trod_string Tryz.underlying9 h0
  obtain ⟨q, f0, f1, _⟩ := DataW.trod_int Tryz.underlying2 h1
  rw [e1, f1] at hx
  simp only [DataW.lit.injEq, Lit.string.injEq, Lit.int.injEq, true_and] at hx
  obtain ⟨hs, rfl⟩ := hx
  rw [str_eq hs] at e0
  constructor
  · simpa using cell_of (i := 0) (of_decide_eq_true (by kernel_rfl)) e0 rfl
  · simpa using cell_of (i := 0) (of_decide_eq_true (by kernel_rfl)) f0 rfl
set_option maxRecDepth 100000 in
theorem kinds_cells {W : World} {fuel : Nat} {cs : Array Value} {x : DataW Unit × List MemPlace} (hv : W.var? Tryz.prog "smalto/raw.kinds" = some cs)
    (h : DataW.trod (fun _ => ()) Tryz.prog W 0 (fun _ => true) false fuel 102 cs.toList = some x) (hx : x.1 = Rows.laid_smalto_raw_kinds) : W.cell? ⟨1, 0, none⟩ = some (.string (⟨#[98, 111, 120]⟩ : ByteArray)) ∧ W.cell? ⟨1, 1, none⟩ = some (.int .i64 0) ∧ W.cell? ⟨1, 2, none⟩ = some (.string (⟨#[99, 117, 98, 105, 99]⟩ : ByteArray)) ∧ W.cell? ⟨1, 3, none⟩ = some (.int .i64 2) ∧ W.cell? ⟨1, 4, none⟩ = some (.string (⟨#[108, 97, 110, 99, 122, 111, 115]⟩ : ByteArray)) ∧ W.cell? ⟨1, 5, none⟩ = some (.int .i64 3) := by
  obtain ⟨xs, m, _, rfl, hl, hlen, hel⟩ := DataW.trod_array Tryz.underlying102 h
  have c2 : Tryz.prog.cellsOf 101 = 2 := by kernel_rfl
  match xs, hlen with
  | [x0, x1, x2], _ =>
    have hx' := hx
    simp only [Rows.laid_smalto_raw_kinds, List.map_cons, List.map_nil, DataW.agg.injEq, List.cons.injEq, and_true] at hx'
    obtain ⟨k0, k1, k2⟩ := hx'
    have g0 := kind_cells (hel 0 (by decide)) k0
    have g1 := kind_cells (hel 1 (by decide)) k1
    have g2 := kind_cells (hel 2 (by decide)) k2
    rw [c2] at g0 g1 g2
    simp only [List.getElem?_take, List.getElem?_drop] at g0 g1 g2
    simp at g0 g1 g2
    simp only [World.var?_cell gKinds hv]
    exact ⟨g0.1, g0.2, g1.1, g1.2, g2.1, g2.2⟩
theorem gNames : Tryz.prog.globalNamed "smalto/border.names" = some 0 := by kernel_rfl
theorem tNames : (Tryz.prog.globals[0]?).map (·.type) = some 81 := by kernel_rfl
theorem str_cell {W : World} {v : Value} {n : Nat} {q : List MemPlace} {s : List UInt8} (h : DataW.trod (fun _ => ()) Tryz.prog W 0 (fun _ => true) false n 9 [v] = some (.lit (.string s), q)) : v = .string ⟨s.toArray⟩ := by
  obtain ⟨z, e0, e1, _⟩ := DataW.trod_string Tryz.underlying9 h
  simp only [Prod.mk.injEq, DataW.lit.injEq, Lit.string.injEq] at e1
  rw [str_eq e1.1.symm] at e0
  simpa using e0
theorem names_cells {W : World} {fuel : Nat} {cs : Array Value} {x : DataW Unit × List MemPlace} (hv : W.var? Tryz.prog "smalto/border.names" = some cs)
    (h : DataW.trod (fun _ => ()) Tryz.prog W 0 (fun _ => true) false fuel 81 cs.toList = some x) (hx : x.1 = Rows.laid_smalto_border_names) :
    ∃ (a : Addr) (c : Nat), 3 ≤ c ∧ W.cell? ⟨0, 0, none⟩ = some (.slice (some a) 3 c) ∧ W.cell? a = some (.string (⟨#[99, 108, 97, 109, 112]⟩ : ByteArray)) ∧ W.cell? ⟨a.block, a.off + 1, none⟩ = some (.string (⟨#[109, 105, 114, 114, 111, 114]⟩ : ByteArray)) ∧ W.cell? ⟨a.block, a.off + 2, none⟩ = some (.string (⟨#[119, 114, 97, 112]⟩ : ByteArray)) := by
  obtain ⟨d, p⟩ := x
  simp only at hx
  subst hx
  obtain ⟨a, cap, e, hl, hc⟩ := open_row Tryz.underlying81 (show Tryz.prog.cellsOf 9 = 1 by kernel_rfl) h
  obtain ⟨v0, n0, q0, c0, t0⟩ := hc 0 _ rfl
  obtain ⟨v1, n1, q1, c1, t1⟩ := hc 1 _ rfl
  obtain ⟨v2, n2, q2, c2, t2⟩ := hc 2 _ rfl
  rw [str_cell t0] at c0
  rw [str_cell t1] at c1
  rw [str_cell t2] at c2
  have e0 : a.add 0 = a := by cases a; rfl
  rw [e0] at c0
  have ec : cs[0]? = some (.slice (some a) 3 cap) := by
    have := congrArg (fun l => l[0]?) e
    simpa using this
  exact ⟨a, cap, hl, by rw [World.var?_cell gNames hv]; exact ec, c0, c1, c2⟩
theorem gl_of_laid {W : World} (h : laidMetH Tryz.prog [("smalto/border.names", Rows.laid_smalto_border_names), ("smalto/raw.kinds", Rows.laid_smalto_raw_kinds)] W) : GL W := by
  rw [MakeChecks.laidMetH_plain _ _ _ (by kernel_rfl)] at h
  obtain ⟨ps, ⟨g, t, cs, fuel, p, q, hg, ht, hv, hd, ⟨g2, t2, cs2, fuel2, p2, q2, hg2, ht2, hv2, hd2, _, _⟩, _⟩, _, _⟩ := h
  obtain rfl := Option.some.inj (gNames.symm.trans hg)
  obtain rfl := Option.some.inj (tNames.symm.trans ht)
  obtain rfl := Option.some.inj (gKinds.symm.trans hg2)
  obtain rfl := Option.some.inj (tKinds.symm.trans ht2)
  exact ⟨kinds_cells hv2 hd2 rfl, names_cells hv hd rfl⟩
theorem laid_witness (os : Os) (args : Array Value) : laidMetH Tryz.prog [("smalto/border.names", Rows.laid_smalto_border_names), ("smalto/raw.kinds", Rows.laid_smalto_raw_kinds)] ((World.laidAll Tryz.prog os [("smalto/border.names", Rows.laid_smalto_border_names), ("smalto/raw.kinds", Rows.laid_smalto_raw_kinds)]).forCall (fun _ _ => 0) ⟨#[], args, []⟩).memory := by
  rw [MakeChecks.laidMetH_plain _ _ _ (by kernel_rfl)]
  exact laidMet_laidAll _ (by kernel_rfl) (by kernel_rfl)
end Go.Proofs.YtbcoieboldgdaaaGreatDoor.T

namespace Go.Proofs.YtbcoieboldgdaaaGreatDoorW.PrintWords
open Go.ChangeShapes Go.WideShapes
end Go.Proofs.YtbcoieboldgdaaaGreatDoorW.PrintWords
