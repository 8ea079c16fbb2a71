/- Joined by wip/tools/bundle.py out of: T9 T9b T15 T16 T17 T18. -/
import Derived.Test.YtbcoieboldgdaaaGreatDoorBDirectSuits1
import Derived.Handy
import Derived.Lib.SliceRun
import Derived.Test.YtbcoieboldgdaaaGreatDoorBDirectSuits4
import Derived.Test.YtbcoieboldgdaaaGreatDoorBDirectSuits0
import Derived.Test.YtbcoieboldgdaaaGreatDoorBDirectSuits6
import Derived.Test.YtbcoieboldgdaaaGreatDoorBDirectSuits8
import Derived.Test.YtbcoieboldgdaaaGreatDoorBDirectSuits7
namespace Go.Proofs.YtbcoieboldgdaaaGreatDoor.QA
open Go.RowKit Go.Proofs.YtbcoieboldgdaaaGreatDoorW.PrintWords Go.Proofs.YtbcoieboldgdaaaGreatDoorW.PrintLast Go.Proofs.YtbcoieboldgdaaaGreatDoorW.PrintMore Go.Proofs.YtbcoieboldgdaaaGreatDoor.T
set_option linter.unusedVariables false
set_option linter.unusedSimpArgs false
/-- An image: its sides, channels, greatest sample, and samples. -/
structure Img where
  w : Int
  h : Int
  c : Int
  most : Int
  l : List Int
/-- An image that is read. -/
def ImgC (w : World) (b : Nat) (m : Img) : Prop := ∃ A cp, w.heap[b]? = some (.cells #[.int .i64 m.w, .int .i64 m.h, .int .i64 m.c, .int .i64 m.most, .slice A m.l.length cp] 58 (0, 0)) ∧ m.l.length ≤ cp ∧ Kd.C (Kd.int .u16) w A m.l.length m.l
/-- An image of the call's own. -/
def ImgO (w : World) (base b : Nat) (m : Img) : Prop := base ≤ b ∧ ∃ v, w.heap[b]? = some (.cells #[.int .i64 m.w, .int .i64 m.h, .int .i64 m.c, .int .i64 m.most, v] 58 (0, 0)) ∧ Kd.R (Kd.int .u16) 22 w base (fun k => k ≠ b) v m.l
theorem ImgC.below {w w' : World} {b : Nat} {m : Img} (h : ImgC w b m) (hb : Below w.heap.size w w') : ImgC w' b m := by
  obtain ⟨A, c, h1, h2, h3⟩ := h
  exact ⟨A, c, (hb.block b (blk_lt h1)).trans h1, h2, Kd.C_below h3 hb⟩
theorem ImgO.reads {w : World} {base b : Nat} {m : Img} (h : ImgO w base b m) : ImgC w b m := by
  obtain ⟨_, v, h1, h2⟩ := h
  obtain ⟨A, c, rfl, h3, h4⟩ := Kd.R_reads h2
  exact ⟨A, c, h1, h3, h4⟩
theorem ImgO.below {w w' : World} {base b : Nat} {m : Img} (h : ImgO w base b m) (hb : Below w.heap.size w w') : ImgO w' base b m := by
  obtain ⟨h0, v, h1, h2⟩ := h
  exact ⟨h0, v, (hb.block b (blk_lt h1)).trans h1, Kd.R_below h2 hb⟩
theorem ImgO.lower {w : World} {base base' b : Nat} {m : Img} (h : ImgO w base b m) (hl : base' ≤ base) : ImgO w base' b m := by
  obtain ⟨h0, v, h1, h2⟩ := h
  exact ⟨Nat.le_trans hl h0, v, h1, Kd.R_lower h2 hl⟩
/-- An image that may be. -/
structure ImgB (m : Img) : Prop where
  w1 : 1 ≤ m.w
  w2 : m.w ≤ 65536
  h1 : 1 ≤ m.h
  h2 : m.h ≤ 65536
  c1 : m.c = 1 ∨ m.c = 3
  m1 : 1 ≤ m.most
  m2 : m.most ≤ 65535
  n : (m.l.length : Int) = m.w * m.h * m.c
  n2 : m.w * m.h * m.c ≤ 268435456
def inI (m : Img) (x y c : Int) : Prop := 0 ≤ x ∧ x < m.w ∧ 0 ≤ y ∧ y < m.h ∧ 0 ≤ c ∧ c < m.c
instance (m : Img) (x y c : Int) : Decidable (inI m x y c) := by unfold inI; exact inferInstance
/-- Where a sample stands. -/
def plV (m : Img) (x y c : Int) : Int := (y * m.w + x) * m.c + c
theorem pl_bnd {m : Img} (B : ImgB m) {x y c : Int} (h : inI m x y c) : 0 ≤ y * m.w ∧ y * m.w ≤ 4294967296 ∧ 0 ≤ (y * m.w + x) * m.c ∧ (y * m.w + x) * m.c ≤ 12884901888 + 65536 * 3 ∧ 0 ≤ plV m x y c ∧ plV m x y c < m.l.length := by
  obtain ⟨x0, x1, y0, y1, c0, c1⟩ := h
  have w1 := B.w1; have w2 := B.w2; have h2 := B.h2; have hc := B.c1
  have a0 : 0 ≤ y * m.w := Int.mul_nonneg y0 (by omega)
  have a1 : y * m.w ≤ 65536 * 65536 := Int.mul_le_mul (by omega) w2 (by omega) (by decide)
  have a2 : 0 ≤ (y * m.w + x) * m.c := Int.mul_nonneg (by omega) (by omega)
  have a3 : y * m.w + x + 1 ≤ m.h * m.w := by
    have : (y + 1) * m.w ≤ m.h * m.w := Int.mul_le_mul_of_nonneg_right (by omega) (by omega)
    rw [Int.add_mul, Int.one_mul] at this; omega
  have a4 : (y * m.w + x + 1) * m.c ≤ m.h * m.w * m.c := Int.mul_le_mul_of_nonneg_right a3 (by omega)
  rw [Int.add_mul, Int.one_mul, Int.mul_comm m.h m.w, ← B.n] at a4
  unfold plV
  refine ⟨a0, by omega, a2, ?_, by omega, by omega⟩
  rcases hc with e | e <;> rw [e] <;> omega
theorem img_cells {w : World} {b : Nat} {m : Img} {v : Value} (h : w.heap[b]? = some (.cells #[.int .i64 m.w, .int .i64 m.h, .int .i64 m.c, .int .i64 m.most, v] 58 (0, 0))) : w.cell? ⟨b, 0, none⟩ = some (.int .i64 m.w) ∧ w.cell? ⟨b, 1, none⟩ = some (.int .i64 m.h) ∧ w.cell? ⟨b, 2, none⟩ = some (.int .i64 m.c) ∧ w.cell? ⟨b, 3, none⟩ = some (.int .i64 m.most) ∧ w.cell? ⟨b, 4, none⟩ = some v :=
  ⟨(blk_cell h 0).trans rfl, (blk_cell h 1).trans rfl, (blk_cell h 2).trans rfl, (blk_cell h 3).trans rfl, (blk_cell h 4).trans rfl⟩
theorem imgWidth_calls (b : Nat) (m : Img) (w : World) (h : ImgC w b m) : Calls Tryz.prog 7 #[.pointer (some ⟨b, 0, none⟩)] w fun e w' => e = .returned (.int .i64 m.w) ∧ w' = w := by
  obtain ⟨A, cp, h0, _, _⟩ := h
  obtain ⟨z0, z1, z2, z3, z4⟩ := img_cells h0
  clear h0
  go_enter Tryz.func7, Tryz.ntmps7
  go_wp2
  go_ret
  exact ⟨rfl, rfl⟩
theorem imgHeight_calls (b : Nat) (m : Img) (w : World) (h : ImgC w b m) : Calls Tryz.prog 8 #[.pointer (some ⟨b, 0, none⟩)] w fun e w' => e = .returned (.int .i64 m.h) ∧ w' = w := by
  obtain ⟨A, cp, h0, _, _⟩ := h
  obtain ⟨z0, z1, z2, z3, z4⟩ := img_cells h0
  clear h0
  go_enter Tryz.func8, Tryz.ntmps8
  go_wp2
  go_ret
  exact ⟨rfl, rfl⟩
theorem imgChannels_calls (b : Nat) (m : Img) (w : World) (h : ImgC w b m) : Calls Tryz.prog 15 #[.pointer (some ⟨b, 0, none⟩)] w fun e w' => e = .returned (.int .i64 m.c) ∧ w' = w := by
  obtain ⟨A, cp, h0, _, _⟩ := h
  obtain ⟨z0, z1, z2, z3, z4⟩ := img_cells h0
  clear h0
  go_enter Tryz.func15, Tryz.ntmps15
  go_wp2
  go_ret
  exact ⟨rfl, rfl⟩
theorem imgMost_calls (b : Nat) (m : Img) (w : World) (h : ImgC w b m) : Calls Tryz.prog 27 #[.pointer (some ⟨b, 0, none⟩)] w fun e w' => e = .returned (.int .i64 m.most) ∧ w' = w := by
  obtain ⟨A, cp, h0, _, _⟩ := h
  obtain ⟨z0, z1, z2, z3, z4⟩ := img_cells h0
  clear h0
  go_enter Tryz.func27, Tryz.ntmps27
  go_wp2
  go_ret
  exact ⟨rfl, rfl⟩
set_option maxHeartbeats 8000000 in
set_option maxRecDepth 100000 in
theorem place_calls (b : Nat) (m : Img) (x y c : Int) (w : World) (h : ImgC w b m) (B : ImgB m) : Calls Tryz.prog 40 #[.pointer (some ⟨b, 0, none⟩), .int .i64 x, .int .i64 y, .int .i64 c] w fun e w' => e = .returned (.int .i64 (if inI m x y c then plV m x y c else -1)) ∧ Drawn0 w w' := by
  obtain ⟨A, cp, h0, _, _⟩ := h
  obtain ⟨z0, z1, z2, z3, z4⟩ := img_cells h0
  by_cases hi : inI m x y c
  · rw [if_pos hi]
    obtain ⟨b0, b1, b2, b3, b4, b5⟩ := pl_bnd B hi
    have hl := B.n2
    rw [B.n] at b5
    obtain ⟨x0, x1, y0, y1, c0, c1⟩ := hi
    have w1 : IntKind.i64.wrap (y * m.w) = y * m.w := by rw [i64w]; exact w64_id (by omega) (by omega)
    have w1' : wrap64 (y * m.w) = y * m.w := w64_id (by omega) (by omega)
    have xb := B.w2
    have w2 : IntKind.i64.wrap (y * m.w + x) = y * m.w + x := by rw [i64w]; exact w64_id (by omega) (by omega)
    have w3 : IntKind.i64.wrap ((y * m.w + x) * m.c) = (y * m.w + x) * m.c := by rw [i64w]; exact w64_id (by omega) (by omega)
    have w4 : IntKind.i64.wrap ((y * m.w + x) * m.c + c) = plV m x y c := by rw [i64w]; exact w64_id (by unfold plV at b4; omega) (by unfold plV at b5; omega)
    have n0 : ¬ x < 0 := by omega
    have n1 : ¬ m.w ≤ x := by omega
    have n2 : ¬ y < 0 := by omega
    have n3 : ¬ m.h ≤ y := by omega
    have n4 : ¬ c < 0 := by omega
    have n5 : ¬ m.c ≤ c := by omega
    generalize plV m x y c = P at w4 ⊢
    obtain ⟨mw, hmw⟩ : ∃ v, v = m.w := ⟨_, rfl⟩
    obtain ⟨mh, hmh⟩ : ∃ v, v = m.h := ⟨_, rfl⟩
    obtain ⟨mc, hmc⟩ : ∃ v, v = m.c := ⟨_, rfl⟩
    rw [← hmw] at z0 n1 w1 w2 w3 w4
    rw [← hmh] at z1 n3
    rw [← hmc] at z2 n5 w3 w4
    clear h0 B b0 b1 b2 b3 b4 b5 hl x0 x1 y0 y1 c0 c1 w1' xb z3 z4 hmw hmh hmc
    go_enter Tryz.func40, Tryz.ntmps40
    go_wp2
    go_quiet (fail)
    go_wp2
    go_ret
    exact ⟨rfl, ⟨⟨nq, rfl⟩⟩⟩
  · rw [if_neg hi]
    have hc : x < 0 ∨ (¬ x < 0 ∧ m.w ≤ x) ∨ (¬ x < 0 ∧ ¬ m.w ≤ x ∧ y < 0) ∨ (¬ x < 0 ∧ ¬ m.w ≤ x ∧ ¬ y < 0 ∧ m.h ≤ y) ∨ (¬ x < 0 ∧ ¬ m.w ≤ x ∧ ¬ y < 0 ∧ ¬ m.h ≤ y ∧ c < 0) ∨ (¬ x < 0 ∧ ¬ m.w ≤ x ∧ ¬ y < 0 ∧ ¬ m.h ≤ y ∧ ¬ c < 0 ∧ m.c ≤ c) := by unfold inI at hi; omega
    clear h0 B hi z3 z4
    obtain ⟨mw, hmw⟩ : ∃ v, v = m.w := ⟨_, rfl⟩
    obtain ⟨mh, hmh⟩ : ∃ v, v = m.h := ⟨_, rfl⟩
    obtain ⟨mc, hmc⟩ : ∃ v, v = m.c := ⟨_, rfl⟩
    rw [← hmw] at z0 hc
    rw [← hmh] at z1 hc
    rw [← hmc] at z2 hc
    clear hmw hmh hmc
    rcases hc with n0 | ⟨n0, n1⟩ | ⟨n0, n1, n2⟩ | ⟨n0, n1, n2, n3⟩ | ⟨n0, n1, n2, n3, n4⟩ | ⟨n0, n1, n2, n3, n4, n5⟩
    all_goals (
      go_enter Tryz.func40, Tryz.ntmps40
      go_wp2
      go_ret
      exact ⟨rfl, Drawn0.refl _⟩)
/-- A sample; nought where there is none. -/
def atV (m : Img) (x y c : Int) : Int := if inI m x y c then rd m.l (plV m x y c) else 0
set_option maxHeartbeats 8000000 in
set_option maxRecDepth 100000 in
theorem imgAt_calls (b : Nat) (m : Img) (x y c : Int) (w : World) (h : ImgC w b m) (B : ImgB m) : Calls Tryz.prog 20 #[.pointer (some ⟨b, 0, none⟩), .int .i64 x, .int .i64 y, .int .i64 c] w fun e w' => e = .returned (.int .u16 (atV m x y c)) ∧ Drawn0 w w' := by
  have PL := Aside0.mk (place_calls b m x y c w h B)
  obtain ⟨A, cp, h0, hcp, hC⟩ := h
  obtain ⟨z0, z1, z2, z3, z4⟩ := img_cells h0
  unfold atV
  by_cases hi : inI m x y c
  · rw [if_pos hi] at PL ⊢
    obtain ⟨b0, b1, b2, b3, b4, b5⟩ := pl_bnd B hi
    obtain ⟨ad, eA, t7⟩ := Kd.at_int hC (plV m x y c) b4 (by exact b5)
    subst eA
    generalize plV m x y c = P at PL b4 b5 t7 ⊢
    obtain ⟨p, rfl⟩ := Int.eq_ofNat_of_zero_le b4
    rw [Int.toNat_natCast] at t7
    obtain ⟨n, hn⟩ : ∃ n, n = m.l.length := ⟨_, rfl⟩
    rw [← hn] at z4 b5
    clear h0 hC hcp B hi b0 b1 b2 b3 z0 z1 z2 z3 hn
    go_enter Tryz.func20, Tryz.ntmps20
    go_wp2_with (go_at_call 40; (with_reducible refine PL.out.mono ?_); rintro e w' ⟨rfl, ⟨nd, rfl⟩⟩)
    go_ret
    exact ⟨rfl, ⟨⟨nd, rfl⟩⟩⟩
  · rw [if_neg hi] at PL ⊢
    clear h0 hC hcp B hi z0 z1 z2 z3 z4
    go_enter Tryz.func20, Tryz.ntmps20
    go_wp2_with (go_at_call 40; (with_reducible refine PL.out.mono ?_); rintro e w' ⟨rfl, ⟨nd, rfl⟩⟩)
    go_ret
    exact ⟨rfl, ⟨⟨nd, rfl⟩⟩⟩
end Go.Proofs.YtbcoieboldgdaaaGreatDoor.QA

namespace Go.Proofs.YtbcoieboldgdaaaGreatDoor.QA
open Go.RowKit Go.Proofs.YtbcoieboldgdaaaGreatDoorW.PrintWords Go.Proofs.YtbcoieboldgdaaaGreatDoorW.PrintLast Go.Proofs.YtbcoieboldgdaaaGreatDoorW.PrintMore Go.Proofs.YtbcoieboldgdaaaGreatDoor.T
set_option linter.unusedVariables false
set_option linter.unusedSimpArgs false
/-- An image with a sample set. -/
def Img.put (m : Img) (i : Int) (v : Int) : Img := { m with l := m.l.set i.toNat v }
set_option maxHeartbeats 8000000 in
set_option maxRecDepth 100000 in
theorem imgSet_ok (b : Nat) (m : Img) (x y c v : Int) (w0 w : World) (HB : Below w0.heap.size w0 w) (hO : ImgO w w0.heap.size b m) (B : ImgB m) (hi : inI m x y c) (hv : 0 ≤ v ∧ v ≤ m.most) : Calls Tryz.prog 28 #[.pointer (some ⟨b, 0, none⟩), .int .i64 x, .int .i64 y, .int .i64 c, .int .u16 v] w fun e w' => e = .returned (.bool true) ∧ ImgO w' w0.heap.size b (m.put (plV m x y c) v) ∧ Below w0.heap.size w0 w' := by
  have PL := Aside0.mk (place_calls b m x y c w hO.reads B)
  rw [if_pos hi] at PL
  have hb := pl_bnd B hi
  obtain ⟨hb0, v0, h0, hR⟩ := hO
  obtain ⟨g, cap, rfl, g1, g2, cells, g3⟩ := Kd.R_form hR (by omega)
  obtain ⟨k1, k2⟩ := Kd.R_cell (0 : Int) hR (plV m x y c) hb.2.2.2.2.1 hb.2.2.2.2.2
  have hgb : g ≠ b := hR.1 g (by simp [Value.ownBlock])
  have HP := Aside0.mk (fun n => (Kd.R_put (Kd.R_drewN hR n) (plV m x y c) v).1)
  have ho : ∀ n, (w.drewN n).heap[b]? = some (.cells #[.int .i64 m.w, .int .i64 m.h, .int .i64 m.c, .int .i64 m.most, .slice (some ⟨g, 0, none⟩) m.l.length cap] 58 (0, 0)) := fun n => by rw [World.heap_drewN]; exact h0
  have HO := Aside0.mk ho
  have v2 : v ≤ 65535 := by have := B.m2; omega
  obtain ⟨z0, z1, z2, z3, z4⟩ := img_cells h0
  have q0 := hb.2.2.2.2.1
  have q1 := hb.2.2.2.2.2
  have HS := Aside0.mk (And.intro hb0 (And.intro g1 hgb))
  have HBB := Aside0.mk HB
  unfold Img.put
  generalize plV m x y c = P at PL q0 q1 k1 k2 HP ⊢
  obtain ⟨p, rfl⟩ := Int.eq_ofNat_of_zero_le q0
  rw [Int.toNat_natCast] at k1 k2 HP
  obtain ⟨n, hn⟩ : ∃ n, n = m.l.length := ⟨_, rfl⟩
  obtain ⟨mo, hmo⟩ : ∃ n, n = m.most := ⟨_, rfl⟩
  rw [← hn] at z4 q1
  rw [← hmo] at z3 hv
  obtain ⟨v0, v1⟩ := hv
  have vn : ¬ mo < v := by omega
  have pn : ¬ (p : Int) < 0 := by omega
  have HE := Aside0.mk (And.intro hn hmo)
  clear h0 hR HB B hi hb z0 z1 z2 hb0 g1 g2 g3 hgb hn hmo v1 ho
  go_enter Tryz.func28, Tryz.ntmps28
  go_wp2_with (go_at_call 40; (with_reducible refine PL.out.mono ?_); rintro e w' ⟨rfl, ⟨nd, rfl⟩⟩)
  go_ret
  have hx : ((w.drewN nd).setCell ⟨g, p, none⟩ (.int .u16 v)).heap[b]? = some (.cells #[.int .i64 m.w, .int .i64 m.h, .int .i64 m.c, .int .i64 m.most, .slice (some ⟨g, 0, none⟩) m.l.length cap] 58 (0, 0)) := blk_far (HO.out nd) (p := ⟨g, p, none⟩) (Ne.symm HS.out.2.2) _
  refine ⟨rfl, ⟨HS.out.1, _, hx, ?_⟩, (pw_below_drewN HBB.out nd).setCell (p := ⟨g, p, none⟩) HS.out.2.1 _⟩
  have hy := HP.out nd
  show Kd.R (Kd.int .u16) 22 _ _ _ _ (m.l.set (p : Int).toNat v)
  rw [Int.toNat_natCast]
  exact hy
set_option maxHeartbeats 8000000 in
set_option maxRecDepth 100000 in
theorem imgSet_no (b : Nat) (m : Img) (x y c v : Int) (w : World) (h : ImgC w b m) (B : ImgB m) (hv : 0 ≤ v ∧ v ≤ 65535) (hn : ¬ (inI m x y c ∧ v ≤ m.most)) : Calls Tryz.prog 28 #[.pointer (some ⟨b, 0, none⟩), .int .i64 x, .int .i64 y, .int .i64 c, .int .u16 v] w fun e w' => e = .returned (.bool false) ∧ Drawn0 w w' := by
  have PL := Aside0.mk (place_calls b m x y c w h B)
  obtain ⟨A, cp, h0, hcp, hC⟩ := h
  obtain ⟨z0, z1, z2, z3, z4⟩ := img_cells h0
  obtain ⟨v0, v1⟩ := hv
  by_cases hi : inI m x y c
  · rw [if_pos hi] at PL
    have hb := pl_bnd B hi
    have q0 := hb.2.2.2.2.1
    have hm : m.most < v := by
      rcases Int.lt_or_le m.most v with q | q
      · exact q
      · exact absurd ⟨hi, q⟩ hn
    generalize plV m x y c = P at PL q0
    obtain ⟨p, rfl⟩ := Int.eq_ofNat_of_zero_le q0
    have pn : ¬ (p : Int) < 0 := by omega
    obtain ⟨mo, hmo⟩ : ∃ n, n = m.most := ⟨_, rfl⟩
    rw [← hmo] at z3 hm
    clear h0 hC hcp B hi hn z0 z1 z2 z4 hb hmo
    go_enter Tryz.func28, Tryz.ntmps28
    go_wp2_with (go_at_call 40; (with_reducible refine PL.out.mono ?_); rintro e w' ⟨rfl, ⟨nd, rfl⟩⟩)
    go_ret
    exact ⟨rfl, ⟨⟨nd, rfl⟩⟩⟩
  · rw [if_neg hi] at PL
    clear h0 hC hcp B hi hn z0 z1 z2 z3 z4
    go_enter Tryz.func28, Tryz.ntmps28
    go_wp2_with (go_at_call 40; (with_reducible refine PL.out.mono ?_); rintro e w' ⟨rfl, ⟨nd, rfl⟩⟩)
    go_ret
    exact ⟨rfl, ⟨⟨nd, rfl⟩⟩⟩
theorem fits_eq {a b c : Int} (ha : 1 ≤ a ∧ a ≤ 65536) (hb : 1 ≤ b ∧ b ≤ 65536) (hc : c = 1 ∨ c = 3) : raster_Fits.f a b c = some (decide (a * b * c ≤ 268435456)) := by
  have h0 : 0 ≤ a * b := Int.mul_nonneg (by omega) (by omega)
  have h1 : a * b ≤ 65536 * 65536 := Int.mul_le_mul ha.2 hb.2 (by omega) (by decide)
  unfold raster_Fits.f
  rw [if_pos ha.1, if_pos ha.2, if_pos hb.1, if_pos hb.2, w64_id (show -9223372036854775808 ≤ a * b by omega) (by omega)]
  rcases hc with rfl | rfl
  · rw [if_pos rfl, w64_id (by omega) (by omega)]
  · rw [if_neg (by decide), if_pos rfl, w64_id (by omega) (by omega)]
theorem infoU : (Tryz.prog.info? 22).map (fun i => (i.zero, i.size, i.bytes)) = some (some (.int .u16 0), 1, 2) := by kernel_rfl
theorem made_R (W : World) (base N : Nat) (hb : base ≤ W.heap.size) (hN : N ≤ 9223372036854775807) (ok : Nat → Prop) (hok : ok W.heap.size) : Kd.R (Kd.int .u16) 22 (W.alloc (.cells (madeCells #[.int .u16 0] N) 22)) base ok (.slice (some ⟨W.heap.size, 0, none⟩) N N) (List.replicate N 0) := by
  have h := own_made' W base 22 .u16 N hb hN
  have h2 := Kd.R_of_own (h1 := fun _ => rfl) (ok := ok) h (fun k hk => by
    have : W.heap.size = k := by simpa [Value.ownBlock] using hk
    subst this; exact hok)
  exact h2
/-- Noughts. -/
def newI (a b c mo : Int) : Img := ⟨a, b, c, mo, List.replicate (a * b * c).toNat 0⟩
set_option maxHeartbeats 8000000 in
set_option maxRecDepth 100000 in
theorem imgNew_ok (a b c mo : Int) (w : World) (ha : 1 ≤ a ∧ a ≤ 65536) (hb : 1 ≤ b ∧ b ≤ 65536) (hc : c = 1 ∨ c = 3) (hm : 1 ≤ mo ∧ mo ≤ 65535) (hn : a * b * c ≤ 268435456) : Calls Tryz.prog 25 #[.int .i64 a, .int .i64 b, .int .i64 c, .int .i64 mo] w fun e w' => Below w.heap.size w w' ∧ ∃ g, e = .returned (.tuple #[.pointer (some ⟨g, 0, none⟩), .int .i64 0]) ∧ ImgO w' w.heap.size g (newI a b c mo) := by
  have hf := fits_eq ha hb hc
  rw [decide_eq_true hn] at hf
  have h0 : 0 ≤ a * b := Int.mul_nonneg (by omega) (by omega)
  have h1 : a * b ≤ 65536 * 65536 := Int.mul_le_mul ha.2 hb.2 (by omega) (by decide)
  have h2 : 0 ≤ a * b * c := Int.mul_nonneg h0 (by omega)
  have v1 : wrap64 (a * b) = a * b := w64_id (by omega) (by omega)
  have v2 : wrap64 (a * b * c) = a * b * c := w64_id (by omega) (by omega)
  have m0 : ¬ mo < 1 := by omega
  have m1 : ¬ 65535 < mo := by omega
  unfold newI
  obtain ⟨N, hN⟩ : ∃ N : Nat, a * b * c = (N : Int) := Int.eq_ofNat_of_zero_le h2
  rw [hN] at v2 hn h2 ⊢
  rw [Int.toNat_natCast]
  have v3 : wrap64 (a * b * c) = (N : Int) := by rw [hN]; exact v2
  clear v2
  have mk := print_make (P := Tryz.prog) 23 22 .u16 2 (by kernel_rfl) (by kernel_rfl) (by decide) N (by omega)
  have HM := Aside0.mk (And.intro ha (And.intro hb (And.intro h2 hn)))
  have bc : (c == 1) = true ∨ ((c == 1) = false ∧ (c == 3) = true) := by rcases hc with rfl | rfl <;> simp
  have bd : (c != 1) = false ∨ ((c != 1) = true ∧ (c != 3) = false) := by rcases hc with rfl | rfl <;> simp
  have HF := Aside0.mk hf
  clear ha hb hm hf h0 h1 hN hc bc
  rcases bd with bd | ⟨bd, be⟩
  all_goals (
    go_enter Tryz.func25, Tryz.ntmps25
    go_wp2_with (go_at_call 44; (with_reducible refine (raster_Fits.calls a b c true _ HF.out).mono ?_); rintro e w' ⟨rfl, ⟨nd, rfl⟩⟩)
    go_ret2
    have hd : (w.drewN nd).heap.size = w.heap.size := by rw [World.heap_drewN]
    have hR := made_R (w.drewN nd) w.heap.size N (by omega) (by have := HM.out.2.2.2; omega) (fun k => k ≠ w.heap.size + 1) (by omega)
    rw [hd] at hR
    have hs : ((w.drewN nd).alloc (.cells (madeCells #[.int .u16 0] N) 22)).heap.size = w.heap.size + 1 := by rw [← hd, World.alloc]; exact Array.size_push _
    have hn := heap_alloc_new ((w.drewN nd).alloc (.cells (madeCells #[.int .u16 0] N) 22)) (.cells #[.int .i64 a, .int .i64 b, .int .i64 c, .int .i64 mo, .slice (some ⟨w.heap.size, 0, none⟩) N N] 58)
    rw [hs] at hn
    have hB : Below w.heap.size w (((w.drewN nd).alloc (.cells (madeCells #[.int .u16 0] N) 22)).alloc (.cells #[.int .i64 a, .int .i64 b, .int .i64 c, .int .i64 mo, .slice (some ⟨w.heap.size, 0, none⟩) N N] 58)) := below_alloc (below_alloc (pw_below_drewN (Below.refl _ _) nd) _) _
    refine ⟨hB, w.heap.size + 1, rfl, by omega, .slice (some ⟨w.heap.size, 0, none⟩) N N, hn, Kd.R_alloc hR _⟩)
set_option maxHeartbeats 8000000 in
set_option maxRecDepth 100000 in
theorem cloneU_calls (A0 : Option Addr) (c0 : Nat) (l : List Int) (w : World) (hr0 : Kd.C (Kd.int .u16) w A0 l.length l) (hc0 : l.length ≤ c0) (hl : l.length ≤ 268435456) :
    Calls Tryz.prog 47 #[.slice A0 l.length c0] w fun e w' => ∃ v, e = .returned v ∧ Kd.R (Kd.int .u16) 22 w' w.heap.size (fun _ => True) v l ∧ Below w.heap.size w w' := by
  have q : ∀ (w : World) (a : Option Addr) (n c n' c' : Nat), (binOp .eql 23 (.slice a n c) (.slice none n' c')).run Tryz.prog w = .ok (.bool a.isNone) w := fun w a n c n' c' => Lib.run_eql_slice_nil w _ _ a n c n' c' Tryz.underlying23
  cases A0 with
  | none =>
    have hn : l = [] := by
      cases l with
      | nil => rfl
      | cons x r => obtain ⟨ad, e, _⟩ := Kd.at_int hr0 0 (by omega) (by simp); cases e
    subst hn
    clear hr0
    go_enter Tryz.func47, Tryz.ntmps47
    go_wp2
    go_ret
    exact ⟨_, rfl, Kd.R_nil _ _ _ _ _, Below.refl _ _⟩
  | some ad =>
    have HR := Aside0.mk hr0
    clear hr0
    go_enter Tryz.func47, Tryz.ntmps47
    go_wp2_with (at_builtin; refine Kd.R_append_row (Value.int .u16) (0 : Int) (h1 := fun _ => rfl) (w0 := w) w.heap.size rfl (.tmp 5) (.tmp 6) 23 22 (.int .u16 0) 2 rfl Tryz.underlying23 infoU rfl (by omega) (.slice (some ⟨w.heap.size, 0, none⟩) 0 0) [] l (some ad) l.length c0 (fun _ => True) rfl rfl (fun _ _ => trivial) (Kd.R_of_own (World.ownsRow_made w #[] 0 (Nat.le_refl _) (Nat.zero_le _) rfl) (fun _ _ => trivial)) (Kd.C_alloc HR.out _) (below_alloc (Below.refl _ _) _) (by simp) (by simp; omega) ?_; intro v1 w1 ho hb hg hat; have HO := Aside0.mk ho; have HB := Aside0.mk hb; clear ho hb hg hat)
    go_ret
    exact ⟨_, rfl, HO.out, HB.out⟩
set_option maxHeartbeats 8000000 in
set_option maxRecDepth 100000 in
theorem imgSamples_calls (b : Nat) (m : Img) (w : World) (h : ImgC w b m) (hl : m.l.length ≤ 268435456) : Calls Tryz.prog 38 #[.pointer (some ⟨b, 0, none⟩)] w fun e w' => ∃ v, e = .returned v ∧ Kd.R (Kd.int .u16) 22 w' w.heap.size (fun _ => True) v m.l ∧ Below w.heap.size w w' := by
  obtain ⟨A, cp, h0, hcp, hC⟩ := h
  have CL := Aside0.mk (cloneU_calls A cp m.l w hC hcp hl)
  obtain ⟨z0, z1, z2, z3, z4⟩ := img_cells h0
  obtain ⟨n, hn⟩ : ∃ n, n = m.l.length := ⟨_, rfl⟩
  rw [← hn] at z4 CL
  clear h0 hC hcp hl hn z0 z1 z2 z3
  go_enter Tryz.func38, Tryz.ntmps38
  go_wp2_with (go_at_call 47; refine CL.out.mono ?_; rintro e w' ⟨v, rfl, hv, hb⟩; have HV := Aside0.mk hv; have HB := Aside0.mk hb; clear hv hb)
  go_ret
  exact ⟨_, rfl, HV.out, HB.out⟩
/-- The greatest of some. -/
def maxU (x : Int) (l : List Int) : Int := l.foldl (fun m y => mx m y) x
theorem maxU_le {b : Int} : ∀ (l : List Int) (x : Int), x ≤ b → (∀ y ∈ l, y ≤ b) → maxU x l ≤ b
  | [], x, h, _ => h
  | y :: l, x, h, h2 => maxU_le l (mx x y) (by have := h2 y (by simp); unfold mx; split <;> omega) (fun z hz => h2 z (by simp [hz]))
theorem slices_Max_l0 (l : List Int) (hl : l.length ≤ 268435456) : ∀ (d i : Nat) (x : Int), i + d = l.length → slices_Max_uint16_uint16.l0 (d + 1) l x (i : Int) = some (maxU x (l.drop i))
  | 0, i, x, h => by
    rw [slices_Max_uint16_uint16.l0, if_neg (by omega), List.drop_eq_nil_of_le (by omega)]; rfl
  | d + 1, i, x, h => by
    rw [slices_Max_uint16_uint16.l0, if_pos (by omega), if_pos (by omega), w64_id (by omega) (by omega), show (i : Int) + 1 = ((i + 1 : Nat) : Int) by omega, slices_Max_l0 l hl d (i + 1) _ (by omega), List.drop_eq_getElem_cons (show i < l.length by omega)]
    show _ = some (maxU (mx x l[i]) (l.drop (i + 1)))
    congr 3
    unfold rd
    rw [Int.toNat_natCast, List.getD_eq_getElem?_getD, List.getElem?_eq_getElem (by omega)]; rfl
theorem slices_Max_eq {l : List Int} (h1 : 1 ≤ l.length) (hl : l.length ≤ 268435456) : slices_Max_uint16_uint16.f l.length l = some (maxU (rd l 0) (l.drop 1)) := by
  obtain ⟨d, hd⟩ : ∃ d, l.length = d + 1 := ⟨l.length - 1, by omega⟩
  unfold slices_Max_uint16_uint16.f
  rw [if_neg (by omega), if_pos (by omega), hd]
  exact slices_Max_l0 l hl d 1 (rd l 0) (by omega)
set_option maxHeartbeats 8000000 in
set_option maxRecDepth 100000 in
theorem imgOf_ok (a b c mo : Int) (A0 : Option Addr) (c0 : Nat) (l : List Int) (w : World) (ha : 1 ≤ a ∧ a ≤ 65536) (hb : 1 ≤ b ∧ b ≤ 65536) (hc : c = 1 ∨ c = 3) (hm : 1 ≤ mo ∧ mo ≤ 65535) (hn : a * b * c ≤ 268435456) (hr0 : Kd.C (Kd.int .u16) w A0 l.length l) (hc0 : l.length ≤ c0) (hll : (l.length : Int) = a * b * c) (h1 : 1 ≤ l.length) (hx : ∀ x ∈ l, 0 ≤ x ∧ x ≤ mo) : Calls Tryz.prog 16 #[.int .i64 a, .int .i64 b, .int .i64 c, .int .i64 mo, .slice A0 l.length c0] w fun e w' => Below w.heap.size w w' ∧ ∃ g, e = .returned (.tuple #[.pointer (some ⟨g, 0, none⟩), .int .i64 0]) ∧ ImgO w' w.heap.size g ⟨a, b, c, mo, l⟩ := by
  have NW := Aside0.mk (imgNew_ok a b c mo w ha hb hc hm hn)
  have hmax := slices_Max_eq h1 (by omega)
  have hml : maxU (rd l 0) (l.drop 1) ≤ mo := maxU_le _ _ (by
    have : rd l 0 ∈ l := by
      unfold rd
      rw [List.getD_eq_getElem?_getD, show (0 : Int).toNat = 0 from rfl, List.getElem?_eq_getElem (by omega)]
      exact List.getElem_mem _
    exact (hx _ this).2) (fun y hy => (hx y (List.mem_of_mem_drop hy)).2)
  have hm0 : 0 ≤ maxU (rd l 0) (l.drop 1) := by
    have ge : ∀ (l : List Int) (x : Int), 0 ≤ x → 0 ≤ maxU x l := by
      intro l
      induction l with
      | nil => intro x h; exact h
      | cons y l ih => intro x h; exact ih (mx x y) (by unfold mx; split <;> omega)
    refine ge _ _ ?_
    have : rd l 0 ∈ l := by
      unfold rd
      rw [List.getD_eq_getElem?_getD, show (0 : Int).toNat = 0 from rfl, List.getElem?_eq_getElem (by omega)]
      exact List.getElem_mem _
    exact (hx _ this).1
  have MX := Aside0.mk (fun w' (hb2 : Below w.heap.size w w') => slices_Max_uint16_uint16.calls l.length A0 c0 l _ w' (Kd.C_below hr0 hb2) hc0 hmax)
  generalize maxU (rd l 0) (l.drop 1) = M at hml hm0 MX
  have HR := Aside0.mk hr0
  have hN : (newI a b c mo).l.length = l.length := by show (List.replicate (a * b * c).toNat (0 : Int)).length = _; rw [List.length_replicate]; omega
  have HN := Aside0.mk hN
  obtain ⟨N, hNl⟩ : ∃ N, N = l.length := ⟨_, rfl⟩
  have HL := Aside0.mk hNl
  have hN1 : 1 ≤ N ∧ N ≤ 268435456 := by omega
  have mn : ¬ mo < M := by omega
  have m65 : M ≤ 65535 := by omega
  rw [← hNl] at MX ⊢
  have HC0 := Aside0.mk hc0
  clear ha hb hc hm hn hr0 hll h1 hx hmax hml hN hNl hc0
  go_enter Tryz.func16, Tryz.ntmps16
  go_upto_region 2 with (go_at_call 25; refine NW.out.mono ?_; rintro e w1 ⟨hb1, g, rfl, hO⟩; have B1 := Aside0.mk hb1; have HO := Aside0.mk hO; clear hb1 hO)
  obtain ⟨hg0, v0, hg1, hR⟩ := HO.out
  obtain ⟨q, cap, rfl, q1, q2, cells, q3⟩ := Kd.R_form hR (by rw [HN.out, ← HL.out]; omega)
  have hgq : q ≠ g := hR.1 q (by simp [Value.ownBlock])
  rw [HN.out, ← HL.out] at hg1 hR
  have z4 : w1.cell? ⟨g, 4, none⟩ = some (.slice (some ⟨q, 0, none⟩) N cap) := (blk_cell hg1 4).trans rfl
  have HG := Aside0.mk hg1
  have HRR := Aside0.mk hR
  have HQ := Aside0.mk (And.intro hg0 (And.intro q1 hgq))
  have hNN : ((N : Int) != (N : Int)) = false := by simp
  clear hg0 hg1 hR q1 q2 q3 hgq HO
  go_upto_region 8 with (go_at_call 34; refine (MX.out _ B1.out).mono ?_; rintro e w2 ⟨rfl, hb2⟩; have B2 := Aside0.mk (below_step B1.out hb2); have hg2 := (hb2.block g (blk_lt HG.out)).trans HG.out; have HG2 := Aside0.mk hg2; have HR2 := Aside0.mk (Kd.R_below HRR.out hb2); clear z4; have z4 : w2.cell? ⟨g, 4, none⟩ = some (.slice (some ⟨q, 0, none⟩) N cap) := (blk_cell hg2 4).trans rfl; clear hb2 hg2)
  have HCL := Aside0.mk (Kd.C_below HR.out B2.out)
  rw [← HL.out] at HCL
  have HLL := Aside0.mk (show (newI a b c mo).l.length = N by rw [HN.out, ← HL.out])
  go_wp2_with ((with_reducible refine gate_dst (N := 46) rfl ?_); refine Kd.R_copy (enc := Value.int .u16) (h1 := fun _ => rfl) (0 : Int) (w0 := w) w.heap.size rfl (.tmp 44) (.tmp 45) 23 23 22 rfl Tryz.underlying23 (by kernel_rfl) (.slice (some ⟨q, 0, none⟩) N cap) (newI a b c mo).l l A0 N c0 (fun k => k ≠ g) rfl rfl HR2.out HCL.out B2.out B2.out.size ?_; intro w3 ho hb hg; have HO3 := Aside0.mk ho; have B3 := Aside0.mk hb; have HG3 := Aside0.mk ((hg.block g (blk_lt HG2.out) (by simp [Value.ownBlock]; exact fun h => HQ.out.2.2 h.symm)).trans HG2.out); clear ho hb hg)
  go_ret2
  refine ⟨B3.out, g, rfl, HQ.out.1, _, HG3.out, ?_⟩
  have h := HO3.out
  rw [HLL.out, Nat.min_self, List.take_of_length_le (by rw [← HL.out]; exact Nat.le_refl _), List.drop_eq_nil_of_le (by rw [HLL.out]; exact Nat.le_refl _), List.append_nil] at h
  exact h
end Go.Proofs.YtbcoieboldgdaaaGreatDoor.QA

namespace Go.Proofs.YtbcoieboldgdaaaGreatDoor.QA
open Go.RowKit Go.Proofs.YtbcoieboldgdaaaGreatDoorW.PrintWords Go.Proofs.YtbcoieboldgdaaaGreatDoorW.PrintLast Go.Proofs.YtbcoieboldgdaaaGreatDoorW.PrintMore Go.Proofs.YtbcoieboldgdaaaGreatDoor.T
set_option linter.unusedVariables false
set_option linter.unusedSimpArgs false
theorem fixed_Clamp_eq (x a b : Int) : fixed_Clamp.f x a b = some (mx a (mn x b)) := rfl
/-- Which sample stands for one beyond. -/
def bat (p j n : Int) : Int := if n < 1 ∨ n > 65536 then 0 else if p = 0 then mx 0 (mn j (n - 1)) else if p = 1 then mn (j % (2 * n)) (2 * n - 1 - j % (2 * n)) else if p = 2 then j % n else 0
theorem border_At_eq {k : Nat} (hk : 2 ≤ k) {p j n : Int} (hj : I64 j) (hn : I64 n) : border_At.f k p j n = some (bat p j n) := by
  obtain ⟨k, rfl⟩ : ∃ m, k = m + 1 := ⟨k - 1, by omega⟩
  unfold border_At.f bat
  simp only [border_At.j0]
  by_cases h0 : n < 1
  · rw [if_pos h0, if_pos trivial, if_pos (Or.inl h0)]
  rw [if_neg h0]
  by_cases h1 : n > 65536
  · rw [if_pos (decide_eq_true h1), if_pos (Or.inr h1)]
  rw [if_neg (show ¬ (decide (n > 65536) = true) from by simpa using h1), if_neg (show ¬ (n < 1 ∨ n > 65536) from by omega)]
  rw [w64_id (show -9223372036854775808 ≤ n - 1 from by omega) (by omega), w64_id (show -9223372036854775808 ≤ 2 * n from by omega) (by omega)]
  by_cases p0 : p = 0
  · rw [if_pos p0, if_pos p0, fixed_Clamp_eq]; rfl
  rw [if_neg p0, if_neg p0]
  by_cases p1 : p = 1
  · rw [if_pos p1, if_pos p1, fixed_Mod_eq (by omega) hj (by omega)]
    simp only [Option.bind_some]
    have e : md j (2 * n) = j % (2 * n) := by unfold md; rw [if_neg (by omega), if_pos (by omega)]
    have r0 := Int.emod_nonneg j (show 2 * n ≠ 0 from by omega)
    have r1 := Int.emod_lt_of_pos j (show 0 < 2 * n from by omega)
    rw [e]
    generalize j % (2 * n) = r at *
    rw [w64_id (show -9223372036854775808 ≤ 2 * n - 1 from by omega) (by omega), w64_id (by omega) (by omega)]
  rw [if_neg p1, if_neg p1]
  by_cases p2 : p = 2
  · rw [if_pos p2, if_pos p2, fixed_Mod_eq (by omega) hj hn]
    simp only [Option.bind_some]
    unfold md; rw [if_neg (by omega), if_pos (by omega)]
  rw [if_neg p2, if_neg p2]
theorem bat_in {p j n : Int} (h0 : 1 ≤ n) (h1 : n ≤ 65536) : 0 ≤ bat p j n ∧ bat p j n < n := by
  unfold bat mx mn
  rw [if_neg (by omega)]
  have r0 := Int.emod_nonneg j (show 2 * n ≠ 0 from by omega)
  have r1 := Int.emod_lt_of_pos j (show 0 < 2 * n from by omega)
  have s0 := Int.emod_nonneg j (show n ≠ 0 from by omega)
  have s1 := Int.emod_lt_of_pos j (show 0 < n from by omega)
  generalize j % (2 * n) = r at *
  generalize j % n = s at *
  split
  · split <;> split <;> omega
  · split
    · split <;> omega
    · split <;> omega
theorem bat0 {j n : Int} (h0 : 1 ≤ n) (h1 : n ≤ 65536) : bat 0 j n = mx 0 (mn j (n - 1)) := by unfold bat; rw [if_neg (show ¬ (n < 1 ∨ n > 65536) from by omega), if_pos rfl]
theorem bat1 {j n : Int} (h0 : 1 ≤ n) (h1 : n ≤ 65536) : bat 1 j n = mn (j % (2 * n)) (2 * n - 1 - j % (2 * n)) := by unfold bat; rw [if_neg (show ¬ (n < 1 ∨ n > 65536) from by omega), if_neg (by decide), if_pos rfl]
theorem bat2 {j n : Int} (h0 : 1 ≤ n) (h1 : n ≤ 65536) : bat 2 j n = j % n := by unfold bat; rw [if_neg (show ¬ (n < 1 ∨ n > 65536) from by omega), if_neg (by decide), if_neg (by decide), if_pos rfl]
theorem border_nm {bd : Int} (hb : 0 ≤ bd ∧ bd < 3) : ∃ s, border_Name.f bd = some s ∧ s.toList.isEmpty = false := by
  have : bd = 0 ∨ bd = 1 ∨ bd = 2 := by omega
  rcases this with rfl | rfl | rfl
  · exact ⟨_, rfl, by kernel_rfl⟩
  · exact ⟨_, rfl, by kernel_rfl⟩
  · exact ⟨_, rfl, by kernel_rfl⟩
/-- A stage's value. -/
def stV (bx bz : Nat) (bd : Int) : Value := .agg #[.pointer (some ⟨bx, 0, none⟩), .pointer (some ⟨bz, 0, none⟩), .int .i64 bd]
set_option maxHeartbeats 8000000 in
set_option maxRecDepth 100000 in
theorem suits_yes (b bx bz : Nat) (m : Img) (tx ty : Tab) (bd : Int) (w : World) (hG : GL w) (hI : ImgC w b m) (hx : TabC w bx tx) (hy : TabC w bz ty) (e1 : tx.n = m.w) (e2 : ty.n = m.h) (hb : 0 ≤ bd ∧ bd < 3) :
    Calls Tryz.prog 9 #[.pointer (some ⟨b, 0, none⟩), stV bx bz bd] w fun e w' => e = .returned (.bool true) ∧ Below w.heap.size w w' := by
  obtain ⟨nm, n1, n3⟩ := border_nm hb
  have n2 : ¬ nm.toList = [] := fun h => by rw [h] at n3; exact absurd n3 (by decide)
  have W1 := Aside0.mk (fun w' (h : Below w.heap.size w w') => imgWidth_calls b m w' (hI.below h))
  have W2 := Aside0.mk (fun w' (h : Below w.heap.size w w') => imgHeight_calls b m w' (hI.below h))
  have F1 := Aside0.mk (fun w' (h : Below w.heap.size w w') => from_calls bx tx w' (hx.below h))
  have F2 := Aside0.mk (fun w' (h : Below w.heap.size w w') => from_calls bz ty w' (hy.below h))
  have NM := Aside0.mk (fun w' (h : Below w.heap.size w w') => border_Name.calls bd nm w' (hG.below h) n1)
  rw [e1] at F1
  rw [e2] at F2
  have hr := heap_alloc_new w (.cells #[.pointer (some ⟨bx, 0, none⟩), .pointer (some ⟨bz, 0, none⟩), .int .i64 bd] 33)
  have BX := Aside0.mk (below_alloc (Below.refl w.heap.size w) (.cells #[.pointer (some ⟨bx, 0, none⟩), .pointer (some ⟨bz, 0, none⟩), .int .i64 bd] 33))
  obtain ⟨mw, hmw⟩ : ∃ v, v = m.w := ⟨_, rfl⟩
  obtain ⟨mh, hmh⟩ : ∃ v, v = m.h := ⟨_, rfl⟩
  rw [← hmw] at F1 W1
  rw [← hmh] at F2 W2
  have HR := Aside0.mk hr
  clear hG hI hx hy e1 e2 hb n1 hr hmw hmh
  unfold stV
  go_enter Tryz.func9, Tryz.ntmps9
  go_upto_region 1 with fail
  obtain ⟨g, hg⟩ : ∃ g, g = w.heap.size := ⟨_, rfl⟩
  rw [← hg]
  have hr := HR.out
  rw [← hg] at hr
  clear hg HR
  generalize w.alloc (.cells #[.pointer (some ⟨bx, 0, none⟩), .pointer (some ⟨bz, 0, none⟩), .int .i64 bd] 33) = w1 at hr BX ⊢
  have z0 : w1.cell? ⟨g, 0, none⟩ = some (.pointer (some ⟨bx, 0, none⟩)) := (blk_cell hr 0).trans rfl
  have z1 : w1.cell? ⟨g, 1, none⟩ = some (.pointer (some ⟨bz, 0, none⟩)) := (blk_cell hr 1).trans rfl
  have z2 : w1.cell? ⟨g, 2, none⟩ = some (.int .i64 bd) := (blk_cell hr 2).trans rfl
  clear hr
  have q1 : (mw == mw) = true := by simp
  have q2 : (mh == mh) = true := by simp
  go_wp2_with (first
    | (go_at_call 23; (with_reducible refine (F1.out _ BX.out).mono ?_); rintro e w' ⟨rfl, rfl⟩)
    | (go_at_call 23; (with_reducible refine (F2.out _ BX.out).mono ?_); rintro e w' ⟨rfl, rfl⟩)
    | (go_at_call 7; (with_reducible refine (W1.out _ BX.out).mono ?_); rintro e w' ⟨rfl, rfl⟩)
    | (go_at_call 8; (with_reducible refine (W2.out _ BX.out).mono ?_); rintro e w' ⟨rfl, rfl⟩)
    | (go_at_call 24; (with_reducible refine (NM.out _ BX.out).mono ?_); rintro e w' ⟨rfl, ⟨nd, rfl⟩⟩))
  go_ret
  exact ⟨rfl, pw_below_drewN BX.out nd⟩
theorem two_new (w : World) (o p : Obj) : ((w.alloc o).alloc p).heap[w.heap.size + 1]? = some p := ha_at _ _ _ (by simp)
theorem two_old (w : World) (o p : Obj) : ((w.alloc o).alloc p).heap[w.heap.size]? = some o := by rw [ha_old _ _ _ (by simp)]; exact ha_at _ _ _ rfl
theorem ntl : ∀ q, q ∈ 2 :: (Kd.int .i64).E → q ≠ 65 := by intro q hq; simp [Kd.int, Kd.scalar] at hq; subst hq; decide
theorem set2 {w : World} {g : Nat} {t : TypeId} {a b : Value} (h : w.heap[g]? = some (.cells #[.int .i64 0, .slice none 0 0] t (0, 0))) : ((w.setCell ⟨g, 0, none⟩ a).setCell ⟨g, 1, none⟩ b).heap[g]? = some (.cells #[a, b] t (0, 0)) := (blk_set (blk_set h 0 a) 1 b).trans rfl
theorem far2 {w : World} {g k : Nat} {t : TypeId} {cs : Array Value} {a b : Value} (h : w.heap[g]? = some (.cells cs t (0, 0))) (hne : g ≠ k) : ((w.setCell ⟨k, 0, none⟩ a).setCell ⟨k, 1, none⟩ b).heap[g]? = some (.cells cs t (0, 0)) := blk_far (blk_far h hne a) hne b
/-- A row of int64s of the call's own. -/
def Rows (w : World) (x : Value) (xs : List Int) : Prop := ∃ base, (Kd.int .i64).R 2 w base (fun _ => True) x xs
theorem Rows.reads {w : World} {A : Option Addr} {c : Nat} {xs : List Int} (h : Rows w (.slice A xs.length c) xs) : Kd.C (Kd.int .i64) w A xs.length xs := by obtain ⟨_, h⟩ := h; exact (Kd.R_reads' h).2.2
theorem Rows.alloc {w : World} {x : Value} {xs : List Int} (h : Rows w x xs) (o : Obj) : Rows (w.alloc o) x xs := by obtain ⟨_, h⟩ := h; exact ⟨_, Kd.R_alloc h o⟩
theorem Rows.drew {w : World} {x : Value} {xs : List Int} (h : Rows w x xs) : Rows w.drew x xs := by obtain ⟨_, h⟩ := h; exact ⟨_, Kd.R_drew h⟩
theorem Rows.set2 {x : Value} {xs : List Int} {w : World} {g : Nat} {a b : Value} (h : Rows w x xs) (hb : w.heap[g]? = some (.cells #[.int .i64 0, .slice none 0 0] 65 (0, 0))) : Rows ((w.setCell ⟨g, 0, none⟩ a).setCell ⟨g, 1, none⟩ b) x xs := by
  obtain ⟨_, h⟩ := h
  exact ⟨_, Kd.R_set (Kd.R_set h hb ntl 0 a) (blk_set hb 0 a) ntl 1 b⟩
/-- The inner loop's sum, after so many taps along a row. -/
def accI (m : Img) (bd fx row b c : Int) (ts : List Int) (a0 : Int) : Nat → Int
  | 0 => a0
  | i + 1 => wrap64 (accI m bd fx row b c ts a0 i + wrap64 (wrap64 (rd ts (i : Int) * b) * wrap64 (atV m (bat bd (fx + i) m.w) row c)))
/-- The outer loop's, after so many taps along a column. -/
def accO (m : Img) (bd fx fy c : Int) (tX tY : List Int) : Nat → Int
  | 0 => 0
  | k + 1 => accI m bd fx (bat bd (fy + k) m.h) (rd tY (k : Int)) c tX (accO m bd fx fy c tX tY k) tX.length
/-- An output sample's sum. -/
def sumV (m : Img) (bd c : Int) (X Y : S65) : Int := accO m bd X.f0 Y.f0 c X.f1 Y.f1 Y.f1.length
set_option maxHeartbeats 8000000 in
set_option maxRecDepth 100000 in
theorem sum_lines (b bx bz : Nat) (m : Img) (tx ty : Tab) (bd x y c : Int) (w : World) (hG : GL w) (hI : ImgC w b m) (hx : TabC w bx tx) (hy : TabC w bz ty) (e1 : tx.n = m.w) (e2 : ty.n = m.h) (hb : 0 ≤ bd ∧ bd < 3) (hc : 0 ≤ c ∧ c < m.c) (x0 : 0 ≤ x ∧ x < tx.lines.length) (y0 : 0 ≤ y ∧ y < ty.lines.length) (lx : (rd_T65 tx.lines x).f1.length ≤ 2097152) (ly : (rd_T65 ty.lines y).f1.length ≤ 2097152) (B : ImgB m) (bx0 : -1099511627776 ≤ (rd_T65 tx.lines x).f0 ∧ (rd_T65 tx.lines x).f0 ≤ 1099511627776) (by0 : -1099511627776 ≤ (rd_T65 ty.lines y).f0 ∧ (rd_T65 ty.lines y).f0 ≤ 1099511627776) :
    Calls Tryz.prog 13 #[.pointer (some ⟨b, 0, none⟩), stV bx bz bd, .int .i64 x, .int .i64 y, .int .i64 c] w fun e w' => e = .returned (.int .i64 (sumV m bd c (rd_T65 tx.lines x) (rd_T65 ty.lines y))) ∧ Below w.heap.size w w' := by
  have HII := Aside0.mk (fun w' (h : Below w.heap.size w w') => hI.below h)
  have HBB := Aside0.mk B
  have SU := Aside0.mk (fun w' (h : Below w.heap.size w w') => suits_yes b bx bz m tx ty bd w' (hG.below h) (hI.below h) (hx.below h) (hy.below h) e1 e2 hb)
  have CH := Aside0.mk (fun w' (h : Below w.heap.size w w') => imgChannels_calls b m w' (hI.below h))
  have LX := Aside0.mk (fun w' (h : Below w.heap.size w w') => line_in bx tx x w' (hx.below h) x0.1 x0.2 lx)
  have LY := Aside0.mk (fun w' (h : Below w.heap.size w w') => line_in bz ty y w' (hy.below h) y0.1 y0.2 ly)
  obtain ⟨X, hX⟩ : ∃ X, X = rd_T65 tx.lines x := ⟨_, rfl⟩
  obtain ⟨Y, hY⟩ : ∃ X, X = rd_T65 ty.lines y := ⟨_, rfl⟩
  rw [← hX] at LX lx bx0 ⊢
  rw [← hY] at LY ly by0 ⊢
  obtain ⟨fx, hfx⟩ : ∃ v, v = X.f0 := ⟨_, rfl⟩
  obtain ⟨fy, hfy⟩ : ∃ v, v = Y.f0 := ⟨_, rfl⟩
  obtain ⟨tX, htX⟩ : ∃ v, v = X.f1 := ⟨_, rfl⟩
  obtain ⟨tY, htY⟩ : ∃ v, v = Y.f1 := ⟨_, rfl⟩
  unfold sumV
  rw [← hfx, ← htX, ← hfy, ← htY]
  rw [← hfx] at bx0
  rw [← hfy] at by0
  rw [← htX] at lx
  rw [← htY] at ly
  rw [← hfx, ← htX] at LX
  rw [← hfy, ← htY] at LY
  have HLN := Aside0.mk (And.intro lx (And.intro ly (And.intro bx0 by0)))
  obtain ⟨nX, hnX⟩ : ∃ n, n = tX.length := ⟨_, rfl⟩
  obtain ⟨nY, hnY⟩ : ∃ n, n = tY.length := ⟨_, rfl⟩
  have HNN := Aside0.mk (And.intro hnX hnY)
  obtain ⟨c0, c1⟩ := hc
  have cn : ¬ c < 0 := by omega
  have cm : ¬ m.c ≤ c := by omega
  obtain ⟨mc, hmc⟩ : ∃ v, v = m.c := ⟨_, rfl⟩
  rw [← hmc] at CH cm
  have hr := heap_alloc_new w (.cells #[.pointer (some ⟨bx, 0, none⟩), .pointer (some ⟨bz, 0, none⟩), .int .i64 bd] 33)
  have BX := Aside0.mk (below_alloc (Below.refl w.heap.size w) (.cells #[.pointer (some ⟨bx, 0, none⟩), .pointer (some ⟨bz, 0, none⟩), .int .i64 bd] 33))
  have HR := Aside0.mk hr
  have mixed : Tryz.prog.follows .mixedOrders = true := by kernel_rfl
  clear hG hI hx hy e1 e2 hb hr hmc c1 x0 y0 lx ly bx0 by0 B hX hY hfx hfy htX htY hnX hnY
  unfold stV at SU ⊢
  go_enter Tryz.func13, Tryz.ntmps13
  go_upto_region 1 with fail
  obtain ⟨g, hg⟩ : ∃ g, g = w.heap.size := ⟨_, rfl⟩
  rw [← hg]
  have hr := HR.out
  rw [← hg] at hr
  clear hg HR
  generalize w.alloc (.cells #[.pointer (some ⟨bx, 0, none⟩), .pointer (some ⟨bz, 0, none⟩), .int .i64 bd] 33) = w1 at hr BX ⊢
  have z0 : w1.cell? ⟨g, 0, none⟩ = some (.pointer (some ⟨bx, 0, none⟩)) := (blk_cell hr 0).trans rfl
  have z1 : w1.cell? ⟨g, 1, none⟩ = some (.pointer (some ⟨bz, 0, none⟩)) := (blk_cell hr 1).trans rfl
  have z2 : w1.cell? ⟨g, 2, none⟩ = some (.int .i64 bd) := (blk_cell hr 2).trans rfl
  have HRR := Aside0.mk hr
  clear hr
  go_upto_region 3 with (first
    | (go_at_call 9; refine (SU.out _ BX.out).mono ?_; rintro e w2 ⟨rfl, hb2⟩; have B2 := Aside0.mk (below_step BX.out hb2); have H2 := Aside0.mk ((hb2.block g (blk_lt HRR.out)).trans HRR.out); clear hb2)
    | (go_at_call 15; (with_reducible refine (CH.out _ B2.out).mono ?_); rintro e w3 ⟨rfl, rfl⟩))
  clear z0 z1 z2 SU CH BX HRR
  have HK := Aside0.mk (fun w' (hb : Below w3.heap.size w3 w') => (show Below w3.heap.size w3 w' ∧ w'.cell? ⟨g, 0, none⟩ = some (.pointer (some ⟨bx, 0, none⟩)) ∧ w'.cell? ⟨g, 1, none⟩ = some (.pointer (some ⟨bz, 0, none⟩)) from ⟨hb, (blk_cell ((hb.block g (blk_lt H2.out)).trans H2.out) 0).trans rfl, (blk_cell ((hb.block g (blk_lt H2.out)).trans H2.out) 1).trans rfl⟩))
  obtain ⟨-, z0, z1⟩ := HK.out _ (Below.refl _ _)
  have LX2 := Aside0.mk (fun w' (hb : Below w3.heap.size w3 w') => LX.out w' (below_step B2.out hb))
  have LY2 := Aside0.mk (fun w' (hb : Below w3.heap.size w3 w') => LY.out w' (below_step B2.out hb))
  have S0 := Below.refl w3.heap.size w3
  have glw : g < w3.heap.size := blk_lt H2.out
  have gnw := Nat.ne_of_lt glw
  clear LX LY
  go_cut [11, 12] (fun v11 v12 wc => ∃ (gx gy : Nat) (Ax : Option Addr) (cx : Nat) (Ay : Option Addr) (cy : Nat), v11 = .pointer (some ⟨gx, 0, none⟩) ∧ v12 = .pointer (some ⟨gy, 0, none⟩) ∧ Aside0 (∃ A, wc.heap[gx]? = some (.cells A 65 (0, 0)) ∧ A[0]? = some (.int .i64 fx) ∧ A[1]? = some (.slice Ax nX cx)) ∧ Aside0 (∃ A, wc.heap[gy]? = some (.cells A 65 (0, 0)) ∧ A[0]? = some (.int .i64 fy) ∧ A[1]? = some (.slice Ay nY cy)) ∧ Aside0 (nX ≤ cx ∧ Kd.C (Kd.int .i64) wc Ax nX tX) ∧ Aside0 (nY ≤ cy ∧ Kd.C (Kd.int .i64) wc Ay nY tY) ∧ Aside0 (Below w3.heap.size w3 wc))
  case first =>
    go_region_held3 (fun w' => Below w3.heap.size w3 w' ∧ w'.cell? ⟨g, 0, none⟩ = some (.pointer (some ⟨bx, 0, none⟩)) ∧ w'.cell? ⟨g, 1, none⟩ = some (.pointer (some ⟨bz, 0, none⟩)))
      ((refine HK.out _ ?_; repeat (first | (with_reducible exact S0) | (with_reducible assumption) | (with_reducible apply below_alloc) | (with_reducible apply below_drew1) | (refine Below.setCell ?_ (by first | exact Nat.le_refl _ | exact hsx.size | exact hsy.size | exact Nat.le_succ_of_le (Nat.le_refl _) | exact Nat.le_succ_of_le hsx.size | exact Nat.le_succ_of_le hsy.size) _))))
      (first
    | (go_at_call 32; (with_reducible refine Calls.mono (LX2.out _ ?hh) ?_); (case hh => repeat (first | (with_reducible exact S0) | (with_reducible assumption) | (with_reducible apply below_alloc) | (with_reducible apply pw_below_drewN) | (with_reducible apply below_drew1))); rintro e wx ⟨vx, rfl, hRx, hbx⟩; have hsx : Below w3.heap.size w3 wx := below_step (by repeat (first | (with_reducible exact S0) | (with_reducible assumption) | (with_reducible apply below_alloc) | (with_reducible apply below_drew1))) hbx; obtain ⟨-, z0x, z1x⟩ := HK.out _ hsx; have glx : g < wx.heap.size := blk_lt ((hsx.block g (blk_lt H2.out)).trans H2.out); have gnx := Nat.ne_of_lt glx; (try (have hq : Below (w3.alloc (.cells #[.int .i64 0, .slice none 0 0] 65)).heap.size (w3.alloc (.cells #[.int .i64 0, .slice none 0 0] 65)) wx := (by with_reducible exact below_step (below_drew1 (Below.refl _ _)) hbx); have fx1 : wx.heap[w3.heap.size]? = some (.cells #[.int .i64 0, .slice none 0 0] 65 (0, 0)) := (hq.block _ (blk_lt (heap_alloc_new w3 (.cells #[.int .i64 0, .slice none 0 0] 65)))).trans (heap_alloc_new w3 (.cells #[.int .i64 0, .slice none 0 0] 65)); clear hq; have kx10 : wx.cell? ⟨w3.heap.size, 0, none⟩ = some (.int .i64 0) := (blk_cell fx1 0).trans rfl; have kx1f0 := blk_frozen fx1 0; have kx11 : wx.cell? ⟨w3.heap.size, 1, none⟩ = some (.slice none 0 0) := (blk_cell fx1 1).trans rfl; have kx1f1 := blk_frozen fx1 1; have kx1l := blk_lt fx1; have kx1n := Nat.ne_of_lt kx1l)); (try (have hq : Below ((w3.alloc (.cells #[.int .i64 0, .slice none 0 0] 65)).alloc (.cells #[.int .i64 0, .slice none 0 0] 65)).heap.size ((w3.alloc (.cells #[.int .i64 0, .slice none 0 0] 65)).alloc (.cells #[.int .i64 0, .slice none 0 0] 65)) wx := (by with_reducible exact below_step (below_drew1 (Below.refl _ _)) hbx); have fx1 : wx.heap[w3.heap.size]? = some (.cells #[.int .i64 0, .slice none 0 0] 65 (0, 0)) := (hq.block _ (blk_lt (two_old w3 (.cells #[.int .i64 0, .slice none 0 0] 65) (.cells #[.int .i64 0, .slice none 0 0] 65)))).trans (two_old w3 (.cells #[.int .i64 0, .slice none 0 0] 65) (.cells #[.int .i64 0, .slice none 0 0] 65)); have fx2 : wx.heap[w3.heap.size + 1]? = some (.cells #[.int .i64 0, .slice none 0 0] 65 (0, 0)) := (hq.block _ (blk_lt (two_new w3 (.cells #[.int .i64 0, .slice none 0 0] 65) (.cells #[.int .i64 0, .slice none 0 0] 65)))).trans (two_new w3 (.cells #[.int .i64 0, .slice none 0 0] 65) (.cells #[.int .i64 0, .slice none 0 0] 65)); clear hq; have kx10 : wx.cell? ⟨w3.heap.size, 0, none⟩ = some (.int .i64 0) := (blk_cell fx1 0).trans rfl; have kx1f0 := blk_frozen fx1 0; have kx11 : wx.cell? ⟨w3.heap.size, 1, none⟩ = some (.slice none 0 0) := (blk_cell fx1 1).trans rfl; have kx1f1 := blk_frozen fx1 1; have kx1l := blk_lt fx1; have kx1n := Nat.ne_of_lt kx1l; have kx20 : wx.cell? ⟨w3.heap.size + 1, 0, none⟩ = some (.int .i64 0) := (blk_cell fx2 0).trans rfl; have kx2f0 := blk_frozen fx2 0; have kx21 : wx.cell? ⟨w3.heap.size + 1, 1, none⟩ = some (.slice none 0 0) := (blk_cell fx2 1).trans rfl; have kx2f1 := blk_frozen fx2 1; have kx2l := blk_lt fx2; have kx2n := Nat.ne_of_lt kx2l)); (try (have hq : Below wy.heap.size wy wx := (by with_reducible first | exact hbx | exact below_step (below_alloc (Below.refl _ _) _) hbx | exact below_step (below_alloc (below_alloc (Below.refl _ _) _) _) hbx); have HQx := Aside0.mk hq; (try (have fx1 := (hq.block _ (blk_lt fy1)).trans fy1; have kx10 : wx.cell? ⟨w3.heap.size, 0, none⟩ = some (.int .i64 0) := (blk_cell fx1 0).trans rfl; have kx1f0 := blk_frozen fx1 0; have kx11 : wx.cell? ⟨w3.heap.size, 1, none⟩ = some (.slice none 0 0) := (blk_cell fx1 1).trans rfl; have kx1f1 := blk_frozen fx1 1; have kx1l := blk_lt fx1; have kx1n := Nat.ne_of_lt kx1l)); (try (have fx2 := (hq.block _ (blk_lt fy2)).trans fy2; have kx20 : wx.cell? ⟨w3.heap.size + 1, 0, none⟩ = some (.int .i64 0) := (blk_cell fx2 0).trans rfl; have kx2f0 := blk_frozen fx2 0; have kx21 : wx.cell? ⟨w3.heap.size + 1, 1, none⟩ = some (.slice none 0 0) := (blk_cell fx2 1).trans rfl; have kx2f1 := blk_frozen fx2 1; have kx2l := blk_lt fx2; have kx2n := Nat.ne_of_lt kx2l)); clear hq)); (try (have hq : Below (wy.alloc (.cells #[.int .i64 0, .slice none 0 0] 65)).heap.size (wy.alloc (.cells #[.int .i64 0, .slice none 0 0] 65)) wx := (by with_reducible exact hbx); have fx3 : wx.heap[wy.heap.size]? = some (.cells #[.int .i64 0, .slice none 0 0] 65 (0, 0)) := (hq.block _ (blk_lt (heap_alloc_new wy (.cells #[.int .i64 0, .slice none 0 0] 65)))).trans (heap_alloc_new wy (.cells #[.int .i64 0, .slice none 0 0] 65)); clear hq; have kx30 : wx.cell? ⟨wy.heap.size, 0, none⟩ = some (.int .i64 0) := (blk_cell fx3 0).trans rfl; have kx3f0 := blk_frozen fx3 0; have kx31 : wx.cell? ⟨wy.heap.size, 1, none⟩ = some (.slice none 0 0) := (blk_cell fx3 1).trans rfl; have kx3f1 := blk_frozen fx3 1; have kx3l := blk_lt fx3; have kx3n := Nat.ne_of_lt kx3l)); (try (have hq : Below ((wy.alloc (.cells #[.int .i64 0, .slice none 0 0] 65)).alloc (.cells #[.int .i64 0, .slice none 0 0] 65)).heap.size ((wy.alloc (.cells #[.int .i64 0, .slice none 0 0] 65)).alloc (.cells #[.int .i64 0, .slice none 0 0] 65)) wx := (by with_reducible exact hbx); have fx3 : wx.heap[wy.heap.size]? = some (.cells #[.int .i64 0, .slice none 0 0] 65 (0, 0)) := (hq.block _ (blk_lt (two_old wy (.cells #[.int .i64 0, .slice none 0 0] 65) (.cells #[.int .i64 0, .slice none 0 0] 65)))).trans (two_old wy (.cells #[.int .i64 0, .slice none 0 0] 65) (.cells #[.int .i64 0, .slice none 0 0] 65)); have fx4 : wx.heap[wy.heap.size + 1]? = some (.cells #[.int .i64 0, .slice none 0 0] 65 (0, 0)) := (hq.block _ (blk_lt (two_new wy (.cells #[.int .i64 0, .slice none 0 0] 65) (.cells #[.int .i64 0, .slice none 0 0] 65)))).trans (two_new wy (.cells #[.int .i64 0, .slice none 0 0] 65) (.cells #[.int .i64 0, .slice none 0 0] 65)); clear hq; have kx30 : wx.cell? ⟨wy.heap.size, 0, none⟩ = some (.int .i64 0) := (blk_cell fx3 0).trans rfl; have kx3f0 := blk_frozen fx3 0; have kx31 : wx.cell? ⟨wy.heap.size, 1, none⟩ = some (.slice none 0 0) := (blk_cell fx3 1).trans rfl; have kx3f1 := blk_frozen fx3 1; have kx3l := blk_lt fx3; have kx3n := Nat.ne_of_lt kx3l; have kx40 : wx.cell? ⟨wy.heap.size + 1, 0, none⟩ = some (.int .i64 0) := (blk_cell fx4 0).trans rfl; have kx4f0 := blk_frozen fx4 0; have kx41 : wx.cell? ⟨wy.heap.size + 1, 1, none⟩ = some (.slice none 0 0) := (blk_cell fx4 1).trans rfl; have kx4f1 := blk_frozen fx4 1; have kx4l := blk_lt fx4; have kx4n := Nat.ne_of_lt kx4l)); have HRx := Aside0.mk hRx; obtain ⟨Ax, cx, rfl⟩ := Kd.R_slice hRx; rw [← HNN.out.1]; clear hRx)
    | (go_at_call 32; (with_reducible refine Calls.mono (LY2.out _ ?hh) ?_); (case hh => repeat (first | (with_reducible exact S0) | (with_reducible assumption) | (with_reducible apply below_alloc) | (with_reducible apply pw_below_drewN) | (with_reducible apply below_drew1))); rintro e wy ⟨vy, rfl, hRy, hby⟩; have hsy : Below w3.heap.size w3 wy := below_step (by repeat (first | (with_reducible exact S0) | (with_reducible assumption) | (with_reducible apply below_alloc) | (with_reducible apply below_drew1))) hby; obtain ⟨-, z0y, z1y⟩ := HK.out _ hsy; have gly : g < wy.heap.size := blk_lt ((hsy.block g (blk_lt H2.out)).trans H2.out); have gny := Nat.ne_of_lt gly; (try (have hq : Below (w3.alloc (.cells #[.int .i64 0, .slice none 0 0] 65)).heap.size (w3.alloc (.cells #[.int .i64 0, .slice none 0 0] 65)) wy := (by with_reducible exact below_step (below_drew1 (Below.refl _ _)) hby); have fy1 : wy.heap[w3.heap.size]? = some (.cells #[.int .i64 0, .slice none 0 0] 65 (0, 0)) := (hq.block _ (blk_lt (heap_alloc_new w3 (.cells #[.int .i64 0, .slice none 0 0] 65)))).trans (heap_alloc_new w3 (.cells #[.int .i64 0, .slice none 0 0] 65)); clear hq; have ky10 : wy.cell? ⟨w3.heap.size, 0, none⟩ = some (.int .i64 0) := (blk_cell fy1 0).trans rfl; have ky1f0 := blk_frozen fy1 0; have ky11 : wy.cell? ⟨w3.heap.size, 1, none⟩ = some (.slice none 0 0) := (blk_cell fy1 1).trans rfl; have ky1f1 := blk_frozen fy1 1; have ky1l := blk_lt fy1; have ky1n := Nat.ne_of_lt ky1l)); (try (have hq : Below ((w3.alloc (.cells #[.int .i64 0, .slice none 0 0] 65)).alloc (.cells #[.int .i64 0, .slice none 0 0] 65)).heap.size ((w3.alloc (.cells #[.int .i64 0, .slice none 0 0] 65)).alloc (.cells #[.int .i64 0, .slice none 0 0] 65)) wy := (by with_reducible exact below_step (below_drew1 (Below.refl _ _)) hby); have fy1 : wy.heap[w3.heap.size]? = some (.cells #[.int .i64 0, .slice none 0 0] 65 (0, 0)) := (hq.block _ (blk_lt (two_old w3 (.cells #[.int .i64 0, .slice none 0 0] 65) (.cells #[.int .i64 0, .slice none 0 0] 65)))).trans (two_old w3 (.cells #[.int .i64 0, .slice none 0 0] 65) (.cells #[.int .i64 0, .slice none 0 0] 65)); have fy2 : wy.heap[w3.heap.size + 1]? = some (.cells #[.int .i64 0, .slice none 0 0] 65 (0, 0)) := (hq.block _ (blk_lt (two_new w3 (.cells #[.int .i64 0, .slice none 0 0] 65) (.cells #[.int .i64 0, .slice none 0 0] 65)))).trans (two_new w3 (.cells #[.int .i64 0, .slice none 0 0] 65) (.cells #[.int .i64 0, .slice none 0 0] 65)); clear hq; have ky10 : wy.cell? ⟨w3.heap.size, 0, none⟩ = some (.int .i64 0) := (blk_cell fy1 0).trans rfl; have ky1f0 := blk_frozen fy1 0; have ky11 : wy.cell? ⟨w3.heap.size, 1, none⟩ = some (.slice none 0 0) := (blk_cell fy1 1).trans rfl; have ky1f1 := blk_frozen fy1 1; have ky1l := blk_lt fy1; have ky1n := Nat.ne_of_lt ky1l; have ky20 : wy.cell? ⟨w3.heap.size + 1, 0, none⟩ = some (.int .i64 0) := (blk_cell fy2 0).trans rfl; have ky2f0 := blk_frozen fy2 0; have ky21 : wy.cell? ⟨w3.heap.size + 1, 1, none⟩ = some (.slice none 0 0) := (blk_cell fy2 1).trans rfl; have ky2f1 := blk_frozen fy2 1; have ky2l := blk_lt fy2; have ky2n := Nat.ne_of_lt ky2l)); (try (have hq : Below wx.heap.size wx wy := (by with_reducible first | exact hby | exact below_step (below_alloc (Below.refl _ _) _) hby | exact below_step (below_alloc (below_alloc (Below.refl _ _) _) _) hby); have HQy := Aside0.mk hq; (try (have fy1 := (hq.block _ (blk_lt fx1)).trans fx1; have ky10 : wy.cell? ⟨w3.heap.size, 0, none⟩ = some (.int .i64 0) := (blk_cell fy1 0).trans rfl; have ky1f0 := blk_frozen fy1 0; have ky11 : wy.cell? ⟨w3.heap.size, 1, none⟩ = some (.slice none 0 0) := (blk_cell fy1 1).trans rfl; have ky1f1 := blk_frozen fy1 1; have ky1l := blk_lt fy1; have ky1n := Nat.ne_of_lt ky1l)); (try (have fy2 := (hq.block _ (blk_lt fx2)).trans fx2; have ky20 : wy.cell? ⟨w3.heap.size + 1, 0, none⟩ = some (.int .i64 0) := (blk_cell fy2 0).trans rfl; have ky2f0 := blk_frozen fy2 0; have ky21 : wy.cell? ⟨w3.heap.size + 1, 1, none⟩ = some (.slice none 0 0) := (blk_cell fy2 1).trans rfl; have ky2f1 := blk_frozen fy2 1; have ky2l := blk_lt fy2; have ky2n := Nat.ne_of_lt ky2l)); clear hq)); (try (have hq : Below (wx.alloc (.cells #[.int .i64 0, .slice none 0 0] 65)).heap.size (wx.alloc (.cells #[.int .i64 0, .slice none 0 0] 65)) wy := (by with_reducible exact hby); have fy3 : wy.heap[wx.heap.size]? = some (.cells #[.int .i64 0, .slice none 0 0] 65 (0, 0)) := (hq.block _ (blk_lt (heap_alloc_new wx (.cells #[.int .i64 0, .slice none 0 0] 65)))).trans (heap_alloc_new wx (.cells #[.int .i64 0, .slice none 0 0] 65)); clear hq; have ky30 : wy.cell? ⟨wx.heap.size, 0, none⟩ = some (.int .i64 0) := (blk_cell fy3 0).trans rfl; have ky3f0 := blk_frozen fy3 0; have ky31 : wy.cell? ⟨wx.heap.size, 1, none⟩ = some (.slice none 0 0) := (blk_cell fy3 1).trans rfl; have ky3f1 := blk_frozen fy3 1; have ky3l := blk_lt fy3; have ky3n := Nat.ne_of_lt ky3l)); (try (have hq : Below ((wx.alloc (.cells #[.int .i64 0, .slice none 0 0] 65)).alloc (.cells #[.int .i64 0, .slice none 0 0] 65)).heap.size ((wx.alloc (.cells #[.int .i64 0, .slice none 0 0] 65)).alloc (.cells #[.int .i64 0, .slice none 0 0] 65)) wy := (by with_reducible exact hby); have fy3 : wy.heap[wx.heap.size]? = some (.cells #[.int .i64 0, .slice none 0 0] 65 (0, 0)) := (hq.block _ (blk_lt (two_old wx (.cells #[.int .i64 0, .slice none 0 0] 65) (.cells #[.int .i64 0, .slice none 0 0] 65)))).trans (two_old wx (.cells #[.int .i64 0, .slice none 0 0] 65) (.cells #[.int .i64 0, .slice none 0 0] 65)); have fy4 : wy.heap[wx.heap.size + 1]? = some (.cells #[.int .i64 0, .slice none 0 0] 65 (0, 0)) := (hq.block _ (blk_lt (two_new wx (.cells #[.int .i64 0, .slice none 0 0] 65) (.cells #[.int .i64 0, .slice none 0 0] 65)))).trans (two_new wx (.cells #[.int .i64 0, .slice none 0 0] 65) (.cells #[.int .i64 0, .slice none 0 0] 65)); clear hq; have ky30 : wy.cell? ⟨wx.heap.size, 0, none⟩ = some (.int .i64 0) := (blk_cell fy3 0).trans rfl; have ky3f0 := blk_frozen fy3 0; have ky31 : wy.cell? ⟨wx.heap.size, 1, none⟩ = some (.slice none 0 0) := (blk_cell fy3 1).trans rfl; have ky3f1 := blk_frozen fy3 1; have ky3l := blk_lt fy3; have ky3n := Nat.ne_of_lt ky3l; have ky40 : wy.cell? ⟨wx.heap.size + 1, 0, none⟩ = some (.int .i64 0) := (blk_cell fy4 0).trans rfl; have ky4f0 := blk_frozen fy4 0; have ky41 : wy.cell? ⟨wx.heap.size + 1, 1, none⟩ = some (.slice none 0 0) := (blk_cell fy4 1).trans rfl; have ky4f1 := blk_frozen fy4 1; have ky4l := blk_lt fy4; have ky4n := Nat.ne_of_lt ky4l)); have HRy := Aside0.mk hRy; obtain ⟨Ay, cy, rfl⟩ := Kd.R_slice hRy; rw [← HNN.out.2]; clear hRy))
    all_goals (try simp only [Exit.inBlock, Exit.then])
    all_goals go_wp2
    all_goals go_meet
    all_goals (case rel =>
      have s1 := hbx.size
      have s2 := hby.size
      (try simp only [ha_size, ha_drew, World.size_setCell] at s1)
      (try simp only [ha_size, ha_drew, World.size_setCell] at s2)
      have hxl := hsx.size
      have rx2 : Rows _ _ _ := ⟨_, Kd.R_below HRx.out HQy.out⟩
      have ry2 : Rows _ _ _ := ⟨_, HRy.out⟩
      refine ⟨_, _, Ax, cx, Ay, cy, rfl, rfl, ⟨#[.int .i64 fx, .slice Ax nX cx], ?_, rfl, rfl⟩, ⟨#[.int .i64 fy, .slice Ay nY cy], ?_, rfl, rfl⟩, ⟨?_⟩, ⟨?_⟩, ⟨?_⟩⟩
      · (repeat (first | (with_reducible assumption) | (with_reducible refine ha_at _ _ _ ?_; simp only [ha_size, ha_drew, World.size_setCell]; done) | (with_reducible refine blk_alloc ?_ _) | (with_reducible refine set2 ?_) | (with_reducible refine far2 ?_ ?_; rotate_left; (focus omega))))
      · (repeat (first | (with_reducible assumption) | (with_reducible refine ha_at _ _ _ ?_; simp only [ha_size, ha_drew, World.size_setCell]; done) | (with_reducible refine blk_alloc ?_ _) | (with_reducible refine set2 ?_) | (with_reducible refine far2 ?_ ?_; rotate_left; (focus omega))))
      · rw [HNN.out.1]
        refine ⟨(Kd.R_reads' HRx.out).2.1, ?_⟩
        refine Rows.reads (c := cx) ?_
        (repeat (first | with_reducible exact rx2 | (with_reducible refine Rows.alloc ?_ _) | (with_reducible refine Rows.drew ?_) | (with_reducible refine Rows.set2 ?_ ?_; rotate_left; (focus (repeat (first | (with_reducible assumption) | (with_reducible refine ha_at _ _ _ ?_; simp only [ha_size, ha_drew, World.size_setCell]; done) | (with_reducible refine blk_alloc ?_ _) | (with_reducible refine set2 ?_) | (with_reducible refine far2 ?_ ?_; rotate_left; (focus omega))))))))
      · rw [HNN.out.2]
        refine ⟨(Kd.R_reads' HRy.out).2.1, ?_⟩
        refine Rows.reads (c := cy) ?_
        (repeat (first | with_reducible exact ry2 | (with_reducible refine Rows.alloc ?_ _) | (with_reducible refine Rows.drew ?_) | (with_reducible refine Rows.set2 ?_ ?_; rotate_left; (focus (repeat (first | (with_reducible assumption) | (with_reducible refine ha_at _ _ _ ?_; simp only [ha_size, ha_drew, World.size_setCell]; done) | (with_reducible refine blk_alloc ?_ _) | (with_reducible refine set2 ?_) | (with_reducible refine far2 ?_ ?_; rotate_left; (focus omega))))))))
      · repeat (first | (with_reducible exact S0) | (with_reducible assumption) | (with_reducible apply below_alloc) | (with_reducible apply below_drew1) | (refine Below.setCell ?_ (by first | exact Nat.le_refl _ | exact hsx.size | exact hsy.size | exact Nat.le_succ_of_le (Nat.le_refl _) | exact Nat.le_succ_of_le hsx.size | exact Nat.le_succ_of_le hsy.size) _)))
  case rest =>
    obtain ⟨gx, gy, Ax, cx, Ay, cy, rfl, rfl, HX, HY, HCX, HCY, HBC⟩ := hcut
    have HW := Aside0.mk (below_step B2.out HBC.out)
    have HKK := Aside0.mk (fun w' (hb : Below wc.heap.size wc w') => (show w'.cell? ⟨g, 2, none⟩ = some (.int .i64 bd) ∧ w'.cell? ⟨gy, 0, none⟩ = some (.int .i64 fy) ∧ w'.cell? ⟨gx, 0, none⟩ = some (.int .i64 fx) ∧ w'.cell? ⟨gy, 1, none⟩ = some (.slice Ay nY cy) ∧ w'.cell? ⟨gx, 1, none⟩ = some (.slice Ax nX cx) from by
      obtain ⟨CX, hgx, hx0, hx1⟩ := HX.out
      obtain ⟨CY, hgy, hy0, hy1⟩ := HY.out
      have e1 := (hb.block gx (blk_lt hgx)).trans hgx
      have e2 := (hb.block gy (blk_lt hgy)).trans hgy
      have e3 := (HBC.out.block g (blk_lt H2.out)).trans H2.out
      exact ⟨(blk_cell ((hb.block g (blk_lt e3)).trans e3) 2).trans rfl, (blk_cell e2 0).trans hy0, (blk_cell e1 0).trans hx0, (blk_cell e2 1).trans hy1, (blk_cell e1 1).trans hx1⟩))
    obtain ⟨k1, k2, k3, k4, k5⟩ := HKK.out _ (Below.refl _ _)
    clear z0 z1 HK LX2 LY2 S0 glw gnw HX HY H2
    have HHT := Aside0.mk (fun w' (h : Below wc.heap.size wc w') => imgHeight_calls b m w' (HII.out w' (below_step HW.out h)))
    have HWT := Aside0.mk (fun w' (h : Below wc.heap.size wc w') => imgWidth_calls b m w' (HII.out w' (below_step HW.out h)))
    have HAT := Aside0.mk (fun X Y w' (h : Below wc.heap.size wc w') => imgAt_calls b m X Y c w' (HII.out w' (below_step HW.out h)) HBB.out)
    obtain ⟨lx, ly, bx0, by0⟩ := HLN.out
    rw [← HNN.out.1] at lx
    rw [← HNN.out.2] at ly
    go_wp2
    clear k1 k2 k3 k4 k5
    go_loopg [13, 45] nY (fun kx s13 s45 wr => ∃ (k : Nat) (S : Int), s45 = .int .i64 k ∧ s13 = .int .i64 S ∧ k ≤ nY ∧ nY - k ≤ kx ∧ Aside0 (S = accO m bd fx fy c tX tY k) ∧ Aside0 (Below wc.heap.size wc wr))
    case atStart => exact ⟨0, 0, rfl, rfl, by omega, by omega, ⟨rfl⟩, ⟨Below.refl _ _⟩⟩
    case round =>
      obtain ⟨k, S, rfl, rfl, j1, j2, HS, HB⟩ := hrel
      have wi : IntKind.i64.wrap ((k : Int) + 1) = (k : Int) + 1 := by rw [i64w]; exact w64_id (by omega) (by omega)
      by_cases hlt : (k : Int) < (nY : Int)
      rotate_left
      · have hk : k = nY := by omega
        subst hk
        go_wp2
        go_ret
        exact ⟨by rw [HS.out, HNN.out.2]; rfl, below_step HW.out HB.out⟩
      have p1 : (0 ≤ (k : Int)) := by omega
      have q0 : k < nY := by omega
      have qd : decide (k < nY) = true := decide_eq_true q0
      obtain ⟨ad, e0, x0⟩ := Kd.at_int (Kd.C_below HCY.out.2 HB.out) (k : Int) p1 hlt
      subst e0
      rw [Int.toNat_natCast] at x0
      obtain ⟨b0, hb0⟩ : ∃ z, z = rd tY (k : Int) := ⟨_, rfl⟩
      rw [← hb0] at x0
      have HB0 := Aside0.mk hb0
      clear hb0
      obtain ⟨k1, k2, -, -, -⟩ := HKK.out _ HB.out
      go_upto_region 8 with fail
      have ws : IntKind.i64.wrap (fy + (k : Int)) = fy + k := by rw [i64w]; exact w64_id (by omega) (by omega)
      have hj := border_At_eq (k := 2) (Nat.le_refl _) (p := bd) (j := fy + k) (n := m.h) ⟨by omega, by omega⟩ ⟨by have := HBB.out.h1; omega, by have := HBB.out.h2; omega⟩
      obtain ⟨row, hrow⟩ : ∃ z, z = bat bd (fy + k) m.h := ⟨_, rfl⟩
      rw [← hrow] at hj
      have HJ := Aside0.mk hj
      have HRW := Aside0.mk hrow
      have HKR := Aside0.mk (fun w' (hb : Below wr.heap.size wr w') => (show w'.cell? ⟨g, 2, none⟩ = some (.int .i64 bd) ∧ w'.cell? ⟨gy, 0, none⟩ = some (.int .i64 fy) from ⟨(HKK.out w' (below_step HB.out hb)).1, (HKK.out w' (below_step HB.out hb)).2.1⟩))
      have S1 := Below.refl wr.heap.size wr
      clear hj hrow x0
      go_region_held3 (fun w' => w'.cell? ⟨g, 2, none⟩ = some (.int .i64 bd) ∧ w'.cell? ⟨gy, 0, none⟩ = some (.int .i64 fy))
        ((refine HKR.out _ ?_; repeat (first | (with_reducible exact S1) | (with_reducible assumption) | (with_reducible apply below_drew1))))
        (first
        | (go_at_call 8; (with_reducible refine (HHT.out _ ?hh).mono ?_); (case hh => (refine below_step HB.out ?_; repeat (first | (with_reducible exact S1) | (with_reducible assumption) | (with_reducible apply below_drew1)))); rintro e w5 ⟨rfl, rfl⟩)
        | (go_at_call 33; (with_reducible refine (border_At.calls 2 bd (fy + k) m.h row _ HJ.out).mono ?_); rintro e w6 ⟨rfl, hb6⟩; have hb7 : Below wr.heap.size wr w6 := below_step (by repeat (first | (with_reducible exact S1) | (with_reducible apply below_drew1))) hb6))
      (try simp only [Exit.inBlock, Exit.then])
      have HB6 := Aside0.mk (below_step HB.out hb7)
      clear k1 k2 hb6 hb7 S1 HKR HJ ws
      obtain ⟨-, -, -, -, k5⟩ := HKK.out _ HB6.out
      go_wp2
      clear k5
      go_loopg [13, 62] nX (fun kx s13 s62 wz => ∃ (i : Nat) (T : Int), s62 = .int .i64 i ∧ s13 = .int .i64 T ∧ i ≤ nX ∧ nX - i ≤ kx ∧ Aside0 (T = accI m bd fx row b0 c tX S i) ∧ Aside0 (Below w6.heap.size w6 wz))
      case atStart => exact ⟨0, S, rfl, rfl, by omega, by omega, ⟨rfl⟩, ⟨Below.refl _ _⟩⟩
      case round =>
        obtain ⟨i, T, rfl, rfl, i1, i2, HT, HZ⟩ := hrel
        have wj : IntKind.i64.wrap ((i : Int) + 1) = (i : Int) + 1 := by rw [i64w]; exact w64_id (by omega) (by omega)
        have HZ2 := Aside0.mk (below_step HB6.out HZ.out)
        by_cases hli : (i : Int) < (nX : Int)
        rotate_left
        · have hi : i = nX := by omega
          subst hi
          go_wp2
          go_roundg (nY - (k + 1))
          case measure => omega
          case rel =>
            refine ⟨k + 1, T, by simp, rfl, by omega, Nat.le_refl _, ⟨?_⟩, HZ2⟩
            rw [accO, ← HS.out, ← HB0.out, ← HRW.out, HT.out, HNN.out.1]
        have p2 : (0 ≤ (i : Int)) := by omega
        have q2 : i < nX := by omega
        have qi : decide (i < nX) = true := decide_eq_true q2
        obtain ⟨ax, e0, x0⟩ := Kd.at_int (Kd.C_below HCX.out.2 HZ2.out) (i : Int) p2 hli
        subst e0
        rw [Int.toNat_natCast] at x0
        obtain ⟨a0, ha0⟩ : ∃ z, z = rd tX (i : Int) := ⟨_, rfl⟩
        rw [← ha0] at x0
        have HA0 := Aside0.mk ha0
        clear ha0
        obtain ⟨k1, -, k3, -, -⟩ := HKK.out _ HZ2.out
        go_upto_region 12 with fail
        have ws : IntKind.i64.wrap (fx + (i : Int)) = fx + i := by rw [i64w]; exact w64_id (by omega) (by omega)
        have hj := border_At_eq (k := 2) (Nat.le_refl _) (p := bd) (j := fx + i) (n := m.w) ⟨by omega, by omega⟩ ⟨by have := HBB.out.w1; omega, by have := HBB.out.w2; omega⟩
        obtain ⟨col, hcol⟩ : ∃ z, z = bat bd (fx + i) m.w := ⟨_, rfl⟩
        rw [← hcol] at hj
        have HJ := Aside0.mk hj
        have HCL := Aside0.mk hcol
        have HKR := Aside0.mk (fun w' (hb : Below wr.heap.size wr w') => (show w'.cell? ⟨g, 2, none⟩ = some (.int .i64 bd) ∧ w'.cell? ⟨gx, 0, none⟩ = some (.int .i64 fx) from ⟨(HKK.out w' (below_step HZ2.out hb)).1, (HKK.out w' (below_step HZ2.out hb)).2.2.1⟩))
        have S1 := Below.refl wr.heap.size wr
        clear hj hcol x0
        go_region_held3 (fun w' => w'.cell? ⟨g, 2, none⟩ = some (.int .i64 bd) ∧ w'.cell? ⟨gx, 0, none⟩ = some (.int .i64 fx))
          ((refine HKR.out _ ?_; repeat (first | (with_reducible exact S1) | (with_reducible assumption) | (with_reducible apply below_drew1))))
          (first
          | (go_at_call 7; (with_reducible refine (HWT.out _ ?hh).mono ?_); (case hh => (refine below_step HZ2.out ?_; repeat (first | (with_reducible exact S1) | (with_reducible assumption) | (with_reducible apply below_drew1)))); rintro e w5 ⟨rfl, rfl⟩)
          | (go_at_call 33; (with_reducible refine (border_At.calls 2 bd (fx + i) m.w col _ HJ.out).mono ?_); rintro e w8 ⟨rfl, hb6⟩; have hb7 : Below wr.heap.size wr w8 := below_step (by repeat (first | (with_reducible exact S1) | (with_reducible apply below_drew1))) hb6))
        (try simp only [Exit.inBlock, Exit.then])
        have HB8 := Aside0.mk (below_step HZ.out hb7)
        clear k1 k3 hb6 hb7 S1 HKR HJ ws
        have HAT2 := Aside0.mk (HAT.out col row _ (below_step HB6.out HB8.out))
        obtain ⟨av, hav⟩ : ∃ z, z = atV m col row c := ⟨_, rfl⟩
        rw [← hav] at HAT2
        have HAV := Aside0.mk hav
        clear hav
        go_wp2_with (go_at_call 20; (with_reducible refine HAT2.out.mono ?_); rintro e w9 ⟨rfl, ⟨nd, rfl⟩⟩)
        go_roundg (nX - (i + 1))
        case measure => omega
        case rel =>
          refine ⟨i + 1, _, by simp, rfl, by omega, Nat.le_refl _, ⟨?_⟩, ⟨by repeat (first | (with_reducible exact HB8.out) | (with_reducible apply pw_below_drewN) | (with_reducible apply below_drew1))⟩⟩
          rw [accI, ← HT.out, ← HA0.out, ← HCL.out, ← HAV.out]
end Go.Proofs.YtbcoieboldgdaaaGreatDoor.QA

namespace Go.Proofs.YtbcoieboldgdaaaGreatDoor.QA
open Go.RowKit Go.Proofs.YtbcoieboldgdaaaGreatDoorW.PrintWords Go.Proofs.YtbcoieboldgdaaaGreatDoorW.PrintLast Go.Proofs.YtbcoieboldgdaaaGreatDoorW.PrintMore Go.Proofs.YtbcoieboldgdaaaGreatDoor.T
set_option linter.unusedVariables false
set_option linter.unusedSimpArgs false
/-- What comes out of a sum. -/
def roundV (s most : Int) : Int := mx 0 (mn (sh s 28) (mx 0 (mn most 65535)))
theorem roundV_bnd (s most : Int) : 0 ≤ roundV s most ∧ roundV s most ≤ mx 0 (mn most 65535) := by unfold roundV mx mn; omega
theorem direct_Round_eq {s most : Int} (hs : I64 s) : direct_Round.f s most = some (roundV s most) := by
  unfold direct_Round.f
  rw [fixed_Shift_eq hs (by constructor <;> omega), Option.bind_some, fixed_Clamp_eq, Option.bind_some]
  have h := roundV_bnd s most
  have e : ∀ z : Int, 0 ≤ z → z ≤ 65535 → IntKind.u16.wrap z = z := by
    intro z h0 h1
    unfold IntKind.wrap IntKind.bits IntKind.signed
    simp
    omega
  show some (IntKind.u16.wrap (roundV s most)) = _
  rw [e _ h.1 (by unfold mx mn at h; omega)]
theorem accI_i (m : Img) (bd fx row b c : Int) (ts : List Int) (a0 : Int) (h : I64 a0) : ∀ i, I64 (accI m bd fx row b c ts a0 i)
  | 0 => h
  | i + 1 => by show I64 (wrap64 _); unfold wrap64; constructor <;> omega
theorem accO_i (m : Img) (bd fx fy c : Int) (tX tY : List Int) : ∀ k, I64 (accO m bd fx fy c tX tY k)
  | 0 => by show I64 0; constructor <;> omega
  | k + 1 => accI_i _ _ _ _ _ _ _ _ (accO_i m bd fx fy c tX tY k) _
theorem sumV_i (m : Img) (bd c : Int) (X Y : S65) : I64 (sumV m bd c X Y) := accO_i _ _ _ _ _ _ _ _
/-- An output sample. -/
def outV (m : Img) (bd : Int) (tx ty : Tab) (x y c : Nat) : Int := roundV (sumV m bd c (rd_T65 tx.lines x) (rd_T65 ty.lines y)) m.most
/-- All of them, row by row. -/
def outI (m : Img) (bd : Int) (tx ty : Tab) (C : Nat) (j : Nat) : Int := outV m bd tx ty (j / C % tx.lines.length) (j / C / tx.lines.length) (j % C)
def outL (m : Img) (bd : Int) (tx ty : Tab) (C : Nat) : List Int := (List.range (tx.lines.length * ty.lines.length * C)).map (outI m bd tx ty C)
/-- A stage's lines are such as may be. -/
structure LinesB (t : Tab) : Prop where
  n1 : 1 ≤ t.lines.length
  n2 : t.lines.length ≤ 65536
  all : ∀ j : Nat, j < t.lines.length → (rd_T65 t.lines j).f1.length ≤ 2097152 ∧ -1099511627776 ≤ (rd_T65 t.lines j).f0 ∧ (rd_T65 t.lines j).f0 ≤ 1099511627776
/-- An output image under way: the first p samples are there. -/
structure AppQ (m : Img) (bd : Int) (tx ty : Tab) (C : Nat) (w wr : World) (g p : Nat) (l : List Int) : Prop where
  len : l.length = tx.lines.length * ty.lines.length * C
  vals : ∀ j : Nat, j < p → rd l (j : Int) = outI m bd tx ty C j
  img : ImgO wr w.heap.size g ⟨tx.lines.length, ty.lines.length, m.c, m.most, l⟩
  bel : Below w.heap.size w wr
theorem outI_at (m : Img) (bd : Int) (tx ty : Tab) (C x y c : Nat) (hx : x < tx.lines.length) (hc : c < C) : outI m bd tx ty C ((y * tx.lines.length + x) * C + c) = outV m bd tx ty x y c := by
  unfold outI
  have hC : 0 < C := by omega
  have e1 : ((y * tx.lines.length + x) * C + c) / C = y * tx.lines.length + x := by rw [Nat.mul_comm, Nat.mul_add_div hC, Nat.div_eq_of_lt hc, Nat.add_zero]
  have e2 : ((y * tx.lines.length + x) * C + c) % C = c := by rw [Nat.mul_comm, Nat.mul_add_mod, Nat.mod_eq_of_lt hc]
  have e3 : (y * tx.lines.length + x) % tx.lines.length = x := by rw [Nat.mul_comm, Nat.mul_add_mod, Nat.mod_eq_of_lt hx]
  have e4 : (y * tx.lines.length + x) / tx.lines.length = y := by rw [Nat.mul_comm, Nat.mul_add_div (by omega), Nat.div_eq_of_lt hx, Nat.add_zero]
  rw [e1, e2, e3, e4]
theorem rd_setA (o : List Int) (b : Nat) (v : Int) (hb : b < o.length) (j : Nat) : rd (o.set b v) (j : Int) = if j = b then v else rd o (j : Int) := by
  unfold rd
  rw [Int.toNat_natCast, List.getD_eq_getElem?_getD, List.getD_eq_getElem?_getD, List.getElem?_set]
  by_cases h : j = b
  · subst h; simp [hb]
  · rw [if_neg (fun e => h e.symm), if_neg h]
theorem rd_ext {l r : List Int} (h1 : l.length = r.length) (h2 : ∀ j : Nat, j < l.length → rd l (j : Int) = rd r (j : Int)) : l = r := by
  apply List.ext_getElem h1
  intro i hi hj
  have := h2 i hi
  unfold rd at this
  rw [Int.toNat_natCast, List.getD_eq_getElem?_getD, List.getD_eq_getElem?_getD, List.getElem?_eq_getElem hi, List.getElem?_eq_getElem hj] at this
  simpa using this
theorem AppQ.step {m : Img} {bd : Int} {tx ty : Tab} {C x y c g : Nat} {w wr w7 : World} {l : List Int} (Q : AppQ m bd tx ty C w wr g ((y * tx.lines.length + x) * C + c) l) (hC : m.c = C) (hx : x < tx.lines.length) (hy : y < ty.lines.length) (hc : c < C)
    (hi : ImgO w7 w.heap.size g (Img.put ⟨tx.lines.length, ty.lines.length, m.c, m.most, l⟩ (plV ⟨tx.lines.length, ty.lines.length, m.c, m.most, l⟩ x y c) (outV m bd tx ty x y c))) (hb : Below w.heap.size w w7) :
    AppQ m bd tx ty C w w7 g ((y * tx.lines.length + x) * C + (c + 1)) (l.set ((y * tx.lines.length + x) * C + c) (outV m bd tx ty x y c)) := by
  have hp : (plV ⟨tx.lines.length, ty.lines.length, m.c, m.most, l⟩ x y c).toNat = (y * tx.lines.length + x) * C + c := by
    show (((y : Int) * tx.lines.length + x) * m.c + c).toNat = _
    rw [hC]
    exact Int.toNat_natCast ((y * tx.lines.length + x) * C + c)
  have hl : (y * tx.lines.length + x) * C + c < l.length := by
    rw [Q.len]
    have h1 : y * tx.lines.length + x < tx.lines.length * ty.lines.length := by
      calc y * tx.lines.length + x < y * tx.lines.length + tx.lines.length := by omega
        _ = (y + 1) * tx.lines.length := by rw [Nat.succ_mul]
        _ ≤ ty.lines.length * tx.lines.length := Nat.mul_le_mul_right _ hy
        _ = _ := Nat.mul_comm _ _
    calc (y * tx.lines.length + x) * C + c < (y * tx.lines.length + x) * C + C := by omega
      _ = (y * tx.lines.length + x + 1) * C := by rw [Nat.succ_mul]
      _ ≤ _ := Nat.mul_le_mul_right _ h1
  refine ⟨by rw [List.length_set]; exact Q.len, fun j hj => ?_, ?_, hb⟩
  · rw [rd_setA _ _ _ hl]
    by_cases e : j = (y * tx.lines.length + x) * C + c
    · rw [if_pos e, e, outI_at _ _ _ _ _ _ _ _ hx hc]
    · rw [if_neg e]; exact Q.vals j (by omega)
  · unfold Img.put at hi
    rw [hp] at hi
    exact hi
theorem AppQ.cast {m : Img} {bd : Int} {tx ty : Tab} {C g p q : Nat} {w wr : World} {l : List Int} (Q : AppQ m bd tx ty C w wr g p l) (h : p = q) : AppQ m bd tx ty C w wr g q l := h ▸ Q
theorem AppQ.below {m : Img} {bd : Int} {tx ty : Tab} {C g p : Nat} {w wr w7 : World} {l : List Int} (Q : AppQ m bd tx ty C w wr g p l) (h : Below wr.heap.size wr w7) : AppQ m bd tx ty C w w7 g p l := ⟨Q.len, Q.vals, Q.img.below h, below_step Q.bel h⟩
theorem AppQ.done {m : Img} {bd : Int} {tx ty : Tab} {C g : Nat} {w wr : World} {l : List Int} (Q : AppQ m bd tx ty C w wr g (tx.lines.length * ty.lines.length * C) l) : l = outL m bd tx ty C := by
  refine rd_ext (by rw [Q.len]; simp [outL]) (fun j hj => ?_)
  rw [Q.vals j (by rw [← Q.len]; exact hj)]
  have : j < tx.lines.length * ty.lines.length * C := by rw [← Q.len]; exact hj
  unfold outL rd
  rw [Int.toNat_natCast, List.getD_eq_getElem?_getD, List.getElem?_map, List.getElem?_range this]; rfl
set_option maxHeartbeats 8000000 in
set_option maxRecDepth 100000 in
theorem apply_ok (b bx bz : Nat) (m : Img) (tx ty : Tab) (bd : Int) (C : Nat) (w : World) (hG : GL w) (hI : ImgC w b m) (hx : TabC w bx tx) (hy : TabC w bz ty) (e1 : tx.n = m.w) (e2 : ty.n = m.h) (hb : 0 ≤ bd ∧ bd < 3) (B : ImgB m) (hC : m.c = C) (Lx : LinesB tx) (Ly : LinesB ty) (hn : (tx.lines.length : Int) * ty.lines.length * C ≤ 268435456) :
    Calls Tryz.prog 10 #[.pointer (some ⟨b, 0, none⟩), stV bx bz bd] w fun e w' => ∃ g, e = .returned (.tuple #[.pointer (some ⟨g, 0, none⟩), .int .i64 0]) ∧ ImgO w' w.heap.size g ⟨tx.lines.length, ty.lines.length, m.c, m.most, outL m bd tx ty C⟩ ∧ Below w.heap.size w w' := by
  have SU := Aside0.mk (fun w' (h : Below w.heap.size w w') => suits_yes b bx bz m tx ty bd w' (hG.below h) (hI.below h) (hx.below h) (hy.below h) e1 e2 hb)
  have CH := Aside0.mk (fun w' (h : Below w.heap.size w w') => imgChannels_calls b m w' (hI.below h))
  have MO := Aside0.mk (fun w' (h : Below w.heap.size w w') => imgMost_calls b m w' (hI.below h))
  have TX := Aside0.mk (fun w' (h : Below w.heap.size w w') => to_calls bx tx w' (hx.below h))
  have TY := Aside0.mk (fun w' (h : Below w.heap.size w w') => to_calls bz ty w' (hy.below h))
  have SM := Aside0.mk (fun (x y c : Nat) (h1 : x < tx.lines.length) (h2 : y < ty.lines.length) (h3 : c < C) w' (h : Below w.heap.size w w') => sum_lines b bx bz m tx ty bd x y c w' (hG.below h) (hI.below h) (hx.below h) (hy.below h) e1 e2 hb ⟨by omega, by omega⟩ ⟨by omega, by omega⟩ ⟨by omega, by omega⟩ (Lx.all x h1).1 (Ly.all y h2).1 B (Lx.all x h1).2 (Ly.all y h2).2)
  have NW := Aside0.mk (fun w' => imgNew_ok tx.lines.length ty.lines.length m.c m.most w' ⟨by have := Lx.n1; omega, by have := Lx.n2; omega⟩ ⟨by have := Ly.n1; omega, by have := Ly.n2; omega⟩ B.c1 ⟨B.m1, B.m2⟩ (by rw [hC]; exact hn))
  have BN : ∀ l : List Int, l.length = tx.lines.length * ty.lines.length * C → ImgB ⟨tx.lines.length, ty.lines.length, m.c, m.most, l⟩ := fun l hl => ⟨by show (1 : Int) ≤ tx.lines.length; have := Lx.n1; omega, by show (tx.lines.length : Int) ≤ 65536; have := Lx.n2; omega, by show (1 : Int) ≤ ty.lines.length; have := Ly.n1; omega, by show (ty.lines.length : Int) ≤ 65536; have := Ly.n2; omega, B.c1, B.m1, B.m2, by show (l.length : Int) = tx.lines.length * ty.lines.length * m.c; rw [hl, hC]; simp, by show (tx.lines.length : Int) * ty.lines.length * m.c ≤ 268435456; rw [hC]; exact hn⟩
  have HBN := Aside0.mk BN
  have HC3 : 1 ≤ C ∧ C ≤ 3 := by have := B.c1; omega
  have HMB := Aside0.mk (And.intro B.m1 B.m2)
  have HCC := Aside0.mk hC
  have hx1 := Lx.n1
  have hx2 := Lx.n2
  have hy1 := Ly.n1
  have hy2 := Ly.n2
  obtain ⟨X, hX⟩ : ∃ X, X = tx.lines.length := ⟨_, rfl⟩
  obtain ⟨Y, hY⟩ : ∃ Y, Y = ty.lines.length := ⟨_, rfl⟩
  have HXY := Aside0.mk (And.intro hX hY)
  rw [← hX] at TX hx1 hx2
  rw [← hY] at TY hy1 hy2
  rw [← hX, ← hY] at NW
  have hr := heap_alloc_new w (.cells #[.pointer (some ⟨bx, 0, none⟩), .pointer (some ⟨bz, 0, none⟩), .int .i64 bd] 33)
  have BX := Aside0.mk (below_alloc (Below.refl w.heap.size w) (.cells #[.pointer (some ⟨bx, 0, none⟩), .pointer (some ⟨bz, 0, none⟩), .int .i64 bd] 33))
  have HR := Aside0.mk hr
  have mixed : Tryz.prog.follows .mixedOrders = true := by kernel_rfl
  clear hG hI hx hy e1 e2 hb hr B hC Lx Ly hn BN hX hY
  unfold stV at SU SM ⊢
  go_enter Tryz.func10, Tryz.ntmps10
  go_upto_region 1 with fail
  obtain ⟨g, hg⟩ : ∃ g, g = w.heap.size := ⟨_, rfl⟩
  rw [← hg]
  have hr := HR.out
  rw [← hg] at hr
  have HGG := Aside0.mk hg
  clear hg HR
  generalize w.alloc (.cells #[.pointer (some ⟨bx, 0, none⟩), .pointer (some ⟨bz, 0, none⟩), .int .i64 bd] 33) = w1 at hr BX ⊢
  have z0 : w1.cell? ⟨g, 0, none⟩ = some (.pointer (some ⟨bx, 0, none⟩)) := (blk_cell hr 0).trans rfl
  have z1 : w1.cell? ⟨g, 1, none⟩ = some (.pointer (some ⟨bz, 0, none⟩)) := (blk_cell hr 1).trans rfl
  have z2 : w1.cell? ⟨g, 2, none⟩ = some (.int .i64 bd) := (blk_cell hr 2).trans rfl
  have HRR := Aside0.mk hr
  clear hr
  go_upto_region 3 with (go_at_call 9; refine (SU.out _ BX.out).mono ?_; rintro e w2 ⟨rfl, hb2⟩; have B2 := Aside0.mk (below_step BX.out hb2); have H2 := Aside0.mk ((hb2.block g (blk_lt HRR.out)).trans HRR.out); clear hb2)
  clear z0 z1 z2 SU BX HRR
  have HK := Aside0.mk (fun w' (hb : Below w2.heap.size w2 w') => (show w'.cell? ⟨g, 0, none⟩ = some (.pointer (some ⟨bx, 0, none⟩)) ∧ w'.cell? ⟨g, 1, none⟩ = some (.pointer (some ⟨bz, 0, none⟩)) from ⟨(blk_cell ((hb.block g (blk_lt H2.out)).trans H2.out) 0).trans rfl, (blk_cell ((hb.block g (blk_lt H2.out)).trans H2.out) 1).trans rfl⟩))
  obtain ⟨z0, z1⟩ := HK.out _ (Below.refl _ _)
  have S0 := Below.refl w2.heap.size w2
  go_region_held3 (fun w' => w'.cell? ⟨g, 0, none⟩ = some (.pointer (some ⟨bx, 0, none⟩)) ∧ w'.cell? ⟨g, 1, none⟩ = some (.pointer (some ⟨bz, 0, none⟩)))
    ((refine HK.out _ ?_; repeat (first | (with_reducible exact S0) | (with_reducible assumption) | (with_reducible apply below_drew1))))
    (first
    | (go_at_call 26; (with_reducible refine (TX.out _ ?hh).mono ?_); (case hh => (refine below_step B2.out ?_; repeat (first | (with_reducible exact S0) | (with_reducible assumption) | (with_reducible apply below_drew1)))); rintro e w3 ⟨rfl, rfl⟩)
    | (go_at_call 26; (with_reducible refine (TY.out _ ?hh).mono ?_); (case hh => (refine below_step B2.out ?_; repeat (first | (with_reducible exact S0) | (with_reducible assumption) | (with_reducible apply below_drew1)))); rintro e w3 ⟨rfl, rfl⟩)
    | (go_at_call 15; (with_reducible refine (CH.out _ ?hh).mono ?_); (case hh => (refine below_step B2.out ?_; repeat (first | (with_reducible exact S0) | (with_reducible assumption) | (with_reducible apply below_drew1)))); rintro e w3 ⟨rfl, rfl⟩)
    | (go_at_call 27; (with_reducible refine (MO.out _ ?hh).mono ?_); (case hh => (refine below_step B2.out ?_; repeat (first | (with_reducible exact S0) | (with_reducible assumption) | (with_reducible apply below_drew1)))); rintro e w3 ⟨rfl, rfl⟩)
    | (go_at_call 25; (with_reducible refine (NW.out _).mono ?_); rintro e w4 ⟨hb4, gi, rfl, hi⟩; have hb5 : Below w2.heap.size w2 w4 := below_step (by repeat (first | (with_reducible exact S0) | (with_reducible apply below_drew1))) hb4; have HI := Aside0.mk hi; clear hi))
  (try simp only [Exit.inBlock, Exit.then])
  have Q0 : AppQ m bd tx ty C w2 w4 gi ((0 * tx.lines.length + 0) * C + 0) (List.replicate ((X : Int) * Y * m.c).toNat 0) := by
    refine ⟨?_, fun j hj => absurd hj (by simp), ?_, hb5⟩
    · rw [List.length_replicate, HCC.out, ← HXY.out.1, ← HXY.out.2]; exact Int.toNat_natCast (X * Y * C)
    · rw [← HXY.out.1, ← HXY.out.2]; exact ImgO.lower HI.out (by simp)
  have HQ0 := Aside0.mk Q0
  have HGI := Aside0.mk (fun (p : Nat) (l : List Int) (wr : World) (Q : AppQ m bd tx ty C w2 wr gi p l) => (show (Calls Tryz.prog 8 #[.pointer (some ⟨gi, 0, none⟩)] wr fun e w' => e = .returned (.int .i64 Y) ∧ w' = wr) ∧ (Calls Tryz.prog 7 #[.pointer (some ⟨gi, 0, none⟩)] wr fun e w' => e = .returned (.int .i64 X) ∧ w' = wr) ∧ (Calls Tryz.prog 15 #[.pointer (some ⟨gi, 0, none⟩)] wr fun e w' => e = .returned (.int .i64 C) ∧ w' = wr) from by
    have h1 := imgHeight_calls gi _ wr Q.img.reads
    have h2 := imgWidth_calls gi _ wr Q.img.reads
    have h3 := imgChannels_calls gi _ wr Q.img.reads
    simp only [HCC.out, ← HXY.out.1, ← HXY.out.2] at h1 h2 h3
    exact ⟨h1, h2, h3⟩))
  clear z0 z1 S0 hb4 hb5 HK Q0 HI NW CH TX TY
  go_upto_region 6 with fail
  have HG0 := Aside0.mk (HGI.out _ _ _ HQ0.out)
  go_wp2_with (go_at_call 8; (with_reducible refine HG0.out.1.mono ?_); rintro e w5 ⟨rfl, rfl⟩)
  clear HG0
  go_loopg [34] Y (fun kx s34 wr => ∃ (y : Nat) (l : List Int), s34 = .int .i64 y ∧ y ≤ Y ∧ Y - y ≤ kx ∧ Aside0 (AppQ m bd tx ty C w2 wr gi ((y * tx.lines.length + 0) * C + 0) l))
  case atStart => exact ⟨0, _, rfl, by omega, by omega, HQ0⟩
  case round =>
    obtain ⟨y, l, rfl, j1, j2, HQ⟩ := hrel
    have wi : IntKind.i64.wrap ((y : Int) + 1) = (y : Int) + 1 := by rw [i64w]; exact w64_id (by omega) (by omega)
    by_cases hlt : (y : Int) < (Y : Int)
    rotate_left
    · have hy : y = Y := by omega
      subst hy
      go_wp2
      go_ret2
      have Q := HQ.out.cast (q := tx.lines.length * ty.lines.length * C) (by rw [Nat.add_zero, Nat.add_zero, HXY.out.2, Nat.mul_comm ty.lines.length])
      refine ⟨gi, rfl, ?_, below_step B2.out Q.bel⟩
      have hi := Q.img
      rw [Q.done] at hi
      exact ImgO.lower hi B2.out.size
    have HG1 := Aside0.mk (HGI.out _ _ _ HQ.out)
    go_wp2_with (go_at_call 7; (with_reducible refine HG1.out.2.1.mono ?_); rintro e w6 ⟨rfl, rfl⟩)
    clear HG1
    go_loopg [39] X (fun kx s39 wx => ∃ (x : Nat) (l : List Int), s39 = .int .i64 x ∧ x ≤ X ∧ X - x ≤ kx ∧ Aside0 (AppQ m bd tx ty C w2 wx gi ((y * tx.lines.length + x) * C + 0) l))
    case atStart => exact ⟨0, l, rfl, by omega, by omega, HQ⟩
    case round =>
      obtain ⟨x, l1, rfl, j3, j4, HQ1⟩ := hrel
      have wj : IntKind.i64.wrap ((x : Int) + 1) = (x : Int) + 1 := by rw [i64w]; exact w64_id (by omega) (by omega)
      by_cases hlx : (x : Int) < (X : Int)
      rotate_left
      · have hx : x = X := by omega
        subst hx
        go_wp2
        go_roundg (Y - (y + 1))
        case measure => omega
        case rel => exact ⟨y + 1, l1, by simp, by omega, Nat.le_refl _, ⟨HQ1.out.cast (by rw [← HXY.out.1, Nat.succ_mul]; simp)⟩⟩
      have HG1 := Aside0.mk (HGI.out _ _ _ HQ1.out)
      go_wp2_with (go_at_call 15; (with_reducible refine HG1.out.2.2.mono ?_); rintro e w7 ⟨rfl, rfl⟩)
      clear HG1
      go_loopg [44] C (fun kx s44 wc => ∃ (c : Nat) (l : List Int), s44 = .int .i64 c ∧ c ≤ C ∧ C - c ≤ kx ∧ Aside0 (AppQ m bd tx ty C w2 wc gi ((y * tx.lines.length + x) * C + c) l))
      case atStart => exact ⟨0, l1, rfl, by omega, by omega, HQ1⟩
      case round =>
        obtain ⟨c, l2, rfl, j5, j6, HQ2⟩ := hrel
        have wk : IntKind.i64.wrap ((c : Int) + 1) = (c : Int) + 1 := by rw [i64w]; exact w64_id (by omega) (by omega)
        by_cases hlc : (c : Int) < (C : Int)
        rotate_left
        · have hc : c = C := by omega
          subst hc
          go_wp2
          go_roundg (X - (x + 1))
          case measure => omega
          case rel => exact ⟨x + 1, l2, by simp, by omega, Nat.le_refl _, ⟨HQ2.out.cast (by rw [Nat.add_zero, ← Nat.add_assoc, Nat.succ_mul])⟩⟩
        have hr2 := (HQ2.out.bel.block g (blk_lt H2.out)).trans H2.out
        have z0 : wr.cell? ⟨g, 0, none⟩ = some (.pointer (some ⟨bx, 0, none⟩)) := (blk_cell hr2 0).trans rfl
        have z1 : wr.cell? ⟨g, 1, none⟩ = some (.pointer (some ⟨bz, 0, none⟩)) := (blk_cell hr2 1).trans rfl
        have z2 : wr.cell? ⟨g, 2, none⟩ = some (.int .i64 bd) := (blk_cell hr2 2).trans rfl
        have hxl : x < tx.lines.length := by rw [← HXY.out.1]; omega
        have hyl : y < ty.lines.length := by rw [← HXY.out.2]; omega
        have hcl : c < C := by omega
        have sm := SM.out x y c hxl hyl hcl wr (below_step B2.out HQ2.out.bel)
        obtain ⟨sv, hsv⟩ : ∃ z, z = sumV m bd c (rd_T65 tx.lines x) (rd_T65 ty.lines y) := ⟨_, rfl⟩
        have hsi : I64 sv := by rw [hsv]; exact sumV_i _ _ _ _ _
        rw [← hsv] at sm
        obtain ⟨mo, hmo⟩ : ∃ z, z = m.most := ⟨_, rfl⟩
        have hrd := direct_Round_eq (s := sv) (most := mo) hsi
        obtain ⟨v, hv⟩ : ∃ z, z = roundV sv mo := ⟨_, rfl⟩
        rw [← hv] at hrd
        have HV := Aside0.mk (show v = outV m bd tx ty x y c by rw [hv, hsv, hmo]; rfl)
        have HVB := Aside0.mk (show 0 ≤ v ∧ v ≤ m.most by have h := roundV_bnd sv mo; have h2 := HMB.out; rw [← hv, hmo] at h; unfold mx mn at h; omega)
        have SM1 := Aside0.mk sm
        have RD1 := Aside0.mk hrd
        have MO1 := Aside0.mk (fun w' (h : Below wr.heap.size wr w') => (show Calls Tryz.prog 27 #[.pointer (some ⟨b, 0, none⟩)] w' fun e w'' => e = .returned (.int .i64 mo) ∧ w'' = w' from by have h1 := MO.out w' (below_step (below_step B2.out HQ2.out.bel) h); rw [← hmo] at h1; exact h1))
        have HXL := Aside0.mk (And.intro hxl (And.intro hyl hcl))
        clear sm hrd hsv hmo hv hr2 hsi hxl hyl
        go_wp2_with (first
          | (go_at_call 13; (with_reducible refine SM1.out.mono ?_); rintro e w8 ⟨rfl, hb8⟩; have HB8 := Aside0.mk hb8; clear hb8)
          | (go_at_call 27; (with_reducible refine (MO1.out _ HB8.out).mono ?_); rintro e w9 ⟨rfl, rfl⟩)
          | (go_at_call 29; (with_reducible refine (direct_Round.calls sv mo v _ RD1.out).mono ?_); rintro e w9 ⟨rfl, hb9⟩; have HB9 := Aside0.mk (below_step HB8.out hb9); clear hb9)
          | (go_at_call 28; (with_reducible refine (imgSet_ok gi ⟨tx.lines.length, ty.lines.length, m.c, m.most, l2⟩ x y c v w2 _ ?h1 ?h2 ?h3 ?h4 ?h5).mono ?_); (case h1 => exact (HQ2.out.below HB9.out).bel); (case h2 => exact (HQ2.out.below HB9.out).img); (case h3 => exact HBN.out l2 HQ2.out.len); (case h4 => exact ⟨by omega, by have := HXL.out; show (x : Int) < tx.lines.length; omega, by omega, by have := HXL.out; show (y : Int) < ty.lines.length; omega, by omega, by have := HXL.out; show (c : Int) < m.c; rw [HCC.out]; omega⟩); (case h5 => exact HVB.out); rintro e w10 ⟨rfl, hi, hb10⟩; have HI10 := Aside0.mk hi; have HB10 := Aside0.mk hb10; clear hi hb10))
        go_roundg (C - (c + 1))
        case measure => omega
        case rel =>
          have hi := HI10.out
          rw [HV.out] at hi
          exact ⟨c + 1, _, by simp, by omega, Nat.le_refl _, ⟨HQ2.out.step HCC.out HXL.out.1 HXL.out.2.1 HXL.out.2.2 hi HB10.out⟩⟩
end Go.Proofs.YtbcoieboldgdaaaGreatDoor.QA

namespace Go.Proofs.YtbcoieboldgdaaaGreatDoor.QA
open Go.RowKit Go.Proofs.YtbcoieboldgdaaaGreatDoorW.PrintWords Go.Proofs.YtbcoieboldgdaaaGreatDoorW.PrintLast Go.Proofs.YtbcoieboldgdaaaGreatDoorW.PrintMore Go.Proofs.YtbcoieboldgdaaaGreatDoor.T
set_option linter.unusedVariables false
set_option linter.unusedSimpArgs false
def img213 : Img := newI 2 1 3 255
theorem img213_B : ImgB img213 := ⟨by decide, by decide, by decide, by decide, .inr rfl, by decide, by decide, by decide, by decide⟩
set_option maxHeartbeats 8000000 in
set_option maxRecDepth 100000 in
theorem lives09_calls (w : World) : Calls Tryz.prog 18 #[] w fun e w' => e = .returned (.bool true) ∧ Below w.heap.size w w' := by
  have NW := Aside0.mk (imgNew_ok 2 1 3 255 w (by decide) (by decide) (.inr rfl) (by decide) (by decide))
  have mixed : Tryz.prog.follows .mixedOrders = true := by kernel_rfl
  go_enter Tryz.func18, Tryz.ntmps18
  go_upto_region 2 with (go_at_call 25; refine NW.out.mono ?_; rintro e w1 ⟨hb1, g, rfl, hi⟩; have B1 := Aside0.mk hb1; have HI := Aside0.mk (show ImgO w1 w.heap.size g img213 from hi); clear hb1 hi)
  go_wp2_with (first
    | (go_at_call 38; (with_reducible refine (imgSamples_calls g img213 _ HI.out.reads (by decide)).mono ?_); rintro e w2 ⟨v, rfl, hr2, hb2⟩; obtain ⟨A2, c2, rfl⟩ := Kd.R_slice hr2; have B2 := Aside0.mk (below_step B1.out hb2); have I2 := Aside0.mk (HI.out.below hb2); clear hr2 hb2)
    | (go_at_call 28; (with_reducible refine (imgSet_no g img213 1 0 2 256 _ I2.out.reads img213_B (by decide) (by decide)).mono ?_); rintro e w3 ⟨rfl, ⟨nd, rfl⟩⟩)
    | (go_at_call 28; (with_reducible refine (imgSet_ok g img213 1 0 2 255 w _ ?h1 ?h2 img213_B (by decide) (by decide)).mono ?_); (case h1 => exact pw_below_drewN B2.out nd); (case h2 => exact I2.out.below (pw_below_drewN (Below.refl _ _) nd)); rintro e w4 ⟨rfl, hi4, hb4⟩; have B4 := Aside0.mk hb4; clear hi4 hb4))
  go_ret
  exact ⟨rfl, B4.out⟩
def blur2 : List Int := [214748365, 214748365, 214748365, 214748365, 214748365]
theorem blur2_w (K : Nat) (hK : 1400 ≤ K) : op_weights.f K 1 0 0 2 [] [] 0 0 0 = some (blur2, blur2, 0) := by
  unfold op_weights.f
  rw [if_neg (by decide), if_pos rfl, blur_eq hK (by decide)]
  have : blurV 2 = (blur2, 0) := by kernel_rfl
  rw [this]; rfl
def tabB2 : Tab := filTab 1 2 (appL blur2) 1
theorem blur2_make (w : World) (hG : GL w) : Calls Tryz.prog 17 #[opV 1 0 0 2 none 0 0 none 0 0 0 0 0, .int .i64 1, .int .i64 1] w (StageP tabB2 tabB2 0 w) := by
  refine make_ok 1 0 0 2 none 0 [] none 0 [] 0 0 0 1 1 _ _ w hG (C_none w) (by decide) (C_none w) (by decide) (op_may_yes 0 (by decide) (by decide) (by decide)) (by decide) (by decide) (fun w' hb2 => ?_)
  exact tables_kernel 1400 1 0 0 2 none 0 [] none 0 [] 0 0 0 1 1 blur2 blur2 w' (C_none w') (by decide) (C_none w') (by decide) (by decide) (blur2_w 1400 (Nat.le_refl _)) (by intro z hz; simp [blur2] at hz; subst hz; decide) (by intro z hz; simp [blur2] at hz; subst hz; decide) (by decide) (by decide) (by decide) (by decide) (by kernel_rfl) (by kernel_rfl)
def img1 : Img := ⟨1, 1, 1, 255, [7]⟩
theorem img1_B : ImgB img1 := ⟨by decide, by decide, by decide, by decide, .inl rfl, by decide, by decide, by decide, by decide⟩
theorem tabB2_L : LinesB tabB2 := ⟨by decide, by decide, by
  intro j hj
  have h1 : tabB2.lines.length = 1 := by kernel_rfl
  obtain rfl : j = 0 := by omega
  have h2 : (rd_T65 tabB2.lines ((0 : Nat) : Int)).f1.length = 5 := by kernel_rfl
  have h3 : (rd_T65 tabB2.lines ((0 : Nat) : Int)).f0 = -2 := by kernel_rfl
  rw [h2, h3]; decide⟩
theorem out_7 : outL img1 0 tabB2 tabB2 1 = [7] := by kernel_rfl
theorem tabB2_n : tabB2.lines.length = 1 ∧ tabB2.n = 1 := ⟨by kernel_rfl, by kernel_rfl⟩
theorem C_lit16 (W : World) (l : List Int) (hm : l.length ≤ 9223372036854775807) : Kd.C (Kd.int .u16) (W.alloc (.cells (l.map (Value.int .u16)).toArray 22 (0, 0))) (some ⟨W.heap.size, 0, none⟩) l.length l := by
  have h := own_lit W W.heap.size 22 .u16 l (Nat.le_refl _) hm
  exact (Kd.R_reads' (Kd.R_of_own (ok := fun _ => True) h (fun _ _ => trivial))).2.2
set_option maxHeartbeats 8000000 in
set_option maxRecDepth 100000 in
theorem lives15_calls (w : World) (hG : GL w) : Calls Tryz.prog 4 #[] w fun e w' => e = .returned (.bool true) ∧ Below w.heap.size w w' := by
  have LV := Aside0.mk (fun w' (hb : Below w.heap.size w w') => lives12_calls w' (hG.below hb))
  have MK := Aside0.mk (fun w' (hb : Below w.heap.size w w') => blur2_make w' (hG.below hb))
  have IO := Aside0.mk (imgOf_ok 1 1 1 255 (some ⟨w.heap.size, 0, none⟩) 1 [7] (w.alloc (.cells #[.int .u16 7] 22)) (by decide) (by decide) (.inl rfl) (by decide) (by decide) (C_lit16 w [7] (by decide)) (by decide) (by decide) (by decide) (by decide))
  have AP := Aside0.mk (fun b bx bz w' (hb : Below w.heap.size w w') h1 h2 h3 => apply_ok b bx bz img1 tabB2 tabB2 0 1 w' (hG.below hb) h1 h2 h3 tabB2_n.2 tabB2_n.2 (by decide) img1_B rfl tabB2_L tabB2_L (by rw [tabB2_n.1]; decide))
  have mixed : Tryz.prog.follows .mixedOrders = true := by kernel_rfl
  have BA := Aside0.mk (below_alloc (Below.refl w.heap.size w) (.cells #[.int .u16 7] 22))
  clear hG
  unfold opV at MK
  unfold stV at AP
  go_enter Tryz.func4, Tryz.ntmps4
  go_upto_region 2 with (go_at_call 16; refine IO.out.mono ?_; rintro e w1 ⟨hb1, g, rfl, hi⟩; have B1 := Aside0.mk (below_step BA.out hb1); have HI := Aside0.mk (show ImgC w1 g img1 from hi.reads); clear hb1 hi)
  go_upto_region 3 with (go_at_call 17; refine (MK.out _ B1.out).mono ?_; rintro e w2 ⟨hb2, bx, bz, rfl, hx, hz⟩; have B2 := Aside0.mk (below_step B1.out hb2); have I2 := Aside0.mk (HI.out.below hb2); have TX := Aside0.mk hx.reads; have TY := Aside0.mk hz.reads; clear hb2 hx hz)
  have hr := heap_alloc_new w2 (.cells #[.pointer (some ⟨bx, 0, none⟩), .pointer (some ⟨bz, 0, none⟩), .int .i64 0] 33)
  have ha := below_alloc (Below.refl w2.heap.size w2) (.cells #[.pointer (some ⟨bx, 0, none⟩), .pointer (some ⟨bz, 0, none⟩), .int .i64 0] 33)
  have TX2 := Aside0.mk (TX.out.below ha)
  have TY2 := Aside0.mk (TY.out.below ha)
  have I3 := Aside0.mk (I2.out.below ha)
  have B3 := Aside0.mk (below_step B2.out ha)
  obtain ⟨q, hq⟩ : ∃ q, q = w2.heap.size := ⟨_, rfl⟩
  rw [← hq] at hr ⊢
  clear ha hq TX TY
  generalize w2.alloc (.cells #[.pointer (some ⟨bx, 0, none⟩), .pointer (some ⟨bz, 0, none⟩), .int .i64 0] 33) = w3 at hr TX2 TY2 I3 B3 ⊢
  have HR := Aside0.mk hr
  clear hr
  go_upto_region 5 with (first
    | (go_at_call 18; refine (lives09_calls _).mono ?_; rintro e w4 ⟨rfl, hb4⟩; have B4 := Aside0.mk hb4; clear hb4)
    | (go_at_call 19; refine (LV.out _ (below_step B3.out B4.out)).mono ?_; rintro e w5 ⟨rfl, hb5⟩; have B5 := Aside0.mk (below_step B4.out hb5); clear hb5))
  have hr5 := (B5.out.block q (blk_lt HR.out)).trans HR.out
  have z0 : w5.cell? ⟨q, 0, none⟩ = some (.pointer (some ⟨bx, 0, none⟩)) := (blk_cell hr5 0).trans rfl
  have z1 : w5.cell? ⟨q, 1, none⟩ = some (.pointer (some ⟨bz, 0, none⟩)) := (blk_cell hr5 1).trans rfl
  have z2 : w5.cell? ⟨q, 2, none⟩ = some (.int .i64 0) := (blk_cell hr5 2).trans rfl
  have AP1 := Aside0.mk (AP.out g bx bz w5 (below_step B3.out B5.out) (I3.out.below B5.out) (TX2.out.below B5.out) (TY2.out.below B5.out))
  clear hr5
  have AT := Aside0.mk (fun r w' (h : ImgC w' r img1) => (show Calls Tryz.prog 20 #[.pointer (some ⟨r, 0, none⟩), .int .i64 0, .int .i64 0, .int .i64 0] w' fun e w'' => e = .returned (.int .u16 7) ∧ Drawn0 w' w'' from by have h1 := imgAt_calls r img1 0 0 0 w' h img1_B; rw [show atV img1 0 0 0 = 7 by decide] at h1; exact h1))
  go_wp2_with (first
    | (go_at_call 10; refine AP1.out.mono ?_; rintro e w6 ⟨r, rfl, hi6, hb6⟩; have B6 := Aside0.mk (below_step (below_step B3.out B5.out) hb6); have I6 := Aside0.mk (show ImgC w6 r img1 from by have h := hi6.reads; rw [out_7, tabB2_n.1] at h; exact h); clear hi6 hb6)
    | (go_at_call 20; (with_reducible refine (AT.out r _ I6.out).mono ?_); rintro e w7 ⟨rfl, ⟨nd, rfl⟩⟩))
  go_ret
  exact ⟨rfl, pw_below_drewN B6.out nd⟩
end Go.Proofs.YtbcoieboldgdaaaGreatDoor.QA

namespace Go.Proofs.YtbcoieboldgdaaaGreatDoor.QA
open Go.RowKit Go.Proofs.YtbcoieboldgdaaaGreatDoorW.PrintWords Go.Proofs.YtbcoieboldgdaaaGreatDoorW.PrintLast Go.Proofs.YtbcoieboldgdaaaGreatDoorW.PrintMore Go.Proofs.YtbcoieboldgdaaaGreatDoor.T
set_option linter.unusedVariables false
set_option linter.unusedSimpArgs false
theorem bat_id {p j n : Int} (hp : 0 ≤ p ∧ p < 3) (h0 : 0 ≤ j) (h1 : j < n) (h2 : n ≤ 65536) : bat p j n = j := by
  have : p = 0 ∨ p = 1 ∨ p = 2 := by omega
  rcases this with rfl | rfl | rfl
  · rw [bat0 (by omega) h2]; unfold mx mn; omega
  · rw [bat1 (by omega) h2, Int.emod_eq_of_lt h0 (by omega)]; unfold mn; omega
  · rw [bat2 (by omega) h2, Int.emod_eq_of_lt h0 h1]
/-- A table of one tap for each sample. -/
def OneT (t : Tab) (N : Nat) : Prop := t.n = N ∧ t.lines.length = N ∧ ∀ j : Nat, j < N → rd_T65 t.lines j = ⟨(j : Int), [16384]⟩
theorem sh28 (s : Int) (h0 : 0 ≤ s) (h1 : s ≤ 65535) : sh (268435456 * s) 28 = s := by
  unfold sh
  rw [if_neg (by decide), show (2 : Int) ^ (28 : Int).toNat = 268435456 by decide]
  unfold rdiv
  rw [if_pos (by decide)]
  omega
theorem one_out {m : Img} (B : ImgB m) (hv : ∀ j : Nat, j < m.l.length → 0 ≤ rd m.l (j : Int) ∧ rd m.l (j : Int) ≤ m.most) {bd : Int} (hb : 0 ≤ bd ∧ bd < 3) {tx ty : Tab} {W H C : Nat} (hW : m.w = W) (hH : m.h = H) (hC : m.c = C) (h1 : OneT tx W) (h2 : OneT ty H) (x y c : Nat) (hx : x < W) (hy : y < H) (hc : c < C) :
    outV m bd tx ty x y c = rd m.l (((y * W + x) * C + c : Nat) : Int) := by
  unfold outV sumV
  rw [h1.2.2 x hx, h2.2.2 y hy]
  simp only [accO, accI, List.length_cons, List.length_nil]
  have e1 : bat bd ((x : Int) + ((0 : Nat) : Int)) m.w = x := by rw [Int.natCast_zero, Int.add_zero]; exact bat_id hb (by omega) (by rw [hW]; omega) B.w2
  have e2 : bat bd ((y : Int) + ((0 : Nat) : Int)) m.h = y := by rw [Int.natCast_zero, Int.add_zero]; exact bat_id hb (by omega) (by rw [hH]; omega) B.h2
  rw [e1, e2]
  have hi : inI m x y c := ⟨by omega, by omega, by omega, by omega, by omega, by omega⟩
  have hp : plV m x y c = (((y * W + x) * C + c : Nat) : Int) := by unfold plV; rw [hW, hC]; simp
  have hat : atV m x y c = rd m.l (((y * W + x) * C + c : Nat) : Int) := by unfold atV; rw [if_pos hi, hp]
  have hl : (y * W + x) * C + c < m.l.length := by
    have := (pl_bnd B hi).2.2.2.2.2
    rw [hp] at this
    omega
  obtain ⟨v0, v1⟩ := hv _ hl
  rw [hat]
  generalize rd m.l (((y * W + x) * C + c : Nat) : Int) = v at v0 v1
  have m2 := B.m2
  have r1 : rd [16384] ((0 : Nat) : Int) = 16384 := by decide
  rw [r1]
  have w1 : wrap64 (16384 * 16384) = 268435456 := by rw [w64_id (by decide) (by decide)]; rfl
  have w2 : wrap64 v = v := w64_id (by omega) (by omega)
  have w3 : wrap64 (268435456 * v) = 268435456 * v := w64_id (by omega) (by omega)
  rw [w1, w2, w3, Int.zero_add, w3]
  unfold roundV
  rw [sh28 v v0 (by omega)]
  have := B.m1
  unfold mx mn
  omega
theorem one_same {m : Img} (B : ImgB m) (hv : ∀ j : Nat, j < m.l.length → 0 ≤ rd m.l (j : Int) ∧ rd m.l (j : Int) ≤ m.most) {bd : Int} (hb : 0 ≤ bd ∧ bd < 3) {tx ty : Tab} {W H C : Nat} (hW : m.w = W) (hH : m.h = H) (hC : m.c = C) (h1 : OneT tx W) (h2 : OneT ty H) : outL m bd tx ty C = m.l := by
  have hn := B.n
  have hl : m.l.length = W * H * C := by
    have : (m.l.length : Int) = ((W * H * C : Nat) : Int) := by rw [hn, hW, hH, hC]; simp
    omega
  have w1 := B.w1
  have c1 := B.c1
  have hWp : 0 < W := by omega
  have hCp : 0 < C := by omega
  refine rd_ext (by rw [hl]; simp [outL, h1.2.1, h2.2.1]) (fun j hj => ?_)
  have hj2 : j < W * H * C := by simpa [outL, h1.2.1, h2.2.1] using hj
  have e : rd (outL m bd tx ty C) (j : Int) = outI m bd tx ty C j := by
    unfold outL rd
    rw [Int.toNat_natCast, List.getD_eq_getElem?_getD, List.getElem?_map, List.getElem?_range (by rw [h1.2.1, h2.2.1]; exact hj2)]; rfl
  rw [e]
  unfold outI
  rw [h1.2.1]
  have a1 : j / C < W * H := Nat.div_lt_of_lt_mul (by rw [Nat.mul_comm]; exact hj2)
  have a2 : j / C / W < H := Nat.div_lt_of_lt_mul a1
  rw [one_out B hv hb hW hH hC h1 h2 (j / C % W) (j / C / W) (j % C) (Nat.mod_lt _ hWp) a2 (Nat.mod_lt _ hCp)]
  have d1 : j / C / W * W + j / C % W = j / C := by rw [Nat.mul_comm]; exact Nat.div_add_mod _ _
  have d2 : j / C * C + j % C = j := by rw [Nat.mul_comm]; exact Nat.div_add_mod _ _
  rw [d1, d2]
theorem border_nm0 {bd : Int} (hb : ¬ (0 ≤ bd ∧ bd < 3)) : border_Name.f bd = some (⟨#[]⟩ : ByteArray) := by
  unfold border_Name.f
  rw [if_neg (by omega), if_neg (by omega), if_neg (by omega)]
  unfold border_Name_gen.f
  by_cases c : bd < 0
  · rw [if_pos c]
  · rw [if_neg c, if_pos (by omega)]
/-- Is a stage for an image? -/
def suitB (m : Img) (tx ty : Tab) (bd : Int) : Prop := tx.n = m.w ∧ ty.n = m.h ∧ 0 ≤ bd ∧ bd < 3
set_option maxHeartbeats 8000000 in
set_option maxRecDepth 100000 in
theorem suits_no (b bx bz : Nat) (m : Img) (tx ty : Tab) (bd : Int) (w : World) (hG : GL w) (hI : ImgC w b m) (hx : TabC w bx tx) (hy : TabC w bz ty) (hn : ¬ suitB m tx ty bd) :
    Calls Tryz.prog 9 #[.pointer (some ⟨b, 0, none⟩), stV bx bz bd] w fun e w' => e = .returned (.bool false) ∧ Below w.heap.size w w' := by
  have W1 := Aside0.mk (fun w' (h : Below w.heap.size w w') => imgWidth_calls b m w' (hI.below h))
  have W2 := Aside0.mk (fun w' (h : Below w.heap.size w w') => imgHeight_calls b m w' (hI.below h))
  have F1 := Aside0.mk (fun w' (h : Below w.heap.size w w') => from_calls bx tx w' (hx.below h))
  have F2 := Aside0.mk (fun w' (h : Below w.heap.size w w') => from_calls bz ty w' (hy.below h))
  have GB := Aside0.mk (fun w' (h : Below w.heap.size w w') => hG.below h)
  have hr := heap_alloc_new w (.cells #[.pointer (some ⟨bx, 0, none⟩), .pointer (some ⟨bz, 0, none⟩), .int .i64 bd] 33)
  have BX := Aside0.mk (below_alloc (Below.refl w.heap.size w) (.cells #[.pointer (some ⟨bx, 0, none⟩), .pointer (some ⟨bz, 0, none⟩), .int .i64 bd] 33))
  unfold suitB at hn
  obtain ⟨mw, hmw⟩ : ∃ v, v = m.w := ⟨_, rfl⟩
  obtain ⟨mh, hmh⟩ : ∃ v, v = m.h := ⟨_, rfl⟩
  obtain ⟨tn, htn⟩ : ∃ v, v = tx.n := ⟨_, rfl⟩
  obtain ⟨yn, hyn⟩ : ∃ v, v = ty.n := ⟨_, rfl⟩
  rw [← hmw] at W1 hn
  rw [← hmh] at W2 hn
  rw [← htn] at F1 hn
  rw [← hyn] at F2 hn
  have HR := Aside0.mk hr
  clear hG hI hx hy hr hmw hmh htn hyn
  unfold stV
  by_cases c1 : tn = mw
  · subst c1
    by_cases c2 : yn = mh
    · subst c2
      have nm := border_nm0 (bd := bd) (fun h => hn ⟨rfl, rfl, h⟩)
      have NM := Aside0.mk nm
      have q1 : (tn == tn) = true := by simp
      have q2 : (yn == yn) = true := by simp
      clear nm hn
      go_enter Tryz.func9, Tryz.ntmps9
      go_upto_region 1 with fail
      obtain ⟨g, hg⟩ : ∃ g, g = w.heap.size := ⟨_, rfl⟩
      rw [← hg]
      have hr := HR.out
      rw [← hg] at hr
      clear hg HR
      generalize w.alloc (.cells #[.pointer (some ⟨bx, 0, none⟩), .pointer (some ⟨bz, 0, none⟩), .int .i64 bd] 33) = w1 at hr BX ⊢
      have z0 : w1.cell? ⟨g, 0, none⟩ = some (.pointer (some ⟨bx, 0, none⟩)) := (blk_cell hr 0).trans rfl
      have z1 : w1.cell? ⟨g, 1, none⟩ = some (.pointer (some ⟨bz, 0, none⟩)) := (blk_cell hr 1).trans rfl
      have z2 : w1.cell? ⟨g, 2, none⟩ = some (.int .i64 bd) := (blk_cell hr 2).trans rfl
      clear hr
      go_wp2_with (first
        | (go_at_call 23; (with_reducible refine (F1.out _ BX.out).mono ?_); rintro e w' ⟨rfl, rfl⟩)
        | (go_at_call 23; (with_reducible refine (F2.out _ BX.out).mono ?_); rintro e w' ⟨rfl, rfl⟩)
        | (go_at_call 7; (with_reducible refine (W1.out _ BX.out).mono ?_); rintro e w' ⟨rfl, rfl⟩)
        | (go_at_call 8; (with_reducible refine (W2.out _ BX.out).mono ?_); rintro e w' ⟨rfl, rfl⟩)
        | (go_at_call 24; (with_reducible refine (border_Name.calls bd _ _ (GB.out _ BX.out) NM.out).mono ?_); rintro e w' ⟨rfl, ⟨nd, rfl⟩⟩))
      go_ret
      exact ⟨rfl, pw_below_drewN BX.out nd⟩
    · have q1 : (tn == tn) = true := by simp
      have q2 : (yn == mh) = false := by simpa using c2
      clear hn c2
      go_enter Tryz.func9, Tryz.ntmps9
      go_upto_region 1 with fail
      obtain ⟨g, hg⟩ : ∃ g, g = w.heap.size := ⟨_, rfl⟩
      rw [← hg]
      have hr := HR.out
      rw [← hg] at hr
      clear hg HR
      generalize w.alloc (.cells #[.pointer (some ⟨bx, 0, none⟩), .pointer (some ⟨bz, 0, none⟩), .int .i64 bd] 33) = w1 at hr BX ⊢
      have z0 : w1.cell? ⟨g, 0, none⟩ = some (.pointer (some ⟨bx, 0, none⟩)) := (blk_cell hr 0).trans rfl
      have z1 : w1.cell? ⟨g, 1, none⟩ = some (.pointer (some ⟨bz, 0, none⟩)) := (blk_cell hr 1).trans rfl
      clear hr
      go_wp2_with (first
        | (go_at_call 23; (with_reducible refine (F1.out _ BX.out).mono ?_); rintro e w' ⟨rfl, rfl⟩)
        | (go_at_call 23; (with_reducible refine (F2.out _ BX.out).mono ?_); rintro e w' ⟨rfl, rfl⟩)
        | (go_at_call 7; (with_reducible refine (W1.out _ BX.out).mono ?_); rintro e w' ⟨rfl, rfl⟩)
        | (go_at_call 8; (with_reducible refine (W2.out _ BX.out).mono ?_); rintro e w' ⟨rfl, rfl⟩))
      go_ret
      exact ⟨rfl, BX.out⟩
  · have q1 : (tn == mw) = false := by simpa using c1
    clear hn c1
    go_enter Tryz.func9, Tryz.ntmps9
    go_upto_region 1 with fail
    obtain ⟨g, hg⟩ : ∃ g, g = w.heap.size := ⟨_, rfl⟩
    rw [← hg]
    have hr := HR.out
    rw [← hg] at hr
    clear hg HR
    generalize w.alloc (.cells #[.pointer (some ⟨bx, 0, none⟩), .pointer (some ⟨bz, 0, none⟩), .int .i64 bd] 33) = w1 at hr BX ⊢
    have z0 : w1.cell? ⟨g, 0, none⟩ = some (.pointer (some ⟨bx, 0, none⟩)) := (blk_cell hr 0).trans rfl
    have z1 : w1.cell? ⟨g, 1, none⟩ = some (.pointer (some ⟨bz, 0, none⟩)) := (blk_cell hr 1).trans rfl
    clear hr
    go_wp2_with (first
      | (go_at_call 23; (with_reducible refine (F1.out _ BX.out).mono ?_); rintro e w' ⟨rfl, rfl⟩)
      | (go_at_call 7; (with_reducible refine (W1.out _ BX.out).mono ?_); rintro e w' ⟨rfl, rfl⟩))
    go_ret
    exact ⟨rfl, BX.out⟩
set_option maxHeartbeats 8000000 in
set_option maxRecDepth 100000 in
theorem suits_nil (p : Value) (w : World) : Calls Tryz.prog 9 #[p, .agg #[.pointer none, .pointer none, .int .i64 0]] w fun e w' => e = .returned (.bool false) ∧ Below w.heap.size w w' := by
  have hr := heap_alloc_new w (.cells #[.pointer none, .pointer none, .int .i64 0] 33)
  have BX := Aside0.mk (below_alloc (Below.refl w.heap.size w) (.cells #[.pointer none, .pointer none, .int .i64 0] 33))
  go_enter Tryz.func9, Tryz.ntmps9
  go_wp2
  go_ret
  exact ⟨rfl, BX.out⟩
/-- A stage's cells, boxed. -/
theorem stage_box (w : World) (bx bz : Nat) (bd : Int) : Below w.heap.size w (w.alloc (.cells #[.pointer (some ⟨bx, 0, none⟩), .pointer (some ⟨bz, 0, none⟩), .int .i64 bd] 33)) := below_alloc (Below.refl _ _) _
set_option maxHeartbeats 8000000 in
set_option maxRecDepth 100000 in
theorem sum_no (b bx bz : Nat) (m : Img) (tx ty : Tab) (bd x y c : Int) (w : World) (hG : GL w) (hI : ImgC w b m) (hx : TabC w bx tx) (hy : TabC w bz ty) (hn : ¬ suitB m tx ty bd) :
    Calls Tryz.prog 13 #[.pointer (some ⟨b, 0, none⟩), stV bx bz bd, .int .i64 x, .int .i64 y, .int .i64 c] w fun e w' => e = .returned (.int .i64 0) ∧ Below w.heap.size w w' := by
  have SU := Aside0.mk (fun w' (h : Below w.heap.size w w') => suits_no b bx bz m tx ty bd w' (hG.below h) (hI.below h) (hx.below h) (hy.below h) hn)
  have BX := Aside0.mk (stage_box w bx bz bd)
  clear hG hI hx hy hn
  unfold stV at SU ⊢
  go_enter Tryz.func13, Tryz.ntmps13
  go_wp2_with (go_at_call 9; refine (SU.out _ BX.out).mono ?_; rintro e w2 ⟨rfl, hb2⟩; have B2 := Aside0.mk (below_step BX.out hb2); clear hb2)
  go_ret
  exact ⟨rfl, B2.out⟩
set_option maxHeartbeats 8000000 in
set_option maxRecDepth 100000 in
theorem apply_no (b bx bz : Nat) (m : Img) (tx ty : Tab) (bd : Int) (w : World) (hG : GL w) (hI : ImgC w b m) (hx : TabC w bx tx) (hy : TabC w bz ty) (hn : ¬ suitB m tx ty bd) :
    Calls Tryz.prog 10 #[.pointer (some ⟨b, 0, none⟩), stV bx bz bd] w fun e w' => e = .returned (.tuple #[.pointer none, .int .i64 6]) ∧ Below w.heap.size w w' := by
  have SU := Aside0.mk (fun w' (h : Below w.heap.size w w') => suits_no b bx bz m tx ty bd w' (hG.below h) (hI.below h) (hx.below h) (hy.below h) hn)
  have BX := Aside0.mk (stage_box w bx bz bd)
  clear hG hI hx hy hn
  unfold stV at SU ⊢
  go_enter Tryz.func10, Tryz.ntmps10
  go_wp2_with (go_at_call 9; refine (SU.out _ BX.out).mono ?_; rintro e w2 ⟨rfl, hb2⟩; have B2 := Aside0.mk (below_step BX.out hb2); clear hb2)
  go_ret2
  exact ⟨rfl, B2.out⟩
end Go.Proofs.YtbcoieboldgdaaaGreatDoor.QA
