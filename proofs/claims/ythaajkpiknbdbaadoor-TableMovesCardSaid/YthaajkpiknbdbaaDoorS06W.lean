/- The walks of the stable sort's functions over a row of one-cell elements, 'cmp' by its contract: what they come to, in the plain words of S06P. -/
import Derived.Test.YthaajkpiknbdbaaDoorProg
import Derived.Test.YthaajkpiknbdbaaDoorS06P
import Derived.Shelf.SlSortCmp.Kit1
import Derived.Sort.WalkA
import Derived.Sort.WalkB2
import Derived.Sort.WalkB12
import Derived.Deep.LoopGhost
import Derived.KernelRfl
namespace Go.Proofs.YthaajkpiknbdbaaDoor.S
open Go.Shelf Go.RowKit Go.Lib Go.Sort
set_option linter.unusedVariables false
variable {α : Type} [Inhabited α]

set_option maxHeartbeats 4000000 in
set_option maxRecDepth 1000000 in
/-- slices.swapRangeCmpFunc: two stretches exchanged. -/
theorem swapRange_s (enc : α → Value) (g : Nat) (cb : Array Value) (blk off cap a b n : Nat) (d0 d : Array α) (w0 w : World)
    (R : Row1 enc w0 blk off d0) (hs : d0.size = d.size) (S : SW enc w0 blk off d w) (ha : a + n ≤ d.size) (hb : b + n ≤ d.size) (hsz : d.size < 4611686018427387904) :
    Calls Tryd.prog 107 #[.slice (some ⟨blk, off, none⟩) d.size cap, .int .i64 a, .int .i64 b, .int .i64 n, .func (.func g) #[] cb] w fun e w' => e = .returned (.tuple #[]) ∧ SW enc w0 blk off (swpRange d a b n) w' := by
  have mixed : Tryd.prog.follows .mixedOrders = true := by kernel_rfl
  have hcl0 := R.hO.cells
  simp only [Value.cells] at hcl0
  have hst := R.hO.store Tryd.prog
  have S0 : Aside (SW enc w0 blk off d w) := S
  clear S
  go_enter Tryd.func107, Tryd.ntmps107
  go_wp2
  go_loopg [10] n (fun kx s10 wr => ∃ (i : Nat), s10 = .int .i64 i ∧ i ≤ n ∧ n - i ≤ kx ∧ Aside (SW enc w0 blk off (swpRange d a b i) wr))
  case atStart => exact ⟨0, rfl, by omega, by omega, S0⟩
  case round =>
    clear S0
    obtain ⟨i, rfl, hin, hkx, S1⟩ := hrel
    have hds : (swpRange d a b i).size = d.size := swpRange_size _ _ _ _
    obtain ⟨dk, hdk⟩ : ∃ dk, dk = swpRange d a b i := ⟨_, rfl⟩
    rw [← hdk] at S1 hds
    by_cases hlt : (i : Int) < (n : Int)
    · go_wp2_with fail
      obtain ⟨iN, hiN⟩ : ∃ q, q = a + i := ⟨_, rfl⟩
      obtain ⟨jN, hjN⟩ : ∃ q, q = b + i := ⟨_, rfl⟩
      have ea : ((a : Int) + (i : Int)).toNat = iN := by omega
      have pa : (0 : Int) ≤ (a : Int) + (i : Int) := by omega
      have ba : (a : Int) + (i : Int) < (d.size : Int) := by omega
      have ra : IntKind.i64.wrap ((a : Int) + (i : Int)) = (a : Int) + (i : Int) := by rw [IntKind.wrap_i64]; omega
      have ec : ((b : Int) + (i : Int)).toNat = jN := by omega
      have pc : (0 : Int) ≤ (b : Int) + (i : Int) := by omega
      have bc : (b : Int) + (i : Int) < (d.size : Int) := by omega
      have rc : IntKind.i64.wrap ((b : Int) + (i : Int)) = (b : Int) + (i : Int) := by rw [IntKind.wrap_i64]; omega
      obtain ⟨x, hx⟩ : ∃ x, x = dk[a + i]! := ⟨_, rfl⟩
      obtain ⟨y, hy⟩ : ∃ x, x = dk[b + i]! := ⟨_, rfl⟩
      have S2 : Aside (SW enc w0 blk off (swp dk (a + i) (b + i)) ((wr.setCell ⟨blk, off + iN, none⟩ (enc y)).setCell ⟨blk, off + jN, none⟩ (enc x)).drew) := by rw [hiN, hjN, hx, hy]; exact S1.out.swapped R (a + i) (b + i) (by omega) (by omega)
      have c1a := S1.out.c1 R (by omega) (a + i) (by omega)
      have c1b := S1.out.c1 R (by omega) (b + i) (by omega)
      have f1a := S1.out.f1 R (by omega) (a + i) (by omega)
      have f1b := S1.out.f1 R (by omega) (b + i) (by omega)
      obtain ⟨u, c1c⟩ := S1.out.c2 R (by omega) (a + i) (b + i) (by omega) (by omega) (enc y)
      rw [← hjN, ← hiN] at c1c
      rw [← hx, ← hiN] at c1a
      rw [← hy, ← hjN] at c1b
      rw [← hiN] at f1a
      rw [← hjN] at f1b
      clear S1 hx hy hiN hjN
      go_wp2_with fail
      go_big_region_o
      clear c1a c1b c1c f1a f1b
      generalize ((wr.setCell ⟨blk, off + iN, none⟩ (enc y)).setCell ⟨blk, off + jN, none⟩ (enc x)).drew = w2 at S2 ⊢
      clear ea ec
      go_wp2
      go_roundg (n - (i + 1))
      case measure => omega
      case rel => exact ⟨i + 1, by simp, by omega, Nat.le_refl _, by rw [swpRange, ← hdk]; exact S2⟩
    · go_wp2
      go_end0
      have : i = n := by omega
      subst this
      exact ⟨rfl, by rw [← hdk]; exact S1.out⟩

set_option maxHeartbeats 4000000 in
set_option maxRecDepth 1000000 in
/-- slices.rotateCmpFunc: a stretch turned about its middle. -/
theorem rotate_s (enc : α → Value) (g : Nat) (cb : Array Value) (blk off cap a m b : Nat) (d0 d : Array α) (w0 w : World)
    (R : Row1 enc w0 blk off d0) (hs : d0.size = d.size) (S : SW enc w0 blk off d w) (ha : a < m) (hm : m < b) (hb : b ≤ d.size) (hsz : d.size < 4611686018427387904) :
    Calls Tryd.prog 105 #[.slice (some ⟨blk, off, none⟩) d.size cap, .int .i64 a, .int .i64 m, .int .i64 b, .func (.func g) #[] cb] w fun e w' => e = .returned (.tuple #[]) ∧ SW enc w0 blk off (rotLoop m (m - a + (b - m)) d (m - a) (b - m)) w' := by
  have mixed : Tryd.prog.follows .mixedOrders = true := by kernel_rfl
  have hcl0 := R.hO.cells
  simp only [Value.cells] at hcl0
  have hst := R.hO.store Tryd.prog
  have S0 : Aside (SW enc w0 blk off d w) := S
  clear S
  have eSR : ∀ args w, (callFunc 107 args).run Tryd.prog w = .ok (.enter 107 args) w := enters_of Tryd.func107 (by kernel_rfl) rfl
  have e1 : ((m - a : Nat) : Int) = (m : Int) - (a : Int) := by omega
  have e2 : ((b - m : Nat) : Int) = (b : Int) - (m : Int) := by omega
  have n1 : IntKind.i64.wrap ((m : Int) - (a : Int)) = (m : Int) - (a : Int) := by rw [IntKind.wrap_i64]; omega
  have n2 : IntKind.i64.wrap ((b : Int) - (m : Int)) = (b : Int) - (m : Int) := by rw [IntKind.wrap_i64]; omega
  go_enter Tryd.func105, Tryd.ntmps105
  go_wp2
  go_loopg [10, 11] (m - a + (b - m)) (fun kx s10 s11 wr => ∃ (i j : Nat) (dk : Array α), s10 = .int .i64 i ∧ s11 = .int .i64 j ∧ 1 ≤ i ∧ 1 ≤ j ∧ i ≤ m ∧ m + j ≤ d.size ∧ i + j ≤ kx + 1 ∧ dk.size = d.size ∧ Aside (SW enc w0 blk off dk wr) ∧
    Hid (rotLoop m kx dk i j = rotLoop m (m - a + (b - m)) d (m - a) (b - m)))
  case atStart => exact ⟨m - a, b - m, d, by simp [e1], by simp [e2], by omega, by omega, by omega, by omega, by omega, rfl, S0, rfl⟩
  case round =>
    clear S0 n1 n2 e1 e2
    obtain ⟨i, j, dk, rfl, rfl, hi, hj, him, hmj, hkx, hds, S1, HE⟩ := hrel
    have zmi : ((m - i : Nat) : Int) = (m : Int) - (i : Int) := by omega
    have wmi : IntKind.i64.wrap ((m : Int) - (i : Int)) = (m : Int) - (i : Int) := by rw [IntKind.wrap_i64]; omega
    by_cases hij : i = j
    · subst hij
      have hneq : ¬ ((i : Int) ≠ (i : Int)) := by omega
      have hcall := swapRange_s enc g cb blk off cap (m - i) m i d0 dk w0 wr R (by omega) S1.out (by omega) (by omega) (by omega)
      rw [hds, zmi] at hcall
      have hend : rotLoop m gk dk i i = swpRange dk (m - i) m i := by
        cases gk with
        | zero => rfl
        | succ f => rw [rotLoop, if_pos rfl]
      clear S1
      go_wp2_with (go_at_fn 107; refine hcall.mono ?_; rintro e w1 ⟨rfl, S3⟩)
      go_end0
      refine ⟨rfl, ?_⟩
      rw [← HE.out, hend]; exact S3
    · have hneq : ¬ ((i : Int) = (j : Int)) := by omega
      cases gk with
      | zero => omega
      | succ f =>
        by_cases hlt : j < i
        · have hgt : (j : Int) < (i : Int) := by omega
          have zij : ((i - j : Nat) : Int) = (i : Int) - (j : Int) := by omega
          have hcall := swapRange_s enc g cb blk off cap (m - i) m j d0 dk w0 wr R (by omega) S1.out (by omega) (by omega) (by omega)
          rw [hds, zmi] at hcall
          have hstep : rotLoop m (f + 1) dk i j = rotLoop m f (swpRange dk (m - i) m j) (i - j) j := by rw [rotLoop, if_neg hij, if_pos hlt]
          rw [hstep] at HE
          clear S1
          go_wp2_with (go_at_fn 107; refine hcall.mono ?_; rintro e w1 ⟨rfl, S3⟩)
          go_roundg f
          case measure => omega
          case rel => exact ⟨i - j, j, _, by first | rw [zij] | simp [zij], rfl, by omega, hj, by omega, hmj, by omega, by rw [swpRange_size]; exact hds, S3, HE⟩
        · have hgt : ¬ (j : Int) < (i : Int) := by omega
          have zji : ((j - i : Nat) : Int) = (j : Int) - (i : Int) := by omega
          have wmj : IntKind.i64.wrap ((m : Int) + (j : Int)) = (m : Int) + (j : Int) := by rw [IntKind.wrap_i64]; omega
          have wmji : IntKind.i64.wrap ((m : Int) + (j : Int) - (i : Int)) = (m : Int) + (j : Int) - (i : Int) := by rw [IntKind.wrap_i64]; omega
          have zmji : ((m + j - i : Nat) : Int) = (m : Int) + (j : Int) - (i : Int) := by omega
          have hcall := swapRange_s enc g cb blk off cap (m - i) (m + j - i) i d0 dk w0 wr R (by omega) S1.out (by omega) (by omega) (by omega)
          rw [hds, zmi, zmji] at hcall
          have hstep : rotLoop m (f + 1) dk i j = rotLoop m f (swpRange dk (m - i) (m + j - i) i) i (j - i) := by rw [rotLoop, if_neg hij, if_neg hlt]
          rw [hstep] at HE
          clear S1
          go_wp2_with (go_at_fn 107; refine hcall.mono ?_; rintro e w1 ⟨rfl, S3⟩)
          go_roundg f
          case measure => omega
          case rel => exact ⟨i, j - i, _, rfl, by first | rw [zji] | simp [zji], hi, by omega, him, by omega, by omega, by rw [swpRange_size]; exact hds, S3, HE⟩
end Go.Proofs.YthaajkpiknbdbaaDoor.S
