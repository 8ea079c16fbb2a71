/- Joined by wip/tools/bundle.py out of: S06M S06N S06S S06T. -/
import Derived.Test.YtjenkaobmlpbgaaDoorBOpChains3
import Derived.Deep.DeepCutAuto
namespace Go.Proofs.YtjenkaobmlpbgaaDoor.S
open Go.Shelf Go.RowKit Go.Lib Go.Sort
set_option linter.unusedVariables false
variable {α : Type} [Inhabited α]
set_option maxHeartbeats 8000000 in
set_option maxRecDepth 1000000 in
theorem symMerge_one (enc : α → Value) (cf : α → α → Int) (g : Nat) (cb : Array Value) (key : α → Int) (idx : α → Nat) (blk off cap a m b : Nat) (d0 d : Array α) (w0 w : World)
    (eg : ∀ args w, (callFunc g args).run Tryd.prog w = .ok (.enter g args) w) (hcmp : CmpLays1 Tryd.prog g cb enc cf blk off d0.size w0) (hcf : ∀ x y, cf x y < 0 ↔ key y < key x)
    (R : Row1 enc w0 blk off d0) (hs : d0.size = d.size) (S : SW enc w0 blk off d w) (hmm : m = a + 1) (hm : m < b) (hb : b ≤ d.size) (hsz : d.size < 4611686018427387904) (hM : Mrg key idx d a m b) :
    Calls Tryd.prog 85 #[.slice (some ⟨blk, off, none⟩) d.size cap, .int .i64 a, .int .i64 m, .int .i64 b, .func (.func g) #[] cb] w fun e w' => e = .returned (.tuple #[]) ∧ ∃ d', SW enc w0 blk off d' w' ∧ Sam d d' a b ∧ Srt key idx d' a b := by
  have mixed : Tryd.prog.follows .mixedOrders = true := by kernel_rfl
  have hcl0 := R.hO.cells
  simp only [Value.cells] at hcl0
  have hst := R.hO.store Tryd.prog
  have HC : Aside _ := hcmp
  have HM : Aside (Mrg key idx d a m b) := hM
  have S0 : Aside (SW enc w0 blk off d w) := S
  have HMM : Hid (m = a + 1) := hmm
  have HCF : Hid (∀ x y, cf x y < 0 ↔ key y < key x) := hcf
  have ham : a < m := by omega
  have e1 : (m : Int) - (a : Int) = 1 := by omega
  clear S hcmp hM hmm hcf
  have n1 : IntKind.i64.wrap (1 : Int) = 1 := by rw [IntKind.wrap_i64]; omega
  go_enter Tryd.func85, Tryd.ntmps85
  go_wp2
  clear e1
  go_loopg [10, 11] (b - m) (fun kx s10 s11 wr => ∃ (i j : Nat), s10 = .int .i64 i ∧ s11 = .int .i64 j ∧ m ≤ i ∧ i ≤ j ∧ j ≤ b ∧ j - i ≤ kx ∧ Aside (SW enc w0 blk off d wr) ∧ Hid (i = m ∨ Lx key idx d[i - 1]! d[a]!) ∧ Hid (j = b ∨ Lx key idx d[a]! d[j]!))
  case atStart => exact ⟨m, b, rfl, rfl, by omega, by omega, by omega, by omega, S0, Or.inl rfl, Or.inl rfl⟩
  case round =>
    clear S0
    obtain ⟨i, j, rfl, rfl, h1, h2, h3, hkx, S1, HA, HB⟩ := hrel
    by_cases hlt : (i : Int) < (j : Int)
    · go_wp2_with fail
      obtain ⟨h, hh⟩ : ∃ h : Nat, h = (i + j) / 2 := ⟨_, rfl⟩
      have zh : ((i : Int) + (j : Int)) / 2 = (h : Int) := by omega
      have hi1 : i ≤ h := by omega
      have hi2 : h < j := by omega
      clear hh
      rw [zh]
      clear zh
      obtain ⟨iN, hiN⟩ : ∃ q, q = h := ⟨_, rfl⟩
      obtain ⟨jN, hjN⟩ : ∃ q, q = a := ⟨_, rfl⟩
      have ea : (h : Int).toNat = iN := by omega
      have pa : (0 : Int) ≤ (h : Int) := by omega
      have ba : (h : Int) < (d.size : Int) := by omega
      have ec : (a : Int).toNat = jN := by omega
      have pc : (0 : Int) ≤ (a : Int) := by omega
      have bc : (a : Int) < (d.size : Int) := by omega
      obtain ⟨x, hx⟩ : ∃ x, x = d[h]! := ⟨_, rfl⟩
      obtain ⟨y, hy⟩ : ∃ x, x = d[a]! := ⟨_, rfl⟩
      have HXY : Hid (cf x y < 0 ↔ key y < key x) := HCF.out x y
      have HL := lx_of_idx (key := key) (idx := idx) (HM.out.2.2 a h (Nat.le_refl _) ham (by omega) (by omega))
      have l1 := S1.out.cl R (by omega) h (by omega)
      have l2 := S1.out.cl R (by omega) a (by omega)
      rw [← hx, ← hiN] at l1
      rw [← hy, ← hjN] at l2
      have hc := S1.out.cmp HC.out (by omega) x y
      have HL2 : Hid ((cf x y < 0 → Lx key idx d[h]! d[a]!) ∧ (¬ cf x y < 0 → Lx key idx d[a]! d[h]!)) := by
        refine ⟨fun q => HL.1.1 ?_, fun q => HL.2.1 ?_⟩
        · rw [← hx, ← hy]; exact HXY.out.1 q
        · rw [← hx, ← hy]; exact fun q' => q (HXY.out.2 q')
      clear hx hy hiN hjN HL HXY
      by_cases hv : cf x y < 0
      · have hd1 : decide (cf x y < 0) = true := decide_eq_true hv
        go_quiet_grown (first | (go_at_fn g; refine Calls.grown_of (hc _ _)))
        have S2 : Aside (SW enc w0 blk off d (grow (wr.drewN nq) osq)) := S1.out.grown nq osq
        clear l1 l2 hc S1
        generalize grow (wr.drewN nq) osq = w2 at S2 ⊢
        clear nq osq ea ec
        go_wp2
        go_roundg (j - (h + 1))
        case measure => omega
        case rel => exact ⟨h + 1, j, by simp, rfl, by omega, by omega, h3, Nat.le_refl _, S2, Or.inr (HL2.out.1 hv), HB⟩
      · have hd1 : decide (cf x y < 0) = false := decide_eq_false hv
        go_quiet_grown (first | (go_at_fn g; refine Calls.grown_of (hc _ _)))
        have S2 : Aside (SW enc w0 blk off d (grow (wr.drewN nq) osq)) := S1.out.grown nq osq
        clear l1 l2 hc S1
        generalize grow (wr.drewN nq) osq = w2 at S2 ⊢
        clear nq osq ea ec
        go_wp2
        go_roundg (h - i)
        case measure => omega
        case rel => exact ⟨i, h, rfl, rfl, by omega, by omega, by omega, Nat.le_refl _, S2, HA, Or.inr (HL2.out.2 hv)⟩
    · have hij : i = j := by omega
      subst hij
      go_wp2
      go_loopg [13] (i - 1 - a) (fun kx s13 wr2 => ∃ (k : Nat), s13 = .int .i64 k ∧ a ≤ k ∧ k ≤ i - 1 ∧ i - 1 - k ≤ kx ∧ Aside (SW enc w0 blk off (shl1 a (k - a) d) wr2))
      case atStart => exact ⟨a, rfl, by omega, by omega, by omega, by rw [Nat.sub_self]; exact S1⟩
      case round =>
        clear S1
        obtain ⟨k, rfl, k1, k2, hk, S1⟩ := hrel
        have hds : (shl1 a (k - a) d).size = d.size := shl1_size _ _ _
        obtain ⟨dk, hdk⟩ : ∃ dk, dk = shl1 a (k - a) d := ⟨_, rfl⟩
        rw [← hdk] at S1 hds
        by_cases hlt2 : (k : Int) < (i : Int) - 1
        · go_wp2_with fail
          obtain ⟨iN, hiN⟩ : ∃ q, q = k := ⟨_, rfl⟩
          obtain ⟨jN, hjN⟩ : ∃ q, q = k + 1 := ⟨_, rfl⟩
          have ea : (k : Int).toNat = iN := by omega
          have pa : (0 : Int) ≤ (k : Int) := by omega
          have ba : (k : Int) < (d.size : Int) := by omega
          have ec : ((k : Int) + 1).toNat = jN := by omega
          have pc : (0 : Int) ≤ (k : Int) + 1 := by omega
          have bc : (k : Int) + 1 < (d.size : Int) := by omega
          have rc : IntKind.i64.wrap ((k : Int) + 1) = (k : Int) + 1 := by rw [IntKind.wrap_i64]; omega
          obtain ⟨x, hx⟩ : ∃ x, x = dk[k]! := ⟨_, rfl⟩
          obtain ⟨y, hy⟩ : ∃ x, x = dk[k + 1]! := ⟨_, rfl⟩
          have S2 : Aside (SW enc w0 blk off (swp dk k (k + 1)) ((wr.setCell ⟨blk, off + iN, none⟩ (enc y)).setCell ⟨blk, off + jN, none⟩ (enc x)).drew) := by rw [hiN, hjN, hx, hy]; exact S1.out.swapped R k (k + 1) (by omega) (by omega)
          have c1a := S1.out.c1 R (by omega) k (by omega)
          have c1b := S1.out.c1 R (by omega) (k + 1) (by omega)
          have f1a := S1.out.f1 R (by omega) k (by omega)
          have f1b := S1.out.f1 R (by omega) (k + 1) (by omega)
          obtain ⟨u, c1c⟩ := S1.out.c2 R (by omega) k (k + 1) (by omega) (by omega) (enc y)
          rw [← hjN, ← hiN] at c1c
          rw [← hx, ← hiN] at c1a
          rw [← hy, ← hjN] at c1b
          rw [← hiN] at f1a
          rw [← hjN] at f1b
          clear S1 hx hy hiN hjN
          go_wp2_with fail
          go_big_region_o
          clear c1a c1b c1c f1a f1b
          generalize ((wr.setCell ⟨blk, off + iN, none⟩ (enc y)).setCell ⟨blk, off + jN, none⟩ (enc x)).drew = w2 at S2 ⊢
          clear ea ec
          go_wp2
          go_roundg (i - 1 - (k + 1))
          case measure => omega
          case rel => exact ⟨k + 1, by simp, by omega, by omega, Nat.le_refl _, by rw [show k + 1 - a = k - a + 1 from by omega, shl1, ← hdk, show a + (k - a) = k from by omega]; exact S2⟩
        · go_wp2
          (try simp only [Exit.inBlock, Exit.then]); refine bodyPost_ret (results_none rfl _ _ _) rfl ?_
          have hk : k = i - 1 := by omega
          subst hk
          have hmm := HMM.out
          subst hmm
          refine ⟨rfl, _, S1.out, ?_, ?_⟩
          · rw [hdk]; exact Sam.shl1 (n := i - 1 - a) (by omega) hb _ (Nat.le_refl _)
          · rw [hdk]; exact one_first HM.out hb ⟨h1, h3⟩ HA.out HB.out
set_option maxHeartbeats 8000000 in
set_option maxRecDepth 1000000 in
theorem symMerge_last (enc : α → Value) (cf : α → α → Int) (g : Nat) (cb : Array Value) (key : α → Int) (idx : α → Nat) (blk off cap a m b : Nat) (d0 d : Array α) (w0 w : World)
    (eg : ∀ args w, (callFunc g args).run Tryd.prog w = .ok (.enter g args) w) (hcmp : CmpLays1 Tryd.prog g cb enc cf blk off d0.size w0) (hcf : ∀ x y, cf x y < 0 ↔ key y < key x)
    (R : Row1 enc w0 blk off d0) (hs : d0.size = d.size) (S : SW enc w0 blk off d w) (hbm : b = m + 1) (ham : a + 1 < m) (hb : b ≤ d.size) (hsz : d.size < 4611686018427387904) (hM : Mrg key idx d a m b) :
    Calls Tryd.prog 85 #[.slice (some ⟨blk, off, none⟩) d.size cap, .int .i64 a, .int .i64 m, .int .i64 b, .func (.func g) #[] cb] w fun e w' => e = .returned (.tuple #[]) ∧ ∃ d', SW enc w0 blk off d' w' ∧ Sam d d' a b ∧ Srt key idx d' a b := by
  have mixed : Tryd.prog.follows .mixedOrders = true := by kernel_rfl
  have hcl0 := R.hO.cells
  simp only [Value.cells] at hcl0
  have hst := R.hO.store Tryd.prog
  have HC : Aside _ := hcmp
  have HM : Aside (Mrg key idx d a m b) := hM
  have S0 : Aside (SW enc w0 blk off d w) := S
  have HBM : Hid (b = m + 1) := hbm
  have HCF : Hid (∀ x y, cf x y < 0 ↔ key y < key x) := hcf
  have hmb : m < b := by omega
  have e0 : ¬ ((m : Int) - (a : Int) = 1) := by omega
  have b0 : ((m : Int) - (a : Int) == 1) = false := by simpa using e0
  have n0 : IntKind.i64.wrap ((m : Int) - (a : Int)) = (m : Int) - (a : Int) := by rw [IntKind.wrap_i64]; omega
  have e1 : (b : Int) - (m : Int) = 1 := by omega
  clear S hcmp hM hbm hcf
  have n1 : IntKind.i64.wrap (1 : Int) = 1 := by rw [IntKind.wrap_i64]; omega
  go_enter Tryd.func85, Tryd.ntmps85
  go_wp2
  clear e1 e0 n0
  go_loopg [14, 15] (m - a) (fun kx s14 s15 wr => ∃ (i j : Nat), s14 = .int .i64 i ∧ s15 = .int .i64 j ∧ a ≤ i ∧ i ≤ j ∧ j ≤ m ∧ j - i ≤ kx ∧ Aside (SW enc w0 blk off d wr) ∧ Hid (i = a ∨ Lx key idx d[i - 1]! d[m]!) ∧ Hid (j = m ∨ Lx key idx d[m]! d[j]!))
  case atStart => exact ⟨a, m, rfl, rfl, by omega, by omega, by omega, by omega, S0, Or.inl rfl, Or.inl rfl⟩
  case round =>
    clear S0
    obtain ⟨i, j, rfl, rfl, h1, h2, h3, hkx, S1, HA, HB⟩ := hrel
    by_cases hlt : (i : Int) < (j : Int)
    · go_wp2_with fail
      obtain ⟨h, hh⟩ : ∃ h : Nat, h = (i + j) / 2 := ⟨_, rfl⟩
      have zh : ((i : Int) + (j : Int)) / 2 = (h : Int) := by omega
      have hi1 : i ≤ h := by omega
      have hi2 : h < j := by omega
      clear hh
      rw [zh]
      clear zh
      obtain ⟨iN, hiN⟩ : ∃ q, q = m := ⟨_, rfl⟩
      obtain ⟨jN, hjN⟩ : ∃ q, q = h := ⟨_, rfl⟩
      have ea : (m : Int).toNat = iN := by omega
      have pa : (0 : Int) ≤ (m : Int) := by omega
      have ba : (m : Int) < (d.size : Int) := by omega
      have ec : (h : Int).toNat = jN := by omega
      have pc : (0 : Int) ≤ (h : Int) := by omega
      have bc : (h : Int) < (d.size : Int) := by omega
      obtain ⟨x, hx⟩ : ∃ x, x = d[m]! := ⟨_, rfl⟩
      obtain ⟨y, hy⟩ : ∃ x, x = d[h]! := ⟨_, rfl⟩
      have HXY : Hid (cf x y < 0 ↔ key y < key x) := HCF.out x y
      have HL := lx_of_idx (key := key) (idx := idx) (HM.out.2.2 h m (by omega) (by omega) (Nat.le_refl _) hmb)
      have l1 := S1.out.cl R (by omega) m (by omega)
      have l2 := S1.out.cl R (by omega) h (by omega)
      rw [← hx, ← hiN] at l1
      rw [← hy, ← hjN] at l2
      have hc := S1.out.cmp HC.out (by omega) x y
      have HL2 : Hid ((cf x y < 0 → Lx key idx d[m]! d[h]!) ∧ (¬ cf x y < 0 → Lx key idx d[h]! d[m]!)) := by
        refine ⟨fun q => HL.1.1 ?_, fun q => HL.2.1 ?_⟩
        · rw [← hx, ← hy]; exact HXY.out.1 q
        · rw [← hx, ← hy]; exact fun q' => q (HXY.out.2 q')
      clear hx hy hiN hjN HL HXY
      by_cases hv : cf x y < 0
      · have hd1 : decide (cf x y < 0) = true := decide_eq_true hv
        go_quiet_grown (first | (go_at_fn g; refine Calls.grown_of (hc _ _)))
        have S2 : Aside (SW enc w0 blk off d (grow (wr.drewN nq) osq)) := S1.out.grown nq osq
        clear l1 l2 hc S1
        generalize grow (wr.drewN nq) osq = w2 at S2 ⊢
        clear nq osq ea ec
        go_wp2
        go_roundg (h - i)
        case measure => omega
        case rel => exact ⟨i, h, rfl, rfl, by omega, by omega, by omega, Nat.le_refl _, S2, HA, Or.inr (HL2.out.1 hv)⟩
      · have hd1 : decide (cf x y < 0) = false := decide_eq_false hv
        go_quiet_grown (first | (go_at_fn g; refine Calls.grown_of (hc _ _)))
        have S2 : Aside (SW enc w0 blk off d (grow (wr.drewN nq) osq)) := S1.out.grown nq osq
        clear l1 l2 hc S1
        generalize grow (wr.drewN nq) osq = w2 at S2 ⊢
        clear nq osq ea ec
        go_wp2
        go_roundg (j - (h + 1))
        case measure => omega
        case rel => exact ⟨h + 1, j, by simp, rfl, by omega, by omega, h3, Nat.le_refl _, S2, Or.inr (HL2.out.2 hv), HB⟩
    · have hij : i = j := by omega
      subst hij
      go_wp2
      go_loopg [17] (m - i) (fun kx s17 wr2 => ∃ (k : Nat), s17 = .int .i64 k ∧ i ≤ k ∧ k ≤ m ∧ k - i ≤ kx ∧ Aside (SW enc w0 blk off (shr1 m (m - k) d) wr2))
      case atStart => exact ⟨m, rfl, by omega, by omega, by omega, by rw [Nat.sub_self]; exact S1⟩
      case round =>
        clear S1
        obtain ⟨k, rfl, k1, k2, hk, S1⟩ := hrel
        have hds : (shr1 m (m - k) d).size = d.size := shr1_size _ _ _
        obtain ⟨dk, hdk⟩ : ∃ dk, dk = shr1 m (m - k) d := ⟨_, rfl⟩
        rw [← hdk] at S1 hds
        by_cases hlt2 : (i : Int) < (k : Int)
        · obtain ⟨kp, hkp⟩ : ∃ q, k = q + 1 := ⟨k - 1, by omega⟩
          subst hkp
          go_wp2_with fail
          obtain ⟨iN, hiN⟩ : ∃ q, q = kp + 1 := ⟨_, rfl⟩
          obtain ⟨jN, hjN⟩ : ∃ q, q = kp := ⟨_, rfl⟩
          have ea : ((kp : Int) + 1).toNat = iN := by omega
          have pa : (0 : Int) ≤ (kp : Int) + 1 := by omega
          have ba : (kp : Int) + 1 < (d.size : Int) := by omega
          have ra : IntKind.i64.wrap ((kp : Int) + 1) = (kp : Int) + 1 := by rw [IntKind.wrap_i64]; omega
          have ec : (kp : Int).toNat = jN := by omega
          have pc : (0 : Int) ≤ (kp : Int) := by omega
          have bc : (kp : Int) < (d.size : Int) := by omega
          have rc : IntKind.i64.wrap (kp : Int) = (kp : Int) := by rw [IntKind.wrap_i64]; omega
          obtain ⟨x, hx⟩ : ∃ x, x = dk[kp + 1]! := ⟨_, rfl⟩
          obtain ⟨y, hy⟩ : ∃ x, x = dk[kp]! := ⟨_, rfl⟩
          have S2 : Aside (SW enc w0 blk off (swp dk (kp + 1) kp) ((wr.setCell ⟨blk, off + iN, none⟩ (enc y)).setCell ⟨blk, off + jN, none⟩ (enc x)).drew) := by rw [hiN, hjN, hx, hy]; exact S1.out.swapped R (kp + 1) kp (by omega) (by omega)
          have c1a := S1.out.c1 R (by omega) (kp + 1) (by omega)
          have c1b := S1.out.c1 R (by omega) kp (by omega)
          have f1a := S1.out.f1 R (by omega) (kp + 1) (by omega)
          have f1b := S1.out.f1 R (by omega) kp (by omega)
          obtain ⟨u, c1c⟩ := S1.out.c2 R (by omega) (kp + 1) kp (by omega) (by omega) (enc y)
          rw [← hiN] at c1c
          rw [← hjN] at c1c
          rw [← hx, ← hiN] at c1a
          rw [← hy, ← hjN] at c1b
          rw [← hiN] at f1a
          rw [← hjN] at f1b
          clear S1 hx hy hiN hjN
          go_wp2_with fail
          go_big_region_o
          clear c1a c1b c1c f1a f1b
          generalize ((wr.setCell ⟨blk, off + iN, none⟩ (enc y)).setCell ⟨blk, off + jN, none⟩ (enc x)).drew = w2 at S2 ⊢
          clear ea ec
          go_wp2
          go_roundg (kp - i)
          case measure => omega
          case rel => exact ⟨kp, by simp, by omega, by omega, Nat.le_refl _, by rw [show m - kp = m - (kp + 1) + 1 from by omega, shr1, ← hdk, show m - (m - (kp + 1)) = kp + 1 from by omega, Nat.add_sub_cancel]; exact S2⟩
        · go_wp2
          (try simp only [Exit.inBlock, Exit.then]); refine bodyPost_ret (results_none rfl _ _ _) rfl ?_
          have hk : k = i := by omega
          subst hk
          have hbm := HBM.out
          subst hbm
          refine ⟨rfl, _, S1.out, ?_, ?_⟩
          · rw [hdk]; exact Sam.shr1 (n := m - k) (by omega) (by omega) hb _ (Nat.le_refl _)
          · rw [hdk]; exact one_last HM.out hb ⟨h1, h3⟩ HA.out HB.out
end Go.Proofs.YtjenkaobmlpbgaaDoor.S

namespace Go.Proofs.YtjenkaobmlpbgaaDoor.S
open Go.Shelf Go.RowKit Go.Lib Go.Sort
set_option linter.unusedVariables false
variable {α : Type} [Inhabited α]
set_option maxHeartbeats 16000000 in
set_option maxRecDepth 1000000 in
theorem symMerge_more (enc : α → Value) (cf : α → α → Int) (g : Nat) (cb : Array Value) (key : α → Int) (idx : α → Nat) (blk off cap a m b : Nat) (d0 d : Array α) (w0 w : World)
    (eg : ∀ args w, (callFunc g args).run Tryd.prog w = .ok (.enter g args) w) (hcmp : CmpLays1 Tryd.prog g cb enc cf blk off d0.size w0) (hcf : ∀ x y, cf x y < 0 ↔ key y < key x)
    (R : Row1 enc w0 blk off d0) (hs : d0.size = d.size) (S : SW enc w0 blk off d w) (ham : a + 1 < m) (hmb : m + 1 < b) (hb : b ≤ d.size) (hsz : d.size < 4611686018427387904) (hM : Mrg key idx d a m b)
    (ih : ∀ (a' m' b' : Nat) (d' : Array α) (w' : World), b' - a' < b - a → d0.size = d'.size → SW enc w0 blk off d' w' → a' < m' → m' < b' → b' ≤ d'.size → Mrg key idx d' a' m' b' →
      Calls Tryd.prog 85 #[.slice (some ⟨blk, off, none⟩) d'.size cap, .int .i64 a', .int .i64 m', .int .i64 b', .func (.func g) #[] cb] w' fun e w'' => e = .returned (.tuple #[]) ∧ ∃ d'', SW enc w0 blk off d'' w'' ∧ Sam d' d'' a' b' ∧ Srt key idx d'' a' b') :
    Calls Tryd.prog 85 #[.slice (some ⟨blk, off, none⟩) d.size cap, .int .i64 a, .int .i64 m, .int .i64 b, .func (.func g) #[] cb] w fun e w' => e = .returned (.tuple #[]) ∧ ∃ d', SW enc w0 blk off d' w' ∧ Sam d d' a b ∧ Srt key idx d' a b := by
  have mixed : Tryd.prog.follows .mixedOrders = true := by kernel_rfl
  have hcl0 := R.hO.cells
  simp only [Value.cells] at hcl0
  have hst := R.hO.store Tryd.prog
  have HC : Aside _ := hcmp
  have HM : Aside (Mrg key idx d a m b) := hM
  have S0 : Aside (SW enc w0 blk off d w) := S
  have HCF : Hid (∀ x y, cf x y < 0 ↔ key y < key x) := hcf
  have IH : Aside _ := ih
  have eRO : ∀ args w, (callFunc 91 args).run Tryd.prog w = .ok (.enter 91 args) w := enters_of Tryd.func91 (by kernel_rfl) rfl
  have eSM : ∀ args w, (callFunc 85 args).run Tryd.prog w = .ok (.enter 85 args) w := enters_of Tryd.func85 (by kernel_rfl) rfl
  have e0 : ¬ ((m : Int) - (a : Int) = 1) := by omega
  have n0 : IntKind.i64.wrap ((m : Int) - (a : Int)) = (m : Int) - (a : Int) := by rw [IntKind.wrap_i64]; omega
  have e1 : ¬ ((b : Int) - (m : Int) = 1) := by omega
  have n1 : IntKind.i64.wrap ((b : Int) - (m : Int)) = (b : Int) - (m : Int) := by rw [IntKind.wrap_i64]; omega
  obtain ⟨mid, hmid⟩ : ∃ mid : Nat, mid = (a + b) / 2 := ⟨_, rfl⟩
  have zmid : ((a : Int) + (b : Int)) / 2 = (mid : Int) := by omega
  have m1 : a < mid := by omega
  have m2 : mid < b := by omega
  obtain ⟨n, hn⟩ : ∃ n : Nat, n = mid + m := ⟨_, rfl⟩
  have zn : (mid : Int) + (m : Int) = (n : Int) := by omega
  obtain ⟨p, hp⟩ : ∃ p : Nat, n = p + 1 := ⟨n - 1, by omega⟩
  have zp : (n : Int) - 1 = (p : Int) := by omega
  have HN : Hid (n = mid + m ∧ n = p + 1) := ⟨hn, hp⟩
  clear S hcmp hM hcf ih hmid hn hp
  have b0 : ((m : Int) - (a : Int) == 1) = false := by simpa using e0
  have b1 : ((b : Int) - (m : Int) == 1) = false := by simpa using e1
  go_enter Tryd.func85, Tryd.ntmps85
  go_upto_if 140 with fail
  go_cut [20, 21] (fun v20 v21 wc => ∃ (lo hi : Nat), v20 = .int .i64 lo ∧ v21 = .int .i64 hi ∧ ((mid < m ∧ lo + b = mid + m ∧ hi = mid) ∨ (m ≤ mid ∧ lo = a ∧ hi = m)) ∧ Aside (SW enc w0 blk off d wc))
  case first => as_aux_lemma =>
    by_cases c : mid < m
    · have c' : (mid : Int) < (m : Int) := by omega
      have z1 : (n : Int) - (b : Int) = ((mid + m - b : Nat) : Int) := by have := HN.out; omega
      go_wp2
      go_meet
      case rel => exact ⟨mid + m - b, mid, by first | rfl | rw [z1] | simp [z1], rfl, Or.inl ⟨c, by omega, rfl⟩, S0⟩
    · have c' : ¬ (mid : Int) < (m : Int) := by omega
      go_wp2
      go_meet
      case rel => exact ⟨a, m, rfl, rfl, Or.inr ⟨by omega, rfl, rfl⟩, S0⟩
  case rest => as_aux_lemma =>
    clear S0
    obtain ⟨lo, hi, rfl, rfl, hside, S0⟩ := hcut
    have hlo : a ≤ lo ∧ lo ≤ hi ∧ hi ≤ m ∧ hi ≤ mid ∧ n - hi ≥ m ∧ n - lo ≤ b := by have := HN.out; omega
    have HSIDE : Hid ((lo = a ∨ n - lo = b) ∧ (hi = m ∨ n - hi = m)) := by
      have := HN.out
      show _ ∧ _
      constructor
      · rcases hside with h | h
        · exact Or.inr (by omega)
        · exact Or.inl h.2.1
      · rcases hside with h | h
        · exact Or.inr (by omega)
        · exact Or.inl h.2.2
    have hnb : n ≤ b + lo ∧ m + hi ≤ n := by have := HN.out; omega
    clear hside e0 e1 n0 n1
    go_upto_region 33 with fail
    go_loopg [20, 21] (hi - lo) (fun kx s20 s21 wr => ∃ (i j : Nat), s20 = .int .i64 i ∧ s21 = .int .i64 j ∧ lo ≤ i ∧ i ≤ j ∧ j ≤ hi ∧ j - i ≤ kx ∧ Aside (SW enc w0 blk off d wr) ∧ Hid (i = lo ∨ Lx key idx d[i - 1]! d[n - i]!) ∧ Hid (j = hi ∨ Lx key idx d[n - 1 - j]! d[j]!))
    case atStart => exact ⟨lo, hi, rfl, rfl, by omega, by omega, by omega, by omega, S0, Or.inl rfl, Or.inl rfl⟩
    case round =>
      clear S0
      obtain ⟨i, j, rfl, rfl, h1, h2, h3, hkx, S1, HA, HB⟩ := hrel
      by_cases hlt : (i : Int) < (j : Int)
      · go_wp2_with fail
        obtain ⟨h, hh⟩ : ∃ h : Nat, h = (i + j) / 2 := ⟨_, rfl⟩
        have zh : ((i : Int) + (j : Int)) / 2 = (h : Int) := by omega
        have hi1 : i ≤ h := by omega
        have hi2 : h < j := by omega
        clear hh
        rw [zh]
        clear zh
        obtain ⟨q, hq⟩ : ∃ q : Nat, q = n - 1 - h := ⟨_, rfl⟩
        have hq2 : m ≤ q ∧ q < b := by have := HN.out; omega
        have zq : (p : Int) - (h : Int) = (q : Int) := by have := HN.out; omega
        have HQ : Hid (q = n - 1 - h) := hq
        clear hq
        obtain ⟨iN, hiN⟩ : ∃ q', q' = q := ⟨_, rfl⟩
        obtain ⟨jN, hjN⟩ : ∃ q', q' = h := ⟨_, rfl⟩
        have ea : (q : Int).toNat = iN := by omega
        have pa : (0 : Int) ≤ (q : Int) := by omega
        have ba : (q : Int) < (d.size : Int) := by omega
        have ra : IntKind.i64.wrap (q : Int) = (q : Int) := by rw [IntKind.wrap_i64]; omega
        have ec : (h : Int).toNat = jN := by omega
        have pc : (0 : Int) ≤ (h : Int) := by omega
        have bc : (h : Int) < (d.size : Int) := by omega
        obtain ⟨x, hx⟩ : ∃ x, x = d[q]! := ⟨_, rfl⟩
        obtain ⟨y, hy⟩ : ∃ x, x = d[h]! := ⟨_, rfl⟩
        have HXY : Hid (cf x y < 0 ↔ key y < key x) := HCF.out x y
        have HL := lx_of_idx (key := key) (idx := idx) (HM.out.2.2 h q (by omega) (by omega) hq2.1 hq2.2)
        have l1 := S1.out.cl R (by omega) q (by omega)
        have l2 := S1.out.cl R (by omega) h (by omega)
        rw [← hx, ← hiN] at l1
        rw [← hy, ← hjN] at l2
        have hc := S1.out.cmp HC.out (by omega) x y
        have HL2 : Hid ((cf x y < 0 → Lx key idx d[q]! d[h]!) ∧ (¬ cf x y < 0 → Lx key idx d[h]! d[q]!)) := by
          refine ⟨fun r => HL.1.1 ?_, fun r => HL.2.1 ?_⟩
          · rw [← hx, ← hy]; exact HXY.out.1 r
          · rw [← hx, ← hy]; exact fun r' => r (HXY.out.2 r')
        clear hx hy hiN hjN HL HXY
        by_cases hv : cf x y < 0
        · have hd1 : decide (cf x y < 0) = true := decide_eq_true hv
          go_quiet_grown (first | (go_at_fn g; refine Calls.grown_of (hc _ _)))
          have S2 : Aside (SW enc w0 blk off d (grow (wr.drewN nq) osq)) := S1.out.grown nq osq
          clear l1 l2 hc S1
          generalize grow (wr.drewN nq) osq = w2 at S2 ⊢
          clear nq osq ea ec
          go_wp2
          go_roundg (h - i)
          case measure => omega
          case rel => exact ⟨i, h, rfl, rfl, by omega, by omega, by omega, Nat.le_refl _, S2, HA, Or.inr (by rw [← HQ.out]; exact HL2.out.1 hv)⟩
        · have hd1 : decide (cf x y < 0) = false := decide_eq_false hv
          go_quiet_grown (first | (go_at_fn g; refine Calls.grown_of (hc _ _)))
          have S2 : Aside (SW enc w0 blk off d (grow (wr.drewN nq) osq)) := S1.out.grown nq osq
          clear l1 l2 hc S1
          generalize grow (wr.drewN nq) osq = w2 at S2 ⊢
          clear nq osq ea ec
          go_wp2
          go_roundg (j - (h + 1))
          case measure => omega
          case rel => exact ⟨h + 1, j, by simp, rfl, by omega, by omega, h3, Nat.le_refl _, S2, Or.inr (by rw [show n - (h + 1) = q from by have := HQ.out; omega]; exact HL2.out.2 hv), HB⟩
      · have hij : i = j := by omega
        subst hij
        obtain ⟨e, he⟩ : ∃ e : Nat, e = n - i := ⟨_, rfl⟩
        have ze : (n : Int) - (i : Int) = (e : Int) := by have := HN.out; omega
        have he2 : m ≤ e ∧ e ≤ b ∧ mid ≤ e := by have := HN.out; omega
        have hie : i ≤ m ∧ i ≤ mid ∧ a ≤ i := by omega
        have T0 : Hid ((i = a ∨ e = b ∨ Lx key idx d[i - 1]! d[e]!) ∧ (i = m ∨ e = m ∨ Lx key idx d[e - 1]! d[i]!) ∧ i + e = m + mid) := by
          have hn := HN.out
          refine ⟨?_, ?_, by omega⟩
          · rcases HA.out with h | h
            · rcases HSIDE.out.1 with g | g
              · exact Or.inl (by omega)
              · exact Or.inr (Or.inl (by omega))
            · exact Or.inr (Or.inr (by rw [he]; exact h))
          · rcases HB.out with h | h
            · rcases HSIDE.out.2 with g | g
              · exact Or.inl (by omega)
              · exact Or.inr (Or.inl (by omega))
            · exact Or.inr (Or.inr (by rw [show e - 1 = n - 1 - i from by omega]; exact h))
        clear HA HB HSIDE he hlo hnb h1 h3 zp zn
        go_upto_region 39 with fail
        go_cut [185] (fun v185 wc => v185 = .bool (decide (i < m ∧ m < e)) ∧ Aside (SW enc w0 blk off d wc))
        case first => as_aux_lemma =>
          by_cases c1 : i < m
          · have c1' : (i : Int) < (m : Int) := by omega
            by_cases c2 : m < e
            · have c2' : (m : Int) < (e : Int) := by omega
              go_wp2
              go_meet
              case rel => exact ⟨by rw [decide_eq_true ⟨c1, c2⟩], S1⟩
            · have c2' : ¬ (m : Int) < (e : Int) := by omega
              go_wp2
              go_meet
              case rel => exact ⟨by rw [decide_eq_false (by omega)], S1⟩
          · have c1' : ¬ (i : Int) < (m : Int) := by omega
            go_wp2
            go_meet
            case rel => exact ⟨by rw [decide_eq_false (by omega)], S1⟩
        case rest => as_aux_lemma =>
          clear S1
          obtain ⟨rfl, S1⟩ := hcut
          go_upto_if 185 with fail
          go_cut [] (fun wc => ∃ d1, Aside (SW enc w0 blk off d1 wc) ∧ Hid (Sam d d1 a b ∧ Mrg key idx d1 a i mid ∧ Mrg key idx d1 mid e b ∧ ∀ i j, a ≤ i → i < mid → mid ≤ j → j < b → Lx key idx d1[i]! d1[j]!))
          case first => as_aux_lemma =>
            by_cases c : i < m ∧ m < e
            · have hcall := rotate_s enc g cb blk off cap i m e d0 d w0 wc R hs S1.out c.1 c.2 (by omega) hsz
              have cd : decide (i < m ∧ m < e) = true := decide_eq_true c
              clear S1
              go_wp2_with (go_at_fn 91; refine hcall.mono ?_; rintro e w1 ⟨rfl, S3⟩)
              go_meet
              case rel => exact ⟨_, S3, turned HM.out (by omega) (by omega) T0.out.2.2 hb (by omega) T0.out.1 T0.out.2.1 (Or.inl ⟨c.1, c.2, by rw [show m - i + (e - m) = m - i + (e - m) from rfl]⟩)⟩
            · have cd : decide (i < m ∧ m < e) = false := decide_eq_false c
              go_wp2
              go_meet
              case rel => exact ⟨d, S1, turned HM.out (by omega) (by omega) T0.out.2.2 hb (by omega) T0.out.1 T0.out.2.1 (Or.inr ⟨by omega, rfl⟩)⟩
          case rest => as_aux_lemma =>
            clear S1
            obtain ⟨d1, S1, TU⟩ := hcut
            have hs1 : d1.size = d.size := TU.out.1.1
            go_upto_region 41 with fail
            go_cut [199] (fun v199 wc => v199 = .bool (decide (a < i ∧ i < mid)) ∧ Aside (SW enc w0 blk off d1 wc))
            case first => as_aux_lemma =>
              by_cases c1 : a < i
              · have c1' : (a : Int) < (i : Int) := by omega
                by_cases c2 : i < mid
                · have c2' : (i : Int) < (mid : Int) := by omega
                  go_wp2
                  go_meet
                  case rel => exact ⟨by rw [decide_eq_true ⟨c1, c2⟩], S1⟩
                · have c2' : ¬ (i : Int) < (mid : Int) := by omega
                  go_wp2
                  go_meet
                  case rel => exact ⟨by rw [decide_eq_false (by omega)], S1⟩
              · have c1' : ¬ (a : Int) < (i : Int) := by omega
                go_wp2
                go_meet
                case rel => exact ⟨by rw [decide_eq_false (by omega)], S1⟩
            case rest => as_aux_lemma =>
              clear S1
              obtain ⟨rfl, S1⟩ := hcut
              go_upto_if 199 with fail
              go_cut [] (fun wc => ∃ d2, Aside (SW enc w0 blk off d2 wc) ∧ Hid (Sam d1 d2 a mid ∧ Srt key idx d2 a mid))
              case first => as_aux_lemma =>
                by_cases c : a < i ∧ i < mid
                · have hcall := IH.out a i mid d1 wc (by omega) (by omega) S1.out c.1 c.2 (by omega) TU.out.2.1
                  rw [hs1] at hcall
                  have cd : decide (a < i ∧ i < mid) = true := decide_eq_true c
                  clear S1
                  go_wp2_with (go_at_fn 85; refine hcall.mono ?_; rintro e w1 ⟨rfl, d2, S3, S4, S5⟩)
                  go_meet
                  case rel => exact ⟨d2, S3, S4, S5⟩
                · have cd : decide (a < i ∧ i < mid) = false := decide_eq_false c
                  go_wp2
                  go_meet
                  case rel =>
                    refine ⟨d1, S1, Sam.refl _ _ _, ?_⟩
                    obtain ⟨t1, t2, t3⟩ := TU.out.2.1
                    by_cases c1 : a < i
                    · have : i = mid := by omega
                      rw [← this]; exact t1
                    · have : i = a := by omega
                      rw [this] at t2; exact t2
              case rest => as_aux_lemma =>
                clear S1
                obtain ⟨d2, S1, TV⟩ := hcut
                have hs2 : d2.size = d.size := TV.out.1.1.trans hs1
                have M2 : Hid (Mrg key idx d2 mid e b) := TU.out.2.2.1.of_sam TV.out.1 (by omega) (Or.inr (Nat.le_refl _))
                have FIN : ∀ d3, Sam d2 d3 mid b → Srt key idx d3 mid b → Sam d d3 a b ∧ Srt key idx d3 a b := by
                  intro d3 h1 h2
                  have u1 := TV.out.1
                  refine ⟨(TU.out.1.trans (u1.wide (Nat.le_refl _) (by omega))).trans (h1.wide (by omega) (Nat.le_refl _)), Srt.join (h1.srt TV.out.2 (Or.inl (Nat.le_refl _))) h2 ?_⟩
                  intro x y x1 x2 y1 y2
                  rw [h1.2.1 x (Or.inl x2)]
                  obtain ⟨l, l1, l2, l3⟩ := u1.2.2.1 x x1 x2
                  rw [l3]
                  obtain ⟨k, k1, k2, k3⟩ := h1.2.2.1 y y1 y2
                  rw [k3, u1.2.1 k (Or.inr k1)]
                  exact TU.out.2.2.2 l k l1 l2 k1 k2
                have FIN' : Aside _ := FIN
                clear FIN
                go_upto_region 43 with fail
                go_cut [213] (fun v213 wc => v213 = .bool (decide (mid < e ∧ e < b)) ∧ Aside (SW enc w0 blk off d2 wc))
                case first => as_aux_lemma =>
                  by_cases c1 : mid < e
                  · have c1' : (mid : Int) < (e : Int) := by omega
                    by_cases c2 : e < b
                    · have c2' : (e : Int) < (b : Int) := by omega
                      go_wp2
                      go_meet
                      case rel => exact ⟨by rw [decide_eq_true ⟨c1, c2⟩], S1⟩
                    · have c2' : ¬ (e : Int) < (b : Int) := by omega
                      go_wp2
                      go_meet
                      case rel => exact ⟨by rw [decide_eq_false (by omega)], S1⟩
                  · have c1' : ¬ (mid : Int) < (e : Int) := by omega
                    go_wp2
                    go_meet
                    case rel => exact ⟨by rw [decide_eq_false (by omega)], S1⟩
                case rest => as_aux_lemma =>
                  clear S1
                  obtain ⟨rfl, S1⟩ := hcut
                  by_cases c : mid < e ∧ e < b
                  · have hcall := IH.out mid e b d2 wc (by omega) (by omega) S1.out c.1 c.2 (by omega) M2.out
                    rw [hs2] at hcall
                    have cd : decide (mid < e ∧ e < b) = true := decide_eq_true c
                    clear S1
                    go_wp2_with (go_at_fn 85; refine hcall.mono ?_; rintro e w1 ⟨rfl, d3, S3, S4, S5⟩)
                    go_end0
                    exact ⟨rfl, d3, S3, FIN'.out d3 S4 S5⟩
                  · have cd : decide (mid < e ∧ e < b) = false := decide_eq_false c
                    go_wp2
                    go_end0
                    refine ⟨rfl, d2, S1.out, FIN'.out d2 (Sam.refl _ _ _) ?_⟩
                    obtain ⟨t1, t2, t3⟩ := M2.out
                    by_cases c1 : mid < e
                    · have : e = b := by omega
                      rw [← this]; exact t1
                    · have : e = mid := by omega
                      rw [this] at t2; exact t2
set_option maxRecDepth 100000 in
/-- slices.symMergeCmpFunc: two ordered stretches, the first's elements all from ahead of the second's, become one. -/
theorem symMerge_s (enc : α → Value) (cf : α → α → Int) (g : Nat) (cb : Array Value) (key : α → Int) (idx : α → Nat) (blk off cap : Nat) (d0 : Array α) (w0 : World)
    (eg : ∀ args w, (callFunc g args).run Tryd.prog w = .ok (.enter g args) w) (hcmp : CmpLays1 Tryd.prog g cb enc cf blk off d0.size w0) (hcf : ∀ x y, cf x y < 0 ↔ key y < key x)
    (R : Row1 enc w0 blk off d0) (hsz : d0.size < 4611686018427387904) : ∀ (f a m b : Nat) (d : Array α) (w : World), b - a < f → d0.size = d.size → SW enc w0 blk off d w → a < m → m < b → b ≤ d.size → Mrg key idx d a m b →
    Calls Tryd.prog 85 #[.slice (some ⟨blk, off, none⟩) d.size cap, .int .i64 a, .int .i64 m, .int .i64 b, .func (.func g) #[] cb] w fun e w' => e = .returned (.tuple #[]) ∧ ∃ d', SW enc w0 blk off d' w' ∧ Sam d d' a b ∧ Srt key idx d' a b := by
  intro f
  induction f with
  | zero => intro a m b d w hf; omega
  | succ f ih =>
    intro a m b d w hf hs S ham hmb hb hM
    by_cases c1 : m = a + 1
    · exact symMerge_one enc cf g cb key idx blk off cap a m b d0 d w0 w eg hcmp hcf R hs S c1 hmb hb (by omega) hM
    by_cases c2 : b = m + 1
    · exact symMerge_last enc cf g cb key idx blk off cap a m b d0 d w0 w eg hcmp hcf R hs S c2 (by omega) hb (by omega) hM
    exact symMerge_more enc cf g cb key idx blk off cap a m b d0 d w0 w eg hcmp hcf R hs S (by omega) (by omega) hb (by omega) hM
      (fun a' m' b' d' w' h1 h2 h3 h4 h5 h6 h7 => ih a' m' b' d' w' (by omega) h2 h3 h4 h5 h6 h7)
end Go.Proofs.YtjenkaobmlpbgaaDoor.S

namespace Go.Proofs.YtjenkaobmlpbgaaDoor.S
open Go.Shelf Go.RowKit Go.Lib Go.Sort
set_option linter.unusedVariables false
variable {α : Type} [Inhabited α]
/-- Elements in the order of their numbers. -/
def Asc (idx : α → Nat) (d : Array α) (a b : Nat) : Prop := ∀ i j, a ≤ i → i < j → j < b → idx d[i]! < idx d[j]!
/-- Within an insertion: all but place j are in order, what stands at j is ahead of all behind it, and is the latest. -/
def Ins (key : α → Int) (idx : α → Nat) (d : Array α) (a i j : Nat) : Prop :=
  (∀ p q, a ≤ p → p < q → q ≤ i → p ≠ j → q ≠ j → Lx key idx d[p]! d[q]!) ∧ (∀ q, j < q → q ≤ i → Lx key idx d[j]! d[q]!) ∧ (∀ p, a ≤ p → p ≤ i → p ≠ j → idx d[p]! < idx d[j]!)
theorem Ins.start {key : α → Int} {idx : α → Nat} {d : Array α} {a i : Nat} (h : Srt key idx d a i) (hx : ∀ p, a ≤ p → p < i → idx d[p]! < idx d[i]!) : Ins key idx d a i i :=
  ⟨fun p q h1 h2 h3 h4 h5 => h p q h1 h2 (by omega), fun q h1 h2 => by omega, fun p h1 h2 h3 => hx p h1 (by omega)⟩
theorem Ins.step {key : α → Int} {idx : α → Nat} {d : Array α} {a i j : Nat} (h : Ins key idx d a i (j + 1)) (haj : a ≤ j) (hji : j + 1 ≤ i) (hi : i < d.size) (hl : Lx key idx d[j + 1]! d[j]!) : Ins key idx (swp d (j + 1) j) a i j := by
  obtain ⟨h1, h2, h3⟩ := h
  have g := swp_get d (i := j + 1) (j := j) (by omega) (by omega)
  refine ⟨fun p q p1 p2 p3 p4 p5 => ?_, fun q q1 q2 => ?_, fun p p1 p2 p3 => ?_⟩
  · rw [g, g, if_neg p4, if_neg p5]
    by_cases c1 : p = j + 1
    · rw [if_pos c1, if_neg (by omega)]; exact h1 j q haj (by omega) p3 (by omega) (by omega)
    · rw [if_neg c1]
      by_cases c2 : q = j + 1
      · rw [if_pos c2]; exact h1 p j p1 (by omega) (by omega) (by omega) (by omega)
      · rw [if_neg c2]; exact h1 p q p1 p2 p3 c1 c2
  · rw [g, g, if_pos rfl, if_neg (by omega)]
    by_cases c1 : q = j + 1
    · rw [if_pos c1]; exact hl
    · rw [if_neg c1]; exact h2 q (by omega) q2
  · rw [g, g, if_pos rfl, if_neg p3]
    by_cases c1 : p = j + 1
    · rw [if_pos c1]; exact h3 j haj (by omega) (by omega)
    · rw [if_neg c1]; exact h3 p p1 p2 c1
theorem Ins.stop {key : α → Int} {idx : α → Nat} {d : Array α} {a i j : Nat} (h : Ins key idx d a i j) (hji : j ≤ i) (hs : j = a ∨ Lx key idx d[j - 1]! d[j]!) : Srt key idx d a (i + 1) := by
  obtain ⟨h1, h2, h3⟩ := h
  intro p q p1 p2 p3
  by_cases c1 : p = j
  · rw [c1]; exact h2 q (by omega) (by omega)
  · by_cases c2 : q = j
    · rcases hs with hs | hs
      · omega
      · by_cases c3 : p = j - 1
        · rw [c3, c2]; exact hs
        · rw [c2]; exact (h1 p (j - 1) p1 (by omega) (by omega) c1 (by omega)).trans hs
    · exact h1 p q p1 p2 (by omega) c1 c2
set_option maxHeartbeats 8000000 in
set_option maxRecDepth 1000000 in
theorem insertion_s (enc : α → Value) (cf : α → α → Int) (g : Nat) (cb : Array Value) (key : α → Int) (idx : α → Nat) (blk off cap a b : Nat) (d0 d : Array α) (w0 w : World)
    (eg : ∀ args w, (callFunc g args).run Tryd.prog w = .ok (.enter g args) w) (hcmp : CmpLays1 Tryd.prog g cb enc cf blk off d0.size w0) (hcf : ∀ x y, cf x y < 0 ↔ key y < key x)
    (R : Row1 enc w0 blk off d0) (hs : d0.size = d.size) (S : SW enc w0 blk off d w) (hab : a ≤ b) (hb : b ≤ d.size) (hsz : d.size < 4611686018427387904) (hA : Asc idx d a b) :
    Calls Tryd.prog 84 #[.slice (some ⟨blk, off, none⟩) d.size cap, .int .i64 a, .int .i64 b, .func (.func g) #[] cb] w fun e w' => e = .returned (.tuple #[]) ∧ ∃ d', SW enc w0 blk off d' w' ∧ Sam d d' a b ∧ Srt key idx d' a b := by
  have mixed : Tryd.prog.follows .mixedOrders = true := by kernel_rfl
  have hcl0 := R.hO.cells
  simp only [Value.cells] at hcl0
  have hst := R.hO.store Tryd.prog
  have HC : Aside _ := hcmp
  have HASC : Hid (Asc idx d a b) := hA
  have S0 : Aside (SW enc w0 blk off d w) := S
  have HCF : Hid (∀ x y, cf x y < 0 ↔ key y < key x) := hcf
  clear S hcmp hcf hA
  go_enter Tryd.func84, Tryd.ntmps84
  go_wp2
  go_loopg [8] (b - a) (fun kx s8 wr => ∃ (i : Nat) (dk : Array α), s8 = .int .i64 i ∧ a < i ∧ (i ≤ b ∨ i = a + 1) ∧ b + 1 - i ≤ kx + 1 ∧ dk.size = d.size ∧ Aside (SW enc w0 blk off dk wr) ∧ Hid (Sam d dk a (min i b)) ∧ Hid (Srt key idx dk a (min i b)))
  case atStart => exact ⟨a + 1, d, by go_num, by omega, by omega, by omega, rfl, S0, Sam.refl _ _ _, fun p q h1 h2 h3 => by omega⟩
  case round => as_aux_lemma =>
    clear S0
    obtain ⟨i, dk, rfl, hai, hib, hkx, hds, S1, HS1, HS2⟩ := hrel
    by_cases hlt : i < b
    · have hltz : (i : Int) < (b : Int) := by omega
      have HI0 : Hid (Ins key idx dk a i i) := by
        have e : min i b = i := by omega
        have s1 := HS1.out; have s2 := HS2.out
        rw [e] at s1 s2
        refine Ins.start s2 fun p p1 p2 => ?_
        rw [s1.2.1 i (by omega)]
        obtain ⟨l, l1, l2, l3⟩ := s1.2.2.1 p p1 p2
        rw [l3]; exact HASC.out l i l1 l2 hlt
      go_wp2
      go_loopg [9] i (fun kx2 s9 wr2 => ∃ (j : Nat) (dj : Array α), s9 = .int .i64 j ∧ a ≤ j ∧ j ≤ i ∧ j ≤ kx2 ∧ dj.size = d.size ∧ Aside (SW enc w0 blk off dj wr2) ∧ Hid (Sam dk dj a (i + 1)) ∧ Hid (Ins key idx dj a i j))
      case atStart => exact ⟨i, dk, rfl, by omega, Nat.le_refl _, Nat.le_refl _, hds, S1, Sam.refl _ _ _, HI0⟩
      case round =>
        clear S1 HI0
        obtain ⟨j, dj, rfl, haj, hji, hkj, hdj, SJ, HJ1, HJ2⟩ := hrel
        have out : ∀ w', SW enc w0 blk off dj w' → (j = a ∨ Lx key idx dj[j - 1]! dj[j]!) → ∃ (i' : Nat) (dk' : Array α), Value.int .i64 ((i : Int) + 1) = .int .i64 i' ∧ a < i' ∧ (i' ≤ b ∨ i' = a + 1) ∧ b + 1 - i' ≤ (b - (i + 1)) + 1 ∧ dk'.size = d.size ∧ Aside (SW enc w0 blk off dk' w') ∧ Hid (Sam d dk' a (min i' b)) ∧ Hid (Srt key idx dk' a (min i' b)) := by
          intro w' hw hstop
          refine ⟨i + 1, dj, by simp, by omega, by omega, by omega, hdj, hw, ?_, ?_⟩
          · have e : min (i + 1) b = i + 1 := by omega
            rw [e]; exact (HS1.out.wide (Nat.le_refl _) (by omega)).trans HJ1.out
          · have e : min (i + 1) b = i + 1 := by omega
            rw [e]; exact HJ2.out.stop hji hstop
        have OUT : Aside _ := out
        clear out HS1 HS2
        by_cases hja : a < j
        · obtain ⟨jp, hjp⟩ : ∃ q, j = q + 1 := ⟨j - 1, by omega⟩
          subst hjp
          have hjaz' : (a : Int) < (jp : Int) + 1 := by omega
          have hjad : decide ((jp : Int) + 1 > (a : Int)) = true := decide_eq_true (by omega)
          obtain ⟨iN, hiN⟩ : ∃ q, q = jp + 1 := ⟨_, rfl⟩
          obtain ⟨jN, hjN⟩ : ∃ q, q = jp := ⟨_, rfl⟩
          have ea : ((jp : Int) + 1).toNat = iN := by omega
          have pa : (0 : Int) ≤ (jp : Int) + 1 := by omega
          have ba : (jp : Int) + 1 < (d.size : Int) := by omega
          have ra : IntKind.i64.wrap ((jp : Int) + 1) = (jp : Int) + 1 := by rw [IntKind.wrap_i64]; omega
          have ec : (jp : Int).toNat = jN := by omega
          have pc : (0 : Int) ≤ (jp : Int) := by omega
          have bc : (jp : Int) < (d.size : Int) := by omega
          have rc : IntKind.i64.wrap (jp : Int) = (jp : Int) := by rw [IntKind.wrap_i64]; omega
          obtain ⟨x, hx⟩ : ∃ x, x = dj[jp + 1]! := ⟨_, rfl⟩
          obtain ⟨y, hy⟩ : ∃ x, x = dj[jp]! := ⟨_, rfl⟩
          have HXY : Hid (cf x y < 0 ↔ key y < key x) := HCF.out x y
          have HL := lx_of_idx (key := key) (idx := idx) (HJ2.out.2.2 jp (by omega) (by omega) (by omega))
          have l1 := SJ.out.cl R (by omega) (jp + 1) (by omega)
          have l2 := SJ.out.cl R (by omega) jp (by omega)
          rw [← hx, ← hiN] at l1
          rw [← hy, ← hjN] at l2
          have hc := SJ.out.cmp HC.out (by omega) x y
          have HL2 : Hid ((cf x y < 0 → Lx key idx dj[jp + 1]! dj[jp]!) ∧ (¬ cf x y < 0 → Lx key idx dj[jp]! dj[jp + 1]!)) := by
            refine ⟨fun r => HL.1.1 ?_, fun r => HL.2.1 ?_⟩
            · rw [← hx, ← hy]; exact HXY.out.1 r
            · rw [← hx, ← hy]; exact fun r' => r (HXY.out.2 r')
          have HX : Hid (x = dj[jp + 1]!) := hx
          have HY : Hid (y = dj[jp]!) := hy
          have HIN : Hid (iN = jp + 1) := hiN
          have HJN : Hid (jN = jp) := hjN
          clear hx hy hiN hjN HL HXY
          by_cases hv : cf x y < 0
          · have hd1 : decide (cf x y < 0) = true := decide_eq_true hv
            clear OUT
            go_wp2_with fail
            go_quiet_grown (first | (go_at_fn g; refine Calls.grown_of (hc _ _)))
            have S2 : Aside (SW enc w0 blk off dj (grow (wr.drewN nq) osq)) := SJ.out.grown nq osq
            clear l1 l2 hc SJ
            generalize grow (wr.drewN nq) osq = w2 at S2 ⊢
            clear nq osq
            have S3 : Aside (SW enc w0 blk off (swp dj (jp + 1) jp) ((w2.setCell ⟨blk, off + iN, none⟩ (enc y)).setCell ⟨blk, off + jN, none⟩ (enc x)).drew) := by rw [HIN.out, HJN.out, HX.out, HY.out]; exact S2.out.swapped R (jp + 1) jp (by omega) (by omega)
            have c1a := S2.out.c1 R (by omega) (jp + 1) (by omega)
            have c1b := S2.out.c1 R (by omega) jp (by omega)
            have f1a := S2.out.f1 R (by omega) (jp + 1) (by omega)
            have f1b := S2.out.f1 R (by omega) jp (by omega)
            obtain ⟨u, c1c⟩ := S2.out.c2 R (by omega) (jp + 1) jp (by omega) (by omega) (enc y)
            rw [← HIN.out] at c1c
            rw [← HJN.out] at c1c
            rw [← HX.out, ← HIN.out] at c1a
            rw [← HY.out, ← HJN.out] at c1b
            rw [← HIN.out] at f1a
            rw [← HJN.out] at f1b
            clear S2
            go_wp2_with fail
            go_big_region_o
            clear c1a c1b c1c f1a f1b
            generalize ((w2.setCell ⟨blk, off + iN, none⟩ (enc y)).setCell ⟨blk, off + jN, none⟩ (enc x)).drew = w3 at S3 ⊢
            clear ea ec
            go_wp2
            go_roundg jp
            case measure => omega
            case rel => exact ⟨jp, swp dj (jp + 1) jp, by first | rfl | go_num | simp, by omega, by omega, Nat.le_refl _, by rw [swp_size]; exact hdj, S3, HJ1.out.trans (Sam.swp ⟨by omega, by omega⟩ ⟨by omega, by omega⟩ (by omega)), HJ2.out.step (by omega) (by omega) (by omega) (HL2.out.1 hv)⟩
          · have hd1 : decide (cf x y < 0) = false := decide_eq_false hv
            go_wp2_with fail
            go_quiet_grown (first | (go_at_fn g; refine Calls.grown_of (hc _ _)))
            have S2 : Aside (SW enc w0 blk off dj (grow (wr.drewN nq) osq)) := SJ.out.grown nq osq
            clear l1 l2 hc SJ
            generalize grow (wr.drewN nq) osq = w2 at S2 ⊢
            clear nq osq
            go_wp2
            go_roundg (b - (i + 1))
            case measure => omega
            case rel => exact OUT.out _ S2.out (Or.inr (by rw [Nat.add_sub_cancel]; exact HL2.out.2 hv))
        · have hjaz : decide ((j : Int) > (a : Int)) = false := decide_eq_false (by omega)
          have hjaz' : ¬ (a : Int) < (j : Int) := by omega
          have S2 : Aside (SW enc w0 blk off dj wr.drew) := SJ.out.drew
          clear SJ
          go_wp2_with fail
          go_big_region_o
          all_goals go_wp2
          go_roundg (b - (i + 1))
          case measure => omega
          case rel => exact OUT.out _ S2.out (Or.inl (by omega))
    · have hltz : ¬ (i : Int) < (b : Int) := by omega
      go_wp2
      go_end0
      have e : min i b = b := by omega
      have s1 := HS1.out; have s2 := HS2.out
      rw [e] at s1 s2
      exact ⟨rfl, dk, S1.out, s1, s2⟩
end Go.Proofs.YtjenkaobmlpbgaaDoor.S

namespace Go.Proofs.YtjenkaobmlpbgaaDoor.S
open Go.Shelf Go.RowKit Go.Lib Go.Sort
set_option linter.unusedVariables false
variable {α : Type} [Inhabited α]
/-- Two places of one block are in order, of two blocks those of the first are from ahead. -/
def Blk (key : α → Int) (idx : α → Nat) (d : Array α) (n : Nat) (same : Nat → Nat → Prop) : Prop := ∀ i j, i < j → j < n → (same i j → Lx key idx d[i]! d[j]!) ∧ (¬ same i j → idx d[i]! < idx d[j]!)
theorem Blk.step {key : α → Int} {idx : α → Nat} {d d' : Array α} {n a b : Nat} {s1 s2 : Nat → Nat → Prop} (h : Blk key idx d n s1) (hb : b ≤ n) (hS : Sam d d' a b) (hO : Srt key idx d' a b)
    (h1 : ∀ i j, a ≤ i → i < j → j < b → s2 i j) (h2 : ∀ i j, i < a → a ≤ j → j < b → ¬ s1 i j ∧ ¬ s2 i j) (h3 : ∀ i j, a ≤ i → i < b → b ≤ j → j < n → ¬ s1 i j ∧ ¬ s2 i j)
    (h4 : ∀ i j, i < j → (i < a ∨ b ≤ i) → (j < a ∨ b ≤ j) → j < n → (s1 i j ↔ s2 i j)) : Blk key idx d' n s2 := by
  intro i j hij hj
  by_cases ci : a ≤ i ∧ i < b
  · by_cases cj : j < b
    · exact ⟨fun _ => hO i j ci.1 hij cj, fun q => absurd (h1 i j ci.1 hij cj) q⟩
    · refine ⟨fun q => absurd q (h3 i j ci.1 ci.2 (by omega) hj).2, fun _ => ?_⟩
      rw [hS.2.1 j (by omega)]
      obtain ⟨l, l1, l2, l3⟩ := hS.2.2.1 i ci.1 ci.2
      rw [l3]; exact (h l j (by omega) hj).2 (h3 l j l1 l2 (by omega) hj).1
  · rw [hS.2.1 i (by omega)]
    by_cases cj : a ≤ j ∧ j < b
    · refine ⟨fun q => absurd q (h2 i j (by omega) cj.1 cj.2).2, fun _ => ?_⟩
      obtain ⟨l, l1, l2, l3⟩ := hS.2.2.1 j cj.1 cj.2
      rw [l3]; exact (h i l (by omega) (by omega)).2 (h2 i l (by omega) l1 l2).1
    · rw [hS.2.1 j (by omega)]
      have := h4 i j hij (by omega) (by omega) hj
      exact ⟨fun q => (h i j hij hj).1 (this.2 q), fun q => (h i j hij hj).2 (fun q' => q (this.1 q'))⟩
/-- Blocks of 20, up to a. -/
def s20 (a i j : Nat) : Prop := j < a ∧ i / 20 = j / 20
/-- Blocks of 2B up to a, of B behind. -/
def sB (B a i j : Nat) : Prop := (j < a ∧ i / (2 * B) = j / (2 * B)) ∨ (a ≤ j ∧ i / B = j / B)
theorem div_ne {B c i j : Nat} (hB : 0 < B) (h1 : i < c * B) (h2 : c * B ≤ j) : i / B ≠ j / B := by
  have a : i / B < c := (Nat.div_lt_iff_lt_mul hB).2 h1
  have b : c ≤ j / B := (Nat.le_div_iff_mul_le hB).2 h2
  omega
theorem div_in {B c i : Nat} (hB : 0 < B) (h1 : c * B ≤ i) (h2 : i < (c + 1) * B) : i / B = c := by
  have a : i / B < c + 1 := (Nat.div_lt_iff_lt_mul hB).2 h2
  have b : c ≤ i / B := (Nat.le_div_iff_mul_le hB).2 h1
  omega
theorem blk20 {key : α → Int} {idx : α → Nat} {d d' : Array α} {n a b : Nat} (h : Blk key idx d n (s20 a)) (ha : a % 20 = 0) (hb : b ≤ n) (hab : a ≤ b) (hb2 : b = a + 20 ∨ (b = n ∧ b < a + 20)) (hS : Sam d d' a b) (hO : Srt key idx d' a b) : Blk key idx d' n (s20 b) := by
  refine h.step hb hS hO ?_ ?_ ?_ ?_
  · intro i j h1 h2 h3; unfold s20; omega
  · intro i j h1 h2 h3; unfold s20; omega
  · intro i j h1 h2 h3 h4; unfold s20; omega
  · intro i j h1 h2 h3 h4; unfold s20; omega
theorem blkB {key : α → Int} {idx : α → Nat} {d d' : Array α} {n a b c B : Nat} (hB : 0 < B) (h : Blk key idx d n (sB B a)) (ha : a = c * (2 * B)) (hb : b ≤ n) (hab : a ≤ b) (hb2 : b = a + 2 * B ∨ (b = n ∧ b < a + 2 * B)) (hS : Sam d d' a b) (hO : Srt key idx d' a b) : Blk key idx d' n (sB B b) := by
  have ha2 : a = 2 * c * B := by rw [ha, ← Nat.mul_assoc, Nat.mul_comm c 2]
  have hc1 : (c + 1) * (2 * B) = a + 2 * B := by rw [Nat.add_mul, Nat.one_mul, ← ha]
  have hc2 : (2 * c + 2) * B = a + 2 * B := by rw [Nat.add_mul, ← ha2]
  refine h.step hb hS hO ?_ ?_ ?_ ?_
  · intro i j h1 h2 h3
    refine Or.inl ⟨h3, ?_⟩
    rw [div_in (c := c) (B := 2 * B) (by omega) (by omega) (by omega), div_in (c := c) (B := 2 * B) (by omega) (by omega) (by omega)]
  · intro i j h1 h2 h3
    have d1 := div_ne (c := 2 * c) (i := i) (j := j) hB (by omega) (by omega)
    have d2 := div_ne (B := 2 * B) (c := c) (i := i) (j := j) (by omega) (by omega) (by omega)
    unfold sB
    refine ⟨fun q => ?_, fun q => ?_⟩
    · rcases q with q | q
      · omega
      · exact d1 q.2
    · rcases q with q | q
      · exact d2 q.2
      · omega
  · intro i j h1 h2 h3 h4
    have hbb : b = a + 2 * B := by omega
    have d1 := div_ne (c := 2 * c + 2) (i := i) (j := j) hB (by omega) (by omega)
    unfold sB
    refine ⟨fun q => ?_, fun q => ?_⟩
    · rcases q with q | q
      · omega
      · exact d1 q.2
    · rcases q with q | q
      · omega
      · exact d1 q.2
  · intro i j h1 h2 h3 h4
    unfold sB
    constructor
    · rintro (q | q)
      · exact Or.inl ⟨by omega, q.2⟩
      · exact Or.inr ⟨by omega, q.2⟩
    · rintro (q | q)
      · exact Or.inl ⟨by omega, q.2⟩
      · exact Or.inr ⟨by omega, q.2⟩
theorem Blk.congr {key : α → Int} {idx : α → Nat} {d : Array α} {n : Nat} {s1 s2 : Nat → Nat → Prop} (h : Blk key idx d n s1) (hs : ∀ i j, i < j → j < n → (s1 i j ↔ s2 i j)) : Blk key idx d n s2 := by
  intro i j h1 h2
  have := hs i j h1 h2
  exact ⟨fun q => (h i j h1 h2).1 (this.2 q), fun q => (h i j h1 h2).2 (fun q' => q (this.1 q'))⟩
/-- A merge of two blocks may begin. -/
theorem blk_mrg {key : α → Int} {idx : α → Nat} {d : Array α} {n a b c B : Nat} (hB : 0 < B) (h : Blk key idx d n (sB B a)) (ha : a = c * (2 * B)) (hb : b ≤ n) (hb2 : b ≤ a + 2 * B) (hm : a + B < b) : Mrg key idx d a (a + B) b := by
  have ha2 : a = 2 * c * B := by rw [ha, ← Nat.mul_assoc, Nat.mul_comm c 2]
  have hc1 : (2 * c + 1) * B = a + B := by rw [Nat.add_mul, ← ha2, Nat.one_mul]
  have hc2 : (2 * c + 1 + 1) * B = a + 2 * B := by rw [show 2 * c + 1 + 1 = 2 * c + 2 from rfl, Nat.add_mul, ← ha2]
  refine ⟨fun i j i1 i2 i3 => (h i j i2 (by omega)).1 (Or.inr ⟨by omega, ?_⟩), fun i j i1 i2 i3 => (h i j i2 (by omega)).1 (Or.inr ⟨by omega, ?_⟩), fun i j i1 i2 i3 i4 => (h i j (by omega) (by omega)).2 ?_⟩
  · rw [div_in (c := 2 * c) hB (by omega) (by omega), div_in (c := 2 * c) hB (by omega) (by omega)]
  · rw [div_in (c := 2 * c + 1) hB (by omega) (by omega), div_in (c := 2 * c + 1) hB (by omega) (by omega)]
  · have d1 := div_ne (c := 2 * c + 1) (i := i) (j := j) hB (by omega) (by omega)
    unfold sB
    rintro (q | q)
    · omega
    · exact d1 q.2
set_option maxHeartbeats 8000000 in
set_option maxRecDepth 1000000 in
theorem stable_s (enc : α → Value) (cf : α → α → Int) (g : Nat) (cb : Array Value) (key : α → Int) (idx : α → Nat) (blk off cap : Nat) (d0 d : Array α) (w0 w : World)
    (eg : ∀ args w, (callFunc g args).run Tryd.prog w = .ok (.enter g args) w) (hcmp : CmpLays1 Tryd.prog g cb enc cf blk off d0.size w0) (hcf : ∀ x y, cf x y < 0 ↔ key y < key x)
    (R : Row1 enc w0 blk off d0) (hs : d0.size = d.size) (S : SW enc w0 blk off d w) (hsz : d.size < 1152921504606846976) (hA : Asc idx d 0 d.size) :
    Calls Tryd.prog 67 #[.slice (some ⟨blk, off, none⟩) d.size cap, .int .i64 d.size, .func (.func g) #[] cb] w fun e w' => e = .returned (.tuple #[]) ∧ ∃ d', SW enc w0 blk off d' w' ∧ Sam d d' 0 d.size ∧ Srt key idx d' 0 d.size := by
  have mixed : Tryd.prog.follows .mixedOrders = true := by kernel_rfl
  have hcl0 := R.hO.cells
  simp only [Value.cells] at hcl0
  have hst := R.hO.store Tryd.prog
  have HC : Aside _ := hcmp
  have HB0 : Hid (Blk key idx d d.size (s20 0)) := fun i j h1 h2 => ⟨fun q => by unfold s20 at q; omega, fun _ => hA i j (by omega) h1 h2⟩
  have S0 : Aside (SW enc w0 blk off d w) := S
  have HCF : Hid (∀ x y, cf x y < 0 ↔ key y < key x) := hcf
  obtain ⟨n, hn⟩ : ∃ n, n = d.size := ⟨_, rfl⟩
  rw [← hn] at HB0 hsz ⊢
  have HN : Hid (n = d.size) := hn
  clear S hcmp hcf hA hn
  have eIN : ∀ args w, (callFunc 84 args).run Tryd.prog w = .ok (.enter 84 args) w := enters_of Tryd.func84 (by kernel_rfl) rfl
  have eSM : ∀ args w, (callFunc 85 args).run Tryd.prog w = .ok (.enter 85 args) w := enters_of Tryd.func85 (by kernel_rfl) rfl
  go_enter Tryd.func67, Tryd.ntmps67
  go_wp2
  go_loopg [7, 8] n (fun kx s7 s8 wr => ∃ (a b : Nat) (dk : Array α), s7 = .int .i64 a ∧ s8 = .int .i64 b ∧ b = a + 20 ∧ a % 20 = 0 ∧ a ≤ n ∧ n - a ≤ kx ∧ Aside (SW enc w0 blk off dk wr) ∧ Hid (Sam d dk 0 n ∧ Blk key idx dk n (s20 a)))
  case atStart => exact ⟨0, 20, d, rfl, rfl, rfl, rfl, by omega, by omega, S0, Sam.refl _ _ _, HB0⟩
  case round => as_aux_lemma =>
    clear S0 HB0
    obtain ⟨a, b, dk, rfl, rfl, hab, ha20, han, hkx, S1, HB⟩ := hrel
    have HAB : Hid (b = a + 20) := hab
    have hdk : dk.size = n := by rw [HN.out]; exact HB.out.1.1
    by_cases hlt : b ≤ n
    · have hltz : (b : Int) ≤ (n : Int) := by omega
      have hasc : Asc idx dk a b := fun i j h1 h2 h3 => (HB.out.2 i j h2 (by omega)).2 (by unfold s20; omega)
      have hcall := insertion_s enc cf g cb key idx blk off cap a b d0 dk w0 wr eg HC.out HCF.out R (by have := HN.out; omega) S1.out (by omega) (by omega) (by omega) hasc
      rw [hdk] at hcall
      clear S1 hab hasc
      go_wp2_with (go_at_fn 84; refine hcall.mono ?_; rintro e w1 ⟨rfl, d1, S3, S4, S5⟩)
      go_roundg (n - b)
      case measure => have := HAB.out; omega
      case rel => exact ⟨b, b + 20, d1, rfl, by simp, rfl, by have := HAB.out; omega, hlt, Nat.le_refl _, S3, HB.out.1.trans (S4.wide (Nat.zero_le _) hlt), blk20 HB.out.2 ha20 hlt (by have := HAB.out; omega) (Or.inl HAB.out) S4 S5⟩
    · have hltz : ¬ (b : Int) ≤ (n : Int) := by omega
      have hasc : Asc idx dk a n := fun i j h1 h2 h3 => (HB.out.2 i j h2 (by omega)).2 (by unfold s20; omega)
      have hcall := insertion_s enc cf g cb key idx blk off cap a n d0 dk w0 wr eg HC.out HCF.out R (by have := HN.out; omega) S1.out (by omega) (by omega) (by omega) hasc
      rw [hdk] at hcall
      clear S1 hab hasc
      go_wp2_with (go_at_fn 84; refine hcall.mono ?_; rintro e w1 ⟨rfl, d1, S3, S4, S5⟩)
      have HD1 : Hid (Sam d d1 0 n ∧ Blk key idx d1 n (s20 n)) := ⟨HB.out.1.trans (S4.wide (Nat.zero_le _) (Nat.le_refl _)), blk20 HB.out.2 ha20 (Nat.le_refl _) han (Or.inr ⟨rfl, by have := HAB.out; omega⟩) S4 S5⟩
      have S1 : Aside (SW enc w0 blk off d1 w1) := S3
      clear HB S3 S4 S5 hdk
      go_loopg [6, 7, 8, 9] n (fun kx s6 s7 s8 s9 wr => ∃ (B : Nat) (dk : Array α), s6 = .int .i64 B ∧ 20 ≤ B ∧ (B < 2 * n ∨ B = 20) ∧ n - B ≤ kx ∧ Aside (SW enc w0 blk off dk wr) ∧ Hid (Sam d dk 0 n ∧ Blk key idx dk n (fun i j => i / B = j / B)))
      case atStart => exact ⟨20, d1, rfl, by omega, Or.inr rfl, by omega, S1, HD1.out.1, HD1.out.2.congr (fun i j h1 h2 => by unfold s20; omega)⟩
      case round => as_aux_lemma =>
        clear S1 HD1
        obtain ⟨B, d2, rfl, hB1, hB2, hkx2, S1, HB⟩ := hrel
        have hd2 : d2.size = n := by rw [HN.out]; exact HB.out.1.1
        by_cases hbn : B < n
        · have hbnz : (B : Int) < (n : Int) := by omega
          have w2B : IntKind.i64.wrap (2 * (B : Int)) = 2 * (B : Int) := by rw [IntKind.wrap_i64]; omega
          have wB2 : IntKind.i64.wrap ((B : Int) * 2) = (B : Int) * 2 := by rw [IntKind.wrap_i64]; omega
          go_wp2
          go_loopg [7, 8] n (fun kx s7 s8 wr => ∃ (c a b : Nat) (dk : Array α), s7 = .int .i64 a ∧ s8 = .int .i64 b ∧ Hid (a = c * (2 * B)) ∧ Hid (b = a + 2 * B) ∧ a ≤ n ∧ n - a ≤ kx ∧ Aside (SW enc w0 blk off dk wr) ∧ Hid (Sam d dk 0 n ∧ Blk key idx dk n (sB B a)))
          case atStart => exact ⟨0, 0, 2 * B, d2, rfl, by simp, (Nat.zero_mul _).symm, (Nat.zero_add _).symm, by omega, by omega, S1, HB.out.1, HB.out.2.congr (fun i j h1 h2 => by unfold sB; simp)⟩
          case round =>
            clear S1 HB
            obtain ⟨c, a, b, dk, rfl, rfl, HA, HAB2, han2, hkx3, S1, HB⟩ := hrel
            have hdk : dk.size = n := by rw [HN.out]; exact HB.out.1.1
            have zaB : ((a + B : Nat) : Int) = (a : Int) + (B : Int) := by omega
            have waB : IntKind.i64.wrap ((a : Int) + (B : Int)) = (a : Int) + (B : Int) := by rw [IntKind.wrap_i64]; omega
            by_cases hlt2 : b ≤ n
            · have hltz2 : (b : Int) ≤ (n : Int) := by omega
              have hM := blk_mrg (by omega) HB.out.2 HA.out hlt2 (Nat.le_of_eq HAB2.out) (by have := HAB2.out; omega)
              have hcall := symMerge_s enc cf g cb key idx blk off cap d0 w0 eg HC.out HCF.out R (by have := HN.out; omega) (n + 1) a (a + B) b dk wr (by omega) (by have := HN.out; omega) S1.out (by omega) (by have := HAB2.out; omega) (by omega) hM
              rw [hdk, zaB] at hcall
              have wb2 : IntKind.i64.wrap ((b : Int) + 2 * (B : Int)) = (b : Int) + 2 * (B : Int) := by rw [IntKind.wrap_i64]; omega
              clear S1 hM
              go_wp2_with (go_at_fn 85; refine hcall.mono ?_; rintro e w1 ⟨rfl, d3, S3, S4, S5⟩)
              go_roundg (n - b)
              case measure => have := HAB2.out; omega
              case rel => exact ⟨c + 1, b, b + 2 * B, d3, rfl, by simp, (by show _ = _; rw [Nat.add_mul, Nat.one_mul, ← HA.out]; exact HAB2.out), (by show _ = _; rfl), hlt2, Nat.le_refl _, S3, HB.out.1.trans (S4.wide (Nat.zero_le _) hlt2), blkB (by omega) HB.out.2 HA.out hlt2 (by have := HAB2.out; omega) (Or.inl HAB2.out) S4 S5⟩
            · have hltz2 : ¬ (b : Int) ≤ (n : Int) := by omega
              have fin : ∀ w' d3, SW enc w0 blk off d3 w' → Sam dk d3 a n → Srt key idx d3 a n → ∃ (B' : Nat) (dk' : Array α), Value.int .i64 ((B : Int) * 2) = .int .i64 B' ∧ 20 ≤ B' ∧ (B' < 2 * n ∨ B' = 20) ∧ n - B' ≤ n - 2 * B ∧ Aside (SW enc w0 blk off dk' w') ∧ Hid (Sam d dk' 0 n ∧ Blk key idx dk' n (fun i j => i / B' = j / B')) := by
                intro w' d3 h1 h2 h3
                refine ⟨2 * B, d3, by congr 1; omega, by omega, Or.inl (by omega), Nat.le_refl _, h1, HB.out.1.trans (h2.wide (Nat.zero_le _) (Nat.le_refl _)), ?_⟩
                refine (blkB (by omega) HB.out.2 HA.out (Nat.le_refl _) han2 (Or.inr ⟨rfl, by have := HAB2.out; omega⟩) h2 h3).congr ?_
                intro i j q1 q2
                unfold sB
                constructor
                · rintro (q | q)
                  · exact q.2
                  · omega
                · intro q; exact Or.inl ⟨q2, q⟩
              have FIN : Aside _ := fin
              clear fin
              by_cases hm : a + B < n
              · have hmz : (a : Int) + (B : Int) < (n : Int) := by omega
                have hM := blk_mrg (b := n) (by omega) HB.out.2 HA.out (Nat.le_refl _) (by have := HAB2.out; omega) hm
                have hcall := symMerge_s enc cf g cb key idx blk off cap d0 w0 eg HC.out HCF.out R (by have := HN.out; omega) (n + 1) a (a + B) n dk wr (by omega) (by have := HN.out; omega) S1.out (by omega) hm (by omega) hM
                rw [hdk, zaB] at hcall
                clear S1 hM
                go_wp2_with (go_at_fn 85; refine hcall.mono ?_; rintro e w1 ⟨rfl, d3, S3, S4, S5⟩)
                go_roundg (n - 2 * B)
                case measure => omega
                case rel => exact FIN.out w1 d3 S3 S4 S5
              · have hmz : ¬ (a : Int) + (B : Int) < (n : Int) := by omega
                have hsrt : Hid (Srt key idx dk a n) := by
                  intro i j i1 i2 i3
                  refine (HB.out.2 i j i2 i3).1 (Or.inr ⟨by omega, ?_⟩)
                  have ha2 : a = 2 * c * B := by rw [HA.out, ← Nat.mul_assoc, Nat.mul_comm c 2]
                  have hc1 : (2 * c + 1) * B = a + B := by rw [Nat.add_mul, ← ha2, Nat.one_mul]
                  rw [div_in (c := 2 * c) (by omega) (by omega) (by omega), div_in (c := 2 * c) (by omega) (by omega) (by omega)]
                go_wp2
                go_roundg (n - 2 * B)
                case measure => omega
                case rel => exact FIN.out wr dk S1.out (Sam.refl _ _ _) hsrt.out
        · have hbnz : ¬ (B : Int) < (n : Int) := by omega
          go_wp2
          go_end0
          refine ⟨rfl, d2, S1.out, HB.out.1, fun i j h1 h2 h3 => (HB.out.2 i j h2 h3).1 ?_⟩
          show i / B = j / B
          rw [Nat.div_eq_of_lt (show i < B by omega), Nat.div_eq_of_lt (show j < B by omega)]
end Go.Proofs.YtjenkaobmlpbgaaDoor.S
