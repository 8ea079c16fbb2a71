/- What functions of the program come to, in plain numbers. -/
import Derived.Test.YtabojpnelbmifaaQAx2
import Derived.Test.YtabojpnelbmifaaTCore
import Derived.Test.YtabojpnelbmifaaTExt
import Derived.Test.YtabojpnelbmifaaH06
import Derived.Test.YtabojpnelbmifaaS06T
namespace Go.Proofs.Ytabojpnelbmifaa.QA
open Go.RowKit Go.Proofs.YtabojpnelbmifaaW.PrintWords Go.Proofs.YtabojpnelbmifaaW.PrintLast Go.Proofs.YtabojpnelbmifaaW.PrintMore Go.Proofs.Ytabojpnelbmifaa.T
open Go.Shelf Go.Lib Go.Sort
set_option linter.unusedVariables false

/-- cmp.Compare. -/
def cmpV (x y : Int) : Int := if x < y then -1 else if x > y then 1 else 0
set_option maxHeartbeats 8000000 in
set_option maxRecDepth 100000 in
theorem nan_calls (x : Int) (w : World) : Calls Try.prog 44 #[.int .i64 x] w fun e w' => e = .returned (.bool false) ∧ w' = w := by
  go_enter Try.func44, Try.ntmps44
  go_wp2
  go_ret
  exact ⟨by simp, rfl⟩
set_option maxHeartbeats 8000000 in
set_option maxRecDepth 100000 in
theorem compare_calls (x y : Int) (w : World) : Calls Try.prog 28 #[.int .i64 x, .int .i64 y] w fun e w' => e = .returned (.int .i64 (cmpV x y)) ∧ w' = w := by
  have hc := fun x w => nan_calls x w
  have eIZ : ∀ args w, (callFunc 44 args).run Try.prog w = .ok (.enter 44 args) w := enters_of Try.func44 (by kernel_rfl) rfl
  by_cases h1 : x < y
  · have e : cmpV x y = -1 := by unfold cmpV; rw [if_pos h1]
    rw [e]
    go_enter Try.func28, Try.ntmps28
    go_wp2_with (go_at_fn 44; refine (hc _ _).mono ?_; rintro e w' ⟨rfl, rfl⟩)
    go_ret
    exact ⟨rfl, rfl⟩
  · by_cases h2 : x > y
    · have e : cmpV x y = 1 := by unfold cmpV; rw [if_neg h1, if_pos h2]
      rw [e]
      go_enter Try.func28, Try.ntmps28
      go_wp2_with (go_at_fn 44; refine (hc _ _).mono ?_; rintro e w' ⟨rfl, rfl⟩)
      go_ret
      exact ⟨rfl, rfl⟩
    · have e : cmpV x y = 0 := by unfold cmpV; rw [if_neg h1, if_neg h2]
      rw [e]
      have h3 : ¬ y < x := by omega
      go_enter Try.func28, Try.ntmps28
      go_wp2_with (go_at_fn 44; refine (hc _ _).mono ?_; rintro e w' ⟨rfl, rfl⟩)
      go_ret
      exact ⟨rfl, rfl⟩

set_option maxHeartbeats 8000000 in
set_option maxRecDepth 100000 in
theorem closure_calls (b3 b4 n x y : Nat) (u v : Int) (W : World) (hn : n < 4611686018427387904) (hx : x < n) (hy : y < n) (h4 : W.cell? ⟨b4, 0, none⟩ = some (.slice (some ⟨b3, 0, none⟩) n n))
    (hu : W.cell? ⟨b3, x, none⟩ = some (.int .i64 u)) (hv : W.cell? ⟨b3, y, none⟩ = some (.int .i64 v)) :
    Calls Try.prog 27 #[.int .i64 x, .int .i64 y, .pointer (some ⟨b4, 0, none⟩)] W fun e w' => e = .returned (.int .i64 (cmpV v u)) ∧ ∃ q os, w' = grow (W.drewN q) os := by
  have mixed : Try.prog.follows .mixedOrders = true := by kernel_rfl
  have hc : ∀ w, Calls Try.prog 28 #[.int .i64 v, .int .i64 u] w fun e w' => e = .returned (.int .i64 (cmpV v u)) ∧ ∃ q os, w' = grow (w.drewN q) os := fun w => (compare_calls v u w).mono fun e w' ⟨h1, h2⟩ => ⟨h1, 0, #[], by rw [h2, grow_empty]; rfl⟩
  have eCO : ∀ args w, (callFunc 28 args).run Try.prog w = .ok (.enter 28 args) w := enters_of Try.func28 (by kernel_rfl) rfl
  have pa : (0 : Int) ≤ (x : Int) := by omega
  have ba : (x : Int) < (n : Int) := by omega
  have pc : (0 : Int) ≤ (y : Int) := by omega
  have bc : (y : Int) < (n : Int) := by omega
  have ea : (x : Int).toNat = x := by omega
  have ec : (y : Int).toNat = y := by omega
  have h4' : ∀ q os, (grow (W.drewN q) os).cell? ⟨b4, 0, none⟩ = some (.slice (some ⟨b3, 0, none⟩) n n) := fun q os => (cell?_grow _ _ _ (World.block_lt_of_cell? _ _ (by exact h4))).trans h4
  have hu' : ∀ q os, (grow (W.drewN q) os).cell? ⟨b3, x, none⟩ = some (.int .i64 u) := fun q os => (cell?_grow _ _ _ (World.block_lt_of_cell? _ _ (by exact hu))).trans hu
  have hv' : ∀ q os, (grow (W.drewN q) os).cell? ⟨b3, y, none⟩ = some (.int .i64 v) := fun q os => (cell?_grow _ _ _ (World.block_lt_of_cell? _ _ (by exact hv))).trans hv
  generalize cmpV v u = r at hc ⊢
  go_enter Try.func27, Try.ntmps27
  go_wp2_with fail
  go_quiet_grown (first | (go_at_fn 28; refine Calls.grown_of (hc _)))
  go_wp2
  go_ret
  exact ⟨rfl, nq, osq, rfl⟩

set_option maxHeartbeats 8000000 in
set_option maxRecDepth 100000 in
theorem sortStable_calls {α : Type} [Inhabited α] (enc : α → Value) (cf : α → α → Int) (g : Nat) (cb : Array Value) (key : α → Int) (idx : α → Nat) (blk off cap : Nat) (d : Array α) (w : World)
    (eg : ∀ args w, (callFunc g args).run Try.prog w = .ok (.enter g args) w) (hcmp : CmpLays1 Try.prog g cb enc cf blk off d.size w) (hcf : ∀ x y, cf x y < 0 ↔ key y < key x)
    (R : Row1 enc w blk off d) (hsz : d.size < 1152921504606846976) (hA : S.Asc idx d 0 d.size) :
    Calls Try.prog 26 #[.slice (some ⟨blk, off, none⟩) d.size cap, .func (.func g) #[] cb] w fun e w' => e = .returned (.tuple #[]) ∧ ∃ d', SW enc w blk off d' w' ∧ S.Sam d d' 0 d.size ∧ S.Srt key idx d' 0 d.size := by
  have hc := S.stable_s enc cf g cb key idx blk off cap d d w w eg hcmp hcf R rfl (SW.start R.hH) hsz hA
  have eST : ∀ args w, (callFunc 43 args).run Try.prog w = .ok (.enter 43 args) w := enters_of Try.func43 (by kernel_rfl) rfl
  clear hcmp eg hcf R hA
  obtain ⟨n, hn⟩ : ∃ n, n = d.size := ⟨_, rfl⟩
  rw [← hn] at hc hsz ⊢
  clear hn
  go_enter Try.func26, Try.ntmps26
  go_wp2_with (go_at_fn 43; refine hc.mono ?_; rintro e w' ⟨rfl, h⟩)
  go_end0
  exact ⟨rfl, h⟩

end Go.Proofs.Ytabojpnelbmifaa.QA
