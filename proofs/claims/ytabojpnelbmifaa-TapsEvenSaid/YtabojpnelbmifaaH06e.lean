/- What functions of the program come to, in plain numbers. -/
import Derived.Test.YtabojpnelbmifaaQAx2
import Derived.Test.YtabojpnelbmifaaTCore
import Derived.Test.YtabojpnelbmifaaTExt
import Derived.Test.YtabojpnelbmifaaH06
import Derived.Test.YtabojpnelbmifaaH06b
import Derived.Test.YtabojpnelbmifaaH06s
import Derived.Test.YtabojpnelbmifaaH06c
import Derived.Test.YtabojpnelbmifaaH06p
namespace Go.Proofs.Ytabojpnelbmifaa.QA
open Go.RowKit Go.Proofs.YtabojpnelbmifaaW.PrintWords Go.Proofs.YtabojpnelbmifaaW.PrintLast Go.Proofs.YtabojpnelbmifaaW.PrintMore Go.Proofs.Ytabojpnelbmifaa.T
set_option linter.unusedVariables false

theorem own_heap {w : World} {base b n : Nat} {o : Nat → Int} (h : w.heap[b]? = some (.cells (vals o n) 2 (0, 0))) (hb : base ≤ b) (hn : n ≤ 1048576) : Kd.R (Kd.int .i64) 2 w base (fun _ => True) (.slice (some ⟨b, 0, none⟩) n n) ((List.range n).map o) := by
  refine Kd.R_of_own ?_ (fun _ _ => trivial)
  refine ⟨by simp [encs], Or.inr ⟨b, n, vals o n, by simp, hb, h, by simp, by unfold maxLen; omega, by simp [vals_size], ?_⟩⟩
  apply List.ext_getElem
  · simp [encs, vals]
  · intro i h1 h2
    simp [encs, vals]
/-- What taps.Apportion answers. -/
def appF (l : List Int) : Option (List Int × Int) := if (∀ x ∈ l, I64 x) then some (if chkV l = 0 then (appL l, 0) else ([], chkV l)) else none
set_option maxHeartbeats 8000000 in
set_option maxRecDepth 100000 in
theorem appF_calls (A0 : Option Addr) (c0 : Nat) (l0 : List Int) (r1 : List Int) (r2 : Int) (w : World) (hr0 : Kd.C (Kd.int .i64) w A0 l0.length l0) (hc0 : l0.length ≤ c0) (h : appF l0 = some (r1, r2)) :
    Calls Try.prog 10 #[.slice A0 l0.length c0] w fun e w' => ∃ v0_ : Value, e = .returned (.tuple #[v0_, .int .i64 r2]) ∧ Kd.R (Kd.int .i64) 2 w' w.heap.size (fun _ => True) v0_ r1 ∧ Below w.heap.size w w' := by
  unfold appF at h
  by_cases hx : ∀ x ∈ l0, I64 x
  · rw [if_pos hx] at h
    have hi : ∀ i : Int, I64 (rd l0 i) := by
      intro i
      unfold rd
      rw [List.getD_eq_getElem?_getD]
      rcases Nat.lt_or_ge i.toNat l0.length with q | q
      · rw [List.getElem?_eq_getElem q]; exact hx _ (List.getElem_mem _)
      · rw [List.getElem?_eq_none q]; decide
    by_cases hk : chkV l0 = 0
    · rw [if_pos hk] at h
      obtain ⟨rfl, rfl⟩ := Prod.mk.inj (Option.some.inj h)
      have G := good_of_chk (fun i => hi i) hk
      refine (app_calls A0 c0 l0 w hr0 hc0 hi G.n0 G.n1 hk G.lb G.qb (good_fl G)).mono ?_
      rintro e w' ⟨π, o, b1, rfl, h1, h2, h3, h4, h5, h6⟩
      refine ⟨_, rfl, ?_, h6⟩
      rw [← appL_of G h1 h2 h3]
      exact own_heap h4 h5 G.n1
    · rw [if_neg hk] at h
      obtain ⟨rfl, rfl⟩ := Prod.mk.inj (Option.some.inj h)
      have hc := check_calls A0 c0 l0 w hr0 hc0 hi
      have eCH : ∀ args w, (callFunc 23 args).run Try.prog w = .ok (.enter 23 args) w := enters_of Try.func23 (by kernel_rfl) rfl
      obtain ⟨n, hn⟩ : ∃ n, n = l0.length := ⟨_, rfl⟩
      obtain ⟨v, hv⟩ : ∃ v, v = chkV l0 := ⟨_, rfl⟩
      rw [← hn, ← hv] at hc
      rw [← hv] at hk ⊢
      rw [← hn]
      clear hr0 hc0 h hx hi hn hv
      have bk : (v == 0) = false := by simpa using hk
      have bk2 : (v != 0) = true := by simpa using hk
      go_enter Try.func10, Try.ntmps10
      go_wp2_with (go_at_fn 23; refine hc.mono ?_; rintro e w' ⟨rfl, hb⟩)
      go_ret2
      exact ⟨_, rfl, Kd.R_nil _ _ _ _ _, hb⟩
  · rw [if_neg hx] at h; exact absurd h (by simp)

end Go.Proofs.Ytabojpnelbmifaa.QA
