/- What a table is in memory, and what its functions come to. -/
import Derived.Test.YtebipmdopdogkaaDoorQAx12
import Derived.Test.YtebipmdopdogkaaDoorTCore
import Derived.Test.YtebipmdopdogkaaDoorTExt
import Derived.Test.YtebipmdopdogkaaDoorH06e
namespace Go.Proofs.YtebipmdopdogkaaDoor.QA
open Go.RowKit Go.Proofs.YtebipmdopdogkaaDoorW.PrintWords Go.Proofs.YtebipmdopdogkaaDoorW.PrintLast Go.Proofs.YtebipmdopdogkaaDoorW.PrintMore Go.Proofs.YtebipmdopdogkaaDoor.T
set_option linter.unusedVariables false
set_option linter.unusedSimpArgs false

theorem heap_setCells_const (v : Int) (b T n : Nat) : ∀ (k o : Nat) (w : World) (f : Nat → Int), w.heap[b]? = some (.cells (vals f n) T (0, 0)) →
    (w.setCells b o (List.replicate k (.int .i64 v))).heap[b]? = some (.cells (vals (fun j => if o ≤ j ∧ j < o + k then v else f j) n) T (0, 0))
  | 0, o, w, f, h => by
    rw [List.replicate_zero, World.setCells, h]
    congr 2
    exact vals_congr (fun i _ => by rw [if_neg (by omega)])
  | k + 1, o, w, f, h => by
    rw [List.replicate_succ, World.setCells]
    have h1 : (w.setCell ⟨b, o, none⟩ (.int .i64 v)).heap[b]? = some (.cells (vals (upd f o v) n) T (0, 0)) := by rw [heap_setCell_same _ _ _ _ _ _ h, vals_set]
    rw [heap_setCells_const v b T n k (o + 1) _ _ h1]
    congr 2
    refine vals_congr (fun i _ => ?_)
    unfold upd
    by_cases c : i = o
    · subst c; rw [if_pos (by omega : i ≤ i ∧ i < i + (k + 1))]; split <;> simp
    · by_cases c2 : o + 1 ≤ i ∧ i < o + 1 + k
      · rw [if_pos c2, if_pos (by omega)]
      · rw [if_neg c2, if_neg c, if_neg (by omega)]
theorem below_setCells {w w' : World} {b : Nat} (hb : w.heap.size ≤ b) : ∀ (vs : List Value) (o : Nat) (w' : World), Below w.heap.size w w' → Below w.heap.size w (w'.setCells b o vs)
  | [], _, _, h => h
  | v :: r, o, w', h => by rw [World.setCells]; exact below_setCells (w := w) (w' := w') hb r (o + 1) _ (h.setCell hb _)

set_option maxHeartbeats 8000000 in
set_option maxRecDepth 100000 in
theorem repeat_calls (A0 : Option Addr) (c0 : Nat) (v : Int) (n : Nat) (w : World) (hr0 : Kd.C (Kd.int .i64) w A0 1 [v]) (hc0 : 1 ≤ c0) (hn : 1 ≤ n ∧ n ≤ 4096) :
    Calls Tryd.prog 51 #[.slice A0 1 c0, .int .i64 n] w fun e w' => ∃ b : Nat, e = .returned (.slice (some ⟨b, 0, none⟩) n n) ∧ w.heap.size ≤ b ∧ w'.heap[b]? = some (.cells (vals (fun _ => v) n) 2 (0, 0)) ∧ Below w.heap.size w w' := by
  have mixed : Tryd.prog.follows .mixedOrders = true := by kernel_rfl
  have hmul := Tryd.bits_Mul 1 n (by omega) (by omega) w
  rw [show 1 * n / 18446744073709551616 = 0 from by omega, show 1 * n % 18446744073709551616 = n from by omega] at hmul
  have eMU : ∀ args w, (callFunc 71 args).run Tryd.prog w = .ok (.enter 71 args) w := enters_of Tryd.func71 (by kernel_rfl) rfl
  obtain ⟨ad, ea, hx0⟩ := Kd.at_int hr0 0 (by decide) (by decide)
  cases ea
  have hx : w.cell? ad = some (.int .i64 v) := by
    have e : ad.add (0 : Int).toNat = ad := by cases ad; rfl
    rw [e] at hx0; exact hx0
  have mk1 := print_make (P := Tryd.prog) 25 2 .i64 8 (by kernel_rfl) (by kernel_rfl) (by decide) n (by omega)
  have zn : ¬ ((n : Int) < 0) := by omega
  have zn2 : (0 : Int) ≤ (n : Int) := by omega
  have w1 : IntKind.u64.wrap (n : Int) = (n : Int) := by rw [u64w]; omega
  have w2 : IntKind.i64.wrap (n : Int) = (n : Int) := by rw [i64w]; exact w64_id (by omega) (by omega)
  clear hr0 hx0
  go_enter Tryd.func51, Tryd.ntmps51
  go_upto_region 7 with (go_at_fn 71; refine hmul.mono ?_; rintro e w' ⟨rfl, rfl⟩)
  obtain ⟨b, hb⟩ : ∃ b, b = w'.heap.size := ⟨_, rfl⟩
  have h0 : (w'.alloc (.cells (madeCells #[.int .i64 0] n) 2)).heap[b]? = some (.cells (vals (fun _ => 0) n) 2 (0, 0)) := by rw [hb, ha_at _ _ _ rfl, vals_made]
  have hx2 : (w'.alloc (.cells (madeCells #[.int .i64 0] n) 2)).cell? ad = some (.int .i64 v) := (Below.cell ((Below.refl w'.heap.size w').alloc (Nat.le_refl _) _) (World.block_lt_of_cell? _ _ hx)).trans hx
  have hcp := run_copy_cells (P := Tryd.prog) (w'.alloc (.cells (madeCells #[.int .i64 0] n) 2)) 25 25 3 2 b 0 n n ad 1 c0 (List.replicate 1 (.int .i64 v)) (by kernel_rfl) (by kernel_rfl) (by rw [List.length_replicate]; exact (Nat.min_eq_left hn.1).symm)
    (fun j u hj => by cases j with
      | zero => simp at hj; subst hj; exact (by cases ad; exact hx2)
      | succ j => simp at hj)
    (fun j hj => by rw [cell_of_heap (i := 0 + j) h0 (vals_get _ (by simp at hj; omega))]; rfl) (fun j hj => frozen_of_heap h0) (by simp [Value.oneCell'])
  have hbl := below_setCells (w := w') (w' := w') (b := b) (by omega) (List.replicate 1 (.int .i64 v)) 0 _ ((Below.refl w'.heap.size w').alloc (Nat.le_refl _) (.cells (madeCells #[.int .i64 0] n) 2))
  have h1 := heap_setCells_const v b 2 n 1 0 _ _ h0
  rw [List.length_replicate] at hcp
  rw [← hb]
  have HB := Aside0.mk (show w'.heap.size ≤ b by omega)
  generalize w'.alloc (.cells (madeCells #[.int .i64 0] n) 2) = W1 at hcp h0 h1 hbl ⊢
  generalize W1.setCells b 0 (List.replicate 1 (.int .i64 v)) = W2 at hcp h1 hbl
  have HBL := Aside0.mk hbl
  have H1 := Aside0.mk (show W2.heap[b]? = some (.cells (vals (fun j => if j < 1 then v else 0) n) 2 (0, 0)) by rw [h1]; congr 2; exact vals_congr (fun i _ => by by_cases c : i < 1; rw [if_pos (by omega), if_pos c]; rw [if_neg (by omega), if_neg c]))
  clear h0 h1 hbl mk1 hmul hx hx2 hb
  have hgi : goInt ((1 : Nat) : Int) = .int .i64 1 := rfl
  rw [hgi] at hcp
  go_wp2
  clear hcp hgi
  go_loopg [8] n (fun kx s8 wr => ∃ i : Nat, s8 = .int .i64 i ∧ 1 ≤ i ∧ i ≤ n ∧ n - i ≤ kx ∧ Aside0 (Below w'.heap.size w' wr) ∧ Aside0 (wr.heap[b]? = some (.cells (vals (fun j => if j < i then v else 0) n) 2 (0, 0))))
  case atStart => exact ⟨1, rfl, by omega, by omega, by omega, HBL, H1⟩
  case round =>
    clear HBL H1
    obtain ⟨i, rfl, i1, i2, hk, HBL, H1⟩ := hrel
    by_cases hlt : (i : Int) < (n : Int)
    · obtain ⟨k, hk2⟩ : ∃ k, k = min i (n - i) := ⟨_, rfl⟩
      have hk3 : 1 ≤ k ∧ k ≤ i ∧ k ≤ n - i := by omega
      have pi : (0 : Int) ≤ (i : Int) := by omega
      have qi : (i : Int) ≤ (n : Int) := by omega
      have hcp := fun m => run_copy_cells (P := Tryd.prog) (wr.drewN m) 25 25 3 2 b i (n - i) (n - i) ⟨b, 0, none⟩ i n (List.replicate k (.int .i64 v)) (by kernel_rfl) (by kernel_rfl) (by rw [List.length_replicate]; exact hk2)
        (fun j u hj => by
          have hj2 : j < k := by
            apply Classical.byContradiction; intro q
            rw [List.getElem?_eq_none (by simp; omega)] at hj; exact absurd hj (by simp)
          rw [List.getElem?_replicate, if_pos hj2] at hj
          have := cell_of_heap (i := 0 + j) (w := wr.drewN m) H1.out (vals_get _ (by omega))
          rw [if_pos (by omega)] at this
          rw [← hj, show (⟨b, 0, none⟩ : Addr).add j = ⟨b, 0 + j, none⟩ from by unfold Addr.add; split <;> simp_all]; exact this)
        (fun j hj => by rw [cell_of_heap (i := i + j) (w := wr.drewN m) H1.out (vals_get _ (by simp at hj; omega))]; rfl) (fun j hj => frozen_of_heap (w := wr.drewN m) H1.out) (by intro x hx; rw [List.eq_of_mem_replicate hx]; rfl)
      have hb2 := fun m => below_setCells (w := w') (w' := w') (b := b) HB.out (List.replicate k (.int .i64 v)) i (wr.drewN m) (pw_below_drewN HBL.out m)
      have h2 := fun m => heap_setCells_const v b 2 n k i (wr.drewN m) _ H1.out
      simp only [List.length_replicate] at hcp
      have wik : IntKind.i64.wrap ((i : Int) + (k : Int)) = (i : Int) + (k : Int) := by rw [i64w]; exact w64_id (by omega) (by omega)
      have hgi : goInt (k : Int) = .int .i64 (k : Int) := rfl
      have hcp1 : (Builtin.copy_ #[25, 25] 3 #[.slice (some ⟨b, i, none⟩) (n - i) (n - i), .slice (some ⟨b, 0, none⟩) i n]).run Tryd.prog wr.drew = .ok (.int .i64 (k : Int)) (wr.drew.setCells b i (List.replicate k (.int .i64 v))) := hcp 1
      have HB2 := Aside0.mk (hb2 1)
      have H2 := Aside0.mk (h2 1)
      clear hcp hb2 h2 hgi hk2
      go_upto_region 9 with fail
      go_region_held3 (fun _ => True) (trivial) (fail)
      have HB3 : Aside0 (Below w'.heap.size w' (wr.drew.setCells b i (List.replicate k (.int .i64 v)))) := HB2
      have H3 : Aside0 ((wr.drew.setCells b i (List.replicate k (.int .i64 v))).heap[b]? = some (.cells (vals (fun j => if i ≤ j ∧ j < i + k then v else if j < i then v else 0) n) 2 (0, 0))) := H2
      clear HB2 H2 hcp1 H1 HBL
      generalize wr.drew.setCells b i (List.replicate k (.int .i64 v)) = W3 at HB3 H3 ⊢
      go_wp2
      go_roundg (n - (i + k))
      case measure => omega
      case rel =>
        refine ⟨i + k, by simp, by omega, by omega, Nat.le_refl _, HB3, ⟨?_⟩⟩
        rw [H3.out]
        congr 2
        refine vals_congr (fun j hj => ?_)
        by_cases c1 : i ≤ j ∧ j < i + k
        · rw [if_pos c1, if_pos (by omega)]
        · rw [if_neg c1]
          by_cases c2 : j < i
          · rw [if_pos c2, if_pos (by omega)]
          · rw [if_neg c2, if_neg (by omega)]
    · have hin : i = n := by omega
      subst hin
      go_wp2
      go_ret
      refine ⟨b, rfl, HB.out, ?_, HBL.out⟩
      rw [H1.out]
      congr 2
      exact vals_congr (fun j hj => by rw [if_pos hj])

/-- What slices.Repeat answers of one number. -/
def repF (l : List Int) (c : Int) : Option (List Int) := if l.length = 1 ∧ 1 ≤ c ∧ c ≤ 4096 then some (List.replicate c.toNat (rd l 0)) else none
theorem repF_calls (A0 : Option Addr) (c0 : Nat) (l0 : List Int) (a1 : Int) (r : List Int) (w : World) (hr0 : Kd.C (Kd.int .i64) w A0 l0.length l0) (hc0 : l0.length ≤ c0) (h : repF l0 a1 = some r) :
    Calls Tryd.prog 51 #[.slice A0 l0.length c0, .int .i64 a1] w fun e w' => ∃ v0_ : Value, e = .returned v0_ ∧ Kd.R (Kd.int .i64) 2 w' w.heap.size (fun _ => True) v0_ r ∧ Below w.heap.size w w' := by
  unfold repF at h
  by_cases c : l0.length = 1 ∧ 1 ≤ a1 ∧ a1 ≤ 4096
  · rw [if_pos c] at h
    obtain rfl := Option.some.inj h
    obtain ⟨v, rfl⟩ : ∃ v, l0 = [v] := List.length_eq_one_iff.1 c.1
    obtain ⟨n, rfl⟩ := Int.eq_ofNat_of_zero_le (show 0 ≤ a1 by omega)
    refine (repeat_calls A0 c0 v n w hr0 hc0 (by omega)).mono ?_
    rintro e w' ⟨b, rfl, h1, h2, h3⟩
    refine ⟨_, rfl, ?_, h3⟩
    have e : List.replicate ((n : Int)).toNat (rd [v] 0) = (List.range n).map (fun _ => v) := by
      apply List.ext_getElem
      · simp
      · intro i h1 h2; simp [rd]
    rw [e]
    refine Kd.R_of_own ?_ (fun _ _ => trivial)
    refine ⟨by simp [encs], Or.inr ⟨b, n, vals (fun _ => v) n, by simp, h1, h2, by simp, by unfold maxLen; omega, by simp [vals_size], ?_⟩⟩
    apply List.ext_getElem
    · simp [encs, vals]
    · intro i h1 h2
      simp [encs, vals]
  · rw [if_neg c] at h; exact absurd h (by simp)

end Go.Proofs.YtebipmdopdogkaaDoor.QA
