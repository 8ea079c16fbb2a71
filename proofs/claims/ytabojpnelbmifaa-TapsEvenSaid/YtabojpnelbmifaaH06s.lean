/- What functions of the program come to, in plain numbers. -/
import Derived.Test.YtabojpnelbmifaaQAx2
import Derived.Test.YtabojpnelbmifaaTCore
import Derived.Test.YtabojpnelbmifaaTExt
import Derived.Test.YtabojpnelbmifaaH06
import Derived.Test.YtabojpnelbmifaaH06b
import Derived.Test.YtabojpnelbmifaaS06T
namespace Go.Proofs.Ytabojpnelbmifaa.QA
open Go.RowKit Go.Proofs.YtabojpnelbmifaaW.PrintWords Go.Proofs.YtabojpnelbmifaaW.PrintLast Go.Proofs.YtabojpnelbmifaaW.PrintMore Go.Proofs.Ytabojpnelbmifaa.T
open Go.Shelf Go.Lib Go.Sort
set_option linter.unusedVariables false

/-- A row's cells. -/
def vals (f : Nat → Int) (n : Nat) : Array Value := (Array.range n).map fun i => .int .i64 (f i)
def upd (f : Nat → Int) (i : Nat) (v : Int) : Nat → Int := fun j => if j = i then v else f j
theorem vals_size (f : Nat → Int) (n : Nat) : (vals f n).size = n := by simp [vals]
theorem vals_get (f : Nat → Int) {n i : Nat} (h : i < n) : (vals f n)[i]? = some (.int .i64 (f i)) := by simp [vals, h]
theorem vals_made (n : Nat) : madeCells #[.int .i64 0] n = vals (fun _ => 0) n := by
  apply Array.ext
  · simp [madeCells, vals]
  · intro i h1 h2; simp [madeCells, vals, Nat.mod_one]
theorem vals_set (f : Nat → Int) (n i : Nat) (v : Int) : (vals f n).setIfInBounds i (.int .i64 v) = vals (upd f i v) n := by
  apply Array.ext
  · simp [vals]
  · intro j h1 h2
    have hj : j < (vals f n).size := by simpa using h1
    have e1 : ∀ (g : Nat → Int) (hh : j < (vals g n).size), (vals g n)[j] = .int .i64 (g j) := fun g hh => by simp [vals]
    rw [Array.getElem_setIfInBounds hj, e1, e1]
    unfold upd
    by_cases c : i = j
    · subst c; simp
    · rw [if_neg c, if_neg (fun h => c h.symm)]
theorem vals_congr {f g : Nat → Int} {n : Nat} (h : ∀ i, i < n → f i = g i) : vals f n = vals g n := by
  apply Array.ext
  · simp [vals]
  · intro j h1 h2
    simp only [vals, Array.getElem_map, Array.getElem_range]
    rw [h j (by simpa [vals] using h1)]
theorem ha_size (w : World) (o : Obj) : (w.alloc o).heap.size = w.heap.size + 1 := by simp
theorem ha_drew (w : World) : w.drew.heap = w.heap := rfl
theorem ha_at (w : World) (o : Obj) (k : Nat) (h : k = w.heap.size) : (w.alloc o).heap[k]? = some o := by subst h; show (w.heap.push o)[w.heap.size]? = some o; simp
theorem ha_old (w : World) (o : Obj) (k : Nat) (h : k < w.heap.size) : (w.alloc o).heap[k]? = w.heap[k]? := Below.heap_alloc w o k h
/-- What lies in memory while weights are apportioned: three rows and a variable. -/
structure St (w w' : World) (n b1 b2 b3 b4 : Nat) (o q r : Nat → Int) : Prop where
  hb : Below w.heap.size w w'
  k1 : w.heap.size ≤ b1
  k2 : w.heap.size ≤ b2
  k3 : w.heap.size ≤ b3
  k4 : w.heap.size ≤ b4
  ne : b1 ≠ b2 ∧ b1 ≠ b3 ∧ b1 ≠ b4 ∧ b2 ≠ b3 ∧ b2 ≠ b4 ∧ b3 ≠ b4
  h1 : w'.heap[b1]? = some (.cells (vals o n) 2 (0, 0))
  h2 : w'.heap[b2]? = some (.cells (vals q n) 3 (0, 0))
  h3 : w'.heap[b3]? = some (.cells (vals r n) 2 (0, 0))
  h4 : w'.heap[b4]? = some (.cells #[.slice (some ⟨b3, 0, none⟩) n n] 22 (0, 0))
theorem cell_of_heap {w : World} {b i : Nat} {cs : Array Value} {T : TypeId} {v : Value} (h : w.heap[b]? = some (.cells cs T (0, 0))) (hv : cs[i]? = some v) : w.cell? ⟨b, i, none⟩ = some v := by
  simp [World.cell?, h, hv]
theorem frozen_of_heap {w : World} {b i : Nat} {cs : Array Value} {T : TypeId} (h : w.heap[b]? = some (.cells cs T (0, 0))) : w.frozen? ⟨b, i, none⟩ = false := by
  simp [World.frozen?, h]
theorem St.drewN {w w' : World} {n b1 b2 b3 b4 : Nat} {o q r : Nat → Int} (h : St w w' n b1 b2 b3 b4 o q r) (m : Nat) : St w (w'.drewN m) n b1 b2 b3 b4 o q r :=
  ⟨pw_below_drewN h.hb m, h.k1, h.k2, h.k3, h.k4, h.ne, h.h1, h.h2, h.h3, h.h4⟩
theorem St.below {w w' w'' : World} {n b1 b2 b3 b4 : Nat} {o q r : Nat → Int} (h : St w w' n b1 b2 b3 b4 o q r) (hb : Below w'.heap.size w' w'') : St w w'' n b1 b2 b3 b4 o q r := by
  have lt : ∀ {b : Nat} {x : Obj}, w'.heap[b]? = some x → b < w'.heap.size := fun {b x} h => (Array.getElem?_eq_some_iff.1 h).1
  exact ⟨h.hb.trans (hb.mono h.hb.size), h.k1, h.k2, h.k3, h.k4, h.ne, (hb.block _ (lt h.h1)).trans h.h1, (hb.block _ (lt h.h2)).trans h.h2, (hb.block _ (lt h.h3)).trans h.h3, (hb.block _ (lt h.h4)).trans h.h4⟩
theorem St.set1 {w w' : World} {n b1 b2 b3 b4 : Nat} {o q r : Nat → Int} (h : St w w' n b1 b2 b3 b4 o q r) (i : Nat) (v : Int) : St w (w'.setCell ⟨b1, i, none⟩ (.int .i64 v)) n b1 b2 b3 b4 (upd o i v) q r := by
  obtain ⟨n1, n2, n3, n4, n5, n6⟩ := h.ne
  refine ⟨h.hb.setCell h.k1 _, h.k1, h.k2, h.k3, h.k4, h.ne, ?_, ?_, ?_, ?_⟩
  · rw [heap_setCell_same _ _ _ _ _ _ h.h1, vals_set]
  · rw [heap_setCell_other _ _ _ _ (by exact n1.symm)]; exact h.h2
  · rw [heap_setCell_other _ _ _ _ (by exact n2.symm)]; exact h.h3
  · rw [heap_setCell_other _ _ _ _ (by exact n3.symm)]; exact h.h4
theorem St.set2 {w w' : World} {n b1 b2 b3 b4 : Nat} {o q r : Nat → Int} (h : St w w' n b1 b2 b3 b4 o q r) (i : Nat) (v : Int) : St w (w'.setCell ⟨b2, i, none⟩ (.int .i64 v)) n b1 b2 b3 b4 o (upd q i v) r := by
  obtain ⟨n1, n2, n3, n4, n5, n6⟩ := h.ne
  refine ⟨h.hb.setCell h.k2 _, h.k1, h.k2, h.k3, h.k4, h.ne, ?_, ?_, ?_, ?_⟩
  · rw [heap_setCell_other _ _ _ _ (by exact n1)]; exact h.h1
  · rw [heap_setCell_same _ _ _ _ _ _ h.h2, vals_set]
  · rw [heap_setCell_other _ _ _ _ (by exact n4.symm)]; exact h.h3
  · rw [heap_setCell_other _ _ _ _ (by exact n5.symm)]; exact h.h4
theorem St.set3 {w w' : World} {n b1 b2 b3 b4 : Nat} {o q r : Nat → Int} (h : St w w' n b1 b2 b3 b4 o q r) (i : Nat) (v : Int) : St w (w'.setCell ⟨b3, i, none⟩ (.int .i64 v)) n b1 b2 b3 b4 o q (upd r i v) := by
  obtain ⟨n1, n2, n3, n4, n5, n6⟩ := h.ne
  refine ⟨h.hb.setCell h.k3 _, h.k1, h.k2, h.k3, h.k4, h.ne, ?_, ?_, ?_, ?_⟩
  · rw [heap_setCell_other _ _ _ _ (by exact n2)]; exact h.h1
  · rw [heap_setCell_other _ _ _ _ (by exact n4)]; exact h.h2
  · rw [heap_setCell_same _ _ _ _ _ _ h.h3, vals_set]
  · rw [heap_setCell_other _ _ _ _ (by exact n6.symm)]; exact h.h4
theorem St.congr {w w' : World} {n b1 b2 b3 b4 : Nat} {o q r o' q' r' : Nat → Int} (h : St w w' n b1 b2 b3 b4 o q r) (ho : ∀ i, i < n → o i = o' i) (hq : ∀ i, i < n → q i = q' i) (hr : ∀ i, i < n → r i = r' i) : St w w' n b1 b2 b3 b4 o' q' r' :=
  ⟨h.hb, h.k1, h.k2, h.k3, h.k4, h.ne, by rw [← vals_congr ho]; exact h.h1, by rw [← vals_congr hq]; exact h.h2, by rw [← vals_congr hr]; exact h.h3, h.h4⟩

/-- An element's number, as a value. -/
def encF {N : Nat} (x : Fin (N + 1)) : Value := .int .i64 ((x.val : Nat) : Int)
theorem encF_one {N : Nat} : OneCell (encF (N := N)) := fun x => rfl
/-- All numbers, in order. -/
def allF (N : Nat) : Array (Fin (N + 1)) := Array.ofFn fun i => i
theorem allF_size (N : Nat) : (allF N).size = N + 1 := by simp [allF]
theorem allF_get (N i : Nat) (h : i < N + 1) : ((allF N)[i]!).val = i := by
  unfold allF
  rw [getElem!_pos _ i (by simpa using h)]
  simp
theorem heap_putRow_other {α : Type} [Inhabited α] (enc : α → Value) (w : World) (b off k : Nat) (d : Array α) (h : k ≠ b) : (putRow enc w b off d).heap[k]? = w.heap[k]? := by
  unfold putRow mapBlock
  show (w.heap.modify b _)[k]? = _
  rw [Array.getElem?_modify, if_neg (fun q => h q.symm)]
theorem heap_putRow_same {N n : Nat} (w : World) (b T : Nat) (f : Nat → Int) (d : Array (Fin (N + 1))) (hd : d.size = n) (h : w.heap[b]? = some (.cells (vals f n) T (0, 0))) :
    (putRow encF w b 0 d).heap[b]? = some (.cells (vals (fun j => ((d[j]!).val : Int)) n) T (0, 0)) := by
  unfold putRow mapBlock
  show (w.heap.modify b _)[b]? = _
  rw [Array.getElem?_modify, if_pos rfl, h]
  simp only [Option.map_some, onCells]
  congr 2
  apply Array.ext
  · simp [putCells, vals]
  · intro j h1 h2
    have hj : j < n := by simpa [vals] using h2
    simp [putCells, vals, encF, hd, hj]
theorem St.sorted {w w' w'' : World} {N b1 b2 b3 b4 : Nat} {o q r : Nat → Int} {d : Array (Fin (N + 1))} (h : St w w' (N + 1) b1 b2 b3 b4 o q r) (hd : d.size = N + 1) (hs : SW encF w' b2 0 d w'') :
    St w w'' (N + 1) b1 b2 b3 b4 o (fun j => ((d[j]!).val : Int)) r := by
  obtain ⟨m, os, rfl⟩ := hs
  obtain ⟨n1, n2, n3, n4, n5, n6⟩ := h.ne
  have lt : ∀ {b : Nat} {x : Obj}, w'.heap[b]? = some x → b < w'.heap.size := fun {b x} h => (Array.getElem?_eq_some_iff.1 h).1
  have sz : (putRow encF (Sort.ahead w' m) b2 0 d).heap.size = w'.heap.size := by rw [size_putRow]; rfl
  have old : ∀ k, k < w'.heap.size → k ≠ b2 → (sortWorld encF w' b2 0 m d os).heap[k]? = w'.heap[k]? := by
    intro k hk hne
    unfold sortWorld
    rw [heap_grow_old _ _ (by rw [sz]; exact hk), heap_putRow_other _ _ _ _ _ _ hne]; rfl
  refine ⟨?_, h.k1, h.k2, h.k3, h.k4, h.ne, ?_, ?_, ?_, ?_⟩
  · refine ⟨h.hb.os, h.hb.tape, h.hb.output, ?_, fun k hk => ?_⟩
    · have := h.hb.size
      unfold sortWorld
      rw [size_grow, sz]; omega
    · rw [old k (Nat.lt_of_lt_of_le hk h.hb.size) (by have := h.k2; omega)]
      exact h.hb.block k hk
  · rw [old _ (lt h.h1) n1]; exact h.h1
  · unfold sortWorld
    rw [heap_grow_old _ _ (by rw [sz]; exact lt h.h2)]
    exact heap_putRow_same _ _ _ q d hd h.h2
  · rw [old _ (lt h.h3) (fun e => n4 e.symm)]; exact h.h3
  · rw [old _ (lt h.h4) (fun e => n5 e.symm)]; exact h.h4
theorem St.row {w w' : World} {N b1 b2 b3 b4 : Nat} {o r : Nat → Int} (h : St w w' (N + 1) b1 b2 b3 b4 o (fun j => (j : Int)) r) : Row1 encF w' b2 0 (allF N) := by
  refine ⟨encF_one, fun j hj => ⟨?_, ?_⟩, (Array.getElem?_eq_some_iff.1 h.h2).1⟩
  · rw [allF_size] at hj
    have := cell_of_heap (i := j) h.h2 (vals_get _ hj)
    rw [Nat.zero_add, this]
    unfold encF
    rw [allF_get N j hj]
  · rw [Nat.zero_add]; exact frozen_of_heap h.h2
theorem cmpV_neg (x y : Int) : cmpV x y < 0 ↔ x < y := by
  unfold cmpV
  by_cases h : x < y
  · rw [if_pos h]; omega
  · rw [if_neg h]; split <;> omega
theorem St.cmp {w w' : World} {N b1 b2 b3 b4 : Nat} {o q r : Nat → Int} (h : St w w' (N + 1) b1 b2 b3 b4 o q r) (hn : N + 1 < 4611686018427387904) :
    CmpLays1 Try.prog 27 #[.pointer (some ⟨b4, 0, none⟩)] (encF (N := N)) (fun x y => cmpV (r y.val) (r x.val)) b2 0 (N + 1) w' := by
  intro m os dk hdk x y
  obtain ⟨n1, n2, n3, n4, n5, n6⟩ := h.ne
  have h' := h.sorted hdk ⟨m, os, rfl⟩
  exact closure_calls b3 b4 (N + 1) x.val y.val (r x.val) (r y.val) _ hn x.isLt y.isLt (cell_of_heap h'.h4 rfl) (cell_of_heap h'.h3 (vals_get _ x.isLt)) (cell_of_heap h'.h3 (vals_get _ y.isLt))

/-- An order of all numbers below n: the greater key first, of two alike the one that was ahead. -/
def Ordr (n : Nat) (r : Nat → Int) (π : Nat → Nat) : Prop := (∀ p, p < n → π p < n) ∧ (∀ j, j < n → ∃ p, p < n ∧ π p = j) ∧ (∀ p q, p < q → q < n → r (π q) < r (π p) ∨ (r (π p) = r (π q) ∧ π p < π q))
theorem sort_step {w w' : World} {n b1 b2 b3 b4 : Nat} {o r : Nat → Int} (h : St w w' n b1 b2 b3 b4 o (fun j => (j : Int)) r) (h1 : 1 ≤ n) (h2 : n ≤ 1048576) :
    Calls Try.prog 26 #[.slice (some ⟨b2, 0, none⟩) n n, .func (.func 27) #[] #[.pointer (some ⟨b4, 0, none⟩)]] w' fun e w'' => e = .returned (.tuple #[]) ∧ ∃ π : Nat → Nat, St w w'' n b1 b2 b3 b4 o (fun j => (π j : Int)) r ∧ Ordr n r π := by
  obtain ⟨N, rfl⟩ : ∃ N, n = N + 1 := ⟨n - 1, by omega⟩
  have eg : ∀ args w, (callFunc 27 args).run Try.prog w = .ok (.enter 27 args) w := enters_of Try.func27 (by kernel_rfl) rfl
  have hsz := allF_size N
  have hc := sortStable_calls (encF (N := N)) (fun x y => cmpV (r y.val) (r x.val)) 27 #[.pointer (some ⟨b4, 0, none⟩)] (fun x => r x.val) (fun x => x.val) b2 0 (N + 1) (allF N) w' eg
    (by rw [hsz]; exact h.cmp (by omega)) (fun x y => cmpV_neg _ _) h.row (by rw [hsz]; omega)
    (fun i j h1 h2 h3 => by rw [hsz] at h3; show ((allF N)[i]!).val < ((allF N)[j]!).val; rw [allF_get N i (by omega), allF_get N j h3]; exact h2)
  rw [hsz] at hc
  refine hc.mono ?_
  rintro e w'' ⟨rfl, d', h3, h4, h5⟩
  refine ⟨rfl, fun j => (d'[j]!).val, h.sorted (by rw [h4.1, hsz]) h3, fun p hp => (d'[p]!).isLt, fun j hj => ?_, fun p q hpq hq => ?_⟩
  · obtain ⟨l, l1, l2, l3⟩ := h4.2.2.2 j (by omega) hj
    exact ⟨l, l2, by show (d'[l]!).val = j; rw [← l3]; exact allF_get N j hj⟩
  · exact h5 p q (by omega) hpq hq

/-- A weight's share, downwards, and what is left of it. -/
def qV (l : List Int) (s : Int) (j : Nat) : Int := rd l (j : Int) * 16384 / s
def mV (l : List Int) (s : Int) (j : Nat) : Int := rd l (j : Int) * 16384 % s
/-- The sum of the first so many. -/
def psum (f : Nat → Int) : Nat → Int
  | 0 => 0
  | i + 1 => psum f i + f i
theorem psum_bnd (f : Nat → Int) (n : Nat) (h : ∀ j, j < n → -134217728 ≤ f j ∧ f j ≤ 134217728) : ∀ i, i ≤ n → -134217728 * (i : Int) ≤ psum f i ∧ psum f i ≤ 134217728 * (i : Int)
  | 0, _ => by simp [psum]
  | i + 1, hi => by
    have := psum_bnd f n h i (by omega)
    have := h i (by omega)
    rw [psum]; omega

end Go.Proofs.Ytabojpnelbmifaa.QA
