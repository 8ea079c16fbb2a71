/- Joined by wip/tools/bundle.py out of: S06P S06W S06M S06N S06S S06T. -/
import Derived.Sort.Defs
import Derived.Sort.Row
import Derived.Sort.WalkC
import Derived.Test.YtebipmdopdogkaaGreatDoorProg
import Derived.Shelf.SlSortCmp.Kit1
import Derived.Sort.WalkA
import Derived.Sort.WalkB2
import Derived.Sort.WalkB12
import Derived.Deep.LoopGhost
import Derived.KernelRfl
import Derived.Deep.DeepCutAuto
namespace Go.Proofs.YtebipmdopdogkaaGreatDoor.S
open Go.Sort
variable {α : Type} [Inhabited α]
set_option linter.unusedVariables false
set_option linter.unusedSectionVars false
theorem swp_size (d : Array α) (i j : Nat) : (swp d i j).size = d.size := by unfold swp; simp
theorem swp_get (d : Array α) {i j : Nat} (hi : i < d.size) (hj : j < d.size) (k : Nat) : (swp d i j)[k]! = if k = j then d[i]! else if k = i then d[j]! else d[k]! := by
  unfold swp
  by_cases h : k = j
  · subst h; rw [if_pos rfl, getElem!_set_same _ _ _ (by simpa using hj)]
  · rw [if_neg h, getElem!_set_other _ _ _ _ h]
    by_cases g : k = i
    · subst g; rw [if_pos rfl, getElem!_set_same _ _ _ hi]
    · rw [if_neg g, getElem!_set_other _ _ _ _ g]
/-- Two stretches exchanged, from the first place on. -/
def swpRange (d : Array α) (a b : Nat) : Nat → Array α
  | 0 => d
  | n + 1 => swp (swpRange d a b n) (a + n) (b + n)
theorem swpRange_size (d : Array α) (a b : Nat) : ∀ n, (swpRange d a b n).size = d.size
  | 0 => rfl
  | n + 1 => by rw [swpRange, swp_size, swpRange_size d a b n]
theorem swpRange_get (d : Array α) (a b : Nat) : ∀ n, a + n ≤ b → b + n ≤ d.size → ∀ k, (swpRange d a b n)[k]! = if a ≤ k ∧ k < a + n then d[k - a + b]! else if b ≤ k ∧ k < b + n then d[k - b + a]! else d[k]! := by
  intro n
  induction n with
  | zero => intro h1 h2 k; rw [if_neg (by omega), if_neg (by omega)]; rfl
  | succ n ih =>
    intro h1 h2 k
    have hz := swpRange_size d a b n
    rw [swpRange, swp_get _ (by omega) (by omega)]
    have i1 := ih (by omega) (by omega)
    by_cases c1 : k = b + n
    · rw [if_pos c1, i1, if_neg (by omega), if_neg (by omega), if_neg (by omega), if_pos (by omega)]
      exact congrArg (fun q => d[q]!) (by omega)
    rw [if_neg c1]
    by_cases c2 : k = a + n
    · rw [if_pos c2, i1, if_neg (by omega), if_neg (by omega), if_pos (by omega)]
      exact congrArg (fun q => d[q]!) (by omega)
    rw [if_neg c2, i1]
    by_cases c3 : a ≤ k ∧ k < a + n
    · rw [if_pos c3, if_pos (by omega)]
    rw [if_neg c3, if_neg (show ¬ (a ≤ k ∧ k < a + (n + 1)) from by omega)]
    by_cases c4 : b ≤ k ∧ k < b + n
    · rw [if_pos c4, if_pos (by omega)]
    rw [if_neg c4, if_neg (by omega)]
/-- A stretch turned about its middle m: i behind it, j ahead. -/
def rotLoop (m : Nat) : Nat → Array α → Nat → Nat → Array α
  | 0, d, i, _ => swpRange d (m - i) m i
  | f + 1, d, i, j => if i = j then swpRange d (m - i) m i else if j < i then rotLoop m f (swpRange d (m - i) m j) (i - j) j else rotLoop m f (swpRange d (m - i) (m + j - i) i) i (j - i)
theorem rotLoop_size (m : Nat) : ∀ f (d : Array α) i j, (rotLoop m f d i j).size = d.size := by
  intro f
  induction f with
  | zero => intro d i j; exact swpRange_size _ _ _ _
  | succ f ih =>
    intro d i j
    rw [rotLoop]
    split
    · exact swpRange_size _ _ _ _
    · split
      · rw [ih, swpRange_size]
      · rw [ih, swpRange_size]
theorem rotLoop_get (m : Nat) : ∀ f (d : Array α) i j, i + j ≤ f + 1 → 1 ≤ i → 1 ≤ j → i ≤ m → m + j ≤ d.size → ∀ k, (rotLoop m f d i j)[k]! = if m - i ≤ k ∧ k < m - i + j then d[k + i]! else if m - i + j ≤ k ∧ k < m + j then d[k - j]! else d[k]! := by
  intro f
  induction f with
  | zero => intro d i j hf hi hj; omega
  | succ f ih =>
    intro d i j hf hi hj him hmj k
    rw [rotLoop]
    by_cases c : i = j
    · subst c
      rw [if_pos rfl, swpRange_get _ _ _ _ (by omega) (by omega)]
      by_cases c1 : m - i ≤ k ∧ k < m - i + i
      · rw [if_pos c1, if_pos c1]; exact congrArg (fun q => d[q]!) (by omega)
      rw [if_neg c1, if_neg c1]
      by_cases c2 : m ≤ k ∧ k < m + i
      · rw [if_pos c2, if_pos (by omega)]; exact congrArg (fun q => d[q]!) (by omega)
      rw [if_neg c2, if_neg (by omega)]
    rw [if_neg c]
    by_cases c0 : j < i
    · rw [if_pos c0, ih _ _ _ (by omega) (by omega) hj (by omega) (by rw [swpRange_size]; omega)]
      have g := swpRange_get d (m - i) m j (by omega) (by omega)
      by_cases c1 : m - (i - j) ≤ k ∧ k < m - (i - j) + j
      · rw [if_pos c1, g, if_neg (show ¬ (m - i ≤ k + (i - j) ∧ k + (i - j) < m - i + j) from by omega), if_pos (show m ≤ k + (i - j) ∧ k + (i - j) < m + j from by omega),
          if_neg (show ¬ (m - i ≤ k ∧ k < m - i + j) from by omega), if_pos (show m - i + j ≤ k ∧ k < m + j from by omega)]
        exact congrArg (fun q => d[q]!) (by omega)
      rw [if_neg c1]
      by_cases c2 : m - (i - j) + j ≤ k ∧ k < m + j
      · rw [if_pos c2, g, if_neg (show ¬ (m - i ≤ k - j ∧ k - j < m - i + j) from by omega), if_neg (show ¬ (m ≤ k - j ∧ k - j < m + j) from by omega),
          if_neg (show ¬ (m - i ≤ k ∧ k < m - i + j) from by omega), if_pos (show m - i + j ≤ k ∧ k < m + j from by omega)]
      rw [if_neg c2, g]
      by_cases c3 : m - i ≤ k ∧ k < m - i + j
      · rw [if_pos c3, if_pos c3]; exact congrArg (fun q => d[q]!) (by omega)
      rw [if_neg c3, if_neg c3, if_neg (show ¬ (m ≤ k ∧ k < m + j) from by omega), if_neg (show ¬ (m - i + j ≤ k ∧ k < m + j) from by omega)]
    · rw [if_neg c0, ih _ _ _ (by omega) hi (by omega) (by omega) (by rw [swpRange_size]; omega)]
      have g := swpRange_get d (m - i) (m + j - i) i (by omega) (by omega)
      by_cases c1 : m - i ≤ k ∧ k < m - i + (j - i)
      · rw [if_pos c1, g, if_neg (show ¬ (m - i ≤ k + i ∧ k + i < m - i + i) from by omega), if_neg (show ¬ (m + j - i ≤ k + i ∧ k + i < m + j - i + i) from by omega), if_pos (show m - i ≤ k ∧ k < m - i + j from by omega)]
      rw [if_neg c1]
      by_cases c2 : m - i + (j - i) ≤ k ∧ k < m + (j - i)
      · rw [if_pos c2, g, if_pos (show m - i ≤ k - (j - i) ∧ k - (j - i) < m - i + i from by omega), if_pos (show m - i ≤ k ∧ k < m - i + j from by omega)]
        exact congrArg (fun q => d[q]!) (by omega)
      rw [if_neg c2, g]
      by_cases c4 : m - i + j ≤ k ∧ k < m + j
      · rw [if_neg (show ¬ (m - i ≤ k ∧ k < m - i + i) from by omega), if_pos (show m + j - i ≤ k ∧ k < m + j - i + i from by omega), if_neg (show ¬ (m - i ≤ k ∧ k < m - i + j) from by omega), if_pos c4]
        exact congrArg (fun q => d[q]!) (by omega)
      rw [if_neg (show ¬ (m - i ≤ k ∧ k < m - i + i) from by omega), if_neg (show ¬ (m + j - i ≤ k ∧ k < m + j - i + i) from by omega), if_neg (show ¬ (m - i ≤ k ∧ k < m - i + j) from by omega), if_neg c4]
/-- The order that a stable sort by falling keys comes to: the greater key first, of two alike the one that was ahead. -/
def Lx (key : α → Int) (idx : α → Nat) (x y : α) : Prop := key y < key x ∨ key x = key y ∧ idx x < idx y
theorem Lx.trans {key : α → Int} {idx : α → Nat} {x y z : α} (h : Lx key idx x y) (g : Lx key idx y z) : Lx key idx x z := by
  unfold Lx at *; omega
/-- A stretch in order. -/
def Srt (key : α → Int) (idx : α → Nat) (d : Array α) (a b : Nat) : Prop := ∀ i j, a ≤ i → i < j → j < b → Lx key idx d[i]! d[j]!
/-- The same elements in a stretch, and outside it all as it was. -/
def Sam (d d' : Array α) (a b : Nat) : Prop := d'.size = d.size ∧ (∀ k, k < a ∨ b ≤ k → d'[k]! = d[k]!) ∧ (∀ k, a ≤ k → k < b → ∃ l, a ≤ l ∧ l < b ∧ d'[k]! = d[l]!) ∧ (∀ k, a ≤ k → k < b → ∃ l, a ≤ l ∧ l < b ∧ d[k]! = d'[l]!)
theorem Sam.refl (d : Array α) (a b : Nat) : Sam d d a b := ⟨rfl, fun _ _ => rfl, fun k h1 h2 => ⟨k, h1, h2, rfl⟩, fun k h1 h2 => ⟨k, h1, h2, rfl⟩⟩
theorem Sam.trans {d d' d'' : Array α} {a b : Nat} (h : Sam d d' a b) (g : Sam d' d'' a b) : Sam d d'' a b := by
  obtain ⟨h1, h2, h3, h4⟩ := h
  obtain ⟨g1, g2, g3, g4⟩ := g
  refine ⟨g1.trans h1, fun k hk => (g2 k hk).trans (h2 k hk), fun k a1 a2 => ?_, fun k a1 a2 => ?_⟩
  · obtain ⟨l, l1, l2, l3⟩ := g3 k a1 a2
    obtain ⟨m, m1, m2, m3⟩ := h3 l l1 l2
    exact ⟨m, m1, m2, l3.trans m3⟩
  · obtain ⟨l, l1, l2, l3⟩ := h4 k a1 a2
    obtain ⟨m, m1, m2, m3⟩ := g4 l l1 l2
    exact ⟨m, m1, m2, l3.trans m3⟩
theorem Sam.wide {d d' : Array α} {a b c e : Nat} (h : Sam d d' a b) (hc : c ≤ a) (he : b ≤ e) : Sam d d' c e := by
  obtain ⟨h1, h2, h3, h4⟩ := h
  refine ⟨h1, fun k hk => h2 k (by omega), fun k a1 a2 => ?_, fun k a1 a2 => ?_⟩
  · by_cases c1 : a ≤ k ∧ k < b
    · obtain ⟨l, l1, l2, l3⟩ := h3 k c1.1 c1.2; exact ⟨l, by omega, by omega, l3⟩
    · exact ⟨k, a1, a2, h2 k (by omega)⟩
  · by_cases c1 : a ≤ k ∧ k < b
    · obtain ⟨l, l1, l2, l3⟩ := h4 k c1.1 c1.2; exact ⟨l, by omega, by omega, l3⟩
    · exact ⟨k, a1, a2, (h2 k (by omega)).symm⟩
theorem Sam.srt {key : α → Int} {idx : α → Nat} {d d' : Array α} {a b c e : Nat} (h : Sam d d' a b) (hs : Srt key idx d c e) (hd : e ≤ a ∨ b ≤ c) : Srt key idx d' c e := by
  intro i j h1 h2 h3
  rw [h.2.1 i (by omega), h.2.1 j (by omega)]; exact hs i j h1 h2 h3
theorem Sam.swp {d : Array α} {a b i j : Nat} (hi : a ≤ i ∧ i < b) (hj : a ≤ j ∧ j < b) (hb : b ≤ d.size) : Sam d (swp d i j) a b := by
  have g := swp_get d (i := i) (j := j) (by omega) (by omega)
  refine ⟨swp_size _ _ _, fun k hk => ?_, fun k a1 a2 => ?_, fun k a1 a2 => ?_⟩
  · rw [g, if_neg (by omega), if_neg (by omega)]
  · rw [g]
    by_cases c : k = j
    · rw [if_pos c]; exact ⟨i, hi.1, hi.2, rfl⟩
    · rw [if_neg c]
      by_cases c2 : k = i
      · rw [if_pos c2]; exact ⟨j, hj.1, hj.2, rfl⟩
      · rw [if_neg c2]; exact ⟨k, a1, a2, rfl⟩
  · by_cases c : k = i
    · subst c; exact ⟨j, hj.1, hj.2, by rw [g, if_pos rfl]⟩
    · by_cases c2 : k = j
      · subst c2
        refine ⟨i, hi.1, hi.2, ?_⟩
        rw [g, if_neg (by omega), if_pos rfl]
      · exact ⟨k, a1, a2, by rw [g, if_neg c2, if_neg c]⟩
theorem Sam.rot {d : Array α} {m i j : Nat} (hi : 1 ≤ i) (hj : 1 ≤ j) (him : i ≤ m) (hmj : m + j ≤ d.size) : Sam d (rotLoop m (i + j) d i j) (m - i) (m + j) := by
  have g := rotLoop_get m (i + j) d i j (by omega) hi hj him hmj
  refine ⟨rotLoop_size _ _ _ _ _, fun k hk => ?_, fun k a1 a2 => ?_, fun k a1 a2 => ?_⟩
  · rw [g, if_neg (by omega), if_neg (by omega)]
  · rw [g]
    by_cases c : m - i ≤ k ∧ k < m - i + j
    · rw [if_pos c]; exact ⟨k + i, by omega, by omega, rfl⟩
    · rw [if_neg c, if_pos (by omega)]; exact ⟨k - j, by omega, by omega, rfl⟩
  · by_cases c : k < m
    · refine ⟨k + j, by omega, by omega, ?_⟩
      rw [g, if_neg (by omega), if_pos (by omega)]; exact congrArg (fun q => d[q]!) (by omega)
    · refine ⟨k - i, by omega, by omega, ?_⟩
      rw [g, if_pos (by omega)]; exact congrArg (fun q => d[q]!) (by omega)
/-- What a merge asks: two ordered stretches, the first's elements all from ahead of the second's. -/
def Mrg (key : α → Int) (idx : α → Nat) (d : Array α) (a m b : Nat) : Prop :=
  Srt key idx d a m ∧ Srt key idx d m b ∧ (∀ i j, a ≤ i → i < m → m ≤ j → j < b → idx d[i]! < idx d[j]!)
theorem lx_of_idx {key : α → Int} {idx : α → Nat} {x y : α} (h : idx x < idx y) : (key x < key y ↔ Lx key idx y x) ∧ (¬ key x < key y ↔ Lx key idx x y) := by
  unfold Lx; omega
/-- Two ordered stretches, all of the first ahead of all of the second, are one. -/
theorem Srt.join {key : α → Int} {idx : α → Nat} {d : Array α} {a m b : Nat} (h1 : Srt key idx d a m) (h2 : Srt key idx d m b) (h : ∀ i j, a ≤ i → i < m → m ≤ j → j < b → Lx key idx d[i]! d[j]!) : Srt key idx d a b := by
  intro i j hi hij hj
  by_cases c : j < m
  · exact h1 i j hi hij c
  · by_cases c2 : m ≤ i
    · exact h2 i j c2 hij hj
    · exact h i j hi (by omega) (by omega) hj
/-- The first of the two stretches is one element: it goes to its place i (all from m to i are ahead of it, none from i on). -/
def shl1 (a : Nat) : Nat → Array α → Array α
  | 0, d => d
  | n + 1, d => swp (shl1 a n d) (a + n) (a + n + 1)
theorem shl1_size (a : Nat) : ∀ n (d : Array α), (shl1 a n d).size = d.size
  | 0, _ => rfl
  | n + 1, d => by rw [shl1, swp_size, shl1_size a n d]
theorem shl1_get (a : Nat) (d : Array α) : ∀ n, a + n < d.size → ∀ k, (shl1 a n d)[k]! = if a ≤ k ∧ k < a + n then d[k + 1]! else if k = a + n then d[a]! else d[k]! := by
  intro n
  induction n with
  | zero =>
    intro h k
    rw [if_neg (by omega)]
    by_cases c : k = a + 0
    · rw [if_pos c]; subst c; rfl
    · rw [if_neg c]; rfl
  | succ n ih =>
    intro h k
    have hz := shl1_size a n d
    have i1 := ih (by omega)
    rw [shl1, swp_get _ (by omega) (by omega)]
    by_cases c1 : k = a + n + 1
    · rw [if_pos c1, i1, if_neg (by omega), if_pos rfl, if_neg (by omega), if_pos (by omega)]
    rw [if_neg c1]
    by_cases c2 : k = a + n
    · rw [if_pos c2, i1, if_neg (by omega), if_neg (by omega), if_pos (by omega)]; exact congrArg (fun q => d[q]!) (by omega)
    rw [if_neg c2, i1]
    by_cases c3 : a ≤ k ∧ k < a + n
    · rw [if_pos c3, if_pos (by omega)]
    rw [if_neg c3, if_neg (by omega), if_neg (by omega), if_neg (by omega)]
/-- The last of a stretch goes n places down. -/
def shr1 (m : Nat) : Nat → Array α → Array α
  | 0, d => d
  | n + 1, d => swp (shr1 m n d) (m - n) (m - n - 1)
theorem shr1_size (m : Nat) : ∀ n (d : Array α), (shr1 m n d).size = d.size
  | 0, _ => rfl
  | n + 1, d => by rw [shr1, swp_size, shr1_size m n d]
theorem shr1_get (m : Nat) (d : Array α) (hm : m < d.size) : ∀ n, n ≤ m → ∀ k, (shr1 m n d)[k]! = if m - n < k ∧ k ≤ m then d[k - 1]! else if k = m - n then d[m]! else d[k]! := by
  intro n
  induction n with
  | zero =>
    intro h k
    rw [if_neg (by omega)]
    by_cases c : k = m - 0
    · rw [if_pos c]; subst c; rfl
    · rw [if_neg c]; rfl
  | succ n ih =>
    intro h k
    have hz := shr1_size m n d
    have i1 := ih (by omega)
    rw [shr1, swp_get _ (by omega) (by omega)]
    by_cases c1 : k = m - n - 1
    · rw [if_pos c1, i1, if_neg (by omega), if_pos rfl, if_neg (by omega), if_pos (by omega)]
    rw [if_neg c1]
    by_cases c2 : k = m - n
    · rw [if_pos c2, i1, if_neg (by omega), if_neg (by omega), if_pos (by omega)]; exact congrArg (fun q => d[q]!) (by omega)
    rw [if_neg c2, i1]
    by_cases c3 : m - n < k ∧ k ≤ m
    · rw [if_pos c3, if_pos (by omega)]
    rw [if_neg c3, if_neg (by omega), if_neg (by omega), if_neg (by omega)]
theorem Sam.shl1 {d : Array α} {a n b : Nat} (hn : a + n < b) (hb : b ≤ d.size) : ∀ q, q ≤ n → Sam d (shl1 a q d) a b
  | 0, _ => Sam.refl _ _ _
  | q + 1, h => (Sam.shl1 hn hb q (by omega)).trans (Sam.swp ⟨by omega, by omega⟩ ⟨by omega, by omega⟩ (by rw [shl1_size]; exact hb))
theorem Sam.shr1 {d : Array α} {a m n b : Nat} (hn : a + n ≤ m) (hm : m < b) (hb : b ≤ d.size) : ∀ q, q ≤ n → Sam d (shr1 m q d) a b
  | 0, _ => Sam.refl _ _ _
  | q + 1, h => (Sam.shr1 hn hm hb q (by omega)).trans (Sam.swp ⟨by omega, by omega⟩ ⟨by omega, by omega⟩ (by rw [shr1_size]; exact hb))
/-- One element, and an ordered stretch behind it: it goes behind those that are ahead of it. -/
theorem one_first {key : α → Int} {idx : α → Nat} {d : Array α} {a b i : Nat} (hM : Mrg key idx d a (a + 1) b) (hb : b ≤ d.size) (hi : a + 1 ≤ i ∧ i ≤ b)
    (h1 : i = a + 1 ∨ Lx key idx d[i - 1]! d[a]!) (h2 : i = b ∨ Lx key idx d[a]! d[i]!) : Srt key idx (shl1 a (i - 1 - a) d) a b := by
  obtain ⟨_, s2, _⟩ := hM
  have g := shl1_get a d (i - 1 - a) (by omega)
  have lo : ∀ k, a + 1 ≤ k → k < i → Lx key idx d[k]! d[a]! := by
    intro k k1 k2
    rcases h1 with h | h
    · omega
    · by_cases c : k = i - 1
      · subst c; exact h
      · exact (s2 k (i - 1) k1 (by omega) (by omega)).trans h
  have hi2 : ∀ k, i ≤ k → k < b → Lx key idx d[a]! d[k]! := by
    intro k k1 k2
    rcases h2 with h | h
    · omega
    · by_cases c : k = i
      · subst c; exact h
      · exact h.trans (s2 i k (by omega) (by omega) k2)
  intro p q hp hpq hq
  rw [g, g]
  by_cases c1 : a ≤ p ∧ p < a + (i - 1 - a)
  · rw [if_pos c1]
    by_cases c2 : a ≤ q ∧ q < a + (i - 1 - a)
    · rw [if_pos c2]; exact s2 _ _ (by omega) (by omega) (by omega)
    · rw [if_neg c2]
      by_cases c3 : q = a + (i - 1 - a)
      · rw [if_pos c3]; exact lo _ (by omega) (by omega)
      · rw [if_neg c3]; exact s2 _ _ (by omega) (by omega) (by omega)
  · rw [if_neg c1, if_neg (show ¬ (a ≤ q ∧ q < a + (i - 1 - a)) from by omega), if_neg (show ¬ q = a + (i - 1 - a) from by omega)]
    by_cases c3 : p = a + (i - 1 - a)
    · rw [if_pos c3]; exact hi2 _ (by omega) hq
    · rw [if_neg c3]; exact s2 _ _ (by omega) (by omega) hq
/-- An ordered stretch, and one element behind it. -/
theorem one_last {key : α → Int} {idx : α → Nat} {d : Array α} {a m i : Nat} (hM : Mrg key idx d a m (m + 1)) (hb : m + 1 ≤ d.size) (hi : a ≤ i ∧ i ≤ m)
    (h1 : i = a ∨ Lx key idx d[i - 1]! d[m]!) (h2 : i = m ∨ Lx key idx d[m]! d[i]!) : Srt key idx (shr1 m (m - i) d) a (m + 1) := by
  obtain ⟨s1, _, _⟩ := hM
  have g := shr1_get m d (by omega) (m - i) (by omega)
  have lo : ∀ k, a ≤ k → k < i → Lx key idx d[k]! d[m]! := by
    intro k k1 k2
    rcases h1 with h | h
    · omega
    · by_cases c : k = i - 1
      · subst c; exact h
      · exact (s1 k (i - 1) k1 (by omega) (by omega)).trans h
  have hi2 : ∀ k, i ≤ k → k < m → Lx key idx d[m]! d[k]! := by
    intro k k1 k2
    rcases h2 with h | h
    · omega
    · by_cases c : k = i
      · subst c; exact h
      · exact h.trans (s1 i k (by omega) (by omega) k2)
  intro p q hp hpq hq
  rw [g, g]
  by_cases c1 : m - (m - i) < p ∧ p ≤ m
  · rw [if_pos c1, if_pos (by omega)]; exact s1 _ _ (by omega) (by omega) (by omega)
  · rw [if_neg c1]
    by_cases c3 : p = m - (m - i)
    · rw [if_pos c3, if_pos (by omega)]; exact hi2 _ (by omega) (by omega)
    · rw [if_neg c3]
      by_cases c2 : m - (m - i) < q ∧ q ≤ m
      · rw [if_pos c2]; exact s1 _ _ (by omega) (by omega) (by omega)
      · rw [if_neg c2]
        by_cases c4 : q = m - (m - i)
        · rw [if_pos c4]; exact lo _ hp (by omega)
        · rw [if_neg c4]; exact s1 _ _ (by omega) (by omega) (by omega)
/-- Behind the turn about m of the stretch from s to e (s + e = m + mid): two merges are left, and all of the first is ahead of all of the second. -/
theorem turned {key : α → Int} {idx : α → Nat} {d d' : Array α} {a m b mid s e : Nat} (hM : Mrg key idx d a m b) (ha : a ≤ s ∧ s ≤ m) (he : m ≤ e ∧ e ≤ b) (hse : s + e = m + mid) (hb : b ≤ d.size)
    (hmid : a ≤ mid ∧ mid ≤ b) (h1 : s = a ∨ e = b ∨ Lx key idx d[s - 1]! d[e]!) (h2 : s = m ∨ e = m ∨ Lx key idx d[e - 1]! d[s]!)
    (hd : (s < m ∧ m < e ∧ d' = rotLoop m (m - s + (e - m)) d (m - s) (e - m)) ∨ ((s = m ∨ e = m) ∧ d' = d)) :
    Sam d d' a b ∧ Mrg key idx d' a s mid ∧ Mrg key idx d' mid e b ∧ ∀ i j, a ≤ i → i < mid → mid ≤ j → j < b → Lx key idx d'[i]! d'[j]! := by
  obtain ⟨s1, s2, s3⟩ := hM
  have A1 : ∀ k l, a ≤ k → k < s → e ≤ l → l < b → Lx key idx d[k]! d[l]! := by
    intro k l k1 k2 l1 l2
    rcases h1 with h | h | h
    · omega
    · omega
    · have x : Lx key idx d[k]! d[e]! := by
        by_cases c : k = s - 1
        · subst c; exact h
        · exact (s1 k (s - 1) k1 (by omega) (by omega)).trans h
      by_cases c : l = e
      · subst c; exact x
      · exact x.trans (s2 e l (by omega) (by omega) l2)
  have A2 : ∀ k l, m ≤ k → k < e → s ≤ l → l < m → Lx key idx d[k]! d[l]! := by
    intro k l k1 k2 l1 l2
    rcases h2 with h | h | h
    · omega
    · omega
    · have x : Lx key idx d[k]! d[s]! := by
        by_cases c : k = e - 1
        · subst c; exact h
        · exact (s2 k (e - 1) k1 (by omega) (by omega)).trans h
      by_cases c : l = s
      · subst c; exact x
      · exact x.trans (s1 s l (by omega) (by omega) l2)
  have G : Sam d d' a b ∧ ∀ k, d'[k]! = if s ≤ k ∧ k < mid then d[k + m - s]! else if mid ≤ k ∧ k < e then d[k + s - mid]! else d[k]! := by
    rcases hd with ⟨c1, c2, rfl⟩ | ⟨c1, rfl⟩
    · have g := rotLoop_get m (m - s + (e - m)) d (m - s) (e - m) (by omega) (by omega) (by omega) (by omega) (by omega)
      refine ⟨(Sam.rot (d := d) (m := m) (i := m - s) (j := e - m) (by omega) (by omega) (by omega) (by omega)).wide (by omega) (by omega), fun k => ?_⟩
      rw [g]
      by_cases x1 : s ≤ k ∧ k < mid
      · rw [if_pos x1, if_pos (by omega)]; exact congrArg (fun q => d[q]!) (by omega)
      rw [if_neg x1, if_neg (by omega)]
      by_cases x2 : mid ≤ k ∧ k < e
      · rw [if_pos x2, if_pos (by omega)]; exact congrArg (fun q => d[q]!) (by omega)
      rw [if_neg x2, if_neg (by omega)]
    · refine ⟨Sam.refl _ _ _, fun k => ?_⟩
      by_cases x1 : s ≤ k ∧ k < mid
      · rw [if_pos x1]; exact congrArg (fun q => d'[q]!) (by omega)
      rw [if_neg x1]
      by_cases x2 : mid ≤ k ∧ k < e
      · rw [if_pos x2]; exact congrArg (fun q => d'[q]!) (by omega)
      rw [if_neg x2]
  obtain ⟨GS, g⟩ := G
  have p1 : ∀ k, a ≤ k → k < s → d'[k]! = d[k]! := fun k k1 k2 => by rw [g, if_neg (by omega), if_neg (by omega)]
  have p2 : ∀ k, s ≤ k → k < mid → d'[k]! = d[k + m - s]! := fun k k1 k2 => by rw [g, if_pos (by omega)]
  have p3 : ∀ k, mid ≤ k → k < e → d'[k]! = d[k + s - mid]! := fun k k1 k2 => by rw [g, if_neg (by omega), if_pos (by omega)]
  have p4 : ∀ k, e ≤ k → k < b → d'[k]! = d[k]! := fun k k1 k2 => by rw [g, if_neg (by omega), if_neg (by omega)]
  refine ⟨GS, ⟨?_, ?_, ?_⟩, ⟨?_, ?_, ?_⟩, ?_⟩
  · intro i j i1 i2 i3; rw [p1 i i1 (by omega), p1 j (by omega) i3]; exact s1 i j i1 i2 (by omega)
  · intro i j i1 i2 i3; rw [p2 i i1 (by omega), p2 j (by omega) i3]; exact s2 _ _ (by omega) (by omega) (by omega)
  · intro i j i1 i2 i3 i4; rw [p1 i i1 i2, p2 j i3 i4]; exact s3 _ _ i1 (by omega) (by omega) (by omega)
  · intro i j i1 i2 i3; rw [p3 i i1 (by omega), p3 j (by omega) i3]; exact s1 _ _ (by omega) (by omega) (by omega)
  · intro i j i1 i2 i3; rw [p4 i i1 (by omega), p4 j (by omega) i3]; exact s2 _ _ (by omega) (by omega) (by omega)
  · intro i j i1 i2 i3 i4; rw [p3 i i1 i2, p4 j i3 i4]; exact s3 _ _ (by omega) (by omega) (by omega) (by omega)
  · intro i j i1 i2 i3 i4
    by_cases x1 : i < s
    · rw [p1 i i1 x1]
      by_cases x2 : j < e
      · rw [p3 j i3 x2]; exact s1 _ _ i1 (by omega) (by omega)
      · rw [p4 j (by omega) i4]; exact A1 _ _ i1 x1 (by omega) i4
    · rw [p2 i (by omega) i2]
      by_cases x2 : j < e
      · rw [p3 j i3 x2]; exact A2 _ _ (by omega) (by omega) (by omega) (by omega)
      · rw [p4 j (by omega) i4]; exact s2 _ _ (by omega) (by omega) i4
theorem Mrg.of_sam {key : α → Int} {idx : α → Nat} {d d' : Array α} {a m b c e : Nat} (h : Mrg key idx d a m b) (g : Sam d d' c e) (hm : a ≤ m ∧ m ≤ b) (hd : b ≤ c ∨ e ≤ a) : Mrg key idx d' a m b := by
  obtain ⟨s1, s2, s3⟩ := h
  have q : ∀ k, a ≤ k → k < b → d'[k]! = d[k]! := fun k k1 k2 => g.2.1 k (by omega)
  refine ⟨fun i j i1 i2 i3 => ?_, fun i j i1 i2 i3 => ?_, fun i j i1 i2 i3 i4 => ?_⟩
  · rw [q i i1 (by omega), q j (by omega) (by omega)]; exact s1 i j i1 i2 i3
  · rw [q i (by omega) (by omega), q j (by omega) i3]; exact s2 i j i1 i2 i3
  · rw [q i i1 (by omega), q j (by omega) i4]; exact s3 i j i1 i2 i3 i4
end Go.Proofs.YtebipmdopdogkaaGreatDoor.S

namespace Go.Proofs.YtebipmdopdogkaaGreatDoor.S
open Go.Shelf Go.RowKit Go.Lib Go.Sort
set_option linter.unusedVariables false
variable {α : Type} [Inhabited α]
set_option maxHeartbeats 4000000 in
set_option maxRecDepth 1000000 in
/-- slices.swapRangeCmpFunc: two stretches exchanged. -/
theorem swapRange_s (enc : α → Value) (g : Nat) (cb : Array Value) (blk off cap a b n : Nat) (d0 d : Array α) (w0 w : World)
    (R : Row1 enc w0 blk off d0) (hs : d0.size = d.size) (S : SW enc w0 blk off d w) (ha : a + n ≤ d.size) (hb : b + n ≤ d.size) (hsz : d.size < 4611686018427387904) :
    Calls Tryz.prog 130 #[.slice (some ⟨blk, off, none⟩) d.size cap, .int .i64 a, .int .i64 b, .int .i64 n, .func (.func g) #[] cb] w fun e w' => e = .returned (.tuple #[]) ∧ SW enc w0 blk off (swpRange d a b n) w' := by
  have mixed : Tryz.prog.follows .mixedOrders = true := by kernel_rfl
  have hcl0 := R.hO.cells
  simp only [Value.cells] at hcl0
  have hst := R.hO.store Tryz.prog
  have S0 : Aside (SW enc w0 blk off d w) := S
  clear S
  go_enter Tryz.func130, Tryz.ntmps130
  go_wp2
  go_loopg [10] n (fun kx s10 wr => ∃ (i : Nat), s10 = .int .i64 i ∧ i ≤ n ∧ n - i ≤ kx ∧ Aside (SW enc w0 blk off (swpRange d a b i) wr))
  case atStart => exact ⟨0, rfl, by omega, by omega, S0⟩
  case round =>
    clear S0
    obtain ⟨i, rfl, hin, hkx, S1⟩ := hrel
    have hds : (swpRange d a b i).size = d.size := swpRange_size _ _ _ _
    obtain ⟨dk, hdk⟩ : ∃ dk, dk = swpRange d a b i := ⟨_, rfl⟩
    rw [← hdk] at S1 hds
    by_cases hlt : (i : Int) < (n : Int)
    · go_wp2_with fail
      obtain ⟨iN, hiN⟩ : ∃ q, q = a + i := ⟨_, rfl⟩
      obtain ⟨jN, hjN⟩ : ∃ q, q = b + i := ⟨_, rfl⟩
      have ea : ((a : Int) + (i : Int)).toNat = iN := by omega
      have pa : (0 : Int) ≤ (a : Int) + (i : Int) := by omega
      have ba : (a : Int) + (i : Int) < (d.size : Int) := by omega
      have ra : IntKind.i64.wrap ((a : Int) + (i : Int)) = (a : Int) + (i : Int) := by rw [IntKind.wrap_i64]; omega
      have ec : ((b : Int) + (i : Int)).toNat = jN := by omega
      have pc : (0 : Int) ≤ (b : Int) + (i : Int) := by omega
      have bc : (b : Int) + (i : Int) < (d.size : Int) := by omega
      have rc : IntKind.i64.wrap ((b : Int) + (i : Int)) = (b : Int) + (i : Int) := by rw [IntKind.wrap_i64]; omega
      obtain ⟨x, hx⟩ : ∃ x, x = dk[a + i]! := ⟨_, rfl⟩
      obtain ⟨y, hy⟩ : ∃ x, x = dk[b + i]! := ⟨_, rfl⟩
      have S2 : Aside (SW enc w0 blk off (swp dk (a + i) (b + i)) ((wr.setCell ⟨blk, off + iN, none⟩ (enc y)).setCell ⟨blk, off + jN, none⟩ (enc x)).drew) := by rw [hiN, hjN, hx, hy]; exact S1.out.swapped R (a + i) (b + i) (by omega) (by omega)
      have c1a := S1.out.c1 R (by omega) (a + i) (by omega)
      have c1b := S1.out.c1 R (by omega) (b + i) (by omega)
      have f1a := S1.out.f1 R (by omega) (a + i) (by omega)
      have f1b := S1.out.f1 R (by omega) (b + i) (by omega)
      obtain ⟨u, c1c⟩ := S1.out.c2 R (by omega) (a + i) (b + i) (by omega) (by omega) (enc y)
      rw [← hjN, ← hiN] at c1c
      rw [← hx, ← hiN] at c1a
      rw [← hy, ← hjN] at c1b
      rw [← hiN] at f1a
      rw [← hjN] at f1b
      clear S1 hx hy hiN hjN
      go_wp2_with fail
      go_big_region_o
      clear c1a c1b c1c f1a f1b
      generalize ((wr.setCell ⟨blk, off + iN, none⟩ (enc y)).setCell ⟨blk, off + jN, none⟩ (enc x)).drew = w2 at S2 ⊢
      clear ea ec
      go_wp2
      go_roundg (n - (i + 1))
      case measure => omega
      case rel => exact ⟨i + 1, by simp, by omega, Nat.le_refl _, by rw [swpRange, ← hdk]; exact S2⟩
    · go_wp2
      go_end0
      have : i = n := by omega
      subst this
      exact ⟨rfl, by rw [← hdk]; exact S1.out⟩
set_option maxHeartbeats 4000000 in
set_option maxRecDepth 1000000 in
/-- slices.rotateCmpFunc: a stretch turned about its middle. -/
theorem rotate_s (enc : α → Value) (g : Nat) (cb : Array Value) (blk off cap a m b : Nat) (d0 d : Array α) (w0 w : World)
    (R : Row1 enc w0 blk off d0) (hs : d0.size = d.size) (S : SW enc w0 blk off d w) (ha : a < m) (hm : m < b) (hb : b ≤ d.size) (hsz : d.size < 4611686018427387904) :
    Calls Tryz.prog 129 #[.slice (some ⟨blk, off, none⟩) d.size cap, .int .i64 a, .int .i64 m, .int .i64 b, .func (.func g) #[] cb] w fun e w' => e = .returned (.tuple #[]) ∧ SW enc w0 blk off (rotLoop m (m - a + (b - m)) d (m - a) (b - m)) w' := by
  have mixed : Tryz.prog.follows .mixedOrders = true := by kernel_rfl
  have hcl0 := R.hO.cells
  simp only [Value.cells] at hcl0
  have hst := R.hO.store Tryz.prog
  have S0 : Aside (SW enc w0 blk off d w) := S
  clear S
  have eSR : ∀ args w, (callFunc 130 args).run Tryz.prog w = .ok (.enter 130 args) w := enters_of Tryz.func130 (by kernel_rfl) rfl
  have e1 : ((m - a : Nat) : Int) = (m : Int) - (a : Int) := by omega
  have e2 : ((b - m : Nat) : Int) = (b : Int) - (m : Int) := by omega
  have n1 : IntKind.i64.wrap ((m : Int) - (a : Int)) = (m : Int) - (a : Int) := by rw [IntKind.wrap_i64]; omega
  have n2 : IntKind.i64.wrap ((b : Int) - (m : Int)) = (b : Int) - (m : Int) := by rw [IntKind.wrap_i64]; omega
  go_enter Tryz.func129, Tryz.ntmps129
  go_wp2
  go_loopg [10, 11] (m - a + (b - m)) (fun kx s10 s11 wr => ∃ (i j : Nat) (dk : Array α), s10 = .int .i64 i ∧ s11 = .int .i64 j ∧ 1 ≤ i ∧ 1 ≤ j ∧ i ≤ m ∧ m + j ≤ d.size ∧ i + j ≤ kx + 1 ∧ dk.size = d.size ∧ Aside (SW enc w0 blk off dk wr) ∧
    Hid (rotLoop m kx dk i j = rotLoop m (m - a + (b - m)) d (m - a) (b - m)))
  case atStart => exact ⟨m - a, b - m, d, by simp [e1], by simp [e2], by omega, by omega, by omega, by omega, by omega, rfl, S0, rfl⟩
  case round =>
    clear S0 n1 n2 e1 e2
    obtain ⟨i, j, dk, rfl, rfl, hi, hj, him, hmj, hkx, hds, S1, HE⟩ := hrel
    have zmi : ((m - i : Nat) : Int) = (m : Int) - (i : Int) := by omega
    have wmi : IntKind.i64.wrap ((m : Int) - (i : Int)) = (m : Int) - (i : Int) := by rw [IntKind.wrap_i64]; omega
    by_cases hij : i = j
    · subst hij
      have hneq : ¬ ((i : Int) ≠ (i : Int)) := by omega
      have hcall := swapRange_s enc g cb blk off cap (m - i) m i d0 dk w0 wr R (by omega) S1.out (by omega) (by omega) (by omega)
      rw [hds, zmi] at hcall
      have hend : rotLoop m gk dk i i = swpRange dk (m - i) m i := by
        cases gk with
        | zero => rfl
        | succ f => rw [rotLoop, if_pos rfl]
      clear S1
      go_wp2_with (go_at_fn 130; refine hcall.mono ?_; rintro e w1 ⟨rfl, S3⟩)
      go_end0
      refine ⟨rfl, ?_⟩
      rw [← HE.out, hend]; exact S3
    · have hneq : ¬ ((i : Int) = (j : Int)) := by omega
      cases gk with
      | zero => omega
      | succ f =>
        by_cases hlt : j < i
        · have hgt : (j : Int) < (i : Int) := by omega
          have zij : ((i - j : Nat) : Int) = (i : Int) - (j : Int) := by omega
          have hcall := swapRange_s enc g cb blk off cap (m - i) m j d0 dk w0 wr R (by omega) S1.out (by omega) (by omega) (by omega)
          rw [hds, zmi] at hcall
          have hstep : rotLoop m (f + 1) dk i j = rotLoop m f (swpRange dk (m - i) m j) (i - j) j := by rw [rotLoop, if_neg hij, if_pos hlt]
          rw [hstep] at HE
          clear S1
          go_wp2_with (go_at_fn 130; refine hcall.mono ?_; rintro e w1 ⟨rfl, S3⟩)
          go_roundg f
          case measure => omega
          case rel => exact ⟨i - j, j, _, by first | rw [zij] | simp [zij], rfl, by omega, hj, by omega, hmj, by omega, by rw [swpRange_size]; exact hds, S3, HE⟩
        · have hgt : ¬ (j : Int) < (i : Int) := by omega
          have zji : ((j - i : Nat) : Int) = (j : Int) - (i : Int) := by omega
          have wmj : IntKind.i64.wrap ((m : Int) + (j : Int)) = (m : Int) + (j : Int) := by rw [IntKind.wrap_i64]; omega
          have wmji : IntKind.i64.wrap ((m : Int) + (j : Int) - (i : Int)) = (m : Int) + (j : Int) - (i : Int) := by rw [IntKind.wrap_i64]; omega
          have zmji : ((m + j - i : Nat) : Int) = (m : Int) + (j : Int) - (i : Int) := by omega
          have hcall := swapRange_s enc g cb blk off cap (m - i) (m + j - i) i d0 dk w0 wr R (by omega) S1.out (by omega) (by omega) (by omega)
          rw [hds, zmi, zmji] at hcall
          have hstep : rotLoop m (f + 1) dk i j = rotLoop m f (swpRange dk (m - i) (m + j - i) i) i (j - i) := by rw [rotLoop, if_neg hij, if_neg hlt]
          rw [hstep] at HE
          clear S1
          go_wp2_with (go_at_fn 130; refine hcall.mono ?_; rintro e w1 ⟨rfl, S3⟩)
          go_roundg f
          case measure => omega
          case rel => exact ⟨i, j - i, _, rfl, by first | rw [zji] | simp [zji], hi, by omega, him, by omega, by omega, by rw [swpRange_size]; exact hds, S3, HE⟩
end Go.Proofs.YtebipmdopdogkaaGreatDoor.S

namespace Go.Proofs.YtebipmdopdogkaaGreatDoor.S
open Go.Shelf Go.RowKit Go.Lib Go.Sort
set_option linter.unusedVariables false
variable {α : Type} [Inhabited α]
set_option maxHeartbeats 8000000 in
set_option maxRecDepth 1000000 in
theorem symMerge_one (enc : α → Value) (cf : α → α → Int) (g : Nat) (cb : Array Value) (key : α → Int) (idx : α → Nat) (blk off cap a m b : Nat) (d0 d : Array α) (w0 w : World)
    (eg : ∀ args w, (callFunc g args).run Tryz.prog w = .ok (.enter g args) w) (hcmp : CmpLays1 Tryz.prog g cb enc cf blk off d0.size w0) (hcf : ∀ x y, cf x y < 0 ↔ key y < key x)
    (R : Row1 enc w0 blk off d0) (hs : d0.size = d.size) (S : SW enc w0 blk off d w) (hmm : m = a + 1) (hm : m < b) (hb : b ≤ d.size) (hsz : d.size < 4611686018427387904) (hM : Mrg key idx d a m b) :
    Calls Tryz.prog 124 #[.slice (some ⟨blk, off, none⟩) d.size cap, .int .i64 a, .int .i64 m, .int .i64 b, .func (.func g) #[] cb] w fun e w' => e = .returned (.tuple #[]) ∧ ∃ d', SW enc w0 blk off d' w' ∧ Sam d d' a b ∧ Srt key idx d' a b := by
  have mixed : Tryz.prog.follows .mixedOrders = true := by kernel_rfl
  have hcl0 := R.hO.cells
  simp only [Value.cells] at hcl0
  have hst := R.hO.store Tryz.prog
  have HC : Aside _ := hcmp
  have HM : Aside (Mrg key idx d a m b) := hM
  have S0 : Aside (SW enc w0 blk off d w) := S
  have HMM : Hid (m = a + 1) := hmm
  have HCF : Hid (∀ x y, cf x y < 0 ↔ key y < key x) := hcf
  have ham : a < m := by omega
  have e1 : (m : Int) - (a : Int) = 1 := by omega
  clear S hcmp hM hmm hcf
  have n1 : IntKind.i64.wrap (1 : Int) = 1 := by rw [IntKind.wrap_i64]; omega
  go_enter Tryz.func124, Tryz.ntmps124
  go_wp2
  clear e1
  go_loopg [10, 11] (b - m) (fun kx s10 s11 wr => ∃ (i j : Nat), s10 = .int .i64 i ∧ s11 = .int .i64 j ∧ m ≤ i ∧ i ≤ j ∧ j ≤ b ∧ j - i ≤ kx ∧ Aside (SW enc w0 blk off d wr) ∧ Hid (i = m ∨ Lx key idx d[i - 1]! d[a]!) ∧ Hid (j = b ∨ Lx key idx d[a]! d[j]!))
  case atStart => exact ⟨m, b, rfl, rfl, by omega, by omega, by omega, by omega, S0, Or.inl rfl, Or.inl rfl⟩
  case round =>
    clear S0
    obtain ⟨i, j, rfl, rfl, h1, h2, h3, hkx, S1, HA, HB⟩ := hrel
    by_cases hlt : (i : Int) < (j : Int)
    · go_wp2_with fail
      obtain ⟨h, hh⟩ : ∃ h : Nat, h = (i + j) / 2 := ⟨_, rfl⟩
      have zh : ((i : Int) + (j : Int)) / 2 = (h : Int) := by omega
      have hi1 : i ≤ h := by omega
      have hi2 : h < j := by omega
      clear hh
      rw [zh]
      clear zh
      obtain ⟨iN, hiN⟩ : ∃ q, q = h := ⟨_, rfl⟩
      obtain ⟨jN, hjN⟩ : ∃ q, q = a := ⟨_, rfl⟩
      have ea : (h : Int).toNat = iN := by omega
      have pa : (0 : Int) ≤ (h : Int) := by omega
      have ba : (h : Int) < (d.size : Int) := by omega
      have ec : (a : Int).toNat = jN := by omega
      have pc : (0 : Int) ≤ (a : Int) := by omega
      have bc : (a : Int) < (d.size : Int) := by omega
      obtain ⟨x, hx⟩ : ∃ x, x = d[h]! := ⟨_, rfl⟩
      obtain ⟨y, hy⟩ : ∃ x, x = d[a]! := ⟨_, rfl⟩
      have HXY : Hid (cf x y < 0 ↔ key y < key x) := HCF.out x y
      have HL := lx_of_idx (key := key) (idx := idx) (HM.out.2.2 a h (Nat.le_refl _) ham (by omega) (by omega))
      have l1 := S1.out.cl R (by omega) h (by omega)
      have l2 := S1.out.cl R (by omega) a (by omega)
      rw [← hx, ← hiN] at l1
      rw [← hy, ← hjN] at l2
      have hc := S1.out.cmp HC.out (by omega) x y
      have HL2 : Hid ((cf x y < 0 → Lx key idx d[h]! d[a]!) ∧ (¬ cf x y < 0 → Lx key idx d[a]! d[h]!)) := by
        refine ⟨fun q => HL.1.1 ?_, fun q => HL.2.1 ?_⟩
        · rw [← hx, ← hy]; exact HXY.out.1 q
        · rw [← hx, ← hy]; exact fun q' => q (HXY.out.2 q')
      clear hx hy hiN hjN HL HXY
      by_cases hv : cf x y < 0
      · have hd1 : decide (cf x y < 0) = true := decide_eq_true hv
        go_quiet_grown (first | (go_at_fn g; refine Calls.grown_of (hc _ _)))
        have S2 : Aside (SW enc w0 blk off d (grow (wr.drewN nq) osq)) := S1.out.grown nq osq
        clear l1 l2 hc S1
        generalize grow (wr.drewN nq) osq = w2 at S2 ⊢
        clear nq osq ea ec
        go_wp2
        go_roundg (j - (h + 1))
        case measure => omega
        case rel => exact ⟨h + 1, j, by simp, rfl, by omega, by omega, h3, Nat.le_refl _, S2, Or.inr (HL2.out.1 hv), HB⟩
      · have hd1 : decide (cf x y < 0) = false := decide_eq_false hv
        go_quiet_grown (first | (go_at_fn g; refine Calls.grown_of (hc _ _)))
        have S2 : Aside (SW enc w0 blk off d (grow (wr.drewN nq) osq)) := S1.out.grown nq osq
        clear l1 l2 hc S1
        generalize grow (wr.drewN nq) osq = w2 at S2 ⊢
        clear nq osq ea ec
        go_wp2
        go_roundg (h - i)
        case measure => omega
        case rel => exact ⟨i, h, rfl, rfl, by omega, by omega, by omega, Nat.le_refl _, S2, HA, Or.inr (HL2.out.2 hv)⟩
    · have hij : i = j := by omega
      subst hij
      go_wp2
      go_loopg [13] (i - 1 - a) (fun kx s13 wr2 => ∃ (k : Nat), s13 = .int .i64 k ∧ a ≤ k ∧ k ≤ i - 1 ∧ i - 1 - k ≤ kx ∧ Aside (SW enc w0 blk off (shl1 a (k - a) d) wr2))
      case atStart => exact ⟨a, rfl, by omega, by omega, by omega, by rw [Nat.sub_self]; exact S1⟩
      case round =>
        clear S1
        obtain ⟨k, rfl, k1, k2, hk, S1⟩ := hrel
        have hds : (shl1 a (k - a) d).size = d.size := shl1_size _ _ _
        obtain ⟨dk, hdk⟩ : ∃ dk, dk = shl1 a (k - a) d := ⟨_, rfl⟩
        rw [← hdk] at S1 hds
        by_cases hlt2 : (k : Int) < (i : Int) - 1
        · go_wp2_with fail
          obtain ⟨iN, hiN⟩ : ∃ q, q = k := ⟨_, rfl⟩
          obtain ⟨jN, hjN⟩ : ∃ q, q = k + 1 := ⟨_, rfl⟩
          have ea : (k : Int).toNat = iN := by omega
          have pa : (0 : Int) ≤ (k : Int) := by omega
          have ba : (k : Int) < (d.size : Int) := by omega
          have ec : ((k : Int) + 1).toNat = jN := by omega
          have pc : (0 : Int) ≤ (k : Int) + 1 := by omega
          have bc : (k : Int) + 1 < (d.size : Int) := by omega
          have rc : IntKind.i64.wrap ((k : Int) + 1) = (k : Int) + 1 := by rw [IntKind.wrap_i64]; omega
          obtain ⟨x, hx⟩ : ∃ x, x = dk[k]! := ⟨_, rfl⟩
          obtain ⟨y, hy⟩ : ∃ x, x = dk[k + 1]! := ⟨_, rfl⟩
          have S2 : Aside (SW enc w0 blk off (swp dk k (k + 1)) ((wr.setCell ⟨blk, off + iN, none⟩ (enc y)).setCell ⟨blk, off + jN, none⟩ (enc x)).drew) := by rw [hiN, hjN, hx, hy]; exact S1.out.swapped R k (k + 1) (by omega) (by omega)
          have c1a := S1.out.c1 R (by omega) k (by omega)
          have c1b := S1.out.c1 R (by omega) (k + 1) (by omega)
          have f1a := S1.out.f1 R (by omega) k (by omega)
          have f1b := S1.out.f1 R (by omega) (k + 1) (by omega)
          obtain ⟨u, c1c⟩ := S1.out.c2 R (by omega) k (k + 1) (by omega) (by omega) (enc y)
          rw [← hjN, ← hiN] at c1c
          rw [← hx, ← hiN] at c1a
          rw [← hy, ← hjN] at c1b
          rw [← hiN] at f1a
          rw [← hjN] at f1b
          clear S1 hx hy hiN hjN
          go_wp2_with fail
          go_big_region_o
          clear c1a c1b c1c f1a f1b
          generalize ((wr.setCell ⟨blk, off + iN, none⟩ (enc y)).setCell ⟨blk, off + jN, none⟩ (enc x)).drew = w2 at S2 ⊢
          clear ea ec
          go_wp2
          go_roundg (i - 1 - (k + 1))
          case measure => omega
          case rel => exact ⟨k + 1, by simp, by omega, by omega, Nat.le_refl _, by rw [show k + 1 - a = k - a + 1 from by omega, shl1, ← hdk, show a + (k - a) = k from by omega]; exact S2⟩
        · go_wp2
          (try simp only [Exit.inBlock, Exit.then]); refine bodyPost_ret (results_none rfl _ _ _) rfl ?_
          have hk : k = i - 1 := by omega
          subst hk
          have hmm := HMM.out
          subst hmm
          refine ⟨rfl, _, S1.out, ?_, ?_⟩
          · rw [hdk]; exact Sam.shl1 (n := i - 1 - a) (by omega) hb _ (Nat.le_refl _)
          · rw [hdk]; exact one_first HM.out hb ⟨h1, h3⟩ HA.out HB.out
set_option maxHeartbeats 8000000 in
set_option maxRecDepth 1000000 in
theorem symMerge_last (enc : α → Value) (cf : α → α → Int) (g : Nat) (cb : Array Value) (key : α → Int) (idx : α → Nat) (blk off cap a m b : Nat) (d0 d : Array α) (w0 w : World)
    (eg : ∀ args w, (callFunc g args).run Tryz.prog w = .ok (.enter g args) w) (hcmp : CmpLays1 Tryz.prog g cb enc cf blk off d0.size w0) (hcf : ∀ x y, cf x y < 0 ↔ key y < key x)
    (R : Row1 enc w0 blk off d0) (hs : d0.size = d.size) (S : SW enc w0 blk off d w) (hbm : b = m + 1) (ham : a + 1 < m) (hb : b ≤ d.size) (hsz : d.size < 4611686018427387904) (hM : Mrg key idx d a m b) :
    Calls Tryz.prog 124 #[.slice (some ⟨blk, off, none⟩) d.size cap, .int .i64 a, .int .i64 m, .int .i64 b, .func (.func g) #[] cb] w fun e w' => e = .returned (.tuple #[]) ∧ ∃ d', SW enc w0 blk off d' w' ∧ Sam d d' a b ∧ Srt key idx d' a b := by
  have mixed : Tryz.prog.follows .mixedOrders = true := by kernel_rfl
  have hcl0 := R.hO.cells
  simp only [Value.cells] at hcl0
  have hst := R.hO.store Tryz.prog
  have HC : Aside _ := hcmp
  have HM : Aside (Mrg key idx d a m b) := hM
  have S0 : Aside (SW enc w0 blk off d w) := S
  have HBM : Hid (b = m + 1) := hbm
  have HCF : Hid (∀ x y, cf x y < 0 ↔ key y < key x) := hcf
  have hmb : m < b := by omega
  have e0 : ¬ ((m : Int) - (a : Int) = 1) := by omega
  have b0 : ((m : Int) - (a : Int) == 1) = false := by simpa using e0
  have n0 : IntKind.i64.wrap ((m : Int) - (a : Int)) = (m : Int) - (a : Int) := by rw [IntKind.wrap_i64]; omega
  have e1 : (b : Int) - (m : Int) = 1 := by omega
  clear S hcmp hM hbm hcf
  have n1 : IntKind.i64.wrap (1 : Int) = 1 := by rw [IntKind.wrap_i64]; omega
  go_enter Tryz.func124, Tryz.ntmps124
  go_wp2
  clear e1 e0 n0
  go_loopg [14, 15] (m - a) (fun kx s14 s15 wr => ∃ (i j : Nat), s14 = .int .i64 i ∧ s15 = .int .i64 j ∧ a ≤ i ∧ i ≤ j ∧ j ≤ m ∧ j - i ≤ kx ∧ Aside (SW enc w0 blk off d wr) ∧ Hid (i = a ∨ Lx key idx d[i - 1]! d[m]!) ∧ Hid (j = m ∨ Lx key idx d[m]! d[j]!))
  case atStart => exact ⟨a, m, rfl, rfl, by omega, by omega, by omega, by omega, S0, Or.inl rfl, Or.inl rfl⟩
  case round =>
    clear S0
    obtain ⟨i, j, rfl, rfl, h1, h2, h3, hkx, S1, HA, HB⟩ := hrel
    by_cases hlt : (i : Int) < (j : Int)
    · go_wp2_with fail
      obtain ⟨h, hh⟩ : ∃ h : Nat, h = (i + j) / 2 := ⟨_, rfl⟩
      have zh : ((i : Int) + (j : Int)) / 2 = (h : Int) := by omega
      have hi1 : i ≤ h := by omega
      have hi2 : h < j := by omega
      clear hh
      rw [zh]
      clear zh
      obtain ⟨iN, hiN⟩ : ∃ q, q = m := ⟨_, rfl⟩
      obtain ⟨jN, hjN⟩ : ∃ q, q = h := ⟨_, rfl⟩
      have ea : (m : Int).toNat = iN := by omega
      have pa : (0 : Int) ≤ (m : Int) := by omega
      have ba : (m : Int) < (d.size : Int) := by omega
      have ec : (h : Int).toNat = jN := by omega
      have pc : (0 : Int) ≤ (h : Int) := by omega
      have bc : (h : Int) < (d.size : Int) := by omega
      obtain ⟨x, hx⟩ : ∃ x, x = d[m]! := ⟨_, rfl⟩
      obtain ⟨y, hy⟩ : ∃ x, x = d[h]! := ⟨_, rfl⟩
      have HXY : Hid (cf x y < 0 ↔ key y < key x) := HCF.out x y
      have HL := lx_of_idx (key := key) (idx := idx) (HM.out.2.2 h m (by omega) (by omega) (Nat.le_refl _) hmb)
      have l1 := S1.out.cl R (by omega) m (by omega)
      have l2 := S1.out.cl R (by omega) h (by omega)
      rw [← hx, ← hiN] at l1
      rw [← hy, ← hjN] at l2
      have hc := S1.out.cmp HC.out (by omega) x y
      have HL2 : Hid ((cf x y < 0 → Lx key idx d[m]! d[h]!) ∧ (¬ cf x y < 0 → Lx key idx d[h]! d[m]!)) := by
        refine ⟨fun q => HL.1.1 ?_, fun q => HL.2.1 ?_⟩
        · rw [← hx, ← hy]; exact HXY.out.1 q
        · rw [← hx, ← hy]; exact fun q' => q (HXY.out.2 q')
      clear hx hy hiN hjN HL HXY
      by_cases hv : cf x y < 0
      · have hd1 : decide (cf x y < 0) = true := decide_eq_true hv
        go_quiet_grown (first | (go_at_fn g; refine Calls.grown_of (hc _ _)))
        have S2 : Aside (SW enc w0 blk off d (grow (wr.drewN nq) osq)) := S1.out.grown nq osq
        clear l1 l2 hc S1
        generalize grow (wr.drewN nq) osq = w2 at S2 ⊢
        clear nq osq ea ec
        go_wp2
        go_roundg (h - i)
        case measure => omega
        case rel => exact ⟨i, h, rfl, rfl, by omega, by omega, by omega, Nat.le_refl _, S2, HA, Or.inr (HL2.out.1 hv)⟩
      · have hd1 : decide (cf x y < 0) = false := decide_eq_false hv
        go_quiet_grown (first | (go_at_fn g; refine Calls.grown_of (hc _ _)))
        have S2 : Aside (SW enc w0 blk off d (grow (wr.drewN nq) osq)) := S1.out.grown nq osq
        clear l1 l2 hc S1
        generalize grow (wr.drewN nq) osq = w2 at S2 ⊢
        clear nq osq ea ec
        go_wp2
        go_roundg (j - (h + 1))
        case measure => omega
        case rel => exact ⟨h + 1, j, by simp, rfl, by omega, by omega, h3, Nat.le_refl _, S2, Or.inr (HL2.out.2 hv), HB⟩
    · have hij : i = j := by omega
      subst hij
      go_wp2
      go_loopg [17] (m - i) (fun kx s17 wr2 => ∃ (k : Nat), s17 = .int .i64 k ∧ i ≤ k ∧ k ≤ m ∧ k - i ≤ kx ∧ Aside (SW enc w0 blk off (shr1 m (m - k) d) wr2))
      case atStart => exact ⟨m, rfl, by omega, by omega, by omega, by rw [Nat.sub_self]; exact S1⟩
      case round =>
        clear S1
        obtain ⟨k, rfl, k1, k2, hk, S1⟩ := hrel
        have hds : (shr1 m (m - k) d).size = d.size := shr1_size _ _ _
        obtain ⟨dk, hdk⟩ : ∃ dk, dk = shr1 m (m - k) d := ⟨_, rfl⟩
        rw [← hdk] at S1 hds
        by_cases hlt2 : (i : Int) < (k : Int)
        · obtain ⟨kp, hkp⟩ : ∃ q, k = q + 1 := ⟨k - 1, by omega⟩
          subst hkp
          go_wp2_with fail
          obtain ⟨iN, hiN⟩ : ∃ q, q = kp + 1 := ⟨_, rfl⟩
          obtain ⟨jN, hjN⟩ : ∃ q, q = kp := ⟨_, rfl⟩
          have ea : ((kp : Int) + 1).toNat = iN := by omega
          have pa : (0 : Int) ≤ (kp : Int) + 1 := by omega
          have ba : (kp : Int) + 1 < (d.size : Int) := by omega
          have ra : IntKind.i64.wrap ((kp : Int) + 1) = (kp : Int) + 1 := by rw [IntKind.wrap_i64]; omega
          have ec : (kp : Int).toNat = jN := by omega
          have pc : (0 : Int) ≤ (kp : Int) := by omega
          have bc : (kp : Int) < (d.size : Int) := by omega
          have rc : IntKind.i64.wrap (kp : Int) = (kp : Int) := by rw [IntKind.wrap_i64]; omega
          obtain ⟨x, hx⟩ : ∃ x, x = dk[kp + 1]! := ⟨_, rfl⟩
          obtain ⟨y, hy⟩ : ∃ x, x = dk[kp]! := ⟨_, rfl⟩
          have S2 : Aside (SW enc w0 blk off (swp dk (kp + 1) kp) ((wr.setCell ⟨blk, off + iN, none⟩ (enc y)).setCell ⟨blk, off + jN, none⟩ (enc x)).drew) := by rw [hiN, hjN, hx, hy]; exact S1.out.swapped R (kp + 1) kp (by omega) (by omega)
          have c1a := S1.out.c1 R (by omega) (kp + 1) (by omega)
          have c1b := S1.out.c1 R (by omega) kp (by omega)
          have f1a := S1.out.f1 R (by omega) (kp + 1) (by omega)
          have f1b := S1.out.f1 R (by omega) kp (by omega)
          obtain ⟨u, c1c⟩ := S1.out.c2 R (by omega) (kp + 1) kp (by omega) (by omega) (enc y)
          rw [← hiN] at c1c
          rw [← hjN] at c1c
          rw [← hx, ← hiN] at c1a
          rw [← hy, ← hjN] at c1b
          rw [← hiN] at f1a
          rw [← hjN] at f1b
          clear S1 hx hy hiN hjN
          go_wp2_with fail
          go_big_region_o
          clear c1a c1b c1c f1a f1b
          generalize ((wr.setCell ⟨blk, off + iN, none⟩ (enc y)).setCell ⟨blk, off + jN, none⟩ (enc x)).drew = w2 at S2 ⊢
          clear ea ec
          go_wp2
          go_roundg (kp - i)
          case measure => omega
          case rel => exact ⟨kp, by simp, by omega, by omega, Nat.le_refl _, by rw [show m - kp = m - (kp + 1) + 1 from by omega, shr1, ← hdk, show m - (m - (kp + 1)) = kp + 1 from by omega, Nat.add_sub_cancel]; exact S2⟩
        · go_wp2
          (try simp only [Exit.inBlock, Exit.then]); refine bodyPost_ret (results_none rfl _ _ _) rfl ?_
          have hk : k = i := by omega
          subst hk
          have hbm := HBM.out
          subst hbm
          refine ⟨rfl, _, S1.out, ?_, ?_⟩
          · rw [hdk]; exact Sam.shr1 (n := m - k) (by omega) (by omega) hb _ (Nat.le_refl _)
          · rw [hdk]; exact one_last HM.out hb ⟨h1, h3⟩ HA.out HB.out
end Go.Proofs.YtebipmdopdogkaaGreatDoor.S

namespace Go.Proofs.YtebipmdopdogkaaGreatDoor.S
open Go.Shelf Go.RowKit Go.Lib Go.Sort
set_option linter.unusedVariables false
variable {α : Type} [Inhabited α]
set_option maxHeartbeats 16000000 in
set_option maxRecDepth 1000000 in
theorem symMerge_more (enc : α → Value) (cf : α → α → Int) (g : Nat) (cb : Array Value) (key : α → Int) (idx : α → Nat) (blk off cap a m b : Nat) (d0 d : Array α) (w0 w : World)
    (eg : ∀ args w, (callFunc g args).run Tryz.prog w = .ok (.enter g args) w) (hcmp : CmpLays1 Tryz.prog g cb enc cf blk off d0.size w0) (hcf : ∀ x y, cf x y < 0 ↔ key y < key x)
    (R : Row1 enc w0 blk off d0) (hs : d0.size = d.size) (S : SW enc w0 blk off d w) (ham : a + 1 < m) (hmb : m + 1 < b) (hb : b ≤ d.size) (hsz : d.size < 4611686018427387904) (hM : Mrg key idx d a m b)
    (ih : ∀ (a' m' b' : Nat) (d' : Array α) (w' : World), b' - a' < b - a → d0.size = d'.size → SW enc w0 blk off d' w' → a' < m' → m' < b' → b' ≤ d'.size → Mrg key idx d' a' m' b' →
      Calls Tryz.prog 124 #[.slice (some ⟨blk, off, none⟩) d'.size cap, .int .i64 a', .int .i64 m', .int .i64 b', .func (.func g) #[] cb] w' fun e w'' => e = .returned (.tuple #[]) ∧ ∃ d'', SW enc w0 blk off d'' w'' ∧ Sam d' d'' a' b' ∧ Srt key idx d'' a' b') :
    Calls Tryz.prog 124 #[.slice (some ⟨blk, off, none⟩) d.size cap, .int .i64 a, .int .i64 m, .int .i64 b, .func (.func g) #[] cb] w fun e w' => e = .returned (.tuple #[]) ∧ ∃ d', SW enc w0 blk off d' w' ∧ Sam d d' a b ∧ Srt key idx d' a b := by
  have mixed : Tryz.prog.follows .mixedOrders = true := by kernel_rfl
  have hcl0 := R.hO.cells
  simp only [Value.cells] at hcl0
  have hst := R.hO.store Tryz.prog
  have HC : Aside _ := hcmp
  have HM : Aside (Mrg key idx d a m b) := hM
  have S0 : Aside (SW enc w0 blk off d w) := S
  have HCF : Hid (∀ x y, cf x y < 0 ↔ key y < key x) := hcf
  have IH : Aside _ := ih
  have eRO : ∀ args w, (callFunc 129 args).run Tryz.prog w = .ok (.enter 129 args) w := enters_of Tryz.func129 (by kernel_rfl) rfl
  have eSM : ∀ args w, (callFunc 124 args).run Tryz.prog w = .ok (.enter 124 args) w := enters_of Tryz.func124 (by kernel_rfl) rfl
  have e0 : ¬ ((m : Int) - (a : Int) = 1) := by omega
  have n0 : IntKind.i64.wrap ((m : Int) - (a : Int)) = (m : Int) - (a : Int) := by rw [IntKind.wrap_i64]; omega
  have e1 : ¬ ((b : Int) - (m : Int) = 1) := by omega
  have n1 : IntKind.i64.wrap ((b : Int) - (m : Int)) = (b : Int) - (m : Int) := by rw [IntKind.wrap_i64]; omega
  obtain ⟨mid, hmid⟩ : ∃ mid : Nat, mid = (a + b) / 2 := ⟨_, rfl⟩
  have zmid : ((a : Int) + (b : Int)) / 2 = (mid : Int) := by omega
  have m1 : a < mid := by omega
  have m2 : mid < b := by omega
  obtain ⟨n, hn⟩ : ∃ n : Nat, n = mid + m := ⟨_, rfl⟩
  have zn : (mid : Int) + (m : Int) = (n : Int) := by omega
  obtain ⟨p, hp⟩ : ∃ p : Nat, n = p + 1 := ⟨n - 1, by omega⟩
  have zp : (n : Int) - 1 = (p : Int) := by omega
  have HN : Hid (n = mid + m ∧ n = p + 1) := ⟨hn, hp⟩
  clear S hcmp hM hcf ih hmid hn hp
  have b0 : ((m : Int) - (a : Int) == 1) = false := by simpa using e0
  have b1 : ((b : Int) - (m : Int) == 1) = false := by simpa using e1
  go_enter Tryz.func124, Tryz.ntmps124
  go_upto_if 140 with fail
  go_cut [20, 21] (fun v20 v21 wc => ∃ (lo hi : Nat), v20 = .int .i64 lo ∧ v21 = .int .i64 hi ∧ ((mid < m ∧ lo + b = mid + m ∧ hi = mid) ∨ (m ≤ mid ∧ lo = a ∧ hi = m)) ∧ Aside (SW enc w0 blk off d wc))
  case first => as_aux_lemma =>
    by_cases c : mid < m
    · have c' : (mid : Int) < (m : Int) := by omega
      have z1 : (n : Int) - (b : Int) = ((mid + m - b : Nat) : Int) := by have := HN.out; omega
      go_wp2
      go_meet
      case rel => exact ⟨mid + m - b, mid, by first | rfl | rw [z1] | simp [z1], rfl, Or.inl ⟨c, by omega, rfl⟩, S0⟩
    · have c' : ¬ (mid : Int) < (m : Int) := by omega
      go_wp2
      go_meet
      case rel => exact ⟨a, m, rfl, rfl, Or.inr ⟨by omega, rfl, rfl⟩, S0⟩
  case rest => as_aux_lemma =>
    clear S0
    obtain ⟨lo, hi, rfl, rfl, hside, S0⟩ := hcut
    have hlo : a ≤ lo ∧ lo ≤ hi ∧ hi ≤ m ∧ hi ≤ mid ∧ n - hi ≥ m ∧ n - lo ≤ b := by have := HN.out; omega
    have HSIDE : Hid ((lo = a ∨ n - lo = b) ∧ (hi = m ∨ n - hi = m)) := by
      have := HN.out
      show _ ∧ _
      constructor
      · rcases hside with h | h
        · exact Or.inr (by omega)
        · exact Or.inl h.2.1
      · rcases hside with h | h
        · exact Or.inr (by omega)
        · exact Or.inl h.2.2
    have hnb : n ≤ b + lo ∧ m + hi ≤ n := by have := HN.out; omega
    clear hside e0 e1 n0 n1
    go_upto_region 33 with fail
    go_loopg [20, 21] (hi - lo) (fun kx s20 s21 wr => ∃ (i j : Nat), s20 = .int .i64 i ∧ s21 = .int .i64 j ∧ lo ≤ i ∧ i ≤ j ∧ j ≤ hi ∧ j - i ≤ kx ∧ Aside (SW enc w0 blk off d wr) ∧ Hid (i = lo ∨ Lx key idx d[i - 1]! d[n - i]!) ∧ Hid (j = hi ∨ Lx key idx d[n - 1 - j]! d[j]!))
    case atStart => exact ⟨lo, hi, rfl, rfl, by omega, by omega, by omega, by omega, S0, Or.inl rfl, Or.inl rfl⟩
    case round =>
      clear S0
      obtain ⟨i, j, rfl, rfl, h1, h2, h3, hkx, S1, HA, HB⟩ := hrel
      by_cases hlt : (i : Int) < (j : Int)
      · go_wp2_with fail
        obtain ⟨h, hh⟩ : ∃ h : Nat, h = (i + j) / 2 := ⟨_, rfl⟩
        have zh : ((i : Int) + (j : Int)) / 2 = (h : Int) := by omega
        have hi1 : i ≤ h := by omega
        have hi2 : h < j := by omega
        clear hh
        rw [zh]
        clear zh
        obtain ⟨q, hq⟩ : ∃ q : Nat, q = n - 1 - h := ⟨_, rfl⟩
        have hq2 : m ≤ q ∧ q < b := by have := HN.out; omega
        have zq : (p : Int) - (h : Int) = (q : Int) := by have := HN.out; omega
        have HQ : Hid (q = n - 1 - h) := hq
        clear hq
        obtain ⟨iN, hiN⟩ : ∃ q', q' = q := ⟨_, rfl⟩
        obtain ⟨jN, hjN⟩ : ∃ q', q' = h := ⟨_, rfl⟩
        have ea : (q : Int).toNat = iN := by omega
        have pa : (0 : Int) ≤ (q : Int) := by omega
        have ba : (q : Int) < (d.size : Int) := by omega
        have ra : IntKind.i64.wrap (q : Int) = (q : Int) := by rw [IntKind.wrap_i64]; omega
        have ec : (h : Int).toNat = jN := by omega
        have pc : (0 : Int) ≤ (h : Int) := by omega
        have bc : (h : Int) < (d.size : Int) := by omega
        obtain ⟨x, hx⟩ : ∃ x, x = d[q]! := ⟨_, rfl⟩
        obtain ⟨y, hy⟩ : ∃ x, x = d[h]! := ⟨_, rfl⟩
        have HXY : Hid (cf x y < 0 ↔ key y < key x) := HCF.out x y
        have HL := lx_of_idx (key := key) (idx := idx) (HM.out.2.2 h q (by omega) (by omega) hq2.1 hq2.2)
        have l1 := S1.out.cl R (by omega) q (by omega)
        have l2 := S1.out.cl R (by omega) h (by omega)
        rw [← hx, ← hiN] at l1
        rw [← hy, ← hjN] at l2
        have hc := S1.out.cmp HC.out (by omega) x y
        have HL2 : Hid ((cf x y < 0 → Lx key idx d[q]! d[h]!) ∧ (¬ cf x y < 0 → Lx key idx d[h]! d[q]!)) := by
          refine ⟨fun r => HL.1.1 ?_, fun r => HL.2.1 ?_⟩
          · rw [← hx, ← hy]; exact HXY.out.1 r
          · rw [← hx, ← hy]; exact fun r' => r (HXY.out.2 r')
        clear hx hy hiN hjN HL HXY
        by_cases hv : cf x y < 0
        · have hd1 : decide (cf x y < 0) = true := decide_eq_true hv
          go_quiet_grown (first | (go_at_fn g; refine Calls.grown_of (hc _ _)))
          have S2 : Aside (SW enc w0 blk off d (grow (wr.drewN nq) osq)) := S1.out.grown nq osq
          clear l1 l2 hc S1
          generalize grow (wr.drewN nq) osq = w2 at S2 ⊢
          clear nq osq ea ec
          go_wp2
          go_roundg (h - i)
          case measure => omega
          case rel => exact ⟨i, h, rfl, rfl, by omega, by omega, by omega, Nat.le_refl _, S2, HA, Or.inr (by rw [← HQ.out]; exact HL2.out.1 hv)⟩
        · have hd1 : decide (cf x y < 0) = false := decide_eq_false hv
          go_quiet_grown (first | (go_at_fn g; refine Calls.grown_of (hc _ _)))
          have S2 : Aside (SW enc w0 blk off d (grow (wr.drewN nq) osq)) := S1.out.grown nq osq
          clear l1 l2 hc S1
          generalize grow (wr.drewN nq) osq = w2 at S2 ⊢
          clear nq osq ea ec
          go_wp2
          go_roundg (j - (h + 1))
          case measure => omega
          case rel => exact ⟨h + 1, j, by simp, rfl, by omega, by omega, h3, Nat.le_refl _, S2, Or.inr (by rw [show n - (h + 1) = q from by have := HQ.out; omega]; exact HL2.out.2 hv), HB⟩
      · have hij : i = j := by omega
        subst hij
        obtain ⟨e, he⟩ : ∃ e : Nat, e = n - i := ⟨_, rfl⟩
        have ze : (n : Int) - (i : Int) = (e : Int) := by have := HN.out; omega
        have he2 : m ≤ e ∧ e ≤ b ∧ mid ≤ e := by have := HN.out; omega
        have hie : i ≤ m ∧ i ≤ mid ∧ a ≤ i := by omega
        have T0 : Hid ((i = a ∨ e = b ∨ Lx key idx d[i - 1]! d[e]!) ∧ (i = m ∨ e = m ∨ Lx key idx d[e - 1]! d[i]!) ∧ i + e = m + mid) := by
          have hn := HN.out
          refine ⟨?_, ?_, by omega⟩
          · rcases HA.out with h | h
            · rcases HSIDE.out.1 with g | g
              · exact Or.inl (by omega)
              · exact Or.inr (Or.inl (by omega))
            · exact Or.inr (Or.inr (by rw [he]; exact h))
          · rcases HB.out with h | h
            · rcases HSIDE.out.2 with g | g
              · exact Or.inl (by omega)
              · exact Or.inr (Or.inl (by omega))
            · exact Or.inr (Or.inr (by rw [show e - 1 = n - 1 - i from by omega]; exact h))
        clear HA HB HSIDE he hlo hnb h1 h3 zp zn
        go_upto_region 39 with fail
        go_cut [185] (fun v185 wc => v185 = .bool (decide (i < m ∧ m < e)) ∧ Aside (SW enc w0 blk off d wc))
        case first => as_aux_lemma =>
          by_cases c1 : i < m
          · have c1' : (i : Int) < (m : Int) := by omega
            by_cases c2 : m < e
            · have c2' : (m : Int) < (e : Int) := by omega
              go_wp2
              go_meet
              case rel => exact ⟨by rw [decide_eq_true ⟨c1, c2⟩], S1⟩
            · have c2' : ¬ (m : Int) < (e : Int) := by omega
              go_wp2
              go_meet
              case rel => exact ⟨by rw [decide_eq_false (by omega)], S1⟩
          · have c1' : ¬ (i : Int) < (m : Int) := by omega
            go_wp2
            go_meet
            case rel => exact ⟨by rw [decide_eq_false (by omega)], S1⟩
        case rest => as_aux_lemma =>
          clear S1
          obtain ⟨rfl, S1⟩ := hcut
          go_upto_if 185 with fail
          go_cut [] (fun wc => ∃ d1, Aside (SW enc w0 blk off d1 wc) ∧ Hid (Sam d d1 a b ∧ Mrg key idx d1 a i mid ∧ Mrg key idx d1 mid e b ∧ ∀ i j, a ≤ i → i < mid → mid ≤ j → j < b → Lx key idx d1[i]! d1[j]!))
          case first => as_aux_lemma =>
            by_cases c : i < m ∧ m < e
            · have hcall := rotate_s enc g cb blk off cap i m e d0 d w0 wc R hs S1.out c.1 c.2 (by omega) hsz
              have cd : decide (i < m ∧ m < e) = true := decide_eq_true c
              clear S1
              go_wp2_with (go_at_fn 129; refine hcall.mono ?_; rintro e w1 ⟨rfl, S3⟩)
              go_meet
              case rel => exact ⟨_, S3, turned HM.out (by omega) (by omega) T0.out.2.2 hb (by omega) T0.out.1 T0.out.2.1 (Or.inl ⟨c.1, c.2, by rw [show m - i + (e - m) = m - i + (e - m) from rfl]⟩)⟩
            · have cd : decide (i < m ∧ m < e) = false := decide_eq_false c
              go_wp2
              go_meet
              case rel => exact ⟨d, S1, turned HM.out (by omega) (by omega) T0.out.2.2 hb (by omega) T0.out.1 T0.out.2.1 (Or.inr ⟨by omega, rfl⟩)⟩
          case rest => as_aux_lemma =>
            clear S1
            obtain ⟨d1, S1, TU⟩ := hcut
            have hs1 : d1.size = d.size := TU.out.1.1
            go_upto_region 41 with fail
            go_cut [199] (fun v199 wc => v199 = .bool (decide (a < i ∧ i < mid)) ∧ Aside (SW enc w0 blk off d1 wc))
            case first => as_aux_lemma =>
              by_cases c1 : a < i
              · have c1' : (a : Int) < (i : Int) := by omega
                by_cases c2 : i < mid
                · have c2' : (i : Int) < (mid : Int) := by omega
                  go_wp2
                  go_meet
                  case rel => exact ⟨by rw [decide_eq_true ⟨c1, c2⟩], S1⟩
                · have c2' : ¬ (i : Int) < (mid : Int) := by omega
                  go_wp2
                  go_meet
                  case rel => exact ⟨by rw [decide_eq_false (by omega)], S1⟩
              · have c1' : ¬ (a : Int) < (i : Int) := by omega
                go_wp2
                go_meet
                case rel => exact ⟨by rw [decide_eq_false (by omega)], S1⟩
            case rest => as_aux_lemma =>
              clear S1
              obtain ⟨rfl, S1⟩ := hcut
              go_upto_if 199 with fail
              go_cut [] (fun wc => ∃ d2, Aside (SW enc w0 blk off d2 wc) ∧ Hid (Sam d1 d2 a mid ∧ Srt key idx d2 a mid))
              case first => as_aux_lemma =>
                by_cases c : a < i ∧ i < mid
                · have hcall := IH.out a i mid d1 wc (by omega) (by omega) S1.out c.1 c.2 (by omega) TU.out.2.1
                  rw [hs1] at hcall
                  have cd : decide (a < i ∧ i < mid) = true := decide_eq_true c
                  clear S1
                  go_wp2_with (go_at_fn 124; refine hcall.mono ?_; rintro e w1 ⟨rfl, d2, S3, S4, S5⟩)
                  go_meet
                  case rel => exact ⟨d2, S3, S4, S5⟩
                · have cd : decide (a < i ∧ i < mid) = false := decide_eq_false c
                  go_wp2
                  go_meet
                  case rel =>
                    refine ⟨d1, S1, Sam.refl _ _ _, ?_⟩
                    obtain ⟨t1, t2, t3⟩ := TU.out.2.1
                    by_cases c1 : a < i
                    · have : i = mid := by omega
                      rw [← this]; exact t1
                    · have : i = a := by omega
                      rw [this] at t2; exact t2
              case rest => as_aux_lemma =>
                clear S1
                obtain ⟨d2, S1, TV⟩ := hcut
                have hs2 : d2.size = d.size := TV.out.1.1.trans hs1
                have M2 : Hid (Mrg key idx d2 mid e b) := TU.out.2.2.1.of_sam TV.out.1 (by omega) (Or.inr (Nat.le_refl _))
                have FIN : ∀ d3, Sam d2 d3 mid b → Srt key idx d3 mid b → Sam d d3 a b ∧ Srt key idx d3 a b := by
                  intro d3 h1 h2
                  have u1 := TV.out.1
                  refine ⟨(TU.out.1.trans (u1.wide (Nat.le_refl _) (by omega))).trans (h1.wide (by omega) (Nat.le_refl _)), Srt.join (h1.srt TV.out.2 (Or.inl (Nat.le_refl _))) h2 ?_⟩
                  intro x y x1 x2 y1 y2
                  rw [h1.2.1 x (Or.inl x2)]
                  obtain ⟨l, l1, l2, l3⟩ := u1.2.2.1 x x1 x2
                  rw [l3]
                  obtain ⟨k, k1, k2, k3⟩ := h1.2.2.1 y y1 y2
                  rw [k3, u1.2.1 k (Or.inr k1)]
                  exact TU.out.2.2.2 l k l1 l2 k1 k2
                have FIN' : Aside _ := FIN
                clear FIN
                go_upto_region 43 with fail
                go_cut [213] (fun v213 wc => v213 = .bool (decide (mid < e ∧ e < b)) ∧ Aside (SW enc w0 blk off d2 wc))
                case first => as_aux_lemma =>
                  by_cases c1 : mid < e
                  · have c1' : (mid : Int) < (e : Int) := by omega
                    by_cases c2 : e < b
                    · have c2' : (e : Int) < (b : Int) := by omega
                      go_wp2
                      go_meet
                      case rel => exact ⟨by rw [decide_eq_true ⟨c1, c2⟩], S1⟩
                    · have c2' : ¬ (e : Int) < (b : Int) := by omega
                      go_wp2
                      go_meet
                      case rel => exact ⟨by rw [decide_eq_false (by omega)], S1⟩
                  · have c1' : ¬ (mid : Int) < (e : Int) := by omega
                    go_wp2
                    go_meet
                    case rel => exact ⟨by rw [decide_eq_false (by omega)], S1⟩
                case rest => as_aux_lemma =>
                  clear S1
                  obtain ⟨rfl, S1⟩ := hcut
                  by_cases c : mid < e ∧ e < b
                  · have hcall := IH.out mid e b d2 wc (by omega) (by omega) S1.out c.1 c.2 (by omega) M2.out
                    rw [hs2] at hcall
                    have cd : decide (mid < e ∧ e < b) = true := decide_eq_true c
                    clear S1
                    go_wp2_with (go_at_fn 124; refine hcall.mono ?_; rintro e w1 ⟨rfl, d3, S3, S4, S5⟩)
                    go_end0
                    exact ⟨rfl, d3, S3, FIN'.out d3 S4 S5⟩
                  · have cd : decide (mid < e ∧ e < b) = false := decide_eq_false c
                    go_wp2
                    go_end0
                    refine ⟨rfl, d2, S1.out, FIN'.out d2 (Sam.refl _ _ _) ?_⟩
                    obtain ⟨t1, t2, t3⟩ := M2.out
                    by_cases c1 : mid < e
                    · have : e = b := by omega
                      rw [← this]; exact t1
                    · have : e = mid := by omega
                      rw [this] at t2; exact t2
set_option maxRecDepth 100000 in
/-- slices.symMergeCmpFunc: two ordered stretches, the first's elements all from ahead of the second's, become one. -/
theorem symMerge_s (enc : α → Value) (cf : α → α → Int) (g : Nat) (cb : Array Value) (key : α → Int) (idx : α → Nat) (blk off cap : Nat) (d0 : Array α) (w0 : World)
    (eg : ∀ args w, (callFunc g args).run Tryz.prog w = .ok (.enter g args) w) (hcmp : CmpLays1 Tryz.prog g cb enc cf blk off d0.size w0) (hcf : ∀ x y, cf x y < 0 ↔ key y < key x)
    (R : Row1 enc w0 blk off d0) (hsz : d0.size < 4611686018427387904) : ∀ (f a m b : Nat) (d : Array α) (w : World), b - a < f → d0.size = d.size → SW enc w0 blk off d w → a < m → m < b → b ≤ d.size → Mrg key idx d a m b →
    Calls Tryz.prog 124 #[.slice (some ⟨blk, off, none⟩) d.size cap, .int .i64 a, .int .i64 m, .int .i64 b, .func (.func g) #[] cb] w fun e w' => e = .returned (.tuple #[]) ∧ ∃ d', SW enc w0 blk off d' w' ∧ Sam d d' a b ∧ Srt key idx d' a b := by
  intro f
  induction f with
  | zero => intro a m b d w hf; omega
  | succ f ih =>
    intro a m b d w hf hs S ham hmb hb hM
    by_cases c1 : m = a + 1
    · exact symMerge_one enc cf g cb key idx blk off cap a m b d0 d w0 w eg hcmp hcf R hs S c1 hmb hb (by omega) hM
    by_cases c2 : b = m + 1
    · exact symMerge_last enc cf g cb key idx blk off cap a m b d0 d w0 w eg hcmp hcf R hs S c2 (by omega) hb (by omega) hM
    exact symMerge_more enc cf g cb key idx blk off cap a m b d0 d w0 w eg hcmp hcf R hs S (by omega) (by omega) hb (by omega) hM
      (fun a' m' b' d' w' h1 h2 h3 h4 h5 h6 h7 => ih a' m' b' d' w' (by omega) h2 h3 h4 h5 h6 h7)
end Go.Proofs.YtebipmdopdogkaaGreatDoor.S

namespace Go.Proofs.YtebipmdopdogkaaGreatDoor.S
open Go.Shelf Go.RowKit Go.Lib Go.Sort
set_option linter.unusedVariables false
variable {α : Type} [Inhabited α]
/-- Elements in the order of their numbers. -/
def Asc (idx : α → Nat) (d : Array α) (a b : Nat) : Prop := ∀ i j, a ≤ i → i < j → j < b → idx d[i]! < idx d[j]!
/-- Within an insertion: all but place j are in order, what stands at j is ahead of all behind it, and is the latest. -/
def Ins (key : α → Int) (idx : α → Nat) (d : Array α) (a i j : Nat) : Prop :=
  (∀ p q, a ≤ p → p < q → q ≤ i → p ≠ j → q ≠ j → Lx key idx d[p]! d[q]!) ∧ (∀ q, j < q → q ≤ i → Lx key idx d[j]! d[q]!) ∧ (∀ p, a ≤ p → p ≤ i → p ≠ j → idx d[p]! < idx d[j]!)
theorem Ins.start {key : α → Int} {idx : α → Nat} {d : Array α} {a i : Nat} (h : Srt key idx d a i) (hx : ∀ p, a ≤ p → p < i → idx d[p]! < idx d[i]!) : Ins key idx d a i i :=
  ⟨fun p q h1 h2 h3 h4 h5 => h p q h1 h2 (by omega), fun q h1 h2 => by omega, fun p h1 h2 h3 => hx p h1 (by omega)⟩
theorem Ins.step {key : α → Int} {idx : α → Nat} {d : Array α} {a i j : Nat} (h : Ins key idx d a i (j + 1)) (haj : a ≤ j) (hji : j + 1 ≤ i) (hi : i < d.size) (hl : Lx key idx d[j + 1]! d[j]!) : Ins key idx (swp d (j + 1) j) a i j := by
  obtain ⟨h1, h2, h3⟩ := h
  have g := swp_get d (i := j + 1) (j := j) (by omega) (by omega)
  refine ⟨fun p q p1 p2 p3 p4 p5 => ?_, fun q q1 q2 => ?_, fun p p1 p2 p3 => ?_⟩
  · rw [g, g, if_neg p4, if_neg p5]
    by_cases c1 : p = j + 1
    · rw [if_pos c1, if_neg (by omega)]; exact h1 j q haj (by omega) p3 (by omega) (by omega)
    · rw [if_neg c1]
      by_cases c2 : q = j + 1
      · rw [if_pos c2]; exact h1 p j p1 (by omega) (by omega) (by omega) (by omega)
      · rw [if_neg c2]; exact h1 p q p1 p2 p3 c1 c2
  · rw [g, g, if_pos rfl, if_neg (by omega)]
    by_cases c1 : q = j + 1
    · rw [if_pos c1]; exact hl
    · rw [if_neg c1]; exact h2 q (by omega) q2
  · rw [g, g, if_pos rfl, if_neg p3]
    by_cases c1 : p = j + 1
    · rw [if_pos c1]; exact h3 j haj (by omega) (by omega)
    · rw [if_neg c1]; exact h3 p p1 p2 c1
theorem Ins.stop {key : α → Int} {idx : α → Nat} {d : Array α} {a i j : Nat} (h : Ins key idx d a i j) (hji : j ≤ i) (hs : j = a ∨ Lx key idx d[j - 1]! d[j]!) : Srt key idx d a (i + 1) := by
  obtain ⟨h1, h2, h3⟩ := h
  intro p q p1 p2 p3
  by_cases c1 : p = j
  · rw [c1]; exact h2 q (by omega) (by omega)
  · by_cases c2 : q = j
    · rcases hs with hs | hs
      · omega
      · by_cases c3 : p = j - 1
        · rw [c3, c2]; exact hs
        · rw [c2]; exact (h1 p (j - 1) p1 (by omega) (by omega) c1 (by omega)).trans hs
    · exact h1 p q p1 p2 (by omega) c1 c2
set_option maxHeartbeats 8000000 in
set_option maxRecDepth 1000000 in
theorem insertion_s (enc : α → Value) (cf : α → α → Int) (g : Nat) (cb : Array Value) (key : α → Int) (idx : α → Nat) (blk off cap a b : Nat) (d0 d : Array α) (w0 w : World)
    (eg : ∀ args w, (callFunc g args).run Tryz.prog w = .ok (.enter g args) w) (hcmp : CmpLays1 Tryz.prog g cb enc cf blk off d0.size w0) (hcf : ∀ x y, cf x y < 0 ↔ key y < key x)
    (R : Row1 enc w0 blk off d0) (hs : d0.size = d.size) (S : SW enc w0 blk off d w) (hab : a ≤ b) (hb : b ≤ d.size) (hsz : d.size < 4611686018427387904) (hA : Asc idx d a b) :
    Calls Tryz.prog 123 #[.slice (some ⟨blk, off, none⟩) d.size cap, .int .i64 a, .int .i64 b, .func (.func g) #[] cb] w fun e w' => e = .returned (.tuple #[]) ∧ ∃ d', SW enc w0 blk off d' w' ∧ Sam d d' a b ∧ Srt key idx d' a b := by
  have mixed : Tryz.prog.follows .mixedOrders = true := by kernel_rfl
  have hcl0 := R.hO.cells
  simp only [Value.cells] at hcl0
  have hst := R.hO.store Tryz.prog
  have HC : Aside _ := hcmp
  have HASC : Hid (Asc idx d a b) := hA
  have S0 : Aside (SW enc w0 blk off d w) := S
  have HCF : Hid (∀ x y, cf x y < 0 ↔ key y < key x) := hcf
  clear S hcmp hcf hA
  go_enter Tryz.func123, Tryz.ntmps123
  go_wp2
  go_loopg [8] (b - a) (fun kx s8 wr => ∃ (i : Nat) (dk : Array α), s8 = .int .i64 i ∧ a < i ∧ (i ≤ b ∨ i = a + 1) ∧ b + 1 - i ≤ kx + 1 ∧ dk.size = d.size ∧ Aside (SW enc w0 blk off dk wr) ∧ Hid (Sam d dk a (min i b)) ∧ Hid (Srt key idx dk a (min i b)))
  case atStart => exact ⟨a + 1, d, by go_num, by omega, by omega, by omega, rfl, S0, Sam.refl _ _ _, fun p q h1 h2 h3 => by omega⟩
  case round => as_aux_lemma =>
    clear S0
    obtain ⟨i, dk, rfl, hai, hib, hkx, hds, S1, HS1, HS2⟩ := hrel
    by_cases hlt : i < b
    · have hltz : (i : Int) < (b : Int) := by omega
      have HI0 : Hid (Ins key idx dk a i i) := by
        have e : min i b = i := by omega
        have s1 := HS1.out; have s2 := HS2.out
        rw [e] at s1 s2
        refine Ins.start s2 fun p p1 p2 => ?_
        rw [s1.2.1 i (by omega)]
        obtain ⟨l, l1, l2, l3⟩ := s1.2.2.1 p p1 p2
        rw [l3]; exact HASC.out l i l1 l2 hlt
      go_wp2
      go_loopg [9] i (fun kx2 s9 wr2 => ∃ (j : Nat) (dj : Array α), s9 = .int .i64 j ∧ a ≤ j ∧ j ≤ i ∧ j ≤ kx2 ∧ dj.size = d.size ∧ Aside (SW enc w0 blk off dj wr2) ∧ Hid (Sam dk dj a (i + 1)) ∧ Hid (Ins key idx dj a i j))
      case atStart => exact ⟨i, dk, rfl, by omega, Nat.le_refl _, Nat.le_refl _, hds, S1, Sam.refl _ _ _, HI0⟩
      case round =>
        clear S1 HI0
        obtain ⟨j, dj, rfl, haj, hji, hkj, hdj, SJ, HJ1, HJ2⟩ := hrel
        have out : ∀ w', SW enc w0 blk off dj w' → (j = a ∨ Lx key idx dj[j - 1]! dj[j]!) → ∃ (i' : Nat) (dk' : Array α), Value.int .i64 ((i : Int) + 1) = .int .i64 i' ∧ a < i' ∧ (i' ≤ b ∨ i' = a + 1) ∧ b + 1 - i' ≤ (b - (i + 1)) + 1 ∧ dk'.size = d.size ∧ Aside (SW enc w0 blk off dk' w') ∧ Hid (Sam d dk' a (min i' b)) ∧ Hid (Srt key idx dk' a (min i' b)) := by
          intro w' hw hstop
          refine ⟨i + 1, dj, by simp, by omega, by omega, by omega, hdj, hw, ?_, ?_⟩
          · have e : min (i + 1) b = i + 1 := by omega
            rw [e]; exact (HS1.out.wide (Nat.le_refl _) (by omega)).trans HJ1.out
          · have e : min (i + 1) b = i + 1 := by omega
            rw [e]; exact HJ2.out.stop hji hstop
        have OUT : Aside _ := out
        clear out HS1 HS2
        by_cases hja : a < j
        · obtain ⟨jp, hjp⟩ : ∃ q, j = q + 1 := ⟨j - 1, by omega⟩
          subst hjp
          have hjaz' : (a : Int) < (jp : Int) + 1 := by omega
          have hjad : decide ((jp : Int) + 1 > (a : Int)) = true := decide_eq_true (by omega)
          obtain ⟨iN, hiN⟩ : ∃ q, q = jp + 1 := ⟨_, rfl⟩
          obtain ⟨jN, hjN⟩ : ∃ q, q = jp := ⟨_, rfl⟩
          have ea : ((jp : Int) + 1).toNat = iN := by omega
          have pa : (0 : Int) ≤ (jp : Int) + 1 := by omega
          have ba : (jp : Int) + 1 < (d.size : Int) := by omega
          have ra : IntKind.i64.wrap ((jp : Int) + 1) = (jp : Int) + 1 := by rw [IntKind.wrap_i64]; omega
          have ec : (jp : Int).toNat = jN := by omega
          have pc : (0 : Int) ≤ (jp : Int) := by omega
          have bc : (jp : Int) < (d.size : Int) := by omega
          have rc : IntKind.i64.wrap (jp : Int) = (jp : Int) := by rw [IntKind.wrap_i64]; omega
          obtain ⟨x, hx⟩ : ∃ x, x = dj[jp + 1]! := ⟨_, rfl⟩
          obtain ⟨y, hy⟩ : ∃ x, x = dj[jp]! := ⟨_, rfl⟩
          have HXY : Hid (cf x y < 0 ↔ key y < key x) := HCF.out x y
          have HL := lx_of_idx (key := key) (idx := idx) (HJ2.out.2.2 jp (by omega) (by omega) (by omega))
          have l1 := SJ.out.cl R (by omega) (jp + 1) (by omega)
          have l2 := SJ.out.cl R (by omega) jp (by omega)
          rw [← hx, ← hiN] at l1
          rw [← hy, ← hjN] at l2
          have hc := SJ.out.cmp HC.out (by omega) x y
          have HL2 : Hid ((cf x y < 0 → Lx key idx dj[jp + 1]! dj[jp]!) ∧ (¬ cf x y < 0 → Lx key idx dj[jp]! dj[jp + 1]!)) := by
            refine ⟨fun r => HL.1.1 ?_, fun r => HL.2.1 ?_⟩
            · rw [← hx, ← hy]; exact HXY.out.1 r
            · rw [← hx, ← hy]; exact fun r' => r (HXY.out.2 r')
          have HX : Hid (x = dj[jp + 1]!) := hx
          have HY : Hid (y = dj[jp]!) := hy
          have HIN : Hid (iN = jp + 1) := hiN
          have HJN : Hid (jN = jp) := hjN
          clear hx hy hiN hjN HL HXY
          by_cases hv : cf x y < 0
          · have hd1 : decide (cf x y < 0) = true := decide_eq_true hv
            clear OUT
            go_wp2_with fail
            go_quiet_grown (first | (go_at_fn g; refine Calls.grown_of (hc _ _)))
            have S2 : Aside (SW enc w0 blk off dj (grow (wr.drewN nq) osq)) := SJ.out.grown nq osq
            clear l1 l2 hc SJ
            generalize grow (wr.drewN nq) osq = w2 at S2 ⊢
            clear nq osq
            have S3 : Aside (SW enc w0 blk off (swp dj (jp + 1) jp) ((w2.setCell ⟨blk, off + iN, none⟩ (enc y)).setCell ⟨blk, off + jN, none⟩ (enc x)).drew) := by rw [HIN.out, HJN.out, HX.out, HY.out]; exact S2.out.swapped R (jp + 1) jp (by omega) (by omega)
            have c1a := S2.out.c1 R (by omega) (jp + 1) (by omega)
            have c1b := S2.out.c1 R (by omega) jp (by omega)
            have f1a := S2.out.f1 R (by omega) (jp + 1) (by omega)
            have f1b := S2.out.f1 R (by omega) jp (by omega)
            obtain ⟨u, c1c⟩ := S2.out.c2 R (by omega) (jp + 1) jp (by omega) (by omega) (enc y)
            rw [← HIN.out] at c1c
            rw [← HJN.out] at c1c
            rw [← HX.out, ← HIN.out] at c1a
            rw [← HY.out, ← HJN.out] at c1b
            rw [← HIN.out] at f1a
            rw [← HJN.out] at f1b
            clear S2
            go_wp2_with fail
            go_big_region_o
            clear c1a c1b c1c f1a f1b
            generalize ((w2.setCell ⟨blk, off + iN, none⟩ (enc y)).setCell ⟨blk, off + jN, none⟩ (enc x)).drew = w3 at S3 ⊢
            clear ea ec
            go_wp2
            go_roundg jp
            case measure => omega
            case rel => exact ⟨jp, swp dj (jp + 1) jp, by first | rfl | go_num | simp, by omega, by omega, Nat.le_refl _, by rw [swp_size]; exact hdj, S3, HJ1.out.trans (Sam.swp ⟨by omega, by omega⟩ ⟨by omega, by omega⟩ (by omega)), HJ2.out.step (by omega) (by omega) (by omega) (HL2.out.1 hv)⟩
          · have hd1 : decide (cf x y < 0) = false := decide_eq_false hv
            go_wp2_with fail
            go_quiet_grown (first | (go_at_fn g; refine Calls.grown_of (hc _ _)))
            have S2 : Aside (SW enc w0 blk off dj (grow (wr.drewN nq) osq)) := SJ.out.grown nq osq
            clear l1 l2 hc SJ
            generalize grow (wr.drewN nq) osq = w2 at S2 ⊢
            clear nq osq
            go_wp2
            go_roundg (b - (i + 1))
            case measure => omega
            case rel => exact OUT.out _ S2.out (Or.inr (by rw [Nat.add_sub_cancel]; exact HL2.out.2 hv))
        · have hjaz : decide ((j : Int) > (a : Int)) = false := decide_eq_false (by omega)
          have hjaz' : ¬ (a : Int) < (j : Int) := by omega
          have S2 : Aside (SW enc w0 blk off dj wr.drew) := SJ.out.drew
          clear SJ
          go_wp2_with fail
          go_big_region_o
          all_goals go_wp2
          go_roundg (b - (i + 1))
          case measure => omega
          case rel => exact OUT.out _ S2.out (Or.inl (by omega))
    · have hltz : ¬ (i : Int) < (b : Int) := by omega
      go_wp2
      go_end0
      have e : min i b = b := by omega
      have s1 := HS1.out; have s2 := HS2.out
      rw [e] at s1 s2
      exact ⟨rfl, dk, S1.out, s1, s2⟩
end Go.Proofs.YtebipmdopdogkaaGreatDoor.S

namespace Go.Proofs.YtebipmdopdogkaaGreatDoor.S
open Go.Shelf Go.RowKit Go.Lib Go.Sort
set_option linter.unusedVariables false
variable {α : Type} [Inhabited α]
/-- Two places of one block are in order, of two blocks those of the first are from ahead. -/
def Blk (key : α → Int) (idx : α → Nat) (d : Array α) (n : Nat) (same : Nat → Nat → Prop) : Prop := ∀ i j, i < j → j < n → (same i j → Lx key idx d[i]! d[j]!) ∧ (¬ same i j → idx d[i]! < idx d[j]!)
theorem Blk.step {key : α → Int} {idx : α → Nat} {d d' : Array α} {n a b : Nat} {s1 s2 : Nat → Nat → Prop} (h : Blk key idx d n s1) (hb : b ≤ n) (hS : Sam d d' a b) (hO : Srt key idx d' a b)
    (h1 : ∀ i j, a ≤ i → i < j → j < b → s2 i j) (h2 : ∀ i j, i < a → a ≤ j → j < b → ¬ s1 i j ∧ ¬ s2 i j) (h3 : ∀ i j, a ≤ i → i < b → b ≤ j → j < n → ¬ s1 i j ∧ ¬ s2 i j)
    (h4 : ∀ i j, i < j → (i < a ∨ b ≤ i) → (j < a ∨ b ≤ j) → j < n → (s1 i j ↔ s2 i j)) : Blk key idx d' n s2 := by
  intro i j hij hj
  by_cases ci : a ≤ i ∧ i < b
  · by_cases cj : j < b
    · exact ⟨fun _ => hO i j ci.1 hij cj, fun q => absurd (h1 i j ci.1 hij cj) q⟩
    · refine ⟨fun q => absurd q (h3 i j ci.1 ci.2 (by omega) hj).2, fun _ => ?_⟩
      rw [hS.2.1 j (by omega)]
      obtain ⟨l, l1, l2, l3⟩ := hS.2.2.1 i ci.1 ci.2
      rw [l3]; exact (h l j (by omega) hj).2 (h3 l j l1 l2 (by omega) hj).1
  · rw [hS.2.1 i (by omega)]
    by_cases cj : a ≤ j ∧ j < b
    · refine ⟨fun q => absurd q (h2 i j (by omega) cj.1 cj.2).2, fun _ => ?_⟩
      obtain ⟨l, l1, l2, l3⟩ := hS.2.2.1 j cj.1 cj.2
      rw [l3]; exact (h i l (by omega) (by omega)).2 (h2 i l (by omega) l1 l2).1
    · rw [hS.2.1 j (by omega)]
      have := h4 i j hij (by omega) (by omega) hj
      exact ⟨fun q => (h i j hij hj).1 (this.2 q), fun q => (h i j hij hj).2 (fun q' => q (this.1 q'))⟩
/-- Blocks of 20, up to a. -/
def s20 (a i j : Nat) : Prop := j < a ∧ i / 20 = j / 20
/-- Blocks of 2B up to a, of B behind. -/
def sB (B a i j : Nat) : Prop := (j < a ∧ i / (2 * B) = j / (2 * B)) ∨ (a ≤ j ∧ i / B = j / B)
theorem div_ne {B c i j : Nat} (hB : 0 < B) (h1 : i < c * B) (h2 : c * B ≤ j) : i / B ≠ j / B := by
  have a : i / B < c := (Nat.div_lt_iff_lt_mul hB).2 h1
  have b : c ≤ j / B := (Nat.le_div_iff_mul_le hB).2 h2
  omega
theorem div_in {B c i : Nat} (hB : 0 < B) (h1 : c * B ≤ i) (h2 : i < (c + 1) * B) : i / B = c := by
  have a : i / B < c + 1 := (Nat.div_lt_iff_lt_mul hB).2 h2
  have b : c ≤ i / B := (Nat.le_div_iff_mul_le hB).2 h1
  omega
theorem blk20 {key : α → Int} {idx : α → Nat} {d d' : Array α} {n a b : Nat} (h : Blk key idx d n (s20 a)) (ha : a % 20 = 0) (hb : b ≤ n) (hab : a ≤ b) (hb2 : b = a + 20 ∨ (b = n ∧ b < a + 20)) (hS : Sam d d' a b) (hO : Srt key idx d' a b) : Blk key idx d' n (s20 b) := by
  refine h.step hb hS hO ?_ ?_ ?_ ?_
  · intro i j h1 h2 h3; unfold s20; omega
  · intro i j h1 h2 h3; unfold s20; omega
  · intro i j h1 h2 h3 h4; unfold s20; omega
  · intro i j h1 h2 h3 h4; unfold s20; omega
theorem blkB {key : α → Int} {idx : α → Nat} {d d' : Array α} {n a b c B : Nat} (hB : 0 < B) (h : Blk key idx d n (sB B a)) (ha : a = c * (2 * B)) (hb : b ≤ n) (hab : a ≤ b) (hb2 : b = a + 2 * B ∨ (b = n ∧ b < a + 2 * B)) (hS : Sam d d' a b) (hO : Srt key idx d' a b) : Blk key idx d' n (sB B b) := by
  have ha2 : a = 2 * c * B := by rw [ha, ← Nat.mul_assoc, Nat.mul_comm c 2]
  have hc1 : (c + 1) * (2 * B) = a + 2 * B := by rw [Nat.add_mul, Nat.one_mul, ← ha]
  have hc2 : (2 * c + 2) * B = a + 2 * B := by rw [Nat.add_mul, ← ha2]
  refine h.step hb hS hO ?_ ?_ ?_ ?_
  · intro i j h1 h2 h3
    refine Or.inl ⟨h3, ?_⟩
    rw [div_in (c := c) (B := 2 * B) (by omega) (by omega) (by omega), div_in (c := c) (B := 2 * B) (by omega) (by omega) (by omega)]
  · intro i j h1 h2 h3
    have d1 := div_ne (c := 2 * c) (i := i) (j := j) hB (by omega) (by omega)
    have d2 := div_ne (B := 2 * B) (c := c) (i := i) (j := j) (by omega) (by omega) (by omega)
    unfold sB
    refine ⟨fun q => ?_, fun q => ?_⟩
    · rcases q with q | q
      · omega
      · exact d1 q.2
    · rcases q with q | q
      · exact d2 q.2
      · omega
  · intro i j h1 h2 h3 h4
    have hbb : b = a + 2 * B := by omega
    have d1 := div_ne (c := 2 * c + 2) (i := i) (j := j) hB (by omega) (by omega)
    unfold sB
    refine ⟨fun q => ?_, fun q => ?_⟩
    · rcases q with q | q
      · omega
      · exact d1 q.2
    · rcases q with q | q
      · omega
      · exact d1 q.2
  · intro i j h1 h2 h3 h4
    unfold sB
    constructor
    · rintro (q | q)
      · exact Or.inl ⟨by omega, q.2⟩
      · exact Or.inr ⟨by omega, q.2⟩
    · rintro (q | q)
      · exact Or.inl ⟨by omega, q.2⟩
      · exact Or.inr ⟨by omega, q.2⟩
theorem Blk.congr {key : α → Int} {idx : α → Nat} {d : Array α} {n : Nat} {s1 s2 : Nat → Nat → Prop} (h : Blk key idx d n s1) (hs : ∀ i j, i < j → j < n → (s1 i j ↔ s2 i j)) : Blk key idx d n s2 := by
  intro i j h1 h2
  have := hs i j h1 h2
  exact ⟨fun q => (h i j h1 h2).1 (this.2 q), fun q => (h i j h1 h2).2 (fun q' => q (this.1 q'))⟩
/-- A merge of two blocks may begin. -/
theorem blk_mrg {key : α → Int} {idx : α → Nat} {d : Array α} {n a b c B : Nat} (hB : 0 < B) (h : Blk key idx d n (sB B a)) (ha : a = c * (2 * B)) (hb : b ≤ n) (hb2 : b ≤ a + 2 * B) (hm : a + B < b) : Mrg key idx d a (a + B) b := by
  have ha2 : a = 2 * c * B := by rw [ha, ← Nat.mul_assoc, Nat.mul_comm c 2]
  have hc1 : (2 * c + 1) * B = a + B := by rw [Nat.add_mul, ← ha2, Nat.one_mul]
  have hc2 : (2 * c + 1 + 1) * B = a + 2 * B := by rw [show 2 * c + 1 + 1 = 2 * c + 2 from rfl, Nat.add_mul, ← ha2]
  refine ⟨fun i j i1 i2 i3 => (h i j i2 (by omega)).1 (Or.inr ⟨by omega, ?_⟩), fun i j i1 i2 i3 => (h i j i2 (by omega)).1 (Or.inr ⟨by omega, ?_⟩), fun i j i1 i2 i3 i4 => (h i j (by omega) (by omega)).2 ?_⟩
  · rw [div_in (c := 2 * c) hB (by omega) (by omega), div_in (c := 2 * c) hB (by omega) (by omega)]
  · rw [div_in (c := 2 * c + 1) hB (by omega) (by omega), div_in (c := 2 * c + 1) hB (by omega) (by omega)]
  · have d1 := div_ne (c := 2 * c + 1) (i := i) (j := j) hB (by omega) (by omega)
    unfold sB
    rintro (q | q)
    · omega
    · exact d1 q.2
set_option maxHeartbeats 8000000 in
set_option maxRecDepth 1000000 in
theorem stable_s (enc : α → Value) (cf : α → α → Int) (g : Nat) (cb : Array Value) (key : α → Int) (idx : α → Nat) (blk off cap : Nat) (d0 d : Array α) (w0 w : World)
    (eg : ∀ args w, (callFunc g args).run Tryz.prog w = .ok (.enter g args) w) (hcmp : CmpLays1 Tryz.prog g cb enc cf blk off d0.size w0) (hcf : ∀ x y, cf x y < 0 ↔ key y < key x)
    (R : Row1 enc w0 blk off d0) (hs : d0.size = d.size) (S : SW enc w0 blk off d w) (hsz : d.size < 1152921504606846976) (hA : Asc idx d 0 d.size) :
    Calls Tryz.prog 106 #[.slice (some ⟨blk, off, none⟩) d.size cap, .int .i64 d.size, .func (.func g) #[] cb] w fun e w' => e = .returned (.tuple #[]) ∧ ∃ d', SW enc w0 blk off d' w' ∧ Sam d d' 0 d.size ∧ Srt key idx d' 0 d.size := by
  have mixed : Tryz.prog.follows .mixedOrders = true := by kernel_rfl
  have hcl0 := R.hO.cells
  simp only [Value.cells] at hcl0
  have hst := R.hO.store Tryz.prog
  have HC : Aside _ := hcmp
  have HB0 : Hid (Blk key idx d d.size (s20 0)) := fun i j h1 h2 => ⟨fun q => by unfold s20 at q; omega, fun _ => hA i j (by omega) h1 h2⟩
  have S0 : Aside (SW enc w0 blk off d w) := S
  have HCF : Hid (∀ x y, cf x y < 0 ↔ key y < key x) := hcf
  obtain ⟨n, hn⟩ : ∃ n, n = d.size := ⟨_, rfl⟩
  rw [← hn] at HB0 hsz ⊢
  have HN : Hid (n = d.size) := hn
  clear S hcmp hcf hA hn
  have eIN : ∀ args w, (callFunc 123 args).run Tryz.prog w = .ok (.enter 123 args) w := enters_of Tryz.func123 (by kernel_rfl) rfl
  have eSM : ∀ args w, (callFunc 124 args).run Tryz.prog w = .ok (.enter 124 args) w := enters_of Tryz.func124 (by kernel_rfl) rfl
  go_enter Tryz.func106, Tryz.ntmps106
  go_wp2
  go_loopg [7, 8] n (fun kx s7 s8 wr => ∃ (a b : Nat) (dk : Array α), s7 = .int .i64 a ∧ s8 = .int .i64 b ∧ b = a + 20 ∧ a % 20 = 0 ∧ a ≤ n ∧ n - a ≤ kx ∧ Aside (SW enc w0 blk off dk wr) ∧ Hid (Sam d dk 0 n ∧ Blk key idx dk n (s20 a)))
  case atStart => exact ⟨0, 20, d, rfl, rfl, rfl, rfl, by omega, by omega, S0, Sam.refl _ _ _, HB0⟩
  case round => as_aux_lemma =>
    clear S0 HB0
    obtain ⟨a, b, dk, rfl, rfl, hab, ha20, han, hkx, S1, HB⟩ := hrel
    have HAB : Hid (b = a + 20) := hab
    have hdk : dk.size = n := by rw [HN.out]; exact HB.out.1.1
    by_cases hlt : b ≤ n
    · have hltz : (b : Int) ≤ (n : Int) := by omega
      have hasc : Asc idx dk a b := fun i j h1 h2 h3 => (HB.out.2 i j h2 (by omega)).2 (by unfold s20; omega)
      have hcall := insertion_s enc cf g cb key idx blk off cap a b d0 dk w0 wr eg HC.out HCF.out R (by have := HN.out; omega) S1.out (by omega) (by omega) (by omega) hasc
      rw [hdk] at hcall
      clear S1 hab hasc
      go_wp2_with (go_at_fn 123; refine hcall.mono ?_; rintro e w1 ⟨rfl, d1, S3, S4, S5⟩)
      go_roundg (n - b)
      case measure => have := HAB.out; omega
      case rel => exact ⟨b, b + 20, d1, rfl, by simp, rfl, by have := HAB.out; omega, hlt, Nat.le_refl _, S3, HB.out.1.trans (S4.wide (Nat.zero_le _) hlt), blk20 HB.out.2 ha20 hlt (by have := HAB.out; omega) (Or.inl HAB.out) S4 S5⟩
    · have hltz : ¬ (b : Int) ≤ (n : Int) := by omega
      have hasc : Asc idx dk a n := fun i j h1 h2 h3 => (HB.out.2 i j h2 (by omega)).2 (by unfold s20; omega)
      have hcall := insertion_s enc cf g cb key idx blk off cap a n d0 dk w0 wr eg HC.out HCF.out R (by have := HN.out; omega) S1.out (by omega) (by omega) (by omega) hasc
      rw [hdk] at hcall
      clear S1 hab hasc
      go_wp2_with (go_at_fn 123; refine hcall.mono ?_; rintro e w1 ⟨rfl, d1, S3, S4, S5⟩)
      have HD1 : Hid (Sam d d1 0 n ∧ Blk key idx d1 n (s20 n)) := ⟨HB.out.1.trans (S4.wide (Nat.zero_le _) (Nat.le_refl _)), blk20 HB.out.2 ha20 (Nat.le_refl _) han (Or.inr ⟨rfl, by have := HAB.out; omega⟩) S4 S5⟩
      have S1 : Aside (SW enc w0 blk off d1 w1) := S3
      clear HB S3 S4 S5 hdk
      go_loopg [6, 7, 8, 9] n (fun kx s6 s7 s8 s9 wr => ∃ (B : Nat) (dk : Array α), s6 = .int .i64 B ∧ 20 ≤ B ∧ (B < 2 * n ∨ B = 20) ∧ n - B ≤ kx ∧ Aside (SW enc w0 blk off dk wr) ∧ Hid (Sam d dk 0 n ∧ Blk key idx dk n (fun i j => i / B = j / B)))
      case atStart => exact ⟨20, d1, rfl, by omega, Or.inr rfl, by omega, S1, HD1.out.1, HD1.out.2.congr (fun i j h1 h2 => by unfold s20; omega)⟩
      case round => as_aux_lemma =>
        clear S1 HD1
        obtain ⟨B, d2, rfl, hB1, hB2, hkx2, S1, HB⟩ := hrel
        have hd2 : d2.size = n := by rw [HN.out]; exact HB.out.1.1
        by_cases hbn : B < n
        · have hbnz : (B : Int) < (n : Int) := by omega
          have w2B : IntKind.i64.wrap (2 * (B : Int)) = 2 * (B : Int) := by rw [IntKind.wrap_i64]; omega
          have wB2 : IntKind.i64.wrap ((B : Int) * 2) = (B : Int) * 2 := by rw [IntKind.wrap_i64]; omega
          go_wp2
          go_loopg [7, 8] n (fun kx s7 s8 wr => ∃ (c a b : Nat) (dk : Array α), s7 = .int .i64 a ∧ s8 = .int .i64 b ∧ Hid (a = c * (2 * B)) ∧ Hid (b = a + 2 * B) ∧ a ≤ n ∧ n - a ≤ kx ∧ Aside (SW enc w0 blk off dk wr) ∧ Hid (Sam d dk 0 n ∧ Blk key idx dk n (sB B a)))
          case atStart => exact ⟨0, 0, 2 * B, d2, rfl, by simp, (Nat.zero_mul _).symm, (Nat.zero_add _).symm, by omega, by omega, S1, HB.out.1, HB.out.2.congr (fun i j h1 h2 => by unfold sB; simp)⟩
          case round =>
            clear S1 HB
            obtain ⟨c, a, b, dk, rfl, rfl, HA, HAB2, han2, hkx3, S1, HB⟩ := hrel
            have hdk : dk.size = n := by rw [HN.out]; exact HB.out.1.1
            have zaB : ((a + B : Nat) : Int) = (a : Int) + (B : Int) := by omega
            have waB : IntKind.i64.wrap ((a : Int) + (B : Int)) = (a : Int) + (B : Int) := by rw [IntKind.wrap_i64]; omega
            by_cases hlt2 : b ≤ n
            · have hltz2 : (b : Int) ≤ (n : Int) := by omega
              have hM := blk_mrg (by omega) HB.out.2 HA.out hlt2 (Nat.le_of_eq HAB2.out) (by have := HAB2.out; omega)
              have hcall := symMerge_s enc cf g cb key idx blk off cap d0 w0 eg HC.out HCF.out R (by have := HN.out; omega) (n + 1) a (a + B) b dk wr (by omega) (by have := HN.out; omega) S1.out (by omega) (by have := HAB2.out; omega) (by omega) hM
              rw [hdk, zaB] at hcall
              have wb2 : IntKind.i64.wrap ((b : Int) + 2 * (B : Int)) = (b : Int) + 2 * (B : Int) := by rw [IntKind.wrap_i64]; omega
              clear S1 hM
              go_wp2_with (go_at_fn 124; refine hcall.mono ?_; rintro e w1 ⟨rfl, d3, S3, S4, S5⟩)
              go_roundg (n - b)
              case measure => have := HAB2.out; omega
              case rel => exact ⟨c + 1, b, b + 2 * B, d3, rfl, by simp, (by show _ = _; rw [Nat.add_mul, Nat.one_mul, ← HA.out]; exact HAB2.out), (by show _ = _; rfl), hlt2, Nat.le_refl _, S3, HB.out.1.trans (S4.wide (Nat.zero_le _) hlt2), blkB (by omega) HB.out.2 HA.out hlt2 (by have := HAB2.out; omega) (Or.inl HAB2.out) S4 S5⟩
            · have hltz2 : ¬ (b : Int) ≤ (n : Int) := by omega
              have fin : ∀ w' d3, SW enc w0 blk off d3 w' → Sam dk d3 a n → Srt key idx d3 a n → ∃ (B' : Nat) (dk' : Array α), Value.int .i64 ((B : Int) * 2) = .int .i64 B' ∧ 20 ≤ B' ∧ (B' < 2 * n ∨ B' = 20) ∧ n - B' ≤ n - 2 * B ∧ Aside (SW enc w0 blk off dk' w') ∧ Hid (Sam d dk' 0 n ∧ Blk key idx dk' n (fun i j => i / B' = j / B')) := by
                intro w' d3 h1 h2 h3
                refine ⟨2 * B, d3, by congr 1; omega, by omega, Or.inl (by omega), Nat.le_refl _, h1, HB.out.1.trans (h2.wide (Nat.zero_le _) (Nat.le_refl _)), ?_⟩
                refine (blkB (by omega) HB.out.2 HA.out (Nat.le_refl _) han2 (Or.inr ⟨rfl, by have := HAB2.out; omega⟩) h2 h3).congr ?_
                intro i j q1 q2
                unfold sB
                constructor
                · rintro (q | q)
                  · exact q.2
                  · omega
                · intro q; exact Or.inl ⟨q2, q⟩
              have FIN : Aside _ := fin
              clear fin
              by_cases hm : a + B < n
              · have hmz : (a : Int) + (B : Int) < (n : Int) := by omega
                have hM := blk_mrg (b := n) (by omega) HB.out.2 HA.out (Nat.le_refl _) (by have := HAB2.out; omega) hm
                have hcall := symMerge_s enc cf g cb key idx blk off cap d0 w0 eg HC.out HCF.out R (by have := HN.out; omega) (n + 1) a (a + B) n dk wr (by omega) (by have := HN.out; omega) S1.out (by omega) hm (by omega) hM
                rw [hdk, zaB] at hcall
                clear S1 hM
                go_wp2_with (go_at_fn 124; refine hcall.mono ?_; rintro e w1 ⟨rfl, d3, S3, S4, S5⟩)
                go_roundg (n - 2 * B)
                case measure => omega
                case rel => exact FIN.out w1 d3 S3 S4 S5
              · have hmz : ¬ (a : Int) + (B : Int) < (n : Int) := by omega
                have hsrt : Hid (Srt key idx dk a n) := by
                  intro i j i1 i2 i3
                  refine (HB.out.2 i j i2 i3).1 (Or.inr ⟨by omega, ?_⟩)
                  have ha2 : a = 2 * c * B := by rw [HA.out, ← Nat.mul_assoc, Nat.mul_comm c 2]
                  have hc1 : (2 * c + 1) * B = a + B := by rw [Nat.add_mul, ← ha2, Nat.one_mul]
                  rw [div_in (c := 2 * c) (by omega) (by omega) (by omega), div_in (c := 2 * c) (by omega) (by omega) (by omega)]
                go_wp2
                go_roundg (n - 2 * B)
                case measure => omega
                case rel => exact FIN.out wr dk S1.out (Sam.refl _ _ _) hsrt.out
        · have hbnz : ¬ (B : Int) < (n : Int) := by omega
          go_wp2
          go_end0
          refine ⟨rfl, d2, S1.out, HB.out.1, fun i j h1 h2 h3 => (HB.out.2 i j h2 h3).1 ?_⟩
          show i / B = j / B
          rw [Nat.div_eq_of_lt (show i < B by omega), Nat.div_eq_of_lt (show j < B by omega)]
end Go.Proofs.YtebipmdopdogkaaGreatDoor.S
