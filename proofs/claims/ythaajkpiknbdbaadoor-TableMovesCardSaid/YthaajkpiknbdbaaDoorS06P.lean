/- Plain laws of the stable sort's steps: exchanging two stretches, turning a stretch, merging two ordered stretches. No program in sight. -/
import Derived.Sort.Defs
import Derived.Sort.Row
import Derived.Sort.WalkC
namespace Go.Proofs.YthaajkpiknbdbaaDoor.S
open Go.Sort
variable {α : Type} [Inhabited α]
set_option linter.unusedVariables false
set_option linter.unusedSectionVars false

theorem swp_size (d : Array α) (i j : Nat) : (swp d i j).size = d.size := by unfold swp; simp
theorem swp_get (d : Array α) {i j : Nat} (hi : i < d.size) (hj : j < d.size) (k : Nat) : (swp d i j)[k]! = if k = j then d[i]! else if k = i then d[j]! else d[k]! := by
  unfold swp
  by_cases h : k = j
  · subst h; rw [if_pos rfl, getElem!_set_same _ _ _ (by simpa using hj)]
  · rw [if_neg h, getElem!_set_other _ _ _ _ h]
    by_cases g : k = i
    · subst g; rw [if_pos rfl, getElem!_set_same _ _ _ hi]
    · rw [if_neg g, getElem!_set_other _ _ _ _ g]

/-- Two stretches exchanged, from the first place on. -/
def swpRange (d : Array α) (a b : Nat) : Nat → Array α
  | 0 => d
  | n + 1 => swp (swpRange d a b n) (a + n) (b + n)
theorem swpRange_size (d : Array α) (a b : Nat) : ∀ n, (swpRange d a b n).size = d.size
  | 0 => rfl
  | n + 1 => by rw [swpRange, swp_size, swpRange_size d a b n]
theorem swpRange_get (d : Array α) (a b : Nat) : ∀ n, a + n ≤ b → b + n ≤ d.size → ∀ k, (swpRange d a b n)[k]! = if a ≤ k ∧ k < a + n then d[k - a + b]! else if b ≤ k ∧ k < b + n then d[k - b + a]! else d[k]! := by
  intro n
  induction n with
  | zero => intro h1 h2 k; rw [if_neg (by omega), if_neg (by omega)]; rfl
  | succ n ih =>
    intro h1 h2 k
    have hz := swpRange_size d a b n
    rw [swpRange, swp_get _ (by omega) (by omega)]
    have i1 := ih (by omega) (by omega)
    by_cases c1 : k = b + n
    · rw [if_pos c1, i1, if_neg (by omega), if_neg (by omega), if_neg (by omega), if_pos (by omega)]
      exact congrArg (fun q => d[q]!) (by omega)
    rw [if_neg c1]
    by_cases c2 : k = a + n
    · rw [if_pos c2, i1, if_neg (by omega), if_neg (by omega), if_pos (by omega)]
      exact congrArg (fun q => d[q]!) (by omega)
    rw [if_neg c2, i1]
    by_cases c3 : a ≤ k ∧ k < a + n
    · rw [if_pos c3, if_pos (by omega)]
    rw [if_neg c3, if_neg (show ¬ (a ≤ k ∧ k < a + (n + 1)) from by omega)]
    by_cases c4 : b ≤ k ∧ k < b + n
    · rw [if_pos c4, if_pos (by omega)]
    rw [if_neg c4, if_neg (by omega)]

/-- A stretch turned about its middle m: i behind it, j ahead. -/
def rotLoop (m : Nat) : Nat → Array α → Nat → Nat → Array α
  | 0, d, i, _ => swpRange d (m - i) m i
  | f + 1, d, i, j => if i = j then swpRange d (m - i) m i else if j < i then rotLoop m f (swpRange d (m - i) m j) (i - j) j else rotLoop m f (swpRange d (m - i) (m + j - i) i) i (j - i)
theorem rotLoop_size (m : Nat) : ∀ f (d : Array α) i j, (rotLoop m f d i j).size = d.size := by
  intro f
  induction f with
  | zero => intro d i j; exact swpRange_size _ _ _ _
  | succ f ih =>
    intro d i j
    rw [rotLoop]
    split
    · exact swpRange_size _ _ _ _
    · split
      · rw [ih, swpRange_size]
      · rw [ih, swpRange_size]
theorem rotLoop_get (m : Nat) : ∀ f (d : Array α) i j, i + j ≤ f + 1 → 1 ≤ i → 1 ≤ j → i ≤ m → m + j ≤ d.size → ∀ k, (rotLoop m f d i j)[k]! = if m - i ≤ k ∧ k < m - i + j then d[k + i]! else if m - i + j ≤ k ∧ k < m + j then d[k - j]! else d[k]! := by
  intro f
  induction f with
  | zero => intro d i j hf hi hj; omega
  | succ f ih =>
    intro d i j hf hi hj him hmj k
    rw [rotLoop]
    by_cases c : i = j
    · subst c
      rw [if_pos rfl, swpRange_get _ _ _ _ (by omega) (by omega)]
      by_cases c1 : m - i ≤ k ∧ k < m - i + i
      · rw [if_pos c1, if_pos c1]; exact congrArg (fun q => d[q]!) (by omega)
      rw [if_neg c1, if_neg c1]
      by_cases c2 : m ≤ k ∧ k < m + i
      · rw [if_pos c2, if_pos (by omega)]; exact congrArg (fun q => d[q]!) (by omega)
      rw [if_neg c2, if_neg (by omega)]
    rw [if_neg c]
    by_cases c0 : j < i
    · rw [if_pos c0, ih _ _ _ (by omega) (by omega) hj (by omega) (by rw [swpRange_size]; omega)]
      have g := swpRange_get d (m - i) m j (by omega) (by omega)
      by_cases c1 : m - (i - j) ≤ k ∧ k < m - (i - j) + j
      · rw [if_pos c1, g, if_neg (show ¬ (m - i ≤ k + (i - j) ∧ k + (i - j) < m - i + j) from by omega), if_pos (show m ≤ k + (i - j) ∧ k + (i - j) < m + j from by omega),
          if_neg (show ¬ (m - i ≤ k ∧ k < m - i + j) from by omega), if_pos (show m - i + j ≤ k ∧ k < m + j from by omega)]
        exact congrArg (fun q => d[q]!) (by omega)
      rw [if_neg c1]
      by_cases c2 : m - (i - j) + j ≤ k ∧ k < m + j
      · rw [if_pos c2, g, if_neg (show ¬ (m - i ≤ k - j ∧ k - j < m - i + j) from by omega), if_neg (show ¬ (m ≤ k - j ∧ k - j < m + j) from by omega),
          if_neg (show ¬ (m - i ≤ k ∧ k < m - i + j) from by omega), if_pos (show m - i + j ≤ k ∧ k < m + j from by omega)]
      rw [if_neg c2, g]
      by_cases c3 : m - i ≤ k ∧ k < m - i + j
      · rw [if_pos c3, if_pos c3]; exact congrArg (fun q => d[q]!) (by omega)
      rw [if_neg c3, if_neg c3, if_neg (show ¬ (m ≤ k ∧ k < m + j) from by omega), if_neg (show ¬ (m - i + j ≤ k ∧ k < m + j) from by omega)]
    · rw [if_neg c0, ih _ _ _ (by omega) hi (by omega) (by omega) (by rw [swpRange_size]; omega)]
      have g := swpRange_get d (m - i) (m + j - i) i (by omega) (by omega)
      by_cases c1 : m - i ≤ k ∧ k < m - i + (j - i)
      · rw [if_pos c1, g, if_neg (show ¬ (m - i ≤ k + i ∧ k + i < m - i + i) from by omega), if_neg (show ¬ (m + j - i ≤ k + i ∧ k + i < m + j - i + i) from by omega), if_pos (show m - i ≤ k ∧ k < m - i + j from by omega)]
      rw [if_neg c1]
      by_cases c2 : m - i + (j - i) ≤ k ∧ k < m + (j - i)
      · rw [if_pos c2, g, if_pos (show m - i ≤ k - (j - i) ∧ k - (j - i) < m - i + i from by omega), if_pos (show m - i ≤ k ∧ k < m - i + j from by omega)]
        exact congrArg (fun q => d[q]!) (by omega)
      rw [if_neg c2, g]
      by_cases c4 : m - i + j ≤ k ∧ k < m + j
      · rw [if_neg (show ¬ (m - i ≤ k ∧ k < m - i + i) from by omega), if_pos (show m + j - i ≤ k ∧ k < m + j - i + i from by omega), if_neg (show ¬ (m - i ≤ k ∧ k < m - i + j) from by omega), if_pos c4]
        exact congrArg (fun q => d[q]!) (by omega)
      rw [if_neg (show ¬ (m - i ≤ k ∧ k < m - i + i) from by omega), if_neg (show ¬ (m + j - i ≤ k ∧ k < m + j - i + i) from by omega), if_neg (show ¬ (m - i ≤ k ∧ k < m - i + j) from by omega), if_neg c4]

/-- The order that a stable sort by falling keys comes to: the greater key first, of two alike the one that was ahead. -/
def Lx (key : α → Int) (idx : α → Nat) (x y : α) : Prop := key y < key x ∨ key x = key y ∧ idx x < idx y
theorem Lx.trans {key : α → Int} {idx : α → Nat} {x y z : α} (h : Lx key idx x y) (g : Lx key idx y z) : Lx key idx x z := by
  unfold Lx at *; omega
theorem Lx.irrefl {key : α → Int} {idx : α → Nat} {x : α} (h : Lx key idx x x) : False := by
  unfold Lx at *; omega
/-- A stretch in order. -/
def Srt (key : α → Int) (idx : α → Nat) (d : Array α) (a b : Nat) : Prop := ∀ i j, a ≤ i → i < j → j < b → Lx key idx d[i]! d[j]!
/-- The same elements in a stretch, and outside it all as it was. -/
def Sam (d d' : Array α) (a b : Nat) : Prop := d'.size = d.size ∧ (∀ k, k < a ∨ b ≤ k → d'[k]! = d[k]!) ∧ (∀ k, a ≤ k → k < b → ∃ l, a ≤ l ∧ l < b ∧ d'[k]! = d[l]!) ∧ (∀ k, a ≤ k → k < b → ∃ l, a ≤ l ∧ l < b ∧ d[k]! = d'[l]!)
theorem Sam.refl (d : Array α) (a b : Nat) : Sam d d a b := ⟨rfl, fun _ _ => rfl, fun k h1 h2 => ⟨k, h1, h2, rfl⟩, fun k h1 h2 => ⟨k, h1, h2, rfl⟩⟩
theorem Sam.trans {d d' d'' : Array α} {a b : Nat} (h : Sam d d' a b) (g : Sam d' d'' a b) : Sam d d'' a b := by
  obtain ⟨h1, h2, h3, h4⟩ := h
  obtain ⟨g1, g2, g3, g4⟩ := g
  refine ⟨g1.trans h1, fun k hk => (g2 k hk).trans (h2 k hk), fun k a1 a2 => ?_, fun k a1 a2 => ?_⟩
  · obtain ⟨l, l1, l2, l3⟩ := g3 k a1 a2
    obtain ⟨m, m1, m2, m3⟩ := h3 l l1 l2
    exact ⟨m, m1, m2, l3.trans m3⟩
  · obtain ⟨l, l1, l2, l3⟩ := h4 k a1 a2
    obtain ⟨m, m1, m2, m3⟩ := g4 l l1 l2
    exact ⟨m, m1, m2, l3.trans m3⟩
theorem Sam.wide {d d' : Array α} {a b c e : Nat} (h : Sam d d' a b) (hc : c ≤ a) (he : b ≤ e) : Sam d d' c e := by
  obtain ⟨h1, h2, h3, h4⟩ := h
  refine ⟨h1, fun k hk => h2 k (by omega), fun k a1 a2 => ?_, fun k a1 a2 => ?_⟩
  · by_cases c1 : a ≤ k ∧ k < b
    · obtain ⟨l, l1, l2, l3⟩ := h3 k c1.1 c1.2; exact ⟨l, by omega, by omega, l3⟩
    · exact ⟨k, a1, a2, h2 k (by omega)⟩
  · by_cases c1 : a ≤ k ∧ k < b
    · obtain ⟨l, l1, l2, l3⟩ := h4 k c1.1 c1.2; exact ⟨l, by omega, by omega, l3⟩
    · exact ⟨k, a1, a2, (h2 k (by omega)).symm⟩
/-- What all of a stretch meet, all of it meet behind a change of places. -/
theorem Sam.all {d d' : Array α} {a b : Nat} (h : Sam d d' a b) {p : α → Prop} (hp : ∀ k, a ≤ k → k < b → p d[k]!) : ∀ k, a ≤ k → k < b → p d'[k]! := by
  intro k h1 h2
  obtain ⟨l, l1, l2, l3⟩ := h.2.2.1 k h1 h2
  rw [l3]; exact hp l l1 l2
theorem Sam.srt {key : α → Int} {idx : α → Nat} {d d' : Array α} {a b c e : Nat} (h : Sam d d' a b) (hs : Srt key idx d c e) (hd : e ≤ a ∨ b ≤ c) : Srt key idx d' c e := by
  intro i j h1 h2 h3
  rw [h.2.1 i (by omega), h.2.1 j (by omega)]; exact hs i j h1 h2 h3
theorem Sam.swp {d : Array α} {a b i j : Nat} (hi : a ≤ i ∧ i < b) (hj : a ≤ j ∧ j < b) (hb : b ≤ d.size) : Sam d (swp d i j) a b := by
  have g := swp_get d (i := i) (j := j) (by omega) (by omega)
  refine ⟨swp_size _ _ _, fun k hk => ?_, fun k a1 a2 => ?_, fun k a1 a2 => ?_⟩
  · rw [g, if_neg (by omega), if_neg (by omega)]
  · rw [g]
    by_cases c : k = j
    · rw [if_pos c]; exact ⟨i, hi.1, hi.2, rfl⟩
    · rw [if_neg c]
      by_cases c2 : k = i
      · rw [if_pos c2]; exact ⟨j, hj.1, hj.2, rfl⟩
      · rw [if_neg c2]; exact ⟨k, a1, a2, rfl⟩
  · by_cases c : k = i
    · subst c; exact ⟨j, hj.1, hj.2, by rw [g, if_pos rfl]⟩
    · by_cases c2 : k = j
      · subst c2
        refine ⟨i, hi.1, hi.2, ?_⟩
        rw [g, if_neg (by omega), if_pos rfl]
      · exact ⟨k, a1, a2, by rw [g, if_neg c2, if_neg c]⟩
theorem Sam.rot {d : Array α} {m i j : Nat} (hi : 1 ≤ i) (hj : 1 ≤ j) (him : i ≤ m) (hmj : m + j ≤ d.size) : Sam d (rotLoop m (i + j) d i j) (m - i) (m + j) := by
  have g := rotLoop_get m (i + j) d i j (by omega) hi hj him hmj
  refine ⟨rotLoop_size _ _ _ _ _, fun k hk => ?_, fun k a1 a2 => ?_, fun k a1 a2 => ?_⟩
  · rw [g, if_neg (by omega), if_neg (by omega)]
  · rw [g]
    by_cases c : m - i ≤ k ∧ k < m - i + j
    · rw [if_pos c]; exact ⟨k + i, by omega, by omega, rfl⟩
    · rw [if_neg c, if_pos (by omega)]; exact ⟨k - j, by omega, by omega, rfl⟩
  · by_cases c : k < m
    · refine ⟨k + j, by omega, by omega, ?_⟩
      rw [g, if_neg (by omega), if_pos (by omega)]; exact congrArg (fun q => d[q]!) (by omega)
    · refine ⟨k - i, by omega, by omega, ?_⟩
      rw [g, if_pos (by omega)]; exact congrArg (fun q => d[q]!) (by omega)

/-- What a merge asks: two ordered stretches, the first's elements all from ahead of the second's. -/
def Mrg (key : α → Int) (idx : α → Nat) (d : Array α) (a m b : Nat) : Prop :=
  Srt key idx d a m ∧ Srt key idx d m b ∧ (∀ i j, a ≤ i → i < m → m ≤ j → j < b → idx d[i]! < idx d[j]!)
theorem lx_of_idx {key : α → Int} {idx : α → Nat} {x y : α} (h : idx x < idx y) : (key x < key y ↔ Lx key idx y x) ∧ (¬ key x < key y ↔ Lx key idx x y) := by
  unfold Lx; omega
/-- Two ordered stretches, all of the first ahead of all of the second, are one. -/
theorem Srt.join {key : α → Int} {idx : α → Nat} {d : Array α} {a m b : Nat} (h1 : Srt key idx d a m) (h2 : Srt key idx d m b) (h : ∀ i j, a ≤ i → i < m → m ≤ j → j < b → Lx key idx d[i]! d[j]!) : Srt key idx d a b := by
  intro i j hi hij hj
  by_cases c : j < m
  · exact h1 i j hi hij c
  · by_cases c2 : m ≤ i
    · exact h2 i j c2 hij hj
    · exact h i j hi (by omega) (by omega) hj
/-- The first of the two stretches is one element: it goes to its place i (all from m to i are ahead of it, none from i on). -/
def shl1 (a : Nat) : Nat → Array α → Array α
  | 0, d => d
  | n + 1, d => swp (shl1 a n d) (a + n) (a + n + 1)
theorem shl1_size (a : Nat) : ∀ n (d : Array α), (shl1 a n d).size = d.size
  | 0, _ => rfl
  | n + 1, d => by rw [shl1, swp_size, shl1_size a n d]
theorem shl1_get (a : Nat) (d : Array α) : ∀ n, a + n < d.size → ∀ k, (shl1 a n d)[k]! = if a ≤ k ∧ k < a + n then d[k + 1]! else if k = a + n then d[a]! else d[k]! := by
  intro n
  induction n with
  | zero =>
    intro h k
    rw [if_neg (by omega)]
    by_cases c : k = a + 0
    · rw [if_pos c]; subst c; rfl
    · rw [if_neg c]; rfl
  | succ n ih =>
    intro h k
    have hz := shl1_size a n d
    have i1 := ih (by omega)
    rw [shl1, swp_get _ (by omega) (by omega)]
    by_cases c1 : k = a + n + 1
    · rw [if_pos c1, i1, if_neg (by omega), if_pos rfl, if_neg (by omega), if_pos (by omega)]
    rw [if_neg c1]
    by_cases c2 : k = a + n
    · rw [if_pos c2, i1, if_neg (by omega), if_neg (by omega), if_pos (by omega)]; exact congrArg (fun q => d[q]!) (by omega)
    rw [if_neg c2, i1]
    by_cases c3 : a ≤ k ∧ k < a + n
    · rw [if_pos c3, if_pos (by omega)]
    rw [if_neg c3, if_neg (by omega), if_neg (by omega), if_neg (by omega)]
/-- The last of a stretch goes n places down. -/
def shr1 (m : Nat) : Nat → Array α → Array α
  | 0, d => d
  | n + 1, d => swp (shr1 m n d) (m - n) (m - n - 1)
theorem shr1_size (m : Nat) : ∀ n (d : Array α), (shr1 m n d).size = d.size
  | 0, _ => rfl
  | n + 1, d => by rw [shr1, swp_size, shr1_size m n d]
theorem shr1_get (m : Nat) (d : Array α) (hm : m < d.size) : ∀ n, n ≤ m → ∀ k, (shr1 m n d)[k]! = if m - n < k ∧ k ≤ m then d[k - 1]! else if k = m - n then d[m]! else d[k]! := by
  intro n
  induction n with
  | zero =>
    intro h k
    rw [if_neg (by omega)]
    by_cases c : k = m - 0
    · rw [if_pos c]; subst c; rfl
    · rw [if_neg c]; rfl
  | succ n ih =>
    intro h k
    have hz := shr1_size m n d
    have i1 := ih (by omega)
    rw [shr1, swp_get _ (by omega) (by omega)]
    by_cases c1 : k = m - n - 1
    · rw [if_pos c1, i1, if_neg (by omega), if_pos rfl, if_neg (by omega), if_pos (by omega)]
    rw [if_neg c1]
    by_cases c2 : k = m - n
    · rw [if_pos c2, i1, if_neg (by omega), if_neg (by omega), if_pos (by omega)]; exact congrArg (fun q => d[q]!) (by omega)
    rw [if_neg c2, i1]
    by_cases c3 : m - n < k ∧ k ≤ m
    · rw [if_pos c3, if_pos (by omega)]
    rw [if_neg c3, if_neg (by omega), if_neg (by omega), if_neg (by omega)]

theorem Sam.shl1 {d : Array α} {a n b : Nat} (hn : a + n < b) (hb : b ≤ d.size) : ∀ q, q ≤ n → Sam d (shl1 a q d) a b
  | 0, _ => Sam.refl _ _ _
  | q + 1, h => (Sam.shl1 hn hb q (by omega)).trans (Sam.swp ⟨by omega, by omega⟩ ⟨by omega, by omega⟩ (by rw [shl1_size]; exact hb))
theorem Sam.shr1 {d : Array α} {a m n b : Nat} (hn : a + n ≤ m) (hm : m < b) (hb : b ≤ d.size) : ∀ q, q ≤ n → Sam d (shr1 m q d) a b
  | 0, _ => Sam.refl _ _ _
  | q + 1, h => (Sam.shr1 hn hm hb q (by omega)).trans (Sam.swp ⟨by omega, by omega⟩ ⟨by omega, by omega⟩ (by rw [shr1_size]; exact hb))

/-- One element, and an ordered stretch behind it: it goes behind those that are ahead of it. -/
theorem one_first {key : α → Int} {idx : α → Nat} {d : Array α} {a b i : Nat} (hM : Mrg key idx d a (a + 1) b) (hb : b ≤ d.size) (hi : a + 1 ≤ i ∧ i ≤ b)
    (h1 : i = a + 1 ∨ Lx key idx d[i - 1]! d[a]!) (h2 : i = b ∨ Lx key idx d[a]! d[i]!) : Srt key idx (shl1 a (i - 1 - a) d) a b := by
  obtain ⟨_, s2, _⟩ := hM
  have g := shl1_get a d (i - 1 - a) (by omega)
  have lo : ∀ k, a + 1 ≤ k → k < i → Lx key idx d[k]! d[a]! := by
    intro k k1 k2
    rcases h1 with h | h
    · omega
    · by_cases c : k = i - 1
      · subst c; exact h
      · exact (s2 k (i - 1) k1 (by omega) (by omega)).trans h
  have hi2 : ∀ k, i ≤ k → k < b → Lx key idx d[a]! d[k]! := by
    intro k k1 k2
    rcases h2 with h | h
    · omega
    · by_cases c : k = i
      · subst c; exact h
      · exact h.trans (s2 i k (by omega) (by omega) k2)
  intro p q hp hpq hq
  rw [g, g]
  by_cases c1 : a ≤ p ∧ p < a + (i - 1 - a)
  · rw [if_pos c1]
    by_cases c2 : a ≤ q ∧ q < a + (i - 1 - a)
    · rw [if_pos c2]; exact s2 _ _ (by omega) (by omega) (by omega)
    · rw [if_neg c2]
      by_cases c3 : q = a + (i - 1 - a)
      · rw [if_pos c3]; exact lo _ (by omega) (by omega)
      · rw [if_neg c3]; exact s2 _ _ (by omega) (by omega) (by omega)
  · rw [if_neg c1, if_neg (show ¬ (a ≤ q ∧ q < a + (i - 1 - a)) from by omega), if_neg (show ¬ q = a + (i - 1 - a) from by omega)]
    by_cases c3 : p = a + (i - 1 - a)
    · rw [if_pos c3]; exact hi2 _ (by omega) hq
    · rw [if_neg c3]; exact s2 _ _ (by omega) (by omega) hq
/-- An ordered stretch, and one element behind it. -/
theorem one_last {key : α → Int} {idx : α → Nat} {d : Array α} {a m i : Nat} (hM : Mrg key idx d a m (m + 1)) (hb : m + 1 ≤ d.size) (hi : a ≤ i ∧ i ≤ m)
    (h1 : i = a ∨ Lx key idx d[i - 1]! d[m]!) (h2 : i = m ∨ Lx key idx d[m]! d[i]!) : Srt key idx (shr1 m (m - i) d) a (m + 1) := by
  obtain ⟨s1, _, _⟩ := hM
  have g := shr1_get m d (by omega) (m - i) (by omega)
  have lo : ∀ k, a ≤ k → k < i → Lx key idx d[k]! d[m]! := by
    intro k k1 k2
    rcases h1 with h | h
    · omega
    · by_cases c : k = i - 1
      · subst c; exact h
      · exact (s1 k (i - 1) k1 (by omega) (by omega)).trans h
  have hi2 : ∀ k, i ≤ k → k < m → Lx key idx d[m]! d[k]! := by
    intro k k1 k2
    rcases h2 with h | h
    · omega
    · by_cases c : k = i
      · subst c; exact h
      · exact h.trans (s1 i k (by omega) (by omega) k2)
  intro p q hp hpq hq
  rw [g, g]
  by_cases c1 : m - (m - i) < p ∧ p ≤ m
  · rw [if_pos c1, if_pos (by omega)]; exact s1 _ _ (by omega) (by omega) (by omega)
  · rw [if_neg c1]
    by_cases c3 : p = m - (m - i)
    · rw [if_pos c3, if_pos (by omega)]; exact hi2 _ (by omega) (by omega)
    · rw [if_neg c3]
      by_cases c2 : m - (m - i) < q ∧ q ≤ m
      · rw [if_pos c2]; exact s1 _ _ (by omega) (by omega) (by omega)
      · rw [if_neg c2]
        by_cases c4 : q = m - (m - i)
        · rw [if_pos c4]; exact lo _ hp (by omega)
        · rw [if_neg c4]; exact s1 _ _ (by omega) (by omega) (by omega)

/-- Behind the turn about m of the stretch from s to e (s + e = m + mid): two merges are left, and all of the first is ahead of all of the second. -/
theorem turned {key : α → Int} {idx : α → Nat} {d d' : Array α} {a m b mid s e : Nat} (hM : Mrg key idx d a m b) (ha : a ≤ s ∧ s ≤ m) (he : m ≤ e ∧ e ≤ b) (hse : s + e = m + mid) (hb : b ≤ d.size)
    (hmid : a ≤ mid ∧ mid ≤ b) (h1 : s = a ∨ e = b ∨ Lx key idx d[s - 1]! d[e]!) (h2 : s = m ∨ e = m ∨ Lx key idx d[e - 1]! d[s]!)
    (hd : (s < m ∧ m < e ∧ d' = rotLoop m (m - s + (e - m)) d (m - s) (e - m)) ∨ ((s = m ∨ e = m) ∧ d' = d)) :
    Sam d d' a b ∧ Mrg key idx d' a s mid ∧ Mrg key idx d' mid e b ∧ ∀ i j, a ≤ i → i < mid → mid ≤ j → j < b → Lx key idx d'[i]! d'[j]! := by
  obtain ⟨s1, s2, s3⟩ := hM
  have A1 : ∀ k l, a ≤ k → k < s → e ≤ l → l < b → Lx key idx d[k]! d[l]! := by
    intro k l k1 k2 l1 l2
    rcases h1 with h | h | h
    · omega
    · omega
    · have x : Lx key idx d[k]! d[e]! := by
        by_cases c : k = s - 1
        · subst c; exact h
        · exact (s1 k (s - 1) k1 (by omega) (by omega)).trans h
      by_cases c : l = e
      · subst c; exact x
      · exact x.trans (s2 e l (by omega) (by omega) l2)
  have A2 : ∀ k l, m ≤ k → k < e → s ≤ l → l < m → Lx key idx d[k]! d[l]! := by
    intro k l k1 k2 l1 l2
    rcases h2 with h | h | h
    · omega
    · omega
    · have x : Lx key idx d[k]! d[s]! := by
        by_cases c : k = e - 1
        · subst c; exact h
        · exact (s2 k (e - 1) k1 (by omega) (by omega)).trans h
      by_cases c : l = s
      · subst c; exact x
      · exact x.trans (s1 s l (by omega) (by omega) l2)
  -- where each element is from
  have G : Sam d d' a b ∧ ∀ k, d'[k]! = if s ≤ k ∧ k < mid then d[k + m - s]! else if mid ≤ k ∧ k < e then d[k + s - mid]! else d[k]! := by
    rcases hd with ⟨c1, c2, rfl⟩ | ⟨c1, rfl⟩
    · have g := rotLoop_get m (m - s + (e - m)) d (m - s) (e - m) (by omega) (by omega) (by omega) (by omega) (by omega)
      refine ⟨(Sam.rot (d := d) (m := m) (i := m - s) (j := e - m) (by omega) (by omega) (by omega) (by omega)).wide (by omega) (by omega), fun k => ?_⟩
      rw [g]
      by_cases x1 : s ≤ k ∧ k < mid
      · rw [if_pos x1, if_pos (by omega)]; exact congrArg (fun q => d[q]!) (by omega)
      rw [if_neg x1, if_neg (by omega)]
      by_cases x2 : mid ≤ k ∧ k < e
      · rw [if_pos x2, if_pos (by omega)]; exact congrArg (fun q => d[q]!) (by omega)
      rw [if_neg x2, if_neg (by omega)]
    · refine ⟨Sam.refl _ _ _, fun k => ?_⟩
      by_cases x1 : s ≤ k ∧ k < mid
      · rw [if_pos x1]; exact congrArg (fun q => d'[q]!) (by omega)
      rw [if_neg x1]
      by_cases x2 : mid ≤ k ∧ k < e
      · rw [if_pos x2]; exact congrArg (fun q => d'[q]!) (by omega)
      rw [if_neg x2]
  obtain ⟨GS, g⟩ := G
  have p1 : ∀ k, a ≤ k → k < s → d'[k]! = d[k]! := fun k k1 k2 => by rw [g, if_neg (by omega), if_neg (by omega)]
  have p2 : ∀ k, s ≤ k → k < mid → d'[k]! = d[k + m - s]! := fun k k1 k2 => by rw [g, if_pos (by omega)]
  have p3 : ∀ k, mid ≤ k → k < e → d'[k]! = d[k + s - mid]! := fun k k1 k2 => by rw [g, if_neg (by omega), if_pos (by omega)]
  have p4 : ∀ k, e ≤ k → k < b → d'[k]! = d[k]! := fun k k1 k2 => by rw [g, if_neg (by omega), if_neg (by omega)]
  refine ⟨GS, ⟨?_, ?_, ?_⟩, ⟨?_, ?_, ?_⟩, ?_⟩
  · intro i j i1 i2 i3; rw [p1 i i1 (by omega), p1 j (by omega) i3]; exact s1 i j i1 i2 (by omega)
  · intro i j i1 i2 i3; rw [p2 i i1 (by omega), p2 j (by omega) i3]; exact s2 _ _ (by omega) (by omega) (by omega)
  · intro i j i1 i2 i3 i4; rw [p1 i i1 i2, p2 j i3 i4]; exact s3 _ _ i1 (by omega) (by omega) (by omega)
  · intro i j i1 i2 i3; rw [p3 i i1 (by omega), p3 j (by omega) i3]; exact s1 _ _ (by omega) (by omega) (by omega)
  · intro i j i1 i2 i3; rw [p4 i i1 (by omega), p4 j (by omega) i3]; exact s2 _ _ (by omega) (by omega) (by omega)
  · intro i j i1 i2 i3 i4; rw [p3 i i1 i2, p4 j i3 i4]; exact s3 _ _ (by omega) (by omega) (by omega) (by omega)
  · intro i j i1 i2 i3 i4
    by_cases x1 : i < s
    · rw [p1 i i1 x1]
      by_cases x2 : j < e
      · rw [p3 j i3 x2]; exact s1 _ _ i1 (by omega) (by omega)
      · rw [p4 j (by omega) i4]; exact A1 _ _ i1 x1 (by omega) i4
    · rw [p2 i (by omega) i2]
      by_cases x2 : j < e
      · rw [p3 j i3 x2]; exact A2 _ _ (by omega) (by omega) (by omega) (by omega)
      · rw [p4 j (by omega) i4]; exact s2 _ _ (by omega) (by omega) i4
theorem Mrg.of_sam {key : α → Int} {idx : α → Nat} {d d' : Array α} {a m b c e : Nat} (h : Mrg key idx d a m b) (g : Sam d d' c e) (hm : a ≤ m ∧ m ≤ b) (hd : b ≤ c ∨ e ≤ a) : Mrg key idx d' a m b := by
  obtain ⟨s1, s2, s3⟩ := h
  have q : ∀ k, a ≤ k → k < b → d'[k]! = d[k]! := fun k k1 k2 => g.2.1 k (by omega)
  refine ⟨fun i j i1 i2 i3 => ?_, fun i j i1 i2 i3 => ?_, fun i j i1 i2 i3 i4 => ?_⟩
  · rw [q i i1 (by omega), q j (by omega) (by omega)]; exact s1 i j i1 i2 i3
  · rw [q i (by omega) (by omega), q j (by omega) i3]; exact s2 i j i1 i2 i3
  · rw [q i i1 (by omega), q j (by omega) i4]; exact s3 i j i1 i2 i3 i4
end Go.Proofs.YthaajkpiknbdbaaDoor.S
