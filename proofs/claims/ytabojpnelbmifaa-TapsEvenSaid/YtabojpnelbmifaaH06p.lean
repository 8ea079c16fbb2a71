/- What functions of the program come to, in plain numbers. -/
import Derived.Test.YtabojpnelbmifaaQAx1
import Derived.Test.YtabojpnelbmifaaQAx2
import Derived.Test.YtabojpnelbmifaaTCore
import Derived.Test.YtabojpnelbmifaaTExt
import Derived.Test.YtabojpnelbmifaaH06
import Derived.Test.YtabojpnelbmifaaH06s
namespace Go.Proofs.Ytabojpnelbmifaa.QA
open Go.RowKit Go.Proofs.YtabojpnelbmifaaW.PrintWords Go.Proofs.YtabojpnelbmifaaW.PrintLast Go.Proofs.YtabojpnelbmifaaW.PrintMore Go.Proofs.Ytabojpnelbmifaa.T
set_option linter.unusedVariables false

theorem szV_le {x : Int} (hx : I64 x) (h : ¬ szV x > 1099511627776) : -1099511627776 ≤ x ∧ x ≤ 1099511627776 := by
  unfold szV at h
  have e : x * -1 = -x := by omega
  rw [e] at h
  unfold mx hold at h
  split at h <;> (try split at h) <;> (try split at h) <;> omega
theorem sum_take (l : List Int) (h1 : l.length ≤ 1048576) (hb : ∀ j, j < l.length → -1099511627776 ≤ rd l (j : Int) ∧ rd l (j : Int) ≤ 1099511627776) : ∀ i, i ≤ l.length →
    sumFrom 0 (l.take i) = psum (fun j => rd l (j : Int)) i ∧ -1099511627776 * (i : Int) ≤ psum (fun j => rd l (j : Int)) i ∧ psum (fun j => rd l (j : Int)) i ≤ 1099511627776 * (i : Int)
  | 0, _ => by simp [sumFrom, psum]
  | i + 1, hi => by
    obtain ⟨h2, h3, h4⟩ := sum_take l h1 hb i (by omega)
    have h5 := hb i (by omega)
    have e : l.take (i + 1) = l.take i ++ [rd l (i : Int)] := by
      rw [List.take_add_one, List.getElem?_eq_getElem (by omega)]
      unfold rd
      rw [List.getD_eq_getElem?_getD, show ((i : Int)).toNat = i from by omega, List.getElem?_eq_getElem (by omega)]; rfl
    refine ⟨?_, ?_, ?_⟩
    · rw [e]
      unfold sumFrom at h2 ⊢
      rw [List.foldl_append, h2]
      show hold (psum _ i + rd l (i : Int)) = psum _ i + rd l (i : Int)
      rw [hold_id (by omega) (by omega)]
    · rw [psum]; omega
    · rw [psum]; omega
theorem psum_div (l : List Int) (s : Int) (hs : 0 < s) : ∀ i : Nat, psum (qV l s) i * s + psum (mV l s) i = 16384 * psum (fun j => rd l (j : Int)) i ∧ 0 ≤ psum (mV l s) i ∧ psum (mV l s) i ≤ i * s - i
  | 0 => by simp [psum]
  | i + 1 => by
    obtain ⟨h1, h2, h3⟩ := psum_div l s hs i
    have e := Int.mul_ediv_add_emod (rd l (i : Int) * 16384) s
    have r0 := Int.emod_nonneg (rd l (i : Int) * 16384) (show s ≠ 0 by omega)
    have r1 := Int.emod_lt_of_pos (rd l (i : Int) * 16384) hs
    have e1 : (psum (qV l s) i + qV l s i) * s = psum (qV l s) i * s + s * (rd l (i : Int) * 16384 / s) := by
      rw [Int.add_mul]; unfold qV; rw [Int.mul_comm (rd l (i : Int) * 16384 / s)]
    have e2 : ((i : Int) + 1) * s = (i : Int) * s + s := by rw [Int.add_mul, Int.one_mul]
    have e3 : mV l s i = rd l (i : Int) * 16384 % s := rfl
    refine ⟨?_, ?_, ?_⟩
    · show (psum (qV l s) i + qV l s i) * s + (psum (mV l s) i + mV l s i) = 16384 * (psum (fun j => rd l (j : Int)) i + rd l (i : Int))
      rw [e1, e3]; omega
    · show 0 ≤ psum (mV l s) i + mV l s i
      rw [e3]; omega
    · show psum (mV l s) i + mV l s i ≤ ((i + 1 : Nat) : Int) * s - ((i + 1 : Nat) : Int)
      rw [show ((i + 1 : Nat) : Int) = (i : Int) + 1 from by omega, e2, e3]; omega
/-- What holds of weights that may be apportioned. -/
structure Good (l : List Int) (s : Int) : Prop where
  n0 : 1 ≤ l.length
  n1 : l.length ≤ 1048576
  xb : ∀ j, j < l.length → -1099511627776 ≤ rd l (j : Int) ∧ rd l (j : Int) ≤ 1099511627776
  sb : 268435456 ≤ s ∧ s ≤ 1152921504606846976
  sx : s = psum (fun j => rd l (j : Int)) l.length
  qb : ∀ j, j < l.length → -134217728 ≤ qV l s j ∧ qV l s j ≤ 134217728
  lb : 0 ≤ 16384 - psum (qV l s) l.length ∧ 16384 - psum (qV l s) l.length ≤ l.length
theorem good_of_chk {l : List Int} (hi : ∀ i : Nat, I64 (rd l (i : Int))) (h : chkV l = 0) : Good l (sumFrom 0 l) := by
  unfold chkV at h
  have h1 : ¬ (l.length = 0 ∨ l.length > 1048576 ∨ ∃ x ∈ l, szV x > 1099511627776) := by
    intro q; rw [if_pos q] at h; omega
  rw [if_neg h1] at h
  have h2 : ¬ sumFrom 0 l < 268435456 := by
    intro q; rw [if_pos q] at h; omega
  have n0 : 1 ≤ l.length := by
    apply Classical.byContradiction; intro q; exact h1 (Or.inl (by omega))
  have n1 : l.length ≤ 1048576 := by
    apply Classical.byContradiction; intro q; exact h1 (Or.inr (Or.inl (by omega)))
  have xb : ∀ j, j < l.length → -1099511627776 ≤ rd l (j : Int) ∧ rd l (j : Int) ≤ 1099511627776 := fun j hj =>
    szV_le (hi j) (fun q => h1 (Or.inr (Or.inr ⟨_, rd_mem hj, q⟩)))
  have st := sum_take l n1 xb l.length (Nat.le_refl _)
  rw [List.take_of_length_le (Nat.le_refl _)] at st
  have sb : 268435456 ≤ sumFrom 0 l ∧ sumFrom 0 l ≤ 1152921504606846976 := by omega
  have qb : ∀ j, j < l.length → -134217728 ≤ qV l (sumFrom 0 l) j ∧ qV l (sumFrom 0 l) j ≤ 134217728 := by
    intro j hj
    have hx := xb j hj
    unfold qV
    constructor
    · rw [Int.le_ediv_iff_mul_le (by omega)]; omega
    · have : rd l (j : Int) * 16384 / sumFrom 0 l < 134217729 := by
        rw [Int.ediv_lt_iff_lt_mul (by omega)]; omega
      omega
  have pd := psum_div l (sumFrom 0 l) (by omega) l.length
  refine ⟨n0, n1, xb, sb, st.1, qb, ?_⟩
  obtain ⟨p1, p2, p3⟩ := pd
  rw [← st.1] at p1
  generalize sumFrom 0 l = s at *
  generalize psum (qV l s) l.length = Q at *
  have e : (16384 - Q) * s = 16384 * s - Q * s := Int.sub_mul _ _ _
  have e2 : (16384 - Q) * s = psum (mV l s) l.length := by omega
  constructor
  · apply Classical.byContradiction; intro q
    have : (16384 - Q) * s ≤ (-1) * s := Int.mul_le_mul_of_nonneg_right (by omega) (by omega)
    omega
  · apply Classical.byContradiction; intro q
    have : ((l.length : Int) + 1) * s ≤ (16384 - Q) * s := Int.mul_le_mul_of_nonneg_right (by omega) (by omega)
    rw [Int.add_mul, Int.one_mul] at this
    omega
theorem good_fl {l : List Int} {s : Int} (h : Good l s) : ∀ j, j < l.length → fixed_Floor.f 1 (wrap64 (rd l (j : Int) * 16384)) s = some (qV l s j) ∧ fixed_Mod.f 1 (wrap64 (rd l (j : Int) * 16384)) s = some (mV l s j) := by
  intro j hj
  have hx := h.xb j hj
  have hq := h.qb j hj
  have hsb := h.sb
  rw [w64_id (show -9223372036854775808 ≤ rd l (j : Int) * 16384 from by omega) (by omega)]
  rw [fixed_Floor_eq (by omega) (by constructor <;> omega) (by constructor <;> omega), fixed_Mod_eq (by omega) (by constructor <;> omega) (by constructor <;> omega)]
  unfold flo md
  rw [if_pos (by omega), if_neg (by omega), if_pos (by omega)]
  unfold qV at hq ⊢
  rw [hold_id (by omega) (by omega)]
  exact ⟨rfl, rfl⟩

/-- The first of the greatest among the first so many. -/
def best (r : List Int) : Nat → Nat
  | 0 => 0
  | i + 1 => if rd r (i : Int) > rd r (best r i : Int) then i else best r i
/-- So many times the first of the greatest gets one more, and is taken out. -/
def picks : Nat → List Int → List Int → List Int
  | 0, o, _ => o
  | t + 1, o, r => picks t (o.set (best r r.length) (rd o (best r r.length : Int) + 1)) (r.set (best r r.length) (-1))
/-- The taps. -/
def appL (l : List Int) : List Int :=
  picks (16384 - psum (qV l (sumFrom 0 l)) l.length).toNat ((List.range l.length).map fun j => qV l (sumFrom 0 l) j) ((List.range l.length).map fun j => mV l (sumFrom 0 l) j)
theorem rd_range (f : Nat → Int) {n j : Nat} (h : j < n) : rd ((List.range n).map f) (j : Int) = f j := by
  unfold rd
  rw [List.getD_eq_getElem?_getD, show ((j : Int)).toNat = j from by omega, List.getElem?_map, List.getElem?_range h]; rfl
theorem set_range (f : Nat → Int) (n j : Nat) (v : Int) : ((List.range n).map f).set j v = (List.range n).map fun i => if i = j then v else f i := by
  apply List.ext_getElem
  · simp
  · intro i h1 h2
    rw [List.getElem_set]
    simp only [List.getElem_map, List.getElem_range]
    by_cases c : j = i
    · subst c; simp
    · rw [if_neg c, if_neg (fun e => c e.symm)]
theorem best_lt (r : List Int) : ∀ i, 1 ≤ i → best r i < i
  | 0, h => by omega
  | i + 1, _ => by
    rw [best]; split
    · omega
    · by_cases c : 1 ≤ i
      · have := best_lt r i c; omega
      · have : i = 0 := by omega
        subst this; rw [best]; omega
theorem best_is (r : List Int) (b : Nat) : ∀ i, b < i → (∀ j, j < i → rd r (j : Int) ≤ rd r (b : Int)) → (∀ j, j < b → rd r (j : Int) < rd r (b : Int)) → best r i = b
  | 0, h, _, _ => by omega
  | i + 1, h, h1, h2 => by
    rw [best]
    by_cases c : b = i
    · subst c
      by_cases c0 : b = 0
      · subst c0; rw [best]; split <;> rfl
      · have := h2 (best r b) (best_lt r b (by omega))
        rw [if_pos (by omega)]
    · rw [best_is r b i (by omega) (fun j hj => h1 j (by omega)) h2]
      have := h1 i (by omega)
      rw [if_neg (by omega)]
/-- Whatever order of all numbers there is, the picks take the first so many of it. -/
theorem picks_ordr {n : Nat} {m q : Nat → Int} {π : Nat → Nat} (hπ : Ordr n m π) (hm : ∀ j, j < n → 0 ≤ m j) : ∀ (d t : Nat) (o : Nat → Int), t + d ≤ n → (∀ p, p < t → o (π p) = q (π p) + 1) → (∀ j, j < n → (∀ p, p < t → π p ≠ j) → o j = q j) →
    ∃ o' : Nat → Int, picks d ((List.range n).map o) ((List.range n).map fun j => if ∃ p, p < t ∧ π p = j then -1 else m j) = (List.range n).map o' ∧ (∀ p, p < t + d → o' (π p) = q (π p) + 1) ∧ (∀ j, j < n → (∀ p, p < t + d → π p ≠ j) → o' j = q j) := by
  intro d
  induction d with
  | zero => intro t o h1 h2 h3; exact ⟨o, rfl, h2, h3⟩
  | succ d ih =>
    intro t o h1 h2 h3
    have hx : π t < n := hπ.1 t (by omega)
    have hdist : ∀ p p', p < p' → p' < n → π p ≠ π p' := by
      intro p p' h4 h5 e
      have := hπ.2.2 p p' h4 h5
      rw [e] at this; omega
    have hr : ∀ j, j < n → rd ((List.range n).map fun j => if ∃ p, p < t ∧ π p = j then -1 else m j) (j : Int) = if ∃ p, p < t ∧ π p = j then -1 else m j := fun j hj => rd_range _ hj
    have hnt : ¬ ∃ p, p < t ∧ π p = π t := by
      rintro ⟨p, h4, h5⟩; exact hdist p t h4 (by omega) h5
    have hb : best ((List.range n).map fun j => if ∃ p, p < t ∧ π p = j then -1 else m j) n = π t := by
      refine best_is _ _ n hx (fun j hj => ?_) (fun j hj => ?_)
      · rw [hr j hj, hr _ hx, if_neg hnt]
        have h6 := hm _ hx
        split
        · omega
        · rename_i hne
          obtain ⟨p, p1, p2⟩ := hπ.2.1 j hj
          by_cases c : p < t
          · exact absurd ⟨p, c, p2⟩ hne
          · by_cases c2 : p = t
            · rw [← p2, c2]; exact Int.le_refl _
            · have := hπ.2.2 t p (by omega) p1
              rw [p2] at this; omega
      · have hj : j < n := by omega
        rw [hr j hj, hr _ hx, if_neg hnt]
        have h6 := hm _ hx
        split
        · omega
        · rename_i hne
          obtain ⟨p, p1, p2⟩ := hπ.2.1 j hj
          by_cases c : p < t
          · exact absurd ⟨p, c, p2⟩ hne
          · by_cases c2 : p = t
            · rw [c2] at p2; omega
            · have := hπ.2.2 t p (by omega) p1
              rw [p2] at this; omega
    rw [picks]
    rw [show ((List.range n).map fun j => if ∃ p, p < t ∧ π p = j then (-1 : Int) else m j).length = n from by simp, hb, rd_range _ hx, set_range, set_range]
    have e : (fun i => if i = π t then (-1 : Int) else if ∃ p, p < t ∧ π p = i then -1 else m i) = fun j => if ∃ p, p < t + 1 ∧ π p = j then -1 else m j := by
      funext i
      by_cases c : i = π t
      · rw [if_pos c, if_pos ⟨t, by omega, c.symm⟩]
      · rw [if_neg c]
        by_cases c2 : ∃ p, p < t ∧ π p = i
        · obtain ⟨p, p1, p2⟩ := c2
          rw [if_pos ⟨p, p1, p2⟩, if_pos ⟨p, by omega, p2⟩]
        · rw [if_neg c2, if_neg (by rintro ⟨p, p1, p2⟩; by_cases c3 : p = t; exact c (by rw [← p2, c3]); exact c2 ⟨p, by omega, p2⟩)]
    rw [e]
    have := ih (t + 1) (fun i => if i = π t then o (π t) + 1 else o i) (by omega) ?_ ?_
    · rw [show t + 1 + d = t + (d + 1) from by omega] at this; exact this
    · intro p hp
      by_cases c : p = t
      · subst c; rw [if_pos rfl, h3 _ hx (fun p' hp' e => hnt ⟨p', hp', e⟩)]
      · rw [if_neg (hdist p t (by omega) (by omega))]; exact h2 p (by omega)
    · intro j hj hne
      rw [if_neg (fun e => hne t (by omega) e.symm)]
      exact h3 j hj (fun p hp => hne p (by omega))
theorem appL_of {l : List Int} (hG : Good l (sumFrom 0 l)) {π : Nat → Nat} {o : Nat → Int} (hπ : Ordr l.length (mV l (sumFrom 0 l)) π)
    (h1 : ∀ p : Nat, (p : Int) < 16384 - psum (qV l (sumFrom 0 l)) l.length → o (π p) = qV l (sumFrom 0 l) (π p) + 1)
    (h2 : ∀ j, j < l.length → (∀ p : Nat, (p : Int) < 16384 - psum (qV l (sumFrom 0 l)) l.length → π p ≠ j) → o j = qV l (sumFrom 0 l) j) : (List.range l.length).map o = appL l := by
  have hlb := hG.lb
  have hs := hG.sb
  obtain ⟨o', e, g1, g2⟩ := picks_ordr (q := qV l (sumFrom 0 l)) hπ (fun j _ => Int.emod_nonneg _ (by omega)) (16384 - psum (qV l (sumFrom 0 l)) l.length).toNat 0 (qV l (sumFrom 0 l)) (by omega) (fun p hp => by omega) (fun j _ _ => rfl)
  have e0 : (fun j => if ∃ p, p < 0 ∧ π p = j then (-1 : Int) else mV l (sumFrom 0 l) j) = mV l (sumFrom 0 l) := by
    funext j; rw [if_neg (by rintro ⟨p, p1, _⟩; omega)]
  rw [e0] at e
  unfold appL
  have e' : picks (16384 - psum (qV l (sumFrom 0 l)) l.length).toNat ((List.range l.length).map fun j => qV l (sumFrom 0 l) j) ((List.range l.length).map fun j => mV l (sumFrom 0 l) j) = (List.range l.length).map o' := e
  rw [e']
  apply List.map_congr_left
  intro j hj
  have hj : j < l.length := List.mem_range.1 hj
  by_cases c : ∃ p : Nat, (p : Int) < 16384 - psum (qV l (sumFrom 0 l)) l.length ∧ π p = j
  · obtain ⟨p, p1, rfl⟩ := c
    rw [h1 p p1, g1 p (by omega)]
  · rw [h2 j hj (fun p p1 p2 => c ⟨p, p1, p2⟩), g2 j hj (fun p p1 p2 => c ⟨p, by omega, p2⟩)]

end Go.Proofs.Ytabojpnelbmifaa.QA
