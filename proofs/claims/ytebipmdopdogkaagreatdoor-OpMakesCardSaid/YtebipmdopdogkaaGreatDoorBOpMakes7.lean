/- Joined by wip/tools/bundle.py out of: T1 TX QAx21 QAx22 QAx23 QAx24 QAx25. -/
import Derived.Test.YtebipmdopdogkaaGreatDoorBOpMakes1
import Derived.Test.YtebipmdopdogkaaGreatDoorBOpMakes5
import Derived.Handy
import Derived.Lib.SliceRun
import Derived.Test.YtebipmdopdogkaaGreatDoorBOpMakes0
import Derived.Test.YtebipmdopdogkaaGreatDoorBOpMakes3
import Derived.Test.YtebipmdopdogkaaGreatDoorBOpMakes6
namespace Go.Proofs.YtebipmdopdogkaaGreatDoor.QA
open Go.RowKit Go.Proofs.YtebipmdopdogkaaGreatDoorW.PrintWords Go.Proofs.YtebipmdopdogkaaGreatDoorW.PrintLast Go.Proofs.YtebipmdopdogkaaGreatDoorW.PrintMore Go.Proofs.YtebipmdopdogkaaGreatDoor.T
set_option linter.unusedVariables false
set_option linter.unusedSimpArgs false
/-- May there be such an operation? -/
def opOk (o : S27) : Prop := 0 ≤ o.f0 ∧ o.f0 < 4 ∧ 0 ≤ o.f1 ∧ o.f1 < 3 ∧ (o.f0 = 3 → 1 ≤ o.f7 ∧ o.f7 ≤ 65536 ∧ 1 ≤ o.f8 ∧ o.f8 ≤ 65536 ∧ 0 ≤ o.f6 ∧ o.f6 < 3)
theorem op_may_no (o : S27) (h : ¬ opOk o) : op_may.f 1 o.f0 o.f1 o.f2 o.f3 o.f4 o.f5 o.f6 o.f7 o.f8 = some false := by
  unfold op_may.f
  by_cases h0 : o.f0 < 0
  · rw [if_pos h0, op_may.j0, if_pos rfl]
  rw [if_neg h0]
  by_cases h1 : o.f0 ≥ 4
  · rw [if_pos h1, op_may.j0, if_pos rfl]
  rw [if_neg h1]
  by_cases h2 : 0 ≤ o.f1 ∧ o.f1 < 3
  rotate_left
  · have : border_Name.f o.f1 = some (⟨#[]⟩ : ByteArray) := by
      unfold border_Name.f
      rw [if_neg (by omega), if_neg (by omega), if_neg (by omega)]
      unfold border_Name_gen.f
      by_cases c : o.f1 < 0
      · rw [if_pos c]
      · rw [if_neg c, if_pos (by omega)]
    rw [this, Option.bind_some, op_may.j0, if_pos (by kernel_rfl)]
  obtain ⟨nm, hn, he⟩ : ∃ s, border_Name.f o.f1 = some s ∧ (s.toList == ([] : List UInt8)) = false := by
    have : o.f1 = 0 ∨ o.f1 = 1 ∨ o.f1 = 2 := by omega
    rcases this with e | e | e
    · exact ⟨_, by rw [e]; rfl, by kernel_rfl⟩
    · exact ⟨_, by rw [e]; rfl, by kernel_rfl⟩
    · exact ⟨_, by rw [e]; rfl, by kernel_rfl⟩
  rw [hn, Option.bind_some, he, op_may.j0, if_neg (by decide)]
  by_cases h3 : o.f0 = 3
  rotate_left
  · exact absurd ⟨by omega, by omega, h2.1, h2.2, fun c => absurd c h3⟩ h
  rw [if_pos h3, op_side_eq, Option.bind_some]
  by_cases h4 : 1 ≤ o.f7 ∧ o.f7 ≤ 65536
  rotate_left
  · rw [decide_eq_false h4, if_neg (by decide)]
  rw [decide_eq_true h4, if_pos rfl, op_side_eq, Option.bind_some]
  by_cases h5 : 1 ≤ o.f8 ∧ o.f8 ≤ 65536
  rotate_left
  · rw [decide_eq_false h5, if_neg (by decide)]
  rw [decide_eq_true h5, if_pos rfl]
  by_cases h6 : 0 ≤ o.f6 ∧ o.f6 < 3
  · exact absurd ⟨by omega, by omega, h2.1, h2.2, fun _ => ⟨h4.1, h4.2, h5.1, h5.2, h6.1, h6.2⟩⟩ h
  have : raw_Name.f o.f6 = some (⟨#[]⟩ : ByteArray) := by
    unfold raw_Name.f
    rw [if_neg (by omega), if_neg (by omega), if_neg (by omega)]
    unfold raw_Name_gen.f
    by_cases c : o.f6 < 0
    · rw [if_pos c]
    · rw [if_neg c, if_pos (by omega)]
  rw [this, Option.bind_some]
  exact congrArg some (by kernel_rfl)
/-- Where an operation leads to. -/
def opTo (o : S27) (W H : Int) : Int × Int := if o.f0 = 3 then (o.f7, o.f8) else (W, H)
theorem resTab_n (f n m : Int) : ∀ i, (resTab f n m i).n = n
  | 0 => rfl
  | i + 1 => by simp [resTab, Tab.add, resTab_n f n m i]
theorem filTab_n (n h : Int) (l : List Int) : ∀ i, (filTab n h l i).n = n
  | 0 => rfl
  | i + 1 => by simp [filTab, Tab.add, filTab_n n h l i]
/-- All its numbers are int64s. -/
def opI (o : S27) : Prop := I64 o.f0 ∧ I64 o.f1 ∧ I64 o.f2 ∧ I64 o.f3 ∧ (∀ z ∈ o.f4, I64 z) ∧ (∀ z ∈ o.f5, I64 z) ∧ I64 o.f6 ∧ I64 o.f7 ∧ I64 o.f8
theorem userV_ok (l : List Int) (hl : l.length < 4611686018427387904) : (∀ z ∈ (userV l).1, I64 z) ∧ (userV l).1.length < 4611686018427387904 := by
  unfold userV
  split
  · exact ⟨by simp, by simp⟩
  · refine ⟨fun z hz => ?_, by simpa using hl⟩
    obtain ⟨t, _, rfl⟩ := List.mem_map.1 hz
    exact hold_i _
end Go.Proofs.YtebipmdopdogkaaGreatDoor.QA

namespace Go.Proofs.YtebipmdopdogkaaGreatDoor.QA
open Go.RowKit Go.Proofs.YtebipmdopdogkaaGreatDoorW.PrintWords Go.Proofs.YtebipmdopdogkaaGreatDoorW.PrintLast Go.Proofs.YtebipmdopdogkaaGreatDoorW.PrintMore Go.Proofs.YtebipmdopdogkaaGreatDoor.T
set_option linter.unusedVariables false
set_option linter.unusedSimpArgs false
/-- The raw weights of both ways, and the code. -/
def wtsV (o : S27) : List Int × List Int × Int :=
  if o.f0 = 0 then ((gaussV o.f2).1, (gaussV o.f2).1, (gaussV o.f2).2) else if o.f0 = 1 then ((blurV o.f3).1, (blurV o.f3).1, (blurV o.f3).2) else
    if (userV o.f4).2 = 0 then ((userV o.f4).1, (userV o.f5).1, (userV o.f5).2) else ([], [], (userV o.f4).2)
theorem weights_is (o : S27) (h : opI o) (l4 : o.f4.length < 4611686018427387904) (l5 : o.f5.length < 4611686018427387904) : op_weights.f (2000 + o.f4.length + o.f5.length) o.f0 o.f1 o.f2 o.f3 o.f4 o.f5 o.f6 o.f7 o.f8 = some ((wtsV o).1, (wtsV o).2.1, (wtsV o).2.2) ∧ (∀ z ∈ (wtsV o).1, I64 z) ∧ (∀ z ∈ (wtsV o).2.1, I64 z) ∧ (wtsV o).1.length < 4611686018427387904 ∧ (wtsV o).2.1.length < 4611686018427387904 := by
  obtain ⟨i0, i1, i2, i3, i4, i5, i6, i7, i8⟩ := h
  unfold op_weights.f wtsV
  by_cases h0 : o.f0 = 0
  · rw [if_pos h0, gauss_eq (by omega) i2, Option.bind_some]
    simp only [if_pos h0]
    have : (∀ z ∈ (gaussV o.f2).1, I64 z) ∧ (gaussV o.f2).1.length < 4611686018427387904 := by
      unfold gaussV
      split
      · exact ⟨by simp, by simp⟩
      · refine ⟨fun z hz => ?_, ?_⟩
        · obtain ⟨t, _, rfl⟩ := List.mem_map.1 hz
          have := gV_bnd o.f2 ((t : Int) - (3 * o.f2 + 65535) / 65536)
          constructor <;> omega
        · unfold gaussL; rw [List.length_map, List.length_range]; omega
    exact ⟨trivial, this.1, this.1, this.2, this.2⟩
  rw [if_neg h0]
  simp only [if_neg h0]
  by_cases h1 : o.f0 = 1
  · rw [if_pos h1, blur_eq (by omega) i3, Option.bind_some]
    simp only [if_pos h1]
    have : (∀ z ∈ (blurV o.f3).1, I64 z) ∧ (blurV o.f3).1.length < 4611686018427387904 := by
      unfold blurV
      split
      · exact ⟨by simp, by simp⟩
      · exact userV_ok _ (by rw [List.length_replicate]; omega)
    exact ⟨trivial, this.1, this.1, this.2, this.2⟩
  rw [if_neg h1, taps_User_eq (by omega) l4 i4, Option.bind_some]
  simp only [if_neg h1]
  have a := userV_ok o.f4 l4
  have b := userV_ok o.f5 l5
  by_cases c : (userV o.f4).2 = 0
  · rw [if_pos c, taps_User_eq (by omega) l5 i5, Option.bind_some]
    simp only [if_pos c]
    exact ⟨trivial, a.1, b.1, a.2, b.2⟩
  · rw [if_neg c]
    simp only [if_neg c]
    exact ⟨trivial, by simp, by simp, by simp, by simp⟩
def sideP (n : Int) : Prop := 1 ≤ n ∧ n ≤ 65536
instance (n : Int) : Decidable (sideP n) := by unfold sideP; exact inferInstance
instance (o : S27) : Decidable (opOk o) := by unfold opOk; exact inferInstance
/-- The tables. -/
def xTab (o : S27) (W : Int) : Tab := if o.f0 = 3 then resTab o.f6 W o.f7 o.f7.toNat else filTab W (((wtsV o).1.length / 2 : Nat) : Int) (appL (wtsV o).1) W.toNat
def yTab (o : S27) (H : Int) : Tab := if o.f0 = 3 then resTab o.f6 H o.f8 o.f8.toNat else filTab H (((wtsV o).2.1.length / 2 : Nat) : Int) (appL (wtsV o).2.1) H.toNat
/-- The codes of the tables, and the first of all. -/
def xCode (o : S27) (W : Int) : Int := if o.f0 = 3 then resCode o.f6 W o.f7 0 o.f7.toNat else filCode (wtsV o).1 W
def yCode (o : S27) (H : Int) : Int := if o.f0 = 3 then resCode o.f6 H o.f8 0 o.f8.toNat else filCode (wtsV o).2.1 H
def stCode (o : S27) (W H : Int) : Int := if opOk o ∧ sideP W ∧ sideP H then if o.f0 ≠ 3 ∧ (wtsV o).2.2 ≠ 0 then (wtsV o).2.2 else if xCode o W = 0 then yCode o H else xCode o W else 6
def MakeP (o : S27) (W H : Int) (w : World) (e : Ending) (w' : World) : Prop := if stCode o W H = 0 then StageP (xTab o W) (yTab o H) o.f1 w e w' else NoStP (stCode o W H) w e w'
theorem makeP_no {o : S27} {W H c : Int} (he : stCode o W H = c) (hc : c ≠ 0) {w : World} {e : Ending} {w' : World} (h : NoStP c w e w') : MakeP o W H w e w' := by unfold MakeP; rw [if_neg (by rw [he]; exact hc), he]; exact h
theorem makeP_yes {o : S27} {W H : Int} {tx ty : Tab} {w : World} {e : Ending} {w' : World} (he : stCode o W H = 0) (hx : xTab o W = tx) (hy : yTab o H = ty) (h : StageP tx ty o.f1 w e w') : MakeP o W H w e w' := by unfold MakeP; rw [if_pos he, hx, hy]; exact h
theorem make_is (o : S27) (W H : Int) (A4 : Option Addr) (c4 : Nat) (A5 : Option Addr) (c5 : Nat) (w : World) (hG : GL w) (hI : opI o) (hx : Kd.C (Kd.int .i64) w A4 o.f4.length o.f4) (lx : o.f4.length ≤ c4) (hy : Kd.C (Kd.int .i64) w A5 o.f5.length o.f5) (ly : o.f5.length ≤ c5) (l4 : o.f4.length < 4611686018427387904) (l5 : o.f5.length < 4611686018427387904) :
    Calls Tryz.prog 7 #[opV o.f0 o.f1 o.f2 o.f3 A4 o.f4.length c4 A5 o.f5.length c5 o.f6 o.f7 o.f8, .int .i64 W, .int .i64 H] w (MakeP o W H w) := by
  by_cases ho : opOk o
  rotate_left
  · exact (make_noA o.f0 o.f1 o.f2 o.f3 A4 c4 o.f4 A5 c5 o.f5 o.f6 o.f7 o.f8 W H w hG hx lx hy ly (op_may_no o ho)).mono (fun e w' h => makeP_no (by unfold stCode sideP; rw [if_neg (fun h => ho h.1)]) (by decide) h)
  have hm := op_may_yes 0 (k := o.f0) (b := o.f1) (s := o.f2) (r := o.f3) (x := o.f4) (y := o.f5) (f := o.f6) (w := o.f7) (h := o.f8) ⟨ho.1, ho.2.1⟩ ⟨ho.2.2.1, ho.2.2.2.1⟩ ho.2.2.2.2
  by_cases hW : 1 ≤ W ∧ W ≤ 65536
  rotate_left
  · exact (make_noB o.f0 o.f1 o.f2 o.f3 A4 c4 o.f4 A5 c5 o.f5 o.f6 o.f7 o.f8 W H w hG hx lx hy ly hm hW).mono (fun e w' h => makeP_no (by unfold stCode sideP; rw [if_neg (fun h => hW h.2.1)]) (by decide) h)
  by_cases hH : 1 ≤ H ∧ H ≤ 65536
  rotate_left
  · exact (make_noC o.f0 o.f1 o.f2 o.f3 A4 c4 o.f4 A5 c5 o.f5 o.f6 o.f7 o.f8 W H w hG hx lx hy ly hm hW hH).mono (fun e w' h => makeP_no (by unfold stCode sideP; rw [if_neg (fun h => hH h.2.2)]) (by decide) h)
  obtain ⟨N1, rfl⟩ : ∃ N : Nat, W = N := ⟨W.toNat, by omega⟩
  obtain ⟨N2, rfl⟩ : ∃ N : Nat, H = N := ⟨H.toNat, by omega⟩
  by_cases h3 : o.f0 = 3
  · obtain ⟨m1, m2, m3, m4, m5, m6⟩ := ho.2.2.2.2 h3
    obtain ⟨M1, e1⟩ : ∃ M : Nat, o.f7 = M := ⟨o.f7.toNat, by omega⟩
    obtain ⟨M2, e2⟩ : ∃ M : Nat, o.f8 = M := ⟨o.f8.toNat, by omega⟩
    have q1 : okR o.f6 N1 M1 := ⟨m5, m6, hW.1, hW.2, by omega, by omega⟩
    have q2 : okR o.f6 N2 M2 := ⟨m5, m6, hH.1, hH.2, by omega, by omega⟩
    have hs : stCode o N1 N2 = if resCode o.f6 N1 M1 0 M1 = 0 then resCode o.f6 N2 M2 0 M2 else resCode o.f6 N1 M1 0 M1 := by
      unfold stCode xCode yCode
      rw [if_pos ⟨ho, hW, hH⟩, if_neg (fun h => h.1 h3), if_pos h3, if_pos h3, e1, e2]; rfl
    by_cases k1 : resCode o.f6 N1 M1 0 M1 = 0
    · rw [if_pos k1] at hs
      by_cases k2 : resCode o.f6 N2 M2 0 M2 = 0
      · refine (make_ok o.f0 o.f1 o.f2 o.f3 A4 c4 o.f4 A5 c5 o.f5 o.f6 o.f7 o.f8 N1 N2 (resTab o.f6 N1 M1 M1) (resTab o.f6 N2 M2 M2) w hG hx lx hy ly hm hW hH (fun w' hb => ?_)).mono (fun e w' h => makeP_yes (hs.trans k2) (by unfold xTab; rw [if_pos h3, e1]; rfl) (by unfold yTab; rw [if_pos h3, e2]; rfl) h)
        rw [h3, e1, e2]
        exact tables_resize o.f1 o.f2 o.f3 A4 _ c4 A5 _ c5 o.f6 N1 N2 M1 M2 w' (hG.below hb) q1 q2 k1 k2
      · refine (make_noD o.f0 o.f1 o.f2 o.f3 A4 c4 o.f4 A5 c5 o.f5 o.f6 o.f7 o.f8 N1 N2 _ w hG hx lx hy ly hm hW hH k2 (fun w' hb => ?_)).mono (fun e w' h => makeP_no hs k2 h)
        rw [h3, e1, e2]
        exact tables_resize_noB o.f1 o.f2 o.f3 A4 _ c4 A5 _ c5 o.f6 N1 N2 _ M1 M2 w' (hG.below hb) q1 q2 k1 rfl k2
    · rw [if_neg k1] at hs
      refine (make_noD o.f0 o.f1 o.f2 o.f3 A4 c4 o.f4 A5 c5 o.f5 o.f6 o.f7 o.f8 N1 N2 _ w hG hx lx hy ly hm hW hH k1 (fun w' hb => ?_)).mono (fun e w' h => makeP_no hs k1 h)
      rw [h3, e1, e2]
      exact tables_resize_noA o.f1 o.f2 o.f3 A4 _ c4 A5 _ c5 o.f6 N1 N2 _ M1 M2 w' (hG.below hb) q1 q2 rfl k1
  · obtain ⟨hw, hu, hv, lu, lv⟩ := weights_is o hI l4 l5
    have n1 : 1 ≤ N1 ∧ N1 ≤ 65536 := by omega
    have n2 : 1 ≤ N2 ∧ N2 ≤ 65536 := by omega
    have hs : stCode o N1 N2 = if (wtsV o).2.2 = 0 then if filCode (wtsV o).1 N1 = 0 then filCode (wtsV o).2.1 N2 else filCode (wtsV o).1 N1 else (wtsV o).2.2 := by
      unfold stCode xCode yCode
      rw [if_pos ⟨ho, hW, hH⟩, if_neg h3, if_neg h3]
      by_cases c : (wtsV o).2.2 = 0
      · rw [if_neg (fun h => h.2 c), if_pos c]
      · rw [if_pos ⟨h3, c⟩, if_neg c]
    have tx : xTab o N1 = filTab N1 (((wtsV o).1.length / 2 : Nat) : Int) (appL (wtsV o).1) N1 := by unfold xTab; rw [if_neg h3]; rfl
    have ty : yTab o N2 = filTab N2 (((wtsV o).2.1.length / 2 : Nat) : Int) (appL (wtsV o).2.1) N2 := by unfold yTab; rw [if_neg h3]; rfl
    generalize (wtsV o).1 = u at *
    generalize (wtsV o).2.1 = v at *
    generalize (wtsV o).2.2 = c at *
    by_cases hc : c = 0
    rotate_left
    · rw [if_neg hc] at hs
      exact (make_noD o.f0 o.f1 o.f2 o.f3 A4 c4 o.f4 A5 c5 o.f5 o.f6 o.f7 o.f8 N1 N2 c w hG hx lx hy ly hm hW hH hc (fun w' hb => tables_kernel_noA _ o.f0 o.f1 o.f2 o.f3 A4 c4 o.f4 A5 c5 o.f5 o.f6 o.f7 o.f8 c N1 N2 u v w' (Kd.C_below hx hb) lx (Kd.C_below hy hb) ly h3 hw hc)).mono (fun e w' h => makeP_no hs hc h)
    subst hc
    rw [if_pos rfl] at hs
    by_cases k1 : filCode u N1 = 0
    · rw [if_pos k1] at hs
      by_cases k2 : filCode v N2 = 0
      · exact (make_ok o.f0 o.f1 o.f2 o.f3 A4 c4 o.f4 A5 c5 o.f5 o.f6 o.f7 o.f8 N1 N2 _ _ w hG hx lx hy ly hm hW hH (fun w' hb => tables_kernel _ o.f0 o.f1 o.f2 o.f3 A4 c4 o.f4 A5 c5 o.f5 o.f6 o.f7 o.f8 N1 N2 u v w' (Kd.C_below hx hb) lx (Kd.C_below hy hb) ly h3 hw hu hv lu lv n1 n2 k1 k2)).mono (fun e w' h => makeP_yes (hs.trans k2) tx ty h)
      · exact (make_noD o.f0 o.f1 o.f2 o.f3 A4 c4 o.f4 A5 c5 o.f5 o.f6 o.f7 o.f8 N1 N2 _ w hG hx lx hy ly hm hW hH k2 (fun w' hb => tables_kernel_noC _ o.f0 o.f1 o.f2 o.f3 A4 c4 o.f4 A5 c5 o.f5 o.f6 o.f7 o.f8 _ N1 N2 u v w' (Kd.C_below hx hb) lx (Kd.C_below hy hb) ly h3 hu hv lu lv n1 n2 hw k1 rfl k2)).mono (fun e w' h => makeP_no hs k2 h)
    · rw [if_neg k1] at hs
      exact (make_noD o.f0 o.f1 o.f2 o.f3 A4 c4 o.f4 A5 c5 o.f5 o.f6 o.f7 o.f8 N1 N2 _ w hG hx lx hy ly hm hW hH k1 (fun w' hb => tables_kernel_noB _ o.f0 o.f1 o.f2 o.f3 A4 c4 o.f4 A5 c5 o.f5 o.f6 o.f7 o.f8 _ N1 N2 u v w' (Kd.C_below hx hb) lx (Kd.C_below hy hb) ly h3 hu hv lu lv n1 n2 hw rfl k1)).mono (fun e w' h => makeP_no hs k1 h)
end Go.Proofs.YtebipmdopdogkaaGreatDoor.QA

namespace Go.Proofs.YtebipmdopdogkaaGreatDoor.QA
open Go.Proofs.YtebipmdopdogkaaGreatDoor.T
open Go.RowKit Go.Proofs.YtebipmdopdogkaaGreatDoorW.PrintWords Go.Proofs.YtebipmdopdogkaaGreatDoorW.PrintLast Go.Proofs.YtebipmdopdogkaaGreatDoorW.PrintMore
attribute [local go_sem] ext_call max2_int min2_int max_two min_two
set_option linter.unusedVariables false
set_option linter.unusedSimpArgs false
def smaltoref12_side.f (a0 : Int) : Option (Bool) := if a0 ≥ 1 then (some (decide (a0 ≤ 65536))) else (some false)
set_option maxHeartbeats 8000000 in
set_option maxRecDepth 100000 in
theorem smaltoref12_side.calls (a0 : Int) (r : Bool) (w : World) (h : smaltoref12_side.f a0 = some r) :
  Calls Tryz.prog 22 #[.int .i64 a0] w fun e w' => e = .returned (.bool r) ∧ Drawn0 w w' := by
 have H := h
 clear h
 unfold smaltoref12_side.f at H
 by_cases c2 : a0 ≥ 1
 ·rw [if_pos c2] at H
  have c2b0 := decide_eq_true c2
  clear c2
  obtain rfl := Option.some.inj H
  go_enter Tryz.func22, Tryz.ntmps22
  go_wp2
  go_ret
  exact ⟨zT, zW⟩
 ·rw [if_neg c2] at H
  have c2b0 := decide_eq_false c2
  clear c2
  obtain rfl := Option.some.inj H
  go_enter Tryz.func22, Tryz.ntmps22
  go_wp2
  go_ret
  exact ⟨zT, zW⟩
def smaltoref08_side.f (a0 : Int) : Option (Bool) := if a0 ≥ 1 then (some (decide (a0 ≤ 65536))) else (some false)
set_option maxHeartbeats 8000000 in
set_option maxRecDepth 100000 in
theorem smaltoref08_side.calls (a0 : Int) (r : Bool) (w : World) (h : smaltoref08_side.f a0 = some r) :
  Calls Tryz.prog 41 #[.int .i64 a0] w fun e w' => e = .returned (.bool r) ∧ Drawn0 w w' := by
 have H := h
 clear h
 unfold smaltoref08_side.f at H
 by_cases c2 : a0 ≥ 1
 ·rw [if_pos c2] at H
  have c2b0 := decide_eq_true c2
  clear c2
  obtain rfl := Option.some.inj H
  go_enter Tryz.func41, Tryz.ntmps41
  go_wp2
  go_ret
  exact ⟨zT, zW⟩
 ·rw [if_neg c2] at H
  have c2b0 := decide_eq_false c2
  clear c2
  obtain rfl := Option.some.inj H
  go_enter Tryz.func41, Tryz.ntmps41
  go_wp2
  go_ret
  exact ⟨zT, zW⟩
def smaltoref05_May.f (a0 a1 a2 a3 : Int) : Option (Bool) := if a0 ≥ 0 then (if a0 ≤ 2 then (if a1 ≥ 1 then (if a1 ≤ 65536 then (if a2 ≥ 1 then (if a2 ≤ 65536 then (if a3 ≥ 0 then (some (decide (a3 < a2))) else (some false)) else (some false)) else (some false)) else (some false)) else (some false)) else (some false)) else (some false)
set_option maxHeartbeats 8000000 in
set_option maxRecDepth 100000 in
theorem smaltoref05_May.calls (a0 a1 a2 a3 : Int) (r : Bool) (w : World) (h : smaltoref05_May.f a0 a1 a2 a3 = some r) :
  Calls Tryz.prog 56 #[.int .i64 a0, .int .i64 a1, .int .i64 a2, .int .i64 a3] w fun e w' => e = .returned (.bool r) ∧ Drawn0 w w' := by
 have H := h
 clear h
 unfold smaltoref05_May.f at H
 by_cases c5 : a0 ≥ 0
 ·rw [if_pos c5] at H
  have c5b0 := decide_eq_true c5
  clear c5
  by_cases c6 : a0 ≤ 2
  ·rw [if_pos c6] at H
   have c6b0 := decide_eq_true c6
   clear c6
   by_cases c7 : a1 ≥ 1
   ·rw [if_pos c7] at H
    have c7b0 := decide_eq_true c7
    clear c7
    by_cases c8 : a1 ≤ 65536
    ·rw [if_pos c8] at H
     have c8b0 := decide_eq_true c8
     clear c8
     by_cases c9 : a2 ≥ 1
     ·rw [if_pos c9] at H
      have c9b0 := decide_eq_true c9
      clear c9
      by_cases c10 : a2 ≤ 65536
      ·rw [if_pos c10] at H
       have c10b0 := decide_eq_true c10
       clear c10
       by_cases c11 : a3 ≥ 0
       ·rw [if_pos c11] at H
        have c11b0 := decide_eq_true c11
        clear c11
        obtain rfl := Option.some.inj H
        go_enter Tryz.func56, Tryz.ntmps56
        go_wp2
        go_ret
        exact ⟨zT, zW⟩
       ·rw [if_neg c11] at H
        have c11b0 := decide_eq_false c11
        clear c11
        obtain rfl := Option.some.inj H
        go_enter Tryz.func56, Tryz.ntmps56
        go_wp2
        go_ret
        exact ⟨zT, zW⟩
      ·rw [if_neg c10] at H
       have c10b0 := decide_eq_false c10
       clear c10
       obtain rfl := Option.some.inj H
       go_enter Tryz.func56, Tryz.ntmps56
       go_wp2
       go_ret
       exact ⟨zT, zW⟩
     ·rw [if_neg c9] at H
      have c9b0 := decide_eq_false c9
      clear c9
      obtain rfl := Option.some.inj H
      go_enter Tryz.func56, Tryz.ntmps56
      go_wp2
      go_ret
      exact ⟨zT, zW⟩
    ·rw [if_neg c8] at H
     have c8b0 := decide_eq_false c8
     clear c8
     obtain rfl := Option.some.inj H
     go_enter Tryz.func56, Tryz.ntmps56
     go_wp2
     go_ret
     exact ⟨zT, zW⟩
   ·rw [if_neg c7] at H
    have c7b0 := decide_eq_false c7
    clear c7
    obtain rfl := Option.some.inj H
    go_enter Tryz.func56, Tryz.ntmps56
    go_wp2
    go_ret
    exact ⟨zT, zW⟩
  ·rw [if_neg c6] at H
   have c6b0 := decide_eq_false c6
   clear c6
   obtain rfl := Option.some.inj H
   go_enter Tryz.func56, Tryz.ntmps56
   go_wp2
   go_ret
   exact ⟨zT, zW⟩
 ·rw [if_neg c5] at H
  have c5b0 := decide_eq_false c5
  clear c5
  obtain rfl := Option.some.inj H
  go_enter Tryz.func56, Tryz.ntmps56
  go_wp2
  go_ret
  exact ⟨zT, zW⟩
def smaltoref05_fraction.f (a0 a1 a2 a3 : Int) : Option (Int × Int) := if a1 > a0 then (some (wrap64 ((wrap64 ((wrap64 ((wrap64 (2 * a1)) * a3)) - (wrap64 ((wrap64 ((wrap64 (2 * a2)) + 1)) * a0)))) + a1), wrap64 (2 * a1))) else (some (wrap64 ((wrap64 ((wrap64 ((wrap64 (2 * a1)) * a3)) - (wrap64 ((wrap64 ((wrap64 (2 * a2)) + 1)) * a0)))) + a1), wrap64 (2 * a0)))
set_option maxHeartbeats 8000000 in
set_option maxRecDepth 100000 in
theorem smaltoref05_fraction.calls (a0 a1 a2 a3 r1 r2 : Int) (w : World) (h : smaltoref05_fraction.f a0 a1 a2 a3 = some (r1, r2)) :
  Calls Tryz.prog 82 #[.int .i64 a0, .int .i64 a1, .int .i64 a2, .int .i64 a3] w fun e w' => e = .returned (.tuple #[.int .i64 r1, .int .i64 r2]) ∧ Drawn0 w w' := by
 have H := h
 clear h
 unfold smaltoref05_fraction.f at H
 by_cases c5 : a1 > a0
 ·rw [if_pos c5] at H
  have c5b0 := decide_eq_true c5
  clear c5
  simp only [Option.some.injEq, Prod.mk.injEq] at H
  obtain ⟨rfl, rfl⟩ := H
  go_enter Tryz.func82, Tryz.ntmps82
  go_wp2
  go_ret2
  exact ⟨zT, zW⟩
 ·rw [if_neg c5] at H
  have c5b0 := decide_eq_false c5
  clear c5
  simp only [Option.some.injEq, Prod.mk.injEq] at H
  obtain ⟨rfl, rfl⟩ := H
  go_enter Tryz.func82, Tryz.ntmps82
  go_wp2
  go_ret2
  exact ⟨zT, zW⟩
def smaltoref05_In.f (a0 a1 a2 a3 a4 : Int) : Option (Bool) := if a0 = 0 then (if (wrap64 ((wrap64 (a4 + 1)) * a2)) > (wrap64 (a3 * a1)) then (some (decide ((wrap64 (a4 * a2)) < (wrap64 ((wrap64 (a3 + 1)) * a1))))) else (some false)) else ((smaltoref05_fraction.f a1 a2 a3 a4).bind fun bt259 => (if a0 = 2 then (if bt259.1 < (wrap64 (3 * bt259.2)) then (some (decide (bt259.1 > (wrap64 (-(wrap64 (3 * bt259.2))))))) else (some false)) else (if bt259.1 < (wrap64 (2 * bt259.2)) then (some (decide (bt259.1 > (wrap64 (-(wrap64 (2 * bt259.2))))))) else (some false))))
set_option maxHeartbeats 8000000 in
set_option maxRecDepth 100000 in
theorem smaltoref05_In.calls (a0 a1 a2 a3 a4 : Int) (r : Bool) (w : World) (h : smaltoref05_In.f a0 a1 a2 a3 a4 = some r) :
  Calls Tryz.prog 57 #[.int .i64 a0, .int .i64 a1, .int .i64 a2, .int .i64 a3, .int .i64 a4] w fun e w' => e = .returned (.bool r) ∧ Drawn0 w w' := by
 have H := h
 clear h
 unfold smaltoref05_In.f at H
 by_cases c6 : a0 = 0
 ·rw [if_pos c6] at H
  have c6b0 : (a0 == 0) = true := beq_iff_eq.mpr c6
  have c6b1 : (a0 != 0) = false := bne_eq_false_iff_eq.mpr c6
  clear c6
  by_cases c7 : (wrap64 ((wrap64 (a4 + 1)) * a2)) > (wrap64 (a3 * a1))
  ·rw [if_pos c7] at H
   have c7b0 := decide_eq_true c7
   clear c7
   obtain rfl := Option.some.inj H
   go_enter Tryz.func57, Tryz.ntmps57
   go_wp2
   go_ret
   exact ⟨zT, zW⟩
  ·rw [if_neg c7] at H
   have c7b0 := decide_eq_false c7
   clear c7
   obtain rfl := Option.some.inj H
   go_enter Tryz.func57, Tryz.ntmps57
   go_wp2
   go_ret
   exact ⟨zT, zW⟩
 ·rw [if_neg c6] at H
  have c6b0 : (a0 == 0) = false := beq_eq_false_iff_ne.mpr c6
  have c6b1 : (a0 != 0) = true := bne_iff_ne.mpr c6
  replace H := zO H
  obtain ⟨⟨t259, t260⟩, A8, H⟩ := H
  try dsimp only at H
  by_cases c9 : a0 = 2
  ·rw [if_pos c9] at H
   have c9b0 : (a0 == 2) = true := beq_iff_eq.mpr c9
   have c9b1 : (a0 != 2) = false := bne_eq_false_iff_eq.mpr c9
   clear c9
   by_cases c10 : t259 < (wrap64 (3 * t260))
   ·rw [if_pos c10] at H
    have c10b0 := decide_eq_true c10
    clear c10
    obtain rfl := Option.some.inj H
    go_enter Tryz.func57, Tryz.ntmps57
    go_wp2_with (first | ((with_reducible refine gate_callee (f := 82) rfl ?_); refine goesL_ (some 39) rfl rfl Tryz.func82 (by kernel_rfl) rfl #[.int .i64 a1, .int .i64 a2, .int .i64 a3, .int .i64 a4] rfl zL ?_; (with_reducible refine (smaltoref05_fraction.calls a1 a2 a3 a4 t259 t260 _ A8.out).mono ?_); rintro e w' ⟨rfl, ⟨nd, rfl⟩⟩; refine ⟨_, rfl, ?_⟩))
    go_ret
    exact ⟨zT, zW⟩
   ·rw [if_neg c10] at H
    have c10b0 := decide_eq_false c10
    clear c10
    obtain rfl := Option.some.inj H
    go_enter Tryz.func57, Tryz.ntmps57
    go_wp2_with (first | ((with_reducible refine gate_callee (f := 82) rfl ?_); refine goesL_ (some 39) rfl rfl Tryz.func82 (by kernel_rfl) rfl #[.int .i64 a1, .int .i64 a2, .int .i64 a3, .int .i64 a4] rfl zL ?_; (with_reducible refine (smaltoref05_fraction.calls a1 a2 a3 a4 t259 t260 _ A8.out).mono ?_); rintro e w' ⟨rfl, ⟨nd, rfl⟩⟩; refine ⟨_, rfl, ?_⟩))
    go_ret
    exact ⟨zT, zW⟩
  ·rw [if_neg c9] at H
   have c9b0 : (a0 == 2) = false := beq_eq_false_iff_ne.mpr c9
   have c9b1 : (a0 != 2) = true := bne_iff_ne.mpr c9
   by_cases c11 : t259 < (wrap64 (2 * t260))
   ·rw [if_pos c11] at H
    have c11b0 := decide_eq_true c11
    clear c11
    obtain rfl := Option.some.inj H
    go_enter Tryz.func57, Tryz.ntmps57
    go_wp2_with (first | ((with_reducible refine gate_callee (f := 82) rfl ?_); refine goesL_ (some 39) rfl rfl Tryz.func82 (by kernel_rfl) rfl #[.int .i64 a1, .int .i64 a2, .int .i64 a3, .int .i64 a4] rfl zL ?_; (with_reducible refine (smaltoref05_fraction.calls a1 a2 a3 a4 t259 t260 _ A8.out).mono ?_); rintro e w' ⟨rfl, ⟨nd, rfl⟩⟩; refine ⟨_, rfl, ?_⟩))
    go_ret
    exact ⟨zT, zW⟩
   ·rw [if_neg c11] at H
    have c11b0 := decide_eq_false c11
    clear c11
    obtain rfl := Option.some.inj H
    go_enter Tryz.func57, Tryz.ntmps57
    go_wp2_with (first | ((with_reducible refine gate_callee (f := 82) rfl ?_); refine goesL_ (some 39) rfl rfl Tryz.func82 (by kernel_rfl) rfl #[.int .i64 a1, .int .i64 a2, .int .i64 a3, .int .i64 a4] rfl zL ?_; (with_reducible refine (smaltoref05_fraction.calls a1 a2 a3 a4 t259 t260 _ A8.out).mono ?_); rintro e w' ⟨rfl, ⟨nd, rfl⟩⟩; refine ⟨_, rfl, ?_⟩))
    go_ret
    exact ⟨zT, zW⟩
def smaltoref01_Plus.f (a0_0 a0_1 a1_0 a1_1 : Int) : Option (Int × Int) := if (IntKind.u64.wrap (a0_1 + a1_1)) < a0_1 then (some (IntKind.u64.wrap ((IntKind.u64.wrap (a0_0 + a1_0)) + 1), IntKind.u64.wrap (a0_1 + a1_1))) else (some (IntKind.u64.wrap (a0_0 + a1_0), IntKind.u64.wrap (a0_1 + a1_1)))
set_option maxHeartbeats 8000000 in
set_option maxRecDepth 100000 in
theorem smaltoref01_Plus.calls (a0_0 a0_1 a1_0 a1_1 r1 r2 : Int) (w : World) (h : smaltoref01_Plus.f a0_0 a0_1 a1_0 a1_1 = some (r1, r2)) :
  Calls Tryz.prog 86 #[.agg #[.int .u64 a0_0, .int .u64 a0_1], .agg #[.int .u64 a1_0, .int .u64 a1_1]] w fun e w' => e = .returned (.agg #[.int .u64 r1, .int .u64 r2]) ∧ Below w.heap.size w w' := by
 have hu113 := Tryz.underlying113
 have HB := Aside0.mk (Below.refl w.heap.size w)
 have H := h
 clear h
 unfold smaltoref01_Plus.f at H
 by_cases c3 : (IntKind.u64.wrap (a0_1 + a1_1)) < a0_1
 ·rw [if_pos c3] at H
  have c3b0 := decide_eq_true c3
  clear c3
  simp only [Option.some.injEq, Prod.mk.injEq] at H
  obtain ⟨rfl, rfl⟩ := H
  go_enter Tryz.func86, Tryz.ntmps86
  go_wp2_with (first | ((with_reducible refine gate_dst (N := 2) rfl ?_); refine box_event zR (N := 2) zR (cs := #[.int .u64 a0_0, .int .u64 a0_1]) (t := 113) zG ?_; intro gb261 hg w4 hbox hb; obtain ⟨HB, BK261, GW261, GE261⟩ := zA4 (below_step zB hb) hbox (zg hg zB) (zg hg zB); clear hb hbox hg) | ((with_reducible refine gate_dst (N := 3) rfl ?_); refine box_event zR (N := 3) zR (cs := #[.int .u64 a1_0, .int .u64 a1_1]) (t := 113) zG ?_; intro gb262 hg w5 hbox hb; obtain ⟨BK261, HB, BK262, GW262, GE262, NB261_262, NB262_261⟩ := zA7 (blk_below (zK BK261) hb) (below_step zB hb) hbox (zg hg zB) (zg hg zB) (zl hg (zK BK261)) (zr hg (zK BK261)); clear hb hbox hg) | ((with_reducible refine gate_dst (N := 4) rfl ?_); refine box_event zR (N := 4) zR (cs := #[.int .u64 0, .int .u64 0]) (t := 113) zG ?_; intro gb263 hg w6 hbox hb; obtain ⟨BK261, BK262, HB, BK263, GW263, GE263, NB261_263, NB263_261, NB262_263, NB263_262⟩ := zA10 (blk_below (zK BK261) hb) (blk_below (zK BK262) hb) (below_step zB hb) hbox (zg hg zB) (zg hg zB) (zl hg (zK BK261)) (zr hg (zK BK261)) (zl hg (zK BK262)) (zr hg (zK BK262)); clear hb hbox hg; have hnb7 := NB261_262.out; have hnc7 := NB262_261.out; have hnb8 := NB261_263.out; have hnc8 := NB263_261.out; obtain ⟨_, _⟩ := zC2 BK261.out; obtain ⟨_, _⟩ := zF2 BK261.out; have hnb10 := NB262_263.out; have hnc10 := NB263_262.out; obtain ⟨_, _⟩ := zC2 BK262.out; obtain ⟨_, _⟩ := zF2 BK262.out) | ((with_reducible refine gate_dst (N := 5) rfl ?_); refine box_event zR (N := 5) zR (cs := #[.int .u64 0, .int .u64 0]) (t := 113) zG ?_; intro gb264 hg w12 hbox hb; obtain ⟨BK261, BK262, BK263, HB, BK264, GW264, GE264, NB261_264, NB264_261, NB262_264, NB264_262, NB263_264, NB264_263⟩ := zA13 (blk_below (zK BK261) hb) (blk_below (zK BK262) hb) (blk_below (zK BK263) hb) (below_step zB hb) hbox (zg hg zB) (zg hg zB) (zl hg (zK BK261)) (zr hg (zK BK261)) (zl hg (zK BK262)) (zr hg (zK BK262)) (zl hg (zK BK263)) (zr hg (zK BK263)); clear hb hbox hg; have hnb13 := NB264_261.out; have hnc13 := NB261_264.out; have hnb14 := NB264_262.out; have hnc14 := NB262_264.out; have hnb15 := NB264_263.out; have hnc15 := NB263_264.out; obtain ⟨_, _⟩ := zC2 BK264.out; obtain ⟨_, _⟩ := zF2 BK264.out; obtain ⟨_, _⟩ := zC2 BK261.out; obtain ⟨_, _⟩ := zF2 BK261.out; obtain ⟨_, _⟩ := zC2 BK263.out; obtain ⟨_, _⟩ := zF2 BK263.out))
  refine bodyPost_ret (results_cell_row rfl _ _ gb263 113 #[.int .u64 (IntKind.u64.wrap ((IntKind.u64.wrap (a0_0 + a1_0)) + 1)), .int .u64 (IntKind.u64.wrap (a0_1 + a1_1))] (0, 0) _ rfl (by refine zD ?_; refine blk_put (cs := #[.int .u64 (IntKind.u64.wrap ((IntKind.u64.wrap (a0_0 + a1_0)) + 1)), .int .u64 0]) ?_ 1 _ rfl; refine zD ?_; refine blk_put (cs := #[.int .u64 0, .int .u64 0]) ?_ 0 _ rfl; refine zD ?_; refine blk_far ?_ NB263_264.out _; refine zD ?_; refine blk_far ?_ NB263_264.out _; refine zD ?_; refine blk_far ?_ NB263_264.out _; refine zD ?_; exact BK263.out) Tryz.underlying113 rfl (by kernel_rfl)) rfl ?_
  exact ⟨zS, zB⟩
 ·rw [if_neg c3] at H
  have c3b0 := decide_eq_false c3
  clear c3
  simp only [Option.some.injEq, Prod.mk.injEq] at H
  obtain ⟨rfl, rfl⟩ := H
  go_enter Tryz.func86, Tryz.ntmps86
  go_wp2_with (first | ((with_reducible refine gate_dst (N := 2) rfl ?_); refine box_event zR (N := 2) zR (cs := #[.int .u64 a0_0, .int .u64 a0_1]) (t := 113) zG ?_; intro gb261 hg w19 hbox hb; obtain ⟨HB, BK261, GW261, GE261⟩ := zA4 (below_step zB hb) hbox (zg hg zB) (zg hg zB); clear hb hbox hg) | ((with_reducible refine gate_dst (N := 3) rfl ?_); refine box_event zR (N := 3) zR (cs := #[.int .u64 a1_0, .int .u64 a1_1]) (t := 113) zG ?_; intro gb262 hg w20 hbox hb; obtain ⟨BK261, HB, BK262, GW262, GE262, NB261_262, NB262_261⟩ := zA7 (blk_below (zK BK261) hb) (below_step zB hb) hbox (zg hg zB) (zg hg zB) (zl hg (zK BK261)) (zr hg (zK BK261)); clear hb hbox hg) | ((with_reducible refine gate_dst (N := 4) rfl ?_); refine box_event zR (N := 4) zR (cs := #[.int .u64 0, .int .u64 0]) (t := 113) zG ?_; intro gb263 hg w21 hbox hb; obtain ⟨BK261, BK262, HB, BK263, GW263, GE263, NB261_263, NB263_261, NB262_263, NB263_262⟩ := zA10 (blk_below (zK BK261) hb) (blk_below (zK BK262) hb) (below_step zB hb) hbox (zg hg zB) (zg hg zB) (zl hg (zK BK261)) (zr hg (zK BK261)) (zl hg (zK BK262)) (zr hg (zK BK262)); clear hb hbox hg; have hnb22 := NB261_262.out; have hnc22 := NB262_261.out; have hnb23 := NB261_263.out; have hnc23 := NB263_261.out; obtain ⟨_, _⟩ := zC2 BK261.out; obtain ⟨_, _⟩ := zF2 BK261.out; have hnb25 := NB262_263.out; have hnc25 := NB263_262.out; obtain ⟨_, _⟩ := zC2 BK262.out; obtain ⟨_, _⟩ := zF2 BK262.out) | ((with_reducible refine gate_dst (N := 5) rfl ?_); refine box_event zR (N := 5) zR (cs := #[.int .u64 0, .int .u64 0]) (t := 113) zG ?_; intro gb264 hg w27 hbox hb; obtain ⟨BK261, BK262, BK263, HB, BK264, GW264, GE264, NB261_264, NB264_261, NB262_264, NB264_262, NB263_264, NB264_263⟩ := zA13 (blk_below (zK BK261) hb) (blk_below (zK BK262) hb) (blk_below (zK BK263) hb) (below_step zB hb) hbox (zg hg zB) (zg hg zB) (zl hg (zK BK261)) (zr hg (zK BK261)) (zl hg (zK BK262)) (zr hg (zK BK262)) (zl hg (zK BK263)) (zr hg (zK BK263)); clear hb hbox hg; have hnb28 := NB264_261.out; have hnc28 := NB261_264.out; have hnb29 := NB264_262.out; have hnc29 := NB262_264.out; have hnb30 := NB264_263.out; have hnc30 := NB263_264.out; obtain ⟨_, _⟩ := zC2 BK264.out; obtain ⟨_, _⟩ := zF2 BK264.out; obtain ⟨_, _⟩ := zC2 BK261.out; obtain ⟨_, _⟩ := zF2 BK261.out; obtain ⟨_, _⟩ := zC2 BK263.out; obtain ⟨_, _⟩ := zF2 BK263.out))
  refine bodyPost_ret (results_cell_row rfl _ _ gb263 113 #[.int .u64 (IntKind.u64.wrap (a0_0 + a1_0)), .int .u64 (IntKind.u64.wrap (a0_1 + a1_1))] (0, 0) _ rfl (by refine zD ?_; refine blk_put (cs := #[.int .u64 (IntKind.u64.wrap (a0_0 + a1_0)), .int .u64 0]) ?_ 1 _ rfl; refine zD ?_; refine blk_put (cs := #[.int .u64 0, .int .u64 0]) ?_ 0 _ rfl; refine zD ?_; refine blk_far ?_ NB263_264.out _; refine zD ?_; refine blk_far ?_ NB263_264.out _; refine zD ?_; exact BK263.out) Tryz.underlying113 rfl (by kernel_rfl)) rfl ?_
  exact ⟨zS, zB⟩
def smaltoref01_Twice.f (a0_0 a0_1 a1 : Int) : Option (Int × Int) := some (IntKind.u64.wrap ((IntKind.u64.wrap (a0_0 * 2)) + (a0_1 / 9223372036854775808)), IntKind.u64.wrap ((IntKind.u64.wrap (a0_1 * 2)) + a1))
set_option maxHeartbeats 8000000 in
set_option maxRecDepth 100000 in
theorem smaltoref01_Twice.calls (a0_0 a0_1 a1 r1 r2 : Int) (w : World) (h : smaltoref01_Twice.f a0_0 a0_1 a1 = some (r1, r2)) :
  Calls Tryz.prog 88 #[.agg #[.int .u64 a0_0, .int .u64 a0_1], .int .u64 a1] w fun e w' => e = .returned (.agg #[.int .u64 r1, .int .u64 r2]) ∧ Below w.heap.size w w' := by
 have hu113 := Tryz.underlying113
 have HB := Aside0.mk (Below.refl w.heap.size w)
 have H := h
 clear h
 unfold smaltoref01_Twice.f at H
 simp only [Option.some.injEq, Prod.mk.injEq] at H
 obtain ⟨rfl, rfl⟩ := H
 go_enter Tryz.func88, Tryz.ntmps88
 go_wp2_with (first | ((with_reducible refine gate_dst (N := 2) rfl ?_); refine box_event zR (N := 2) zR (cs := #[.int .u64 a0_0, .int .u64 a0_1]) (t := 113) zG ?_; intro gb265 hg w3 hbox hb; obtain ⟨HB, BK265, GW265, GE265⟩ := zA4 (below_step zB hb) hbox (zg hg zB) (zg hg zB); clear hb hbox hg) | ((with_reducible refine gate_dst (N := 4) rfl ?_); refine box_event zR (N := 4) zR (cs := #[.int .u64 0, .int .u64 0]) (t := 113) zG ?_; intro gb266 hg w4 hbox hb; obtain ⟨BK265, HB, BK266, GW266, GE266, NB265_266, NB266_265⟩ := zA7 (blk_below (zK BK265) hb) (below_step zB hb) hbox (zg hg zB) (zg hg zB) (zl hg (zK BK265)) (zr hg (zK BK265)); clear hb hbox hg; have hnb5 := NB265_266.out; have hnc5 := NB266_265.out; obtain ⟨_, _⟩ := zC2 BK265.out; obtain ⟨_, _⟩ := zF2 BK265.out; obtain ⟨_, _⟩ := zC2 BK266.out; obtain ⟨_, _⟩ := zF2 BK266.out))
 refine bodyPost_ret (results_cell_row rfl _ _ gb266 113 #[.int .u64 (IntKind.u64.wrap ((IntKind.u64.wrap (a0_0 * 2)) + (a0_1 / 9223372036854775808))), .int .u64 (IntKind.u64.wrap ((IntKind.u64.wrap (a0_1 * 2)) + a1))] (0, 0) _ rfl (by refine zD ?_; refine blk_put (cs := #[.int .u64 (IntKind.u64.wrap ((IntKind.u64.wrap (a0_0 * 2)) + (a0_1 / 9223372036854775808))), .int .u64 0]) ?_ 1 _ rfl; refine zD ?_; refine blk_put (cs := #[.int .u64 0, .int .u64 0]) ?_ 0 _ rfl; refine zD ?_; exact BK266.out) Tryz.underlying113 rfl (by kernel_rfl)) rfl ?_
 exact ⟨zS, zB⟩
end Go.Proofs.YtebipmdopdogkaaGreatDoor.QA

namespace Go.Proofs.YtebipmdopdogkaaGreatDoor.QA
open Go.Proofs.YtebipmdopdogkaaGreatDoor.T
open Go.RowKit Go.Proofs.YtebipmdopdogkaaGreatDoorW.PrintWords Go.Proofs.YtebipmdopdogkaaGreatDoorW.PrintLast Go.Proofs.YtebipmdopdogkaaGreatDoorW.PrintMore
attribute [local go_sem] ext_call max2_int min2_int max_two min_two
set_option linter.unusedVariables false
set_option linter.unusedSimpArgs false
def smaltoref01_Times.l0 : Nat → Int → Int → Int → Int → Int → Option (Int × Int)
 | 0, _, _, _, _, _ => none
 | k + 1, x0, x1, x6, x269000, x269001 => if x6 ≥ 0 then ((smaltoref01_Twice.f x269000 x269001 0).bind fun bt269 => (if 0 ≤ x6 then (if (Go.bits .and .u64 (shr .u64 x1 x6) 1) = 1 then ((smaltoref01_Plus.f bt269.1 bt269.2 0 x0).bind fun bt271 => (smaltoref01_Times.l0 k x0 x1 (wrap64 (x6 - 1)) bt271.1 bt271.2)) else (smaltoref01_Times.l0 k x0 x1 (wrap64 (x6 - 1)) bt269.1 bt269.2)) else (none))) else (some (x269000, x269001))
def smaltoref01_Times.f (k : Nat) (a0 a1 : Int) : Option (Int × Int) := smaltoref01_Times.l0 k a0 a1 63 0 0
set_option maxHeartbeats 8000000 in
set_option maxRecDepth 100000 in
theorem smaltoref01_Times.calls (k : Nat) (a0 a1 r1 r2 : Int) (w : World) (h : smaltoref01_Times.f k a0 a1 = some (r1, r2)) :
  Calls Tryz.prog 66 #[.int .u64 a0, .int .u64 a1] w fun e w' => e = .returned (.agg #[.int .u64 r1, .int .u64 r2]) ∧ Below w.heap.size w w' := by
 have hu113 := Tryz.underlying113
 have HB := Aside0.mk (Below.refl w.heap.size w)
 have H := h
 clear h
 unfold smaltoref01_Times.f at H
 have H' := Aside0.mk H
 clear H
 go_enter Tryz.func66, Tryz.ntmps66
 go_wp2_with (first | ((with_reducible refine gate_dst (N := 4) rfl ?_); refine box_event zR (N := 4) zR (cs := #[.int .u64 0, .int .u64 0]) (t := 113) zG ?_; intro gb267 hg w3 hbox hb; obtain ⟨HB, BK267, GW267, GE267⟩ := zA4 (below_step zB hb) hbox (zg hg zB) (zg hg zB); clear hb hbox hg) | ((with_reducible refine gate_dst (N := 5) rfl ?_); refine box_event zR (N := 5) zR (cs := #[.int .u64 0, .int .u64 0]) (t := 113) zG ?_; intro gb268 hg w4 hbox hb; obtain ⟨BK267, HB, BK268, GW268, GE268, NB267_268, NB268_267⟩ := zA7 (blk_below (zK BK267) hb) (below_step zB hb) hbox (zg hg zB) (zg hg zB) (zl hg (zK BK267)) (zr hg (zK BK267)); clear hb hbox hg; have hnb5 := NB268_267.out; have hnc5 := NB267_268.out; obtain ⟨_, _⟩ := zC2 BK268.out; obtain ⟨_, _⟩ := zF2 BK268.out))
 go_loopg [6] k (fun kq v6 w' => ∃ (x6_1 : Int) (x269000_1 : Int) (x269001_1 : Int), v6 = .int .i64 x6_1 ∧ Aside0 (smaltoref01_Times.l0 kq a0 a1 x6_1 x269000_1 x269001_1 = some (r1, r2)) ∧ Aside0 (kq ≤ k) ∧ Aside0 (w'.heap[gb267]? = some (.cells #[.int .u64 0, .int .u64 0] 113 (0, 0))) ∧ Aside0 (w'.heap[gb268]? = some (.cells #[.int .u64 x269000_1, .int .u64 x269001_1] 113 (0, 0))) ∧ Aside0 (Below w.heap.size w w'))
 case atStart => exact ⟨(63), (0), (0), zT, H', ⟨Nat.le_refl _⟩, ⟨zK BK267⟩, ⟨by refine zD ?_; refine blk_put (cs := #[.int .u64 0, .int .u64 0]) ?_ 1 _ rfl; refine zD ?_; refine blk_put (cs := #[.int .u64 0, .int .u64 0]) ?_ 0 _ rfl; refine zD ?_; exact BK268.out⟩, ⟨zB⟩⟩
 case round =>
  clear H'
  obtain ⟨x6_1, x269000_1, x269001_1, rfl, HA, HK1, BK267, BK268, HB⟩ := hrel
  cases gk with
  | zero => exact absurd HA.out (by simp [smaltoref01_Times.l0])
  | succ k1 =>
   have H := HA.out
   clear HA
   simp only [smaltoref01_Times.l0] at H
   by_cases c7 : x6_1 ≥ 0
   ·rw [if_pos c7] at H
    have c7b0 := decide_eq_true c7
    clear c7
    replace H := zO H
    obtain ⟨⟨t269, t270⟩, A8, H⟩ := H
    try dsimp only at H
    by_cases c9 : 0 ≤ x6_1
    ·rw [if_pos c9] at H
     have c9b0 := eq_true c9
     have c9b1 := decide_eq_true c9
     clear c9
     obtain ⟨ji10, hji10⟩ : ∃ j_ : Int, (shr .u64 a1 x6_1) = j_ := ⟨_, rfl⟩
     replace H : (if (Go.bits .and .u64 (ji10) 1) = 1 then ((smaltoref01_Plus.f t269 t270 0 a0).bind fun bt271 => (smaltoref01_Times.l0 k1 a0 a1 (wrap64 (x6_1 - 1)) bt271.1 bt271.2)) else (smaltoref01_Times.l0 k1 a0 a1 (wrap64 (x6_1 - 1)) t269 t270)) = some (r1, r2) := by first | (rw [hji10] at H; exact H) | (simp only [hji10] at H ⊢; exact H)
     (try rw [hji10] at A8)
     have hji10_ : (a1 / 2 ^ min x6_1.toNat 64) = ji10 := hji10
     have hji10z : x6_1 ≤ 64 → (a1 / 2 ^ x6_1.toNat) = ji10 := shr_small hji10
     by_cases c11 : (Go.bits .and .u64 (ji10) 1) = 1
     ·rw [if_pos c11] at H
      have c11b0 : ((Go.bits .and .u64 (ji10) 1) == 1) = true := beq_iff_eq.mpr c11
      have c11b1 : ((Go.bits .and .u64 (ji10) 1) != 1) = false := bne_eq_false_iff_eq.mpr c11
      clear c11
      replace H := zO H
      obtain ⟨⟨t271, t272⟩, A12, H⟩ := H
      try dsimp only at H
      have H' := Aside0.mk H
      clear H
      have hnb13 := NB268_267.out
      have hnc13 := NB267_268.out
      obtain ⟨_, _⟩ := zC2 BK268.out
      obtain ⟨_, _⟩ := zF2 BK268.out
      go_wp2_with (first | ((with_reducible refine gate_callee (f := 88) rfl ?_); refine goesL_ (some 13) rfl rfl Tryz.func88 (by kernel_rfl) rfl #[.agg #[.int .u64 x269000_1, .int .u64 x269001_1], .int .u64 0] rfl zL ?_; (with_reducible refine (smaltoref01_Twice.calls x269000_1 x269001_1 0 t269 t270 _ A8.out).mono ?_); rintro e w15 ⟨rfl, hb⟩; refine ⟨_, rfl, ?_⟩; obtain ⟨BK267, BK268, HB⟩ := zA3 (blk_below (zK BK267) hb) (blk_below (zK BK268) hb) (below_step zB hb); (try clear hb); obtain ⟨_, _⟩ := zC2 BK268.out; obtain ⟨_, _⟩ := zF2 BK268.out) | ((with_reducible refine gate_callee (f := 86) rfl ?_); refine goesL_ (some 22) rfl rfl Tryz.func86 (by kernel_rfl) rfl #[.agg #[.int .u64 t269, .int .u64 t270], .agg #[.int .u64 0, .int .u64 a0]] rfl zL ?_; (with_reducible refine (smaltoref01_Plus.calls t269 t270 0 a0 t271 t272 _ A12.out).mono ?_); rintro e w17 ⟨rfl, hb⟩; refine ⟨_, rfl, ?_⟩; obtain ⟨BK267, BK268, HB⟩ := zA3 (blk_below (zK BK267) hb) (blk_below (g := gb268) (o := .cells #[.int .u64 t269, .int .u64 t270] 113 (0, 0)) (by refine zD ?_; refine blk_put (cs := #[.int .u64 t269, .int .u64 x269001_1]) ?_ 1 _ rfl; refine zD ?_; refine blk_put (cs := #[.int .u64 x269000_1, .int .u64 x269001_1]) ?_ 0 _ rfl; refine zD ?_; exact BK268.out) hb) (below_step zB hb); (try clear hb); obtain ⟨_, _⟩ := zC2 BK268.out; obtain ⟨_, _⟩ := zF2 BK268.out))
      go_roundg k1
      case measure => have := HK1.out; omega
      case rel => exact ⟨(wrap64 (x6_1 - 1)), (t271), (t272), zT, H', ⟨by have := HK1.out; omega⟩, ⟨zK BK267⟩, ⟨by refine zD ?_; refine blk_put (cs := #[.int .u64 t271, .int .u64 t270]) ?_ 1 _ rfl; refine zD ?_; refine blk_put (cs := #[.int .u64 t269, .int .u64 t270]) ?_ 0 _ rfl; refine zD ?_; exact BK268.out⟩, ⟨zB⟩⟩
     ·rw [if_neg c11] at H
      have c11b0 : ((Go.bits .and .u64 (ji10) 1) == 1) = false := beq_eq_false_iff_ne.mpr c11
      have c11b1 : ((Go.bits .and .u64 (ji10) 1) != 1) = true := bne_iff_ne.mpr c11
      have H' := Aside0.mk H
      clear H
      have hnb19 := NB268_267.out
      have hnc19 := NB267_268.out
      obtain ⟨_, _⟩ := zC2 BK268.out
      obtain ⟨_, _⟩ := zF2 BK268.out
      go_wp2_with (first | ((with_reducible refine gate_callee (f := 88) rfl ?_); refine goesL_ (some 13) rfl rfl Tryz.func88 (by kernel_rfl) rfl #[.agg #[.int .u64 x269000_1, .int .u64 x269001_1], .int .u64 0] rfl zL ?_; (with_reducible refine (smaltoref01_Twice.calls x269000_1 x269001_1 0 t269 t270 _ A8.out).mono ?_); rintro e w21 ⟨rfl, hb⟩; refine ⟨_, rfl, ?_⟩; obtain ⟨BK267, BK268, HB⟩ := zA3 (blk_below (zK BK267) hb) (blk_below (zK BK268) hb) (below_step zB hb); (try clear hb); obtain ⟨_, _⟩ := zC2 BK268.out; obtain ⟨_, _⟩ := zF2 BK268.out))
      go_roundg k1
      case measure => have := HK1.out; omega
      case rel => exact ⟨(wrap64 (x6_1 - 1)), (t269), (t270), zT, H', ⟨by have := HK1.out; omega⟩, ⟨zK BK267⟩, ⟨by refine zD ?_; refine blk_put (cs := #[.int .u64 t269, .int .u64 x269001_1]) ?_ 1 _ rfl; refine zD ?_; refine blk_put (cs := #[.int .u64 x269000_1, .int .u64 x269001_1]) ?_ 0 _ rfl; refine zD ?_; exact BK268.out⟩, ⟨zB⟩⟩
    ·rw [if_neg c9] at H
     exact absurd H (by simp)
   ·rw [if_neg c7] at H
    have c7b0 := decide_eq_false c7
    clear c7
    simp only [Option.some.injEq, Prod.mk.injEq] at H
    obtain ⟨rfl, rfl⟩ := H
    have hnb23 := NB268_267.out
    have hnc23 := NB267_268.out
    obtain ⟨_, _⟩ := zC2 BK268.out
    obtain ⟨_, _⟩ := zF2 BK268.out
    obtain ⟨_, _⟩ := zC2 BK267.out
    obtain ⟨_, _⟩ := zF2 BK267.out
    go_wp2
    refine bodyPost_ret (results_cell_row rfl _ _ gb267 113 #[.int .u64 x269000_1, .int .u64 x269001_1] (0, 0) _ rfl (by refine zD ?_; refine blk_put (cs := #[.int .u64 x269000_1, .int .u64 0]) ?_ 1 _ rfl; refine zD ?_; refine blk_put (cs := #[.int .u64 0, .int .u64 0]) ?_ 0 _ rfl; refine zD ?_; exact BK267.out) Tryz.underlying113 rfl (by kernel_rfl)) rfl ?_
    exact ⟨zS, zB⟩
def smaltoref01_Size.f (a0 : Int) : Option (Int) := if a0 < 0 then (some (IntKind.u64.wrap ((IntKind.u64.wrap (wrap64 (-(wrap64 (a0 + 1))))) + 1))) else (some (IntKind.u64.wrap (a0)))
set_option maxHeartbeats 8000000 in
set_option maxRecDepth 100000 in
theorem smaltoref01_Size.calls (a0 r : Int) (w : World) (h : smaltoref01_Size.f a0 = some r) :
  Calls Tryz.prog 67 #[.int .i64 a0] w fun e w' => e = .returned (.int .u64 r) ∧ Drawn0 w w' := by
 have H := h
 clear h
 unfold smaltoref01_Size.f at H
 by_cases c2 : a0 < 0
 ·rw [if_pos c2] at H
  have c2b0 := decide_eq_true c2
  clear c2
  obtain rfl := Option.some.inj H
  go_enter Tryz.func67, Tryz.ntmps67
  go_wp2
  go_ret
  exact ⟨zT, zW⟩
 ·rw [if_neg c2] at H
  have c2b0 := decide_eq_false c2
  clear c2
  obtain rfl := Option.some.inj H
  go_enter Tryz.func67, Tryz.ntmps67
  go_wp2
  go_ret
  exact ⟨zT, zW⟩
def smaltoref01_Bit.f (a0_0 a0_1 a1 : Int) : Option (Int) := if a1 ≥ 64 then (if 0 ≤ (wrap64 (a1 - 64)) then (some (Go.bits .and .u64 (shr .u64 a0_0 (wrap64 (a1 - 64))) 1)) else (none)) else (if 0 ≤ a1 then (some (Go.bits .and .u64 (shr .u64 a0_1 a1) 1)) else (none))
set_option maxHeartbeats 8000000 in
set_option maxRecDepth 100000 in
theorem smaltoref01_Bit.calls (a0_0 a0_1 a1 r : Int) (w : World) (h : smaltoref01_Bit.f a0_0 a0_1 a1 = some r) :
  Calls Tryz.prog 89 #[.agg #[.int .u64 a0_0, .int .u64 a0_1], .int .i64 a1] w fun e w' => e = .returned (.int .u64 r) ∧ Below w.heap.size w w' := by
 have hu113 := Tryz.underlying113
 have HB := Aside0.mk (Below.refl w.heap.size w)
 have H := h
 clear h
 unfold smaltoref01_Bit.f at H
 by_cases c3 : a1 ≥ 64
 ·rw [if_pos c3] at H
  have c3b0 := decide_eq_true c3
  clear c3
  obtain ⟨ji4, hji4⟩ : ∃ j_ : Int, (wrap64 (a1 - 64)) = j_ := ⟨_, rfl⟩
  replace H : (if 0 ≤ (ji4) then (some (Go.bits .and .u64 (shr .u64 a0_0 (ji4)) 1)) else (none)) = some r := by first | (rw [hji4] at H; exact H) | (simp only [hji4] at H ⊢; exact H)
  have hji4w : (IntKind.i64.wrap (a1 - 64)) = ji4 := (i64_w _).trans hji4
  by_cases c5 : 0 ≤ (ji4)
  ·rw [if_pos c5] at H
   have c5b0 := eq_true c5
   have c5b1 := decide_eq_true c5
   clear c5
   obtain ⟨ji6, hji6⟩ : ∃ j_ : Int, (shr .u64 a0_0 (ji4)) = j_ := ⟨_, rfl⟩
   replace H : (some (Go.bits .and .u64 (ji6) 1)) = some r := by first | (rw [hji6] at H; exact H) | (simp only [hji6] at H ⊢; exact H)
   have hji6_ : (a0_0 / 2 ^ min (ji4).toNat 64) = ji6 := hji6
   have hji6z : (ji4) ≤ 64 → (a0_0 / 2 ^ (ji4).toNat) = ji6 := shr_small hji6
   obtain rfl := Option.some.inj H
   go_enter Tryz.func89, Tryz.ntmps89
   go_wp2_with (first | ((with_reducible refine gate_dst (N := 2) rfl ?_); refine box_event zR (N := 2) zR (cs := #[.int .u64 a0_0, .int .u64 a0_1]) (t := 113) zG ?_; intro gb273 hg w7 hbox hb; obtain ⟨HB, BK273, GW273, GE273⟩ := zA4 (below_step zB hb) hbox (zg hg zB) (zg hg zB); clear hb hbox hg; obtain ⟨_, _⟩ := zC2 BK273.out; obtain ⟨_, _⟩ := zF2 BK273.out))
   go_ret
   exact ⟨by first | rfl | (simp [errW_none, errW_some] <;> rfl) | (simp only [← hji4, ← hji6]; first | rfl | (simp [errW_none, errW_some] <;> rfl)) | (simp [*, errW_none, errW_some] <;> rfl), zB⟩
  ·rw [if_neg c5] at H
   exact absurd H (by simp)
 ·rw [if_neg c3] at H
  have c3b0 := decide_eq_false c3
  clear c3
  by_cases c9 : 0 ≤ a1
  ·rw [if_pos c9] at H
   have c9b0 := eq_true c9
   have c9b1 := decide_eq_true c9
   clear c9
   obtain ⟨ji10, hji10⟩ : ∃ j_ : Int, (shr .u64 a0_1 a1) = j_ := ⟨_, rfl⟩
   replace H : (some (Go.bits .and .u64 (ji10) 1)) = some r := by first | (rw [hji10] at H; exact H) | (simp only [hji10] at H ⊢; exact H)
   have hji10_ : (a0_1 / 2 ^ min a1.toNat 64) = ji10 := hji10
   have hji10z : a1 ≤ 64 → (a0_1 / 2 ^ a1.toNat) = ji10 := shr_small hji10
   obtain rfl := Option.some.inj H
   go_enter Tryz.func89, Tryz.ntmps89
   go_wp2_with (first | ((with_reducible refine gate_dst (N := 2) rfl ?_); refine box_event zR (N := 2) zR (cs := #[.int .u64 a0_0, .int .u64 a0_1]) (t := 113) zG ?_; intro gb273 hg w11 hbox hb; obtain ⟨HB, BK273, GW273, GE273⟩ := zA4 (below_step zB hb) hbox (zg hg zB) (zg hg zB); clear hb hbox hg; obtain ⟨_, _⟩ := zC2 BK273.out; obtain ⟨_, _⟩ := zF2 BK273.out))
   go_ret
   exact ⟨by first | rfl | (simp [errW_none, errW_some] <;> rfl) | (simp only [← hji10]; first | rfl | (simp [errW_none, errW_some] <;> rfl)) | (simp [*, errW_none, errW_some] <;> rfl), zB⟩
  ·rw [if_neg c9] at H
   exact absurd H (by simp)
def smaltoref01_Minus.f (a0_0 a0_1 a1_0 a1_1 : Int) : Option (Int × Int) := if a0_1 < a1_1 then (some (IntKind.u64.wrap ((IntKind.u64.wrap (a0_0 - a1_0)) - 1), IntKind.u64.wrap (a0_1 - a1_1))) else (some (IntKind.u64.wrap (a0_0 - a1_0), IntKind.u64.wrap (a0_1 - a1_1)))
set_option maxHeartbeats 8000000 in
set_option maxRecDepth 100000 in
theorem smaltoref01_Minus.calls (a0_0 a0_1 a1_0 a1_1 r1 r2 : Int) (w : World) (h : smaltoref01_Minus.f a0_0 a0_1 a1_0 a1_1 = some (r1, r2)) :
  Calls Tryz.prog 90 #[.agg #[.int .u64 a0_0, .int .u64 a0_1], .agg #[.int .u64 a1_0, .int .u64 a1_1]] w fun e w' => e = .returned (.agg #[.int .u64 r1, .int .u64 r2]) ∧ Below w.heap.size w w' := by
 have hu113 := Tryz.underlying113
 have HB := Aside0.mk (Below.refl w.heap.size w)
 have H := h
 clear h
 unfold smaltoref01_Minus.f at H
 by_cases c3 : a0_1 < a1_1
 ·rw [if_pos c3] at H
  have c3b0 := decide_eq_true c3
  clear c3
  simp only [Option.some.injEq, Prod.mk.injEq] at H
  obtain ⟨rfl, rfl⟩ := H
  go_enter Tryz.func90, Tryz.ntmps90
  go_wp2_with (first | ((with_reducible refine gate_dst (N := 2) rfl ?_); refine box_event zR (N := 2) zR (cs := #[.int .u64 a0_0, .int .u64 a0_1]) (t := 113) zG ?_; intro gb274 hg w4 hbox hb; obtain ⟨HB, BK274, GW274, GE274⟩ := zA4 (below_step zB hb) hbox (zg hg zB) (zg hg zB); clear hb hbox hg) | ((with_reducible refine gate_dst (N := 3) rfl ?_); refine box_event zR (N := 3) zR (cs := #[.int .u64 a1_0, .int .u64 a1_1]) (t := 113) zG ?_; intro gb275 hg w5 hbox hb; obtain ⟨BK274, HB, BK275, GW275, GE275, NB274_275, NB275_274⟩ := zA7 (blk_below (zK BK274) hb) (below_step zB hb) hbox (zg hg zB) (zg hg zB) (zl hg (zK BK274)) (zr hg (zK BK274)); clear hb hbox hg) | ((with_reducible refine gate_dst (N := 4) rfl ?_); refine box_event zR (N := 4) zR (cs := #[.int .u64 0, .int .u64 0]) (t := 113) zG ?_; intro gb276 hg w6 hbox hb; obtain ⟨BK274, BK275, HB, BK276, GW276, GE276, NB274_276, NB276_274, NB275_276, NB276_275⟩ := zA10 (blk_below (zK BK274) hb) (blk_below (zK BK275) hb) (below_step zB hb) hbox (zg hg zB) (zg hg zB) (zl hg (zK BK274)) (zr hg (zK BK274)) (zl hg (zK BK275)) (zr hg (zK BK275)); clear hb hbox hg; have hnb7 := NB274_275.out; have hnc7 := NB275_274.out; have hnb8 := NB274_276.out; have hnc8 := NB276_274.out; obtain ⟨_, _⟩ := zC2 BK274.out; obtain ⟨_, _⟩ := zF2 BK274.out; have hnb10 := NB275_276.out; have hnc10 := NB276_275.out; obtain ⟨_, _⟩ := zC2 BK275.out; obtain ⟨_, _⟩ := zF2 BK275.out) | ((with_reducible refine gate_dst (N := 5) rfl ?_); refine box_event zR (N := 5) zR (cs := #[.int .u64 0, .int .u64 0]) (t := 113) zG ?_; intro gb277 hg w12 hbox hb; obtain ⟨BK274, BK275, BK276, HB, BK277, GW277, GE277, NB274_277, NB277_274, NB275_277, NB277_275, NB276_277, NB277_276⟩ := zA13 (blk_below (zK BK274) hb) (blk_below (zK BK275) hb) (blk_below (zK BK276) hb) (below_step zB hb) hbox (zg hg zB) (zg hg zB) (zl hg (zK BK274)) (zr hg (zK BK274)) (zl hg (zK BK275)) (zr hg (zK BK275)) (zl hg (zK BK276)) (zr hg (zK BK276)); clear hb hbox hg; have hnb13 := NB277_274.out; have hnc13 := NB274_277.out; have hnb14 := NB277_275.out; have hnc14 := NB275_277.out; have hnb15 := NB277_276.out; have hnc15 := NB276_277.out; obtain ⟨_, _⟩ := zC2 BK277.out; obtain ⟨_, _⟩ := zF2 BK277.out; obtain ⟨_, _⟩ := zC2 BK274.out; obtain ⟨_, _⟩ := zF2 BK274.out; obtain ⟨_, _⟩ := zC2 BK275.out; obtain ⟨_, _⟩ := zF2 BK275.out; obtain ⟨_, _⟩ := zC2 BK276.out; obtain ⟨_, _⟩ := zF2 BK276.out))
  refine bodyPost_ret (results_cell_row rfl _ _ gb276 113 #[.int .u64 (IntKind.u64.wrap ((IntKind.u64.wrap (a0_0 - a1_0)) - 1)), .int .u64 (IntKind.u64.wrap (a0_1 - a1_1))] (0, 0) _ rfl (by refine zD ?_; refine blk_put (cs := #[.int .u64 (IntKind.u64.wrap ((IntKind.u64.wrap (a0_0 - a1_0)) - 1)), .int .u64 0]) ?_ 1 _ rfl; refine zD ?_; refine blk_put (cs := #[.int .u64 0, .int .u64 0]) ?_ 0 _ rfl; refine zD ?_; refine blk_far ?_ NB276_277.out _; refine zD ?_; refine blk_far ?_ NB276_277.out _; refine zD ?_; refine blk_far ?_ NB276_277.out _; refine zD ?_; exact BK276.out) Tryz.underlying113 rfl (by kernel_rfl)) rfl ?_
  exact ⟨zS, zB⟩
 ·rw [if_neg c3] at H
  have c3b0 := decide_eq_false c3
  clear c3
  simp only [Option.some.injEq, Prod.mk.injEq] at H
  obtain ⟨rfl, rfl⟩ := H
  go_enter Tryz.func90, Tryz.ntmps90
  go_wp2_with (first | ((with_reducible refine gate_dst (N := 2) rfl ?_); refine box_event zR (N := 2) zR (cs := #[.int .u64 a0_0, .int .u64 a0_1]) (t := 113) zG ?_; intro gb274 hg w20 hbox hb; obtain ⟨HB, BK274, GW274, GE274⟩ := zA4 (below_step zB hb) hbox (zg hg zB) (zg hg zB); clear hb hbox hg) | ((with_reducible refine gate_dst (N := 3) rfl ?_); refine box_event zR (N := 3) zR (cs := #[.int .u64 a1_0, .int .u64 a1_1]) (t := 113) zG ?_; intro gb275 hg w21 hbox hb; obtain ⟨BK274, HB, BK275, GW275, GE275, NB274_275, NB275_274⟩ := zA7 (blk_below (zK BK274) hb) (below_step zB hb) hbox (zg hg zB) (zg hg zB) (zl hg (zK BK274)) (zr hg (zK BK274)); clear hb hbox hg) | ((with_reducible refine gate_dst (N := 4) rfl ?_); refine box_event zR (N := 4) zR (cs := #[.int .u64 0, .int .u64 0]) (t := 113) zG ?_; intro gb276 hg w22 hbox hb; obtain ⟨BK274, BK275, HB, BK276, GW276, GE276, NB274_276, NB276_274, NB275_276, NB276_275⟩ := zA10 (blk_below (zK BK274) hb) (blk_below (zK BK275) hb) (below_step zB hb) hbox (zg hg zB) (zg hg zB) (zl hg (zK BK274)) (zr hg (zK BK274)) (zl hg (zK BK275)) (zr hg (zK BK275)); clear hb hbox hg; have hnb23 := NB274_275.out; have hnc23 := NB275_274.out; have hnb24 := NB274_276.out; have hnc24 := NB276_274.out; obtain ⟨_, _⟩ := zC2 BK274.out; obtain ⟨_, _⟩ := zF2 BK274.out; have hnb26 := NB275_276.out; have hnc26 := NB276_275.out; obtain ⟨_, _⟩ := zC2 BK275.out; obtain ⟨_, _⟩ := zF2 BK275.out) | ((with_reducible refine gate_dst (N := 5) rfl ?_); refine box_event zR (N := 5) zR (cs := #[.int .u64 0, .int .u64 0]) (t := 113) zG ?_; intro gb277 hg w28 hbox hb; obtain ⟨BK274, BK275, BK276, HB, BK277, GW277, GE277, NB274_277, NB277_274, NB275_277, NB277_275, NB276_277, NB277_276⟩ := zA13 (blk_below (zK BK274) hb) (blk_below (zK BK275) hb) (blk_below (zK BK276) hb) (below_step zB hb) hbox (zg hg zB) (zg hg zB) (zl hg (zK BK274)) (zr hg (zK BK274)) (zl hg (zK BK275)) (zr hg (zK BK275)) (zl hg (zK BK276)) (zr hg (zK BK276)); clear hb hbox hg; have hnb29 := NB277_274.out; have hnc29 := NB274_277.out; have hnb30 := NB277_275.out; have hnc30 := NB275_277.out; have hnb31 := NB277_276.out; have hnc31 := NB276_277.out; obtain ⟨_, _⟩ := zC2 BK277.out; obtain ⟨_, _⟩ := zF2 BK277.out; obtain ⟨_, _⟩ := zC2 BK274.out; obtain ⟨_, _⟩ := zF2 BK274.out; obtain ⟨_, _⟩ := zC2 BK275.out; obtain ⟨_, _⟩ := zF2 BK275.out; obtain ⟨_, _⟩ := zC2 BK276.out; obtain ⟨_, _⟩ := zF2 BK276.out))
  refine bodyPost_ret (results_cell_row rfl _ _ gb276 113 #[.int .u64 (IntKind.u64.wrap (a0_0 - a1_0)), .int .u64 (IntKind.u64.wrap (a0_1 - a1_1))] (0, 0) _ rfl (by refine zD ?_; refine blk_put (cs := #[.int .u64 (IntKind.u64.wrap (a0_0 - a1_0)), .int .u64 0]) ?_ 1 _ rfl; refine zD ?_; refine blk_put (cs := #[.int .u64 0, .int .u64 0]) ?_ 0 _ rfl; refine zD ?_; refine blk_far ?_ NB276_277.out _; refine zD ?_; refine blk_far ?_ NB276_277.out _; refine zD ?_; exact BK276.out) Tryz.underlying113 rfl (by kernel_rfl)) rfl ?_
  exact ⟨zS, zB⟩
def smaltoref01_Less.f (a0_0 a0_1 a1_0 a1_1 : Int) : Option (Bool) := if a0_0 = a1_0 then (some (decide (a0_1 < a1_1))) else (some (decide (a0_0 < a1_0)))
set_option maxHeartbeats 8000000 in
set_option maxRecDepth 100000 in
theorem smaltoref01_Less.calls (a0_0 a0_1 a1_0 a1_1 : Int) (r : Bool) (w : World) (h : smaltoref01_Less.f a0_0 a0_1 a1_0 a1_1 = some r) :
  Calls Tryz.prog 91 #[.agg #[.int .u64 a0_0, .int .u64 a0_1], .agg #[.int .u64 a1_0, .int .u64 a1_1]] w fun e w' => e = .returned (.bool r) ∧ Below w.heap.size w w' := by
 have hu113 := Tryz.underlying113
 have HB := Aside0.mk (Below.refl w.heap.size w)
 have H := h
 clear h
 unfold smaltoref01_Less.f at H
 by_cases c3 : a0_0 = a1_0
 ·rw [if_pos c3] at H
  have c3b0 : (a0_0 == a1_0) = true := beq_iff_eq.mpr c3
  have c3b1 : (a0_0 != a1_0) = false := bne_eq_false_iff_eq.mpr c3
  clear c3
  obtain rfl := Option.some.inj H
  go_enter Tryz.func91, Tryz.ntmps91
  go_wp2_with (first | ((with_reducible refine gate_dst (N := 2) rfl ?_); refine box_event zR (N := 2) zR (cs := #[.int .u64 a0_0, .int .u64 a0_1]) (t := 113) zG ?_; intro gb278 hg w4 hbox hb; obtain ⟨HB, BK278, GW278, GE278⟩ := zA4 (below_step zB hb) hbox (zg hg zB) (zg hg zB); clear hb hbox hg) | ((with_reducible refine gate_dst (N := 3) rfl ?_); refine box_event zR (N := 3) zR (cs := #[.int .u64 a1_0, .int .u64 a1_1]) (t := 113) zG ?_; intro gb279 hg w5 hbox hb; obtain ⟨BK278, HB, BK279, GW279, GE279, NB278_279, NB279_278⟩ := zA7 (blk_below (zK BK278) hb) (below_step zB hb) hbox (zg hg zB) (zg hg zB) (zl hg (zK BK278)) (zr hg (zK BK278)); clear hb hbox hg; have hnb6 := NB278_279.out; have hnc6 := NB279_278.out; obtain ⟨_, _⟩ := zC2 BK278.out; obtain ⟨_, _⟩ := zF2 BK278.out; obtain ⟨_, _⟩ := zC2 BK279.out; obtain ⟨_, _⟩ := zF2 BK279.out))
  go_ret
  exact ⟨zS, zB⟩
 ·rw [if_neg c3] at H
  have c3b0 : (a0_0 == a1_0) = false := beq_eq_false_iff_ne.mpr c3
  have c3b1 : (a0_0 != a1_0) = true := bne_iff_ne.mpr c3
  obtain rfl := Option.some.inj H
  go_enter Tryz.func91, Tryz.ntmps91
  go_wp2_with (first | ((with_reducible refine gate_dst (N := 2) rfl ?_); refine box_event zR (N := 2) zR (cs := #[.int .u64 a0_0, .int .u64 a0_1]) (t := 113) zG ?_; intro gb278 hg w9 hbox hb; obtain ⟨HB, BK278, GW278, GE278⟩ := zA4 (below_step zB hb) hbox (zg hg zB) (zg hg zB); clear hb hbox hg) | ((with_reducible refine gate_dst (N := 3) rfl ?_); refine box_event zR (N := 3) zR (cs := #[.int .u64 a1_0, .int .u64 a1_1]) (t := 113) zG ?_; intro gb279 hg w10 hbox hb; obtain ⟨BK278, HB, BK279, GW279, GE279, NB278_279, NB279_278⟩ := zA7 (blk_below (zK BK278) hb) (below_step zB hb) hbox (zg hg zB) (zg hg zB) (zl hg (zK BK278)) (zr hg (zK BK278)); clear hb hbox hg; have hnb11 := NB278_279.out; have hnc11 := NB279_278.out; obtain ⟨_, _⟩ := zC2 BK278.out; obtain ⟨_, _⟩ := zF2 BK278.out; obtain ⟨_, _⟩ := zC2 BK279.out; obtain ⟨_, _⟩ := zF2 BK279.out))
  go_ret
  exact ⟨zS, zB⟩
end Go.Proofs.YtebipmdopdogkaaGreatDoor.QA

namespace Go.Proofs.YtebipmdopdogkaaGreatDoor.QA
open Go.Proofs.YtebipmdopdogkaaGreatDoor.T
open Go.RowKit Go.Proofs.YtebipmdopdogkaaGreatDoorW.PrintWords Go.Proofs.YtebipmdopdogkaaGreatDoorW.PrintLast Go.Proofs.YtebipmdopdogkaaGreatDoorW.PrintMore
attribute [local go_sem] ext_call max2_int min2_int max_two min_two
set_option linter.unusedVariables false
set_option linter.unusedSimpArgs false
def smaltoref01_Over.l0 : Nat → Int → Int → Int → Int → Int → Int → Int → Int → Option (Int × Int × Int)
 | 0, _, _, _, _, _, _, _, _ => none
 | k + 1, x1, x8, x281000, x281001, x283000, x283001, x284000, x284001 => if x8 ≥ 0 then ((smaltoref01_Bit.f x281000 x281001 x8).bind fun t284 => ((smaltoref01_Twice.f x284000 x284001 t284).bind fun bt285 => ((smaltoref01_Twice.f x283000 x283001 0).bind fun bt287 => ((smaltoref01_Less.f bt285.1 bt285.2 0 x1).bind fun t289 => (if t289 = true then (smaltoref01_Over.l0 k x1 (wrap64 (x8 - 1)) x281000 x281001 bt287.1 bt287.2 bt285.1 bt285.2) else ((smaltoref01_Minus.f bt285.1 bt285.2 0 x1).bind fun bt290 => (smaltoref01_Over.l0 k x1 (wrap64 (x8 - 1)) x281000 x281001 bt287.1 (IntKind.u64.wrap (bt287.2 + 1)) bt290.1 bt290.2))))))) else (some (x283000, x283001, x284001))
def smaltoref01_Over.f (k : Nat) (a0_0 a0_1 a1 : Int) : Option (Int × Int × Int) := if a1 = 0 then (some (0, 0, 0)) else (smaltoref01_Over.l0 k a1 127 a0_0 a0_1 0 0 0 0)
set_option maxHeartbeats 8000000 in
set_option maxRecDepth 100000 in
theorem smaltoref01_Over.calls (k : Nat) (a0_0 a0_1 a1 r1 r2 r3 : Int) (w : World) (h : smaltoref01_Over.f k a0_0 a0_1 a1 = some (r1, r2, r3)) :
  Calls Tryz.prog 85 #[.agg #[.int .u64 a0_0, .int .u64 a0_1], .int .u64 a1] w fun e w' => e = .returned (.tuple #[.agg #[.int .u64 r1, .int .u64 r2], .int .u64 r3]) ∧ Below w.heap.size w w' := by
 have hu113 := Tryz.underlying113
 have HB := Aside0.mk (Below.refl w.heap.size w)
 have H := h
 clear h
 unfold smaltoref01_Over.f at H
 by_cases c3 : a1 = 0
 ·rw [if_pos c3] at H
  have c3b0 : (a1 == 0) = true := beq_iff_eq.mpr c3
  have c3b1 : (a1 != 0) = false := bne_eq_false_iff_eq.mpr c3
  clear c3
  simp only [Option.some.injEq, Prod.mk.injEq] at H
  obtain ⟨rfl, rfl, rfl⟩ := H
  go_enter Tryz.func85, Tryz.ntmps85
  go_wp2_with (first | ((with_reducible refine gate_dst (N := 2) rfl ?_); refine box_event zR (N := 2) zR (cs := #[.int .u64 a0_0, .int .u64 a0_1]) (t := 113) zG ?_; intro gb280 hg w4 hbox hb; obtain ⟨HB, BK280, GW280, GE280⟩ := zA4 (below_step zB hb) hbox (zg hg zB) (zg hg zB); clear hb hbox hg) | ((with_reducible refine gate_dst (N := 4) rfl ?_); refine box_event zR (N := 4) zR (cs := #[.int .u64 0, .int .u64 0]) (t := 113) zG ?_; intro gb281 hg w5 hbox hb; obtain ⟨BK280, HB, BK281, GW281, GE281, NB280_281, NB281_280⟩ := zA7 (blk_below (zK BK280) hb) (below_step zB hb) hbox (zg hg zB) (zg hg zB) (zl hg (zK BK280)) (zr hg (zK BK280)); clear hb hbox hg) | ((with_reducible refine gate_dst (N := 6) rfl ?_); refine box_event zR (N := 6) zR (cs := #[.int .u64 0, .int .u64 0]) (t := 113) zG ?_; intro gb282 hg w6 hbox hb; obtain ⟨BK280, BK281, HB, BK282, GW282, GE282, NB280_282, NB282_280, NB281_282, NB282_281⟩ := zA10 (blk_below (zK BK280) hb) (blk_below (zK BK281) hb) (below_step zB hb) hbox (zg hg zB) (zg hg zB) (zl hg (zK BK280)) (zr hg (zK BK280)) (zl hg (zK BK281)) (zr hg (zK BK281)); clear hb hbox hg; have hnb7 := NB282_280.out; have hnc7 := NB280_282.out; have hnb8 := NB282_281.out; have hnc8 := NB281_282.out; obtain ⟨_, _⟩ := zC2 BK282.out; obtain ⟨_, _⟩ := zF2 BK282.out) | ((with_reducible refine gate_dst (N := 7) rfl ?_); refine box_event zR (N := 7) zR (cs := #[.int .u64 0, .int .u64 0]) (t := 113) zG ?_; intro gb283 hg w10 hbox hb; obtain ⟨BK280, BK281, BK282, HB, BK283, GW283, GE283, NB280_283, NB283_280, NB281_283, NB283_281, NB282_283, NB283_282⟩ := zA13 (blk_below (zK BK280) hb) (blk_below (zK BK281) hb) (blk_below (g := gb282) (o := .cells #[.int .u64 0, .int .u64 0] 113 (0, 0)) (by refine zD ?_; refine blk_put (cs := #[.int .u64 0, .int .u64 0]) ?_ 1 _ rfl; refine zD ?_; refine blk_put (cs := #[.int .u64 0, .int .u64 0]) ?_ 0 _ rfl; refine zD ?_; exact BK282.out) hb) (below_step zB hb) hbox (zg hg zB) (zg hg zB) (zl hg (zK BK280)) (zr hg (zK BK280)) (zl hg (zK BK281)) (zr hg (zK BK281)) ((by rw [hg]; exact Nat.ne_of_lt (blk_lt (g := gb282) (o := .cells #[.int .u64 0, .int .u64 0] 113 (0, 0)) (by refine zD ?_; refine blk_put (cs := #[.int .u64 0, .int .u64 0]) ?_ 1 _ rfl; refine zD ?_; refine blk_put (cs := #[.int .u64 0, .int .u64 0]) ?_ 0 _ rfl; refine zD ?_; exact BK282.out)) : gb282 ≠ gb283)) ((by rw [hg]; exact Nat.ne_of_gt (blk_lt (g := gb282) (o := .cells #[.int .u64 0, .int .u64 0] 113 (0, 0)) (by refine zD ?_; refine blk_put (cs := #[.int .u64 0, .int .u64 0]) ?_ 1 _ rfl; refine zD ?_; refine blk_put (cs := #[.int .u64 0, .int .u64 0]) ?_ 0 _ rfl; refine zD ?_; exact BK282.out)) : gb283 ≠ gb282)); clear hb hbox hg; have hnb11 := NB283_280.out; have hnc11 := NB280_283.out; have hnb12 := NB283_281.out; have hnc12 := NB281_283.out; have hnb13 := NB283_282.out; have hnc13 := NB282_283.out; obtain ⟨_, _⟩ := zC2 BK283.out; obtain ⟨_, _⟩ := zF2 BK283.out; obtain ⟨_, _⟩ := zC2 BK282.out; obtain ⟨_, _⟩ := zF2 BK282.out; have hnb16 := NB281_280.out; have hnc16 := NB280_281.out; obtain ⟨_, _⟩ := zC2 BK281.out; obtain ⟨_, _⟩ := zF2 BK281.out))
  refine bodyPost_ret (results_ct rfl _ _ gb281 113 #[.int .u64 0, .int .u64 0] (0, 0) _ rfl (by refine zD ?_; refine blk_put (cs := #[.int .u64 0, .int .u64 0]) ?_ 1 _ rfl; refine zD ?_; refine blk_put (cs := #[.int .u64 0, .int .u64 0]) ?_ 0 _ rfl; refine zD ?_; refine blk_far ?_ NB281_283.out _; refine zD ?_; refine blk_far ?_ NB281_283.out _; refine zD ?_; exact BK281.out) Tryz.underlying113 rfl (by kernel_rfl)) rfl ?_
  exact ⟨zS, zB⟩
 ·rw [if_neg c3] at H
  have c3b0 : (a1 == 0) = false := beq_eq_false_iff_ne.mpr c3
  have c3b1 : (a1 != 0) = true := bne_iff_ne.mpr c3
  have H' := Aside0.mk H
  clear H
  go_enter Tryz.func85, Tryz.ntmps85
  go_wp2_with (first | ((with_reducible refine gate_dst (N := 2) rfl ?_); refine box_event zR (N := 2) zR (cs := #[.int .u64 a0_0, .int .u64 a0_1]) (t := 113) zG ?_; intro gb280 hg w18 hbox hb; obtain ⟨HB, BK280, GW280, GE280⟩ := zA4 (below_step zB hb) hbox (zg hg zB) (zg hg zB); clear hb hbox hg) | ((with_reducible refine gate_dst (N := 4) rfl ?_); refine box_event zR (N := 4) zR (cs := #[.int .u64 0, .int .u64 0]) (t := 113) zG ?_; intro gb281 hg w19 hbox hb; obtain ⟨BK280, HB, BK281, GW281, GE281, NB280_281, NB281_280⟩ := zA7 (blk_below (zK BK280) hb) (below_step zB hb) hbox (zg hg zB) (zg hg zB) (zl hg (zK BK280)) (zr hg (zK BK280)); clear hb hbox hg) | ((with_reducible refine gate_dst (N := 6) rfl ?_); refine box_event zR (N := 6) zR (cs := #[.int .u64 0, .int .u64 0]) (t := 113) zG ?_; intro gb282 hg w20 hbox hb; obtain ⟨BK280, BK281, HB, BK282, GW282, GE282, NB280_282, NB282_280, NB281_282, NB282_281⟩ := zA10 (blk_below (zK BK280) hb) (blk_below (zK BK281) hb) (below_step zB hb) hbox (zg hg zB) (zg hg zB) (zl hg (zK BK280)) (zr hg (zK BK280)) (zl hg (zK BK281)) (zr hg (zK BK281)); clear hb hbox hg; have hnb21 := NB282_280.out; have hnc21 := NB280_282.out; have hnb22 := NB282_281.out; have hnc22 := NB281_282.out; obtain ⟨_, _⟩ := zC2 BK282.out; obtain ⟨_, _⟩ := zF2 BK282.out) | ((with_reducible refine gate_dst (N := 7) rfl ?_); refine box_event zR (N := 7) zR (cs := #[.int .u64 0, .int .u64 0]) (t := 113) zG ?_; intro gb283 hg w24 hbox hb; obtain ⟨BK280, BK281, BK282, HB, BK283, GW283, GE283, NB280_283, NB283_280, NB281_283, NB283_281, NB282_283, NB283_282⟩ := zA13 (blk_below (zK BK280) hb) (blk_below (zK BK281) hb) (blk_below (g := gb282) (o := .cells #[.int .u64 0, .int .u64 0] 113 (0, 0)) (by refine zD ?_; refine blk_put (cs := #[.int .u64 0, .int .u64 0]) ?_ 1 _ rfl; refine zD ?_; refine blk_put (cs := #[.int .u64 0, .int .u64 0]) ?_ 0 _ rfl; refine zD ?_; exact BK282.out) hb) (below_step zB hb) hbox (zg hg zB) (zg hg zB) (zl hg (zK BK280)) (zr hg (zK BK280)) (zl hg (zK BK281)) (zr hg (zK BK281)) ((by rw [hg]; exact Nat.ne_of_lt (blk_lt (g := gb282) (o := .cells #[.int .u64 0, .int .u64 0] 113 (0, 0)) (by refine zD ?_; refine blk_put (cs := #[.int .u64 0, .int .u64 0]) ?_ 1 _ rfl; refine zD ?_; refine blk_put (cs := #[.int .u64 0, .int .u64 0]) ?_ 0 _ rfl; refine zD ?_; exact BK282.out)) : gb282 ≠ gb283)) ((by rw [hg]; exact Nat.ne_of_gt (blk_lt (g := gb282) (o := .cells #[.int .u64 0, .int .u64 0] 113 (0, 0)) (by refine zD ?_; refine blk_put (cs := #[.int .u64 0, .int .u64 0]) ?_ 1 _ rfl; refine zD ?_; refine blk_put (cs := #[.int .u64 0, .int .u64 0]) ?_ 0 _ rfl; refine zD ?_; exact BK282.out)) : gb283 ≠ gb282)); clear hb hbox hg; have hnb25 := NB283_280.out; have hnc25 := NB280_283.out; have hnb26 := NB283_281.out; have hnc26 := NB281_283.out; have hnb27 := NB283_282.out; have hnc27 := NB282_283.out; obtain ⟨_, _⟩ := zC2 BK283.out; obtain ⟨_, _⟩ := zF2 BK283.out))
  go_loopg [8] k (fun kq v8 w' => ∃ (x8_1 : Int) (x283000_1 : Int) (x283001_1 : Int) (x284000_1 : Int) (x284001_1 : Int), v8 = .int .i64 x8_1 ∧ Aside0 (smaltoref01_Over.l0 kq a1 x8_1 a0_0 a0_1 x283000_1 x283001_1 x284000_1 x284001_1 = some (r1, r2, r3)) ∧ Aside0 (kq ≤ k) ∧ Aside0 (w'.heap[gb280]? = some (.cells #[.int .u64 a0_0, .int .u64 a0_1] 113 (0, 0))) ∧ Aside0 (w'.heap[gb281]? = some (.cells #[.int .u64 0, .int .u64 0] 113 (0, 0))) ∧ Aside0 (w'.heap[gb282]? = some (.cells #[.int .u64 x283000_1, .int .u64 x283001_1] 113 (0, 0))) ∧ Aside0 (w'.heap[gb283]? = some (.cells #[.int .u64 x284000_1, .int .u64 x284001_1] 113 (0, 0))) ∧ Aside0 (Below w.heap.size w w'))
  case atStart => exact ⟨(127), (0), (0), (0), (0), zT, H', ⟨Nat.le_refl _⟩, ⟨zK BK280⟩, ⟨zK BK281⟩, ⟨zK BK282⟩, ⟨by refine zD ?_; refine blk_put (cs := #[.int .u64 0, .int .u64 0]) ?_ 1 _ rfl; refine zD ?_; refine blk_put (cs := #[.int .u64 0, .int .u64 0]) ?_ 0 _ rfl; refine zD ?_; exact BK283.out⟩, ⟨zB⟩⟩
  case round =>
   clear H'
   obtain ⟨x8_1, x283000_1, x283001_1, x284000_1, x284001_1, rfl, HA, HK1, BK280, BK281, BK282, BK283, HB⟩ := hrel
   cases gk with
   | zero => exact absurd HA.out (by simp [smaltoref01_Over.l0])
   | succ k1 =>
    have H := HA.out
    clear HA
    simp only [smaltoref01_Over.l0] at H
    by_cases c29 : x8_1 ≥ 0
    ·rw [if_pos c29] at H
     have c29b0 := decide_eq_true c29
     clear c29
     replace H := zO H
     obtain ⟨t284, A30, H⟩ := H
     try dsimp only at H
     replace H := zO H
     obtain ⟨⟨t285, t286⟩, A31, H⟩ := H
     try dsimp only at H
     replace H := zO H
     obtain ⟨⟨t287, t288⟩, A32, H⟩ := H
     try dsimp only at H
     replace H := zO H
     obtain ⟨t289, A33, H⟩ := H
     try dsimp only at H
     by_cases c34 : t289 = true
     ·subst c34
      rw [if_pos rfl] at H; try dsimp only at H
      have H' := Aside0.mk H
      clear H
      try go_wp2
      obtain ⟨BK280, BK281, BK282, BK283, HB⟩ := zA5 (blk_drew BK280.out) (blk_drew BK281.out) (blk_drew BK282.out) (blk_drew BK283.out) (below_drew1 HB.out)
      refine start_ (n := 6) (S := fun w' => w'.cell? ⟨gb283, 0, none⟩ = some (.int .u64 x284000_1) ∧ w'.cell? ⟨gb283, 1, none⟩ = some (.int .u64 x284001_1) ∧ w'.cell? ⟨gb280, 0, none⟩ = some (.int .u64 a0_0) ∧ w'.cell? ⟨gb280, 1, none⟩ = some (.int .u64 a0_1)) (ds := [5]) #[false, false, false, false, false, false] (by kernel_rfl) rfl rfl ⟨(blk_cell BK283.out 0).trans rfl, (blk_cell BK283.out 1).trans rfl, (blk_cell BK280.out 0).trans rfl, (blk_cell BK280.out 1).trans rfl⟩ (fun hHeld => ?_)
      generalize wr.drew = w35 at BK280 BK281 BK282 BK283 HB hHeld ⊢
      refine pure_ (i := 2) (N := some 20) (v := ?_) (a' := ?_) #[false, false, true, false, false, false] rfl rfl (by kernel_rfl) (fun _ _ _ h => h) (Or.inl ⟨by rfl, ?_⟩) ?_ ?_
      rotate_left
      ·intro w'
       go_simp
       with_reducible rfl
      rotate_left
      ·simp only [Act.put, List.setIfInBounds_toArray, List.set_cons_zero, List.set_cons_succ, i64_w, i32_w]
       rfl
      refine take_ (i := 0) (N := some 18) (v := ?_) (a' := ?_) #[true, false, true, false, false, false] rfl rfl (by kernel_rfl) (fun _ _ _ h => h) (Or.inl ⟨by rfl, ?_⟩) hHeld ?_ ?_
      rotate_left
      ·rintro w' ⟨s0, s1, s2, s3⟩
       go_simp
       with_reducible rfl
      rotate_left
      ·simp only [Act.put, List.setIfInBounds_toArray, List.set_cons_zero, List.set_cons_succ, i64_w, i32_w]
       rfl
      refine take_ (i := 1) (N := some 19) (v := ?_) (a' := ?_) #[true, true, true, false, false, false] rfl rfl (by kernel_rfl) (fun _ _ _ h => h) (Or.inl ⟨by rfl, ?_⟩) hHeld ?_ ?_
      rotate_left
      ·rintro w' ⟨s0, s1, s2, s3⟩
       go_simp
       with_reducible rfl
      rotate_left
      ·simp only [Act.put, List.setIfInBounds_toArray, List.set_cons_zero, List.set_cons_succ, i64_w, i32_w]
       rfl
      refine one_ (i := 3) (N := some 21) #[true, true, true, true, false, false] rfl rfl (by kernel_rfl) (by decide) (fun K hK => ?_)
      refine goes_ Tryz.func89 (by kernel_rfl) rfl #[.agg #[.int .u64 a0_0, .int .u64 a0_1], .int .i64 x8_1] (by rfl) rfl rfl zL ?_
      with_reducible refine (smaltoref01_Bit.calls a0_0 a0_1 x8_1 t284 _ A30.out).mono ?_
      rintro e w36 ⟨rfl, hb⟩
      refine ⟨_, rfl, ?_⟩
      obtain ⟨BK280, BK281, BK282, BK283, HB⟩ := zA5 (blk_below (zK BK280) hb) (blk_below (zK BK281) hb) (blk_below (zK BK282) hb) (blk_below (zK BK283) hb) (below_step zB hb)
      (try clear hb)
      (try clear hb2)
      (try clear hk)
      (try clear hi)
      refine hK.out _ _ ⟨(blk_cell BK283.out 0).trans rfl, (blk_cell BK283.out 1).trans rfl, (blk_cell BK280.out 0).trans rfl, (blk_cell BK280.out 1).trans rfl⟩ (fun hHeld => ?_)
      clear hK K
      refine norm_ (a' := ?_) ?_ ?_
      rotate_left
      ·show Act.put _ (some 21) _ = _
       simp only [Act.put, List.setIfInBounds_toArray, List.set_cons_zero, List.set_cons_succ, i64_w, i32_w]
       rfl
      refine one_ (i := 4) (N := some 22) #[true, true, true, true, true, false] rfl rfl (by kernel_rfl) (by decide) (fun K hK => ?_)
      refine goes_ Tryz.func88 (by kernel_rfl) rfl #[.agg #[.int .u64 x284000_1, .int .u64 x284001_1], .int .u64 t284] (by rfl) rfl rfl zL ?_
      with_reducible refine (smaltoref01_Twice.calls x284000_1 x284001_1 t284 t285 t286 _ A31.out).mono ?_
      rintro e w37 ⟨rfl, hb⟩
      refine ⟨_, rfl, ?_⟩
      obtain ⟨BK280, BK281, BK282, BK283, HB⟩ := zA5 (blk_below (zK BK280) hb) (blk_below (zK BK281) hb) (blk_below (zK BK282) hb) (blk_below (zK BK283) hb) (below_step zB hb)
      (try clear hb)
      (try clear hb2)
      (try clear hk)
      (try clear hi)
      refine hK.out _ _ ⟨(blk_cell BK283.out 0).trans rfl, (blk_cell BK283.out 1).trans rfl, (blk_cell BK280.out 0).trans rfl, (blk_cell BK280.out 1).trans rfl⟩ (fun hHeld => ?_)
      clear hK K
      refine norm_ (a' := ?_) ?_ ?_
      rotate_left
      ·show Act.put _ (some 22) _ = _
       simp only [Act.put, List.setIfInBounds_toArray, List.set_cons_zero, List.set_cons_succ, i64_w, i32_w]
       rfl
      refine last_ (i := 5) (N := none) #[true, true, true, true, true, true] rfl rfl (by kernel_rfl) (by decide) (fun K hK => ?_)
      have hs38 : w37.cell? ⟨gb283, 0, none⟩ = some (.int .u64 x284000_1) := (blk_cell BK283.out 0).trans rfl
      have hfs38 := blk_frozen BK283.out 0
      have hns38_0 := NB280_283.out
      have hns38_1 := NB281_283.out
      have hns38_2 := NB282_283.out
      have hms38_0 := NB283_280.out
      have hms38_1 := NB283_281.out
      have hms38_2 := NB283_282.out
      have hs39 : w37.cell? ⟨gb283, 1, none⟩ = some (.int .u64 x284001_1) := (blk_cell BK283.out 1).trans rfl
      have hfs39 := blk_frozen BK283.out 1
      have hns39_0 := NB280_283.out
      have hns39_1 := NB281_283.out
      have hns39_2 := NB282_283.out
      have hms39_0 := NB283_280.out
      have hms39_1 := NB283_281.out
      have hms39_2 := NB283_282.out
      refine skip_ (w1 := ?_) (by rfl) rfl ?_ ?_
      rotate_left
      ·go_simp
       rfl
      refine hK.out _ _ ?_
      clear hK K
      refine done_ (by kernel_rfl) ?_
      have hnb40 := NB282_280.out
      have hnc40 := NB280_282.out
      have hnb41 := NB282_281.out
      have hnc41 := NB281_282.out
      have hnb42 := NB282_283.out
      have hnc42 := NB283_282.out
      obtain ⟨_, _⟩ := zC2 BK282.out
      obtain ⟨_, _⟩ := zF2 BK282.out
      try go_wp2_with (first | ((with_reducible refine gate_callee (f := 88) rfl ?_); refine goesL_ (some 24) rfl rfl Tryz.func88 (by kernel_rfl) rfl #[.agg #[.int .u64 x283000_1, .int .u64 x283001_1], .int .u64 0] rfl zL ?_; (with_reducible refine (smaltoref01_Twice.calls x283000_1 x283001_1 0 t287 t288 _ A32.out).mono ?_); rintro e w44 ⟨rfl, hb⟩; refine ⟨_, rfl, ?_⟩; obtain ⟨BK280, BK281, BK282, BK283, HB⟩ := zA5 (blk_below (zK BK280) hb) (blk_below (zK BK281) hb) (blk_below (zK BK282) hb) (blk_below (g := gb283) (o := .cells #[.int .u64 t285, .int .u64 t286] 113 (0, 0)) (by refine zD ?_; refine blk_put (cs := #[.int .u64 t285, .int .u64 x284001_1]) ?_ 1 _ rfl; refine zD ?_; refine blk_put (cs := #[.int .u64 x284000_1, .int .u64 x284001_1]) ?_ 0 _ rfl; refine zD ?_; exact BK283.out) hb) (below_step zB hb); (try clear hb); obtain ⟨_, _⟩ := zC2 BK282.out; obtain ⟨_, _⟩ := zF2 BK282.out; have hnb46 := NB283_280.out; have hnc46 := NB280_283.out; have hnb47 := NB283_281.out; have hnc47 := NB281_283.out; obtain ⟨_, _⟩ := zC2 BK283.out; obtain ⟨_, _⟩ := zF2 BK283.out) | ((with_reducible refine gate_callee (f := 91) rfl ?_); refine goesL_ (some 28) rfl rfl Tryz.func91 (by kernel_rfl) rfl #[.agg #[.int .u64 t285, .int .u64 t286], .agg #[.int .u64 0, .int .u64 a1]] rfl zL ?_; (with_reducible refine (smaltoref01_Less.calls t285 t286 0 a1 true _ A33.out).mono ?_); rintro e w49 ⟨rfl, hb⟩; refine ⟨_, rfl, ?_⟩; obtain ⟨BK280, BK281, BK282, BK283, HB⟩ := zA5 (blk_below (zK BK280) hb) (blk_below (zK BK281) hb) (blk_below (g := gb282) (o := .cells #[.int .u64 t287, .int .u64 t288] 113 (0, 0)) (by refine zD ?_; refine blk_put (cs := #[.int .u64 t287, .int .u64 x283001_1]) ?_ 1 _ rfl; refine zD ?_; refine blk_put (cs := #[.int .u64 x283000_1, .int .u64 x283001_1]) ?_ 0 _ rfl; refine zD ?_; exact BK282.out) hb) (blk_below (zK BK283) hb) (below_step zB hb); (try clear hb)))
      go_roundg k1
      case measure => have := HK1.out; omega
      case rel => exact ⟨(wrap64 (x8_1 - 1)), (t287), (t288), (t285), (t286), zT, H', ⟨by have := HK1.out; omega⟩, ⟨zK BK280⟩, ⟨zK BK281⟩, ⟨zK BK282⟩, ⟨zK BK283⟩, ⟨zB⟩⟩
     ·replace c34 := Bool.eq_false_iff.mpr c34
      subst c34
      rw [if_neg (show ¬ (false = true) by decide)] at H; try dsimp only at H
      replace H := zO H
      obtain ⟨⟨t290, t291⟩, A50, H⟩ := H
      try dsimp only at H
      have H' := Aside0.mk H
      clear H
      try go_wp2
      obtain ⟨BK280, BK281, BK282, BK283, HB⟩ := zA5 (blk_drew BK280.out) (blk_drew BK281.out) (blk_drew BK282.out) (blk_drew BK283.out) (below_drew1 HB.out)
      refine start_ (n := 6) (S := fun w' => w'.cell? ⟨gb283, 0, none⟩ = some (.int .u64 x284000_1) ∧ w'.cell? ⟨gb283, 1, none⟩ = some (.int .u64 x284001_1) ∧ w'.cell? ⟨gb280, 0, none⟩ = some (.int .u64 a0_0) ∧ w'.cell? ⟨gb280, 1, none⟩ = some (.int .u64 a0_1)) (ds := [5]) #[false, false, false, false, false, false] (by kernel_rfl) rfl rfl ⟨(blk_cell BK283.out 0).trans rfl, (blk_cell BK283.out 1).trans rfl, (blk_cell BK280.out 0).trans rfl, (blk_cell BK280.out 1).trans rfl⟩ (fun hHeld => ?_)
      generalize wr.drew = w51 at BK280 BK281 BK282 BK283 HB hHeld ⊢
      refine pure_ (i := 2) (N := some 20) (v := ?_) (a' := ?_) #[false, false, true, false, false, false] rfl rfl (by kernel_rfl) (fun _ _ _ h => h) (Or.inl ⟨by rfl, ?_⟩) ?_ ?_
      rotate_left
      ·intro w'
       go_simp
       with_reducible rfl
      rotate_left
      ·simp only [Act.put, List.setIfInBounds_toArray, List.set_cons_zero, List.set_cons_succ, i64_w, i32_w]
       rfl
      refine take_ (i := 0) (N := some 18) (v := ?_) (a' := ?_) #[true, false, true, false, false, false] rfl rfl (by kernel_rfl) (fun _ _ _ h => h) (Or.inl ⟨by rfl, ?_⟩) hHeld ?_ ?_
      rotate_left
      ·rintro w' ⟨s0, s1, s2, s3⟩
       go_simp
       with_reducible rfl
      rotate_left
      ·simp only [Act.put, List.setIfInBounds_toArray, List.set_cons_zero, List.set_cons_succ, i64_w, i32_w]
       rfl
      refine take_ (i := 1) (N := some 19) (v := ?_) (a' := ?_) #[true, true, true, false, false, false] rfl rfl (by kernel_rfl) (fun _ _ _ h => h) (Or.inl ⟨by rfl, ?_⟩) hHeld ?_ ?_
      rotate_left
      ·rintro w' ⟨s0, s1, s2, s3⟩
       go_simp
       with_reducible rfl
      rotate_left
      ·simp only [Act.put, List.setIfInBounds_toArray, List.set_cons_zero, List.set_cons_succ, i64_w, i32_w]
       rfl
      refine one_ (i := 3) (N := some 21) #[true, true, true, true, false, false] rfl rfl (by kernel_rfl) (by decide) (fun K hK => ?_)
      refine goes_ Tryz.func89 (by kernel_rfl) rfl #[.agg #[.int .u64 a0_0, .int .u64 a0_1], .int .i64 x8_1] (by rfl) rfl rfl zL ?_
      with_reducible refine (smaltoref01_Bit.calls a0_0 a0_1 x8_1 t284 _ A30.out).mono ?_
      rintro e w52 ⟨rfl, hb⟩
      refine ⟨_, rfl, ?_⟩
      obtain ⟨BK280, BK281, BK282, BK283, HB⟩ := zA5 (blk_below (zK BK280) hb) (blk_below (zK BK281) hb) (blk_below (zK BK282) hb) (blk_below (zK BK283) hb) (below_step zB hb)
      (try clear hb)
      (try clear hb2)
      (try clear hk)
      (try clear hi)
      refine hK.out _ _ ⟨(blk_cell BK283.out 0).trans rfl, (blk_cell BK283.out 1).trans rfl, (blk_cell BK280.out 0).trans rfl, (blk_cell BK280.out 1).trans rfl⟩ (fun hHeld => ?_)
      clear hK K
      refine norm_ (a' := ?_) ?_ ?_
      rotate_left
      ·show Act.put _ (some 21) _ = _
       simp only [Act.put, List.setIfInBounds_toArray, List.set_cons_zero, List.set_cons_succ, i64_w, i32_w]
       rfl
      refine one_ (i := 4) (N := some 22) #[true, true, true, true, true, false] rfl rfl (by kernel_rfl) (by decide) (fun K hK => ?_)
      refine goes_ Tryz.func88 (by kernel_rfl) rfl #[.agg #[.int .u64 x284000_1, .int .u64 x284001_1], .int .u64 t284] (by rfl) rfl rfl zL ?_
      with_reducible refine (smaltoref01_Twice.calls x284000_1 x284001_1 t284 t285 t286 _ A31.out).mono ?_
      rintro e w53 ⟨rfl, hb⟩
      refine ⟨_, rfl, ?_⟩
      obtain ⟨BK280, BK281, BK282, BK283, HB⟩ := zA5 (blk_below (zK BK280) hb) (blk_below (zK BK281) hb) (blk_below (zK BK282) hb) (blk_below (zK BK283) hb) (below_step zB hb)
      (try clear hb)
      (try clear hb2)
      (try clear hk)
      (try clear hi)
      refine hK.out _ _ ⟨(blk_cell BK283.out 0).trans rfl, (blk_cell BK283.out 1).trans rfl, (blk_cell BK280.out 0).trans rfl, (blk_cell BK280.out 1).trans rfl⟩ (fun hHeld => ?_)
      clear hK K
      refine norm_ (a' := ?_) ?_ ?_
      rotate_left
      ·show Act.put _ (some 22) _ = _
       simp only [Act.put, List.setIfInBounds_toArray, List.set_cons_zero, List.set_cons_succ, i64_w, i32_w]
       rfl
      refine last_ (i := 5) (N := none) #[true, true, true, true, true, true] rfl rfl (by kernel_rfl) (by decide) (fun K hK => ?_)
      have hs54 : w53.cell? ⟨gb283, 0, none⟩ = some (.int .u64 x284000_1) := (blk_cell BK283.out 0).trans rfl
      have hfs54 := blk_frozen BK283.out 0
      have hns54_0 := NB280_283.out
      have hns54_1 := NB281_283.out
      have hns54_2 := NB282_283.out
      have hms54_0 := NB283_280.out
      have hms54_1 := NB283_281.out
      have hms54_2 := NB283_282.out
      have hs55 : w53.cell? ⟨gb283, 1, none⟩ = some (.int .u64 x284001_1) := (blk_cell BK283.out 1).trans rfl
      have hfs55 := blk_frozen BK283.out 1
      have hns55_0 := NB280_283.out
      have hns55_1 := NB281_283.out
      have hns55_2 := NB282_283.out
      have hms55_0 := NB283_280.out
      have hms55_1 := NB283_281.out
      have hms55_2 := NB283_282.out
      refine skip_ (w1 := ?_) (by rfl) rfl ?_ ?_
      rotate_left
      ·go_simp
       rfl
      refine hK.out _ _ ?_
      clear hK K
      refine done_ (by kernel_rfl) ?_
      have hnb56 := NB282_280.out
      have hnc56 := NB280_282.out
      have hnb57 := NB282_281.out
      have hnc57 := NB281_282.out
      have hnb58 := NB282_283.out
      have hnc58 := NB283_282.out
      obtain ⟨_, _⟩ := zC2 BK282.out
      obtain ⟨_, _⟩ := zF2 BK282.out
      try go_wp2_with (first | ((with_reducible refine gate_callee (f := 88) rfl ?_); refine goesL_ (some 24) rfl rfl Tryz.func88 (by kernel_rfl) rfl #[.agg #[.int .u64 x283000_1, .int .u64 x283001_1], .int .u64 0] rfl zL ?_; (with_reducible refine (smaltoref01_Twice.calls x283000_1 x283001_1 0 t287 t288 _ A32.out).mono ?_); rintro e w60 ⟨rfl, hb⟩; refine ⟨_, rfl, ?_⟩; obtain ⟨BK280, BK281, BK282, BK283, HB⟩ := zA5 (blk_below (zK BK280) hb) (blk_below (zK BK281) hb) (blk_below (zK BK282) hb) (blk_below (g := gb283) (o := .cells #[.int .u64 t285, .int .u64 t286] 113 (0, 0)) (by refine zD ?_; refine blk_put (cs := #[.int .u64 t285, .int .u64 x284001_1]) ?_ 1 _ rfl; refine zD ?_; refine blk_put (cs := #[.int .u64 x284000_1, .int .u64 x284001_1]) ?_ 0 _ rfl; refine zD ?_; exact BK283.out) hb) (below_step zB hb); (try clear hb); obtain ⟨_, _⟩ := zC2 BK282.out; obtain ⟨_, _⟩ := zF2 BK282.out; have hnb62 := NB283_280.out; have hnc62 := NB280_283.out; have hnb63 := NB283_281.out; have hnc63 := NB281_283.out; obtain ⟨_, _⟩ := zC2 BK283.out; obtain ⟨_, _⟩ := zF2 BK283.out) | ((with_reducible refine gate_callee (f := 91) rfl ?_); refine goesL_ (some 28) rfl rfl Tryz.func91 (by kernel_rfl) rfl #[.agg #[.int .u64 t285, .int .u64 t286], .agg #[.int .u64 0, .int .u64 a1]] rfl zL ?_; (with_reducible refine (smaltoref01_Less.calls t285 t286 0 a1 false _ A33.out).mono ?_); rintro e w65 ⟨rfl, hb⟩; refine ⟨_, rfl, ?_⟩; obtain ⟨BK280, BK281, BK282, BK283, HB⟩ := zA5 (blk_below (zK BK280) hb) (blk_below (zK BK281) hb) (blk_below (g := gb282) (o := .cells #[.int .u64 t287, .int .u64 t288] 113 (0, 0)) (by refine zD ?_; refine blk_put (cs := #[.int .u64 t287, .int .u64 x283001_1]) ?_ 1 _ rfl; refine zD ?_; refine blk_put (cs := #[.int .u64 x283000_1, .int .u64 x283001_1]) ?_ 0 _ rfl; refine zD ?_; exact BK282.out) hb) (blk_below (zK BK283) hb) (below_step zB hb); (try clear hb); obtain ⟨_, _⟩ := zC2 BK283.out; obtain ⟨_, _⟩ := zF2 BK283.out) | ((with_reducible refine gate_callee (f := 90) rfl ?_); refine goesL_ (some 33) rfl rfl Tryz.func90 (by kernel_rfl) rfl #[.agg #[.int .u64 t285, .int .u64 t286], .agg #[.int .u64 0, .int .u64 a1]] rfl zL ?_; (with_reducible refine (smaltoref01_Minus.calls t285 t286 0 a1 t290 t291 _ A50.out).mono ?_); rintro e w67 ⟨rfl, hb⟩; refine ⟨_, rfl, ?_⟩; obtain ⟨BK280, BK281, BK282, BK283, HB⟩ := zA5 (blk_below (zK BK280) hb) (blk_below (zK BK281) hb) (blk_below (zK BK282) hb) (blk_below (zK BK283) hb) (below_step zB hb); (try clear hb); obtain ⟨_, _⟩ := zC2 BK283.out; obtain ⟨_, _⟩ := zF2 BK283.out; obtain ⟨_, _⟩ := zC2 BK282.out; obtain ⟨_, _⟩ := zF2 BK282.out))
      go_roundg k1
      case measure => have := HK1.out; omega
      case rel => exact ⟨(wrap64 (x8_1 - 1)), (t287), (IntKind.u64.wrap (t288 + 1)), (t290), (t291), zT, H', ⟨by have := HK1.out; omega⟩, ⟨zK BK280⟩, ⟨zK BK281⟩, ⟨by refine zD ?_; refine blk_put (cs := #[.int .u64 t287, .int .u64 t288]) ?_ 1 _ rfl; refine zD ?_; refine blk_far ?_ NB282_283.out _; refine zD ?_; refine blk_far ?_ NB282_283.out _; refine zD ?_; exact BK282.out⟩, ⟨by refine zD ?_; refine blk_far ?_ NB283_282.out _; refine zD ?_; refine blk_put (cs := #[.int .u64 t290, .int .u64 t286]) ?_ 1 _ rfl; refine zD ?_; refine blk_put (cs := #[.int .u64 t285, .int .u64 t286]) ?_ 0 _ rfl; refine zD ?_; exact BK283.out⟩, ⟨zB⟩⟩
    ·rw [if_neg c29] at H
     have c29b0 := decide_eq_false c29
     clear c29
     simp only [Option.some.injEq, Prod.mk.injEq] at H
     obtain ⟨rfl, rfl, rfl⟩ := H
     try go_wp2
     obtain ⟨BK280, BK281, BK282, BK283, HB⟩ := zA5 (blk_drew BK280.out) (blk_drew BK281.out) (blk_drew BK282.out) (blk_drew BK283.out) (below_drew1 HB.out)
     refine start_ (n := 5) (S := fun w' => w'.cell? ⟨gb282, 0, none⟩ = some (.int .u64 x283000_1) ∧ w'.cell? ⟨gb282, 1, none⟩ = some (.int .u64 x283001_1) ∧ w'.cell? ⟨gb283, 0, none⟩ = some (.int .u64 x284000_1) ∧ w'.cell? ⟨gb283, 1, none⟩ = some (.int .u64 x284001_1)) (ds := []) #[false, false, false, false, false] (by kernel_rfl) rfl rfl ⟨(blk_cell BK282.out 0).trans rfl, (blk_cell BK282.out 1).trans rfl, (blk_cell BK283.out 0).trans rfl, (blk_cell BK283.out 1).trans rfl⟩ (fun hHeld => ?_)
     generalize wr.drew = w70 at BK280 BK281 BK282 BK283 HB hHeld ⊢
     refine pure_ (i := 1) (N := some 39) (v := ?_) (a' := ?_) #[false, true, false, false, false] rfl rfl (by kernel_rfl) (fun _ _ _ h => h) (Or.inl ⟨by rfl, ?_⟩) ?_ ?_
     rotate_left
     ·intro w'
      go_simp
      with_reducible rfl
     rotate_left
     ·simp only [Act.put, List.setIfInBounds_toArray, List.set_cons_zero, List.set_cons_succ, i64_w, i32_w]
      rfl
     refine take_ (i := 0) (N := some 38) (v := ?_) (a' := ?_) #[true, true, false, false, false] rfl rfl (by kernel_rfl) (fun _ _ _ h => h) (Or.inl ⟨by rfl, ?_⟩) hHeld ?_ ?_
     rotate_left
     ·rintro w' ⟨s0, s1, s2, s3⟩
      go_simp
      with_reducible rfl
     rotate_left
     ·simp only [Act.put, List.setIfInBounds_toArray, List.set_cons_zero, List.set_cons_succ, i64_w, i32_w]
      rfl
     refine take_ (i := 2) (N := some 40) (v := ?_) (a' := ?_) #[true, true, true, false, false] rfl rfl (by kernel_rfl) (fun _ _ _ h => h) (Or.inl ⟨by rfl, ?_⟩) hHeld ?_ ?_
     rotate_left
     ·rintro w' ⟨s0, s1, s2, s3⟩
      go_simp
      with_reducible rfl
     rotate_left
     ·simp only [Act.put, List.setIfInBounds_toArray, List.set_cons_zero, List.set_cons_succ, i64_w, i32_w]
      rfl
     refine one_ (i := 3) (N := none) #[true, true, true, true, false] rfl rfl (by kernel_rfl) (by decide) (fun K hK => ?_)
     have hs71 : w70.cell? ⟨gb281, 0, none⟩ = some (.int .u64 0) := (blk_cell BK281.out 0).trans rfl
     have hfs71 := blk_frozen BK281.out 0
     have hns71_0 := NB280_281.out
     have hns71_2 := NB282_281.out
     have hns71_3 := NB283_281.out
     have hms71_0 := NB281_280.out
     have hms71_2 := NB281_282.out
     have hms71_3 := NB281_283.out
     have hs72 : w70.cell? ⟨gb281, 1, none⟩ = some (.int .u64 0) := (blk_cell BK281.out 1).trans rfl
     have hfs72 := blk_frozen BK281.out 1
     have hns72_0 := NB280_281.out
     have hns72_2 := NB282_281.out
     have hns72_3 := NB283_281.out
     have hms72_0 := NB281_280.out
     have hms72_2 := NB281_282.out
     have hms72_3 := NB281_283.out
     refine skip_ (w1 := ?_) (by rfl) rfl ?_ ?_
     rotate_left
     ·go_simp
      rfl
     refine hK.out _ _ ⟨((cell_far (p := ⟨gb281, _, none⟩) NB282_281.out _).trans (((cell_far (p := ⟨gb281, _, none⟩) NB282_281.out _).trans (hHeld.1)))), ((cell_far (p := ⟨gb281, _, none⟩) NB282_281.out _).trans (((cell_far (p := ⟨gb281, _, none⟩) NB282_281.out _).trans (hHeld.2.1)))), ((cell_far (p := ⟨gb281, _, none⟩) NB283_281.out _).trans (((cell_far (p := ⟨gb281, _, none⟩) NB283_281.out _).trans (hHeld.2.2.1)))), ((cell_far (p := ⟨gb281, _, none⟩) NB283_281.out _).trans (((cell_far (p := ⟨gb281, _, none⟩) NB283_281.out _).trans (hHeld.2.2.2))))⟩ (fun hHeld => ?_)
     clear hK K
     refine pure_ (i := 4) (N := some 5) (v := ?_) (a' := ?_) #[true, true, true, true, true] rfl rfl (by kernel_rfl) (fun _ _ _ h => h) (Or.inl ⟨by rfl, ?_⟩) ?_ ?_
     rotate_left
     ·intro w'
      go_simp
      with_reducible rfl
     rotate_left
     ·simp only [Act.put, List.setIfInBounds_toArray, List.set_cons_zero, List.set_cons_succ, i64_w, i32_w]
      rfl
     refine done_ (by kernel_rfl) ?_
     try go_wp2
     refine bodyPost_ret (results_ct rfl _ _ gb281 113 #[.int .u64 x283000_1, .int .u64 x283001_1] (0, 0) _ rfl (by refine zD ?_; refine blk_put (cs := #[.int .u64 x283000_1, .int .u64 0]) ?_ 1 _ rfl; refine zD ?_; refine blk_put (cs := #[.int .u64 0, .int .u64 0]) ?_ 0 _ rfl; refine zD ?_; exact BK281.out) Tryz.underlying113 rfl (by kernel_rfl)) rfl ?_
     exact ⟨zS, zB⟩
end Go.Proofs.YtebipmdopdogkaaGreatDoor.QA

namespace Go.Proofs.YtebipmdopdogkaaGreatDoor.QA
open Go.Proofs.YtebipmdopdogkaaGreatDoor.T
open Go.RowKit Go.Proofs.YtebipmdopdogkaaGreatDoorW.PrintWords Go.Proofs.YtebipmdopdogkaaGreatDoorW.PrintLast Go.Proofs.YtebipmdopdogkaaGreatDoorW.PrintMore
attribute [local go_sem] ext_call max2_int min2_int max_two min_two
set_option linter.unusedVariables false
set_option linter.unusedSimpArgs false
def smaltoref01_Hold.j0 : Nat → Bool → Int → Int → Option (Int)
 | 0, _, _, _ => none
 | k + 1, x13, x293000, x293001 => if x13 = true then (some (-9223372036854775808)) else (some (wrap64 (-(wrap64 (x293001)))))
def smaltoref01_Hold.f (k : Nat) (a0_0 a0_1 : Int) (a1 : Bool) : Option (Int) := if a1 = true then (if a0_0 > 0 then (smaltoref01_Hold.j0 k true a0_0 a0_1) else (smaltoref01_Hold.j0 k (decide (a0_1 > 9223372036854775807)) a0_0 a0_1)) else (if a0_0 > 0 then (some 9223372036854775807) else (if a0_1 > 9223372036854775807 then (some 9223372036854775807) else (some (wrap64 (a0_1)))))
set_option maxHeartbeats 8000000 in
set_option maxRecDepth 100000 in
theorem smaltoref01_Hold.calls (k : Nat) (a0_0 a0_1 : Int) (a1 : Bool) (r : Int) (w : World) (h : smaltoref01_Hold.f k a0_0 a0_1 a1 = some r) :
  Calls Tryz.prog 87 #[.agg #[.int .u64 a0_0, .int .u64 a0_1], .bool a1] w fun e w' => e = .returned (.int .i64 r) ∧ Below w.heap.size w w' := by
 have hu113 := Tryz.underlying113
 have HB := Aside0.mk (Below.refl w.heap.size w)
 have H := h
 clear h
 unfold smaltoref01_Hold.f at H
 by_cases c3 : a1 = true
 ·subst c3
  rw [if_pos rfl] at H; try dsimp only at H
  have HC4 := Aside0.mk H
  clear H
  go_enter Tryz.func87, Tryz.ntmps87
  go_upto_region 2 with (first | ((with_reducible refine gate_dst (N := 2) rfl ?_); refine box_event zR (N := 2) zR (cs := #[.int .u64 a0_0, .int .u64 a0_1]) (t := 113) zG ?_; intro gb292 hg w5 hbox hb; obtain ⟨HB, BK292, GW292, GE292⟩ := zA4 (below_step zB hb) hbox (zg hg zB) (zg hg zB); clear hb hbox hg))
  (try simp only [Act.put, List.setIfInBounds_toArray, List.set_cons_zero, List.set_cons_succ])
  go_cut [13] (fun v13 wc => ∃ (kq : Nat) (x13_3 : Bool), v13 = .bool x13_3 ∧ Aside0 (smaltoref01_Hold.j0 kq x13_3 a0_0 a0_1 = some r) ∧ Aside0 (kq ≤ k) ∧ Aside0 (wc.heap[gb292]? = some (.cells #[.int .u64 a0_0, .int .u64 a0_1] 113 (0, 0))) ∧ Aside0 (Below w.heap.size w wc))
  case first =>
   have H := HC4.out
   clear HC4
   by_cases c6 : a0_0 > 0
   ·rw [if_pos c6] at H
    have c6b0 := decide_eq_true c6
    clear c6
    (first | rw [c6b0] | (simp only [i64_w, i32_w]; rw [c6b0]) | skip)
    have H' := Aside0.mk H
    clear H
    obtain ⟨_, _⟩ := zC2 BK292.out
    obtain ⟨_, _⟩ := zF2 BK292.out
    go_wp2
    go_meet
    case rel => exact ⟨_, (true), zT, H', ⟨by first | omega | exact Nat.le_refl _⟩, ⟨zK BK292⟩, ⟨zB⟩⟩
   ·rw [if_neg c6] at H
    have c6b0 := decide_eq_false c6
    clear c6
    (first | rw [c6b0] | (simp only [i64_w, i32_w]; rw [c6b0]) | skip)
    have H' := Aside0.mk H
    clear H
    obtain ⟨_, _⟩ := zC2 BK292.out
    obtain ⟨_, _⟩ := zF2 BK292.out
    go_wp2
    go_meet
    case rel => exact ⟨_, (decide (a0_1 > 9223372036854775807)), zT, H', ⟨by first | omega | exact Nat.le_refl _⟩, ⟨zK BK292⟩, ⟨zB⟩⟩
  case rest =>
   clear HC4
   obtain ⟨kq, x13_3, rfl, HA, HJ3, BK292, HB⟩ := hcut
   cases kq with
   | zero => exact absurd HA.out (by simp [smaltoref01_Hold.j0])
   | succ kj3 =>
    have H := HA.out
    clear HA
    simp only [smaltoref01_Hold.j0] at H
    by_cases c9 : x13_3 = true
    ·subst c9
     rw [if_pos rfl] at H; try dsimp only at H
     obtain rfl := Option.some.inj H
     go_wp2
     go_ret
     exact ⟨zS, zB⟩
    ·replace c9 := Bool.eq_false_iff.mpr c9
     subst c9
     rw [if_neg (show ¬ (false = true) by decide)] at H; try dsimp only at H
     obtain rfl := Option.some.inj H
     obtain ⟨_, _⟩ := zC2 BK292.out
     obtain ⟨_, _⟩ := zF2 BK292.out
     go_wp2
     go_ret
     exact ⟨zS, zB⟩
 ·replace c3 := Bool.eq_false_iff.mpr c3
  subst c3
  rw [if_neg (show ¬ (false = true) by decide)] at H; try dsimp only at H
  by_cases c11 : a0_0 > 0
  ·rw [if_pos c11] at H
   have c11b0 := decide_eq_true c11
   clear c11
   obtain rfl := Option.some.inj H
   go_enter Tryz.func87, Tryz.ntmps87
   go_wp2_with (first | ((with_reducible refine gate_dst (N := 2) rfl ?_); refine box_event zR (N := 2) zR (cs := #[.int .u64 a0_0, .int .u64 a0_1]) (t := 113) zG ?_; intro gb292 hg w12 hbox hb; obtain ⟨HB, BK292, GW292, GE292⟩ := zA4 (below_step zB hb) hbox (zg hg zB) (zg hg zB); clear hb hbox hg; obtain ⟨_, _⟩ := zC2 BK292.out; obtain ⟨_, _⟩ := zF2 BK292.out))
   go_ret
   exact ⟨zS, zB⟩
  ·rw [if_neg c11] at H
   have c11b0 := decide_eq_false c11
   clear c11
   by_cases c14 : a0_1 > 9223372036854775807
   ·rw [if_pos c14] at H
    have c14b0 := decide_eq_true c14
    clear c14
    obtain rfl := Option.some.inj H
    go_enter Tryz.func87, Tryz.ntmps87
    go_wp2_with (first | ((with_reducible refine gate_dst (N := 2) rfl ?_); refine box_event zR (N := 2) zR (cs := #[.int .u64 a0_0, .int .u64 a0_1]) (t := 113) zG ?_; intro gb292 hg w15 hbox hb; obtain ⟨HB, BK292, GW292, GE292⟩ := zA4 (below_step zB hb) hbox (zg hg zB) (zg hg zB); clear hb hbox hg; obtain ⟨_, _⟩ := zC2 BK292.out; obtain ⟨_, _⟩ := zF2 BK292.out))
    go_ret
    exact ⟨zS, zB⟩
   ·rw [if_neg c14] at H
    have c14b0 := decide_eq_false c14
    clear c14
    obtain rfl := Option.some.inj H
    go_enter Tryz.func87, Tryz.ntmps87
    go_wp2_with (first | ((with_reducible refine gate_dst (N := 2) rfl ?_); refine box_event zR (N := 2) zR (cs := #[.int .u64 a0_0, .int .u64 a0_1]) (t := 113) zG ?_; intro gb292 hg w17 hbox hb; obtain ⟨HB, BK292, GW292, GE292⟩ := zA4 (below_step zB hb) hbox (zg hg zB) (zg hg zB); clear hb hbox hg; obtain ⟨_, _⟩ := zC2 BK292.out; obtain ⟨_, _⟩ := zF2 BK292.out))
    go_ret
    exact ⟨zS, zB⟩
def smaltoref01_Nearest.j0 : Nat → Bool → Bool → Int → Int → Option (Int)
 | 0, _, _, _, _ => none
 | k + 1, x2, x10, x298000, x298001 => if x10 = true then ((smaltoref01_Plus.f x298000 x298001 0 1).bind fun bt303 => ((smaltoref01_Hold.f k bt303.1 bt303.2 x2).bind fun t305 => (some t305))) else ((smaltoref01_Hold.f k x298000 x298001 x2).bind fun t306 => (some t306))
def smaltoref01_Nearest.f (k : Nat) (a0_0 a0_1 a1 : Int) (a2 : Bool) : Option (Int) := (smaltoref01_Over.f k a0_0 a0_1 a1).bind fun bt294 => ((smaltoref01_Twice.f 0 bt294.2.2 0).bind fun bt298 => ((smaltoref01_Less.f bt298.1 bt298.2 0 a1).bind fun t301 => (if a2 = true then ((smaltoref01_Less.f 0 a1 bt298.1 bt298.2).bind fun t302 => (smaltoref01_Nearest.j0 k a2 t302 bt294.1 bt294.2.1)) else (smaltoref01_Nearest.j0 k a2 (!t301) bt294.1 bt294.2.1))))
set_option maxHeartbeats 8000000 in
set_option maxRecDepth 100000 in
theorem smaltoref01_Nearest.calls (k : Nat) (a0_0 a0_1 a1 : Int) (a2 : Bool) (r : Int) (w : World) (h : smaltoref01_Nearest.f k a0_0 a0_1 a1 a2 = some r) :
  Calls Tryz.prog 68 #[.agg #[.int .u64 a0_0, .int .u64 a0_1], .int .u64 a1, .bool a2] w fun e w' => e = .returned (.int .i64 r) ∧ Below w.heap.size w w' := by
 have hu113 := Tryz.underlying113
 have HB := Aside0.mk (Below.refl w.heap.size w)
 have H := h
 clear h
 unfold smaltoref01_Nearest.f at H
 replace H := zO H
 obtain ⟨⟨t294, t295, t296⟩, A4, H⟩ := H
 try dsimp only at H
 replace H := zO H
 obtain ⟨⟨t298, t299⟩, A5, H⟩ := H
 try dsimp only at H
 replace H := zO H
 obtain ⟨t301, A6, H⟩ := H
 try dsimp only at H
 have HC7 := Aside0.mk H
 clear H
 go_enter Tryz.func68, Tryz.ntmps68
 go_upto_if 25 with (first | ((with_reducible refine gate_dst (N := 3) rfl ?_); refine box_event zR (N := 3) zR (cs := #[.int .u64 a0_0, .int .u64 a0_1]) (t := 113) zG ?_; intro gb293 hg w8 hbox hb; obtain ⟨HB, BK293, GW293, GE293⟩ := zA4 (below_step zB hb) hbox (zg hg zB) (zg hg zB); clear hb hbox hg; obtain ⟨_, _⟩ := zC2 BK293.out; obtain ⟨_, _⟩ := zF2 BK293.out) | ((with_reducible refine gate_callee (f := 85) rfl ?_); refine goesL_ (some 14) rfl rfl Tryz.func85 (by kernel_rfl) rfl #[.agg #[.int .u64 a0_0, .int .u64 a0_1], .int .u64 a1] rfl zL ?_; (with_reducible refine (smaltoref01_Over.calls k a0_0 a0_1 a1 t294 t295 t296 _ A4.out).mono ?_); rintro e w10 ⟨rfl, hb⟩; refine ⟨_, rfl, ?_⟩; obtain ⟨BK293, HB⟩ := zA2 (blk_below (zK BK293) hb) (below_step zB hb); (try clear hb)) | ((with_reducible refine gate_dst (N := 7) rfl ?_); refine box_event zR (N := 7) zR (cs := #[.int .u64 0, .int .u64 0]) (t := 113) zG ?_; intro gb297 hg w11 hbox hb; obtain ⟨BK293, HB, BK297, GW297, GE297, NB293_297, NB297_293⟩ := zA7 (blk_below (zK BK293) hb) (below_step zB hb) hbox (zg hg zB) (zg hg zB) (zl hg (zK BK293)) (zr hg (zK BK293)); clear hb hbox hg; have hnb12 := NB297_293.out; have hnc12 := NB293_297.out; obtain ⟨_, _⟩ := zC2 BK297.out; obtain ⟨_, _⟩ := zF2 BK297.out) | ((with_reducible refine gate_callee (f := 88) rfl ?_); refine goesL_ (some 19) rfl rfl Tryz.func88 (by kernel_rfl) rfl #[.agg #[.int .u64 0, .int .u64 t296], .int .u64 0] rfl zL ?_; (with_reducible refine (smaltoref01_Twice.calls 0 t296 0 t298 t299 _ A5.out).mono ?_); rintro e w14 ⟨rfl, hb⟩; refine ⟨_, rfl, ?_⟩; obtain ⟨BK293, BK297, HB⟩ := zA3 (blk_below (zK BK293) hb) (blk_below (g := gb297) (o := .cells #[.int .u64 t294, .int .u64 t295] 113 (0, 0)) (by refine zD ?_; refine blk_put (cs := #[.int .u64 t294, .int .u64 0]) ?_ 1 _ rfl; refine zD ?_; refine blk_put (cs := #[.int .u64 0, .int .u64 0]) ?_ 0 _ rfl; refine zD ?_; exact BK297.out) hb) (below_step zB hb); (try clear hb)) | ((with_reducible refine gate_dst (N := 9) rfl ?_); refine box_event zR (N := 9) zR (cs := #[.int .u64 0, .int .u64 0]) (t := 113) zG ?_; intro gb300 hg w15 hbox hb; obtain ⟨BK293, BK297, HB, BK300, GW300, GE300, NB293_300, NB300_293, NB297_300, NB300_297⟩ := zA10 (blk_below (zK BK293) hb) (blk_below (zK BK297) hb) (below_step zB hb) hbox (zg hg zB) (zg hg zB) (zl hg (zK BK293)) (zr hg (zK BK293)) (zl hg (zK BK297)) (zr hg (zK BK297)); clear hb hbox hg; have hnb16 := NB300_293.out; have hnc16 := NB293_300.out; have hnb17 := NB300_297.out; have hnc17 := NB297_300.out; obtain ⟨_, _⟩ := zC2 BK300.out; obtain ⟨_, _⟩ := zF2 BK300.out) | ((with_reducible refine gate_callee (f := 91) rfl ?_); refine goesL_ (some 23) rfl rfl Tryz.func91 (by kernel_rfl) rfl #[.agg #[.int .u64 t298, .int .u64 t299], .agg #[.int .u64 0, .int .u64 a1]] rfl zL ?_; (with_reducible refine (smaltoref01_Less.calls t298 t299 0 a1 t301 _ A6.out).mono ?_); rintro e w19 ⟨rfl, hb⟩; refine ⟨_, rfl, ?_⟩; obtain ⟨BK293, BK297, BK300, HB⟩ := zA4 (blk_below (zK BK293) hb) (blk_below (zK BK297) hb) (blk_below (g := gb300) (o := .cells #[.int .u64 t298, .int .u64 t299] 113 (0, 0)) (by refine zD ?_; refine blk_put (cs := #[.int .u64 t298, .int .u64 0]) ?_ 1 _ rfl; refine zD ?_; refine blk_put (cs := #[.int .u64 0, .int .u64 0]) ?_ 0 _ rfl; refine zD ?_; exact BK300.out) hb) (below_step zB hb); (try clear hb)))
 (try simp only [Act.put, List.setIfInBounds_toArray, List.set_cons_zero, List.set_cons_succ])
 go_cut [10] (fun v10 wc => ∃ (kq : Nat) (x10_6 : Bool), v10 = .bool x10_6 ∧ Aside0 (smaltoref01_Nearest.j0 kq a2 x10_6 t294 t295 = some r) ∧ Aside0 (kq ≤ k) ∧ Aside0 (wc.heap[gb293]? = some (.cells #[.int .u64 a0_0, .int .u64 a0_1] 113 (0, 0))) ∧ Aside0 (wc.heap[gb297]? = some (.cells #[.int .u64 t294, .int .u64 t295] 113 (0, 0))) ∧ Aside0 (wc.heap[gb300]? = some (.cells #[.int .u64 t298, .int .u64 t299] 113 (0, 0))) ∧ Aside0 (Below w.heap.size w wc))
 case first =>
  have H := HC7.out
  clear HC7
  by_cases c20 : a2 = true
  ·subst c20
   rw [if_pos rfl] at H; try dsimp only at H
   replace H := zO H
   obtain ⟨t302, A21, H⟩ := H
   try dsimp only at H
   have H' := Aside0.mk H
   clear H
   have hnb22 := NB300_293.out
   have hnc22 := NB293_300.out
   have hnb23 := NB300_297.out
   have hnc23 := NB297_300.out
   obtain ⟨_, _⟩ := zC2 BK300.out
   obtain ⟨_, _⟩ := zF2 BK300.out
   go_wp2_with (first | ((with_reducible refine gate_callee (f := 91) rfl ?_); refine goesL_ (some 29) rfl rfl Tryz.func91 (by kernel_rfl) rfl #[.agg #[.int .u64 0, .int .u64 a1], .agg #[.int .u64 t298, .int .u64 t299]] rfl zL ?_; (with_reducible refine (smaltoref01_Less.calls 0 a1 t298 t299 t302 _ A21.out).mono ?_); rintro e w25 ⟨rfl, hb⟩; refine ⟨_, rfl, ?_⟩; obtain ⟨BK293, BK297, BK300, HB⟩ := zA4 (blk_below (zK BK293) hb) (blk_below (zK BK297) hb) (blk_below (zK BK300) hb) (below_step zB hb); (try clear hb)))
   go_meet
   case rel => exact ⟨_, (t302), zT, H', ⟨by first | omega | exact Nat.le_refl _⟩, ⟨zK BK293⟩, ⟨zK BK297⟩, ⟨zK BK300⟩, ⟨zB⟩⟩
  ·replace c20 := Bool.eq_false_iff.mpr c20
   subst c20
   rw [if_neg (show ¬ (false = true) by decide)] at H; try dsimp only at H
   have H' := Aside0.mk H
   clear H
   go_wp2
   go_meet
   case rel => exact ⟨_, (!t301), zT, H', ⟨by first | omega | exact Nat.le_refl _⟩, ⟨zK BK293⟩, ⟨zK BK297⟩, ⟨zK BK300⟩, ⟨zB⟩⟩
 case rest =>
  clear HC7
  obtain ⟨kq, x10_6, rfl, HA, HJ6, BK293, BK297, BK300, HB⟩ := hcut
  cases kq with
  | zero => exact absurd HA.out (by simp [smaltoref01_Nearest.j0])
  | succ kj6 =>
   have H := HA.out
   clear HA
   simp only [smaltoref01_Nearest.j0] at H
   by_cases c26 : x10_6 = true
   ·subst c26
    rw [if_pos rfl] at H; try dsimp only at H
    replace H := zO H
    obtain ⟨⟨t303, t304⟩, A27, H⟩ := H
    try dsimp only at H
    replace H := zO H
    obtain ⟨t305, A28, H⟩ := H
    try dsimp only at H
    obtain rfl := Option.some.inj H
    have hnb29 := NB297_293.out
    have hnc29 := NB293_297.out
    have hnb30 := NB297_300.out
    have hnc30 := NB300_297.out
    obtain ⟨_, _⟩ := zC2 BK297.out
    obtain ⟨_, _⟩ := zF2 BK297.out
    go_wp2_with (first | ((with_reducible refine gate_callee (f := 86) rfl ?_); refine goesL_ (some 33) rfl rfl Tryz.func86 (by kernel_rfl) rfl #[.agg #[.int .u64 t294, .int .u64 t295], .agg #[.int .u64 0, .int .u64 1]] rfl zL ?_; (with_reducible refine (smaltoref01_Plus.calls t294 t295 0 1 t303 t304 _ A27.out).mono ?_); rintro e w32 ⟨rfl, hb⟩; refine ⟨_, rfl, ?_⟩; obtain ⟨BK293, BK297, BK300, HB⟩ := zA4 (blk_below (zK BK293) hb) (blk_below (zK BK297) hb) (blk_below (zK BK300) hb) (below_step zB hb); (try clear hb); obtain ⟨_, _⟩ := zC2 BK297.out; obtain ⟨_, _⟩ := zF2 BK297.out) | ((with_reducible refine gate_callee (f := 87) rfl ?_); refine goesL_ (some 36) rfl rfl Tryz.func87 (by kernel_rfl) rfl #[.agg #[.int .u64 t303, .int .u64 t304], .bool a2] rfl zL ?_; (with_reducible refine (smaltoref01_Hold.calls kj6 t303 t304 a2 t305 _ A28.out).mono ?_); rintro e w34 ⟨rfl, hb⟩; refine ⟨_, rfl, ?_⟩; obtain ⟨BK293, BK297, BK300, HB⟩ := zA4 (blk_below (zK BK293) hb) (blk_below (g := gb297) (o := .cells #[.int .u64 t303, .int .u64 t304] 113 (0, 0)) (by refine zD ?_; refine blk_put (cs := #[.int .u64 t303, .int .u64 t295]) ?_ 1 _ rfl; refine zD ?_; refine blk_put (cs := #[.int .u64 t294, .int .u64 t295]) ?_ 0 _ rfl; refine zD ?_; exact BK297.out) hb) (blk_below (zK BK300) hb) (below_step zB hb); (try clear hb)))
    go_ret
    exact ⟨zS, zB⟩
   ·replace c26 := Bool.eq_false_iff.mpr c26
    subst c26
    rw [if_neg (show ¬ (false = true) by decide)] at H; try dsimp only at H
    replace H := zO H
    obtain ⟨t306, A35, H⟩ := H
    try dsimp only at H
    obtain rfl := Option.some.inj H
    have hnb36 := NB297_293.out
    have hnc36 := NB293_297.out
    have hnb37 := NB297_300.out
    have hnc37 := NB300_297.out
    obtain ⟨_, _⟩ := zC2 BK297.out
    obtain ⟨_, _⟩ := zF2 BK297.out
    go_wp2_with (first | ((with_reducible refine gate_callee (f := 87) rfl ?_); refine goesL_ (some 36) rfl rfl Tryz.func87 (by kernel_rfl) rfl #[.agg #[.int .u64 t294, .int .u64 t295], .bool a2] rfl zL ?_; (with_reducible refine (smaltoref01_Hold.calls kj6 t294 t295 a2 t306 _ A35.out).mono ?_); rintro e w39 ⟨rfl, hb⟩; refine ⟨_, rfl, ?_⟩; obtain ⟨BK293, BK297, BK300, HB⟩ := zA4 (blk_below (zK BK293) hb) (blk_below (zK BK297) hb) (blk_below (zK BK300) hb) (below_step zB hb); (try clear hb)))
    go_ret
    exact ⟨zS, zB⟩
end Go.Proofs.YtebipmdopdogkaaGreatDoor.QA

namespace Go.Proofs.YtebipmdopdogkaaGreatDoor.QA
open Go.Proofs.YtebipmdopdogkaaGreatDoor.T
open Go.RowKit Go.Proofs.YtebipmdopdogkaaGreatDoorW.PrintWords Go.Proofs.YtebipmdopdogkaaGreatDoorW.PrintLast Go.Proofs.YtebipmdopdogkaaGreatDoorW.PrintMore
attribute [local go_sem] ext_call max2_int min2_int max_two min_two
set_option linter.unusedVariables false
set_option linter.unusedSimpArgs false
def smaltoref02_MulDiv.f (k : Nat) (a0 a1 a2 : Int) : Option (Int) := if a2 = 0 then (some 0) else ((smaltoref01_Size.f a0).bind fun t307 => ((smaltoref01_Size.f a1).bind fun t308 => ((smaltoref01_Times.f k t307 t308).bind fun bt309 => ((smaltoref01_Size.f a2).bind fun t312 => ((smaltoref01_Nearest.f k bt309.1 bt309.2 t312 (((decide (a0 < 0)) != (decide (a1 < 0))) != (decide (a2 < 0)))).bind fun t313 => (some t313))))))
def smaltoref02_MulDiv.T5 : Bool × List (List Nat × List Nat) := (true, [([], []), ([], []), ([1], [1]), ([], []), ([], []), ([4], [4]), ([3, 5], [3, 5]), ([0, 2, 6, 2], [0, 2, 6]), ([7, 7, 0, 1, 2, 3, 4, 5, 6, 7], [7])])
def smaltoref02_MulDiv.B5 : List Nat := [0, 0, 2, 0, 0, 16, 56, 127, 255]
theorem smaltoref02_MulDiv.tab5 : rtab .any (opsOf Tryz.f46 5) = smaltoref02_MulDiv.T5 := by kernel_rfl
theorem smaltoref02_MulDiv.bits5 : waitsOk smaltoref02_MulDiv.T5.2 smaltoref02_MulDiv.B5 = true := by kernel_rfl
set_option maxHeartbeats 8000000 in
set_option maxRecDepth 100000 in
theorem smaltoref02_MulDiv.calls (k : Nat) (a0 a1 a2 r : Int) (w : World) (h : smaltoref02_MulDiv.f k a0 a1 a2 = some r) :
  Calls Tryz.prog 46 #[.int .i64 a0, .int .i64 a1, .int .i64 a2] w fun e w' => e = .returned (.int .i64 r) ∧ Below w.heap.size w w' := by
 have hu113 := Tryz.underlying113
 have HB := Aside0.mk (Below.refl w.heap.size w)
 have H := h
 clear h
 unfold smaltoref02_MulDiv.f at H
 by_cases c4 : a2 = 0
 ·rw [if_pos c4] at H
  have c4b0 : (a2 == 0) = true := beq_iff_eq.mpr c4
  have c4b1 : (a2 != 0) = false := bne_eq_false_iff_eq.mpr c4
  clear c4
  obtain rfl := Option.some.inj H
  go_enter Tryz.func46, Tryz.ntmps46
  go_wp2
  go_ret
  exact ⟨zS, zB⟩
 ·rw [if_neg c4] at H
  have c4b0 : (a2 == 0) = false := beq_eq_false_iff_ne.mpr c4
  have c4b1 : (a2 != 0) = true := bne_iff_ne.mpr c4
  replace H := zO H
  obtain ⟨t307, A5, H⟩ := H
  try dsimp only at H
  replace H := zO H
  obtain ⟨t308, A6, H⟩ := H
  try dsimp only at H
  replace H := zO H
  obtain ⟨⟨t309, t310⟩, A7, H⟩ := H
  try dsimp only at H
  replace H := zO H
  obtain ⟨t312, A8, H⟩ := H
  try dsimp only at H
  replace H := zO H
  obtain ⟨t313, A9, H⟩ := H
  try dsimp only at H
  obtain rfl := Option.some.inj H
  go_enter Tryz.func46, Tryz.ntmps46
  try go_wp2_with (first | ((with_reducible refine gate_callee (f := 67) rfl ?_); refine goesL_ (some 12) rfl rfl Tryz.func67 (by kernel_rfl) rfl #[.int .i64 a0] rfl zL ?_; (with_reducible refine (smaltoref01_Size.calls a0 t307 _ A5.out).mono ?_); rintro e w' ⟨rfl, ⟨nd, rfl⟩⟩; refine ⟨_, rfl, ?_⟩) | ((with_reducible refine gate_callee (f := 67) rfl ?_); refine goesL_ (some 14) rfl rfl Tryz.func67 (by kernel_rfl) rfl #[.int .i64 a1] rfl zL ?_; (with_reducible refine (smaltoref01_Size.calls a1 t308 _ A6.out).mono ?_); rintro e w' ⟨rfl, ⟨nd, rfl⟩⟩; refine ⟨_, rfl, ?_⟩) | ((with_reducible refine gate_callee (f := 66) rfl ?_); refine goesL_ (some 15) rfl rfl Tryz.func66 (by kernel_rfl) rfl #[.int .u64 t307, .int .u64 t308] rfl zL ?_; (with_reducible refine (smaltoref01_Times.calls k t307 t308 t309 t310 _ A7.out).mono ?_); rintro e w10 ⟨rfl, hb⟩; refine ⟨_, rfl, ?_⟩; replace HB := Aside0.mk (below_step zB hb); (try clear hb)) | ((with_reducible refine gate_dst (N := 7) rfl ?_); refine box_event zR (N := 7) zR (cs := #[.int .u64 0, .int .u64 0]) (t := 113) zG ?_; intro gb311 hg w11 hbox hb; obtain ⟨HB, BK311, GW311, GE311⟩ := zA4 (below_step zB hb) hbox (zg hg zB) (zg hg zB); clear hb hbox hg; obtain ⟨_, _⟩ := zC2 BK311.out; obtain ⟨_, _⟩ := zF2 BK311.out))
  have n0_ : Aside0 (((w11.setCell ⟨gb311, 0, none⟩ (.int .u64 t309)).setCell ⟨gb311, 1, none⟩ (.int .u64 t310)).heap[gb311]? = some (.cells #[.int .u64 t309, .int .u64 t310] 113 (0, 0))) := ⟨by refine zD ?_; refine blk_put (cs := #[.int .u64 t309, .int .u64 0]) ?_ 1 _ rfl; refine zD ?_; refine blk_put (cs := #[.int .u64 0, .int .u64 0]) ?_ 0 _ rfl; refine zD ?_; exact BK311.out⟩
  have n1_ : Aside0 (Below w.heap.size w ((w11.setCell ⟨gb311, 0, none⟩ (.int .u64 t309)).setCell ⟨gb311, 1, none⟩ (.int .u64 t310))) := ⟨zB⟩
  (try clear BK311)
  (try clear HB)
  generalize ((w11.setCell ⟨gb311, 0, none⟩ (.int .u64 t309)).setCell ⟨gb311, 1, none⟩ (.int .u64 t310)) = w13 at n0_ n1_ ⊢
  have BK311 := n0_
  have HB := n1_
  clear n0_ n1_
  obtain ⟨BK311, HB⟩ := zA2 (blk_drew BK311.out) (below_drew1 HB.out)
  refine start_ (n := 9) (S := fun w' => w'.cell? ⟨gb311, 0, none⟩ = some (.int .u64 t309) ∧ w'.cell? ⟨gb311, 1, none⟩ = some (.int .u64 t310)) (ds := []) #[false, false, false, false, false, false, false, false, false] (by kernel_rfl) rfl rfl ⟨(blk_cell BK311.out 0).trans rfl, (blk_cell BK311.out 1).trans rfl⟩ (fun hHeld => ?_); refine with_tabW smaltoref02_MulDiv.tab5 smaltoref02_MulDiv.bits5 (fun HT_ HW_ => ?_)
  generalize w13.drew = w14 at BK311 HB hHeld ⊢
  refine pure_ (i := 1) (N := some 22) (v := ?_) (a' := ?_) #[false, true, false, false, false, false, false, false, false] rfl rfl (any_of HT_.out (by kernel_rfl)) (fun _ _ _ h => h) (Or.inl ⟨by rfl, ?_⟩) ?_ ?_
  rotate_left
  ·intro w'
   go_simp
   with_reducible rfl
  rotate_left
  ·simp only [Act.put, List.setIfInBounds_toArray, List.set_cons_zero, List.set_cons_succ, i64_w, i32_w]
   rfl
  refine pure_ (i := 3) (N := some 24) (v := ?_) (a' := ?_) #[false, true, false, true, false, false, false, false, false] rfl rfl (any_of HT_.out (by kernel_rfl)) (fun _ _ _ h => h) (Or.inl ⟨by rfl, ?_⟩) ?_ ?_
  rotate_left
  ·intro w'
   go_simp
   with_reducible rfl
  rotate_left
  ·simp only [Act.put, List.setIfInBounds_toArray, List.set_cons_zero, List.set_cons_succ, i64_w, i32_w]
   rfl
  refine pure_ (i := 4) (N := some 25) (v := ?_) (a' := ?_) #[false, true, false, true, true, false, false, false, false] rfl rfl (any_of HT_.out (by kernel_rfl)) (fun _ _ _ h => h) (Or.inl ⟨by rfl, ?_⟩) ?_ ?_
  rotate_left
  ·intro w'
   go_simp
   with_reducible rfl
  rotate_left
  ·simp only [Act.put, List.setIfInBounds_toArray, List.set_cons_zero, List.set_cons_succ, i64_w, i32_w]
   rfl
  refine pure_ (i := 5) (N := some 26) (v := ?_) (a' := ?_) #[false, true, false, true, true, true, false, false, false] rfl rfl (any_of HT_.out (by kernel_rfl)) (fun _ _ _ h => h) (Or.inl ⟨by rfl, ?_⟩) ?_ ?_
  rotate_left
  ·intro w'
   go_simp
   with_reducible rfl
  rotate_left
  ·simp only [Act.put, List.setIfInBounds_toArray, List.set_cons_zero, List.set_cons_succ, i64_w, i32_w]
   rfl
  refine pure_ (i := 6) (N := some 27) (v := ?_) (a' := ?_) #[false, true, false, true, true, true, true, false, false] rfl rfl (any_of HT_.out (by kernel_rfl)) (fun _ _ _ h => h) (Or.inl ⟨by rfl, ?_⟩) ?_ ?_
  rotate_left
  ·intro w'
   go_simp
   with_reducible rfl
  rotate_left
  ·simp only [Act.put, List.setIfInBounds_toArray, List.set_cons_zero, List.set_cons_succ, i64_w, i32_w]
   rfl
  refine take_ (i := 0) (N := some 21) (v := ?_) (a' := ?_) #[true, true, false, true, true, true, true, false, false] rfl rfl (take_ofW HT_.out HW_.out (by kernel_rfl)) (fun _ _ _ h => h) (Or.inl ⟨by rfl, ?_⟩) hHeld ?_ ?_
  rotate_left
  ·rintro w' ⟨s0, s1⟩
   go_simp
   with_reducible rfl
  rotate_left
  ·simp only [Act.put, List.setIfInBounds_toArray, List.set_cons_zero, List.set_cons_succ, i64_w, i32_w]
   rfl
  refine one_ (i := 2) (N := some 23) #[true, true, true, true, true, true, true, false, false] rfl rfl (one_of HT_.out (by kernel_rfl)) (by decide) (fun K hK => ?_)
  refine goes_ Tryz.func67 (by kernel_rfl) rfl #[.int .i64 a2] (by rfl) rfl rfl zL ?_
  with_reducible refine (smaltoref01_Size.calls a2 t312 _ A8.out).mono ?_
  rintro e w' ⟨rfl, ⟨nd, rfl⟩⟩
  refine ⟨_, rfl, ?_⟩
  refine hK.out _ _ ⟨(blk_cell BK311.out 0).trans rfl, (blk_cell BK311.out 1).trans rfl⟩ (fun hHeld => ?_)
  clear hK K
  refine norm_ (a' := ?_) ?_ ?_
  rotate_left
  ·show Act.put _ (some 23) _ = _
   simp only [Act.put, List.setIfInBounds_toArray, List.set_cons_zero, List.set_cons_succ, i64_w, i32_w]
   rfl
  refine one_ (i := 7) (N := some 28) #[true, true, true, true, true, true, true, true, false] rfl rfl (one_of HT_.out (by kernel_rfl)) (by decide) (fun K hK => ?_)
  refine goes_ Tryz.func68 (by kernel_rfl) rfl #[.agg #[.int .u64 t309, .int .u64 t310], .int .u64 t312, .bool (((decide (a0 < 0)) != (decide (a1 < 0))) != (decide (a2 < 0)))] (by rfl) rfl rfl zL ?_
  with_reducible refine (smaltoref01_Nearest.calls k t309 t310 t312 (((decide (a0 < 0)) != (decide (a1 < 0))) != (decide (a2 < 0))) t313 _ A9.out).mono ?_
  rintro e w15 ⟨rfl, hb⟩
  refine ⟨_, rfl, ?_⟩
  obtain ⟨BK311, HB⟩ := zA2 (blk_below (zK BK311) hb) (below_step zB hb)
  (try clear hb)
  (try clear hb2)
  (try clear hk)
  (try clear hi)
  refine hK.out _ _ ⟨(blk_cell BK311.out 0).trans rfl, (blk_cell BK311.out 1).trans rfl⟩ (fun hHeld => ?_)
  clear hK K
  refine norm_ (a' := ?_) ?_ ?_
  rotate_left
  ·show Act.put _ (some 28) _ = _
   simp only [Act.put, List.setIfInBounds_toArray, List.set_cons_zero, List.set_cons_succ, i64_w, i32_w]
   rfl
  refine pure_ (i := 8) (N := some 6) (v := ?_) (a' := ?_) #[true, true, true, true, true, true, true, true, true] rfl rfl (any_of HT_.out (by kernel_rfl)) (fun _ _ _ h => h) (Or.inl ⟨by rfl, ?_⟩) ?_ ?_
  rotate_left
  ·intro w'
   go_simp
   with_reducible rfl
  rotate_left
  ·simp only [Act.put, List.setIfInBounds_toArray, List.set_cons_zero, List.set_cons_succ, i64_w, i32_w]
   rfl
  refine done_ (done_of HT_.out (by kernel_rfl)) ?_
  try go_wp2
  go_ret
  exact ⟨zS, zB⟩
end Go.Proofs.YtebipmdopdogkaaGreatDoor.QA
