-- Written by wip/tools/pp.py over the kit's print.py; not trusted: Lean checks it.
import Derived.Test.YtbkbgpileogehaaDoorQAx0
import Derived.Test.YtbkbgpileogehaaDoorQAx8
namespace Go.Proofs.YtbkbgpileogehaaDoor.QA
open Go.Proofs.YtbkbgpileogehaaDoor.T
open Go.RowKit Go.Proofs.YtbkbgpileogehaaDoorW.PrintWords Go.Proofs.YtbkbgpileogehaaDoorW.PrintLast Go.Proofs.YtbkbgpileogehaaDoorW.PrintMore
attribute [local go_sem] ext_call max2_int min2_int max_two min_two max_three min_three max_four min_four   -- for this text's walks alone
set_option linter.unusedVariables false
set_option linter.unusedSimpArgs false

/-! ### smaltolaw05_RawBox: function 3 -/
def smaltolaw05_RawBox.l0 : Nat → Int → Int → Int → Int → List Int → Int → List Int → Int → Int → Option (Bool)
 | 0, _, _, _, _, _, _, _, _, _ => none
 | k + 1, x7, x8, x9, x10, x11, x12, x37, x38, x39 => if x39 < x38 then (if 0 ≤ x39 then (if x39 < (x37.length : Int) then (if (rd x37 x39) < 0 then (some false) else (smaltolaw05_RawBox.l0 k x7 x8 x9 x10 x11 (wrap64 (x12 + (rd x37 x39))) x37 x38 (wrap64 (x39 + 1)))) else (none)) else (none)) else (if (x11.length : Int) > 0 then (if (wrap64 (x12 - 1073741824)) ≤ (x11.length : Int) then (if (wrap64 (1073741824 - x12)) ≤ (x11.length : Int) then (if x10 ≥ 0 then (if (wrap64 (x10 + (x11.length : Int))) ≤ x7 then (if (wrap64 (x10 * x8)) ≤ (wrap64 (x9 * x7)) then (some (decide ((wrap64 ((wrap64 (x10 + (x11.length : Int))) * x8)) ≥ (wrap64 ((wrap64 (x9 + 1)) * x7))))) else (some false)) else (some false)) else (some false)) else (some false)) else (some false)) else (some false))
def smaltolaw05_RawBox.f (k : Nat) (a0 : Int) (a1 : Int) (a2 : Int) : Option (Bool) := (smaltolaw05_Lives.f k).bind fun t174 => (if t174 = true then ((smaltolaw05_side.f a0).bind fun t175 => ((smaltolaw05_side.f a1).bind fun t176 => ((smaltolaw05_small.f t175 t176).bind fun t177 => (if t177 = true then (if t176 = 0 then (none) else ((raw_Row.f k 0 t175 t176 (Int.tmod (wrap64 (a2)) t176)).bind fun bt178 => (smaltolaw05_RawBox.l0 k t175 t176 (Int.tmod (wrap64 (a2)) t176) bt178.1 bt178.2 0 bt178.2 (bt178.2.length : Int) 0))) else (some true))))) else (some false))
theorem smaltolaw05_RawBox.mono_l : ∀ k, (∀ y0 y1 y2 y3 y4 y5 y6 y7 y8, LeO (smaltolaw05_RawBox.l0 k y0 y1 y2 y3 y4 y5 y6 y7 y8) (smaltolaw05_RawBox.l0 (k + 1) y0 y1 y2 y3 y4 y5 y6 y7 y8))
 | 0 => fun _ _ _ _ _ _ _ _ _ r h => by simp [smaltolaw05_RawBox.l0] at h
 | k + 1 => by
  have ih0 := smaltolaw05_RawBox.mono_l k
  ·intro y0 y1 y2 y3 y4 y5 y6 y7 y8
   unfold smaltolaw05_RawBox.l0
   repeat' first
   | (with_reducible exact ih0 _ _ _ _ _ _ _ _ _)
   | (with_reducible exact raw_Row.mono _ _ _ _ _)
   | (with_reducible exact smaltolaw05_Lives.mono _)
   | (with_reducible exact LeO.refl _)
   | (with_reducible exact LeO.none _)
   | (with_reducible refine LeO.ite ?_ ?_)
   | (with_reducible refine LeO.bind ?_ (fun _ => ?_))
   | exact ih0 _ _ _ _ _ _ _ _ _
   | exact raw_Row.mono _ _ _ _ _
   | exact smaltolaw05_Lives.mono _
   | exact LeO.none _
   | refine LeO.ite ?_ ?_
   | refine LeO.bind ?_ (fun _ => ?_)
theorem smaltolaw05_RawBox.mono : ∀ a0 a1 a2 k, LeO (smaltolaw05_RawBox.f k a0 a1 a2) (smaltolaw05_RawBox.f (k + 1) a0 a1 a2) := by
 intro a0 a1 a2 k
 have ih0 := smaltolaw05_RawBox.mono_l k
 unfold smaltolaw05_RawBox.f
 repeat' first
   | (with_reducible exact ih0 _ _ _ _ _ _ _ _ _)
   | (with_reducible exact raw_Row.mono _ _ _ _ _)
   | (with_reducible exact smaltolaw05_Lives.mono _)
   | (with_reducible exact LeO.refl _)
   | (with_reducible exact LeO.none _)
   | (with_reducible refine LeO.ite ?_ ?_)
   | (with_reducible refine LeO.bind ?_ (fun _ => ?_))
   | exact ih0 _ _ _ _ _ _ _ _ _
   | exact raw_Row.mono _ _ _ _ _
   | exact smaltolaw05_Lives.mono _
   | exact LeO.none _
   | refine LeO.ite ?_ ?_
   | refine LeO.bind ?_ (fun _ => ?_)
set_option maxHeartbeats 8000000 in
set_option maxRecDepth 100000 in
theorem smaltolaw05_RawBox.calls (k : Nat) (a0 : Int) (a1 : Int) (a2 : Int) (r : Bool) (w : World) (hG : GL w) (h : smaltolaw05_RawBox.f k a0 a1 a2 = some r) :
  Calls Tryd.prog 3 #[.int .u32 a0, .int .u32 a1, .int .u32 a2] w fun e w' => e = .returned (.bool r) ∧ Below w.heap.size w w' := by
 have HB := Aside0.mk (Below.refl w.heap.size w)
 have H : ((smaltolaw05_Lives.f k).bind fun t174 => (if t174 = true then ((smaltolaw05_side.f a0).bind fun t175 => ((smaltolaw05_side.f a1).bind fun t176 => ((smaltolaw05_small.f t175 t176).bind fun t177 => (if t177 = true then (if t176 = 0 then (none) else ((raw_Row.f k 0 t175 t176 (Int.tmod (wrap64 (a2)) t176)).bind fun bt178 => (smaltolaw05_RawBox.l0 k t175 t176 (Int.tmod (wrap64 (a2)) t176) bt178.1 bt178.2 0 bt178.2 (bt178.2.length : Int) 0))) else (some true))))) else (some false))) = some r := h
 clear h
 replace H := Option.bind_eq_some_iff.mp H
 obtain ⟨t174, A40, H⟩ := H
 replace H : (if t174 = true then ((smaltolaw05_side.f a0).bind fun t175 => ((smaltolaw05_side.f a1).bind fun t176 => ((smaltolaw05_small.f t175 t176).bind fun t177 => (if t177 = true then (if t176 = 0 then (none) else ((raw_Row.f k 0 t175 t176 (Int.tmod (wrap64 (a2)) t176)).bind fun bt178 => (smaltolaw05_RawBox.l0 k t175 t176 (Int.tmod (wrap64 (a2)) t176) bt178.1 bt178.2 0 bt178.2 (bt178.2.length : Int) 0))) else (some true))))) else (some false)) = some r := H
 have A4 := Aside0.mk A40
 clear A40
 by_cases c5 : t174 = true
 ·subst c5
  have H1 : ((smaltolaw05_side.f a0).bind fun t175 => ((smaltolaw05_side.f a1).bind fun t176 => ((smaltolaw05_small.f t175 t176).bind fun t177 => (if t177 = true then (if t176 = 0 then (none) else ((raw_Row.f k 0 t175 t176 (Int.tmod (wrap64 (a2)) t176)).bind fun bt178 => (smaltolaw05_RawBox.l0 k t175 t176 (Int.tmod (wrap64 (a2)) t176) bt178.1 bt178.2 0 bt178.2 (bt178.2.length : Int) 0))) else (some true))))) = some r := by rw [if_pos rfl] at H; exact H
  clear H
  have H := H1
  clear H1
  replace H := Option.bind_eq_some_iff.mp H
  obtain ⟨t175, A60, H⟩ := H
  replace H : ((smaltolaw05_side.f a1).bind fun t176 => ((smaltolaw05_small.f t175 t176).bind fun t177 => (if t177 = true then (if t176 = 0 then (none) else ((raw_Row.f k 0 t175 t176 (Int.tmod (wrap64 (a2)) t176)).bind fun bt178 => (smaltolaw05_RawBox.l0 k t175 t176 (Int.tmod (wrap64 (a2)) t176) bt178.1 bt178.2 0 bt178.2 (bt178.2.length : Int) 0))) else (some true)))) = some r := H
  have A6 := Aside0.mk A60
  clear A60
  replace H := Option.bind_eq_some_iff.mp H
  obtain ⟨t176, A70, H⟩ := H
  replace H : ((smaltolaw05_small.f t175 t176).bind fun t177 => (if t177 = true then (if t176 = 0 then (none) else ((raw_Row.f k 0 t175 t176 (Int.tmod (wrap64 (a2)) t176)).bind fun bt178 => (smaltolaw05_RawBox.l0 k t175 t176 (Int.tmod (wrap64 (a2)) t176) bt178.1 bt178.2 0 bt178.2 (bt178.2.length : Int) 0))) else (some true))) = some r := H
  have A7 := Aside0.mk A70
  clear A70
  replace H := Option.bind_eq_some_iff.mp H
  obtain ⟨t177, A80, H⟩ := H
  replace H : (if t177 = true then (if t176 = 0 then (none) else ((raw_Row.f k 0 t175 t176 (Int.tmod (wrap64 (a2)) t176)).bind fun bt178 => (smaltolaw05_RawBox.l0 k t175 t176 (Int.tmod (wrap64 (a2)) t176) bt178.1 bt178.2 0 bt178.2 (bt178.2.length : Int) 0))) else (some true)) = some r := H
  have A8 := Aside0.mk A80
  clear A80
  by_cases c9 : t177 = true
  ·subst c9
   have H1 : (if t176 = 0 then (none) else ((raw_Row.f k 0 t175 t176 (Int.tmod (wrap64 (a2)) t176)).bind fun bt178 => (smaltolaw05_RawBox.l0 k t175 t176 (Int.tmod (wrap64 (a2)) t176) bt178.1 bt178.2 0 bt178.2 (bt178.2.length : Int) 0))) = some r := by rw [if_pos rfl] at H; exact H
   clear H
   have H := H1
   clear H1
   by_cases c10 : t176 = 0
   ·rw [if_pos c10] at H
    exact absurd H (by simp)
   ·rw [if_neg c10] at H
    have c10b0 : (t176 == 0) = false := beq_eq_false_iff_ne.mpr c10
    have c10b1 : (t176 != 0) = true := bne_iff_ne.mpr c10
    replace H := Option.bind_eq_some_iff.mp H
    obtain ⟨⟨t178, t179⟩, A110, H⟩ := H
    replace H : (smaltolaw05_RawBox.l0 k t175 t176 (Int.tmod (wrap64 (a2)) t176) t178 t179 0 t179 (t179.length : Int) 0) = some r := H
    have A11 := Aside0.mk A110
    clear A110
    have H' := Aside0.mk H
    clear H
    go_enter Tryd.func3, Tryd.ntmps3
    go_wp2_with (first | ((with_reducible refine gate_callee (f := 10) rfl ?_); refine goesL_ (some 16) rfl rfl Tryd.func10 (by kernel_rfl) rfl #[] rfl (by (try simp only [List.map_toArray, List.map_cons, List.map_nil]); first | done | rfl | (simp only [List.length_drop, List.length_take]; rfl)) ?_; (with_reducible refine (smaltolaw05_Lives.calls k  true _ (by exact GL.below hG (by repeat (first | (with_reducible first | exact HB.out | apply below_alloc | apply pw_below_drewN | apply below_drew1) | exact HB.out | exact Below.refl _ _))) A4.out).mono ?_); rintro e w12 ⟨rfl, hb⟩; refine ⟨_, rfl, ?_⟩; have n0_ := Aside0.mk (below_step (by repeat (first | (with_reducible first | exact HB.out | apply below_alloc | apply pw_below_drewN | apply below_drew1) | exact HB.out)) hb); clear HB; have HB := n0_; clear n0_; (try clear hb); (try clear hb2); (try clear hk); (try clear hi)) | ((with_reducible refine gate_callee (f := 11) rfl ?_); refine goesL_ (some 19) rfl rfl Tryd.func11 (by kernel_rfl) rfl #[.int .u32 a0] rfl (by (try simp only [List.map_toArray, List.map_cons, List.map_nil]); first | done | rfl | (simp only [List.length_drop, List.length_take]; rfl)) ?_; (with_reducible refine (smaltolaw05_side.calls a0 t175 _ A6.out).mono ?_); rintro e w' ⟨rfl, ⟨nd, rfl⟩⟩; refine ⟨_, rfl, ?_⟩) | ((with_reducible refine gate_callee (f := 11) rfl ?_); refine goesL_ (some 21) rfl rfl Tryd.func11 (by kernel_rfl) rfl #[.int .u32 a1] rfl (by (try simp only [List.map_toArray, List.map_cons, List.map_nil]); first | done | rfl | (simp only [List.length_drop, List.length_take]; rfl)) ?_; (with_reducible refine (smaltolaw05_side.calls a1 t176 _ A7.out).mono ?_); rintro e w' ⟨rfl, ⟨nd, rfl⟩⟩; refine ⟨_, rfl, ?_⟩) | ((with_reducible refine gate_callee (f := 12) rfl ?_); refine goesL_ (some 24) rfl rfl Tryd.func12 (by kernel_rfl) rfl #[.int .i64 t175, .int .i64 t176] rfl (by (try simp only [List.map_toArray, List.map_cons, List.map_nil]); first | done | rfl | (simp only [List.length_drop, List.length_take]; rfl)) ?_; (with_reducible refine (smaltolaw05_small.calls t175 t176 true _ A8.out).mono ?_); rintro e w' ⟨rfl, ⟨nd, rfl⟩⟩; refine ⟨_, rfl, ?_⟩) | ((with_reducible refine gate_callee (f := 13) rfl ?_); refine goesL_ (some 34) rfl rfl Tryd.func13 (by kernel_rfl) rfl #[.int .i64 0, .int .i64 t175, .int .i64 t176, .int .i64 (Int.tmod (wrap64 (a2)) t176)] rfl (by (try simp only [List.map_toArray, List.map_cons, List.map_nil]); first | done | rfl | (simp only [List.length_drop, List.length_take]; rfl)) ?_; (with_reducible refine (raw_Row.calls k 0 t175 t176 (Int.tmod (wrap64 (a2)) t176) t178 t179 _ (by exact GL.below hG (by repeat (first | (with_reducible first | exact HB.out | apply below_alloc | apply pw_below_drewN | apply below_drew1) | exact HB.out | exact Below.refl _ _))) A11.out).mono ?_); rintro e w13 ⟨v180, rfl, ho0, hb⟩; refine ⟨_, rfl, ?_⟩; have n0_ := Aside0.mk (Kd.R_lower ho0 (below_size (by repeat (first | (with_reducible first | exact HB.out | apply below_alloc | apply pw_below_drewN | apply below_drew1) | exact HB.out)))); have n1_ := Aside0.mk (below_step (by repeat (first | (with_reducible first | exact HB.out | apply below_alloc | apply pw_below_drewN | apply below_drew1) | exact HB.out)) hb); clear HB; have HO181 := n0_; have HB := n1_; clear n0_ n1_; (try clear hb); (try clear hb2); (try clear hk); (try clear hi); (try clear ho0); obtain ⟨Ao14, co14, eo14⟩ := Kd.R_slice HO181.out; subst eo14))
    go_loopg [12, 39] k (fun kq v12 v39 w' => ∃ (x12_1 : Int) (x39_1 : Int), v12 = .int .i64 x12_1 ∧ v39 = .int .i64 x39_1 ∧ Aside0 (smaltolaw05_RawBox.l0 kq t175 t176 (Int.tmod (wrap64 (a2)) t176) t178 t179 x12_1 t179 (t179.length : Int) x39_1 = some r) ∧ Aside0 (kq ≤ k) ∧ Aside0 (Kd.R (Kd.int .i64) 2 w' w.heap.size (fun _ => True) (.slice Ao14 t179.length co14) t179) ∧ Aside0 (Kd.R (Kd.int .i64) 2 w' w.heap.size (fun _ => True) (.slice Ao14 t179.length co14) t179) ∧ Aside0 (Below w.heap.size w w'))
    case atStart => exact ⟨(0), (0), (by first | rfl | (simp; done) | (simp [*]; done)), (by first | rfl | (simp; done) | (simp [*]; done)), H', ⟨Nat.le_refl _⟩, ⟨by (with_reducible repeat (first | apply Kd.R_alloc | apply Kd.R_drewN | apply Kd.R_drew)); exact HO181.out⟩, ⟨by (with_reducible repeat (first | apply Kd.R_alloc | apply Kd.R_drewN | apply Kd.R_drew)); exact HO181.out⟩, ⟨by repeat (first | (with_reducible first | exact HB.out | apply below_alloc | apply pw_below_drewN | apply below_drew1) | exact HB.out)⟩⟩
    case round =>
     clear H'
     try clear c1
     try clear p2
     try clear c3
     try clear c5
     try clear p6
     try clear c9
     try clear c10
     try clear c10b0
     try clear c10b1
     try clear c11
     try clear c12
     try clear c13
     obtain ⟨x12_1, x39_1, rfl, rfl, HA, HK1, HO_11, HO_37, HB⟩ := hrel
     cases gk with
     | zero => exact absurd HA.out (by simp [smaltolaw05_RawBox.l0])
     | succ k1 =>
      have H := HA.out
      clear HA
      simp only [smaltolaw05_RawBox.l0] at H
      by_cases c15 : x39_1 < (t179.length : Int)
      ·rw [if_pos c15] at H
       have c15b0 : decide (x39_1 < (t179.length : Int)) = true := decide_eq_true c15
       clear c15
       by_cases c16 : 0 ≤ x39_1
       ·rw [if_pos c16] at H
        have c16b0 : decide (0 ≤ x39_1) = true := decide_eq_true c16
        clear c16
        by_cases c17 : x39_1 < (t179.length : Int)
        ·rw [if_pos c17] at H
         have c17b0 : decide (x39_1 < (t179.length : Int)) = true := decide_eq_true c17
         clear c17
         by_cases c18 : (rd t179 x39_1) < 0
         ·rw [if_pos c18] at H
          have c18b0 : decide ((rd t179 x39_1) < 0) = true := decide_eq_true c18
          clear c18
          obtain rfl := Option.some.inj H
          have p182 : 0 ≤ (x39_1 : Int) := of_decide_eq_true (by first | (with_reducible assumption) | assumption)
          have q182 : x39_1 < (t179.length : Int) := of_decide_eq_true (by first | (with_reducible assumption) | assumption)
          obtain ⟨ad182, e182, hx182_0⟩ := Kd.at_int (Kd.R_reads' HO_37.out).2.2 x39_1 p182 q182
          cases e182
          replace p182 := eq_true p182
          replace q182 := eq_true q182
          go_wp2
          go_ret
          exact ⟨by first | rfl | (simp [errW_none, errW_some] <;> rfl) | (simp [*, errW_none, errW_some] <;> rfl), by repeat (first | (with_reducible first | exact HB.out | apply below_alloc | apply pw_below_drewN | apply below_drew1) | exact HB.out)⟩
         ·rw [if_neg c18] at H
          have c18b0 : decide ((rd t179 x39_1) < 0) = false := decide_eq_false c18
          clear c18
          have H' := Aside0.mk H
          clear H
          have p182 : 0 ≤ (x39_1 : Int) := of_decide_eq_true (by first | (with_reducible assumption) | assumption)
          have q182 : x39_1 < (t179.length : Int) := of_decide_eq_true (by first | (with_reducible assumption) | assumption)
          obtain ⟨ad182, e182, hx182_0⟩ := Kd.at_int (Kd.R_reads' HO_37.out).2.2 x39_1 p182 q182
          cases e182
          replace p182 := eq_true p182
          replace q182 := eq_true q182
          go_wp2
          go_roundg k1
          case measure => have := HK1.out; omega
          case rel => exact ⟨(wrap64 (x12_1 + (rd t179 x39_1))), (wrap64 (x39_1 + 1)), (by first | rfl | (simp; done) | (simp [*]; done)), (by first | rfl | (simp; done) | (simp [*]; done)), H', ⟨by have := HK1.out; omega⟩, ⟨by (with_reducible repeat (first | apply Kd.R_alloc | apply Kd.R_drewN | apply Kd.R_drew)); exact HO_11.out⟩, ⟨by (with_reducible repeat (first | apply Kd.R_alloc | apply Kd.R_drewN | apply Kd.R_drew)); exact HO_37.out⟩, ⟨by repeat (first | (with_reducible first | exact HB.out | apply below_alloc | apply pw_below_drewN | apply below_drew1) | exact HB.out)⟩⟩
        ·rw [if_neg c17] at H
         exact absurd H (by simp)
       ·rw [if_neg c16] at H
        exact absurd H (by simp)
      ·rw [if_neg c15] at H
       have c15b0 : decide (x39_1 < (t179.length : Int)) = false := decide_eq_false c15
       clear c15
       by_cases c19 : (t179.length : Int) > 0
       ·rw [if_pos c19] at H
        have c19b0 : decide (0 < (t179.length : Int)) = true := decide_eq_true c19
        have c19b1 : decide (0 < t179.length) = true := decide_eq_true (by omega)
        clear c19
        by_cases c20 : (wrap64 (x12_1 - 1073741824)) ≤ (t179.length : Int)
        ·rw [if_pos c20] at H
         have c20b0 : decide ((wrap64 (x12_1 - 1073741824)) ≤ (t179.length : Int)) = true := decide_eq_true c20
         clear c20
         by_cases c21 : (wrap64 (1073741824 - x12_1)) ≤ (t179.length : Int)
         ·rw [if_pos c21] at H
          have c21b0 : decide ((wrap64 (1073741824 - x12_1)) ≤ (t179.length : Int)) = true := decide_eq_true c21
          clear c21
          by_cases c22 : t178 ≥ 0
          ·rw [if_pos c22] at H
           have c22b0 : decide (0 ≤ t178) = true := decide_eq_true c22
           clear c22
           by_cases c23 : (wrap64 (t178 + (t179.length : Int))) ≤ t175
           ·rw [if_pos c23] at H
            have c23b0 : decide ((wrap64 (t178 + (t179.length : Int))) ≤ t175) = true := decide_eq_true c23
            clear c23
            by_cases c24 : (wrap64 (t178 * t176)) ≤ (wrap64 ((Int.tmod (wrap64 (a2)) t176) * t175))
            ·rw [if_pos c24] at H
             have c24b0 : decide ((wrap64 (t178 * t176)) ≤ (wrap64 ((Int.tmod (wrap64 (a2)) t176) * t175))) = true := decide_eq_true c24
             clear c24
             obtain rfl := Option.some.inj H
             go_wp2
             go_ret
             exact ⟨by first | rfl | (simp [errW_none, errW_some] <;> rfl) | (simp [*, errW_none, errW_some] <;> rfl), by repeat (first | (with_reducible first | exact HB.out | apply below_alloc | apply pw_below_drewN | apply below_drew1) | exact HB.out)⟩
            ·rw [if_neg c24] at H
             have c24b0 : decide ((wrap64 (t178 * t176)) ≤ (wrap64 ((Int.tmod (wrap64 (a2)) t176) * t175))) = false := decide_eq_false c24
             clear c24
             obtain rfl := Option.some.inj H
             go_wp2
             go_ret
             exact ⟨by first | rfl | (simp [errW_none, errW_some] <;> rfl) | (simp [*, errW_none, errW_some] <;> rfl), by repeat (first | (with_reducible first | exact HB.out | apply below_alloc | apply pw_below_drewN | apply below_drew1) | exact HB.out)⟩
           ·rw [if_neg c23] at H
            have c23b0 : decide ((wrap64 (t178 + (t179.length : Int))) ≤ t175) = false := decide_eq_false c23
            clear c23
            obtain rfl := Option.some.inj H
            go_wp2
            go_ret
            exact ⟨by first | rfl | (simp [errW_none, errW_some] <;> rfl) | (simp [*, errW_none, errW_some] <;> rfl), by repeat (first | (with_reducible first | exact HB.out | apply below_alloc | apply pw_below_drewN | apply below_drew1) | exact HB.out)⟩
          ·rw [if_neg c22] at H
           have c22b0 : decide (0 ≤ t178) = false := decide_eq_false c22
           clear c22
           obtain rfl := Option.some.inj H
           go_wp2
           go_ret
           exact ⟨by first | rfl | (simp [errW_none, errW_some] <;> rfl) | (simp [*, errW_none, errW_some] <;> rfl), by repeat (first | (with_reducible first | exact HB.out | apply below_alloc | apply pw_below_drewN | apply below_drew1) | exact HB.out)⟩
         ·rw [if_neg c21] at H
          have c21b0 : decide ((wrap64 (1073741824 - x12_1)) ≤ (t179.length : Int)) = false := decide_eq_false c21
          clear c21
          obtain rfl := Option.some.inj H
          go_wp2
          go_ret
          exact ⟨by first | rfl | (simp [errW_none, errW_some] <;> rfl) | (simp [*, errW_none, errW_some] <;> rfl), by repeat (first | (with_reducible first | exact HB.out | apply below_alloc | apply pw_below_drewN | apply below_drew1) | exact HB.out)⟩
        ·rw [if_neg c20] at H
         have c20b0 : decide ((wrap64 (x12_1 - 1073741824)) ≤ (t179.length : Int)) = false := decide_eq_false c20
         clear c20
         obtain rfl := Option.some.inj H
         go_wp2
         go_ret
         exact ⟨by first | rfl | (simp [errW_none, errW_some] <;> rfl) | (simp [*, errW_none, errW_some] <;> rfl), by repeat (first | (with_reducible first | exact HB.out | apply below_alloc | apply pw_below_drewN | apply below_drew1) | exact HB.out)⟩
       ·rw [if_neg c19] at H
        have c19b0 : decide (0 < (t179.length : Int)) = false := decide_eq_false c19
        have c19b1 : decide (0 < t179.length) = false := decide_eq_false (by omega)
        clear c19
        obtain rfl := Option.some.inj H
        go_wp2
        go_ret
        exact ⟨by first | rfl | (simp [errW_none, errW_some] <;> rfl) | (simp [*, errW_none, errW_some] <;> rfl), by repeat (first | (with_reducible first | exact HB.out | apply below_alloc | apply pw_below_drewN | apply below_drew1) | exact HB.out)⟩
  ·replace c9 := Bool.eq_false_iff.mpr c9
   subst c9
   have H1 : (some true) = some r := by rw [if_neg (show ¬ (false = true) by decide)] at H; exact H
   clear H
   have H := H1
   clear H1
   obtain rfl := Option.some.inj H
   go_enter Tryd.func3, Tryd.ntmps3
   go_wp2_with (first | ((with_reducible refine gate_callee (f := 10) rfl ?_); refine goesL_ (some 16) rfl rfl Tryd.func10 (by kernel_rfl) rfl #[] rfl (by (try simp only [List.map_toArray, List.map_cons, List.map_nil]); first | done | rfl | (simp only [List.length_drop, List.length_take]; rfl)) ?_; (with_reducible refine (smaltolaw05_Lives.calls k  true _ (by exact GL.below hG (by repeat (first | (with_reducible first | exact HB.out | apply below_alloc | apply pw_below_drewN | apply below_drew1) | exact HB.out | exact Below.refl _ _))) A4.out).mono ?_); rintro e w25 ⟨rfl, hb⟩; refine ⟨_, rfl, ?_⟩; have n0_ := Aside0.mk (below_step (by repeat (first | (with_reducible first | exact HB.out | apply below_alloc | apply pw_below_drewN | apply below_drew1) | exact HB.out)) hb); clear HB; have HB := n0_; clear n0_; (try clear hb); (try clear hb2); (try clear hk); (try clear hi)) | ((with_reducible refine gate_callee (f := 11) rfl ?_); refine goesL_ (some 19) rfl rfl Tryd.func11 (by kernel_rfl) rfl #[.int .u32 a0] rfl (by (try simp only [List.map_toArray, List.map_cons, List.map_nil]); first | done | rfl | (simp only [List.length_drop, List.length_take]; rfl)) ?_; (with_reducible refine (smaltolaw05_side.calls a0 t175 _ A6.out).mono ?_); rintro e w' ⟨rfl, ⟨nd, rfl⟩⟩; refine ⟨_, rfl, ?_⟩) | ((with_reducible refine gate_callee (f := 11) rfl ?_); refine goesL_ (some 21) rfl rfl Tryd.func11 (by kernel_rfl) rfl #[.int .u32 a1] rfl (by (try simp only [List.map_toArray, List.map_cons, List.map_nil]); first | done | rfl | (simp only [List.length_drop, List.length_take]; rfl)) ?_; (with_reducible refine (smaltolaw05_side.calls a1 t176 _ A7.out).mono ?_); rintro e w' ⟨rfl, ⟨nd, rfl⟩⟩; refine ⟨_, rfl, ?_⟩) | ((with_reducible refine gate_callee (f := 12) rfl ?_); refine goesL_ (some 24) rfl rfl Tryd.func12 (by kernel_rfl) rfl #[.int .i64 t175, .int .i64 t176] rfl (by (try simp only [List.map_toArray, List.map_cons, List.map_nil]); first | done | rfl | (simp only [List.length_drop, List.length_take]; rfl)) ?_; (with_reducible refine (smaltolaw05_small.calls t175 t176 false _ A8.out).mono ?_); rintro e w' ⟨rfl, ⟨nd, rfl⟩⟩; refine ⟨_, rfl, ?_⟩))
   go_ret
   exact ⟨by first | rfl | (simp [errW_none, errW_some] <;> rfl) | (simp [*, errW_none, errW_some] <;> rfl), by repeat (first | (with_reducible first | exact HB.out | apply below_alloc | apply pw_below_drewN | apply below_drew1) | exact HB.out)⟩
 ·replace c5 := Bool.eq_false_iff.mpr c5
  subst c5
  have H1 : (some false) = some r := by rw [if_neg (show ¬ (false = true) by decide)] at H; exact H
  clear H
  have H := H1
  clear H1
  obtain rfl := Option.some.inj H
  go_enter Tryd.func3, Tryd.ntmps3
  go_wp2_with (first | ((with_reducible refine gate_callee (f := 10) rfl ?_); refine goesL_ (some 16) rfl rfl Tryd.func10 (by kernel_rfl) rfl #[] rfl (by (try simp only [List.map_toArray, List.map_cons, List.map_nil]); first | done | rfl | (simp only [List.length_drop, List.length_take]; rfl)) ?_; (with_reducible refine (smaltolaw05_Lives.calls k  false _ (by exact GL.below hG (by repeat (first | (with_reducible first | exact HB.out | apply below_alloc | apply pw_below_drewN | apply below_drew1) | exact HB.out | exact Below.refl _ _))) A4.out).mono ?_); rintro e w26 ⟨rfl, hb⟩; refine ⟨_, rfl, ?_⟩; have n0_ := Aside0.mk (below_step (by repeat (first | (with_reducible first | exact HB.out | apply below_alloc | apply pw_below_drewN | apply below_drew1) | exact HB.out)) hb); clear HB; have HB := n0_; clear n0_; (try clear hb); (try clear hb2); (try clear hk); (try clear hi)))
  go_ret
  exact ⟨by first | rfl | (simp [errW_none, errW_some] <;> rfl) | (simp [*, errW_none, errW_some] <;> rfl), by repeat (first | (with_reducible first | exact HB.out | apply below_alloc | apply pw_below_drewN | apply below_drew1) | exact HB.out)⟩

/-- THE ONE PURE STATEMENT of smaltolaw05_RawBox: yours. -/
def smaltolaw05_RawBox.Pure : Prop := ∀ (a0 : Int) (a1 : Int) (a2 : Int), (Lit.int .u32 a0).wf = true → (Lit.int .u32 a1).wf = true → (Lit.int .u32 a2).wf = true → ∃ k, smaltolaw05_RawBox.f k a0 a1 a2 = some true
theorem smaltolaw05_RawBox.walk (P : smaltolaw05_RawBox.Pure) (a0 : Int) (a1 : Int) (a2 : Int) (w : World) (hG : GL w) (w0 : (Lit.int .u32 a0).wf = true) (w1 : (Lit.int .u32 a1).wf = true) (w2 : (Lit.int .u32 a2).wf = true) :
  Calls Tryd.prog 3 #[.int .u32 a0, .int .u32 a1, .int .u32 a2] w fun e w' => e = .returned (.bool true) ∧ Below w.heap.size w w' := by
 obtain ⟨k, h⟩ := P a0 a1 a2 w0 w1 w2
 refine (smaltolaw05_RawBox.calls k a0 a1 a2 true w hG h).mono ?_
 rintro e w' ⟨rfl, hd⟩
 exact ⟨rfl, hd⟩

end Go.Proofs.YtbkbgpileogehaaDoor.QA
