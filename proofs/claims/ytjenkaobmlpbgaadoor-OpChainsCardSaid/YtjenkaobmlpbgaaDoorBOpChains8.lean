/- Joined by wip/tools/bundle.py out of: QAx19. -/
import Derived.Test.YtjenkaobmlpbgaaDoorBOpChains0
import Derived.Test.YtjenkaobmlpbgaaDoorBOpChains2
import Derived.Test.YtjenkaobmlpbgaaDoorBOpChains7
import Derived.Test.YtjenkaobmlpbgaaDoorBOpChains3
namespace Go.Proofs.YtjenkaobmlpbgaaDoor.QA
open Go.Proofs.YtjenkaobmlpbgaaDoor.T
open Go.RowKit Go.Proofs.YtjenkaobmlpbgaaDoorW.PrintWords Go.Proofs.YtjenkaobmlpbgaaDoorW.PrintLast Go.Proofs.YtjenkaobmlpbgaaDoorW.PrintMore
attribute [local go_sem] ext_call max2_int min2_int max_two min_two max_three min_three max_four min_four   -- for this text's walks alone
set_option linter.unusedVariables false
set_option linter.unusedSimpArgs false
def smaltolaw05_Lives.f (k : Nat)  : Option (Bool) := (raw_Row.f k 0 4 2 1).bind fun bt227 => (if bt227.1 = 2 then (if (bt227.2.length : Int) = 2 then (if 0 < (bt227.2.length : Int) then (if (rd bt227.2 0) = 536870912 then (if 1 < (bt227.2.length : Int) then (if (rd bt227.2 1) = 536870912 then ((raw_Keys.f k 0 1).bind fun t233 => (if t233 = 1073741824 then ((raw_Keys.f k 1 2).bind fun t234 => (some (t234 == 603979776))) else (some false))) else (some false)) else (none)) else (some false)) else (none)) else (some false)) else (some false))
theorem smaltolaw05_Lives.mono : ∀ k, LeO (smaltolaw05_Lives.f k ) (smaltolaw05_Lives.f (k + 1) ) := by
 intro  k
 unfold smaltolaw05_Lives.f
 repeat' first
   | (with_reducible exact raw_Keys.mono _ _ _)
   | (with_reducible exact raw_Row.mono _ _ _ _ _)
   | (with_reducible exact LeO.refl _)
   | (with_reducible exact LeO.none _)
   | (with_reducible refine LeO.ite ?_ ?_)
   | (with_reducible refine LeO.bind ?_ (fun _ => ?_))
   | exact raw_Keys.mono _ _ _
   | exact raw_Row.mono _ _ _ _ _
   | exact LeO.none _
   | refine LeO.ite ?_ ?_
   | refine LeO.bind ?_ (fun _ => ?_)
set_option maxHeartbeats 8000000 in
set_option maxRecDepth 100000 in
theorem smaltolaw05_Lives.calls (k : Nat)  (r : Bool) (w : World) (hG : GL w) (h : smaltolaw05_Lives.f k  = some r) :
  Calls Tryd.prog 32 #[] w fun e w' => e = .returned (.bool r) ∧ Below w.heap.size w w' := by
 have HB := Aside0.mk (Below.refl w.heap.size w)
 have H : ((raw_Row.f k 0 4 2 1).bind fun bt227 => (if bt227.1 = 2 then (if (bt227.2.length : Int) = 2 then (if 0 < (bt227.2.length : Int) then (if (rd bt227.2 0) = 536870912 then (if 1 < (bt227.2.length : Int) then (if (rd bt227.2 1) = 536870912 then ((raw_Keys.f k 0 1).bind fun t233 => (if t233 = 1073741824 then ((raw_Keys.f k 1 2).bind fun t234 => (some (t234 == 603979776))) else (some false))) else (some false)) else (none)) else (some false)) else (none)) else (some false)) else (some false))) = some r := h
 clear h
 replace H := Option.bind_eq_some_iff.mp H
 obtain ⟨⟨t227, t228⟩, A10, H⟩ := H
 replace H : (if t227 = 2 then (if (t228.length : Int) = 2 then (if 0 < (t228.length : Int) then (if (rd t228 0) = 536870912 then (if 1 < (t228.length : Int) then (if (rd t228 1) = 536870912 then ((raw_Keys.f k 0 1).bind fun t233 => (if t233 = 1073741824 then ((raw_Keys.f k 1 2).bind fun t234 => (some (t234 == 603979776))) else (some false))) else (some false)) else (none)) else (some false)) else (none)) else (some false)) else (some false)) = some r := H
 have A1 := Aside0.mk A10
 clear A10
 by_cases c2 : t227 = 2
 ·rw [if_pos c2] at H
  have c2b0 : (t227 == 2) = true := beq_iff_eq.mpr c2
  have c2b1 : (t227 != 2) = false := bne_eq_false_iff_eq.mpr c2
  clear c2
  by_cases c3 : (t228.length : Int) = 2
  ·rw [if_pos c3] at H
   have c3b0 : ((t228.length : Int) == 2) = true := beq_iff_eq.mpr c3
   have c3b1 : ((t228.length : Int) != 2) = false := bne_eq_false_iff_eq.mpr c3
   clear c3
   by_cases c4 : 0 < (t228.length : Int)
   ·rw [if_pos c4] at H
    have c4b0 : decide (0 < (t228.length : Int)) = true := decide_eq_true c4
    have c4b1 : decide (0 < t228.length) = true := decide_eq_true (by omega)
    clear c4
    by_cases c5 : (rd t228 0) = 536870912
    ·rw [if_pos c5] at H
     have c5b0 : ((rd t228 0) == 536870912) = true := beq_iff_eq.mpr c5
     have c5b1 : ((rd t228 0) != 536870912) = false := bne_eq_false_iff_eq.mpr c5
     clear c5
     by_cases c6 : 1 < (t228.length : Int)
     ·rw [if_pos c6] at H
      have c6b0 : decide (1 < (t228.length : Int)) = true := decide_eq_true c6
      have c6b1 : decide (1 < t228.length) = true := decide_eq_true (by omega)
      clear c6
      by_cases c7 : (rd t228 1) = 536870912
      ·rw [if_pos c7] at H
       have c7b0 : ((rd t228 1) == 536870912) = true := beq_iff_eq.mpr c7
       have c7b1 : ((rd t228 1) != 536870912) = false := bne_eq_false_iff_eq.mpr c7
       clear c7
       replace H := Option.bind_eq_some_iff.mp H
       obtain ⟨t233, A80, H⟩ := H
       replace H : (if t233 = 1073741824 then ((raw_Keys.f k 1 2).bind fun t234 => (some (t234 == 603979776))) else (some false)) = some r := H
       have A8 := Aside0.mk A80
       clear A80
       by_cases c9 : t233 = 1073741824
       ·rw [if_pos c9] at H
        have c9b0 : (t233 == 1073741824) = true := beq_iff_eq.mpr c9
        have c9b1 : (t233 != 1073741824) = false := bne_eq_false_iff_eq.mpr c9
        clear c9
        replace H := Option.bind_eq_some_iff.mp H
        obtain ⟨t234, A100, H⟩ := H
        replace H : (some (t234 == 603979776)) = some r := H
        have A10 := Aside0.mk A100
        clear A100
        obtain rfl := Option.some.inj H
        go_enter Tryd.func32, Tryd.ntmps32
        go_wp2_with (first | ((with_reducible refine gate_callee (f := 37) rfl ?_); refine goesL_ (some 4) rfl rfl Tryd.func37 (by kernel_rfl) rfl #[.int .i64 0, .int .i64 4, .int .i64 2, .int .i64 1] rfl (by (try simp only [List.map_toArray, List.map_cons, List.map_nil]); first | done | rfl | (simp only [List.length_drop, List.length_take]; rfl)) ?_; (with_reducible refine (raw_Row.calls k 0 4 2 1 t227 t228 _ (by exact GL.below hG (by repeat (first | (with_reducible first | exact HB.out | apply below_alloc | apply pw_below_drewN | apply below_drew1) | exact HB.out | exact Below.refl _ _))) A1.out).mono ?_); rintro e w11 ⟨v229, rfl, ho0, hb⟩; refine ⟨_, rfl, ?_⟩; have n0_ := Aside0.mk (Kd.R_lower ho0 (below_size (by repeat (first | (with_reducible first | exact HB.out | apply below_alloc | apply pw_below_drewN | apply below_drew1) | exact HB.out)))); have n1_ := Aside0.mk (below_step (by repeat (first | (with_reducible first | exact HB.out | apply below_alloc | apply pw_below_drewN | apply below_drew1) | exact HB.out)) hb); clear HB; have HO230 := n0_; have HB := n1_; clear n0_ n1_; (try clear hb); (try clear hb2); (try clear hk); (try clear hi); (try clear ho0); obtain ⟨Ao12, co12, eo12⟩ := Kd.R_slice HO230.out; subst eo12; have p231 : 0 ≤ (0 : Int) := (by omega); have q231 : 0 < (t228.length : Int) := of_decide_eq_true (by first | (with_reducible assumption) | assumption); obtain ⟨ad231, e231, hx231_0⟩ := Kd.at_int (Kd.R_reads' HO230.out).2.2 0 p231 q231; cases e231; have qi231 : (0 < t228.length) = True := eq_true (by omega); (try rw [show ((0 : Int)).toNat = 0 from rfl] at hx231_0); (try rw [Addr.add_zero'] at hx231_0); replace p231 := eq_true p231; replace q231 := eq_true q231; have p232 : 0 ≤ (1 : Int) := (by omega); have q232 : 1 < (t228.length : Int) := of_decide_eq_true (by first | (with_reducible assumption) | assumption); obtain ⟨ad232, e232, hx232_0⟩ := Kd.at_int (Kd.R_reads' HO230.out).2.2 1 p232 q232; obtain rfl : ad231 = ad232 := (by injection e232); (try simp only [show (1 : Int).toNat = 1 from rfl, Nat.reduceMul, Nat.reduceEqDiff, Go.Addr.add, ↓reduceIte] at hx232_0); have qi232 : (1 < t228.length) = True := eq_true (by omega); (try rw [show ((1 : Int)).toNat = 1 from rfl] at hx232_0); replace p232 := eq_true p232; replace q232 := eq_true q232) | (go_at_call 43; (with_reducible refine (raw_Keys.calls k 0 1 t233 _ A8.out).mono ?_); rintro e w13 ⟨rfl, hb⟩; have n0_ := Aside0.mk (Kd.R_below (by (with_reducible repeat (first | apply Kd.R_alloc | apply Kd.R_drewN | apply Kd.R_drew)); exact HO230.out) hb); have n1_ := Aside0.mk (below_step (by repeat (first | (with_reducible first | exact HB.out | apply below_alloc | apply pw_below_drewN | apply below_drew1) | exact HB.out)) hb); clear HO230; clear HB; have HO230 := n0_; have HB := n1_; clear n0_ n1_; (try clear hb); (try clear hb2); (try clear hk); (try clear hi)) | (go_at_call 43; (with_reducible refine (raw_Keys.calls k 1 2 t234 _ A10.out).mono ?_); rintro e w14 ⟨rfl, hb⟩; have n0_ := Aside0.mk (Kd.R_below (by (with_reducible repeat (first | apply Kd.R_alloc | apply Kd.R_drewN | apply Kd.R_drew)); exact HO230.out) hb); have n1_ := Aside0.mk (below_step (by repeat (first | (with_reducible first | exact HB.out | apply below_alloc | apply pw_below_drewN | apply below_drew1) | exact HB.out)) hb); clear HO230; clear HB; have HO230 := n0_; have HB := n1_; clear n0_ n1_; (try clear hb); (try clear hb2); (try clear hk); (try clear hi)))
        go_ret
        exact ⟨by first | rfl | (simp [errW_none, errW_some] <;> rfl) | (simp [*, errW_none, errW_some] <;> rfl), by repeat (first | (with_reducible first | exact HB.out | apply below_alloc | apply pw_below_drewN | apply below_drew1) | exact HB.out)⟩
       ·rw [if_neg c9] at H
        have c9b0 : (t233 == 1073741824) = false := beq_eq_false_iff_ne.mpr c9
        have c9b1 : (t233 != 1073741824) = true := bne_iff_ne.mpr c9
        obtain rfl := Option.some.inj H
        go_enter Tryd.func32, Tryd.ntmps32
        go_wp2_with (first | ((with_reducible refine gate_callee (f := 37) rfl ?_); refine goesL_ (some 4) rfl rfl Tryd.func37 (by kernel_rfl) rfl #[.int .i64 0, .int .i64 4, .int .i64 2, .int .i64 1] rfl (by (try simp only [List.map_toArray, List.map_cons, List.map_nil]); first | done | rfl | (simp only [List.length_drop, List.length_take]; rfl)) ?_; (with_reducible refine (raw_Row.calls k 0 4 2 1 t227 t228 _ (by exact GL.below hG (by repeat (first | (with_reducible first | exact HB.out | apply below_alloc | apply pw_below_drewN | apply below_drew1) | exact HB.out | exact Below.refl _ _))) A1.out).mono ?_); rintro e w15 ⟨v229, rfl, ho0, hb⟩; refine ⟨_, rfl, ?_⟩; have n0_ := Aside0.mk (Kd.R_lower ho0 (below_size (by repeat (first | (with_reducible first | exact HB.out | apply below_alloc | apply pw_below_drewN | apply below_drew1) | exact HB.out)))); have n1_ := Aside0.mk (below_step (by repeat (first | (with_reducible first | exact HB.out | apply below_alloc | apply pw_below_drewN | apply below_drew1) | exact HB.out)) hb); clear HB; have HO230 := n0_; have HB := n1_; clear n0_ n1_; (try clear hb); (try clear hb2); (try clear hk); (try clear hi); (try clear ho0); obtain ⟨Ao16, co16, eo16⟩ := Kd.R_slice HO230.out; subst eo16; have p231 : 0 ≤ (0 : Int) := (by omega); have q231 : 0 < (t228.length : Int) := of_decide_eq_true (by first | (with_reducible assumption) | assumption); obtain ⟨ad231, e231, hx231_0⟩ := Kd.at_int (Kd.R_reads' HO230.out).2.2 0 p231 q231; cases e231; have qi231 : (0 < t228.length) = True := eq_true (by omega); (try rw [show ((0 : Int)).toNat = 0 from rfl] at hx231_0); (try rw [Addr.add_zero'] at hx231_0); replace p231 := eq_true p231; replace q231 := eq_true q231; have p232 : 0 ≤ (1 : Int) := (by omega); have q232 : 1 < (t228.length : Int) := of_decide_eq_true (by first | (with_reducible assumption) | assumption); obtain ⟨ad232, e232, hx232_0⟩ := Kd.at_int (Kd.R_reads' HO230.out).2.2 1 p232 q232; obtain rfl : ad231 = ad232 := (by injection e232); (try simp only [show (1 : Int).toNat = 1 from rfl, Nat.reduceMul, Nat.reduceEqDiff, Go.Addr.add, ↓reduceIte] at hx232_0); have qi232 : (1 < t228.length) = True := eq_true (by omega); (try rw [show ((1 : Int)).toNat = 1 from rfl] at hx232_0); replace p232 := eq_true p232; replace q232 := eq_true q232) | (go_at_call 43; (with_reducible refine (raw_Keys.calls k 0 1 t233 _ A8.out).mono ?_); rintro e w17 ⟨rfl, hb⟩; have n0_ := Aside0.mk (Kd.R_below (by (with_reducible repeat (first | apply Kd.R_alloc | apply Kd.R_drewN | apply Kd.R_drew)); exact HO230.out) hb); have n1_ := Aside0.mk (below_step (by repeat (first | (with_reducible first | exact HB.out | apply below_alloc | apply pw_below_drewN | apply below_drew1) | exact HB.out)) hb); clear HO230; clear HB; have HO230 := n0_; have HB := n1_; clear n0_ n1_; (try clear hb); (try clear hb2); (try clear hk); (try clear hi)))
        go_ret
        exact ⟨by first | rfl | (simp [errW_none, errW_some] <;> rfl) | (simp [*, errW_none, errW_some] <;> rfl), by repeat (first | (with_reducible first | exact HB.out | apply below_alloc | apply pw_below_drewN | apply below_drew1) | exact HB.out)⟩
      ·rw [if_neg c7] at H
       have c7b0 : ((rd t228 1) == 536870912) = false := beq_eq_false_iff_ne.mpr c7
       have c7b1 : ((rd t228 1) != 536870912) = true := bne_iff_ne.mpr c7
       obtain rfl := Option.some.inj H
       go_enter Tryd.func32, Tryd.ntmps32
       go_wp2_with (first | ((with_reducible refine gate_callee (f := 37) rfl ?_); refine goesL_ (some 4) rfl rfl Tryd.func37 (by kernel_rfl) rfl #[.int .i64 0, .int .i64 4, .int .i64 2, .int .i64 1] rfl (by (try simp only [List.map_toArray, List.map_cons, List.map_nil]); first | done | rfl | (simp only [List.length_drop, List.length_take]; rfl)) ?_; (with_reducible refine (raw_Row.calls k 0 4 2 1 t227 t228 _ (by exact GL.below hG (by repeat (first | (with_reducible first | exact HB.out | apply below_alloc | apply pw_below_drewN | apply below_drew1) | exact HB.out | exact Below.refl _ _))) A1.out).mono ?_); rintro e w18 ⟨v229, rfl, ho0, hb⟩; refine ⟨_, rfl, ?_⟩; have n0_ := Aside0.mk (Kd.R_lower ho0 (below_size (by repeat (first | (with_reducible first | exact HB.out | apply below_alloc | apply pw_below_drewN | apply below_drew1) | exact HB.out)))); have n1_ := Aside0.mk (below_step (by repeat (first | (with_reducible first | exact HB.out | apply below_alloc | apply pw_below_drewN | apply below_drew1) | exact HB.out)) hb); clear HB; have HO230 := n0_; have HB := n1_; clear n0_ n1_; (try clear hb); (try clear hb2); (try clear hk); (try clear hi); (try clear ho0); obtain ⟨Ao19, co19, eo19⟩ := Kd.R_slice HO230.out; subst eo19; have p231 : 0 ≤ (0 : Int) := (by omega); have q231 : 0 < (t228.length : Int) := of_decide_eq_true (by first | (with_reducible assumption) | assumption); obtain ⟨ad231, e231, hx231_0⟩ := Kd.at_int (Kd.R_reads' HO230.out).2.2 0 p231 q231; cases e231; have qi231 : (0 < t228.length) = True := eq_true (by omega); (try rw [show ((0 : Int)).toNat = 0 from rfl] at hx231_0); (try rw [Addr.add_zero'] at hx231_0); replace p231 := eq_true p231; replace q231 := eq_true q231; have p232 : 0 ≤ (1 : Int) := (by omega); have q232 : 1 < (t228.length : Int) := of_decide_eq_true (by first | (with_reducible assumption) | assumption); obtain ⟨ad232, e232, hx232_0⟩ := Kd.at_int (Kd.R_reads' HO230.out).2.2 1 p232 q232; obtain rfl : ad231 = ad232 := (by injection e232); (try simp only [show (1 : Int).toNat = 1 from rfl, Nat.reduceMul, Nat.reduceEqDiff, Go.Addr.add, ↓reduceIte] at hx232_0); have qi232 : (1 < t228.length) = True := eq_true (by omega); (try rw [show ((1 : Int)).toNat = 1 from rfl] at hx232_0); replace p232 := eq_true p232; replace q232 := eq_true q232))
       go_ret
       exact ⟨by first | rfl | (simp [errW_none, errW_some] <;> rfl) | (simp [*, errW_none, errW_some] <;> rfl), by repeat (first | (with_reducible first | exact HB.out | apply below_alloc | apply pw_below_drewN | apply below_drew1) | exact HB.out)⟩
     ·rw [if_neg c6] at H
      exact absurd H (by simp)
    ·rw [if_neg c5] at H
     have c5b0 : ((rd t228 0) == 536870912) = false := beq_eq_false_iff_ne.mpr c5
     have c5b1 : ((rd t228 0) != 536870912) = true := bne_iff_ne.mpr c5
     obtain rfl := Option.some.inj H
     go_enter Tryd.func32, Tryd.ntmps32
     go_wp2_with (first | ((with_reducible refine gate_callee (f := 37) rfl ?_); refine goesL_ (some 4) rfl rfl Tryd.func37 (by kernel_rfl) rfl #[.int .i64 0, .int .i64 4, .int .i64 2, .int .i64 1] rfl (by (try simp only [List.map_toArray, List.map_cons, List.map_nil]); first | done | rfl | (simp only [List.length_drop, List.length_take]; rfl)) ?_; (with_reducible refine (raw_Row.calls k 0 4 2 1 t227 t228 _ (by exact GL.below hG (by repeat (first | (with_reducible first | exact HB.out | apply below_alloc | apply pw_below_drewN | apply below_drew1) | exact HB.out | exact Below.refl _ _))) A1.out).mono ?_); rintro e w20 ⟨v229, rfl, ho0, hb⟩; refine ⟨_, rfl, ?_⟩; have n0_ := Aside0.mk (Kd.R_lower ho0 (below_size (by repeat (first | (with_reducible first | exact HB.out | apply below_alloc | apply pw_below_drewN | apply below_drew1) | exact HB.out)))); have n1_ := Aside0.mk (below_step (by repeat (first | (with_reducible first | exact HB.out | apply below_alloc | apply pw_below_drewN | apply below_drew1) | exact HB.out)) hb); clear HB; have HO230 := n0_; have HB := n1_; clear n0_ n1_; (try clear hb); (try clear hb2); (try clear hk); (try clear hi); (try clear ho0); obtain ⟨Ao21, co21, eo21⟩ := Kd.R_slice HO230.out; subst eo21; have p231 : 0 ≤ (0 : Int) := (by omega); have q231 : 0 < (t228.length : Int) := of_decide_eq_true (by first | (with_reducible assumption) | assumption); obtain ⟨ad231, e231, hx231_0⟩ := Kd.at_int (Kd.R_reads' HO230.out).2.2 0 p231 q231; cases e231; have qi231 : (0 < t228.length) = True := eq_true (by omega); (try rw [show ((0 : Int)).toNat = 0 from rfl] at hx231_0); (try rw [Addr.add_zero'] at hx231_0); replace p231 := eq_true p231; replace q231 := eq_true q231))
     go_ret
     exact ⟨by first | rfl | (simp [errW_none, errW_some] <;> rfl) | (simp [*, errW_none, errW_some] <;> rfl), by repeat (first | (with_reducible first | exact HB.out | apply below_alloc | apply pw_below_drewN | apply below_drew1) | exact HB.out)⟩
   ·rw [if_neg c4] at H
    exact absurd H (by simp)
  ·rw [if_neg c3] at H
   have c3b0 : ((t228.length : Int) == 2) = false := beq_eq_false_iff_ne.mpr c3
   have c3b1 : ((t228.length : Int) != 2) = true := bne_iff_ne.mpr c3
   obtain rfl := Option.some.inj H
   go_enter Tryd.func32, Tryd.ntmps32
   go_wp2_with (first | ((with_reducible refine gate_callee (f := 37) rfl ?_); refine goesL_ (some 4) rfl rfl Tryd.func37 (by kernel_rfl) rfl #[.int .i64 0, .int .i64 4, .int .i64 2, .int .i64 1] rfl (by (try simp only [List.map_toArray, List.map_cons, List.map_nil]); first | done | rfl | (simp only [List.length_drop, List.length_take]; rfl)) ?_; (with_reducible refine (raw_Row.calls k 0 4 2 1 t227 t228 _ (by exact GL.below hG (by repeat (first | (with_reducible first | exact HB.out | apply below_alloc | apply pw_below_drewN | apply below_drew1) | exact HB.out | exact Below.refl _ _))) A1.out).mono ?_); rintro e w22 ⟨v229, rfl, ho0, hb⟩; refine ⟨_, rfl, ?_⟩; have n0_ := Aside0.mk (Kd.R_lower ho0 (below_size (by repeat (first | (with_reducible first | exact HB.out | apply below_alloc | apply pw_below_drewN | apply below_drew1) | exact HB.out)))); have n1_ := Aside0.mk (below_step (by repeat (first | (with_reducible first | exact HB.out | apply below_alloc | apply pw_below_drewN | apply below_drew1) | exact HB.out)) hb); clear HB; have HO230 := n0_; have HB := n1_; clear n0_ n1_; (try clear hb); (try clear hb2); (try clear hk); (try clear hi); (try clear ho0); obtain ⟨Ao23, co23, eo23⟩ := Kd.R_slice HO230.out; subst eo23))
   go_ret
   exact ⟨by first | rfl | (simp [errW_none, errW_some] <;> rfl) | (simp [*, errW_none, errW_some] <;> rfl), by repeat (first | (with_reducible first | exact HB.out | apply below_alloc | apply pw_below_drewN | apply below_drew1) | exact HB.out)⟩
 ·rw [if_neg c2] at H
  have c2b0 : (t227 == 2) = false := beq_eq_false_iff_ne.mpr c2
  have c2b1 : (t227 != 2) = true := bne_iff_ne.mpr c2
  obtain rfl := Option.some.inj H
  go_enter Tryd.func32, Tryd.ntmps32
  go_wp2_with (first | ((with_reducible refine gate_callee (f := 37) rfl ?_); refine goesL_ (some 4) rfl rfl Tryd.func37 (by kernel_rfl) rfl #[.int .i64 0, .int .i64 4, .int .i64 2, .int .i64 1] rfl (by (try simp only [List.map_toArray, List.map_cons, List.map_nil]); first | done | rfl | (simp only [List.length_drop, List.length_take]; rfl)) ?_; (with_reducible refine (raw_Row.calls k 0 4 2 1 t227 t228 _ (by exact GL.below hG (by repeat (first | (with_reducible first | exact HB.out | apply below_alloc | apply pw_below_drewN | apply below_drew1) | exact HB.out | exact Below.refl _ _))) A1.out).mono ?_); rintro e w24 ⟨v229, rfl, ho0, hb⟩; refine ⟨_, rfl, ?_⟩; have n0_ := Aside0.mk (Kd.R_lower ho0 (below_size (by repeat (first | (with_reducible first | exact HB.out | apply below_alloc | apply pw_below_drewN | apply below_drew1) | exact HB.out)))); have n1_ := Aside0.mk (below_step (by repeat (first | (with_reducible first | exact HB.out | apply below_alloc | apply pw_below_drewN | apply below_drew1) | exact HB.out)) hb); clear HB; have HO230 := n0_; have HB := n1_; clear n0_ n1_; (try clear hb); (try clear hb2); (try clear hk); (try clear hi); (try clear ho0)))
  go_ret
  exact ⟨by first | rfl | (simp [errW_none, errW_some] <;> rfl) | (simp [*, errW_none, errW_some] <;> rfl), by repeat (first | (with_reducible first | exact HB.out | apply below_alloc | apply pw_below_drewN | apply below_drew1) | exact HB.out)⟩
def smaltoref06_Same.l0 : Nat → List Int → List Int → Int → Int → Option (Bool)
 | 0, _, _, _, _ => none
 | k + 1, x0, x1, x12, x13 => if x13 < x12 then (if 0 ≤ x13 then (if x13 < (x0.length : Int) then (if x13 < (x1.length : Int) then (if (rd x0 x13) = (rd x1 x13) then (smaltoref06_Same.l0 k x0 x1 x12 (wrap64 (x13 + 1))) else (some false)) else (none)) else (none)) else (none)) else (some true)
def smaltoref06_Same.f (k : Nat) (l0 : List Int) (l1 : List Int) : Option (Bool) := if (l0.length : Int) = (l1.length : Int) then (smaltoref06_Same.l0 k l0 l1 (l0.length : Int) 0) else (some false)
theorem smaltoref06_Same.mono_l : ∀ k, (∀ y0 y1 y2 y3, LeO (smaltoref06_Same.l0 k y0 y1 y2 y3) (smaltoref06_Same.l0 (k + 1) y0 y1 y2 y3))
 | 0 => fun _ _ _ _ r h => by simp [smaltoref06_Same.l0] at h
 | k + 1 => by
  have ih0 := smaltoref06_Same.mono_l k
  ·intro y0 y1 y2 y3
   unfold smaltoref06_Same.l0
   repeat' first
   | (with_reducible exact ih0 _ _ _ _)
   | (with_reducible exact LeO.refl _)
   | (with_reducible exact LeO.none _)
   | (with_reducible refine LeO.ite ?_ ?_)
   | (with_reducible refine LeO.bind ?_ (fun _ => ?_))
   | exact ih0 _ _ _ _
   | exact LeO.none _
   | refine LeO.ite ?_ ?_
   | refine LeO.bind ?_ (fun _ => ?_)
theorem smaltoref06_Same.mono : ∀ a0 a1 k, LeO (smaltoref06_Same.f k a0 a1) (smaltoref06_Same.f (k + 1) a0 a1) := by
 intro a0 a1 k
 have ih0 := smaltoref06_Same.mono_l k
 unfold smaltoref06_Same.f
 repeat' first
   | (with_reducible exact ih0 _ _ _ _)
   | (with_reducible exact LeO.refl _)
   | (with_reducible exact LeO.none _)
   | (with_reducible refine LeO.ite ?_ ?_)
   | (with_reducible refine LeO.bind ?_ (fun _ => ?_))
   | exact ih0 _ _ _ _
   | exact LeO.none _
   | refine LeO.ite ?_ ?_
   | refine LeO.bind ?_ (fun _ => ?_)
set_option maxHeartbeats 8000000 in
set_option maxRecDepth 100000 in
theorem smaltoref06_Same.calls (k : Nat) (A0 : Option Addr) (c0 : Nat) (l0 : List Int) (A1 : Option Addr) (c1 : Nat) (l1 : List Int) (r : Bool) (w : World) (hr0 : Kd.C (Kd.int .i64) w A0 l0.length l0) (hc0 : l0.length ≤ c0) (hr1 : Kd.C (Kd.int .i64) w A1 l1.length l1) (hc1 : l1.length ≤ c1) (h : smaltoref06_Same.f k l0 l1 = some r) :
  Calls Tryd.prog 35 #[.slice A0 l0.length c0, .slice A1 l1.length c1] w fun e w' => e = .returned (.bool r) ∧ Drawn0 w w' := by
 have HR0 := Aside0.mk hr0
 have HC0 := Aside0.mk hc0
 clear hr0 hc0
 have HR1 := Aside0.mk hr1
 have HC1 := Aside0.mk hc1
 clear hr1 hc1
 have H : (if (l0.length : Int) = (l1.length : Int) then (smaltoref06_Same.l0 k l0 l1 (l0.length : Int) 0) else (some false)) = some r := h
 clear h
 by_cases c3 : (l0.length : Int) = (l1.length : Int)
 ·rw [if_pos c3] at H
  have c3b0 : ((l0.length : Int) == (l1.length : Int)) = true := beq_iff_eq.mpr c3
  have c3b1 : ((l0.length : Int) != (l1.length : Int)) = false := bne_eq_false_iff_eq.mpr c3
  have c3b2 : (l0.length == l1.length) = true := by first | simpa using c3 | (simp at c3 ⊢; omega)
  clear c3
  have H' := Aside0.mk H
  clear H
  go_enter Tryd.func35, Tryd.ntmps35
  go_wp2
  repeat (go_quiet (fail); try go_wp2)
  go_loopg [13] k (fun kq v13 w' => ∃ (x13_1 : Int), v13 = .int .i64 x13_1 ∧ Aside0 (smaltoref06_Same.l0 kq l0 l1 (l0.length : Int) x13_1 = some r) ∧ Aside0 (kq ≤ k) ∧ Drawn0 w w')
  case atStart => exact ⟨(0), (by first | rfl | (simp; done) | (simp [*]; done)), H', ⟨Nat.le_refl _⟩, by repeat (first | exact Drawn0.refl _ | apply Drawn0.step)⟩
  case round =>
   clear H'
   try clear c1
   try clear p2
   try clear c3
   try clear c3b0
   try clear c3b1
   try clear c3b2
   obtain ⟨x13_1, rfl, HA, HK1, ⟨m1, rfl⟩⟩ := hrel
   cases gk with
   | zero => exact absurd HA.out (by simp [smaltoref06_Same.l0])
   | succ k1 =>
    have H := HA.out
    clear HA
    simp only [smaltoref06_Same.l0] at H
    by_cases c4 : x13_1 < (l0.length : Int)
    ·rw [if_pos c4] at H
     have c4b0 : decide (x13_1 < (l0.length : Int)) = true := decide_eq_true c4
     clear c4
     by_cases c5 : 0 ≤ x13_1
     ·rw [if_pos c5] at H
      have c5b0 : decide (0 ≤ x13_1) = true := decide_eq_true c5
      clear c5
      by_cases c6 : x13_1 < (l0.length : Int)
      ·rw [if_pos c6] at H
       have c6b0 : decide (x13_1 < (l0.length : Int)) = true := decide_eq_true c6
       clear c6
       by_cases c7 : x13_1 < (l1.length : Int)
       ·rw [if_pos c7] at H
        have c7b0 : decide (x13_1 < (l1.length : Int)) = true := decide_eq_true c7
        clear c7
        by_cases c8 : (rd l0 x13_1) = (rd l1 x13_1)
        ·rw [if_pos c8] at H
         have c8b0 : ((rd l0 x13_1) == (rd l1 x13_1)) = true := beq_iff_eq.mpr c8
         have c8b1 : ((rd l0 x13_1) != (rd l1 x13_1)) = false := bne_eq_false_iff_eq.mpr c8
         clear c8
         have H' := Aside0.mk H
         clear H
         have p235 : 0 ≤ (x13_1 : Int) := of_decide_eq_true (by first | (with_reducible assumption) | assumption)
         have q235 : x13_1 < (l0.length : Int) := of_decide_eq_true (by first | (with_reducible assumption) | assumption)
         obtain ⟨ad235, e235, hx235_0⟩ := Kd.at_int HR0.out x13_1 p235 q235
         cases e235
         replace p235 := eq_true p235
         replace q235 := eq_true q235
         have p236 : 0 ≤ (x13_1 : Int) := of_decide_eq_true (by first | (with_reducible assumption) | assumption)
         have q236 : x13_1 < (l1.length : Int) := of_decide_eq_true (by first | (with_reducible assumption) | assumption)
         obtain ⟨ad236, e236, hx236_0⟩ := Kd.at_int HR1.out x13_1 p236 q236
         cases e236
         replace p236 := eq_true p236
         replace q236 := eq_true q236
         go_wp2
         repeat (go_quiet (fail); try go_wp2)
         go_roundg k1
         case measure => have := HK1.out; omega
         case rel => exact ⟨(wrap64 (x13_1 + 1)), (by first | rfl | (simp; done) | (simp [*]; done)), H', ⟨by have := HK1.out; omega⟩, by repeat (first | exact Drawn0.refl _ | apply Drawn0.step)⟩
        ·rw [if_neg c8] at H
         have c8b0 : ((rd l0 x13_1) == (rd l1 x13_1)) = false := beq_eq_false_iff_ne.mpr c8
         have c8b1 : ((rd l0 x13_1) != (rd l1 x13_1)) = true := bne_iff_ne.mpr c8
         obtain rfl := Option.some.inj H
         have p235 : 0 ≤ (x13_1 : Int) := of_decide_eq_true (by first | (with_reducible assumption) | assumption)
         have q235 : x13_1 < (l0.length : Int) := of_decide_eq_true (by first | (with_reducible assumption) | assumption)
         obtain ⟨ad235, e235, hx235_0⟩ := Kd.at_int HR0.out x13_1 p235 q235
         cases e235
         replace p235 := eq_true p235
         replace q235 := eq_true q235
         have p236 : 0 ≤ (x13_1 : Int) := of_decide_eq_true (by first | (with_reducible assumption) | assumption)
         have q236 : x13_1 < (l1.length : Int) := of_decide_eq_true (by first | (with_reducible assumption) | assumption)
         obtain ⟨ad236, e236, hx236_0⟩ := Kd.at_int HR1.out x13_1 p236 q236
         cases e236
         replace p236 := eq_true p236
         replace q236 := eq_true q236
         go_wp2
         repeat (go_quiet (fail); try go_wp2)
         go_ret
         exact ⟨by first | rfl | (simp; done) | (simp [*]; done), by repeat (first | exact Drawn0.refl _ | apply Drawn0.step)⟩
       ·rw [if_neg c7] at H
        exact absurd H (by simp)
      ·rw [if_neg c6] at H
       exact absurd H (by simp)
     ·rw [if_neg c5] at H
      exact absurd H (by simp)
    ·rw [if_neg c4] at H
     have c4b0 : decide (x13_1 < (l0.length : Int)) = false := decide_eq_false c4
     clear c4
     obtain rfl := Option.some.inj H
     go_wp2
     repeat (go_quiet (fail); try go_wp2)
     go_ret
     exact ⟨by first | rfl | (simp; done) | (simp [*]; done), by repeat (first | exact Drawn0.refl _ | apply Drawn0.step)⟩
 ·rw [if_neg c3] at H
  have c3b0 : ((l0.length : Int) == (l1.length : Int)) = false := beq_eq_false_iff_ne.mpr c3
  have c3b1 : ((l0.length : Int) != (l1.length : Int)) = true := bne_iff_ne.mpr c3
  have c3b2 : (l0.length == l1.length) = false := by first | simpa using c3 | (simp at c3 ⊢; omega)
  obtain rfl := Option.some.inj H
  go_enter Tryd.func35, Tryd.ntmps35
  go_wp2
  repeat (go_quiet (fail); try go_wp2)
  go_ret
  exact ⟨by first | rfl | (simp; done) | (simp [*]; done), by repeat (first | exact Drawn0.refl _ | apply Drawn0.step)⟩
def smaltolaw06_Lives.f (k : Nat)  : Option (Bool) := (taps_Apportion.f (([536870912, 536870912, 536870912] : List Int))).bind fun bt240 => ((taps_Gaussian.f k 65536).bind fun bt244 => (if bt240.2 = 0 then ((smaltoref06_Same.f k bt240.1 (([5462, 5461, 5461] : List Int))).bind fun t251 => (if t251 = true then (if bt244.2 = 0 then (some ((bt244.1.length : Int) == 7)) else (some false)) else (some false))) else (some false)))
theorem smaltolaw06_Lives.mono : ∀ k, LeO (smaltolaw06_Lives.f k ) (smaltolaw06_Lives.f (k + 1) ) := by
 intro  k
 unfold smaltolaw06_Lives.f
 repeat' first
   | (with_reducible exact smaltoref06_Same.mono _ _ _)
   | (with_reducible exact taps_Gaussian.mono _ _)
   | (with_reducible exact LeO.refl _)
   | (with_reducible exact LeO.none _)
   | (with_reducible refine LeO.ite ?_ ?_)
   | (with_reducible refine LeO.bind ?_ (fun _ => ?_))
   | exact smaltoref06_Same.mono _ _ _
   | exact taps_Gaussian.mono _ _
   | exact LeO.none _
   | refine LeO.ite ?_ ?_
   | refine LeO.bind ?_ (fun _ => ?_)
set_option maxHeartbeats 8000000 in
set_option maxRecDepth 100000 in
theorem smaltolaw06_Lives.calls (k : Nat)  (r : Bool) (w : World) (h : smaltolaw06_Lives.f k  = some r) :
  Calls Tryd.prog 33 #[] w fun e w' => e = .returned (.bool r) ∧ Below w.heap.size w w' := by
 have HB := Aside0.mk (Below.refl w.heap.size w)
 have H : ((taps_Apportion.f (([536870912, 536870912, 536870912] : List Int))).bind fun bt240 => ((taps_Gaussian.f k 65536).bind fun bt244 => (if bt240.2 = 0 then ((smaltoref06_Same.f k bt240.1 (([5462, 5461, 5461] : List Int))).bind fun t251 => (if t251 = true then (if bt244.2 = 0 then (some ((bt244.1.length : Int) == 7)) else (some false)) else (some false))) else (some false)))) = some r := h
 clear h
 obtain ⟨y237, hy237⟩ : ∃ y_ : List Int, y_ = (([536870912, 536870912, 536870912] : List Int)) := ⟨_, rfl⟩
 replace H : ((taps_Apportion.f y237).bind fun bt240 => ((taps_Gaussian.f k 65536).bind fun bt244 => (if bt240.2 = 0 then ((smaltoref06_Same.f k bt240.1 (([5462, 5461, 5461] : List Int))).bind fun t251 => (if t251 = true then (if bt244.2 = 0 then (some ((bt244.1.length : Int) == 7)) else (some false)) else (some false))) else (some false)))) = some r := by first | (rw [hy237]; with_reducible exact H) | (have H2_ := (Option.bind_some _ _).symm.trans H; rw [hy237]; with_reducible exact H2_) | (have H2_ := (Option.bind_some _ _).symm.trans H; with_reducible exact H2_) | with_reducible exact H | (rw [hy237]; exact H) | exact H
 have Ny237 := Aside0.mk hy237
 clear hy237
 replace H := Option.bind_eq_some_iff.mp H
 obtain ⟨⟨t240, t241⟩, A10, H⟩ := H
 replace H : ((taps_Gaussian.f k 65536).bind fun bt244 => (if t241 = 0 then ((smaltoref06_Same.f k t240 (([5462, 5461, 5461] : List Int))).bind fun t251 => (if t251 = true then (if bt244.2 = 0 then (some ((bt244.1.length : Int) == 7)) else (some false)) else (some false))) else (some false))) = some r := H
 have A1 := Aside0.mk A10
 clear A10
 replace H := Option.bind_eq_some_iff.mp H
 obtain ⟨⟨t244, t245⟩, A20, H⟩ := H
 replace H : (if t241 = 0 then ((smaltoref06_Same.f k t240 (([5462, 5461, 5461] : List Int))).bind fun t251 => (if t251 = true then (if t245 = 0 then (some ((t244.length : Int) == 7)) else (some false)) else (some false))) else (some false)) = some r := H
 have A2 := Aside0.mk A20
 clear A20
 by_cases c3 : t241 = 0
 ·rw [if_pos c3] at H
  have c3b0 : (t241 == 0) = true := beq_iff_eq.mpr c3
  have c3b1 : (t241 != 0) = false := bne_eq_false_iff_eq.mpr c3
  clear c3
  obtain ⟨y248, hy248⟩ : ∃ y_ : List Int, y_ = (([5462, 5461, 5461] : List Int)) := ⟨_, rfl⟩
  replace H : ((smaltoref06_Same.f k t240 y248).bind fun t251 => (if t251 = true then (if t245 = 0 then (some ((t244.length : Int) == 7)) else (some false)) else (some false))) = some r := by first | (rw [hy248]; with_reducible exact H) | (have H2_ := (Option.bind_some _ _).symm.trans H; rw [hy248]; with_reducible exact H2_) | (have H2_ := (Option.bind_some _ _).symm.trans H; with_reducible exact H2_) | with_reducible exact H | (rw [hy248]; exact H) | exact H
  have Ny248 := Aside0.mk hy248
  clear hy248
  replace H := Option.bind_eq_some_iff.mp H
  obtain ⟨t251, A40, H⟩ := H
  replace H : (if t251 = true then (if t245 = 0 then (some ((t244.length : Int) == 7)) else (some false)) else (some false)) = some r := H
  have A4 := Aside0.mk A40
  clear A40
  by_cases c5 : t251 = true
  ·subst c5
   have H1 : (if t245 = 0 then (some ((t244.length : Int) == 7)) else (some false)) = some r := by rw [if_pos rfl] at H; exact H
   clear H
   have H := H1
   clear H1
   by_cases c6 : t245 = 0
   ·rw [if_pos c6] at H
    have c6b0 : (t245 == 0) = true := beq_iff_eq.mpr c6
    have c6b1 : (t245 != 0) = false := bne_eq_false_iff_eq.mpr c6
    clear c6
    obtain rfl := Option.some.inj H
    go_enter Tryd.func33, Tryd.ntmps33
    go_wp2_with (first | ((with_reducible refine gate_dst (N := 6) rfl ?_); (try (refine gate_guard (by rfl) ?_; dsimp only)); refine Kd.R_lit (Kd.int .i64) _ 2 ?hg (N := 6) ?hd (xs := ([536870912, 536870912, 536870912] : List Int)) (inner := [.int .i64 536870912, .int .i64 536870912, .int .i64 536870912]) (ok := fun _ => True) (okp := fun _ => True) ?hr ?hp (fun _ hk => hk) trivial (Below.refl _ _) (Nat.le_refl _) (by simp) ?_; (case hd => rfl); (case hg => rfl); (case hr => first | (go_simp; done) | (go_simp; rfl)); (case hp => exact (Reps.one (show Kd.M (Kd.int .i64) _ _ _ 536870912 [.int .i64 536870912] from rfl) (Reps.one (show Kd.M (Kd.int .i64) _ _ _ 536870912 [.int .i64 536870912] from rfl) (Reps.one (show Kd.M (Kd.int .i64) _ _ _ 536870912 [.int .i64 536870912] from rfl) (Reps.none _ _))))); intro v238 w7 ho8 hb hg_ hnew_; clear hg_ hnew_; (first | rw [← Ny237.out] at ho8 | (simp only [Int.reduceToNat] at ho8; rw [← Ny237.out] at ho8)); have n0_ := Aside0.mk (Kd.R_lower ho8 (below_size (by repeat (first | (with_reducible first | exact HB.out | apply below_alloc | apply pw_below_drewN | apply below_drew1) | exact HB.out)))); have n1_ := Aside0.mk (below_step (by repeat (first | (with_reducible first | exact HB.out | apply below_alloc | apply pw_below_drewN | apply below_drew1) | exact HB.out)) hb); clear HB; have HO239 := n0_; have HB := n1_; clear n0_ n1_; clear hb ho8; obtain ⟨Ao9, co9, eo9⟩ := Kd.R_slice HO239.out; subst eo9) | ((with_reducible refine gate_callee (f := 38) rfl ?_); refine goesL_ (some 7) rfl rfl Tryd.func38 (by kernel_rfl) rfl #[.slice Ao9 y237.length co9] rfl (by (try simp only [List.map_toArray, List.map_cons, List.map_nil]); first | done | rfl | (simp only [List.length_drop, List.length_take]; rfl)) ?_; (with_reducible refine (taps_Apportion.calls _ _ y237 t240 t241 _ ?side1 ?side2 A1.out).mono ?_); (case side1 => repeat (first | exact (Kd.R_reads' HO239.out).2.2 | (with_reducible refine Kd.C_alloc ?_ _) | (with_reducible refine Kd.C_drewN ?_ _) | (with_reducible refine Kd.C_drew ?_))); (case side2 => exact (Kd.R_reads' HO239.out).2.1); rintro e w10 ⟨v242, rfl, ho0, hb⟩; refine ⟨_, rfl, ?_⟩; have n0_ := Aside0.mk (Kd.R_elder' (by (with_reducible repeat (first | apply Kd.R_alloc | apply Kd.R_drewN | apply Kd.R_drew)); exact HO239.out) (Kd.R_base ho0) hb); have n1_ := Aside0.mk (Kd.R_lower (Kd.R_new' ho0 (Kd.R_lt (by (with_reducible repeat (first | apply Kd.R_alloc | apply Kd.R_drewN | apply Kd.R_drew)); exact HO239.out))) (below_size (by repeat (first | (with_reducible first | exact HB.out | apply below_alloc | apply pw_below_drewN | apply below_drew1) | exact HB.out)))); have n2_ := Aside0.mk (below_step (by repeat (first | (with_reducible first | exact HB.out | apply below_alloc | apply pw_below_drewN | apply below_drew1) | exact HB.out)) hb); clear HO239; clear HB; have HO239 := n0_; have HO243 := n1_; have HB := n2_; clear n0_ n1_ n2_; (try clear hb); (try clear hb2); (try clear hk); (try clear hi); (try clear ho0)) | ((with_reducible refine gate_callee (f := 40) rfl ?_); refine goesL_ (some 11) rfl rfl Tryd.func40 (by kernel_rfl) rfl #[.int .i64 65536] rfl (by (try simp only [List.map_toArray, List.map_cons, List.map_nil]); first | done | rfl | (simp only [List.length_drop, List.length_take]; rfl)) ?_; (with_reducible refine (taps_Gaussian.calls k 65536 t244 t245 _ A2.out).mono ?_); rintro e w11 ⟨v246, rfl, ho0, hb⟩; refine ⟨_, rfl, ?_⟩; have n0_ := Aside0.mk (Kd.R_elder' (by (with_reducible repeat (first | apply Kd.R_alloc | apply Kd.R_drewN | apply Kd.R_drew)); exact HO239.out) (Kd.R_base ho0) hb); have n1_ := Aside0.mk (Kd.R_elder' (by (with_reducible repeat (first | apply Kd.R_alloc | apply Kd.R_drewN | apply Kd.R_drew)); exact HO243.out) (Kd.R_base ho0) hb); have n2_ := Aside0.mk (Kd.R_lower (Kd.R_new' (Kd.R_new' ho0 (Kd.R_lt (by (with_reducible repeat (first | apply Kd.R_alloc | apply Kd.R_drewN | apply Kd.R_drew)); exact HO239.out))) (Kd.R_lt (by (with_reducible repeat (first | apply Kd.R_alloc | apply Kd.R_drewN | apply Kd.R_drew)); exact HO243.out))) (below_size (by repeat (first | (with_reducible first | exact HB.out | apply below_alloc | apply pw_below_drewN | apply below_drew1) | exact HB.out)))); have n3_ := Aside0.mk (below_step (by repeat (first | (with_reducible first | exact HB.out | apply below_alloc | apply pw_below_drewN | apply below_drew1) | exact HB.out)) hb); clear HO239; clear HO243; clear HB; have HO239 := n0_; have HO243 := n1_; have HO247 := n2_; have HB := n3_; clear n0_ n1_ n2_ n3_; (try clear hb); (try clear hb2); (try clear hk); (try clear hi); (try clear ho0)) | ((with_reducible refine gate_dst (N := 18) rfl ?_); (try (refine gate_guard (by rfl) ?_; dsimp only)); refine Kd.R_lit (Kd.int .i64) _ 2 ?hg (N := 18) ?hd (xs := ([5462, 5461, 5461] : List Int)) (inner := [.int .i64 5462, .int .i64 5461, .int .i64 5461]) (ok := fun _ => True) (okp := fun _ => True) ?hr ?hp (fun _ hk => hk) trivial (Below.refl _ _) (Nat.le_refl _) (by simp) ?_; (case hd => rfl); (case hg => rfl); (case hr => first | (go_simp; done) | (go_simp; rfl)); (case hp => exact (Reps.one (show Kd.M (Kd.int .i64) _ _ _ 5462 [.int .i64 5462] from rfl) (Reps.one (show Kd.M (Kd.int .i64) _ _ _ 5461 [.int .i64 5461] from rfl) (Reps.one (show Kd.M (Kd.int .i64) _ _ _ 5461 [.int .i64 5461] from rfl) (Reps.none _ _))))); intro v249 w12 ho13 hb hg_ hnew_; clear hg_ hnew_; (first | rw [← Ny248.out] at ho13 | (simp only [Int.reduceToNat] at ho13; rw [← Ny248.out] at ho13)); have n0_ := Aside0.mk (Kd.R_elder' (by (with_reducible repeat (first | apply Kd.R_alloc | apply Kd.R_drewN | apply Kd.R_drew)); exact HO239.out) (Kd.R_base ho13) hb); have n1_ := Aside0.mk (Kd.R_elder' (by (with_reducible repeat (first | apply Kd.R_alloc | apply Kd.R_drewN | apply Kd.R_drew)); exact HO243.out) (Kd.R_base ho13) hb); have n2_ := Aside0.mk (Kd.R_elder' (by (with_reducible repeat (first | apply Kd.R_alloc | apply Kd.R_drewN | apply Kd.R_drew)); exact HO247.out) (Kd.R_base ho13) hb); have n3_ := Aside0.mk (Kd.R_lower (Kd.R_new' (Kd.R_new' (Kd.R_new' ho13 (Kd.R_lt (by (with_reducible repeat (first | apply Kd.R_alloc | apply Kd.R_drewN | apply Kd.R_drew)); exact HO239.out))) (Kd.R_lt (by (with_reducible repeat (first | apply Kd.R_alloc | apply Kd.R_drewN | apply Kd.R_drew)); exact HO243.out))) (Kd.R_lt (by (with_reducible repeat (first | apply Kd.R_alloc | apply Kd.R_drewN | apply Kd.R_drew)); exact HO247.out))) (below_size (by repeat (first | (with_reducible first | exact HB.out | apply below_alloc | apply pw_below_drewN | apply below_drew1) | exact HB.out)))); have n4_ := Aside0.mk (below_step (by repeat (first | (with_reducible first | exact HB.out | apply below_alloc | apply pw_below_drewN | apply below_drew1) | exact HB.out)) hb); clear HO239; clear HO243; clear HO247; clear HB; have HO239 := n0_; have HO243 := n1_; have HO247 := n2_; have HO250 := n3_; have HB := n4_; clear n0_ n1_ n2_ n3_ n4_; clear hb ho13; obtain ⟨Ao14, co14, eo14⟩ := Kd.R_slice HO243.out; subst eo14; obtain ⟨Ao15, co15, eo15⟩ := Kd.R_slice HO250.out; subst eo15) | (go_at_call 35; (with_reducible refine (smaltoref06_Same.calls k _ _ t240 _ _ y248 true _ ?side1 ?side2 ?side3 ?side4 A4.out).mono ?_); (case side1 => repeat (first | exact (Kd.R_reads' HO243.out).2.2 | (with_reducible refine Kd.C_alloc ?_ _) | (with_reducible refine Kd.C_drewN ?_ _) | (with_reducible refine Kd.C_drew ?_))); (case side2 => exact (Kd.R_reads' HO243.out).2.1); (case side3 => repeat (first | exact (Kd.R_reads' HO250.out).2.2 | (with_reducible refine Kd.C_alloc ?_ _) | (with_reducible refine Kd.C_drewN ?_ _) | (with_reducible refine Kd.C_drew ?_))); (case side4 => exact (Kd.R_reads' HO250.out).2.1); rintro e w' ⟨rfl, ⟨nd, rfl⟩⟩; obtain ⟨Ao16, co16, eo16⟩ := Kd.R_slice HO247.out; subst eo16))
    go_ret
    exact ⟨by first | rfl | (simp [errW_none, errW_some] <;> rfl) | (simp [*, errW_none, errW_some] <;> rfl), by repeat (first | (with_reducible first | exact HB.out | apply below_alloc | apply pw_below_drewN | apply below_drew1) | exact HB.out)⟩
   ·rw [if_neg c6] at H
    have c6b0 : (t245 == 0) = false := beq_eq_false_iff_ne.mpr c6
    have c6b1 : (t245 != 0) = true := bne_iff_ne.mpr c6
    obtain rfl := Option.some.inj H
    go_enter Tryd.func33, Tryd.ntmps33
    go_wp2_with (first | ((with_reducible refine gate_dst (N := 6) rfl ?_); (try (refine gate_guard (by rfl) ?_; dsimp only)); refine Kd.R_lit (Kd.int .i64) _ 2 ?hg (N := 6) ?hd (xs := ([536870912, 536870912, 536870912] : List Int)) (inner := [.int .i64 536870912, .int .i64 536870912, .int .i64 536870912]) (ok := fun _ => True) (okp := fun _ => True) ?hr ?hp (fun _ hk => hk) trivial (Below.refl _ _) (Nat.le_refl _) (by simp) ?_; (case hd => rfl); (case hg => rfl); (case hr => first | (go_simp; done) | (go_simp; rfl)); (case hp => exact (Reps.one (show Kd.M (Kd.int .i64) _ _ _ 536870912 [.int .i64 536870912] from rfl) (Reps.one (show Kd.M (Kd.int .i64) _ _ _ 536870912 [.int .i64 536870912] from rfl) (Reps.one (show Kd.M (Kd.int .i64) _ _ _ 536870912 [.int .i64 536870912] from rfl) (Reps.none _ _))))); intro v238 w17 ho18 hb hg_ hnew_; clear hg_ hnew_; (first | rw [← Ny237.out] at ho18 | (simp only [Int.reduceToNat] at ho18; rw [← Ny237.out] at ho18)); have n0_ := Aside0.mk (Kd.R_lower ho18 (below_size (by repeat (first | (with_reducible first | exact HB.out | apply below_alloc | apply pw_below_drewN | apply below_drew1) | exact HB.out)))); have n1_ := Aside0.mk (below_step (by repeat (first | (with_reducible first | exact HB.out | apply below_alloc | apply pw_below_drewN | apply below_drew1) | exact HB.out)) hb); clear HB; have HO239 := n0_; have HB := n1_; clear n0_ n1_; clear hb ho18; obtain ⟨Ao19, co19, eo19⟩ := Kd.R_slice HO239.out; subst eo19) | ((with_reducible refine gate_callee (f := 38) rfl ?_); refine goesL_ (some 7) rfl rfl Tryd.func38 (by kernel_rfl) rfl #[.slice Ao19 y237.length co19] rfl (by (try simp only [List.map_toArray, List.map_cons, List.map_nil]); first | done | rfl | (simp only [List.length_drop, List.length_take]; rfl)) ?_; (with_reducible refine (taps_Apportion.calls _ _ y237 t240 t241 _ ?side1 ?side2 A1.out).mono ?_); (case side1 => repeat (first | exact (Kd.R_reads' HO239.out).2.2 | (with_reducible refine Kd.C_alloc ?_ _) | (with_reducible refine Kd.C_drewN ?_ _) | (with_reducible refine Kd.C_drew ?_))); (case side2 => exact (Kd.R_reads' HO239.out).2.1); rintro e w20 ⟨v242, rfl, ho0, hb⟩; refine ⟨_, rfl, ?_⟩; have n0_ := Aside0.mk (Kd.R_elder' (by (with_reducible repeat (first | apply Kd.R_alloc | apply Kd.R_drewN | apply Kd.R_drew)); exact HO239.out) (Kd.R_base ho0) hb); have n1_ := Aside0.mk (Kd.R_lower (Kd.R_new' ho0 (Kd.R_lt (by (with_reducible repeat (first | apply Kd.R_alloc | apply Kd.R_drewN | apply Kd.R_drew)); exact HO239.out))) (below_size (by repeat (first | (with_reducible first | exact HB.out | apply below_alloc | apply pw_below_drewN | apply below_drew1) | exact HB.out)))); have n2_ := Aside0.mk (below_step (by repeat (first | (with_reducible first | exact HB.out | apply below_alloc | apply pw_below_drewN | apply below_drew1) | exact HB.out)) hb); clear HO239; clear HB; have HO239 := n0_; have HO243 := n1_; have HB := n2_; clear n0_ n1_ n2_; (try clear hb); (try clear hb2); (try clear hk); (try clear hi); (try clear ho0)) | ((with_reducible refine gate_callee (f := 40) rfl ?_); refine goesL_ (some 11) rfl rfl Tryd.func40 (by kernel_rfl) rfl #[.int .i64 65536] rfl (by (try simp only [List.map_toArray, List.map_cons, List.map_nil]); first | done | rfl | (simp only [List.length_drop, List.length_take]; rfl)) ?_; (with_reducible refine (taps_Gaussian.calls k 65536 t244 t245 _ A2.out).mono ?_); rintro e w21 ⟨v246, rfl, ho0, hb⟩; refine ⟨_, rfl, ?_⟩; have n0_ := Aside0.mk (Kd.R_elder' (by (with_reducible repeat (first | apply Kd.R_alloc | apply Kd.R_drewN | apply Kd.R_drew)); exact HO239.out) (Kd.R_base ho0) hb); have n1_ := Aside0.mk (Kd.R_elder' (by (with_reducible repeat (first | apply Kd.R_alloc | apply Kd.R_drewN | apply Kd.R_drew)); exact HO243.out) (Kd.R_base ho0) hb); have n2_ := Aside0.mk (Kd.R_lower (Kd.R_new' (Kd.R_new' ho0 (Kd.R_lt (by (with_reducible repeat (first | apply Kd.R_alloc | apply Kd.R_drewN | apply Kd.R_drew)); exact HO239.out))) (Kd.R_lt (by (with_reducible repeat (first | apply Kd.R_alloc | apply Kd.R_drewN | apply Kd.R_drew)); exact HO243.out))) (below_size (by repeat (first | (with_reducible first | exact HB.out | apply below_alloc | apply pw_below_drewN | apply below_drew1) | exact HB.out)))); have n3_ := Aside0.mk (below_step (by repeat (first | (with_reducible first | exact HB.out | apply below_alloc | apply pw_below_drewN | apply below_drew1) | exact HB.out)) hb); clear HO239; clear HO243; clear HB; have HO239 := n0_; have HO243 := n1_; have HO247 := n2_; have HB := n3_; clear n0_ n1_ n2_ n3_; (try clear hb); (try clear hb2); (try clear hk); (try clear hi); (try clear ho0)) | ((with_reducible refine gate_dst (N := 18) rfl ?_); (try (refine gate_guard (by rfl) ?_; dsimp only)); refine Kd.R_lit (Kd.int .i64) _ 2 ?hg (N := 18) ?hd (xs := ([5462, 5461, 5461] : List Int)) (inner := [.int .i64 5462, .int .i64 5461, .int .i64 5461]) (ok := fun _ => True) (okp := fun _ => True) ?hr ?hp (fun _ hk => hk) trivial (Below.refl _ _) (Nat.le_refl _) (by simp) ?_; (case hd => rfl); (case hg => rfl); (case hr => first | (go_simp; done) | (go_simp; rfl)); (case hp => exact (Reps.one (show Kd.M (Kd.int .i64) _ _ _ 5462 [.int .i64 5462] from rfl) (Reps.one (show Kd.M (Kd.int .i64) _ _ _ 5461 [.int .i64 5461] from rfl) (Reps.one (show Kd.M (Kd.int .i64) _ _ _ 5461 [.int .i64 5461] from rfl) (Reps.none _ _))))); intro v249 w22 ho23 hb hg_ hnew_; clear hg_ hnew_; (first | rw [← Ny248.out] at ho23 | (simp only [Int.reduceToNat] at ho23; rw [← Ny248.out] at ho23)); have n0_ := Aside0.mk (Kd.R_elder' (by (with_reducible repeat (first | apply Kd.R_alloc | apply Kd.R_drewN | apply Kd.R_drew)); exact HO239.out) (Kd.R_base ho23) hb); have n1_ := Aside0.mk (Kd.R_elder' (by (with_reducible repeat (first | apply Kd.R_alloc | apply Kd.R_drewN | apply Kd.R_drew)); exact HO243.out) (Kd.R_base ho23) hb); have n2_ := Aside0.mk (Kd.R_elder' (by (with_reducible repeat (first | apply Kd.R_alloc | apply Kd.R_drewN | apply Kd.R_drew)); exact HO247.out) (Kd.R_base ho23) hb); have n3_ := Aside0.mk (Kd.R_lower (Kd.R_new' (Kd.R_new' (Kd.R_new' ho23 (Kd.R_lt (by (with_reducible repeat (first | apply Kd.R_alloc | apply Kd.R_drewN | apply Kd.R_drew)); exact HO239.out))) (Kd.R_lt (by (with_reducible repeat (first | apply Kd.R_alloc | apply Kd.R_drewN | apply Kd.R_drew)); exact HO243.out))) (Kd.R_lt (by (with_reducible repeat (first | apply Kd.R_alloc | apply Kd.R_drewN | apply Kd.R_drew)); exact HO247.out))) (below_size (by repeat (first | (with_reducible first | exact HB.out | apply below_alloc | apply pw_below_drewN | apply below_drew1) | exact HB.out)))); have n4_ := Aside0.mk (below_step (by repeat (first | (with_reducible first | exact HB.out | apply below_alloc | apply pw_below_drewN | apply below_drew1) | exact HB.out)) hb); clear HO239; clear HO243; clear HO247; clear HB; have HO239 := n0_; have HO243 := n1_; have HO247 := n2_; have HO250 := n3_; have HB := n4_; clear n0_ n1_ n2_ n3_ n4_; clear hb ho23; obtain ⟨Ao24, co24, eo24⟩ := Kd.R_slice HO243.out; subst eo24; obtain ⟨Ao25, co25, eo25⟩ := Kd.R_slice HO250.out; subst eo25) | (go_at_call 35; (with_reducible refine (smaltoref06_Same.calls k _ _ t240 _ _ y248 true _ ?side1 ?side2 ?side3 ?side4 A4.out).mono ?_); (case side1 => repeat (first | exact (Kd.R_reads' HO243.out).2.2 | (with_reducible refine Kd.C_alloc ?_ _) | (with_reducible refine Kd.C_drewN ?_ _) | (with_reducible refine Kd.C_drew ?_))); (case side2 => exact (Kd.R_reads' HO243.out).2.1); (case side3 => repeat (first | exact (Kd.R_reads' HO250.out).2.2 | (with_reducible refine Kd.C_alloc ?_ _) | (with_reducible refine Kd.C_drewN ?_ _) | (with_reducible refine Kd.C_drew ?_))); (case side4 => exact (Kd.R_reads' HO250.out).2.1); rintro e w' ⟨rfl, ⟨nd, rfl⟩⟩))
    go_ret
    exact ⟨by first | rfl | (simp [errW_none, errW_some] <;> rfl) | (simp [*, errW_none, errW_some] <;> rfl), by repeat (first | (with_reducible first | exact HB.out | apply below_alloc | apply pw_below_drewN | apply below_drew1) | exact HB.out)⟩
  ·replace c5 := Bool.eq_false_iff.mpr c5
   subst c5
   have H1 : (some false) = some r := by rw [if_neg (show ¬ (false = true) by decide)] at H; exact H
   clear H
   have H := H1
   clear H1
   obtain rfl := Option.some.inj H
   go_enter Tryd.func33, Tryd.ntmps33
   go_wp2_with (first | ((with_reducible refine gate_dst (N := 6) rfl ?_); (try (refine gate_guard (by rfl) ?_; dsimp only)); refine Kd.R_lit (Kd.int .i64) _ 2 ?hg (N := 6) ?hd (xs := ([536870912, 536870912, 536870912] : List Int)) (inner := [.int .i64 536870912, .int .i64 536870912, .int .i64 536870912]) (ok := fun _ => True) (okp := fun _ => True) ?hr ?hp (fun _ hk => hk) trivial (Below.refl _ _) (Nat.le_refl _) (by simp) ?_; (case hd => rfl); (case hg => rfl); (case hr => first | (go_simp; done) | (go_simp; rfl)); (case hp => exact (Reps.one (show Kd.M (Kd.int .i64) _ _ _ 536870912 [.int .i64 536870912] from rfl) (Reps.one (show Kd.M (Kd.int .i64) _ _ _ 536870912 [.int .i64 536870912] from rfl) (Reps.one (show Kd.M (Kd.int .i64) _ _ _ 536870912 [.int .i64 536870912] from rfl) (Reps.none _ _))))); intro v238 w26 ho27 hb hg_ hnew_; clear hg_ hnew_; (first | rw [← Ny237.out] at ho27 | (simp only [Int.reduceToNat] at ho27; rw [← Ny237.out] at ho27)); have n0_ := Aside0.mk (Kd.R_lower ho27 (below_size (by repeat (first | (with_reducible first | exact HB.out | apply below_alloc | apply pw_below_drewN | apply below_drew1) | exact HB.out)))); have n1_ := Aside0.mk (below_step (by repeat (first | (with_reducible first | exact HB.out | apply below_alloc | apply pw_below_drewN | apply below_drew1) | exact HB.out)) hb); clear HB; have HO239 := n0_; have HB := n1_; clear n0_ n1_; clear hb ho27; obtain ⟨Ao28, co28, eo28⟩ := Kd.R_slice HO239.out; subst eo28) | ((with_reducible refine gate_callee (f := 38) rfl ?_); refine goesL_ (some 7) rfl rfl Tryd.func38 (by kernel_rfl) rfl #[.slice Ao28 y237.length co28] rfl (by (try simp only [List.map_toArray, List.map_cons, List.map_nil]); first | done | rfl | (simp only [List.length_drop, List.length_take]; rfl)) ?_; (with_reducible refine (taps_Apportion.calls _ _ y237 t240 t241 _ ?side1 ?side2 A1.out).mono ?_); (case side1 => repeat (first | exact (Kd.R_reads' HO239.out).2.2 | (with_reducible refine Kd.C_alloc ?_ _) | (with_reducible refine Kd.C_drewN ?_ _) | (with_reducible refine Kd.C_drew ?_))); (case side2 => exact (Kd.R_reads' HO239.out).2.1); rintro e w29 ⟨v242, rfl, ho0, hb⟩; refine ⟨_, rfl, ?_⟩; have n0_ := Aside0.mk (Kd.R_elder' (by (with_reducible repeat (first | apply Kd.R_alloc | apply Kd.R_drewN | apply Kd.R_drew)); exact HO239.out) (Kd.R_base ho0) hb); have n1_ := Aside0.mk (Kd.R_lower (Kd.R_new' ho0 (Kd.R_lt (by (with_reducible repeat (first | apply Kd.R_alloc | apply Kd.R_drewN | apply Kd.R_drew)); exact HO239.out))) (below_size (by repeat (first | (with_reducible first | exact HB.out | apply below_alloc | apply pw_below_drewN | apply below_drew1) | exact HB.out)))); have n2_ := Aside0.mk (below_step (by repeat (first | (with_reducible first | exact HB.out | apply below_alloc | apply pw_below_drewN | apply below_drew1) | exact HB.out)) hb); clear HO239; clear HB; have HO239 := n0_; have HO243 := n1_; have HB := n2_; clear n0_ n1_ n2_; (try clear hb); (try clear hb2); (try clear hk); (try clear hi); (try clear ho0)) | ((with_reducible refine gate_callee (f := 40) rfl ?_); refine goesL_ (some 11) rfl rfl Tryd.func40 (by kernel_rfl) rfl #[.int .i64 65536] rfl (by (try simp only [List.map_toArray, List.map_cons, List.map_nil]); first | done | rfl | (simp only [List.length_drop, List.length_take]; rfl)) ?_; (with_reducible refine (taps_Gaussian.calls k 65536 t244 t245 _ A2.out).mono ?_); rintro e w30 ⟨v246, rfl, ho0, hb⟩; refine ⟨_, rfl, ?_⟩; have n0_ := Aside0.mk (Kd.R_elder' (by (with_reducible repeat (first | apply Kd.R_alloc | apply Kd.R_drewN | apply Kd.R_drew)); exact HO239.out) (Kd.R_base ho0) hb); have n1_ := Aside0.mk (Kd.R_elder' (by (with_reducible repeat (first | apply Kd.R_alloc | apply Kd.R_drewN | apply Kd.R_drew)); exact HO243.out) (Kd.R_base ho0) hb); have n2_ := Aside0.mk (Kd.R_lower (Kd.R_new' (Kd.R_new' ho0 (Kd.R_lt (by (with_reducible repeat (first | apply Kd.R_alloc | apply Kd.R_drewN | apply Kd.R_drew)); exact HO239.out))) (Kd.R_lt (by (with_reducible repeat (first | apply Kd.R_alloc | apply Kd.R_drewN | apply Kd.R_drew)); exact HO243.out))) (below_size (by repeat (first | (with_reducible first | exact HB.out | apply below_alloc | apply pw_below_drewN | apply below_drew1) | exact HB.out)))); have n3_ := Aside0.mk (below_step (by repeat (first | (with_reducible first | exact HB.out | apply below_alloc | apply pw_below_drewN | apply below_drew1) | exact HB.out)) hb); clear HO239; clear HO243; clear HB; have HO239 := n0_; have HO243 := n1_; have HO247 := n2_; have HB := n3_; clear n0_ n1_ n2_ n3_; (try clear hb); (try clear hb2); (try clear hk); (try clear hi); (try clear ho0)) | ((with_reducible refine gate_dst (N := 18) rfl ?_); (try (refine gate_guard (by rfl) ?_; dsimp only)); refine Kd.R_lit (Kd.int .i64) _ 2 ?hg (N := 18) ?hd (xs := ([5462, 5461, 5461] : List Int)) (inner := [.int .i64 5462, .int .i64 5461, .int .i64 5461]) (ok := fun _ => True) (okp := fun _ => True) ?hr ?hp (fun _ hk => hk) trivial (Below.refl _ _) (Nat.le_refl _) (by simp) ?_; (case hd => rfl); (case hg => rfl); (case hr => first | (go_simp; done) | (go_simp; rfl)); (case hp => exact (Reps.one (show Kd.M (Kd.int .i64) _ _ _ 5462 [.int .i64 5462] from rfl) (Reps.one (show Kd.M (Kd.int .i64) _ _ _ 5461 [.int .i64 5461] from rfl) (Reps.one (show Kd.M (Kd.int .i64) _ _ _ 5461 [.int .i64 5461] from rfl) (Reps.none _ _))))); intro v249 w31 ho32 hb hg_ hnew_; clear hg_ hnew_; (first | rw [← Ny248.out] at ho32 | (simp only [Int.reduceToNat] at ho32; rw [← Ny248.out] at ho32)); have n0_ := Aside0.mk (Kd.R_elder' (by (with_reducible repeat (first | apply Kd.R_alloc | apply Kd.R_drewN | apply Kd.R_drew)); exact HO239.out) (Kd.R_base ho32) hb); have n1_ := Aside0.mk (Kd.R_elder' (by (with_reducible repeat (first | apply Kd.R_alloc | apply Kd.R_drewN | apply Kd.R_drew)); exact HO243.out) (Kd.R_base ho32) hb); have n2_ := Aside0.mk (Kd.R_elder' (by (with_reducible repeat (first | apply Kd.R_alloc | apply Kd.R_drewN | apply Kd.R_drew)); exact HO247.out) (Kd.R_base ho32) hb); have n3_ := Aside0.mk (Kd.R_lower (Kd.R_new' (Kd.R_new' (Kd.R_new' ho32 (Kd.R_lt (by (with_reducible repeat (first | apply Kd.R_alloc | apply Kd.R_drewN | apply Kd.R_drew)); exact HO239.out))) (Kd.R_lt (by (with_reducible repeat (first | apply Kd.R_alloc | apply Kd.R_drewN | apply Kd.R_drew)); exact HO243.out))) (Kd.R_lt (by (with_reducible repeat (first | apply Kd.R_alloc | apply Kd.R_drewN | apply Kd.R_drew)); exact HO247.out))) (below_size (by repeat (first | (with_reducible first | exact HB.out | apply below_alloc | apply pw_below_drewN | apply below_drew1) | exact HB.out)))); have n4_ := Aside0.mk (below_step (by repeat (first | (with_reducible first | exact HB.out | apply below_alloc | apply pw_below_drewN | apply below_drew1) | exact HB.out)) hb); clear HO239; clear HO243; clear HO247; clear HB; have HO239 := n0_; have HO243 := n1_; have HO247 := n2_; have HO250 := n3_; have HB := n4_; clear n0_ n1_ n2_ n3_ n4_; clear hb ho32; obtain ⟨Ao33, co33, eo33⟩ := Kd.R_slice HO243.out; subst eo33; obtain ⟨Ao34, co34, eo34⟩ := Kd.R_slice HO250.out; subst eo34) | (go_at_call 35; (with_reducible refine (smaltoref06_Same.calls k _ _ t240 _ _ y248 false _ ?side1 ?side2 ?side3 ?side4 A4.out).mono ?_); (case side1 => repeat (first | exact (Kd.R_reads' HO243.out).2.2 | (with_reducible refine Kd.C_alloc ?_ _) | (with_reducible refine Kd.C_drewN ?_ _) | (with_reducible refine Kd.C_drew ?_))); (case side2 => exact (Kd.R_reads' HO243.out).2.1); (case side3 => repeat (first | exact (Kd.R_reads' HO250.out).2.2 | (with_reducible refine Kd.C_alloc ?_ _) | (with_reducible refine Kd.C_drewN ?_ _) | (with_reducible refine Kd.C_drew ?_))); (case side4 => exact (Kd.R_reads' HO250.out).2.1); rintro e w' ⟨rfl, ⟨nd, rfl⟩⟩))
   go_ret
   exact ⟨by first | rfl | (simp [errW_none, errW_some] <;> rfl) | (simp [*, errW_none, errW_some] <;> rfl), by repeat (first | (with_reducible first | exact HB.out | apply below_alloc | apply pw_below_drewN | apply below_drew1) | exact HB.out)⟩
 ·rw [if_neg c3] at H
  have c3b0 : (t241 == 0) = false := beq_eq_false_iff_ne.mpr c3
  have c3b1 : (t241 != 0) = true := bne_iff_ne.mpr c3
  obtain rfl := Option.some.inj H
  go_enter Tryd.func33, Tryd.ntmps33
  go_wp2_with (first | ((with_reducible refine gate_dst (N := 6) rfl ?_); (try (refine gate_guard (by rfl) ?_; dsimp only)); refine Kd.R_lit (Kd.int .i64) _ 2 ?hg (N := 6) ?hd (xs := ([536870912, 536870912, 536870912] : List Int)) (inner := [.int .i64 536870912, .int .i64 536870912, .int .i64 536870912]) (ok := fun _ => True) (okp := fun _ => True) ?hr ?hp (fun _ hk => hk) trivial (Below.refl _ _) (Nat.le_refl _) (by simp) ?_; (case hd => rfl); (case hg => rfl); (case hr => first | (go_simp; done) | (go_simp; rfl)); (case hp => exact (Reps.one (show Kd.M (Kd.int .i64) _ _ _ 536870912 [.int .i64 536870912] from rfl) (Reps.one (show Kd.M (Kd.int .i64) _ _ _ 536870912 [.int .i64 536870912] from rfl) (Reps.one (show Kd.M (Kd.int .i64) _ _ _ 536870912 [.int .i64 536870912] from rfl) (Reps.none _ _))))); intro v238 w35 ho36 hb hg_ hnew_; clear hg_ hnew_; (first | rw [← Ny237.out] at ho36 | (simp only [Int.reduceToNat] at ho36; rw [← Ny237.out] at ho36)); have n0_ := Aside0.mk (Kd.R_lower ho36 (below_size (by repeat (first | (with_reducible first | exact HB.out | apply below_alloc | apply pw_below_drewN | apply below_drew1) | exact HB.out)))); have n1_ := Aside0.mk (below_step (by repeat (first | (with_reducible first | exact HB.out | apply below_alloc | apply pw_below_drewN | apply below_drew1) | exact HB.out)) hb); clear HB; have HO239 := n0_; have HB := n1_; clear n0_ n1_; clear hb ho36; obtain ⟨Ao37, co37, eo37⟩ := Kd.R_slice HO239.out; subst eo37) | ((with_reducible refine gate_callee (f := 38) rfl ?_); refine goesL_ (some 7) rfl rfl Tryd.func38 (by kernel_rfl) rfl #[.slice Ao37 y237.length co37] rfl (by (try simp only [List.map_toArray, List.map_cons, List.map_nil]); first | done | rfl | (simp only [List.length_drop, List.length_take]; rfl)) ?_; (with_reducible refine (taps_Apportion.calls _ _ y237 t240 t241 _ ?side1 ?side2 A1.out).mono ?_); (case side1 => repeat (first | exact (Kd.R_reads' HO239.out).2.2 | (with_reducible refine Kd.C_alloc ?_ _) | (with_reducible refine Kd.C_drewN ?_ _) | (with_reducible refine Kd.C_drew ?_))); (case side2 => exact (Kd.R_reads' HO239.out).2.1); rintro e w38 ⟨v242, rfl, ho0, hb⟩; refine ⟨_, rfl, ?_⟩; have n0_ := Aside0.mk (Kd.R_elder' (by (with_reducible repeat (first | apply Kd.R_alloc | apply Kd.R_drewN | apply Kd.R_drew)); exact HO239.out) (Kd.R_base ho0) hb); have n1_ := Aside0.mk (Kd.R_lower (Kd.R_new' ho0 (Kd.R_lt (by (with_reducible repeat (first | apply Kd.R_alloc | apply Kd.R_drewN | apply Kd.R_drew)); exact HO239.out))) (below_size (by repeat (first | (with_reducible first | exact HB.out | apply below_alloc | apply pw_below_drewN | apply below_drew1) | exact HB.out)))); have n2_ := Aside0.mk (below_step (by repeat (first | (with_reducible first | exact HB.out | apply below_alloc | apply pw_below_drewN | apply below_drew1) | exact HB.out)) hb); clear HO239; clear HB; have HO239 := n0_; have HO243 := n1_; have HB := n2_; clear n0_ n1_ n2_; (try clear hb); (try clear hb2); (try clear hk); (try clear hi); (try clear ho0)) | ((with_reducible refine gate_callee (f := 40) rfl ?_); refine goesL_ (some 11) rfl rfl Tryd.func40 (by kernel_rfl) rfl #[.int .i64 65536] rfl (by (try simp only [List.map_toArray, List.map_cons, List.map_nil]); first | done | rfl | (simp only [List.length_drop, List.length_take]; rfl)) ?_; (with_reducible refine (taps_Gaussian.calls k 65536 t244 t245 _ A2.out).mono ?_); rintro e w39 ⟨v246, rfl, ho0, hb⟩; refine ⟨_, rfl, ?_⟩; have n0_ := Aside0.mk (Kd.R_elder' (by (with_reducible repeat (first | apply Kd.R_alloc | apply Kd.R_drewN | apply Kd.R_drew)); exact HO239.out) (Kd.R_base ho0) hb); have n1_ := Aside0.mk (Kd.R_elder' (by (with_reducible repeat (first | apply Kd.R_alloc | apply Kd.R_drewN | apply Kd.R_drew)); exact HO243.out) (Kd.R_base ho0) hb); have n2_ := Aside0.mk (Kd.R_lower (Kd.R_new' (Kd.R_new' ho0 (Kd.R_lt (by (with_reducible repeat (first | apply Kd.R_alloc | apply Kd.R_drewN | apply Kd.R_drew)); exact HO239.out))) (Kd.R_lt (by (with_reducible repeat (first | apply Kd.R_alloc | apply Kd.R_drewN | apply Kd.R_drew)); exact HO243.out))) (below_size (by repeat (first | (with_reducible first | exact HB.out | apply below_alloc | apply pw_below_drewN | apply below_drew1) | exact HB.out)))); have n3_ := Aside0.mk (below_step (by repeat (first | (with_reducible first | exact HB.out | apply below_alloc | apply pw_below_drewN | apply below_drew1) | exact HB.out)) hb); clear HO239; clear HO243; clear HB; have HO239 := n0_; have HO243 := n1_; have HO247 := n2_; have HB := n3_; clear n0_ n1_ n2_ n3_; (try clear hb); (try clear hb2); (try clear hk); (try clear hi); (try clear ho0)))
  go_ret
  exact ⟨by first | rfl | (simp [errW_none, errW_some] <;> rfl) | (simp [*, errW_none, errW_some] <;> rfl), by repeat (first | (with_reducible first | exact HB.out | apply below_alloc | apply pw_below_drewN | apply below_drew1) | exact HB.out)⟩
end Go.Proofs.YtjenkaobmlpbgaaDoor.QA
