-- Written by wip/tools/pp.py over the kit's print.py; not trusted: Lean checks it.
import Derived.Test.YtofmgoihoaookaaQAx0
import Derived.Test.YtofmgoihoaookaaQAx7
import Derived.Test.YtofmgoihoaookaaQAx8
import Derived.Test.YtofmgoihoaookaaQAx9
import Derived.Test.YtofmgoihoaookaaQAx15
namespace Go.Proofs.Ytofmgoihoaookaa.QA
open Go.Proofs.Ytofmgoihoaookaa.T
open Go.RowKit Go.Proofs.YtofmgoihoaookaaW.PrintWords Go.Proofs.YtofmgoihoaookaaW.PrintLast Go.Proofs.YtofmgoihoaookaaW.PrintMore
attribute [local go_sem] max2_int min2_int max_two min_two max_three min_three max_four min_four   -- for this text's walks alone
set_option linter.unusedVariables false
set_option linter.unusedSimpArgs false

/-! ### smaltolaw01_FixedShifts: function 9 -/
def smaltolaw01_FixedShifts.f (k : Nat) (a0 : Int) (a1 : Int) : Option (Bool) := (smaltolaw01_Lives.f k).bind fun t253 => (if t253 = true then ((fixed_Shift.f a0 a1).bind fun t254 => ((smaltoref01_Shift.f k a0 a1).bind fun t255 => (if t254 = t255 then (if a1 < 0 then (some true) else (if a1 > 62 then (some true) else (if 0 ≤ a1 then ((fixed_Div.f k a0 (shl .i64 1 a1)).bind fun t256 => (some (t254 == t256))) else (none)))) else (some false)))) else (some false))
theorem smaltolaw01_FixedShifts.mono : ∀ a0 a1 k, LeO (smaltolaw01_FixedShifts.f k a0 a1) (smaltolaw01_FixedShifts.f (k + 1) a0 a1) := by
  intro a0 a1 k
  unfold smaltolaw01_FixedShifts.f
  repeat' first
      | (with_reducible exact fixed_Div.mono _ _ _)
      | (with_reducible exact smaltolaw01_Lives.mono _)
      | (with_reducible exact smaltoref01_Shift.mono _ _ _)
      | (with_reducible exact LeO.refl _)
      | (with_reducible exact LeO.none _)
      | (with_reducible refine LeO.ite ?_ ?_)
      | (with_reducible refine LeO.bind ?_ (fun _ => ?_))
      | exact fixed_Div.mono _ _ _
      | exact smaltolaw01_Lives.mono _
      | exact smaltoref01_Shift.mono _ _ _
      | exact LeO.none _
      | refine LeO.ite ?_ ?_
      | refine LeO.bind ?_ (fun _ => ?_)
set_option maxHeartbeats 8000000 in
set_option maxRecDepth 100000 in
theorem smaltolaw01_FixedShifts.calls (k : Nat) (a0 : Int) (a1 : Int) (r : Bool) (w : World) (h : smaltolaw01_FixedShifts.f k a0 a1 = some r) :
    Calls Try.prog 9 #[.int .i64 a0, .int .i64 a1] w fun e w' => e = .returned (.bool r) ∧ Below w.heap.size w w' := by
  have HB := Aside0.mk (Below.refl w.heap.size w)
  have H : ((smaltolaw01_Lives.f k).bind fun t253 => (if t253 = true then ((fixed_Shift.f a0 a1).bind fun t254 => ((smaltoref01_Shift.f k a0 a1).bind fun t255 => (if t254 = t255 then (if a1 < 0 then (some true) else (if a1 > 62 then (some true) else (if 0 ≤ a1 then ((fixed_Div.f k a0 (shl .i64 1 a1)).bind fun t256 => (some (t254 == t256))) else (none)))) else (some false)))) else (some false))) = some r := h
  clear h
  replace H := Option.bind_eq_some_iff.mp H
  obtain ⟨t253, A30, H⟩ := H
  replace H : (if t253 = true then ((fixed_Shift.f a0 a1).bind fun t254 => ((smaltoref01_Shift.f k a0 a1).bind fun t255 => (if t254 = t255 then (if a1 < 0 then (some true) else (if a1 > 62 then (some true) else (if 0 ≤ a1 then ((fixed_Div.f k a0 (shl .i64 1 a1)).bind fun t256 => (some (t254 == t256))) else (none)))) else (some false)))) else (some false)) = some r := H
  have A3 := Aside0.mk A30
  clear A30
  by_cases c4 : t253 = true
  · subst c4
    have H1 : ((fixed_Shift.f a0 a1).bind fun t254 => ((smaltoref01_Shift.f k a0 a1).bind fun t255 => (if t254 = t255 then (if a1 < 0 then (some true) else (if a1 > 62 then (some true) else (if 0 ≤ a1 then ((fixed_Div.f k a0 (shl .i64 1 a1)).bind fun t256 => (some (t254 == t256))) else (none)))) else (some false)))) = some r := by rw [if_pos rfl] at H; exact H
    clear H
    have H := H1
    clear H1
    replace H := Option.bind_eq_some_iff.mp H
    obtain ⟨t254, A50, H⟩ := H
    replace H : ((smaltoref01_Shift.f k a0 a1).bind fun t255 => (if t254 = t255 then (if a1 < 0 then (some true) else (if a1 > 62 then (some true) else (if 0 ≤ a1 then ((fixed_Div.f k a0 (shl .i64 1 a1)).bind fun t256 => (some (t254 == t256))) else (none)))) else (some false))) = some r := H
    have A5 := Aside0.mk A50
    clear A50
    replace H := Option.bind_eq_some_iff.mp H
    obtain ⟨t255, A60, H⟩ := H
    replace H : (if t254 = t255 then (if a1 < 0 then (some true) else (if a1 > 62 then (some true) else (if 0 ≤ a1 then ((fixed_Div.f k a0 (shl .i64 1 a1)).bind fun t256 => (some (t254 == t256))) else (none)))) else (some false)) = some r := H
    have A6 := Aside0.mk A60
    clear A60
    by_cases c7 : t254 = t255
    · rw [if_pos c7] at H
      have c7b0 : (t254 == t255) = true := beq_iff_eq.mpr c7
      have c7b1 : (t254 != t255) = false := bne_eq_false_iff_eq.mpr c7
      clear c7
      by_cases c8 : a1 < 0
      · rw [if_pos c8] at H
        have c8b0 : decide (a1 < 0) = true := decide_eq_true c8
        clear c8
        obtain rfl := Option.some.inj H
        go_enter Try.func9, Try.ntmps9
        go_wp2_with (first | ((with_reducible refine gate_callee (f := 17) rfl ?_); refine goesL_ (some 6) rfl rfl Try.func17 (by kernel_rfl) rfl #[] rfl (by (try simp only [List.map_toArray, List.map_cons, List.map_nil]); first | done | rfl | (simp only [List.length_drop, List.length_take]; rfl)) ?_; (with_reducible refine (smaltolaw01_Lives.calls k  true _ A3.out).mono ?_); rintro e w' ⟨rfl, ⟨nd, rfl⟩⟩; refine ⟨_, rfl, ?_⟩) | ((with_reducible refine gate_callee (f := 23) rfl ?_); refine goesL_ (some 10) rfl rfl Try.func23 (by kernel_rfl) rfl #[.int .i64 a0, .int .i64 a1] rfl (by (try simp only [List.map_toArray, List.map_cons, List.map_nil]); first | done | rfl | (simp only [List.length_drop, List.length_take]; rfl)) ?_; (with_reducible refine (fixed_Shift.calls a0 a1 t254 _ A5.out).mono ?_); rintro e w' ⟨rfl, ⟨nd, rfl⟩⟩; refine ⟨_, rfl, ?_⟩) | ((with_reducible refine gate_callee (f := 24) rfl ?_); refine goesL_ (some 14) rfl rfl Try.func24 (by kernel_rfl) rfl #[.int .i64 a0, .int .i64 a1] rfl (by (try simp only [List.map_toArray, List.map_cons, List.map_nil]); first | done | rfl | (simp only [List.length_drop, List.length_take]; rfl)) ?_; (with_reducible refine (smaltoref01_Shift.calls k a0 a1 t255 _ A6.out).mono ?_); rintro e w9 ⟨rfl, hb⟩; refine ⟨_, rfl, ?_⟩; have n0_ := Aside0.mk (below_step (by repeat (first | (with_reducible first | exact HB.out | apply below_alloc | apply pw_below_drewN | apply below_drew1) | exact HB.out)) hb); clear HB; have HB := n0_; clear n0_; (try clear hb); (try clear hb2); (try clear hk); (try clear hi)))
        go_ret
        exact ⟨by first | rfl | (simp [errW_none, errW_some] <;> rfl) | (simp [*, errW_none, errW_some] <;> rfl), by repeat (first | (with_reducible first | exact HB.out | apply below_alloc | apply pw_below_drewN | apply below_drew1) | exact HB.out)⟩
      · rw [if_neg c8] at H
        have c8b0 : decide (a1 < 0) = false := decide_eq_false c8
        clear c8
        by_cases c10 : a1 > 62
        · rw [if_pos c10] at H
          have c10b0 : decide (62 < a1) = true := decide_eq_true c10
          clear c10
          obtain rfl := Option.some.inj H
          go_enter Try.func9, Try.ntmps9
          go_wp2_with (first | ((with_reducible refine gate_callee (f := 17) rfl ?_); refine goesL_ (some 6) rfl rfl Try.func17 (by kernel_rfl) rfl #[] rfl (by (try simp only [List.map_toArray, List.map_cons, List.map_nil]); first | done | rfl | (simp only [List.length_drop, List.length_take]; rfl)) ?_; (with_reducible refine (smaltolaw01_Lives.calls k  true _ A3.out).mono ?_); rintro e w' ⟨rfl, ⟨nd, rfl⟩⟩; refine ⟨_, rfl, ?_⟩) | ((with_reducible refine gate_callee (f := 23) rfl ?_); refine goesL_ (some 10) rfl rfl Try.func23 (by kernel_rfl) rfl #[.int .i64 a0, .int .i64 a1] rfl (by (try simp only [List.map_toArray, List.map_cons, List.map_nil]); first | done | rfl | (simp only [List.length_drop, List.length_take]; rfl)) ?_; (with_reducible refine (fixed_Shift.calls a0 a1 t254 _ A5.out).mono ?_); rintro e w' ⟨rfl, ⟨nd, rfl⟩⟩; refine ⟨_, rfl, ?_⟩) | ((with_reducible refine gate_callee (f := 24) rfl ?_); refine goesL_ (some 14) rfl rfl Try.func24 (by kernel_rfl) rfl #[.int .i64 a0, .int .i64 a1] rfl (by (try simp only [List.map_toArray, List.map_cons, List.map_nil]); first | done | rfl | (simp only [List.length_drop, List.length_take]; rfl)) ?_; (with_reducible refine (smaltoref01_Shift.calls k a0 a1 t255 _ A6.out).mono ?_); rintro e w11 ⟨rfl, hb⟩; refine ⟨_, rfl, ?_⟩; have n0_ := Aside0.mk (below_step (by repeat (first | (with_reducible first | exact HB.out | apply below_alloc | apply pw_below_drewN | apply below_drew1) | exact HB.out)) hb); clear HB; have HB := n0_; clear n0_; (try clear hb); (try clear hb2); (try clear hk); (try clear hi)))
          go_ret
          exact ⟨by first | rfl | (simp [errW_none, errW_some] <;> rfl) | (simp [*, errW_none, errW_some] <;> rfl), by repeat (first | (with_reducible first | exact HB.out | apply below_alloc | apply pw_below_drewN | apply below_drew1) | exact HB.out)⟩
        · rw [if_neg c10] at H
          have c10b0 : decide (62 < a1) = false := decide_eq_false c10
          clear c10
          by_cases c12 : 0 ≤ a1
          · rw [if_pos c12] at H
            have c12b0 := eq_true c12
            have c12b1 : decide (0 ≤ a1) = true := decide_eq_true c12
            clear c12
            obtain ⟨ji13, hji13⟩ : ∃ j_ : Int, (shl .i64 1 a1) = j_ := ⟨_, rfl⟩
            replace H : ((fixed_Div.f k a0 (ji13)).bind fun t256 => (some (t254 == t256))) = some r := by first | (rw [hji13] at H; exact H) | (simp only [hji13] at H ⊢; exact H)
            (try rw [hji13] at A3)
            (try rw [hji13] at A5)
            (try rw [hji13] at A6)
            have hji13_ : (IntKind.i64.wrap (1 * 2 ^ min a1.toNat 64)) = ji13 := hji13
            have hji13z : a1 ≤ 64 → (IntKind.i64.wrap (1 * 2 ^ a1.toNat)) = ji13 := shl_small hji13
            have hji13u : (IntKind.i64.wrap (2 ^ min a1.toNat 64)) = ji13 := by have h_ := hji13_; rw [Int.one_mul] at h_; exact h_
            have hji13v : a1 ≤ 64 → (IntKind.i64.wrap (2 ^ a1.toNat)) = ji13 := fun hle_ => by have h_ := hji13z hle_; rw [Int.one_mul] at h_; exact h_
            have hji13y : (wrap64 (1 * 2 ^ min a1.toNat 64)) = ji13 := (i64_w _).symm.trans hji13_
            have hji13x : a1 ≤ 64 → (wrap64 (1 * 2 ^ a1.toNat)) = ji13 := fun h_ => (i64_w _).symm.trans (hji13z h_)
            replace H := Option.bind_eq_some_iff.mp H
            obtain ⟨t256, A140, H⟩ := H
            replace H : (some (t254 == t256)) = some r := H
            have A14 := Aside0.mk A140
            clear A140
            obtain rfl := Option.some.inj H
            go_enter Try.func9, Try.ntmps9
            go_wp2_with (first | ((with_reducible refine gate_callee (f := 17) rfl ?_); refine goesL_ (some 6) rfl rfl Try.func17 (by kernel_rfl) rfl #[] rfl (by (try simp only [List.map_toArray, List.map_cons, List.map_nil]); first | done | rfl | (simp only [List.length_drop, List.length_take]; rfl)) ?_; (with_reducible refine (smaltolaw01_Lives.calls k  true _ A3.out).mono ?_); rintro e w' ⟨rfl, ⟨nd, rfl⟩⟩; refine ⟨_, rfl, ?_⟩) | ((with_reducible refine gate_callee (f := 23) rfl ?_); refine goesL_ (some 10) rfl rfl Try.func23 (by kernel_rfl) rfl #[.int .i64 a0, .int .i64 a1] rfl (by (try simp only [List.map_toArray, List.map_cons, List.map_nil]); first | done | rfl | (simp only [List.length_drop, List.length_take]; rfl)) ?_; (with_reducible refine (fixed_Shift.calls a0 a1 t254 _ A5.out).mono ?_); rintro e w' ⟨rfl, ⟨nd, rfl⟩⟩; refine ⟨_, rfl, ?_⟩) | ((with_reducible refine gate_callee (f := 24) rfl ?_); refine goesL_ (some 14) rfl rfl Try.func24 (by kernel_rfl) rfl #[.int .i64 a0, .int .i64 a1] rfl (by (try simp only [List.map_toArray, List.map_cons, List.map_nil]); first | done | rfl | (simp only [List.length_drop, List.length_take]; rfl)) ?_; (with_reducible refine (smaltoref01_Shift.calls k a0 a1 t255 _ A6.out).mono ?_); rintro e w15 ⟨rfl, hb⟩; refine ⟨_, rfl, ?_⟩; have n0_ := Aside0.mk (below_step (by repeat (first | (with_reducible first | exact HB.out | apply below_alloc | apply pw_below_drewN | apply below_drew1) | exact HB.out)) hb); clear HB; have HB := n0_; clear n0_; (try clear hb); (try clear hb2); (try clear hk); (try clear hi)) | (go_at_call 18; (with_reducible refine (fixed_Div.calls k a0 ji13 t256 _ A14.out).mono ?_); rintro e w' ⟨rfl, ⟨nd, rfl⟩⟩))
            go_ret
            exact ⟨by first | rfl | (simp [errW_none, errW_some] <;> rfl) | (simp only [← hji13]; first | rfl | (simp [errW_none, errW_some] <;> rfl)) | (simp [*, errW_none, errW_some] <;> rfl), by repeat (first | (with_reducible first | exact HB.out | apply below_alloc | apply pw_below_drewN | apply below_drew1) | exact HB.out)⟩
          · rw [if_neg c12] at H
            exact absurd H (by simp)
    · rw [if_neg c7] at H
      have c7b0 : (t254 == t255) = false := beq_eq_false_iff_ne.mpr c7
      have c7b1 : (t254 != t255) = true := bne_iff_ne.mpr c7
      obtain rfl := Option.some.inj H
      go_enter Try.func9, Try.ntmps9
      go_wp2_with (first | ((with_reducible refine gate_callee (f := 17) rfl ?_); refine goesL_ (some 6) rfl rfl Try.func17 (by kernel_rfl) rfl #[] rfl (by (try simp only [List.map_toArray, List.map_cons, List.map_nil]); first | done | rfl | (simp only [List.length_drop, List.length_take]; rfl)) ?_; (with_reducible refine (smaltolaw01_Lives.calls k  true _ A3.out).mono ?_); rintro e w' ⟨rfl, ⟨nd, rfl⟩⟩; refine ⟨_, rfl, ?_⟩) | ((with_reducible refine gate_callee (f := 23) rfl ?_); refine goesL_ (some 10) rfl rfl Try.func23 (by kernel_rfl) rfl #[.int .i64 a0, .int .i64 a1] rfl (by (try simp only [List.map_toArray, List.map_cons, List.map_nil]); first | done | rfl | (simp only [List.length_drop, List.length_take]; rfl)) ?_; (with_reducible refine (fixed_Shift.calls a0 a1 t254 _ A5.out).mono ?_); rintro e w' ⟨rfl, ⟨nd, rfl⟩⟩; refine ⟨_, rfl, ?_⟩) | ((with_reducible refine gate_callee (f := 24) rfl ?_); refine goesL_ (some 14) rfl rfl Try.func24 (by kernel_rfl) rfl #[.int .i64 a0, .int .i64 a1] rfl (by (try simp only [List.map_toArray, List.map_cons, List.map_nil]); first | done | rfl | (simp only [List.length_drop, List.length_take]; rfl)) ?_; (with_reducible refine (smaltoref01_Shift.calls k a0 a1 t255 _ A6.out).mono ?_); rintro e w16 ⟨rfl, hb⟩; refine ⟨_, rfl, ?_⟩; have n0_ := Aside0.mk (below_step (by repeat (first | (with_reducible first | exact HB.out | apply below_alloc | apply pw_below_drewN | apply below_drew1) | exact HB.out)) hb); clear HB; have HB := n0_; clear n0_; (try clear hb); (try clear hb2); (try clear hk); (try clear hi)))
      go_ret
      exact ⟨by first | rfl | (simp [errW_none, errW_some] <;> rfl) | (simp [*, errW_none, errW_some] <;> rfl), by repeat (first | (with_reducible first | exact HB.out | apply below_alloc | apply pw_below_drewN | apply below_drew1) | exact HB.out)⟩
  · replace c4 := Bool.eq_false_iff.mpr c4
    subst c4
    have H1 : (some false) = some r := by rw [if_neg (show ¬ (false = true) by decide)] at H; exact H
    clear H
    have H := H1
    clear H1
    obtain rfl := Option.some.inj H
    go_enter Try.func9, Try.ntmps9
    go_wp2_with (first | ((with_reducible refine gate_callee (f := 17) rfl ?_); refine goesL_ (some 6) rfl rfl Try.func17 (by kernel_rfl) rfl #[] rfl (by (try simp only [List.map_toArray, List.map_cons, List.map_nil]); first | done | rfl | (simp only [List.length_drop, List.length_take]; rfl)) ?_; (with_reducible refine (smaltolaw01_Lives.calls k  false _ A3.out).mono ?_); rintro e w' ⟨rfl, ⟨nd, rfl⟩⟩; refine ⟨_, rfl, ?_⟩))
    go_ret
    exact ⟨by first | rfl | (simp [errW_none, errW_some] <;> rfl) | (simp [*, errW_none, errW_some] <;> rfl), by repeat (first | (with_reducible first | exact HB.out | apply below_alloc | apply pw_below_drewN | apply below_drew1) | exact HB.out)⟩

/-- THE ONE PURE STATEMENT of smaltolaw01_FixedShifts: yours. -/
def smaltolaw01_FixedShifts.Pure : Prop := ∀ (a0 : Int) (a1 : Int), (Lit.int .i64 a0).wf = true → (Lit.int .i64 a1).wf = true → ∃ k, smaltolaw01_FixedShifts.f k a0 a1 = some true
theorem smaltolaw01_FixedShifts.walk (P : smaltolaw01_FixedShifts.Pure) (a0 : Int) (a1 : Int) (w : World) (w0 : (Lit.int .i64 a0).wf = true) (w1 : (Lit.int .i64 a1).wf = true) :
    Calls Try.prog 9 #[.int .i64 a0, .int .i64 a1] w fun e w' => e = .returned (.bool true) ∧ Below w.heap.size w w' := by
  obtain ⟨k, h⟩ := P a0 a1 w0 w1
  refine (smaltolaw01_FixedShifts.calls k a0 a1 true w h).mono ?_
  rintro e w' ⟨rfl, hd⟩
  exact ⟨rfl, hd⟩

/-! ### fixed_Gcd: function 25 -/
def fixed_Gcd.l0 : Nat → Int → Int → Option (Int)
  | 0, _, _ => none
  | k + 1, x5, x6 => if x6 = 0 then ((fixed_hold.f k x5 false).bind fun t259 => (some t259)) else (fixed_Gcd.l0 k x6 (Int.tmod x5 x6))
def fixed_Gcd.f (k : Nat) (a0 : Int) (a1 : Int) : Option (Int) := (fixed_size.f a0).bind fun t257 => ((fixed_size.f a1).bind fun t258 => (fixed_Gcd.l0 k t257 t258))
theorem fixed_Gcd.mono_l : ∀ k, (∀ y0 y1, LeO (fixed_Gcd.l0 k y0 y1) (fixed_Gcd.l0 (k + 1) y0 y1))
  | 0 => fun _ _ r h => by simp [fixed_Gcd.l0] at h
  | k + 1 => by
    have ih0 := fixed_Gcd.mono_l k
    · intro y0 y1
      unfold fixed_Gcd.l0
      repeat' first
      | (with_reducible exact ih0 _ _)
      | (with_reducible exact fixed_hold.mono _ _ _)
      | (with_reducible exact LeO.refl _)
      | (with_reducible exact LeO.none _)
      | (with_reducible refine LeO.ite ?_ ?_)
      | (with_reducible refine LeO.bind ?_ (fun _ => ?_))
      | exact ih0 _ _
      | exact fixed_hold.mono _ _ _
      | exact LeO.none _
      | refine LeO.ite ?_ ?_
      | refine LeO.bind ?_ (fun _ => ?_)
theorem fixed_Gcd.mono : ∀ a0 a1 k, LeO (fixed_Gcd.f k a0 a1) (fixed_Gcd.f (k + 1) a0 a1) := by
  intro a0 a1 k
  have ih0 := fixed_Gcd.mono_l k
  unfold fixed_Gcd.f
  repeat' first
      | (with_reducible exact ih0 _ _)
      | (with_reducible exact fixed_hold.mono _ _ _)
      | (with_reducible exact LeO.refl _)
      | (with_reducible exact LeO.none _)
      | (with_reducible refine LeO.ite ?_ ?_)
      | (with_reducible refine LeO.bind ?_ (fun _ => ?_))
      | exact ih0 _ _
      | exact fixed_hold.mono _ _ _
      | exact LeO.none _
      | refine LeO.ite ?_ ?_
      | refine LeO.bind ?_ (fun _ => ?_)
set_option maxHeartbeats 8000000 in
set_option maxRecDepth 100000 in
theorem fixed_Gcd.calls (k : Nat) (a0 : Int) (a1 : Int) (r : Int) (w : World) (h : fixed_Gcd.f k a0 a1 = some r) :
    Calls Try.prog 25 #[.int .i64 a0, .int .i64 a1] w fun e w' => e = .returned (.int .i64 r) ∧ Drawn0 w w' := by
  have H : ((fixed_size.f a0).bind fun t257 => ((fixed_size.f a1).bind fun t258 => (fixed_Gcd.l0 k t257 t258))) = some r := h
  clear h
  replace H := Option.bind_eq_some_iff.mp H
  obtain ⟨t257, A30, H⟩ := H
  replace H : ((fixed_size.f a1).bind fun t258 => (fixed_Gcd.l0 k t257 t258)) = some r := H
  have A3 := Aside0.mk A30
  clear A30
  replace H := Option.bind_eq_some_iff.mp H
  obtain ⟨t258, A40, H⟩ := H
  replace H : (fixed_Gcd.l0 k t257 t258) = some r := H
  have A4 := Aside0.mk A40
  clear A40
  have H' := Aside0.mk H
  clear H
  go_enter Try.func25, Try.ntmps25
  go_wp2_with (first | (go_at_call 34; (with_reducible refine (fixed_size.calls a0 t257 _ A3.out).mono ?_); rintro e w' ⟨rfl, ⟨nd, rfl⟩⟩; (try first | exact ⟨rfl, _, World.drewN_drewN _ _ _⟩ | exact ⟨rfl, _, Eq.trans (World.drewN_drewN _ _ _) (congrArg (World.drewN _) (Nat.add_assoc _ _ _))⟩)) | (go_at_call 34; (with_reducible refine (fixed_size.calls a1 t258 _ A4.out).mono ?_); rintro e w' ⟨rfl, ⟨nd, rfl⟩⟩; (try first | exact ⟨rfl, _, World.drewN_drewN _ _ _⟩ | exact ⟨rfl, _, Eq.trans (World.drewN_drewN _ _ _) (congrArg (World.drewN _) (Nat.add_assoc _ _ _))⟩)))
  repeat (go_quiet (first | (go_at_call 34; (with_reducible refine (fixed_size.calls a0 t257 _ A3.out).mono ?_); rintro e w' ⟨rfl, ⟨nd, rfl⟩⟩; (try first | exact ⟨rfl, _, World.drewN_drewN _ _ _⟩ | exact ⟨rfl, _, Eq.trans (World.drewN_drewN _ _ _) (congrArg (World.drewN _) (Nat.add_assoc _ _ _))⟩)) | (go_at_call 34; (with_reducible refine (fixed_size.calls a1 t258 _ A4.out).mono ?_); rintro e w' ⟨rfl, ⟨nd, rfl⟩⟩; (try first | exact ⟨rfl, _, World.drewN_drewN _ _ _⟩ | exact ⟨rfl, _, Eq.trans (World.drewN_drewN _ _ _) (congrArg (World.drewN _) (Nat.add_assoc _ _ _))⟩))); try go_wp2_with (first | (go_at_call 34; (with_reducible refine (fixed_size.calls a0 t257 _ A3.out).mono ?_); rintro e w' ⟨rfl, ⟨nd, rfl⟩⟩; (try first | exact ⟨rfl, _, World.drewN_drewN _ _ _⟩ | exact ⟨rfl, _, Eq.trans (World.drewN_drewN _ _ _) (congrArg (World.drewN _) (Nat.add_assoc _ _ _))⟩)) | (go_at_call 34; (with_reducible refine (fixed_size.calls a1 t258 _ A4.out).mono ?_); rintro e w' ⟨rfl, ⟨nd, rfl⟩⟩; (try first | exact ⟨rfl, _, World.drewN_drewN _ _ _⟩ | exact ⟨rfl, _, Eq.trans (World.drewN_drewN _ _ _) (congrArg (World.drewN _) (Nat.add_assoc _ _ _))⟩))))
  go_loopg [5, 6] k (fun kq v5 v6 w' => ∃ (x5_1 : Int) (x6_1 : Int), v5 = .int .u64 x5_1 ∧ v6 = .int .u64 x6_1 ∧ Aside0 (fixed_Gcd.l0 kq x5_1 x6_1 = some r) ∧ Aside0 (kq ≤ k) ∧ Drawn0 w w')
  case atStart => exact ⟨(t257), (t258), (by first | rfl | (simp; done) | (simp [*]; done)), (by first | rfl | (simp; done) | (simp [*]; done)), H', ⟨Nat.le_refl _⟩, by repeat (first | exact Drawn0.refl _ | apply Drawn0.step)⟩
  case round =>
    clear H'
    try clear c2
    try clear p2
    obtain ⟨x5_1, x6_1, rfl, rfl, HA, HK1, ⟨m1, rfl⟩⟩ := hrel
    cases gk with
    | zero => exact absurd HA.out (by simp [fixed_Gcd.l0])
    | succ k1 =>
      have H := HA.out
      clear HA
      simp only [fixed_Gcd.l0] at H
      by_cases c5 : x6_1 = 0
      · rw [if_pos c5] at H
        have c5b0 : (x6_1 == 0) = true := beq_iff_eq.mpr c5
        have c5b1 : (x6_1 != 0) = false := bne_eq_false_iff_eq.mpr c5
        clear c5
        replace H := Option.bind_eq_some_iff.mp H
        obtain ⟨t259, A60, H⟩ := H
        replace H : (some t259) = some r := H
        have A6 := Aside0.mk A60
        clear A60
        obtain rfl := Option.some.inj H
        go_wp2_with (first | (go_at_call 35; (with_reducible refine (fixed_hold.calls k1 x5_1 false t259 _ A6.out).mono ?_); rintro e w' ⟨rfl, ⟨nd, rfl⟩⟩; (try first | exact ⟨rfl, _, World.drewN_drewN _ _ _⟩ | exact ⟨rfl, _, Eq.trans (World.drewN_drewN _ _ _) (congrArg (World.drewN _) (Nat.add_assoc _ _ _))⟩)))
        repeat (go_quiet (first | (go_at_call 35; (with_reducible refine (fixed_hold.calls k1 x5_1 false t259 _ A6.out).mono ?_); rintro e w' ⟨rfl, ⟨nd, rfl⟩⟩; (try first | exact ⟨rfl, _, World.drewN_drewN _ _ _⟩ | exact ⟨rfl, _, Eq.trans (World.drewN_drewN _ _ _) (congrArg (World.drewN _) (Nat.add_assoc _ _ _))⟩))); try go_wp2_with (first | (go_at_call 35; (with_reducible refine (fixed_hold.calls k1 x5_1 false t259 _ A6.out).mono ?_); rintro e w' ⟨rfl, ⟨nd, rfl⟩⟩; (try first | exact ⟨rfl, _, World.drewN_drewN _ _ _⟩ | exact ⟨rfl, _, Eq.trans (World.drewN_drewN _ _ _) (congrArg (World.drewN _) (Nat.add_assoc _ _ _))⟩))))
        go_ret
        exact ⟨by first | rfl | (simp; done) | (simp [*]; done), by repeat (first | exact Drawn0.refl _ | apply Drawn0.step)⟩
      · rw [if_neg c5] at H
        have c5b0 : (x6_1 == 0) = false := beq_eq_false_iff_ne.mpr c5
        have c5b1 : (x6_1 != 0) = true := bne_iff_ne.mpr c5
        have H' := Aside0.mk H
        clear H
        go_wp2
        repeat (go_quiet (fail); try go_wp2)
        go_roundg k1
        case measure => have := HK1.out; omega
        case rel => exact ⟨(x6_1), (Int.tmod x5_1 x6_1), (by first | rfl | (simp; done) | (simp [*]; done)), (by first | rfl | (simp; done) | (simp [*]; done)), H', ⟨by have := HK1.out; omega⟩, by repeat (first | exact Drawn0.refl _ | apply Drawn0.step)⟩

/-! ### smaltoref01_Gcd: function 26 -/
mutual
def smaltoref01_Gcd.l0 : Nat → Int → Int → Option (Int)
  | 0, _, _ => none
  | k + 1, x0, x1 => if x0 > 0 then (smaltoref01_Gcd.j1 k x0 x1 (decide (x1 > 0))) else (smaltoref01_Gcd.j1 k x0 x1 false)
def smaltoref01_Gcd.j1 : Nat → Int → Int → Bool → Option (Int)
  | 0, _, _, _ => none
  | k + 1, x0, x1, x10 => if x10 = true then (if x0 ≥ x1 then (if x1 = 0 then (none) else (smaltoref01_Gcd.l0 k (Int.tmod x0 x1) x1)) else (if x0 = 0 then (none) else (smaltoref01_Gcd.l0 k x0 (Int.tmod x1 x0)))) else (some (IntKind.u64.wrap (x0 + x1)))
end
def smaltoref01_Gcd.f (k : Nat) (a0 : Int) (a1 : Int) : Option (Int) := smaltoref01_Gcd.l0 k a0 a1
theorem smaltoref01_Gcd.mono_l : ∀ k, (∀ y0 y1, LeO (smaltoref01_Gcd.l0 k y0 y1) (smaltoref01_Gcd.l0 (k + 1) y0 y1)) ∧ (∀ y0 y1 y2, LeO (smaltoref01_Gcd.j1 k y0 y1 y2) (smaltoref01_Gcd.j1 (k + 1) y0 y1 y2))
  | 0 => ⟨fun _ _ r h => by simp [smaltoref01_Gcd.l0] at h, fun _ _ _ r h => by simp [smaltoref01_Gcd.j1] at h⟩
  | k + 1 => by
    obtain ⟨ih0, ih1⟩ := smaltoref01_Gcd.mono_l k
    refine ⟨?_, ?_⟩
    · intro y0 y1
      unfold smaltoref01_Gcd.l0
      repeat' first
      | (with_reducible exact ih0 _ _)
      | (with_reducible exact ih1 _ _ _)
      | (with_reducible exact LeO.refl _)
      | (with_reducible exact LeO.none _)
      | (with_reducible refine LeO.ite ?_ ?_)
      | (with_reducible refine LeO.bind ?_ (fun _ => ?_))
      | exact ih0 _ _
      | exact ih1 _ _ _
      | exact LeO.none _
      | refine LeO.ite ?_ ?_
      | refine LeO.bind ?_ (fun _ => ?_)
    · intro y0 y1 y2
      unfold smaltoref01_Gcd.j1
      repeat' first
      | (with_reducible exact ih0 _ _)
      | (with_reducible exact ih1 _ _ _)
      | (with_reducible exact LeO.refl _)
      | (with_reducible exact LeO.none _)
      | (with_reducible refine LeO.ite ?_ ?_)
      | (with_reducible refine LeO.bind ?_ (fun _ => ?_))
      | exact ih0 _ _
      | exact ih1 _ _ _
      | exact LeO.none _
      | refine LeO.ite ?_ ?_
      | refine LeO.bind ?_ (fun _ => ?_)
theorem smaltoref01_Gcd.mono : ∀ a0 a1 k, LeO (smaltoref01_Gcd.f k a0 a1) (smaltoref01_Gcd.f (k + 1) a0 a1) := by
  intro a0 a1 k
  obtain ⟨ih0, ih1⟩ := smaltoref01_Gcd.mono_l k
  unfold smaltoref01_Gcd.f
  repeat' first
      | (with_reducible exact ih0 _ _)
      | (with_reducible exact ih1 _ _ _)
      | (with_reducible exact LeO.refl _)
      | (with_reducible exact LeO.none _)
      | (with_reducible refine LeO.ite ?_ ?_)
      | (with_reducible refine LeO.bind ?_ (fun _ => ?_))
      | exact ih0 _ _
      | exact ih1 _ _ _
      | exact LeO.none _
      | refine LeO.ite ?_ ?_
      | refine LeO.bind ?_ (fun _ => ?_)
set_option maxHeartbeats 8000000 in
set_option maxRecDepth 100000 in
theorem smaltoref01_Gcd.calls (k : Nat) (a0 : Int) (a1 : Int) (r : Int) (w : World) (h : smaltoref01_Gcd.f k a0 a1 = some r) :
    Calls Try.prog 26 #[.int .u64 a0, .int .u64 a1] w fun e w' => e = .returned (.int .u64 r) ∧ Drawn0 w w' := by
  have H : (smaltoref01_Gcd.l0 k a0 a1) = some r := h
  clear h
  have H' := Aside0.mk H
  clear H
  go_enter Try.func26, Try.ntmps26
  go_wp2
  go_loopg [0, 1] k (fun kq v0 v1 w' => ∃ (x0_1 : Int) (x1_1 : Int), v0 = .int .u64 x0_1 ∧ v1 = .int .u64 x1_1 ∧ Aside0 (smaltoref01_Gcd.l0 kq x0_1 x1_1 = some r) ∧ Aside0 (kq ≤ k) ∧ Drawn0 w w')
  case atStart => exact ⟨(a0), (a1), (by first | rfl | (simp; done) | (simp [*]; done)), (by first | rfl | (simp; done) | (simp [*]; done)), H', ⟨Nat.le_refl _⟩, by repeat (first | exact Drawn0.refl _ | apply Drawn0.step)⟩
  case round =>
    clear H'
    try clear c2
    try clear p2
    obtain ⟨x0_1, x1_1, rfl, rfl, HA, HK1, ⟨m1, rfl⟩⟩ := hrel
    cases gk with
    | zero => exact absurd HA.out (by simp [smaltoref01_Gcd.l0])
    | succ k1 =>
      have H := HA.out
      clear HA
      simp only [smaltoref01_Gcd.l0] at H
      have HC3 := Aside0.mk H
      clear H
      go_upto_region 1 with (fail)
      go_cut [10] (fun v10 wc => ∃ (kq : Nat) (x10_2 : Bool), v10 = .bool x10_2 ∧ Aside0 (smaltoref01_Gcd.j1 kq x0_1 x1_1 x10_2 = some r) ∧ Aside0 (kq ≤ k1) ∧ Drawn0 w wc)
      case first =>
        have H := HC3.out
        clear HC3
        by_cases c4 : x0_1 > 0
        · rw [if_pos c4] at H
          have c4b0 : decide (0 < x0_1) = true := decide_eq_true c4
          clear c4
          (first | rw [c4b0] | (simp only [i64_w, i32_w]; rw [c4b0]) | skip)
          have H' := Aside0.mk H
          clear H
          go_wp2
          go_meet
          case rel => exact ⟨_, (decide (x1_1 > 0)), (by first | rfl | (simp; done) | (simp [*]; done)), H', ⟨by have := HK1.out; first | omega | exact Nat.le_refl _⟩, by repeat (first | exact Drawn0.refl _ | apply Drawn0.step)⟩
        · rw [if_neg c4] at H
          have c4b0 : decide (0 < x0_1) = false := decide_eq_false c4
          clear c4
          (first | rw [c4b0] | (simp only [i64_w, i32_w]; rw [c4b0]) | skip)
          have H' := Aside0.mk H
          clear H
          go_wp2
          go_meet
          case rel => exact ⟨_, (false), (by first | rfl | (simp; done) | (simp [*]; done)), H', ⟨by have := HK1.out; first | omega | exact Nat.le_refl _⟩, by repeat (first | exact Drawn0.refl _ | apply Drawn0.step)⟩
      case rest =>
        clear HC3
        try clear c2
        try clear p2
        try clear c4
        try clear c4b0
        try clear p2
        obtain ⟨kq, x10_2, rfl, HA, HJ2, ⟨mc2, rfl⟩⟩ := hcut
        cases kq with
        | zero => exact absurd HA.out (by simp [smaltoref01_Gcd.j1])
        | succ kj2 =>
          have H := HA.out
          clear HA
          simp only [smaltoref01_Gcd.j1] at H
          by_cases c5 : x10_2 = true
          · subst c5
            have H1 : (if x0_1 ≥ x1_1 then (if x1_1 = 0 then (none) else (smaltoref01_Gcd.l0 kj2 (Int.tmod x0_1 x1_1) x1_1)) else (if x0_1 = 0 then (none) else (smaltoref01_Gcd.l0 kj2 x0_1 (Int.tmod x1_1 x0_1)))) = some r := by rw [if_pos rfl] at H; exact H
            clear H
            have H := H1
            clear H1
            by_cases c6 : x0_1 ≥ x1_1
            · rw [if_pos c6] at H
              have c6b0 : decide (x1_1 ≤ x0_1) = true := decide_eq_true c6
              clear c6
              by_cases c7 : x1_1 = 0
              · rw [if_pos c7] at H
                exact absurd H (by simp)
              · rw [if_neg c7] at H
                have c7b0 : (x1_1 == 0) = false := beq_eq_false_iff_ne.mpr c7
                have c7b1 : (x1_1 != 0) = true := bne_iff_ne.mpr c7
                have H' := Aside0.mk H
                clear H
                go_wp2
                go_roundg kj2
                case measure => have := HK1.out; have := HJ2.out; omega
                case rel => exact ⟨(Int.tmod x0_1 x1_1), (x1_1), (by first | rfl | (simp; done) | (simp [*]; done)), (by first | rfl | (simp; done) | (simp [*]; done)), H', ⟨by have := HK1.out; have := HJ2.out; omega⟩, by repeat (first | exact Drawn0.refl _ | apply Drawn0.step)⟩
            · rw [if_neg c6] at H
              have c6b0 : decide (x1_1 ≤ x0_1) = false := decide_eq_false c6
              clear c6
              by_cases c8 : x0_1 = 0
              · rw [if_pos c8] at H
                exact absurd H (by simp)
              · rw [if_neg c8] at H
                have c8b0 : (x0_1 == 0) = false := beq_eq_false_iff_ne.mpr c8
                have c8b1 : (x0_1 != 0) = true := bne_iff_ne.mpr c8
                have H' := Aside0.mk H
                clear H
                go_wp2
                go_roundg kj2
                case measure => have := HK1.out; have := HJ2.out; omega
                case rel => exact ⟨(x0_1), (Int.tmod x1_1 x0_1), (by first | rfl | (simp; done) | (simp [*]; done)), (by first | rfl | (simp; done) | (simp [*]; done)), H', ⟨by have := HK1.out; have := HJ2.out; omega⟩, by repeat (first | exact Drawn0.refl _ | apply Drawn0.step)⟩
          · replace c5 := Bool.eq_false_iff.mpr c5
            subst c5
            have H1 : (some (IntKind.u64.wrap (x0_1 + x1_1))) = some r := by rw [if_neg (show ¬ (false = true) by decide)] at H; exact H
            clear H
            have H := H1
            clear H1
            obtain rfl := Option.some.inj H
            go_wp2
            go_ret
            exact ⟨by first | rfl | (simp; done) | (simp [*]; done), by repeat (first | exact Drawn0.refl _ | apply Drawn0.step)⟩

end Go.Proofs.Ytofmgoihoaookaa.QA
