/- What functions of the program come to, in plain numbers. -/
import Derived.Test.YtabojpnelbmifaaQAx1
import Derived.Test.YtabojpnelbmifaaQAx2
import Derived.Test.YtabojpnelbmifaaTCore
import Derived.Test.YtabojpnelbmifaaTExt
import Derived.Test.YtabojpnelbmifaaH06
import Derived.Test.YtabojpnelbmifaaH06b
import Derived.Test.YtabojpnelbmifaaH06s
namespace Go.Proofs.Ytabojpnelbmifaa.QA
open Go.RowKit Go.Proofs.YtabojpnelbmifaaW.PrintWords Go.Proofs.YtabojpnelbmifaaW.PrintLast Go.Proofs.YtabojpnelbmifaaW.PrintMore Go.Proofs.Ytabojpnelbmifaa.T
set_option linter.unusedVariables false

set_option maxHeartbeats 8000000 in
set_option maxRecDepth 100000 in
theorem app_calls (A0 : Option Addr) (c0 : Nat) (l0 : List Int) (w : World) (hr0 : Kd.C (Kd.int .i64) w A0 l0.length l0) (hc0 : l0.length ≤ c0) (hi : ∀ i, I64 (rd l0 i)) (hn0 : 1 ≤ l0.length) (hn1 : l0.length ≤ 1048576) (hk : chkV l0 = 0) (hlb : 0 ≤ 16384 - psum (qV l0 (sumFrom 0 l0)) l0.length ∧ 16384 - psum (qV l0 (sumFrom 0 l0)) l0.length ≤ l0.length) (hqb : ∀ j, j < l0.length → -134217728 ≤ qV l0 (sumFrom 0 l0) j ∧ qV l0 (sumFrom 0 l0) j ≤ 134217728) (hq : ∀ j, j < l0.length → fixed_Floor.f 1 (wrap64 (rd l0 (j : Int) * 16384)) (sumFrom 0 l0) = some (qV l0 (sumFrom 0 l0) j) ∧ fixed_Mod.f 1 (wrap64 (rd l0 (j : Int) * 16384)) (sumFrom 0 l0) = some (mV l0 (sumFrom 0 l0) j)) :
    Calls Try.prog 10 #[.slice A0 l0.length c0] w fun e w' => ∃ (π : Nat → Nat) (o : Nat → Int) (b1 : Nat), e = .returned (.tuple #[.slice (some ⟨b1, 0, none⟩) l0.length l0.length, .int .i64 0]) ∧ Ordr l0.length (mV l0 (sumFrom 0 l0)) π ∧
      (∀ p : Nat, (p : Int) < 16384 - psum (qV l0 (sumFrom 0 l0)) l0.length → o (π p) = qV l0 (sumFrom 0 l0) (π p) + 1) ∧ (∀ j, j < l0.length → (∀ p : Nat, (p : Int) < 16384 - psum (qV l0 (sumFrom 0 l0)) l0.length → π p ≠ j) → o j = qV l0 (sumFrom 0 l0) j) ∧
      w'.heap[b1]? = some (.cells (vals o l0.length) 2 (0, 0)) ∧ w.heap.size ≤ b1 ∧ Below w.heap.size w w' := by
  have hc := check_calls A0 c0 l0 w hr0 hc0 hi
  rw [hk] at hc
  have hs := fun w' (hb : Below w.heap.size w w') => taps_Sum.calls (l0.length + 3) A0 c0 l0 (sumFrom 0 l0) w' (Kd.C_below hr0 hb) hc0 (taps_Sum_eq (Nat.le_refl _) (by omega) hi)
  have eCH : ∀ args w, (callFunc 23 args).run Try.prog w = .ok (.enter 23 args) w := enters_of Try.func23 (by kernel_rfl) rfl
  have eTS : ∀ args w, (callFunc 13 args).run Try.prog w = .ok (.enter 13 args) w := enters_of Try.func13 (by kernel_rfl) rfl
  have mixed : Try.prog.follows .mixedOrders = true := by kernel_rfl
  have HR0 := Aside0.mk hr0
  have HI := Aside0.mk hi
  have HQ0 := Aside0.mk hq
  have HQB0 := Aside0.mk hqb
  have HLB0 := Aside0.mk hlb
  clear hr0 hk hi hq hqb hlb
  obtain ⟨n, hn⟩ : ∃ n, n = l0.length := ⟨_, rfl⟩
  rw [← hn] at hc hs hc0 hn0 hn1 ⊢
  have HN := Aside0.mk hn
  clear hn
  obtain ⟨s, hs0⟩ : ∃ s, s = sumFrom 0 l0 := ⟨_, rfl⟩
  rw [← hs0] at hs ⊢
  have HQ := Aside0.mk (hs0 ▸ HN.out ▸ HQ0.out : ∀ j, j < n → fixed_Floor.f 1 (wrap64 (rd l0 (j : Int) * 16384)) s = some (qV l0 s j) ∧ fixed_Mod.f 1 (wrap64 (rd l0 (j : Int) * 16384)) s = some (mV l0 s j))
  have HQB := Aside0.mk (hs0 ▸ HN.out ▸ HQB0.out : ∀ j, j < n → -134217728 ≤ qV l0 s j ∧ qV l0 s j ≤ 134217728)
  have HLB := Aside0.mk (hs0 ▸ HN.out ▸ HLB0.out : 0 ≤ 16384 - psum (qV l0 s) n ∧ 16384 - psum (qV l0 s) n ≤ n)
  have HPS := Aside0.mk (fun i (h : i ≤ n) => psum_bnd (qV l0 s) n HQB.out i h)
  have HS := Aside0.mk hs0
  clear hs0 HQ0 HQB0 HLB0
  go_enter Try.func10, Try.ntmps10
  go_upto_region 5 with (first | (go_at_fn 23; refine hc.mono ?_; rintro e w' ⟨rfl, hb⟩; have HB1 := Aside0.mk hb; clear hb hc) | (go_at_fn 13; refine (hs _ HB1.out).mono ?_; rintro e w' ⟨rfl, ⟨nd2, rfl⟩⟩))
  have HB2 := Aside0.mk (pw_below_drewN HB1.out nd2)
  clear hs HB1
  generalize w'.drewN nd2 = w2 at HB2 ⊢
  have z0 : (0 : Int) ≤ (n : Int) := by omega
  go_cut [7, 8, 9, 29] (fun v7 v8 v9 v29 wc => ∃ (b1 b2 b3 b4 : Nat), v7 = .slice (some ⟨b1, 0, none⟩) n n ∧ v8 = .slice (some ⟨b2, 0, none⟩) n n ∧ v9 = .pointer (some ⟨b4, 0, none⟩) ∧ v29 = .slice (some ⟨b3, 0, none⟩) n n ∧ Aside0 (St w wc n b1 b2 b3 b4 (fun _ => 0) (fun _ => 0) (fun _ => 0)))
  case first => as_aux_lemma =>
    have mk1 := print_make (P := Try.prog) 22 2 .i64 8 (by kernel_rfl) (by kernel_rfl) (by decide) n (by omega)
    have mk2 := print_make (P := Try.prog) 42 3 .i64 8 (by kernel_rfl) (by kernel_rfl) (by decide) n (by omega)
    go_region_held3 (fun _ => True) (trivial) (fail)
    all_goals go_wp2
    all_goals go_meet
    all_goals (
      have hw := HB2.out.size
      refine ⟨_, _, _, _, rfl, rfl, rfl, rfl, ⟨⟨?_, ?_, ?_, ?_, ?_, ?_, ?_, ?_, ?_, ?_⟩⟩⟩
      · repeat (first | exact HB2.out | apply Below.drew | (refine Below.setCell ?_ (by show w.heap.size ≤ _; simp; omega) _) | (refine Below.alloc ?_ (by first | omega | (simp only [ha_size]; omega)) _))
      · omega
      · omega
      · omega
      · omega
      · omega
      all_goals (
        rw [ha_drew]
        try rw [← vals_made]
        repeat (first
          | (rw [ha_at _ _ _ (by first | rfl | (simp only [ha_size]; done) | (simp only [ha_size]; omega))]; done)
          | rw [ha_old _ _ _ (by first | omega | (simp only [ha_size]; omega))])))
  case rest =>
    obtain ⟨b1, b2, b3, b4, rfl, rfl, rfl, rfl, HST⟩ := hcut
    clear HB2
    go_wp2
    go_loopg [6, 10, 11, 32] n (fun kx s6 s10 s11 s32 wr => ∃ (i : Nat) (lf : Int), s6 = .int .i64 lf ∧ s32 = .int .i64 i ∧ i ≤ n ∧ n - i ≤ kx ∧ Aside0 (lf = 16384 - psum (qV l0 s) i) ∧
      Aside0 (St w wr n b1 b2 b3 b4 (fun j => if j < i then qV l0 s j else 0) (fun j => if j < i then (j : Int) else 0) (fun j => if j < i then mV l0 s j else 0)))
    case atStart => exact ⟨0, 16384, rfl, rfl, by omega, by omega, ⟨by simp [psum]⟩, ⟨HST.out.congr (fun i h => by simp) (fun i h => by simp) (fun i h => by simp)⟩⟩
    case round =>
      clear HST
      obtain ⟨i, lf, rfl, rfl, h1, h2, HL, HST⟩ := hrel
      by_cases hlt : (i : Int) < (n : Int)
      · have p101 : 0 ≤ (i : Int) := by omega
        obtain ⟨ad101, e101, hx101_0⟩ := Kd.at_int (Kd.C_below HR0.out HST.out.hb) (i : Int) p101 (by rw [← HN.out]; exact hlt)
        cases e101
        rw [show ((i : Int)).toNat = i from by omega] at hx101_0
        obtain ⟨n12, n13, n14, n23, n24, n34⟩ := HST.out.ne
        have c4 := cell_of_heap (i := 0) HST.out.h4 rfl
        have c1 := fun m => cell_of_heap (i := i) (HST.out.drewN m).h1 (vals_get _ (by omega))
        have c3 := fun m v => cell_of_heap (i := i) ((HST.out.drewN m).set1 i v).h3 (vals_get _ (by omega))
        have c2 := fun m v u => cell_of_heap (i := i) (((HST.out.drewN m).set1 i v).set3 i u).h2 (vals_get _ (by omega))
        have f1 := frozen_of_heap (i := i) HST.out.h1
        have f2 := frozen_of_heap (i := i) HST.out.h2
        have f3 := frozen_of_heap (i := i) HST.out.h3
        have hfl := fun w' => fixed_Floor.calls 1 (wrap64 (rd l0 (i : Int) * 16384)) s (qV l0 s i) w' (HQ.out i (by omega)).1
        have hmo := fun w' => fixed_Mod.calls 1 (wrap64 (rd l0 (i : Int) * 16384)) s (mV l0 s i) w' (HQ.out i (by omega)).2
        obtain ⟨qv, hqv⟩ : ∃ v, v = qV l0 s i := ⟨_, rfl⟩
        obtain ⟨mv, hmv⟩ : ∃ v, v = mV l0 s i := ⟨_, rfl⟩
        rw [← hqv] at hfl
        rw [← hmv] at hmo
        have HQV := Aside0.mk (show qv = qV l0 s i ∧ -134217728 ≤ qv ∧ qv ≤ 134217728 from ⟨hqv, by rw [hqv]; exact HQB.out i (by omega)⟩)
        have HMV := Aside0.mk hmv
        clear hqv hmv
        simp only [← i64w] at hfl hmo
        have HFL := Aside0.mk hfl
        have HMO := Aside0.mk hmo
        clear hfl hmo
        go_upto_region 9 with fail
        go_region_held3 (fun w' => w'.cell? ⟨b4, 0, none⟩ = some (.slice (some ⟨b3, 0, none⟩) n n)) (first | go_keep | (refine (World.cell?_setCell_other _ _ _ _ (by intro e; simp only [Addr.mk.injEq] at e; omega)).trans ?_; first | assumption | (simp; done) | (simp; assumption))) (first | (go_at_call 24; (with_reducible refine (HFL.out _).mono ?_); rintro e w' ⟨rfl, ⟨ndf, rfl⟩⟩) | (go_at_call 25; (with_reducible refine (HMO.out _).mono ?_); rintro e w' ⟨rfl, ⟨ndm, rfl⟩⟩))
        all_goals (
          first | generalize 1 + ndf + ndm = m9 | generalize 1 + ndm + ndf = m9
          have HST2 := Aside0.mk ((((HST.out.drewN m9).set1 i qv).set3 i mv).set2 i (i : Int))
          generalize (((wr.drewN m9).setCell ⟨b1, i, none⟩ (.int .i64 qv)).setCell ⟨b3, i, none⟩ (.int .i64 mv)).setCell ⟨b2, i, none⟩ (.int .i64 (i : Int)) = w9 at HST2 ⊢
          clear c4 c1 c3 c2 f1 f2 f3 hx101_0 HST
          have c5 : w9.cell? ⟨b1, i, none⟩ = some (.int .i64 qv) := by
            have := cell_of_heap (i := i) HST2.out.h1 (vals_get _ (by omega))
            simpa [upd] using this
          have hlb := HPS.out i (by omega)
          have wl : IntKind.i64.wrap (lf - qv) = lf - qv := by rw [i64w]; have := HL.out; have := HQV.out; exact w64_id (by omega) (by omega)
          have wi : IntKind.i64.wrap ((i : Int) + 1) = (i : Int) + 1 := by rw [i64w]; exact w64_id (by omega) (by omega)
          clear hlb
          go_wp2
          go_roundg (n - (i + 1))
          case measure => omega
          case rel =>
            refine ⟨i + 1, lf - qv, rfl, by simp, by omega, Nat.le_refl _, ⟨by rw [psum, HL.out, HQV.out.1]; omega⟩, ⟨HST2.out.congr (fun j h => ?_) (fun j h => ?_) (fun j h => ?_)⟩⟩
            · unfold upd
              by_cases c : j = i
              · rw [if_pos c, if_pos (by omega), c, HQV.out.1]
              · rw [if_neg c]; dsimp only; by_cases c2 : j < i
                · rw [if_pos c2, if_pos (by omega)]
                · rw [if_neg c2, if_neg (by omega)]
            · unfold upd
              by_cases c : j = i
              · rw [if_pos c, if_pos (by omega), c]
              · rw [if_neg c]; dsimp only; by_cases c2 : j < i
                · rw [if_pos c2, if_pos (by omega)]
                · rw [if_neg c2, if_neg (by omega)]
            · unfold upd
              by_cases c : j = i
              · rw [if_pos c, if_pos (by omega), c, HMV.out]
              · rw [if_neg c]; dsimp only; by_cases c2 : j < i
                · rw [if_pos c2, if_pos (by omega)]
                · rw [if_neg c2, if_neg (by omega)])
      · have hin : i = n := by omega
        have HST2 := Aside0.mk (HST.out.congr (o' := qV l0 s) (q' := fun j => (j : Int)) (r' := mV l0 s) (fun j h => by rw [if_pos (by omega)]) (fun j h => by rw [if_pos (by omega)]) (fun j h => by rw [if_pos (by omega)]))
        have HLF := Aside0.mk (show lf = 16384 - psum (qV l0 s) n by rw [HL.out, hin])
        have hcall := sort_step HST2.out hn0 hn1
        have eSF : ∀ args w, (callFunc 26 args).run Try.prog w = .ok (.enter 26 args) w := enters_of Try.func26 (by kernel_rfl) rfl
        clear HST HST2 HL hin
        obtain ⟨L, hL⟩ : ∃ L : Nat, lf = (L : Int) := ⟨lf.toNat, by have := HLB.out; have := HLF.out; omega⟩
        subst hL
        have hLn : L ≤ n := by have := HLB.out; have := HLF.out; omega
        have zL0 : (0 : Int) ≤ (L : Int) := by omega
        have zL1 : (L : Int) ≤ (n : Int) := by omega
        go_upto_region 13 with (go_at_fn 26; refine hcall.mono ?_; rintro e w' ⟨rfl, π, hst, hord⟩; have HST3 := Aside0.mk hst; have HO := Aside0.mk hord; clear hst hord)
        clear hcall
        go_wp2
        go_loopg [13, 69] L (fun kx s13 s69 wr => ∃ (t : Nat), s69 = .int .i64 t ∧ t ≤ L ∧ L - t ≤ kx ∧ Aside0 (∃ o : Nat → Int, St w wr n b1 b2 b3 b4 o (fun j => (π j : Int)) (mV l0 s) ∧ (∀ p, p < t → o (π p) = qV l0 s (π p) + 1) ∧ (∀ j, j < n → (∀ p, p < t → π p ≠ j) → o j = qV l0 s j)))
        case atStart => exact ⟨0, rfl, by omega, by omega, ⟨qV l0 s, HST3.out, fun p h => by omega, fun j h h' => rfl⟩⟩
        case round =>
          clear HST3
          obtain ⟨t, rfl, t1, t2, HX⟩ := hrel
          by_cases hlt : (t : Int) < (L : Int)
          · obtain ⟨o, hst, ho1, ho2⟩ := HX.out
            have HST := Aside0.mk hst
            obtain ⟨x, hx⟩ : ∃ x, x = π t := ⟨_, rfl⟩
            have hxn : x < n := by rw [hx]; exact HO.out.1 t (by omega)
            have hnew : ∀ p, p < t → π p ≠ x := by
              intro p hp e
              have := HO.out.2.2 p t hp (by omega)
              rw [e, ← hx] at this
              omega
            have hox : o x = qV l0 s x := ho2 x hxn hnew
            have HOX := Aside0.mk hox
            have hqb := HQB.out x hxn
            have c1 : wr.cell? ⟨b2, t, none⟩ = some (.int .i64 (x : Int)) := by rw [hx]; exact cell_of_heap hst.h2 (vals_get _ (by omega))
            obtain ⟨v, hv⟩ : ∃ v, v = o x := ⟨_, rfl⟩
            have c2 : wr.cell? ⟨b1, x, none⟩ = some (.int .i64 v) := by rw [hv]; exact cell_of_heap hst.h1 (vals_get _ hxn)
            have f2 : wr.frozen? ⟨b1, x, none⟩ = false := frozen_of_heap hst.h1
            have wv : IntKind.i64.wrap (v + 1) = v + 1 := by rw [i64w, hv, hox]; exact w64_id (by omega) (by omega)
            have wt : IntKind.i64.wrap ((t : Int) + 1) = (t : Int) + 1 := by rw [i64w]; exact w64_id (by omega) (by omega)
            have px : (0 : Int) ≤ (x : Int) := by omega
            have qx : (x : Int) < (n : Int) := by omega
            have pt : (0 : Int) ≤ (t : Int) := by omega
            have HX2 := Aside0.mk hx
            have HV := Aside0.mk hv
            have HO1 := Aside0.mk ho1
            have HO2 := Aside0.mk ho2
            have HNEW := Aside0.mk hnew
            clear HX hst ho1 ho2 hnew hox hqb hx hv
            go_wp2
            have HST4 := Aside0.mk (HST.out.set1 x (v + 1))
            go_roundg (L - (t + 1))
            case measure => omega
            case rel =>
              refine ⟨t + 1, by simp, by omega, Nat.le_refl _, ⟨upd o x (v + 1), HST4.out, fun p hp => ?_, fun j hj hne => ?_⟩⟩
              · unfold upd
                by_cases c : π p = x
                · rw [if_pos c, HV.out, HOX.out, c]
                · rw [if_neg c]
                  by_cases c2 : p = t
                  · exact absurd (by rw [c2, HX2.out]) c
                  · exact HO1.out p (by omega)
              · unfold upd
                have c : j ≠ x := by rw [HX2.out]; exact fun e => hne t (by omega) e.symm
                rw [if_neg c]
                exact HO2.out j hj (fun p hp => hne p (by omega))
          · have htl : t = L := by omega
            subst htl
            go_wp2
            go_ret2
            obtain ⟨o, hst, ho1, ho2⟩ := HX.out
            refine ⟨π, o, b1, rfl, HO.out, fun p hp => ho1 p (by have := HLF.out; omega), fun j hj hne => ho2 j hj (fun p hp => hne p (by have := HLF.out; omega)), hst.h1, hst.k1, hst.hb⟩

end Go.Proofs.Ytabojpnelbmifaa.QA
