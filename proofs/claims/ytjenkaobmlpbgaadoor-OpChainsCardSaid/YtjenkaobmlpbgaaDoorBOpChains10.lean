/- Joined by wip/tools/bundle.py out of: T1 T2 T3 TLaid WSized. -/
import Derived.Test.YtjenkaobmlpbgaaDoorBOpChains0
import Derived.Test.YtjenkaobmlpbgaaDoorBOpChains1
import Derived.Test.YtjenkaobmlpbgaaDoorBOpChains5
import Derived.Handy
import Derived.Lib.SliceRun
import Derived.Test.YtjenkaobmlpbgaaDoorBOpChains3
import Derived.Test.YtjenkaobmlpbgaaDoorBOpChains9
import Derived.Test.YtjenkaobmlpbgaaDoorBOpChains6
import Derived.Test.YtjenkaobmlpbgaaDoorBOpChains7
import Derived.ProofKit
import Derived.OpenShut
import Derived.ChangeSame
import Derived.LaidMore
import Derived.DataReads
import Derived.Test.YtjenkaobmlpbgaaDoorRows
import Derived.Lay
import Derived.SizedLaws
import Derived.ChangeSlices
namespace Go.Proofs.YtjenkaobmlpbgaaDoor.QA
open Go.RowKit Go.Proofs.YtjenkaobmlpbgaaDoorW.PrintWords Go.Proofs.YtjenkaobmlpbgaaDoorW.PrintLast Go.Proofs.YtjenkaobmlpbgaaDoorW.PrintMore Go.Proofs.YtjenkaobmlpbgaaDoor.T
set_option linter.unusedVariables false
set_option linter.unusedSimpArgs false
/-- A pointer to a table. -/
def kTab : Kd Tab where
  sz := 1
  E := [63, 76, 2]
  K := fun w t cs => ∃ b, cs = [.pointer (some ⟨b, 0, none⟩)] ∧ TabC w b t
  M := fun w base ok t cs => ∃ b, cs = [.pointer (some ⟨b, 0, none⟩)] ∧ ok b ∧ base ≤ b ∧ ∃ v, w.heap[b]? = some (.cells #[.int .i64 t.n, v, .int .i64 t.most, .int .i64 t.size] 63 (0, 0)) ∧ k76.R 76 w base (fun k => ok k ∧ k ≠ b) v t.lines
  K_len := by rintro w t cs ⟨b, rfl, _⟩; rfl
  K_one := by
    rintro w t cs ⟨b, rfl, _⟩ u hu
    rw [List.mem_singleton.1 hu]; rfl
  K_below := by rintro w w1 t cs hb ⟨b, rfl, h⟩; exact ⟨b, rfl, h.below hb⟩
  K_of_M := by
    rintro w base ok t cs ⟨b, rfl, _, hb, v, h1, h2⟩
    obtain ⟨A, c, rfl, h3, h4⟩ := Kd.R_reads h2
    exact ⟨b, rfl, A, c, h1, h3, h4⟩
  M_mono := by
    rintro w base ok ok' t cs hok ⟨b, rfl, h0, hb, v, h1, h2⟩
    exact ⟨b, rfl, hok b h0, hb, v, h1, Kd.R_mono h2 (fun k hk => ⟨hok k hk.1, hk.2⟩)⟩
  M_bound := by
    rintro w base ok t cs ⟨b, rfl, h0, hb, v, h1, h2⟩
    refine ⟨b, rfl, ⟨h0, hb, blk_lt h1, _, List.mem_cons_self, _, h1⟩, hb, v, h1, Kd.R_mono (Kd.R_bound h2) ?_⟩
    rintro k ⟨⟨h3, h4⟩, h5, h6, q, hq, hc⟩
    exact ⟨⟨h3, h5, h6, q, List.mem_cons_of_mem _ (by simpa [k76, Kd.iso, Kd.pair, Kd.slice, Kd.int, Kd.scalar] using hq), hc⟩, h4⟩
  M_move := by
    rintro w w1 base ok t cs hm ⟨b, rfl, h0, hb, v, h1, h2⟩
    exact ⟨b, rfl, h0, hb, v, (hm b h0).trans h1, Kd.R_move h2 (fun k hk => hm k hk.1)⟩
  M_lower := by
    rintro w base base' ok t cs hl ⟨b, rfl, h0, hb, v, h1, h2⟩
    exact ⟨b, rfl, h0, Nat.le_trans hl hb, v, h1, Kd.R_lower h2 hl⟩
theorem kTab_of {w : World} {base b : Nat} {t : Tab} (h : TabO w base b t) : kTab.M w base (fun k => base ≤ k ∧ k < w.heap.size) t [.pointer (some ⟨b, 0, none⟩)] := by
  obtain ⟨h0, v, h1, h2⟩ := h
  exact ⟨b, rfl, ⟨h0, blk_lt h1⟩, h0, v, h1, Kd.R_mono (Kd.R_bound h2) (fun k hk => ⟨⟨hk.2.1, hk.2.2.1⟩, hk.1⟩)⟩
/-- A stage: its tables, its border. -/
structure Stg where
  x : Tab
  y : Tab
  bd : Int
def zT0 : Tab := ⟨0, [], 0, 0⟩
def zStg : Stg := ⟨zT0, zT0, 0⟩
def kStg : Kd Stg := Kd.iso (Kd.pair kTab (Kd.pair kTab (Kd.int .i64))) (fun s : Stg => (s.x, s.y, s.bd))
theorem kStg_open {w : World} {s : Stg} {cs : List Value} (h : kStg.K w s cs) : ∃ bx bz, cs = [.pointer (some ⟨bx, 0, none⟩), .pointer (some ⟨bz, 0, none⟩), .int .i64 s.bd] ∧ TabC w bx s.x ∧ TabC w bz s.y := by
  obtain ⟨_, _, rfl, ⟨bx, rfl, hx⟩, ⟨_, _, rfl, ⟨bz, rfl, hz⟩, rfl⟩⟩ := h
  exact ⟨bx, bz, rfl, hx, hz⟩
theorem kStg_mkM {w : World} {base bx bz : Nat} {s : Stg} (hx : TabO w base bx s.x) (hz : TabO w base bz s.y) : kStg.M w base (fun k => base ≤ k ∧ k < w.heap.size) s [.pointer (some ⟨bx, 0, none⟩), .pointer (some ⟨bz, 0, none⟩), .int .i64 s.bd] :=
  ⟨_, _, rfl, kTab_of hx, ⟨_, _, rfl, kTab_of hz, rfl⟩⟩
def rd_Stg (ss : List Stg) (i : Int) : Stg := ss.getD i.toNat zStg
theorem at_Stg {w : World} {A : Option Addr} {n : Nat} {ss : List Stg} (h : Kd.C kStg w A n ss) (i : Int) (h0 : 0 ≤ i) (h1 : i < n) : ∃ ad bx bz, A = some ad ∧ w.cell? (ad.add (i.toNat * 3)) = some (.pointer (some ⟨bx, 0, none⟩)) ∧ w.cell? ⟨(ad.add (i.toNat * 3)).block, (ad.add (i.toNat * 3)).off + 1, none⟩ = some (.pointer (some ⟨bz, 0, none⟩)) ∧ w.cell? ⟨(ad.add (i.toNat * 3)).block, (ad.add (i.toNat * 3)).off + 2, none⟩ = some (.int .i64 (rd_Stg ss i).bd) ∧ TabC w bx (rd_Stg ss i).x ∧ TabC w bz (rd_Stg ss i).y := by
  obtain ⟨ad, c, e, _, hK, hc0⟩ := Kd.C_get h zStg i h0 h1
  have hc : ∀ j u, c[j]? = some u → w.cell? (ad.add (i.toNat * 3 + j)) = some u := hc0
  obtain ⟨bx, bz, rfl, hx, hz⟩ := kStg_open hK
  exact ⟨ad, bx, bz, e, hc 0 _ rfl, by rw [← add_field _ _ 1 (by omega)]; exact hc 1 _ rfl, by rw [← add_field _ _ 2 (by omega)]; exact hc 2 _ rfl, hx, hz⟩
/-- May there be such an operation? -/
def opOk (o : S34) : Prop := 0 ≤ o.f0 ∧ o.f0 < 4 ∧ 0 ≤ o.f1 ∧ o.f1 < 3 ∧ (o.f0 = 3 → 1 ≤ o.f7 ∧ o.f7 ≤ 65536 ∧ 1 ≤ o.f8 ∧ o.f8 ≤ 65536 ∧ 0 ≤ o.f6 ∧ o.f6 < 3)
theorem op_may_no (o : S34) (h : ¬ opOk o) : op_may.f 1 o.f0 o.f1 o.f2 o.f3 o.f4 o.f5 o.f6 o.f7 o.f8 = some false := by
  unfold op_may.f
  by_cases h0 : o.f0 < 0
  · rw [if_pos h0, op_may.j0, if_pos rfl]
  rw [if_neg h0]
  by_cases h1 : o.f0 ≥ 4
  · rw [if_pos h1, op_may.j0, if_pos rfl]
  rw [if_neg h1]
  by_cases h2 : 0 ≤ o.f1 ∧ o.f1 < 3
  rotate_left
  · have : border_Name.f o.f1 = some (⟨#[]⟩ : ByteArray) := by
      unfold border_Name.f
      rw [if_neg (by omega), if_neg (by omega), if_neg (by omega)]
      unfold border_Name_gen.f
      by_cases c : o.f1 < 0
      · rw [if_pos c]
      · rw [if_neg c, if_pos (by omega)]
    rw [this, Option.bind_some, op_may.j0, if_pos (by kernel_rfl)]
  obtain ⟨nm, hn, he⟩ : ∃ s, border_Name.f o.f1 = some s ∧ (s.toList == ([] : List UInt8)) = false := by
    have : o.f1 = 0 ∨ o.f1 = 1 ∨ o.f1 = 2 := by omega
    rcases this with e | e | e
    · exact ⟨_, by rw [e]; rfl, by kernel_rfl⟩
    · exact ⟨_, by rw [e]; rfl, by kernel_rfl⟩
    · exact ⟨_, by rw [e]; rfl, by kernel_rfl⟩
  rw [hn, Option.bind_some, he, op_may.j0, if_neg (by decide)]
  by_cases h3 : o.f0 = 3
  rotate_left
  · exact absurd ⟨by omega, by omega, h2.1, h2.2, fun c => absurd c h3⟩ h
  rw [if_pos h3, op_side_eq, Option.bind_some]
  by_cases h4 : 1 ≤ o.f7 ∧ o.f7 ≤ 65536
  rotate_left
  · rw [decide_eq_false h4, if_neg (by decide)]
  rw [decide_eq_true h4, if_pos rfl, op_side_eq, Option.bind_some]
  by_cases h5 : 1 ≤ o.f8 ∧ o.f8 ≤ 65536
  rotate_left
  · rw [decide_eq_false h5, if_neg (by decide)]
  rw [decide_eq_true h5, if_pos rfl]
  by_cases h6 : 0 ≤ o.f6 ∧ o.f6 < 3
  · exact absurd ⟨by omega, by omega, h2.1, h2.2, fun _ => ⟨h4.1, h4.2, h5.1, h5.2, h6.1, h6.2⟩⟩ h
  have : raw_Name.f o.f6 = some (⟨#[]⟩ : ByteArray) := by
    unfold raw_Name.f
    rw [if_neg (by omega), if_neg (by omega), if_neg (by omega)]
    unfold raw_Name_gen.f
    by_cases c : o.f6 < 0
    · rw [if_pos c]
    · rw [if_neg c, if_pos (by omega)]
  rw [this, Option.bind_some]
  exact congrArg some (by kernel_rfl)
/-- Where an operation leads to. -/
def opTo (o : S34) (W H : Int) : Int × Int := if o.f0 = 3 then (o.f7, o.f8) else (W, H)
/-- What op.Make answers: a stage of the sizes, or none. -/
def MadeP (o : S34) (W H : Int) (w : World) (e : Ending) (w' : World) : Prop := Below w.heap.size w w' ∧
  ∃ ox oz bd c, e = .returned (.tuple #[.agg #[.pointer ox, .pointer oz, .int .i64 bd], .int .i64 c]) ∧
   (c ≠ 0 ∧ ox = none ∧ oz = none ∧ bd = 0 ∨ c = 0 ∧ bd = o.f1 ∧ ∃ bx bz tx ty, ox = some ⟨bx, 0, none⟩ ∧ oz = some ⟨bz, 0, none⟩ ∧ TabO w' w.heap.size bx tx ∧ TabO w' w.heap.size bz ty ∧
     tx.n = W ∧ (tx.lines.length : Int) = (opTo o W H).1 ∧ ty.n = H ∧ (ty.lines.length : Int) = (opTo o W H).2)
theorem made_no {o : S34} {W H c : Int} (hc : c ≠ 0) {w : World} {e : Ending} {w' : World} (h : NoStP c w e w') : MadeP o W H w e w' := ⟨h.1, none, none, 0, c, h.2, .inl ⟨hc, rfl, rfl, rfl⟩⟩
theorem made_yes {o : S34} {W H : Int} {tx ty : Tab} {w : World} {e : Ending} {w' : World} (h : StageP tx ty o.f1 w e w') (h1 : tx.n = W) (h2 : (tx.lines.length : Int) = (opTo o W H).1) (h3 : ty.n = H) (h4 : (ty.lines.length : Int) = (opTo o W H).2) : MadeP o W H w e w' := by
  obtain ⟨hb, bx, bz, e1, hx, hz⟩ := h
  exact ⟨hb, _, _, _, 0, e1, .inr ⟨rfl, rfl, bx, bz, tx, ty, rfl, rfl, hx, hz, h1, h2, h3, h4⟩⟩
theorem resTab_n (f n m : Int) : ∀ i, (resTab f n m i).n = n
  | 0 => rfl
  | i + 1 => by simp [resTab, Tab.add, resTab_n f n m i]
theorem filTab_n (n h : Int) (l : List Int) : ∀ i, (filTab n h l i).n = n
  | 0 => rfl
  | i + 1 => by simp [filTab, Tab.add, filTab_n n h l i]
/-- All its numbers are int64s. -/
def opI (o : S34) : Prop := I64 o.f0 ∧ I64 o.f1 ∧ I64 o.f2 ∧ I64 o.f3 ∧ (∀ z ∈ o.f4, I64 z) ∧ (∀ z ∈ o.f5, I64 z) ∧ I64 o.f6 ∧ I64 o.f7 ∧ I64 o.f8
theorem userV_ok (l : List Int) (hl : l.length < 4611686018427387904) : (∀ z ∈ (userV l).1, I64 z) ∧ (userV l).1.length < 4611686018427387904 := by
  unfold userV
  split
  · exact ⟨by simp, by simp⟩
  · refine ⟨fun z hz => ?_, by simpa using hl⟩
    obtain ⟨t, _, rfl⟩ := List.mem_map.1 hz
    exact hold_i _
theorem weights_any (o : S34) (h : opI o) (l4 : o.f4.length < 4611686018427387904) (l5 : o.f5.length < 4611686018427387904) : ∃ u v c, op_weights.f (2000 + o.f4.length + o.f5.length) o.f0 o.f1 o.f2 o.f3 o.f4 o.f5 o.f6 o.f7 o.f8 = some (u, v, c) ∧ (∀ z ∈ u, I64 z) ∧ (∀ z ∈ v, I64 z) ∧ u.length < 4611686018427387904 ∧ v.length < 4611686018427387904 := by
  obtain ⟨i0, i1, i2, i3, i4, i5, i6, i7, i8⟩ := h
  unfold op_weights.f
  by_cases h0 : o.f0 = 0
  · rw [if_pos h0, gauss_eq (by omega) i2, Option.bind_some]
    refine ⟨_, _, _, rfl, ?_⟩
    have : (∀ z ∈ (gaussV o.f2).1, I64 z) ∧ (gaussV o.f2).1.length < 4611686018427387904 := by
      unfold gaussV
      split
      · exact ⟨by simp, by simp⟩
      · refine ⟨fun z hz => ?_, ?_⟩
        · obtain ⟨t, _, rfl⟩ := List.mem_map.1 hz
          have := gV_bnd o.f2 ((t : Int) - (3 * o.f2 + 65535) / 65536)
          constructor <;> omega
        · unfold gaussL; rw [List.length_map, List.length_range]; omega
    exact ⟨this.1, this.1, this.2, this.2⟩
  rw [if_neg h0]
  by_cases h1 : o.f0 = 1
  · rw [if_pos h1, blur_eq (by omega) i3, Option.bind_some]
    refine ⟨_, _, _, rfl, ?_⟩
    have : (∀ z ∈ (blurV o.f3).1, I64 z) ∧ (blurV o.f3).1.length < 4611686018427387904 := by
      unfold blurV
      split
      · exact ⟨by simp, by simp⟩
      · exact userV_ok _ (by rw [List.length_replicate]; omega)
    exact ⟨this.1, this.1, this.2, this.2⟩
  rw [if_neg h1, taps_User_eq (by omega) l4 i4, Option.bind_some]
  have a := userV_ok o.f4 l4
  have b := userV_ok o.f5 l5
  by_cases c : (userV o.f4).2 = 0
  · rw [if_pos c, taps_User_eq (by omega) l5 i5, Option.bind_some]
    exact ⟨_, _, _, rfl, a.1, b.1, a.2, b.2⟩
  · rw [if_neg c]
    exact ⟨_, _, _, rfl, by simp, by simp, by simp, by simp⟩
theorem make_any (o : S34) (W H : Int) (A4 : Option Addr) (c4 : Nat) (A5 : Option Addr) (c5 : Nat) (w : World) (hG : GL w) (hI : opI o) (hx : Kd.C (Kd.int .i64) w A4 o.f4.length o.f4) (lx : o.f4.length ≤ c4) (hy : Kd.C (Kd.int .i64) w A5 o.f5.length o.f5) (ly : o.f5.length ≤ c5) (l4 : o.f4.length < 4611686018427387904) (l5 : o.f5.length < 4611686018427387904) :
    Calls Tryd.prog 6 #[opV o.f0 o.f1 o.f2 o.f3 A4 o.f4.length c4 A5 o.f5.length c5 o.f6 o.f7 o.f8, .int .i64 W, .int .i64 H] w (MadeP o W H w) := by
  by_cases ho : opOk o
  rotate_left
  · exact (make_noA o.f0 o.f1 o.f2 o.f3 A4 c4 o.f4 A5 c5 o.f5 o.f6 o.f7 o.f8 W H w hG hx lx hy ly (op_may_no o ho)).mono (fun e w' h => made_no (by decide) h)
  have hm := op_may_yes 0 (k := o.f0) (b := o.f1) (s := o.f2) (r := o.f3) (x := o.f4) (y := o.f5) (f := o.f6) (w := o.f7) (h := o.f8) ⟨ho.1, ho.2.1⟩ ⟨ho.2.2.1, ho.2.2.2.1⟩ ho.2.2.2.2
  by_cases hW : 1 ≤ W ∧ W ≤ 65536
  rotate_left
  · exact (make_noB o.f0 o.f1 o.f2 o.f3 A4 c4 o.f4 A5 c5 o.f5 o.f6 o.f7 o.f8 W H w hG hx lx hy ly hm hW).mono (fun e w' h => made_no (by decide) h)
  by_cases hH : 1 ≤ H ∧ H ≤ 65536
  rotate_left
  · exact (make_noC o.f0 o.f1 o.f2 o.f3 A4 c4 o.f4 A5 c5 o.f5 o.f6 o.f7 o.f8 W H w hG hx lx hy ly hm hW hH).mono (fun e w' h => made_no (by decide) h)
  obtain ⟨N1, rfl⟩ : ∃ N : Nat, W = N := ⟨W.toNat, by omega⟩
  obtain ⟨N2, rfl⟩ : ∃ N : Nat, H = N := ⟨H.toNat, by omega⟩
  by_cases h3 : o.f0 = 3
  · obtain ⟨m1, m2, m3, m4, m5, m6⟩ := ho.2.2.2.2 h3
    obtain ⟨M1, e1⟩ : ∃ M : Nat, o.f7 = M := ⟨o.f7.toNat, by omega⟩
    obtain ⟨M2, e2⟩ : ∃ M : Nat, o.f8 = M := ⟨o.f8.toNat, by omega⟩
    have q1 : okR o.f6 N1 M1 := ⟨m5, m6, hW.1, hW.2, by omega, by omega⟩
    have q2 : okR o.f6 N2 M2 := ⟨m5, m6, hH.1, hH.2, by omega, by omega⟩
    have hto : opTo o N1 N2 = ((M1 : Int), (M2 : Int)) := by unfold opTo; rw [if_pos h3, e1, e2]
    by_cases k1 : resCode o.f6 N1 M1 0 M1 = 0
    · by_cases k2 : resCode o.f6 N2 M2 0 M2 = 0
      · refine (make_ok o.f0 o.f1 o.f2 o.f3 A4 c4 o.f4 A5 c5 o.f5 o.f6 o.f7 o.f8 N1 N2 (resTab o.f6 N1 M1 M1) (resTab o.f6 N2 M2 M2) w hG hx lx hy ly hm hW hH (fun w' hb => ?_)).mono (fun e w' h => made_yes h (resTab_n _ _ _ _) (by rw [resTab_len, hto]) (resTab_n _ _ _ _) (by rw [resTab_len, hto]))
        rw [h3, e1, e2]
        exact tables_resize o.f1 o.f2 o.f3 A4 _ c4 A5 _ c5 o.f6 N1 N2 M1 M2 w' (hG.below hb) q1 q2 k1 k2
      · refine (make_noD o.f0 o.f1 o.f2 o.f3 A4 c4 o.f4 A5 c5 o.f5 o.f6 o.f7 o.f8 N1 N2 _ w hG hx lx hy ly hm hW hH k2 (fun w' hb => ?_)).mono (fun e w' h => made_no k2 h)
        rw [h3, e1, e2]
        exact tables_resize_noB o.f1 o.f2 o.f3 A4 _ c4 A5 _ c5 o.f6 N1 N2 _ M1 M2 w' (hG.below hb) q1 q2 k1 rfl k2
    · refine (make_noD o.f0 o.f1 o.f2 o.f3 A4 c4 o.f4 A5 c5 o.f5 o.f6 o.f7 o.f8 N1 N2 _ w hG hx lx hy ly hm hW hH k1 (fun w' hb => ?_)).mono (fun e w' h => made_no k1 h)
      rw [h3, e1, e2]
      exact tables_resize_noA o.f1 o.f2 o.f3 A4 _ c4 A5 _ c5 o.f6 N1 N2 _ M1 M2 w' (hG.below hb) q1 q2 rfl k1
  · obtain ⟨u, v, c, hw, hu, hv, lu, lv⟩ := weights_any o hI l4 l5
    have hto : opTo o N1 N2 = ((N1 : Int), (N2 : Int)) := by unfold opTo; rw [if_neg h3]
    have n1 : 1 ≤ N1 ∧ N1 ≤ 65536 := by omega
    have n2 : 1 ≤ N2 ∧ N2 ≤ 65536 := by omega
    by_cases hc : c = 0
    rotate_left
    · exact (make_noD o.f0 o.f1 o.f2 o.f3 A4 c4 o.f4 A5 c5 o.f5 o.f6 o.f7 o.f8 N1 N2 c w hG hx lx hy ly hm hW hH hc (fun w' hb => tables_kernel_noA _ o.f0 o.f1 o.f2 o.f3 A4 c4 o.f4 A5 c5 o.f5 o.f6 o.f7 o.f8 c N1 N2 u v w' (Kd.C_below hx hb) lx (Kd.C_below hy hb) ly h3 hw hc)).mono (fun e w' h => made_no hc h)
    subst hc
    by_cases k1 : filCode u N1 = 0
    · by_cases k2 : filCode v N2 = 0
      · exact (make_ok o.f0 o.f1 o.f2 o.f3 A4 c4 o.f4 A5 c5 o.f5 o.f6 o.f7 o.f8 N1 N2 _ _ w hG hx lx hy ly hm hW hH (fun w' hb => tables_kernel _ o.f0 o.f1 o.f2 o.f3 A4 c4 o.f4 A5 c5 o.f5 o.f6 o.f7 o.f8 N1 N2 u v w' (Kd.C_below hx hb) lx (Kd.C_below hy hb) ly h3 hw hu hv lu lv n1 n2 k1 k2)).mono (fun e w' h => made_yes h (filTab_n _ _ _ _) (by rw [filTab_len, hto]) (filTab_n _ _ _ _) (by rw [filTab_len, hto]))
      · exact (make_noD o.f0 o.f1 o.f2 o.f3 A4 c4 o.f4 A5 c5 o.f5 o.f6 o.f7 o.f8 N1 N2 _ w hG hx lx hy ly hm hW hH k2 (fun w' hb => tables_kernel_noC _ o.f0 o.f1 o.f2 o.f3 A4 c4 o.f4 A5 c5 o.f5 o.f6 o.f7 o.f8 _ N1 N2 u v w' (Kd.C_below hx hb) lx (Kd.C_below hy hb) ly h3 hu hv lu lv n1 n2 hw k1 rfl k2)).mono (fun e w' h => made_no k2 h)
    · exact (make_noD o.f0 o.f1 o.f2 o.f3 A4 c4 o.f4 A5 c5 o.f5 o.f6 o.f7 o.f8 N1 N2 _ w hG hx lx hy ly hm hW hH k1 (fun w' hb => tables_kernel_noB _ o.f0 o.f1 o.f2 o.f3 A4 c4 o.f4 A5 c5 o.f5 o.f6 o.f7 o.f8 _ N1 N2 u v w' (Kd.C_below hx hb) lx (Kd.C_below hy hb) ly h3 hu hv lu lv n1 n2 hw rfl k1)).mono (fun e w' h => made_no k1 h)
end Go.Proofs.YtjenkaobmlpbgaaDoor.QA

namespace Go.Proofs.YtjenkaobmlpbgaaDoor.QA
open Go.RowKit Go.Proofs.YtjenkaobmlpbgaaDoorW.PrintWords Go.Proofs.YtjenkaobmlpbgaaDoorW.PrintLast Go.Proofs.YtjenkaobmlpbgaaDoorW.PrintMore Go.Proofs.YtjenkaobmlpbgaaDoor.T
set_option linter.unusedVariables false
set_option linter.unusedSimpArgs false
/-- The sizes ahead of an operation. -/
def szAt (l : List S34) (a b : Int) : Nat → Int × Int
  | 0 => (a, b)
  | i + 1 => opTo (rd_T34 l i) (szAt l a b i).1 (szAt l a b i).2
/-- A stage is of its sizes. -/
def StgOk (l : List S34) (a b : Int) (ss : List Stg) (j : Nat) : Prop := (rd_Stg ss j).x.n = (szAt l a b j).1 ∧ ((rd_Stg ss j).x.lines.length : Int) = (szAt l a b (j + 1)).1 ∧ (rd_Stg ss j).y.n = (szAt l a b j).2 ∧ ((rd_Stg ss j).y.lines.length : Int) = (szAt l a b (j + 1)).2 ∧ (rd_Stg ss j).bd = (rd_T34 l j).f1
def AllP (l : List S34) (a b : Int) (w : World) (e : Ending) (w' : World) : Prop := Below w.heap.size w w' ∧
  ∃ A m cp c, e = .returned (.tuple #[.slice A m cp, .int .i64 c]) ∧
   (c ≠ 0 ∧ A = none ∧ m = 0 ∧ cp = 0 ∨ c = 0 ∧ m = l.length ∧ m ≤ cp ∧ m ≤ 16 ∧ ∃ ss, Kd.C kStg w' A l.length ss ∧ ss.length = l.length ∧ ∀ j, j < l.length → StgOk l a b ss j)
theorem infoStg : (Tryd.prog.info? 26).map (fun i => (i.zero, i.size, i.bytes)) = some (some (.agg #[.pointer none, .pointer none, .int .i64 0]), 3, 24) := by kernel_rfl
theorem fits_any (a b c : Int) : ∃ r, raster_Fits.f a b c = some r := by
  unfold raster_Fits.f
  repeat' split
  all_goals exact ⟨_, rfl⟩
theorem size_is (o : S34) (W H : Int) : op_Size.f o.f0 o.f1 o.f2 o.f3 o.f4 o.f5 o.f6 o.f7 o.f8 W H = some ((opTo o W H).1, (opTo o W H).2) := by
  unfold op_Size.f opTo; split <;> rfl
theorem rd_snocS (l : List Stg) (x : Stg) (j : Nat) : rd_Stg (l ++ [x]) (j : Int) = if j = l.length then x else rd_Stg l (j : Int) := by
  unfold rd_Stg
  rw [Int.toNat_natCast, List.getD_eq_getElem?_getD, List.getD_eq_getElem?_getD]
  by_cases h : j = l.length
  · subst h; simp
  · rw [if_neg h]
    by_cases c : j < l.length
    · rw [List.getElem?_append_left c]
    · rw [List.getElem?_append_right (by omega), List.getElem?_eq_none (by simp; omega), List.getElem?_eq_none (by omega)]
set_option maxHeartbeats 8000000 in
set_option maxRecDepth 100000 in
theorem all_calls (l : List S34) (A0 : Option Addr) (c0 : Nat) (a b ch : Int) (w : World) (hG : GL w) (hr : Kd.C k34 w A0 l.length l) (hc : l.length ≤ c0) (hI : ∀ j : Nat, j < l.length → opI (rd_T34 l j) ∧ (rd_T34 l j).f4.length < 4611686018427387904 ∧ (rd_T34 l j).f5.length < 4611686018427387904) :
    Calls Tryd.prog 10 #[.slice A0 l.length c0, .int .i64 a, .int .i64 b, .int .i64 ch] w (AllP l a b w) := by
  have HG := Aside0.mk hG
  have HR := Aside0.mk hr
  have HC := Aside0.mk hc
  have HI := Aside0.mk hI
  have lm := hr.2.1
  clear hG hr hc hI
  have mixed : Tryd.prog.follows .mixedOrders = true := by kernel_rfl
  by_cases h16 : (16 : Int) < (l.length : Int)
  · have b16 : decide ((16 : Int) < (l.length : Int)) = true := decide_eq_true h16
    have b16n : decide (16 < l.length) = true := decide_eq_true (by omega)
    go_enter Tryd.func10, Tryd.ntmps10
    go_wp2
    go_ret2
    exact ⟨Below.refl _ _, none, 0, 0, 6, rfl, .inl ⟨by decide, rfl, rfl, rfl⟩⟩
  have b16 : decide ((16 : Int) < (l.length : Int)) = false := decide_eq_false h16
  have b16n : decide (16 < l.length) = false := decide_eq_false (by omega)
  obtain ⟨r, hf⟩ := fits_any a b ch
  have HF := Aside0.mk hf
  clear hf
  cases r
  · go_enter Tryd.func10, Tryd.ntmps10
    go_wp2_with (go_at_call 21; (with_reducible refine (raster_Fits.calls a b ch _ _ HF.out).mono ?_); rintro e w' ⟨rfl, ⟨nd, rfl⟩⟩)
    go_ret2
    exact ⟨by repeat (first | (with_reducible first | exact Below.refl _ _ | apply pw_below_drewN | apply below_drew1) | exact Below.refl _ _), none, 0, 0, 5, rfl, .inl ⟨by decide, rfl, rfl, rfl⟩⟩
  go_enter Tryd.func10, Tryd.ntmps10
  go_wp2_with (go_at_call 21; (with_reducible refine (raster_Fits.calls a b ch _ _ HF.out).mono ?_); rintro e w' ⟨rfl, ⟨nd, rfl⟩⟩)
  clear HF
  obtain ⟨n, hn⟩ : ∃ n, n = l.length := ⟨_, rfl⟩
  rw [← hn] at b16 b16n h16 lm ⊢
  have HN := Aside0.mk hn
  clear hn b16 b16n
  go_loopg [1, 2, 10, 27] n (fun kx s1 s2 s10 s27 wr => ∃ (i : Nat) (W H : Int) (ss : List Stg), s27 = .int .i64 i ∧ s1 = .int .i64 W ∧ s2 = .int .i64 H ∧ i ≤ n ∧ n - i ≤ kx ∧ Aside0 (szAt l a b i = (W, H)) ∧ Aside0 (Below w.heap.size w wr) ∧ Aside0 (kStg.R 26 wr w.heap.size (fun _ => True) s10 ss) ∧ Aside0 (ss.length = i) ∧ Aside0 (∀ j, j < i → StgOk l a b ss j))
  case atStart =>
    refine ⟨0, a, b, [], rfl, rfl, rfl, by omega, by omega, ⟨rfl⟩, ⟨?_⟩, ⟨Kd.R_nil _ _ _ _ _⟩, ⟨rfl⟩, ⟨fun j hj => absurd hj (by omega)⟩⟩
    repeat (first | (with_reducible first | exact Below.refl _ _ | apply below_alloc | apply pw_below_drewN | apply below_drew1) | exact Below.refl _ _)
  case round =>
    obtain ⟨i, W, H, ss, rfl, rfl, rfl, i1, i2, HS, HB, HO, HL, HK⟩ := hrel
    have wi : IntKind.i64.wrap ((i : Int) + 1) = (i : Int) + 1 := by rw [i64w]; exact w64_id (by omega) (by omega)
    by_cases hlt : (i : Int) < (n : Int)
    rotate_left
    · have him : i = n := by omega
      subst him
      have hl2 : ss.length = l.length := by rw [HL.out, HN.out]
      obtain ⟨A, cp, rfl, h3, h4⟩ := Kd.R_reads HO.out
      rw [hl2] at h3 h4
      have HL2 := Aside0.mk hl2
      have H3 := Aside0.mk h3
      have H4 := Aside0.mk h4
      have HI6 := Aside0.mk (show i ≤ 16 by omega)
      clear hl2 h3 h4
      go_wp2
      go_ret2
      exact ⟨HB.out, A, ss.length, cp, 0, rfl, .inr ⟨rfl, HL2.out, by rw [HL2.out]; exact H3.out, by rw [HL2.out, ← HN.out]; exact HI6.out, ss, H4.out, HL2.out, fun j hj => HK.out j (by rw [HN.out]; exact hj)⟩⟩
    have p1 : (0 ≤ (i : Int)) := by omega
    obtain ⟨hio, hi4, hi5⟩ := HI.out i (by have := HN.out; omega)
    obtain ⟨ad, A4, c4, A5, c5, e0, x0, x1, x2, x3, x4, x5, x6, x7, x8, l4, g4, l5, g5⟩ := at_T34 (Kd.C_below HR.out HB.out) (i : Int) p1 (by have := HN.out; omega)
    cases e0
    obtain ⟨o, ho⟩ : ∃ o, o = rd_T34 l (i : Int) := ⟨_, rfl⟩
    rw [← ho] at hio hi4 hi5 x0 x1 x2 x3 x4 x5 x6 x7 x8 l4 g4 l5 g5
    obtain ⟨p, hp⟩ : ∃ p, p = o.f4.length := ⟨_, rfl⟩
    obtain ⟨q, hq⟩ : ∃ q, q = o.f5.length := ⟨_, rfl⟩
    have hmk := fun w' (hb : Below wr.heap.size wr w') => make_any o W H A4 c4 A5 c5 w' (HG.out.below (below_step HB.out hb)) hio (Kd.C_below g4 hb) l4 (Kd.C_below g5 hb) l5 hi4 hi5
    have hsz := fun w' (hb : Below wr.heap.size wr w') => op_Size.calls o.f0 o.f1 o.f2 o.f3 A4 c4 o.f4 A5 c5 o.f5 o.f6 o.f7 o.f8 W H (opTo o W H).1 (opTo o W H).2 w' (Kd.C_below g4 hb) l4 (Kd.C_below g5 hb) l5 (size_is o W H)
    rw [← hp, ← hq] at hmk hsz
    rw [← hp] at x4
    rw [← hq] at x5
    have HMK := Aside0.mk hmk
    have HSZ := Aside0.mk hsz
    have HOO := Aside0.mk ho
    rw [Int.toNat_natCast] at x0 x1 x2 x3 x4 x5 x6 x7 x8
    have q0 : i < n := by omega
    have qd : decide (i < n) = true := decide_eq_true q0
    clear hmk hsz ho hp hq hio hi4 hi5 l4 g4 l5 g5
    unfold opV at HMK
    go_upto_region 9 with fail
    have hr := heap_alloc_new wr (.cells #[.int .i64 o.f0, .int .i64 o.f1, .int .i64 o.f2, .int .i64 o.f3, .slice A4 p c4, .slice A5 q c5, .int .i64 o.f6, .int .i64 o.f7, .int .i64 o.f8] 34)
    have BA := Aside0.mk (below_alloc (Below.refl wr.heap.size wr) (.cells #[.int .i64 o.f0, .int .i64 o.f1, .int .i64 o.f2, .int .i64 o.f3, .slice A4 p c4, .slice A5 q c5, .int .i64 o.f6, .int .i64 o.f7, .int .i64 o.f8] 34))
    obtain ⟨g, hg⟩ : ∃ g, g = wr.heap.size := ⟨_, rfl⟩
    rw [← hg] at hr ⊢
    generalize wr.alloc (.cells #[.int .i64 o.f0, .int .i64 o.f1, .int .i64 o.f2, .int .i64 o.f3, .slice A4 p c4, .slice A5 q c5, .int .i64 o.f6, .int .i64 o.f7, .int .i64 o.f8] 34) = w2 at hr BA ⊢
    have z0 : w2.cell? ⟨g, 0, none⟩ = some (.int .i64 o.f0) := (blk_cell hr 0).trans rfl
    have z1 : w2.cell? ⟨g, 1, none⟩ = some (.int .i64 o.f1) := (blk_cell hr 1).trans rfl
    have z2 : w2.cell? ⟨g, 2, none⟩ = some (.int .i64 o.f2) := (blk_cell hr 2).trans rfl
    have z3 : w2.cell? ⟨g, 3, none⟩ = some (.int .i64 o.f3) := (blk_cell hr 3).trans rfl
    have z4 : w2.cell? ⟨g, 4, none⟩ = some (.slice A4 p c4) := (blk_cell hr 4).trans rfl
    have z5 : w2.cell? ⟨g, 5, none⟩ = some (.slice A5 q c5) := (blk_cell hr 5).trans rfl
    have z6 : w2.cell? ⟨g, 6, none⟩ = some (.int .i64 o.f6) := (blk_cell hr 6).trans rfl
    have z7 : w2.cell? ⟨g, 7, none⟩ = some (.int .i64 o.f7) := (blk_cell hr 7).trans rfl
    have z8 : w2.cell? ⟨g, 8, none⟩ = some (.int .i64 o.f8) := (blk_cell hr 8).trans rfl
    have HR2 := Aside0.mk hr
    have HGG := Aside0.mk hg
    clear x0 x1 x2 x3 x4 x5 x6 x7 x8 hr hg
    go_upto_region 10 with (go_at_call 6; refine (HMK.out _ BA.out).mono ?_; rintro e w4 ⟨hb4, ox, oz, bd, c, rfl, hd⟩; have B4 := Aside0.mk (below_step BA.out hb4); have HB4 := Aside0.mk hb4; have HD := Aside0.mk hd; clear hb4 hd)
    clear z0 z1 z2 z3 z4 z5 z6 z7 z8
    by_cases hc0 : c = 0
    rotate_left
    · have bc1 : (c == 0) = false := by simpa using hc0
      have bc2 : (c != 0) = true := by simpa using hc0
      have HC0 := Aside0.mk hc0
      clear hc0
      go_wp2
      go_ret2
      exact ⟨below_alloc (below_step HB.out B4.out) _, none, 0, 0, c, rfl, .inl ⟨HC0.out, rfl, rfl, rfl⟩⟩
    subst hc0
    obtain ⟨bx, bz, tx, ty, rfl, rfl, rfl, hx, hz, n1, n2, n3, n4⟩ : ∃ bx bz tx ty, ox = some ⟨bx, 0, none⟩ ∧ oz = some ⟨bz, 0, none⟩ ∧ bd = o.f1 ∧ TabO w4 w2.heap.size bx tx ∧ TabO w4 w2.heap.size bz ty ∧ tx.n = W ∧ (tx.lines.length : Int) = (opTo o W H).1 ∧ ty.n = H ∧ (ty.lines.length : Int) = (opTo o W H).2 := by
      rcases HD.out with ⟨h, _⟩ | ⟨_, h, bx, bz, tx, ty, h1, h2, h3⟩
      · exact absurd rfl h
      · exact ⟨bx, bz, tx, ty, h1, h2, h, h3⟩
    obtain ⟨st, hst⟩ : ∃ st : Stg, st = ⟨tx, ty, o.f1⟩ := ⟨_, rfl⟩
    have hM := kStg_mkM (s := ⟨tx, ty, o.f1⟩) hx hz
    rw [← hst] at hM
    have hr5 := heap_alloc_new w4 (.cells #[.pointer (some ⟨bx, 0, none⟩), .pointer (some ⟨bz, 0, none⟩), .int .i64 o.f1] 26)
    have B5 := Aside0.mk (below_alloc HB4.out (.cells #[.pointer (some ⟨bx, 0, none⟩), .pointer (some ⟨bz, 0, none⟩), .int .i64 o.f1] 26))
    have HM5 := Aside0.mk (Kd.M_below hM (below_alloc (Below.refl w4.heap.size w4) (.cells #[.pointer (some ⟨bx, 0, none⟩), .pointer (some ⟨bz, 0, none⟩), .int .i64 o.f1] 26)))
    have HN4 := Aside0.mk (And.intro n1 (And.intro n2 (And.intro n3 n4)))
    have HST := Aside0.mk hst
    obtain ⟨r, hrr⟩ : ∃ r, r = w4.heap.size := ⟨_, rfl⟩
    rw [← hrr] at hr5 ⊢
    generalize w4.alloc (.cells #[.pointer (some ⟨bx, 0, none⟩), .pointer (some ⟨bz, 0, none⟩), .int .i64 o.f1] 26) = w5 at hr5 B5 HM5 ⊢
    have HR5 := Aside0.mk hr5
    have hq5 := (B5.out.block g (blk_lt HR2.out)).trans HR2.out
    have z0 : w5.cell? ⟨g, 0, none⟩ = some (.int .i64 o.f0) := (blk_cell hq5 0).trans rfl
    have z1 : w5.cell? ⟨g, 1, none⟩ = some (.int .i64 o.f1) := (blk_cell hq5 1).trans rfl
    have z2 : w5.cell? ⟨g, 2, none⟩ = some (.int .i64 o.f2) := (blk_cell hq5 2).trans rfl
    have z3 : w5.cell? ⟨g, 3, none⟩ = some (.int .i64 o.f3) := (blk_cell hq5 3).trans rfl
    have z4 : w5.cell? ⟨g, 4, none⟩ = some (.slice A4 p c4) := (blk_cell hq5 4).trans rfl
    have z5 : w5.cell? ⟨g, 5, none⟩ = some (.slice A5 q c5) := (blk_cell hq5 5).trans rfl
    have z6 : w5.cell? ⟨g, 6, none⟩ = some (.int .i64 o.f6) := (blk_cell hq5 6).trans rfl
    have z7 : w5.cell? ⟨g, 7, none⟩ = some (.int .i64 o.f7) := (blk_cell hq5 7).trans rfl
    have z8 : w5.cell? ⟨g, 8, none⟩ = some (.int .i64 o.f8) := (blk_cell hq5 8).trans rfl
    obtain ⟨W1, hW1⟩ : ∃ W1, W1 = (opTo o W H).1 := ⟨_, rfl⟩
    obtain ⟨H1, hH1⟩ : ∃ H1, H1 = (opTo o W H).2 := ⟨_, rfl⟩
    rw [← hW1, ← hH1] at HSZ HN4
    have HWH := Aside0.mk (And.intro hW1 hH1)
    obtain ⟨rb, hf⟩ := fits_any W1 H1 ch
    have HF := Aside0.mk hf
    have HB5 := Aside0.mk (below_step BA.out B5.out)
    clear hx hz n1 n2 n3 n4 hst hM hrr hr5 hq5 hW1 hH1 hf HMK HD B4
    cases rb
    · go_wp2_with (first
        | (go_at_call 12; (with_reducible refine (HSZ.out _ HB5.out).mono ?_); rintro e w6 ⟨rfl, hb6⟩; have HB6 := Aside0.mk (below_step HB5.out hb6); clear hb6)
        | (go_at_call 21; (with_reducible refine (raster_Fits.calls W1 H1 ch _ _ HF.out).mono ?_); rintro e w' ⟨rfl, ⟨nd2, rfl⟩⟩))
      go_ret2
      exact ⟨by repeat (first | (with_reducible first | exact below_step HB.out HB6.out | apply pw_below_drewN | apply below_drew1) | exact below_step HB.out HB6.out), none, 0, 0, 5, rfl, .inl ⟨by decide, rfl, rfl, rfl⟩⟩
    go_upto_region 15 with (first
        | (go_at_call 12; (with_reducible refine (HSZ.out _ HB5.out).mono ?_); rintro e w6 ⟨rfl, hb6⟩; have HB6 := Aside0.mk (below_step HB5.out hb6); have hq6 := (hb6.block r (blk_lt HR5.out)).trans HR5.out; have HQ6 := Aside0.mk hq6; have HM6 := Aside0.mk (Kd.M_below HM5.out hb6); clear hb6 hq6)
        | (go_at_call 21; (with_reducible refine (raster_Fits.calls W1 H1 ch _ _ HF.out).mono ?_); rintro e w' ⟨rfl, ⟨nd2, rfl⟩⟩))
    have hq7 : (w6.drewN nd2).heap[r]? = some (.cells #[.pointer (some ⟨bx, 0, none⟩), .pointer (some ⟨bz, 0, none⟩), .int .i64 o.f1] 26 (0, 0)) := by simpa using HQ6.out
    have B7 := Aside0.mk (pw_below_drewN HB6.out nd2)
    have HM7 := Aside0.mk (Kd.M_below HM6.out (pw_below_drewN (Below.refl w6.heap.size w6) nd2))
    generalize w6.drewN nd2 = w7 at hq7 B7 HM7 ⊢
    have y0 : w7.cell? ⟨r, 0, none⟩ = some (.pointer (some ⟨bx, 0, none⟩)) := (blk_cell hq7 0).trans rfl
    have y1 : w7.cell? ⟨r, 1, none⟩ = some (.pointer (some ⟨bz, 0, none⟩)) := (blk_cell hq7 1).trans rfl
    have y2 : w7.cell? ⟨r, 2, none⟩ = some (.int .i64 o.f1) := (blk_cell hq7 2).trans rfl
    have HO7 := Aside0.mk (Kd.R_below HO.out B7.out)
    have BW7 := Aside0.mk (below_step HB.out B7.out)
    have HSS := Aside0.mk (show ss.length ≤ 16 by rw [HL.out]; omega)
    have HEQ := Aside0.mk (show st.bd = o.f1 by rw [HST.out])
    have HPM := Aside0.mk (show kStg.M w7 w.heap.size (fun k => w2.heap.size ≤ k ∧ k < w4.heap.size) st [.pointer (some ⟨bx, 0, none⟩), .pointer (some ⟨bz, 0, none⟩), .int .i64 o.f1] by have h := kStg.M_lower (Nat.le_trans HB.out.size BA.out.size) HM7.out; rw [HEQ.out] at h; exact h)
    have HOK := Aside0.mk (show ∀ k, (w2.heap.size ≤ k ∧ k < w4.heap.size) → True ∧ some k ≠ u10.ownBlock by
      intro k hk
      refine ⟨trivial, fun h => ?_⟩
      have h1 := (Kd.R_bound HO.out).1 k h.symm
      have h2 := BA.out.size
      omega)
    clear z0 z1 z2 z3 z4 z5 z6 z7 z8 hq7
    go_upto_region 16 with (at_builtin; refine Kd.R_append kStg (w0 := w) w.heap.size rfl (.tmp 53) (.tmp 55) 41 26 (.agg #[.pointer none, .pointer none, .int .i64 0]) 24 rfl Tryd.underlying41 infoStg rfl (by decide) (by omega) u10 ss st [.pointer (some ⟨bx, 0, none⟩), .pointer (some ⟨bz, 0, none⟩), .int .i64 o.f1] (fun _ => True) (fun k => w2.heap.size ≤ k ∧ k < w4.heap.size) rfl rfl HPM.out HOK.out (fun _ _ => trivial) HO7.out BW7.out BW7.out.size (by have := HSS.out; omega) ?_; intro v1 w8 ho8 hb8 hg8 hat8; have HO8 := Aside0.mk ho8; have HB8 := Aside0.mk hb8; clear ho8 hb8 hg8 hat8)
    go_wp2
    go_roundg (n - (i + 1))
    case measure => omega
    case rel =>
      refine ⟨i + 1, W1, H1, ss ++ [st], by simp, rfl, rfl, by omega, Nat.le_refl _, ⟨?_⟩, HB8, HO8, ⟨by rw [List.length_append, HL.out]; rfl⟩, ⟨fun j hj => ?_⟩⟩
      · rw [szAt, HS.out, ← HOO.out, HWH.out.1, HWH.out.2]
      · have es : szAt l a b (i + 1) = (W1, H1) := by rw [szAt, HS.out, ← HOO.out, HWH.out.1, HWH.out.2]
        have hL := HL.out
        unfold StgOk
        rw [rd_snocS, hL]
        by_cases c : j = i
        · subst c
          rw [if_pos rfl, es, HS.out, HST.out, ← HOO.out]
          exact ⟨HN4.out.1, HN4.out.2.1, HN4.out.2.2.1, HN4.out.2.2.2, rfl⟩
        · rw [if_neg c]
          exact HK.out j (by omega)
theorem ite_ex {c Q : Prop} [Decidable c] {x y : Option Bool} (hx : c → ∃ r, x = some r ∧ (r = true → Q)) (hy : ¬ c → ∃ r, y = some r ∧ (r = true → Q)) : ∃ r, (if c then x else y) = some r ∧ (r = true → Q) := by
  split
  · exact hx ‹_›
  · exact hy ‹_›
theorem little_any (l : List S34) (s : Int) (hl : l.length ≤ 4611686018427387904) : ∀ (d k i : Nat), i + d = l.length → d + 1 < k → ∃ r, smaltolaw12_Little.l0 k s l (l.length : Int) (i : Int) = some r ∧ (r = true → ∀ j : Nat, i ≤ j → j < l.length → (rd_T34 l j).f4.length ≤ 40 ∧ (rd_T34 l j).f5.length ≤ 40) := by
  intro d
  induction d with
  | zero =>
    intro k i h1 h2
    obtain ⟨k, rfl⟩ : ∃ n, k = n + 1 := ⟨k - 1, by omega⟩
    rw [smaltolaw12_Little.l0, if_neg (by omega)]
    exact ⟨_, rfl, fun _ j h3 h4 => absurd h4 (by omega)⟩
  | succ d ih =>
    intro k i h1 h2
    obtain ⟨k, rfl⟩ : ∃ n, k = n + 1 := ⟨k - 1, by omega⟩
    rw [smaltolaw12_Little.l0, if_pos (by omega), if_pos (by omega), if_pos (by omega)]
    have e : wrap64 ((i : Int) + 1) = ((i + 1 : Nat) : Int) := by rw [w64_id (by omega) (by omega)]; rfl
    obtain ⟨r, hr, hq⟩ := ih k (i + 1) (by omega) (by omega)
    rw [e]
    refine ite_ex (fun _ => ⟨_, rfl, fun h => by cases h⟩) (fun n1 => ?_)
    refine ite_ex (fun _ => ⟨_, rfl, fun h => by cases h⟩) (fun n2 => ?_)
    have leaf : ∃ r, smaltolaw12_Little.l0 k s l (l.length : Int) ((i + 1 : Nat) : Int) = some r ∧ (r = true → ∀ j : Nat, i ≤ j → j < l.length → (rd_T34 l j).f4.length ≤ 40 ∧ (rd_T34 l j).f5.length ≤ 40) := by
      refine ⟨r, hr, fun h j h3 h4 => ?_⟩
      by_cases c : j = i
      · subst c; constructor <;> omega
      · exact hq h j (by omega) h4
    repeat' (first | (with_reducible refine ite_ex (fun _ => ?_) (fun _ => ?_)) | (with_reducible exact ⟨_, rfl, fun h => by cases h⟩) | exact leaf)
set_option maxHeartbeats 8000000 in
set_option maxRecDepth 100000 in
theorem opChains_calls (l : List S34) (A0 : Option Addr) (c0 : Nat) (wd ht : Int) (hw : 0 ≤ wd ∧ wd ≤ 255) (hh : 0 ≤ ht ∧ ht ≤ 255) (w : World) (hG : GL w) (hr : Kd.C k34 w A0 l.length l) (hc : l.length ≤ c0) (hI : ∀ j : Nat, j < l.length → opI (rd_T34 l j)) :
    Calls Tryd.prog 4 #[.slice A0 l.length c0, .int .u8 wd, .int .u8 ht] w fun e w' => e = .returned (.bool true) ∧ Below w.heap.size w w' := by
  have LV := Aside0.mk (fun w' (hb : Below w.heap.size w w') => lives12_calls w' (hG.below hb))
  have HR := Aside0.mk hr
  have HI := Aside0.mk hI
  have HG := Aside0.mk hG
  have HC := Aside0.mk hc
  have lm := hr.2.1
  clear hG hr hc hI
  have mixed : Tryd.prog.follows .mixedOrders = true := by kernel_rfl
  have B0 := Aside0.mk (Below.refl w.heap.size w)
  by_cases h18 : (18 : Int) < (l.length : Int)
  · have b18 : decide ((18 : Int) < (l.length : Int)) = true := decide_eq_true h18
    have b18n : decide (18 < l.length) = true := decide_eq_true (by omega)
    go_enter Tryd.func4, Tryd.ntmps4
    go_wp2_with (first
        | (go_at_call 8; refine (LV.out _ B0.out).mono ?_; rintro e w1 ⟨rfl, hb1⟩; have B0 := Aside0.mk (below_step B0.out hb1); clear hb1))
    go_ret
    exact ⟨rfl, B0.out⟩
  have b18 : decide ((18 : Int) < (l.length : Int)) = false := decide_eq_false h18
  have b18n : decide (18 < l.length) = false := decide_eq_false (by omega)
  obtain ⟨r, hlt, hlq⟩ := little_any l 20 (by omega) l.length (l.length + 2) 0 (by omega) (by omega)
  have hlt : smaltolaw12_Little.f (l.length + 2) l 20 = some r := hlt
  have LT := Aside0.mk (fun w' (hb : Below w.heap.size w w') => smaltolaw12_Little.calls (l.length + 2) A0 c0 l 20 r w' (Kd.C_below HR.out hb) HC.out hlt)
  have HLQ := Aside0.mk hlq
  clear hlt hlq
  cases r
  · go_enter Tryd.func4, Tryd.ntmps4
    go_wp2_with (first
        | (go_at_call 8; refine (LV.out _ B0.out).mono ?_; rintro e w1 ⟨rfl, hb1⟩; have B0 := Aside0.mk (below_step B0.out hb1); clear hb1)
        | (go_at_call 9; refine (LT.out _ B0.out).mono ?_; rintro e w1 ⟨rfl, hb1⟩; have B0 := Aside0.mk (below_step B0.out hb1); clear hb1))
    go_ret
    exact ⟨rfl, B0.out⟩
  obtain ⟨a, ha⟩ : ∃ a : Int, a = 1 + wd % 20 := ⟨_, rfl⟩
  obtain ⟨b, hb⟩ : ∃ a : Int, a = 1 + ht % 20 := ⟨_, rfl⟩
  have AL := Aside0.mk (fun w' (hb : Below w.heap.size w w') => all_calls l A0 c0 a b 1 w' (HG.out.below hb) (Kd.C_below HR.out hb) HC.out (fun j hj => ⟨HI.out j hj, by have := (HLQ.out rfl j (by omega) hj).1; omega, by have := (HLQ.out rfl j (by omega) hj).2; omega⟩))
  clear HLQ
  obtain ⟨n, hn⟩ : ∃ n, n = l.length := ⟨_, rfl⟩
  rw [← hn] at b18 b18n h18 lm AL LT ⊢
  have HN := Aside0.mk hn
  have HAB := Aside0.mk (And.intro ha hb)
  clear hn ha hb
  go_enter Tryd.func4, Tryd.ntmps4
  go_upto_region 4 with (first
        | (go_at_call 8; refine (LV.out _ B0.out).mono ?_; rintro e w1 ⟨rfl, hb1⟩; have B0 := Aside0.mk (below_step B0.out hb1); clear hb1)
        | (go_at_call 9; refine (LT.out _ B0.out).mono ?_; rintro e w1 ⟨rfl, hb1⟩; have B0 := Aside0.mk (below_step B0.out hb1); clear hb1))
  rw [← HAB.out.1, ← HAB.out.2]
  go_upto_region 5 with (go_at_call 10; refine (AL.out _ B0.out).mono ?_; rintro e w2 ⟨hb2, A, m, cp, c, rfl, hd⟩; have B2 := Aside0.mk (below_step B0.out hb2); have HD := Aside0.mk hd; clear hb2 hd)
  clear b18 b18n LV LT AL
  by_cases hc0 : c = 0
  rotate_left
  · have bc1 : (c == 0) = false := by simpa using hc0
    have bc2 : (c != 0) = true := by simpa using hc0
    obtain ⟨rfl, rfl, rfl⟩ : A = none ∧ m = 0 ∧ cp = 0 := by
      rcases HD.out with ⟨_, h⟩ | ⟨h, _⟩
      · exact h
      · exact absurd h hc0
    clear hc0
    go_wp2
    go_ret
    exact ⟨rfl, B2.out⟩
  subst hc0
  obtain ⟨rfl, hcp, ss, hss, hsl, hok⟩ : n = m ∧ m ≤ cp ∧ ∃ ss, Kd.C kStg w2 A n ss ∧ ss.length = n ∧ ∀ j, j < n → StgOk l a b ss j := by
    rw [HN.out]
    rcases HD.out with ⟨h, _⟩ | ⟨_, h1, h2, _, ss, h3⟩
    · exact absurd rfl h
    · exact ⟨h1.symm, h2, ss, h3⟩
  have HSS := Aside0.mk hss
  have HSL := Aside0.mk hsl
  have HOK := Aside0.mk hok
  have HCP := Aside0.mk hcp
  have lm2 : (n : Int) ≤ 18 := by omega
  clear hss hsl hok hcp HD
  go_wp2
  go_loopg [7, 8, 53] n (fun kx s7 s8 s53 wr => ∃ (i : Nat) (W H : Int), s53 = .int .i64 i ∧ s7 = .int .i64 W ∧ s8 = .int .i64 H ∧ i ≤ n ∧ n - i ≤ kx ∧ Aside0 (szAt l a b i = (W, H)) ∧ Aside0 (Below w2.heap.size w2 wr))
  case atStart => exact ⟨0, a, b, rfl, rfl, rfl, by omega, by omega, ⟨rfl⟩, ⟨Below.refl _ _⟩⟩
  case round =>
    obtain ⟨i, W, H, rfl, rfl, rfl, i1, i2, HS, HB⟩ := hrel
    have wi : IntKind.i64.wrap ((i : Int) + 1) = (i : Int) + 1 := by rw [i64w]; exact w64_id (by omega) (by omega)
    by_cases hlt : (i : Int) < (n : Int)
    rotate_left
    · go_wp2
      go_ret
      exact ⟨rfl, below_step B2.out HB.out⟩
    have p1 : (0 ≤ (i : Int)) := by omega
    have q0 : i < n := by omega
    have qd : decide (i < n) = true := decide_eq_true q0
    obtain ⟨sx1, sx2, sy1, sy2, sbd⟩ := HOK.out i q0
    rw [HS.out] at sx1 sy1
    obtain ⟨ad, bx, bz, e0, y0, y1, y2, tx, ty⟩ := at_Stg (Kd.C_below HSS.out HB.out) (i : Int) p1 hlt
    subst e0
    rw [Int.toNat_natCast] at y0 y1 y2
    obtain ⟨W1, hW1⟩ : ∃ W1, W1 = (szAt l a b (i + 1)).1 := ⟨_, rfl⟩
    obtain ⟨H1, hH1⟩ : ∃ H1, H1 = (szAt l a b (i + 1)).2 := ⟨_, rfl⟩
    rw [← hW1] at sx2
    rw [← hH1] at sy2
    obtain ⟨st, hst⟩ : ∃ st, st = rd_Stg ss (i : Int) := ⟨_, rfl⟩
    rw [← hst] at sx1 sx2 sy1 sy2 sbd y2 tx ty
    rw [sbd] at y2
    have BR := Aside0.mk (below_step B2.out HB.out)
    obtain ⟨ad2, A4, c4, A5, c5, e0, x0, x1, x2, x3, x4, x5, x6, x7, x8, l4, g4, l5, g5⟩ := at_T34 (Kd.C_below HR.out BR.out) (i : Int) p1 (by have := HN.out; omega)
    cases e0
    obtain ⟨o, ho⟩ : ∃ o, o = rd_T34 l (i : Int) := ⟨_, rfl⟩
    rw [← ho] at x0 x1 x2 x3 x4 x5 x6 x7 x8 l4 g4 l5 g5 y2
    rw [Int.toNat_natCast] at x0 x1 x2 x3 x4 x5 x6 x7 x8
    have es : szAt l a b (i + 1) = opTo o W H := by rw [szAt, HS.out, ← ho]
    obtain ⟨p, hp⟩ : ∃ p, p = o.f4.length := ⟨_, rfl⟩
    obtain ⟨q, hq⟩ : ∃ q, q = o.f5.length := ⟨_, rfl⟩
    have hsz := fun w' (hb : Below wr.heap.size wr w') => op_Size.calls o.f0 o.f1 o.f2 o.f3 A4 c4 o.f4 A5 c5 o.f5 o.f6 o.f7 o.f8 W H W1 H1 w' (Kd.C_below g4 hb) l4 (Kd.C_below g5 hb) l5 (by rw [size_is, hW1, hH1, es])
    rw [← hp, ← hq] at hsz
    rw [← hp] at x4
    rw [← hq] at x5
    have HSZ := Aside0.mk hsz
    have F1 := Aside0.mk (fun w' (hb : Below wr.heap.size wr w') => show Calls Tryd.prog 11 #[.pointer (some ⟨bx, 0, none⟩)] w' fun e w'' => e = .returned (.int .i64 W) ∧ w'' = w' by have h := from_calls bx st.x w' (tx.below hb); rw [sx1] at h; exact h)
    have F2 := Aside0.mk (fun w' (hb : Below wr.heap.size wr w') => show Calls Tryd.prog 11 #[.pointer (some ⟨bz, 0, none⟩)] w' fun e w'' => e = .returned (.int .i64 H) ∧ w'' = w' by have h := from_calls bz st.y w' (ty.below hb); rw [sy1] at h; exact h)
    have T1 := Aside0.mk (fun w' (hb : Below wr.heap.size wr w') => show Calls Tryd.prog 13 #[.pointer (some ⟨bx, 0, none⟩)] w' fun e w'' => e = .returned (.int .i64 W1) ∧ w'' = w' by have h := to_calls bx st.x w' (tx.below hb); rw [sx2] at h; exact h)
    have T2 := Aside0.mk (fun w' (hb : Below wr.heap.size wr w') => show Calls Tryd.prog 13 #[.pointer (some ⟨bz, 0, none⟩)] w' fun e w'' => e = .returned (.int .i64 H1) ∧ w'' = w' by have h := to_calls bz st.y w' (ty.below hb); rw [sy2] at h; exact h)
    have HSN := Aside0.mk (show szAt l a b (i + 1) = (W1, H1) by rw [hW1, hH1])
    clear hsz hp hq ho es hW1 hH1 hst sx1 sx2 sy1 sy2 sbd tx ty g4 g5 l4 l5
    have BW := Aside0.mk (Below.refl wr.heap.size wr)
    go_upto_region 12 with fail
    have hr := heap_alloc_new wr (.cells #[.pointer (some ⟨bx, 0, none⟩), .pointer (some ⟨bz, 0, none⟩), .int .i64 o.f1] 26)
    have BA := Aside0.mk (below_alloc (Below.refl wr.heap.size wr) (.cells #[.pointer (some ⟨bx, 0, none⟩), .pointer (some ⟨bz, 0, none⟩), .int .i64 o.f1] 26))
    obtain ⟨r, hrr⟩ : ∃ r, r = wr.heap.size := ⟨_, rfl⟩
    rw [← hrr] at hr ⊢
    generalize wr.alloc (.cells #[.pointer (some ⟨bx, 0, none⟩), .pointer (some ⟨bz, 0, none⟩), .int .i64 o.f1] 26) = w3 at hr BA ⊢
    have s0 : w3.cell? ⟨r, 0, none⟩ = some (.pointer (some ⟨bx, 0, none⟩)) := (blk_cell hr 0).trans rfl
    have s1 : w3.cell? ⟨r, 1, none⟩ = some (.pointer (some ⟨bz, 0, none⟩)) := (blk_cell hr 1).trans rfl
    replace x0 := (BA.out.cell (World.block_lt_of_cell? wr _ x0)).trans x0
    replace x1 := (BA.out.cell (World.block_lt_of_cell? wr _ x1)).trans x1
    replace x2 := (BA.out.cell (World.block_lt_of_cell? wr _ x2)).trans x2
    replace x3 := (BA.out.cell (World.block_lt_of_cell? wr _ x3)).trans x3
    replace x4 := (BA.out.cell (World.block_lt_of_cell? wr _ x4)).trans x4
    replace x5 := (BA.out.cell (World.block_lt_of_cell? wr _ x5)).trans x5
    replace x6 := (BA.out.cell (World.block_lt_of_cell? wr _ x6)).trans x6
    replace x7 := (BA.out.cell (World.block_lt_of_cell? wr _ x7)).trans x7
    replace x8 := (BA.out.cell (World.block_lt_of_cell? wr _ x8)).trans x8
    have HRR := Aside0.mk hr
    have HGG := Aside0.mk hrr
    clear y0 y1 y2 hr hrr
    go_upto_region 14 with (first
      | (go_at_call 11; (with_reducible refine (F1.out _ BA.out).mono ?_); rintro e w6 ⟨rfl, rfl⟩)
      | (go_at_call 11; (with_reducible refine (F2.out _ BA.out).mono ?_); rintro e w6 ⟨rfl, rfl⟩))
    clear s0 s1
    go_upto_region 15 with (go_at_call 12; (with_reducible refine (HSZ.out _ BA.out).mono ?_); rintro e w7 ⟨rfl, hb7⟩; have x9 := (hb7.cell (World.block_lt_of_cell? _ _ x1)).trans x1; have hr7 := (hb7.block r (blk_lt HRR.out)).trans HRR.out; have B7 := Aside0.mk (below_step BA.out hb7); clear hb7)
    have s0 : w7.cell? ⟨r, 0, none⟩ = some (.pointer (some ⟨bx, 0, none⟩)) := (blk_cell hr7 0).trans rfl
    have s1 : w7.cell? ⟨r, 1, none⟩ = some (.pointer (some ⟨bz, 0, none⟩)) := (blk_cell hr7 1).trans rfl
    have s2 : w7.cell? ⟨r, 2, none⟩ = some (.int .i64 o.f1) := (blk_cell hr7 2).trans rfl
    clear x0 x1 x2 x3 x4 x5 x6 x7 x8 hr7
    have QT1 := Aside0.mk (fun n => T1.out (w7.drewN n) (pw_below_drewN B7.out n))
    have QT2 := Aside0.mk (fun n => T2.out (w7.drewN n) (pw_below_drewN B7.out n))
    clear F1 F2 T1 T2
    go_quiet (first
      | (go_at_call 13; (with_reducible exact Calls.quiet_of_same (QT1.out _)))
      | (go_at_call 13; (with_reducible exact Calls.quiet_of_same (QT2.out _))))
    go_wp2
    go_roundg (n - (i + 1))
    case measure => omega
    case rel => exact ⟨i + 1, W1, H1, by simp, rfl, rfl, by omega, Nat.le_refl _, HSN, ⟨pw_below_drewN (below_step HB.out B7.out) _⟩⟩
end Go.Proofs.YtjenkaobmlpbgaaDoor.QA

namespace Go.Proofs.YtjenkaobmlpbgaaDoor.QA
open Go.RowKit Go.Proofs.YtjenkaobmlpbgaaDoorW.PrintWords Go.Proofs.YtjenkaobmlpbgaaDoorW.PrintLast Go.Proofs.YtjenkaobmlpbgaaDoorW.PrintMore Go.Proofs.YtjenkaobmlpbgaaDoor.T
set_option linter.unusedVariables false
set_option linter.unusedSimpArgs false
section
open Go.ChangeShapes Go.WideShapes Go.ChangeAt
variable {H : Type} {enc : TypeId × Value → H} {W : World} {fuel : Nat} {cs : List Value} {x : DataW H × List MemPlace}
theorem open_nums (h : DataW.trod enc Tryd.prog W 0 (fun _ => true) true fuel 31 cs = some x) : ∃ (A : Option Addr) (l : List Int) (c : Nat), cs = [.slice A l.length c] ∧ l.length ≤ c ∧ Kd.C (Kd.int .i64) W A l.length l ∧ ∀ z ∈ l, I64 z := by
  rcases open_ints Tryd.underlying31 Tryd.underlying2 (by kernel_rfl) h with ⟨hcs, _⟩ | ⟨a, len, cap, zs, hcs, _, hl, hm, hz, _, hcell, hwz⟩
  · exact ⟨none, [], 0, hcs, by decide, C_none W, by simp⟩
  · have hz : zs.length = cap := by simpa using hz
    obtain ⟨l, e, h1, h2, h3, h4⟩ := ReadsInt.ofRowC (k := .i64) (w := W) (a := some a) (len := len) (cap := cap) (zs := zs) (.inr ⟨a, rfl, hl, hm, hz, hcell, hwz⟩)
    subst e
    exact ⟨some a, l, cap, hcs, h4, Kd.C_of_reads (d := (0 : Int)) (h1 := fun _ => rfl) h1, fun z hz => T.wf64 (h3 z hz)⟩
set_option maxRecDepth 100000 in
theorem open_op (h : DataW.trod enc Tryd.prog W 0 (fun _ => true) true fuel 34 cs = some x) : ∃ o : S34, k34.K W o cs ∧ opI o := by
  obtain ⟨xs, n, _, rfl, hl, hlen, hf⟩ := DataW.trod_struct Tryd.underlying34 h
  have hl9 : cs.length = 9 := hl.trans (by kernel_rfl)
  match cs, hl9 with
  | [u0, u1, u2, u3, u4, u5, u6, u7, u8], _ =>
  match xs, hlen with
  | [y0, y1, y2, y3, y4, y5, y6, y7, y8], _ =>
  have c0 : Tryd.prog.cellsOf 30 = 1 := by kernel_rfl
  have c1 : Tryd.prog.cellsOf 24 = 1 := by kernel_rfl
  have c2 : Tryd.prog.cellsOf 2 = 1 := by kernel_rfl
  have c3 : Tryd.prog.cellsOf 3 = 1 := by kernel_rfl
  have c4 : Tryd.prog.cellsOf 31 = 1 := by kernel_rfl
  have c6 : Tryd.prog.cellsOf 32 = 1 := by kernel_rfl
  have g0 : DataW.trod enc Tryd.prog W 0 (fun _ => true) true n 30 (([u0, u1, u2, u3, u4, u5, u6, u7, u8].drop 0).take (Tryd.prog.cellsOf 30)) = some y0 := hf 0 _ rfl
  have g1 : DataW.trod enc Tryd.prog W 0 (fun _ => true) true n 24 (([u0, u1, u2, u3, u4, u5, u6, u7, u8].drop 1).take (Tryd.prog.cellsOf 24)) = some y1 := hf 1 _ rfl
  have g2 : DataW.trod enc Tryd.prog W 0 (fun _ => true) true n 2 (([u0, u1, u2, u3, u4, u5, u6, u7, u8].drop 2).take (Tryd.prog.cellsOf 2)) = some y2 := hf 2 _ rfl
  have g3 : DataW.trod enc Tryd.prog W 0 (fun _ => true) true n 3 (([u0, u1, u2, u3, u4, u5, u6, u7, u8].drop 3).take (Tryd.prog.cellsOf 3)) = some y3 := hf 3 _ rfl
  have g4 : DataW.trod enc Tryd.prog W 0 (fun _ => true) true n 31 (([u0, u1, u2, u3, u4, u5, u6, u7, u8].drop 4).take (Tryd.prog.cellsOf 31)) = some y4 := hf 4 _ rfl
  have g5 : DataW.trod enc Tryd.prog W 0 (fun _ => true) true n 31 (([u0, u1, u2, u3, u4, u5, u6, u7, u8].drop 5).take (Tryd.prog.cellsOf 31)) = some y5 := hf 5 _ rfl
  have g6 : DataW.trod enc Tryd.prog W 0 (fun _ => true) true n 32 (([u0, u1, u2, u3, u4, u5, u6, u7, u8].drop 6).take (Tryd.prog.cellsOf 32)) = some y6 := hf 6 _ rfl
  have g7 : DataW.trod enc Tryd.prog W 0 (fun _ => true) true n 3 (([u0, u1, u2, u3, u4, u5, u6, u7, u8].drop 7).take (Tryd.prog.cellsOf 3)) = some y7 := hf 7 _ rfl
  have g8 : DataW.trod enc Tryd.prog W 0 (fun _ => true) true n 3 (([u0, u1, u2, u3, u4, u5, u6, u7, u8].drop 8).take (Tryd.prog.cellsOf 3)) = some y8 := hf 8 _ rfl
  simp only [c0, c1, c2, c3, c4, c6] at g0 g1 g2 g3 g4 g5 g6 g7 g8
  simp [List.drop, List.take] at g0 g1 g2 g3 g4 g5 g6 g7 g8
  obtain ⟨v0, e0, _, w0⟩ := DataW.trod_int Tryd.underlying30 g0
  obtain ⟨v1, e1, _, w1⟩ := DataW.trod_int Tryd.underlying24 g1
  obtain ⟨v2, e2, _, w2⟩ := DataW.trod_int Tryd.underlying2 g2
  obtain ⟨v3, e3, _, w3⟩ := DataW.trod_int Tryd.underlying3 g3
  obtain ⟨A4, l4, k4, e4, m4, r4, w4⟩ := open_nums g4
  obtain ⟨A5, l5, k5, e5, m5, r5, w5⟩ := open_nums g5
  obtain ⟨v6, e6, _, w6⟩ := DataW.trod_int Tryd.underlying32 g6
  obtain ⟨v7, e7, _, w7⟩ := DataW.trod_int Tryd.underlying3 g7
  obtain ⟨v8, e8, _, w8⟩ := DataW.trod_int Tryd.underlying3 g8
  simp only [List.cons.injEq, and_true] at e0 e1 e2 e3 e4 e5 e6 e7 e8
  subst e0 e1 e2 e3 e4 e5 e6 e7 e8
  exact ⟨⟨v0, v1, v2, v3, l4, l5, v6, v7, v8⟩, k34_mk W ⟨v0, v1, v2, v3, l4, l5, v6, v7, v8⟩ m4 r4 m5 r5, T.wf64 w0, T.wf64 w1, T.wf64 w2, T.wf64 w3, w4, w5, T.wf64 w6, T.wf64 w7, T.wf64 w8⟩
theorem open_ops {A : Option Addr} {len cap : Nat} {d : DataW H} {ps : List MemPlace} (h : DataW.Trod enc Tryd.prog W 0 (fun _ => true) true 39 (.slice A len cap) d ps) : ∃ l : List S34, len = l.length ∧ Kd.C k34 W A l.length l ∧ l.length ≤ cap ∧ ∀ j : Nat, j < l.length → opI (rd_T34 l j) := by
  obtain ⟨fuel, hf⟩ := h
  rcases DataW.trod_slice Tryd.underlying39 hf with ⟨hcs, _⟩ | ⟨a, len', cap', elems, rest, n, _, hcs, _, _, hl, hm, hlen, hel, _⟩
  · simp [Value.cells] at hcs
    obtain ⟨rfl, rfl, rfl⟩ := hcs
    exact ⟨[], rfl, ⟨rfl, by decide, fun h => absurd h (by decide)⟩, by decide, fun j hj => absurd hj (by simp)⟩
  · simp [Value.cells] at hcs
    obtain ⟨rfl, rfl, rfl⟩ := hcs
    have c9 : Tryd.prog.cellsOf 34 = 9 := by kernel_rfl
    rw [c9] at hel
    have each : ∀ i, i < len → ∃ o c, k34.K W o c ∧ opI o ∧ c.length = 9 ∧ ∀ j, j < 9 → W.cell? ((a.add (i * 9)).add j) = c[j]? := by
      intro i hi
      have h1 := hel i hi
      rw [List.getElem?_eq_getElem (by omega)] at h1
      obtain ⟨c, hc, ht⟩ := Option.bind_eq_some_iff.1 h1
      obtain ⟨_, hc1, hc2⟩ := World.cells?_some hc
      obtain ⟨o, ho, hi2⟩ := open_op ht
      exact ⟨o, c, ho, hi2, hc1, hc2⟩
    have all : ∀ m, m ≤ len → ∃ l : List S34, l.length = m ∧ ∀ i o, l[i]? = some o → opI o ∧ ∃ c, c.length = 9 ∧ k34.K W o c ∧ ∀ j, j < 9 → W.cell? ((a.add (i * 9)).add j) = c[j]? := by
      intro m
      induction m with
      | zero => intro _; exact ⟨[], rfl, by simp⟩
      | succ m ih =>
        intro hm2
        obtain ⟨l, h1, h2⟩ := ih (by omega)
        obtain ⟨o, c, ho, hi2, hc1, hc2⟩ := each m (by omega)
        refine ⟨l ++ [o], by simp [h1], fun i o' hi3 => ?_⟩
        by_cases hi4 : i < l.length
        · rw [List.getElem?_append_left hi4] at hi3
          exact h2 i o' hi3
        · have : i = m := by
            have := (List.getElem?_eq_some_iff.1 hi3).1
            simp at this; omega
          subst this
          rw [← h1, List.getElem?_append_right (Nat.le_refl _), Nat.sub_self] at hi3
          simp at hi3
          subst hi3
          exact ⟨hi2, c, hc1, ho, hc2⟩
    obtain ⟨l, h1, h2⟩ := all len (Nat.le_refl _)
    subst h1
    refine ⟨l, rfl, ⟨rfl, by unfold maxLen at hm; omega, fun _ => ⟨a, rfl, fun j p hp => ?_⟩⟩, hl, fun j hj => ?_⟩
    · obtain ⟨_, c, h3, h4, h5⟩ := h2 j p hp
      refine ⟨c, h3, h4, fun i u hu => ?_⟩
      have hi : i < 9 := by rw [← h3]; exact (List.getElem?_eq_some_iff.1 hu).1
      have := h5 i hi
      rw [hu] at this
      rw [← this]
      exact congrArg W.cell? (show a.add (j * 9 + i) = (a.add (j * 9)).add i by unfold Addr.add; by_cases h1 : i = 0 <;> by_cases h2 : j = 0 <;> simp [h1, h2, Nat.add_assoc] <;> (split <;> simp_all [Nat.add_assoc]))
    · have e : l[j]? = some (rd_T34 l j) := by unfold rd_T34; rw [Int.toNat_natCast, List.getD_eq_getElem?_getD, List.getElem?_eq_getElem hj]; rfl
      exact (h2 j _ e).1
end
end Go.Proofs.YtjenkaobmlpbgaaDoor.QA

namespace Go.Proofs.YtjenkaobmlpbgaaDoor.T
open Go.ChangeShapes Go.WideShapes Go.ChangeAt Go.RowKit
theorem gKinds : Tryd.prog.globalNamed "smalto/raw.kinds" = some 1 := by kernel_rfl
theorem tKinds : (Tryd.prog.globals[1]?).map (·.type) = some 82 := by kernel_rfl
theorem cell_of {cs : List Value} {a b i : Nat} {v : Value} {ws : List Value} (hi : i < b) (h : ((cs.drop a).take b) = ws) (hv : ws[i]? = some v) : cs[a + i]? = some v := by
  rw [← h] at hv
  rw [List.getElem?_take, if_pos hi, List.getElem?_drop] at hv
  exact hv
theorem str_eq {s : ByteArray} {l : List UInt8} (h : s.data.toList = l) : s = ⟨l.toArray⟩ := by
  cases s with | mk d => simp only at h; rw [← h]
theorem kind_cells {W : World} {m : Nat} {cs : List Value} {s : List UInt8} {n : Int} {x : DataW Unit × List MemPlace}
    (h : DataW.trod (fun _ => ()) Tryd.prog W 0 (fun _ => true) false m 81 cs = some x) (hx : x.1 = .agg [.lit (.string s), .lit (.int .i64 n)]) :
    cs[0]? = some (.string ⟨s.toArray⟩) ∧ cs[1]? = some (.int .i64 n) := by
  obtain ⟨y0, y1, k, rfl, hl, h0, h1⟩ := trod_struct2 Tryd.underlying81 h
  simp only [DataW.agg.injEq, List.cons.injEq, and_true] at hx
  obtain ⟨z, e0, e1, _⟩ := DataW.trod_string Tryd.underlying9 h0
  obtain ⟨q, f0, f1, _⟩ := DataW.trod_int Tryd.underlying2 h1
  rw [e1, f1] at hx
  simp only [DataW.lit.injEq, Lit.string.injEq, Lit.int.injEq, true_and] at hx
  obtain ⟨hs, rfl⟩ := hx
  rw [str_eq hs] at e0
  constructor
  · simpa using cell_of (i := 0) (of_decide_eq_true (by kernel_rfl)) e0 rfl
  · simpa using cell_of (i := 0) (of_decide_eq_true (by kernel_rfl)) f0 rfl
set_option maxRecDepth 100000 in
theorem kinds_cells {W : World} {fuel : Nat} {cs : Array Value} {x : DataW Unit × List MemPlace} (hv : W.var? Tryd.prog "smalto/raw.kinds" = some cs)
    (h : DataW.trod (fun _ => ()) Tryd.prog W 0 (fun _ => true) false fuel 82 cs.toList = some x) (hx : x.1 = Rows.laid_smalto_raw_kinds) : W.cell? ⟨1, 0, none⟩ = some (.string (⟨#[98, 111, 120]⟩ : ByteArray)) ∧ W.cell? ⟨1, 1, none⟩ = some (.int .i64 0) ∧ W.cell? ⟨1, 2, none⟩ = some (.string (⟨#[99, 117, 98, 105, 99]⟩ : ByteArray)) ∧ W.cell? ⟨1, 3, none⟩ = some (.int .i64 2) ∧ W.cell? ⟨1, 4, none⟩ = some (.string (⟨#[108, 97, 110, 99, 122, 111, 115]⟩ : ByteArray)) ∧ W.cell? ⟨1, 5, none⟩ = some (.int .i64 3) := by
  obtain ⟨xs, m, _, rfl, hl, hlen, hel⟩ := DataW.trod_array Tryd.underlying82 h
  have c2 : Tryd.prog.cellsOf 81 = 2 := by kernel_rfl
  match xs, hlen with
  | [x0, x1, x2], _ =>
    have hx' := hx
    simp only [Rows.laid_smalto_raw_kinds, List.map_cons, List.map_nil, DataW.agg.injEq, List.cons.injEq, and_true] at hx'
    obtain ⟨k0, k1, k2⟩ := hx'
    have g0 := kind_cells (hel 0 (by decide)) k0
    have g1 := kind_cells (hel 1 (by decide)) k1
    have g2 := kind_cells (hel 2 (by decide)) k2
    rw [c2] at g0 g1 g2
    simp only [List.getElem?_take, List.getElem?_drop] at g0 g1 g2
    simp at g0 g1 g2
    simp only [World.var?_cell gKinds hv]
    exact ⟨g0.1, g0.2, g1.1, g1.2, g2.1, g2.2⟩
theorem gNames : Tryd.prog.globalNamed "smalto/border.names" = some 0 := by kernel_rfl
theorem tNames : (Tryd.prog.globals[0]?).map (·.type) = some 79 := by kernel_rfl
theorem str_cell {W : World} {v : Value} {n : Nat} {q : List MemPlace} {s : List UInt8} (h : DataW.trod (fun _ => ()) Tryd.prog W 0 (fun _ => true) false n 9 [v] = some (.lit (.string s), q)) : v = .string ⟨s.toArray⟩ := by
  obtain ⟨z, e0, e1, _⟩ := DataW.trod_string Tryd.underlying9 h
  simp only [Prod.mk.injEq, DataW.lit.injEq, Lit.string.injEq] at e1
  rw [str_eq e1.1.symm] at e0
  simpa using e0
theorem names_cells {W : World} {fuel : Nat} {cs : Array Value} {x : DataW Unit × List MemPlace} (hv : W.var? Tryd.prog "smalto/border.names" = some cs)
    (h : DataW.trod (fun _ => ()) Tryd.prog W 0 (fun _ => true) false fuel 79 cs.toList = some x) (hx : x.1 = Rows.laid_smalto_border_names) :
    ∃ (a : Addr) (c : Nat), 3 ≤ c ∧ W.cell? ⟨0, 0, none⟩ = some (.slice (some a) 3 c) ∧ W.cell? a = some (.string (⟨#[99, 108, 97, 109, 112]⟩ : ByteArray)) ∧ W.cell? ⟨a.block, a.off + 1, none⟩ = some (.string (⟨#[109, 105, 114, 114, 111, 114]⟩ : ByteArray)) ∧ W.cell? ⟨a.block, a.off + 2, none⟩ = some (.string (⟨#[119, 114, 97, 112]⟩ : ByteArray)) := by
  obtain ⟨d, p⟩ := x
  simp only at hx
  subst hx
  obtain ⟨a, cap, e, hl, hc⟩ := open_row Tryd.underlying79 (show Tryd.prog.cellsOf 9 = 1 by kernel_rfl) h
  obtain ⟨v0, n0, q0, c0, t0⟩ := hc 0 _ rfl
  obtain ⟨v1, n1, q1, c1, t1⟩ := hc 1 _ rfl
  obtain ⟨v2, n2, q2, c2, t2⟩ := hc 2 _ rfl
  rw [str_cell t0] at c0
  rw [str_cell t1] at c1
  rw [str_cell t2] at c2
  have e0 : a.add 0 = a := by cases a; rfl
  rw [e0] at c0
  have ec : cs[0]? = some (.slice (some a) 3 cap) := by
    have := congrArg (fun l => l[0]?) e
    simpa using this
  exact ⟨a, cap, hl, by rw [World.var?_cell gNames hv]; exact ec, c0, c1, c2⟩
theorem gl_of_laid {W : World} (h : laidMetH Tryd.prog [("smalto/border.names", Rows.laid_smalto_border_names), ("smalto/raw.kinds", Rows.laid_smalto_raw_kinds)] W) : GL W := by
  rw [MakeChecks.laidMetH_plain _ _ _ (by kernel_rfl)] at h
  obtain ⟨ps, ⟨g, t, cs, fuel, p, q, hg, ht, hv, hd, ⟨g2, t2, cs2, fuel2, p2, q2, hg2, ht2, hv2, hd2, _, _⟩, _⟩, _, _⟩ := h
  obtain rfl := Option.some.inj (gNames.symm.trans hg)
  obtain rfl := Option.some.inj (tNames.symm.trans ht)
  obtain rfl := Option.some.inj (gKinds.symm.trans hg2)
  obtain rfl := Option.some.inj (tKinds.symm.trans ht2)
  exact ⟨kinds_cells hv2 hd2 rfl, names_cells hv hd rfl⟩
theorem laid_witness (os : Os) (args : Array Value) : laidMetH Tryd.prog [("smalto/border.names", Rows.laid_smalto_border_names), ("smalto/raw.kinds", Rows.laid_smalto_raw_kinds)] ((World.laidAll Tryd.prog os [("smalto/border.names", Rows.laid_smalto_border_names), ("smalto/raw.kinds", Rows.laid_smalto_raw_kinds)]).forCall (fun _ _ => 0) ⟨#[], args, []⟩).memory := by
  rw [MakeChecks.laidMetH_plain _ _ _ (by kernel_rfl)]
  exact laidMet_laidAll _ (by kernel_rfl) (by kernel_rfl)
end Go.Proofs.YtjenkaobmlpbgaaDoor.T

namespace Go.Proofs.YtjenkaobmlpbgaaDoorW.PrintWords
open Go.ChangeShapes Go.WideShapes
end Go.Proofs.YtjenkaobmlpbgaaDoorW.PrintWords
