/- Joined by wip/tools/bundle.py out of: WTab WFour WFootNe WAt WEqStruct WRepsOne WInv WInvWords WGuard QAx0 QAx1 QAx2 TCore QAx3 QAx4 QAx11 QAx12. -/
import Derived.Test.YtebipmdopdogkaaGreatDoorBOpMakes0
import Derived.Laws.StructEq
import Derived.Test.YtebipmdopdogkaaGreatDoorProg
import Derived.Below
import Derived.Deep.Draws
import Derived.Deep.AppendLies
import Derived.Maps.AppendAt
import Derived.OwnWalk
import Derived.Laws.BytesArg
import Derived.Laws.MakeOwn
import Derived.Laws.OwnMore
import Derived.Deep.OwnRows
import Derived.Tactics
import Derived.Lib.ConvBytes
import Derived.Laws.Slices
import Derived.WalkKit
import Derived.KernelRfl
import Derived.RowKit3
import Derived.Deep.LoopGhost
import Derived.Deep.QuietTactic
import Derived.BigQuiet
import Derived.WideLaws
import Derived.Deep.DeepCutAuto
import Derived.Deep.CutBlock
import Derived.Deep.RegionHeld3
import Derived.Laws.Rows
import Derived.Lib.AppendStr
import Derived.ArgAppend
import Derived.Laws.IdiomCopy
import Derived.OrdersHeld
import Derived.Laws.BitsLemmas
import Derived.RowKit
namespace Go.Proofs.YtebipmdopdogkaaGreatDoorW.PrintLast
open Go.Proofs.YtebipmdopdogkaaGreatDoorW.PrintWords (Aside0)
def needsOf (md : Region.Mode) (o : Oper) : List Nat := (o.after.toList.filter (fun e => Region.binds md e)).map (fun e => e.on)
def clashOf (md : Region.Mode) (ops : Array Oper) (i : Nat) (oi : Oper) : List Nat := (List.range ops.size).filter fun j => !(j == i) && match ops[j]? with
  | some oj => !(oj.after.any (fun e => Region.binds md e && e.on == i) || oi.apart ops oj)
  | none => false
/-- No select in it; for each operation: what must have come up before it, and what may not come up behind it if it is taken first. -/
def rtab (md : Region.Mode) (ops : Array Oper) : Bool × List (List Nat × List Nat) := (Region.noSelect ops, (List.range ops.size).map fun i => match ops[i]? with
  | some o => (needsOf md o, clashOf md ops i o)
  | none => ([], []))
def readyAt (T : List (List Nat × List Nat)) (l : List Bool) (i : Nat) : Bool := !l.getD i true && match T[i]? with
  | some r => r.1.all (fun j => l.getD j false)
  | none => false
def readyT (T : List (List Nat × List Nat)) (l : List Bool) : List Nat := (List.range T.length).filter (readyAt T l)
def freeT (T : List (List Nat × List Nat)) (l : List Bool) (i : Nat) : Bool := match T[i]? with
  | some r => r.2.all (fun j => l.getD j true)
  | none => false
def closedT (T : List (List Nat × List Nat)) (l : List Bool) : Bool := (List.range T.length).all fun j => !l.getD j false || match T[j]? with
  | some r => r.1.all (fun k => l.getD k false)
  | none => true
def reachT (T : List (List Nat × List Nat)) (i : Nat) : Nat → Nat → Bool
  | 0, _ => false
  | fuel + 1, d => match T[d]? with
    | some r => r.1.any fun j => j == i || reachT T i fuel j
    | none => false
def lastT (T : List (List Nat × List Nat)) (l : List Bool) (ds : List Nat) (i : Nat) : Bool := ds.all fun d => l.getD d true || reachT T i T.length d
section
variable {md : Region.Mode} {ops : Array Oper} {T : Bool × List (List Nat × List Nat)} {l l' li lj lk : Array Bool} {ds : List Nat} {i j k : Nat}
theorem gd (l : Array Bool) (j : Nat) (b : Bool) : l.getD j b = l.toList.getD j b := by simp [Array.getD_eq_getD_getElem?, List.getD_eq_getElem?_getD]
theorem needs_all (o : Oper) (p : Nat → Bool) : o.after.all (fun e => !Region.binds md e || p e.on) = (needsOf md o).all p := by
  unfold needsOf
  rw [← Array.all_toList]
  induction o.after.toList with
  | nil => rfl
  | cons e r ih =>
    rw [List.all_cons, ih, List.filter_cons]
    cases h : Region.binds md e <;> simp
theorem needs_any (o : Oper) (p : Nat → Bool) : o.after.any (fun e => Region.binds md e && p e.on) = (needsOf md o).any p := by
  unfold needsOf
  rw [← Array.any_toList]
  induction o.after.toList with
  | nil => rfl
  | cons e r ih =>
    rw [List.any_cons, ih, List.filter_cons]
    cases h : Region.binds md e <;> simp
theorem rtab_length : (rtab md ops).2.length = ops.size := by simp [rtab]
theorem rtab_some {o : Oper} (h : ops[i]? = some o) : (rtab md ops).2[i]? = some (needsOf md o, clashOf md ops i o) := by
  have hi := (Array.getElem?_eq_some_iff.1 h).1
  unfold rtab
  rw [List.getElem?_map, List.getElem?_range hi, Option.map_some, h]
theorem rtab_none (h : ops[i]? = none) : (rtab md ops).2[i]? = none := by
  have hi : ops.size ≤ i := Array.getElem?_eq_none_iff.1 h
  exact List.getElem?_eq_none (by rw [rtab_length]; exact hi)
theorem readyAt_eq : readyAt (rtab md ops).2 l.toList i = (!l.getD i true && ((ops[i]?).map (·.after.all fun e => !Region.binds md e || l.getD e.on false)).getD false) := by
  unfold readyAt
  rw [gd]
  cases h : ops[i]? with
  | none => rw [rtab_none h]; rfl
  | some o =>
    rw [rtab_some h]
    simp only [Option.map_some, Option.getD_some]
    rw [← needs_all]
    simp only [gd]
theorem ready_eq : Region.ready md ops l = readyT (rtab md ops).2 l.toList := by
  unfold Region.ready readyT
  rw [rtab_length]
  refine List.filter_congr (fun i _ => ?_)
  rw [readyAt_eq]
theorem free_eq : Region.free md ops l i = freeT (rtab md ops).2 l.toList i := by
  unfold Region.free freeT
  cases h : ops[i]? with
  | none => rw [rtab_none h]
  | some oi =>
    rw [rtab_some h]
    simp only [clashOf]
    rw [List.all_filter]
    congr 1
    funext j
    rw [gd]
    cases hj : ops[j]? with
    | none => cases (j == i) <;> cases (l.toList.getD j true) <;> simp
    | some oj =>
      cases (j == i) <;> cases (l.toList.getD j true) <;> cases (oj.after.any (fun e => Region.binds md e && e.on == i) || oi.apart ops oj) <;> simp_all
theorem closed_eq : Region.closedB md ops l = closedT (rtab md ops).2 l.toList := by
  unfold Region.closedB closedT
  rw [rtab_length]
  congr 1
  funext j
  rw [gd]
  cases h : ops[j]? with
  | none => rw [rtab_none h]
  | some o =>
    rw [rtab_some h]
    simp only
    rw [← needs_all]
    simp only [gd]
theorem reach_eq : ∀ (fuel d : Nat), Region.reachB md ops i fuel d = reachT (rtab md ops).2 i fuel d
  | 0, _ => rfl
  | fuel + 1, d => by
    unfold Region.reachB reachT
    cases h : ops[d]? with
    | none => rw [rtab_none h]
    | some o =>
      rw [rtab_some h]
      simp only
      rw [← needs_any]
      congr 1
      funext e
      rw [reach_eq fuel]
theorem last_eq : Region.lastB md ops l ds i = lastT (rtab md ops).2 l.toList ds i := by
  unfold Region.lastB lastT
  rw [rtab_length]
  congr 1
  funext d
  rw [gd, reach_eq]
theorem readyAt_mem (h : readyAt T.2 l.toList i = true) (hT : rtab md ops = T) : (Region.ready md ops l).contains i = true := by
  subst hT
  rw [ready_eq]
  unfold readyT
  rw [List.contains_iff_mem, List.mem_filter, List.mem_range]
  refine ⟨?_, h⟩
  unfold readyAt at h
  rw [Bool.and_eq_true] at h
  cases hq : (rtab md ops).2[i]? with
  | none => rw [hq] at h; simp at h
  | some r => exact (List.getElem?_eq_some_iff.1 hq).1
theorem set_of (h : (l.toList.set i true == l'.toList) = true) : (l.setIfInBounds i true == l') = true := by
  rw [beq_iff_eq] at h ⊢
  apply Array.ext'
  rw [Array.toList_setIfInBounds]
  exact h
def anyT (T : Bool × List (List Nat × List Nat)) (l l' : List Bool) (i : Nat) : Bool := T.1 && freeT T.2 l i && readyAt T.2 l i && (l.set i true == l')
/-- pure_'s condition out of the table. -/
theorem any_of (hT : rtab md ops = T) (h : anyT T l.toList l'.toList i = true) : anyB md ops l l' i = true := by
  simp only [anyT, Bool.and_eq_true] at h
  obtain ⟨⟨⟨h1, h2⟩, h3⟩, h4⟩ := h
  have h5 := readyAt_mem h3 hT
  have h6 := set_of h4
  subst hT
  simp only [anyB, Bool.and_eq_true]
  exact ⟨⟨⟨h1, by rw [free_eq]; exact h2⟩, h5⟩, h6⟩
def takeT (T : Bool × List (List Nat × List Nat)) (ds : List Nat) (l l' : List Bool) (i : Nat) : Bool := T.1 && freeT T.2 l i && readyAt T.2 l i && closedT T.2 l && lastT T.2 l ds i && (l.set i true == l')
/-- take_'s. -/
theorem take_of (hT : rtab md ops = T) (h : takeT T ds l.toList l'.toList i = true) : takeB md ops ds l l' i = true := by
  simp only [takeT, Bool.and_eq_true] at h
  obtain ⟨⟨⟨⟨⟨h1, h2⟩, h3⟩, h4⟩, h5⟩, h6⟩ := h
  have h7 := readyAt_mem h3 hT
  have h8 := set_of h6
  subst hT
  simp only [takeB, Bool.and_eq_true]
  exact ⟨⟨⟨⟨⟨h1, by rw [free_eq]; exact h2⟩, h7⟩, by rw [closed_eq]; exact h4⟩, by rw [last_eq]; exact h5⟩, h8⟩
/-- one_'s and last_'s. -/
theorem one_of (hT : rtab md ops = T) (h : (readyT T.2 l.toList == [i] && l.toList.set i true == l'.toList) = true) : readyB md ops l l' i = true := by
  simp only [Bool.and_eq_true] at h
  obtain ⟨h1, h2⟩ := h
  subst hT
  simp only [readyB, Bool.and_eq_true]
  exact ⟨by rw [ready_eq]; exact h1, set_of h2⟩
/-- done_'s. -/
theorem done_of (hT : rtab md ops = T) (h : (readyT T.2 l.toList == []) = true) : (Region.ready md ops l == []) = true := by
  subst hT
  rw [ready_eq]
  exact h
/-- What d waits for, as_ bits: told in the table (B), checked in one pass: each bit is a need of d, or a bit of an earlier need's. -/
def upM (B : List Nat) (d : Nat) : List Nat → Nat
  | [] => 0
  | n :: r => (2 ^ n ||| (if n < d then B.getD n 0 else 0)) ||| upM B d r
def waitsOk (T : List (List Nat × List Nat)) (B : List Nat) : Bool := (List.range T.length).all fun d => match T[d]? with
  | some r => (B.getD d 0 ||| upM B d r.1) == upM B d r.1
  | none => false
theorem upM_bit {B : List Nat} {d i : Nat} : ∀ {ns : List Nat}, (upM B d ns).testBit i = true → ∃ n ∈ ns, n = i ∨ (n < d ∧ (B.getD n 0).testBit i = true)
  | [], h => by simp [upM] at h
  | n :: r, h => by
    unfold upM at h
    rw [Nat.testBit_or, Nat.testBit_or, Bool.or_eq_true, Bool.or_eq_true] at h
    rcases h with (h | h) | h
    · rw [Nat.testBit_two_pow] at h
      exact ⟨n, List.mem_cons_self, .inl (by simpa using h)⟩
    · by_cases hn : n < d
      · rw [if_pos hn] at h
        exact ⟨n, List.mem_cons_self, .inr ⟨hn, h⟩⟩
      · rw [if_neg hn] at h
        simp at h
    · obtain ⟨m, hm, h2⟩ := upM_bit h
      exact ⟨m, List.mem_cons_of_mem _ hm, h2⟩
theorem reach_bit {T : List (List Nat × List Nat)} {B : List Nat} (hB : waitsOk T B = true) : ∀ (fuel d : Nat), d < fuel → d < T.length → (B.getD d 0).testBit i = true → reachT T i fuel d = true
  | 0, d, h, _, _ => by omega
  | fuel + 1, d, h, hd, hb => by
    have h1 := List.all_eq_true.1 hB d (List.mem_range.2 hd)
    cases hr : T[d]? with
    | none => rw [hr] at h1; simp at h1
    | some r =>
      rw [hr] at h1
      simp only [beq_iff_eq] at h1
      have h2 : (upM B d r.1).testBit i = true := by rw [← h1, Nat.testBit_or, hb, Bool.true_or]
      obtain ⟨n, hn, h3⟩ := upM_bit h2
      unfold reachT
      rw [hr]
      simp only
      rw [List.any_eq_true]
      refine ⟨n, hn, ?_⟩
      rcases h3 with rfl | ⟨h4, h5⟩
      · simp
      · rw [reach_bit hB fuel n (by omega) (by omega) h5, Bool.or_true]
def lastW (T : List (List Nat × List Nat)) (B : List Nat) (l : List Bool) (ds : List Nat) (i : Nat) : Bool := ds.all fun d => l.getD d true || (decide (d < T.length) && (B.getD d 0).testBit i)
def takeW (T : Bool × List (List Nat × List Nat)) (B : List Nat) (ds : List Nat) (l l' : List Bool) (i : Nat) : Bool := T.1 && freeT T.2 l i && readyAt T.2 l i && closedT T.2 l && lastW T.2 B l ds i && (l.set i true == l')
/-- take_'s, by the bits. -/
theorem take_ofW {B : List Nat} (hT : rtab md ops = T) (hB : waitsOk T.2 B = true) (h : takeW T B ds l.toList l'.toList i = true) : takeB md ops ds l l' i = true := by
  refine take_of hT ?_
  simp only [takeW, takeT, Bool.and_eq_true] at h ⊢
  obtain ⟨⟨⟨⟨⟨h1, h2⟩, h3⟩, h4⟩, h5⟩, h6⟩ := h
  refine ⟨⟨⟨⟨⟨h1, h2⟩, h3⟩, h4⟩, ?_⟩, h6⟩
  unfold lastW at h5
  unfold lastT
  rw [List.all_eq_true] at h5 ⊢
  intro d hd
  have h7 := h5 d hd
  rw [Bool.or_eq_true, Bool.and_eq_true, decide_eq_true_eq] at h7
  rcases h7 with h7 | ⟨h8, h9⟩
  · rw [h7, Bool.true_or]
  · rw [reach_bit hB _ d h8 h8 h9, Bool.or_true]
theorem with_tabW {P : Program} {Q : Exit → Act → World → Prop} {S : World → Prop} {n : Nat} {a : Act} {w : World} {B : List Nat} (hT : rtab md ops = T) (hB : waitsOk T.2 B = true) (h : Aside0 (rtab md ops = T) → Aside0 (waitsOk T.2 B = true) → wpAnyLast P md ops Q S ds n l a w) : wpAnyLast P md ops Q S ds n l a w := h ⟨hT⟩ ⟨hB⟩
end
/-- The operations of a region, by its number. -/
def opsIn : Code → Nat → Option (Array Oper)
  | .region id ops _, k => if id == k then some ops else none
  | .seq a b, k => match opsIn a k with
    | some o => some o
    | none => opsIn b k
  | .cond _ a b, k => match opsIn a k with
    | some o => some o
    | none => opsIn b k
  | .block _ c, k => opsIn c k
  | .loop c, k => opsIn c k
  | .scope c, k => opsIn c k
  | .rangeFunc _ _ a b, k => match opsIn a k with
    | some o => some o
    | none => opsIn b k
  | _, _ => none
def opsOf (f : Func) (k : Nat) : Array Oper := ((f.body.bind fun c => opsIn c k)).getD #[]
end Go.Proofs.YtebipmdopdogkaaGreatDoorW.PrintLast

namespace Go.Proofs.YtebipmdopdogkaaGreatDoorW.PrintLast
section
variable {P : Program} {ops : Array Oper} {Q : Exit → Act → World → Prop} {md : Region.Mode} {S : World → Prop} {ds : List Nat} {T : Bool × List (List Nat × List Nat)}
end
end Go.Proofs.YtebipmdopdogkaaGreatDoorW.PrintLast

namespace Go.Proofs.YtebipmdopdogkaaGreatDoorW.PrintWords
open Go.RowKit
namespace Kd
section
variable {α : Type} {d : Kd α} {W : World} {g n : Nat} {S ok : Nat → Prop} {A : Option Addr} {ad : Addr} {xs : List α}
end
end Kd
end Go.Proofs.YtebipmdopdogkaaGreatDoorW.PrintWords

namespace Go.Proofs.YtebipmdopdogkaaGreatDoorW.PrintWords
open Go.RowKit
section
variable {w w' u : World} {m B g : Nat} {o : Obj} {row : Option Nat} {S : Nat → Prop} {a : Addr} {v : Value}
end
namespace Kd
section
variable {α : Type} {d : Kd α} {e base n m : Nat} {ok : Nat → Prop} {w w' : World} {v : Value} {A : Option Addr} {xs : List α}
end
end Kd
end Go.Proofs.YtebipmdopdogkaaGreatDoorW.PrintWords

namespace Go.Proofs.YtebipmdopdogkaaGreatDoorW.PrintWords
open Go.RowKit
section
variable {P : Program} {d : Nat} {xs ys : Array Value} {f : Field} {fs : List Field} {a b : Value} {r s : Bool} {w : World}
end
end Go.Proofs.YtebipmdopdogkaaGreatDoorW.PrintWords

namespace Go.Proofs.YtebipmdopdogkaaGreatDoorW.PrintWords
/-- One cell an element. -/
theorem Reps.one {α : Type} {R : α → List Value → Prop} {ps : List α} {cs : List Value} {p : α} {v : Value} (hp : R p [v]) (h : Reps R 1 ps cs) : Reps R 1 (p :: ps) (v :: cs) := by
  refine ⟨by simp [h.1], fun j q hq => ?_⟩
  cases j with
  | zero =>
    simp only [List.getElem?_cons_zero, Option.some.injEq] at hq
    subst hq
    simpa using hp
  | succ j =>
    simp only [List.getElem?_cons_succ] at hq
    have h1 := h.2 j q hq
    simpa [Nat.mul_one] using h1
end Go.Proofs.YtebipmdopdogkaaGreatDoorW.PrintWords

namespace Go.Proofs.YtebipmdopdogkaaGreatDoorW.PrintLast
section
variable {P : Program} {ops : Array Oper} {Q : Exit → Act → World → Prop} {md : Region.Mode} {T : Bool × List (List Nat × List Nat)} {B : List Nat} {O : List Nat} {b : Nat → Bool} {i j n : Nat}
end
end Go.Proofs.YtebipmdopdogkaaGreatDoorW.PrintLast

namespace Go.Proofs.YtebipmdopdogkaaGreatDoorW.PrintWords
open Go.RowKit
end Go.Proofs.YtebipmdopdogkaaGreatDoorW.PrintWords
namespace Go.Proofs.YtebipmdopdogkaaGreatDoorW.PrintLast
section
variable {ops : Array Oper} {a : Act} {o og : Oper} {g : Nat} {t : Tmp} {u : Bool}
end
end Go.Proofs.YtebipmdopdogkaaGreatDoorW.PrintLast

namespace Go.Proofs.YtebipmdopdogkaaGreatDoorW.PrintWords
open Go.RowKit
section
variable {P : Program} {ops : Array Oper} {rest : List Oper} {o : Oper} {a : Act} {Q : Exit → Act → World → Prop} {W : World}
/-- The gate takes the guard off (hw: 'by rfl', 'by kernel_rfl': the guard's slot holds what is wanted). -/
theorem gate_guard (hw : Region.wanted o (yielded ops a.tmps) = true) (h : wpList P ops Q ({ o with guard := none } :: rest) a W) : wpList P ops Q (o :: rest) a W := by
  have h1 : Region.wanted { o with guard := none } (yielded ops a.tmps) = true := rfl
  unfold wpList at h ⊢
  rw [if_pos h1] at h
  rw [if_pos hw]
  exact h
end
end Go.Proofs.YtebipmdopdogkaaGreatDoorW.PrintWords

namespace Go.Proofs.YtebipmdopdogkaaGreatDoor.QA
open Go.Proofs.YtebipmdopdogkaaGreatDoor.T
open Go.RowKit Go.Proofs.YtebipmdopdogkaaGreatDoorW.PrintWords Go.Proofs.YtebipmdopdogkaaGreatDoorW.PrintLast Go.Proofs.YtebipmdopdogkaaGreatDoorW.PrintMore
attribute [local go_sem] ext_call max2_int min2_int max_two min_two
set_option linter.unusedVariables false
set_option linter.unusedSimpArgs false
def errW : Option Int → Value
 | none => .nilIface
 | some c => .iface 0 (.int .i64 c)
theorem errW_none : errW none = .nilIface := rfl
theorem errW_some (c : Int) : errW (some c) = .iface 0 (.int .i64 c) := rfl
theorem info2 : (Tryz.prog.info? 2).map (fun i => (i.zero, i.size, i.bytes)) = some (some (.int .i64 0), 1, 8) := by kernel_rfl
theorem info91 : (Tryz.prog.info? 91).map (fun i => (i.zero, i.size, i.bytes)) = some (some (.agg #[(.int .i64 0), (.slice none 0 0)]), 2, 32) := by kernel_rfl
structure S76 where
 f0 : Int
 f1 : (List Int)
def z76 : S76 := ⟨(0 : Int), ([] : List Int)⟩
def k76 : Kd S76 := Kd.iso (Kd.pair (Kd.int .i64) (Kd.slice 2 (Kd.int .i64))) (fun x : S76 => (x.f0, x.f1))
theorem k76_open {w : World} {x : S76} {cs : List Value} (h : k76.K w x cs) : ∃ A1 c1, cs = [.int .i64 x.f0, .slice A1 x.f1.length c1] ∧ x.f1.length ≤ c1 ∧ (Kd.int .i64).C w A1 x.f1.length x.f1 := by
 obtain ⟨_, _, rfl, rfl, ⟨A1, c1, rfl, l1, g1⟩⟩ := h
 exact ⟨A1, c1, rfl, l1, g1⟩
theorem k76_mkM (w : World) (base : Nat) (ok : Nat → Prop) (x : S76) {v1 : Value} (g1 : (Kd.int .i64).R 2 w base ok v1 x.f1) : k76.M w base ok x [.int .i64 x.f0, v1] := ⟨[.int .i64 x.f0], [v1], rfl, rfl, ⟨v1, rfl, g1⟩⟩
def rd_T76 (xs : List S76) (i : Int) : S76 := xs.getD i.toNat z76
theorem at_T76 {w : World} {A : Option Addr} {n : Nat} {xs : List S76} (h : Kd.C k76 w A n xs) (i : Int) (h0 : 0 ≤ i) (h1 : i < n) : ∃ ad A1 c1, A = some ad ∧ w.cell? (ad.add (i.toNat * 2)) = some (.int .i64 (rd_T76 xs i).f0) ∧ w.cell? ⟨(ad.add (i.toNat * 2)).block, (ad.add (i.toNat * 2)).off + 1, none⟩ = some (.slice A1 (rd_T76 xs i).f1.length c1) ∧ (rd_T76 xs i).f1.length ≤ c1 ∧ (Kd.int .i64).C w A1 (rd_T76 xs i).f1.length (rd_T76 xs i).f1 := by
 obtain ⟨ad, c, e, _, hK, hc0⟩ := Kd.C_get h z76 i h0 h1
 have hc : ∀ j u, c[j]? = some u → w.cell? (ad.add (i.toNat * 2 + j)) = some u := hc0
 obtain ⟨A1, c1, rfl, l1, g1⟩ := k76_open hK
 exact ⟨ad, A1, c1, e, hc 0 _ rfl, by rw [← add_field _ _ 1 (by omega)]; exact hc 1 _ rfl, l1, g1⟩
structure S27 where
 f0 : Int
 f1 : Int
 f2 : Int
 f3 : Int
 f4 : (List Int)
 f5 : (List Int)
 f6 : Int
 f7 : Int
 f8 : Int
def z27 : S27 := ⟨(0 : Int), (0 : Int), (0 : Int), (0 : Int), ([] : List Int), ([] : List Int), (0 : Int), (0 : Int), (0 : Int)⟩
def k27 : Kd S27 := Kd.iso (Kd.pair (Kd.int .i64) (Kd.pair (Kd.int .i64) (Kd.pair (Kd.int .i64) (Kd.pair (Kd.int .i64) (Kd.pair (Kd.slice 2 (Kd.int .i64)) (Kd.pair (Kd.slice 2 (Kd.int .i64)) (Kd.pair (Kd.int .i64) (Kd.pair (Kd.int .i64) (Kd.int .i64))))))))) (fun x : S27 => (x.f0, x.f1, x.f2, x.f3, x.f4, x.f5, x.f6, x.f7, x.f8))
theorem k27_open {w : World} {x : S27} {cs : List Value} (h : k27.K w x cs) : ∃ A4 c4 A5 c5, cs = [.int .i64 x.f0, .int .i64 x.f1, .int .i64 x.f2, .int .i64 x.f3, .slice A4 x.f4.length c4, .slice A5 x.f5.length c5, .int .i64 x.f6, .int .i64 x.f7, .int .i64 x.f8] ∧ x.f4.length ≤ c4 ∧ (Kd.int .i64).C w A4 x.f4.length x.f4 ∧ x.f5.length ≤ c5 ∧ (Kd.int .i64).C w A5 x.f5.length x.f5 := by
 obtain ⟨_, _, rfl, rfl, ⟨_, _, rfl, rfl, ⟨_, _, rfl, rfl, ⟨_, _, rfl, rfl, ⟨_, _, rfl, ⟨A4, c4, rfl, l4, g4⟩, ⟨_, _, rfl, ⟨A5, c5, rfl, l5, g5⟩, ⟨_, _, rfl, rfl, ⟨_, _, rfl, rfl, rfl⟩⟩⟩⟩⟩⟩⟩⟩ := h
 exact ⟨A4, c4, A5, c5, rfl, l4, g4, l5, g5⟩
theorem k27_mk (w : World) (x : S27) {A4 : Option Addr} {c4 : Nat} (l4 : x.f4.length ≤ c4) (g4 : (Kd.int .i64).C w A4 x.f4.length x.f4) {A5 : Option Addr} {c5 : Nat} (l5 : x.f5.length ≤ c5) (g5 : (Kd.int .i64).C w A5 x.f5.length x.f5) : k27.K w x [.int .i64 x.f0, .int .i64 x.f1, .int .i64 x.f2, .int .i64 x.f3, .slice A4 x.f4.length c4, .slice A5 x.f5.length c5, .int .i64 x.f6, .int .i64 x.f7, .int .i64 x.f8] := ⟨[.int .i64 x.f0], [.int .i64 x.f1, .int .i64 x.f2, .int .i64 x.f3, .slice A4 x.f4.length c4, .slice A5 x.f5.length c5, .int .i64 x.f6, .int .i64 x.f7, .int .i64 x.f8], rfl, rfl, ⟨[.int .i64 x.f1], [.int .i64 x.f2, .int .i64 x.f3, .slice A4 x.f4.length c4, .slice A5 x.f5.length c5, .int .i64 x.f6, .int .i64 x.f7, .int .i64 x.f8], rfl, rfl, ⟨[.int .i64 x.f2], [.int .i64 x.f3, .slice A4 x.f4.length c4, .slice A5 x.f5.length c5, .int .i64 x.f6, .int .i64 x.f7, .int .i64 x.f8], rfl, rfl, ⟨[.int .i64 x.f3], [.slice A4 x.f4.length c4, .slice A5 x.f5.length c5, .int .i64 x.f6, .int .i64 x.f7, .int .i64 x.f8], rfl, rfl, ⟨[.slice A4 x.f4.length c4], [.slice A5 x.f5.length c5, .int .i64 x.f6, .int .i64 x.f7, .int .i64 x.f8], rfl, ⟨A4, c4, rfl, l4, g4⟩, ⟨[.slice A5 x.f5.length c5], [.int .i64 x.f6, .int .i64 x.f7, .int .i64 x.f8], rfl, ⟨A5, c5, rfl, l5, g5⟩, ⟨[.int .i64 x.f6], [.int .i64 x.f7, .int .i64 x.f8], rfl, rfl, ⟨[.int .i64 x.f7], [.int .i64 x.f8], rfl, rfl, rfl⟩⟩⟩⟩⟩⟩⟩⟩
def rd_T27 (xs : List S27) (i : Int) : S27 := xs.getD i.toNat z27
theorem at_T27 {w : World} {A : Option Addr} {n : Nat} {xs : List S27} (h : Kd.C k27 w A n xs) (i : Int) (h0 : 0 ≤ i) (h1 : i < n) : ∃ ad A4 c4 A5 c5, A = some ad ∧ w.cell? (ad.add (i.toNat * 9)) = some (.int .i64 (rd_T27 xs i).f0) ∧ w.cell? ⟨(ad.add (i.toNat * 9)).block, (ad.add (i.toNat * 9)).off + 1, none⟩ = some (.int .i64 (rd_T27 xs i).f1) ∧ w.cell? ⟨(ad.add (i.toNat * 9)).block, (ad.add (i.toNat * 9)).off + 2, none⟩ = some (.int .i64 (rd_T27 xs i).f2) ∧ w.cell? ⟨(ad.add (i.toNat * 9)).block, (ad.add (i.toNat * 9)).off + 3, none⟩ = some (.int .i64 (rd_T27 xs i).f3) ∧ w.cell? ⟨(ad.add (i.toNat * 9)).block, (ad.add (i.toNat * 9)).off + 4, none⟩ = some (.slice A4 (rd_T27 xs i).f4.length c4) ∧ w.cell? ⟨(ad.add (i.toNat * 9)).block, (ad.add (i.toNat * 9)).off + 5, none⟩ = some (.slice A5 (rd_T27 xs i).f5.length c5) ∧ w.cell? ⟨(ad.add (i.toNat * 9)).block, (ad.add (i.toNat * 9)).off + 6, none⟩ = some (.int .i64 (rd_T27 xs i).f6) ∧ w.cell? ⟨(ad.add (i.toNat * 9)).block, (ad.add (i.toNat * 9)).off + 7, none⟩ = some (.int .i64 (rd_T27 xs i).f7) ∧ w.cell? ⟨(ad.add (i.toNat * 9)).block, (ad.add (i.toNat * 9)).off + 8, none⟩ = some (.int .i64 (rd_T27 xs i).f8) ∧ (rd_T27 xs i).f4.length ≤ c4 ∧ (Kd.int .i64).C w A4 (rd_T27 xs i).f4.length (rd_T27 xs i).f4 ∧ (rd_T27 xs i).f5.length ≤ c5 ∧ (Kd.int .i64).C w A5 (rd_T27 xs i).f5.length (rd_T27 xs i).f5 := by
 obtain ⟨ad, c, e, _, hK, hc0⟩ := Kd.C_get h z27 i h0 h1
 have hc : ∀ j u, c[j]? = some u → w.cell? (ad.add (i.toNat * 9 + j)) = some u := hc0
 obtain ⟨A4, c4, A5, c5, rfl, l4, g4, l5, g5⟩ := k27_open hK
 exact ⟨ad, A4, c4, A5, c5, e, hc 0 _ rfl, by rw [← add_field _ _ 1 (by omega)]; exact hc 1 _ rfl, by rw [← add_field _ _ 2 (by omega)]; exact hc 2 _ rfl, by rw [← add_field _ _ 3 (by omega)]; exact hc 3 _ rfl, by rw [← add_field _ _ 4 (by omega)]; exact hc 4 _ rfl, by rw [← add_field _ _ 5 (by omega)]; exact hc 5 _ rfl, by rw [← add_field _ _ 6 (by omega)]; exact hc 6 _ rfl, by rw [← add_field _ _ 7 (by omega)]; exact hc 7 _ rfl, by rw [← add_field _ _ 8 (by omega)]; exact hc 8 _ rfl, l4, g4, l5, g5⟩
structure S91 where
 f0 : Int
 f1 : (List Int)
def z91 : S91 := ⟨(0 : Int), ([] : List Int)⟩
def k91 : Kd S91 := Kd.iso (Kd.pair (Kd.int .i64) (Kd.slice 2 (Kd.int .i64))) (fun x : S91 => (x.f0, x.f1))
theorem k91_open {w : World} {x : S91} {cs : List Value} (h : k91.K w x cs) : ∃ A1 c1, cs = [.int .i64 x.f0, .slice A1 x.f1.length c1] ∧ x.f1.length ≤ c1 ∧ (Kd.int .i64).C w A1 x.f1.length x.f1 := by
 obtain ⟨_, _, rfl, rfl, ⟨A1, c1, rfl, l1, g1⟩⟩ := h
 exact ⟨A1, c1, rfl, l1, g1⟩
theorem k91_mkM (w : World) (base : Nat) (ok : Nat → Prop) (x : S91) {v1 : Value} (g1 : (Kd.int .i64).R 2 w base ok v1 x.f1) : k91.M w base ok x [.int .i64 x.f0, v1] := ⟨[.int .i64 x.f0], [v1], rfl, rfl, ⟨v1, rfl, g1⟩⟩
def rd_T91 (xs : List S91) (i : Int) : S91 := xs.getD i.toNat z91
theorem at_T91 {w : World} {A : Option Addr} {n : Nat} {xs : List S91} (h : Kd.C k91 w A n xs) (i : Int) (h0 : 0 ≤ i) (h1 : i < n) : ∃ ad A1 c1, A = some ad ∧ w.cell? (ad.add (i.toNat * 2)) = some (.int .i64 (rd_T91 xs i).f0) ∧ w.cell? ⟨(ad.add (i.toNat * 2)).block, (ad.add (i.toNat * 2)).off + 1, none⟩ = some (.slice A1 (rd_T91 xs i).f1.length c1) ∧ (rd_T91 xs i).f1.length ≤ c1 ∧ (Kd.int .i64).C w A1 (rd_T91 xs i).f1.length (rd_T91 xs i).f1 := by
 obtain ⟨ad, c, e, _, hK, hc0⟩ := Kd.C_get h z91 i h0 h1
 have hc : ∀ j u, c[j]? = some u → w.cell? (ad.add (i.toNat * 2 + j)) = some u := hc0
 obtain ⟨A1, c1, rfl, l1, g1⟩ := k91_open hK
 exact ⟨ad, A1, c1, e, hc 0 _ rfl, by rw [← add_field _ _ 1 (by omega)]; exact hc 1 _ rfl, l1, g1⟩
end Go.Proofs.YtebipmdopdogkaaGreatDoor.QA

namespace Go.Proofs.YtebipmdopdogkaaGreatDoor.QA
open Go.Proofs.YtebipmdopdogkaaGreatDoor.T
open Go.RowKit Go.Proofs.YtebipmdopdogkaaGreatDoorW.PrintWords Go.Proofs.YtebipmdopdogkaaGreatDoorW.PrintLast Go.Proofs.YtebipmdopdogkaaGreatDoorW.PrintMore
attribute [local go_sem] ext_call max2_int min2_int max_two min_two
set_option linter.unusedVariables false
set_option linter.unusedSimpArgs false
def op_side.f (a0 : Int) : Option (Bool) := if a0 ≥ 1 then (some (decide (a0 ≤ 65536))) else (some false)
set_option maxHeartbeats 8000000 in
set_option maxRecDepth 100000 in
theorem op_side.calls (a0 : Int) (r : Bool) (w : World) (h : op_side.f a0 = some r) :
  Calls Tryz.prog 20 #[.int .i64 a0] w fun e w' => e = .returned (.bool r) ∧ Drawn0 w w' := by
 have H := h
 clear h
 unfold op_side.f at H
 by_cases c2 : a0 ≥ 1
 ·rw [if_pos c2] at H
  have c2b0 := decide_eq_true c2
  clear c2
  obtain rfl := Option.some.inj H
  go_enter Tryz.func20, Tryz.ntmps20
  go_wp2
  go_ret
  exact ⟨zT, zW⟩
 ·rw [if_neg c2] at H
  have c2b0 := decide_eq_false c2
  clear c2
  obtain rfl := Option.some.inj H
  go_enter Tryz.func20, Tryz.ntmps20
  go_wp2
  go_ret
  exact ⟨zT, zW⟩
def border_Name_at0.f : Option (ByteArray) := some (⟨#[99, 108, 97, 109, 112]⟩ : ByteArray)
set_option maxHeartbeats 8000000 in
set_option maxRecDepth 100000 in
theorem border_Name_at0.calls (r : ByteArray) (w : World) (hG : GL w) (h : border_Name_at0.f = some r) :
  Calls Tryz.prog 37 #[.int .i64 0] w fun e w' => e = .returned (.string r) ∧ Drawn0 w w' := by
 have H : (some (⟨#[99, 108, 97, 109, 112]⟩ : ByteArray)) = some r := h
 clear h
 obtain ⟨⟨h0_0, h0_1, h0_2, h0_3, h0_4, h0_5⟩, ⟨ga1_, gc1_, gl1_, gs1_, h1_0, h1_1, h1_2⟩⟩ := hG
 obtain rfl := Option.some.inj H
 go_enter Tryz.func37, Tryz.ntmps37
 go_wp2
 go_ret
 exact ⟨zT, zW⟩
def border_Name_at1.f : Option (ByteArray) := some (⟨#[109, 105, 114, 114, 111, 114]⟩ : ByteArray)
set_option maxHeartbeats 8000000 in
set_option maxRecDepth 100000 in
theorem border_Name_at1.calls (r : ByteArray) (w : World) (hG : GL w) (h : border_Name_at1.f = some r) :
  Calls Tryz.prog 37 #[.int .i64 1] w fun e w' => e = .returned (.string r) ∧ Drawn0 w w' := by
 have H : (some (⟨#[109, 105, 114, 114, 111, 114]⟩ : ByteArray)) = some r := h
 clear h
 obtain ⟨⟨h0_0, h0_1, h0_2, h0_3, h0_4, h0_5⟩, ⟨ga1_, gc1_, gl1_, gs1_, h1_0, h1_1, h1_2⟩⟩ := hG
 obtain rfl := Option.some.inj H
 go_enter Tryz.func37, Tryz.ntmps37
 go_wp2
 go_ret
 exact ⟨zT, zW⟩
def border_Name_at2.f : Option (ByteArray) := some (⟨#[119, 114, 97, 112]⟩ : ByteArray)
set_option maxHeartbeats 8000000 in
set_option maxRecDepth 100000 in
theorem border_Name_at2.calls (r : ByteArray) (w : World) (hG : GL w) (h : border_Name_at2.f = some r) :
  Calls Tryz.prog 37 #[.int .i64 2] w fun e w' => e = .returned (.string r) ∧ Drawn0 w w' := by
 have H : (some (⟨#[119, 114, 97, 112]⟩ : ByteArray)) = some r := h
 clear h
 obtain ⟨⟨h0_0, h0_1, h0_2, h0_3, h0_4, h0_5⟩, ⟨ga1_, gc1_, gl1_, gs1_, h1_0, h1_1, h1_2⟩⟩ := hG
 obtain rfl := Option.some.inj H
 go_enter Tryz.func37, Tryz.ntmps37
 go_wp2
 go_ret
 exact ⟨zT, zW⟩
def border_Name_gen.f (a0 : Int) : Option (ByteArray) := if a0 < 0 then (some (⟨#[]⟩ : ByteArray)) else (if a0 ≥ 3 then (some (⟨#[]⟩ : ByteArray)) else (none))
set_option maxHeartbeats 8000000 in
set_option maxRecDepth 100000 in
theorem border_Name_gen.calls (a0 : Int) (r : ByteArray) (w : World) (hG : GL w) (h : border_Name_gen.f a0 = some r) :
  Calls Tryz.prog 37 #[.int .i64 a0] w fun e w' => e = .returned (.string r) ∧ Drawn0 w w' := by
 have H := h
 clear h
 unfold border_Name_gen.f at H
 obtain ⟨⟨h0_0, h0_1, h0_2, h0_3, h0_4, h0_5⟩, ⟨ga1_, gc1_, gl1_, gs1_, h1_0, h1_1, h1_2⟩⟩ := hG
 by_cases c2 : a0 < 0
 ·rw [if_pos c2] at H
  have c2b0 := decide_eq_true c2
  clear c2
  obtain rfl := Option.some.inj H
  go_enter Tryz.func37, Tryz.ntmps37
  go_wp2
  go_ret
  exact ⟨zT, zW⟩
 ·rw [if_neg c2] at H
  have c2b0 := decide_eq_false c2
  clear c2
  by_cases c3 : a0 ≥ 3
  ·rw [if_pos c3] at H
   have c3b0 := decide_eq_true c3
   clear c3
   obtain rfl := Option.some.inj H
   go_enter Tryz.func37, Tryz.ntmps37
   go_wp2
   go_ret
   exact ⟨zT, zW⟩
  ·rw [if_neg c3] at H
   exact absurd H (by simp)
def border_Name.f (a0 : Int) : Option (ByteArray) := if a0 = 0 then border_Name_at0.f else if a0 = 1 then border_Name_at1.f else if a0 = 2 then border_Name_at2.f else border_Name_gen.f a0
theorem border_Name.calls (a0 : Int) (r : ByteArray) (w : World) (hG : GL w) (h : border_Name.f a0 = some r) :
  Calls Tryz.prog 37 #[.int .i64 a0] w fun e w' => e = .returned (.string r) ∧ Drawn0 w w' := by
 unfold border_Name.f at h
 by_cases c0 : a0 = 0
 ·subst c0; exact border_Name_at0.calls r w hG (by rw [if_pos rfl] at h; exact h)
 ·rw [if_neg c0] at h
  by_cases c1 : a0 = 1
  ·subst c1; exact border_Name_at1.calls r w hG (by rw [if_pos rfl] at h; exact h)
  ·rw [if_neg c1] at h
   by_cases c2 : a0 = 2
   ·subst c2; exact border_Name_at2.calls r w hG (by rw [if_pos rfl] at h; exact h)
   ·rw [if_neg c2] at h
    exact border_Name_gen.calls a0 r w hG h
def raw_Name_at0.f : Option (ByteArray) := some (⟨#[98, 111, 120]⟩ : ByteArray)
set_option maxHeartbeats 8000000 in
set_option maxRecDepth 100000 in
theorem raw_Name_at0.calls (r : ByteArray) (w : World) (hG : GL w) (h : raw_Name_at0.f = some r) :
  Calls Tryz.prog 38 #[.int .i64 0] w fun e w' => e = .returned (.string r) ∧ Drawn0 w w' := by
 have H : (some (⟨#[98, 111, 120]⟩ : ByteArray)) = some r := h
 clear h
 obtain ⟨⟨h0_0, h0_1, h0_2, h0_3, h0_4, h0_5⟩, ⟨ga1_, gc1_, gl1_, gs1_, h1_0, h1_1, h1_2⟩⟩ := hG
 obtain rfl := Option.some.inj H
 go_enter Tryz.func38, Tryz.ntmps38
 go_wp2
 go_ret
 exact ⟨zT, zW⟩
def raw_Name_at1.f : Option (ByteArray) := some (⟨#[99, 117, 98, 105, 99]⟩ : ByteArray)
set_option maxHeartbeats 8000000 in
set_option maxRecDepth 100000 in
theorem raw_Name_at1.calls (r : ByteArray) (w : World) (hG : GL w) (h : raw_Name_at1.f = some r) :
  Calls Tryz.prog 38 #[.int .i64 1] w fun e w' => e = .returned (.string r) ∧ Drawn0 w w' := by
 have H : (some (⟨#[99, 117, 98, 105, 99]⟩ : ByteArray)) = some r := h
 clear h
 obtain ⟨⟨h0_0, h0_1, h0_2, h0_3, h0_4, h0_5⟩, ⟨ga1_, gc1_, gl1_, gs1_, h1_0, h1_1, h1_2⟩⟩ := hG
 obtain rfl := Option.some.inj H
 go_enter Tryz.func38, Tryz.ntmps38
 go_wp2
 go_ret
 exact ⟨zT, zW⟩
def raw_Name_at2.f : Option (ByteArray) := some (⟨#[108, 97, 110, 99, 122, 111, 115]⟩ : ByteArray)
set_option maxHeartbeats 8000000 in
set_option maxRecDepth 100000 in
theorem raw_Name_at2.calls (r : ByteArray) (w : World) (hG : GL w) (h : raw_Name_at2.f = some r) :
  Calls Tryz.prog 38 #[.int .i64 2] w fun e w' => e = .returned (.string r) ∧ Drawn0 w w' := by
 have H : (some (⟨#[108, 97, 110, 99, 122, 111, 115]⟩ : ByteArray)) = some r := h
 clear h
 obtain ⟨⟨h0_0, h0_1, h0_2, h0_3, h0_4, h0_5⟩, ⟨ga1_, gc1_, gl1_, gs1_, h1_0, h1_1, h1_2⟩⟩ := hG
 obtain rfl := Option.some.inj H
 go_enter Tryz.func38, Tryz.ntmps38
 go_wp2
 go_ret
 exact ⟨zT, zW⟩
def raw_Name_gen.f (a0 : Int) : Option (ByteArray) := if a0 < 0 then (some (⟨#[]⟩ : ByteArray)) else (if a0 ≥ 3 then (some (⟨#[]⟩ : ByteArray)) else (none))
set_option maxHeartbeats 8000000 in
set_option maxRecDepth 100000 in
theorem raw_Name_gen.calls (a0 : Int) (r : ByteArray) (w : World) (hG : GL w) (h : raw_Name_gen.f a0 = some r) :
  Calls Tryz.prog 38 #[.int .i64 a0] w fun e w' => e = .returned (.string r) ∧ Drawn0 w w' := by
 have H := h
 clear h
 unfold raw_Name_gen.f at H
 obtain ⟨⟨h0_0, h0_1, h0_2, h0_3, h0_4, h0_5⟩, ⟨ga1_, gc1_, gl1_, gs1_, h1_0, h1_1, h1_2⟩⟩ := hG
 by_cases c2 : a0 < 0
 ·rw [if_pos c2] at H
  have c2b0 := decide_eq_true c2
  clear c2
  obtain rfl := Option.some.inj H
  go_enter Tryz.func38, Tryz.ntmps38
  go_wp2
  go_ret
  exact ⟨zT, zW⟩
 ·rw [if_neg c2] at H
  have c2b0 := decide_eq_false c2
  clear c2
  by_cases c3 : a0 ≥ 3
  ·rw [if_pos c3] at H
   have c3b0 := decide_eq_true c3
   clear c3
   obtain rfl := Option.some.inj H
   go_enter Tryz.func38, Tryz.ntmps38
   go_wp2
   go_ret
   exact ⟨zT, zW⟩
  ·rw [if_neg c3] at H
   exact absurd H (by simp)
def raw_Name.f (a0 : Int) : Option (ByteArray) := if a0 = 0 then raw_Name_at0.f else if a0 = 1 then raw_Name_at1.f else if a0 = 2 then raw_Name_at2.f else raw_Name_gen.f a0
theorem raw_Name.calls (a0 : Int) (r : ByteArray) (w : World) (hG : GL w) (h : raw_Name.f a0 = some r) :
  Calls Tryz.prog 38 #[.int .i64 a0] w fun e w' => e = .returned (.string r) ∧ Drawn0 w w' := by
 unfold raw_Name.f at h
 by_cases c0 : a0 = 0
 ·subst c0; exact raw_Name_at0.calls r w hG (by rw [if_pos rfl] at h; exact h)
 ·rw [if_neg c0] at h
  by_cases c1 : a0 = 1
  ·subst c1; exact raw_Name_at1.calls r w hG (by rw [if_pos rfl] at h; exact h)
  ·rw [if_neg c1] at h
   by_cases c2 : a0 = 2
   ·subst c2; exact raw_Name_at2.calls r w hG (by rw [if_pos rfl] at h; exact h)
   ·rw [if_neg c2] at h
    exact raw_Name_gen.calls a0 r w hG h
end Go.Proofs.YtebipmdopdogkaaGreatDoor.QA

namespace Go.Proofs.YtebipmdopdogkaaGreatDoor.QA
open Go.Proofs.YtebipmdopdogkaaGreatDoor.T
open Go.RowKit Go.Proofs.YtebipmdopdogkaaGreatDoorW.PrintWords Go.Proofs.YtebipmdopdogkaaGreatDoorW.PrintLast Go.Proofs.YtebipmdopdogkaaGreatDoorW.PrintMore
attribute [local go_sem] ext_call max2_int min2_int max_two min_two
set_option linter.unusedVariables false
set_option linter.unusedSimpArgs false
def op_may.j0 : Nat → Bool → Int → Int → Int → Int → List Int → List Int → Int → Int → Int → Option (Bool)
 | 0, _, _, _, _, _, _, _, _, _, _ => none
 | k + 1, x16, x102000, x102001, x102002, x102003, x102004, x102005, x102006, x102007, x102008 => if x16 = true then (some false) else (if x102000 = 3 then ((op_side.f x102007).bind fun t103 => (if t103 = true then ((op_side.f x102008).bind fun t104 => (if t104 = true then ((raw_Name.f x102006).bind fun t105 => (some (t105.toList != ([] : List UInt8)))) else (some false))) else (some false))) else (some true))
def op_may.f (k : Nat) (a0_0 a0_1 a0_2 a0_3 : Int) (l0_4 l0_5 : List Int) (a0_6 a0_7 a0_8 : Int) : Option (Bool) := if a0_0 < 0 then (op_may.j0 k true a0_0 a0_1 a0_2 a0_3 l0_4 l0_5 a0_6 a0_7 a0_8) else (if a0_0 ≥ 4 then (op_may.j0 k true a0_0 a0_1 a0_2 a0_3 l0_4 l0_5 a0_6 a0_7 a0_8) else ((border_Name.f a0_1).bind fun t102 => (op_may.j0 k (t102.toList == ([] : List UInt8)) a0_0 a0_1 a0_2 a0_3 l0_4 l0_5 a0_6 a0_7 a0_8)))
set_option maxHeartbeats 8000000 in
set_option maxRecDepth 100000 in
theorem op_may.calls (k : Nat) (a0_0 a0_1 a0_2 a0_3 : Int) (A0_4 : Option Addr) (c0_4 : Nat) (l0_4 : List Int) (A0_5 : Option Addr) (c0_5 : Nat) (l0_5 : List Int) (a0_6 a0_7 a0_8 : Int) (r : Bool) (w : World) (hr0_4 : Kd.C (Kd.int .i64) w A0_4 l0_4.length l0_4) (hc0_4 : l0_4.length ≤ c0_4) (hr0_5 : Kd.C (Kd.int .i64) w A0_5 l0_5.length l0_5) (hc0_5 : l0_5.length ≤ c0_5) (hG : GL w) (h : op_may.f k a0_0 a0_1 a0_2 a0_3 l0_4 l0_5 a0_6 a0_7 a0_8 = some r) :
  Calls Tryz.prog 19 #[.agg #[.int .i64 a0_0, .int .i64 a0_1, .int .i64 a0_2, .int .i64 a0_3, .slice A0_4 l0_4.length c0_4, .slice A0_5 l0_5.length c0_5, .int .i64 a0_6, .int .i64 a0_7, .int .i64 a0_8]] w fun e w' => e = .returned (.bool r) ∧ Below w.heap.size w w' := by
 have hu27 := Tryz.underlying27
 have HR0_4 := Aside0.mk hr0_4
 have HC0_4 := Aside0.mk hc0_4
 clear hr0_4 hc0_4
 have HR0_5 := Aside0.mk hr0_5
 have HC0_5 := Aside0.mk hc0_5
 clear hr0_5 hc0_5
 have HB := Aside0.mk (Below.refl w.heap.size w)
 have H := h
 clear h
 unfold op_may.f at H
 have HC2 := Aside0.mk H
 clear H
 go_enter Tryz.func19, Tryz.ntmps19
 go_upto_region 1 with (first | ((with_reducible refine gate_dst (N := 1) rfl ?_); refine box_event zR (N := 1) zR (cs := #[.int .i64 a0_0, .int .i64 a0_1, .int .i64 a0_2, .int .i64 a0_3, .slice A0_4 l0_4.length c0_4, .slice A0_5 l0_5.length c0_5, .int .i64 a0_6, .int .i64 a0_7, .int .i64 a0_8]) (t := 27) zG ?_; intro gb101 hg w3 hbox hb; obtain ⟨HB, BK101, GW101, GE101⟩ := zA4 (below_step zB hb) hbox (zg hg zB) (zg hg zB); clear hb hbox hg))
 (try simp only [Act.put, List.setIfInBounds_toArray, List.set_cons_zero, List.set_cons_succ])
 go_cut [16] (fun v16 wc => ∃ (kq : Nat) (x16_1 : Bool), v16 = .bool x16_1 ∧ Aside0 (op_may.j0 kq x16_1 a0_0 a0_1 a0_2 a0_3 l0_4 l0_5 a0_6 a0_7 a0_8 = some r) ∧ Aside0 (kq ≤ k) ∧ Aside0 (wc.heap[gb101]? = some (.cells #[.int .i64 a0_0, .int .i64 a0_1, .int .i64 a0_2, .int .i64 a0_3, (.slice A0_4 l0_4.length c0_4), (.slice A0_5 l0_5.length c0_5), .int .i64 a0_6, .int .i64 a0_7, .int .i64 a0_8] 27 (0, 0))) ∧ Aside0 (Below w.heap.size w wc))
 case first =>
  have H := HC2.out
  clear HC2
  by_cases c4 : a0_0 < 0
  ·rw [if_pos c4] at H
   have c4b0 := decide_eq_true c4
   clear c4
   (first | rw [c4b0] | (simp only [i64_w, i32_w]; rw [c4b0]) | skip)
   have H' := Aside0.mk H
   clear H
   obtain ⟨_, _, _, _, _, _, _, _, _⟩ := zC9 BK101.out
   obtain ⟨_, _, _, _, _, _, _, _, _⟩ := zF9 BK101.out
   go_wp2
   go_meet
   case rel => exact ⟨_, (true), zT, H', ⟨by first | omega | exact Nat.le_refl _⟩, ⟨zK BK101⟩, ⟨zB⟩⟩
  ·rw [if_neg c4] at H
   have c4b0 := decide_eq_false c4
   clear c4
   (first | rw [c4b0] | (simp only [i64_w, i32_w]; rw [c4b0]) | skip)
   by_cases c6 : a0_0 ≥ 4
   ·rw [if_pos c6] at H
    have c6b0 := decide_eq_true c6
    clear c6
    have H' := Aside0.mk H
    clear H
    obtain ⟨_, _, _, _, _, _, _, _, _⟩ := zC9 BK101.out
    obtain ⟨_, _, _, _, _, _, _, _, _⟩ := zF9 BK101.out
    go_wp2
    go_meet
    case rel => exact ⟨_, (true), zT, H', ⟨by first | omega | exact Nat.le_refl _⟩, ⟨zK BK101⟩, ⟨zB⟩⟩
   ·rw [if_neg c6] at H
    have c6b0 := decide_eq_false c6
    clear c6
    replace H := zO H
    obtain ⟨t102, A8, H⟩ := H
    try dsimp only at H
    have H' := Aside0.mk H
    clear H
    obtain ⟨_, _, _, _, _, _, _, _, _⟩ := zC9 BK101.out
    obtain ⟨_, _, _, _, _, _, _, _, _⟩ := zF9 BK101.out
    go_wp2_with (first | (go_at_call 37; (with_reducible refine (border_Name.calls a0_1 t102 _ (by exact GL.below hG (by repeat (first | (with_reducible first | exact HB.out | apply below_alloc | apply pw_below_drewN | apply below_drew1 | refine below_set ?_ GE101.out) | exact HB.out | exact Below.refl _ _))) A8.out).mono ?_); rintro e w' ⟨rfl, ⟨nd, rfl⟩⟩))
    go_meet
    case rel => exact ⟨_, ((t102.toList == ([] : List UInt8))), zT, H', ⟨by first | omega | exact Nat.le_refl _⟩, ⟨zK BK101⟩, ⟨zB⟩⟩
 case rest =>
  clear HC2
  obtain ⟨kq, x16_1, rfl, HA, HJ1, BK101, HB⟩ := hcut
  cases kq with
  | zero => exact absurd HA.out (by simp [op_may.j0])
  | succ kj1 =>
   have H := HA.out
   clear HA
   simp only [op_may.j0] at H
   by_cases c10 : x16_1 = true
   ·subst c10
    rw [if_pos rfl] at H; try dsimp only at H
    obtain rfl := Option.some.inj H
    go_wp2
    go_ret
    exact ⟨by first | rfl | (simp [errW_none, errW_some] <;> rfl) | (simp [*, errW_none, errW_some] <;> rfl) | (simp; cases t105.toList <;> rfl), zB⟩
   ·replace c10 := Bool.eq_false_iff.mpr c10
    subst c10
    rw [if_neg (show ¬ (false = true) by decide)] at H; try dsimp only at H
    by_cases c11 : a0_0 = 3
    ·rw [if_pos c11] at H
     have c11b0 : (a0_0 == 3) = true := beq_iff_eq.mpr c11
     have c11b1 : (a0_0 != 3) = false := bne_eq_false_iff_eq.mpr c11
     clear c11
     replace H := zO H
     obtain ⟨t103, A12, H⟩ := H
     try dsimp only at H
     by_cases c13 : t103 = true
     ·subst c13
      rw [if_pos rfl] at H; try dsimp only at H
      replace H := zO H
      obtain ⟨t104, A14, H⟩ := H
      try dsimp only at H
      by_cases c15 : t104 = true
      ·subst c15
       rw [if_pos rfl] at H; try dsimp only at H
       replace H := zO H
       obtain ⟨t105, A16, H⟩ := H
       try dsimp only at H
       obtain rfl := Option.some.inj H
       obtain ⟨_, _, _, _, _, _, _, _, _⟩ := zC9 BK101.out
       obtain ⟨_, _, _, _, _, _, _, _, _⟩ := zF9 BK101.out
       go_wp2_with (first | (go_at_call 20; (with_reducible refine (op_side.calls a0_7 true _ A12.out).mono ?_); rintro e w' ⟨rfl, ⟨nd, rfl⟩⟩) | (go_at_call 20; (with_reducible refine (op_side.calls a0_8 true _ A14.out).mono ?_); rintro e w' ⟨rfl, ⟨nd, rfl⟩⟩) | (go_at_call 38; (with_reducible refine (raw_Name.calls a0_6 t105 _ (by exact GL.below hG (by repeat (first | (with_reducible first | exact HB.out | apply below_alloc | apply pw_below_drewN | apply below_drew1 | refine below_set ?_ GE101.out) | exact HB.out | exact Below.refl _ _))) A16.out).mono ?_); rintro e w' ⟨rfl, ⟨nd, rfl⟩⟩))
       go_ret
       exact ⟨by first | rfl | (simp [errW_none, errW_some] <;> rfl) | (simp [*, errW_none, errW_some] <;> rfl) | (simp; cases t105.toList <;> rfl), zB⟩
      ·replace c15 := Bool.eq_false_iff.mpr c15
       subst c15
       rw [if_neg (show ¬ (false = true) by decide)] at H; try dsimp only at H
       obtain rfl := Option.some.inj H
       obtain ⟨_, _, _, _, _, _, _, _, _⟩ := zC9 BK101.out
       obtain ⟨_, _, _, _, _, _, _, _, _⟩ := zF9 BK101.out
       go_wp2_with (first | (go_at_call 20; (with_reducible refine (op_side.calls a0_7 true _ A12.out).mono ?_); rintro e w' ⟨rfl, ⟨nd, rfl⟩⟩) | (go_at_call 20; (with_reducible refine (op_side.calls a0_8 false _ A14.out).mono ?_); rintro e w' ⟨rfl, ⟨nd, rfl⟩⟩))
       go_ret
       exact ⟨by first | rfl | (simp [errW_none, errW_some] <;> rfl) | (simp [*, errW_none, errW_some] <;> rfl) | (simp; cases t105.toList <;> rfl), zB⟩
     ·replace c13 := Bool.eq_false_iff.mpr c13
      subst c13
      rw [if_neg (show ¬ (false = true) by decide)] at H; try dsimp only at H
      obtain rfl := Option.some.inj H
      obtain ⟨_, _, _, _, _, _, _, _, _⟩ := zC9 BK101.out
      obtain ⟨_, _, _, _, _, _, _, _, _⟩ := zF9 BK101.out
      go_wp2_with (first | (go_at_call 20; (with_reducible refine (op_side.calls a0_7 false _ A12.out).mono ?_); rintro e w' ⟨rfl, ⟨nd, rfl⟩⟩))
      go_ret
      exact ⟨by first | rfl | (simp [errW_none, errW_some] <;> rfl) | (simp [*, errW_none, errW_some] <;> rfl) | (simp; cases t105.toList <;> rfl), zB⟩
    ·rw [if_neg c11] at H
     have c11b0 : (a0_0 == 3) = false := beq_eq_false_iff_ne.mpr c11
     have c11b1 : (a0_0 != 3) = true := bne_iff_ne.mpr c11
     obtain rfl := Option.some.inj H
     obtain ⟨_, _, _, _, _, _, _, _, _⟩ := zC9 BK101.out
     obtain ⟨_, _, _, _, _, _, _, _, _⟩ := zF9 BK101.out
     go_wp2
     go_ret
     exact ⟨by first | rfl | (simp [errW_none, errW_some] <;> rfl) | (simp [*, errW_none, errW_some] <;> rfl) | (simp; cases t105.toList <;> rfl), zB⟩
def fixed_size.f (a0 : Int) : Option (Int) := if a0 < 0 then (some (IntKind.u64.wrap (-(IntKind.u64.wrap (a0))))) else (some (IntKind.u64.wrap (a0)))
set_option maxHeartbeats 8000000 in
set_option maxRecDepth 100000 in
theorem fixed_size.calls (a0 r : Int) (w : World) (h : fixed_size.f a0 = some r) :
  Calls Tryz.prog 104 #[.int .i64 a0] w fun e w' => e = .returned (.int .u64 r) ∧ Drawn0 w w' := by
 have H := h
 clear h
 unfold fixed_size.f at H
 by_cases c2 : a0 < 0
 ·rw [if_pos c2] at H
  have c2b0 := decide_eq_true c2
  clear c2
  obtain rfl := Option.some.inj H
  go_enter Tryz.func104, Tryz.ntmps104
  go_wp2
  go_ret
  exact ⟨zT, zW⟩
 ·rw [if_neg c2] at H
  have c2b0 := decide_eq_false c2
  clear c2
  obtain rfl := Option.some.inj H
  go_enter Tryz.func104, Tryz.ntmps104
  go_wp2
  go_ret
  exact ⟨zT, zW⟩
end Go.Proofs.YtebipmdopdogkaaGreatDoor.QA

namespace Go.Proofs.YtebipmdopdogkaaGreatDoor.T
open Go.RowKit Go.Proofs.YtebipmdopdogkaaGreatDoorW.PrintWords Go.Proofs.YtebipmdopdogkaaGreatDoorW.PrintLast Go.Proofs.YtebipmdopdogkaaGreatDoorW.PrintMore
theorem u64w (n : Int) : IntKind.u64.wrap n = n % 18446744073709551616 := by simp [IntKind.wrap, IntKind.bits, IntKind.signed]
theorem i64w (n : Int) : IntKind.i64.wrap n = wrap64 n := by rw [IntKind.wrap_i64]; unfold wrap64; omega
theorem wf64 {x : Int} (h : (Lit.int .i64 x).wf = true) : -9223372036854775808 ≤ x ∧ x ≤ 9223372036854775807 := by
  simp [Lit.wf, IntKind.min, IntKind.max, IntKind.bits, IntKind.signed] at h; exact h
theorem w64_id {x : Int} (h0 : -9223372036854775808 ≤ x) (h1 : x ≤ 9223372036854775807) : wrap64 x = x := by unfold wrap64; omega
/-- Masks of low bits, of any sign. -/
theorem and_mask (k : IntKind) (x : Int) (i : Nat) (hi : i ≤ k.bits) (hw : k.wrap (x % 2 ^ i) = x % 2 ^ i) : bits .and k x (2 ^ i - 1) = x % 2 ^ i := by
  have hc : ((2 : Int) ^ i - 1) = ((2 ^ i - 1 : Nat) : Int) := by
    rw [Int.natCast_sub (Nat.two_pow_pos i)]; simp
  have h1 : (BitVec.ofInt k.bits (2 ^ i - 1)).toNat = 2 ^ i - 1 := by
    rw [hc, BitVec.ofInt_natCast, BitVec.toNat_ofNat, Nat.mod_eq_of_lt]
    exact Nat.lt_of_lt_of_le (Nat.sub_lt (Nat.two_pow_pos i) (by decide)) (Nat.pow_le_pow_right (by decide) hi)
  have h2 : (((BitVec.ofInt k.bits x).toNat : Nat) : Int) = x % 2 ^ k.bits := by
    rw [BitVec.toNat_ofInt, Int.toNat_of_nonneg (Int.emod_nonneg _ (by have := Nat.two_pow_pos k.bits; omega))]
    simp
  have h3 : ((((BitVec.ofInt k.bits x) &&& (BitVec.ofInt k.bits (2 ^ i - 1))).toNat : Nat) : Int) = x % 2 ^ i := by
    rw [BitVec.toNat_and, h1, Nat.and_two_pow_sub_one_eq_mod]
    rw [Int.natCast_emod, h2]
    simp only [Int.natCast_pow, Int.cast_ofNat_Int]
    exact Int.emod_emod_of_dvd x ⟨2 ^ (k.bits - i), by rw [← Int.pow_add]; congr 1; omega⟩
  simp only [bits]
  rw [h3, hw]
theorem u64and1 (x : Int) : bits .and .u64 x 1 = x % 2 := by
  have := and_mask .u64 x 1 (by decide) (by rw [u64w]; omega)
  simpa using this
theorem i64and1 (x : Int) : bits .and .i64 x 1 = x % 2 := by
  have := and_mask .i64 x 1 (by decide) (by rw [i64w]; unfold wrap64; omega)
  simpa using this
theorem u64and32 (x : Int) : bits .and .u64 x 4294967295 = x % 4294967296 := by
  have := and_mask .u64 x 32 (by decide) (by rw [u64w]; omega)
  simpa using this
/-- Held within 64 bits. -/
def hold (m : Int) : Int := if m < -9223372036854775808 then -9223372036854775808 else if m > 9223372036854775807 then 9223372036854775807 else m
theorem hold_ge (m : Int) : -9223372036854775808 ≤ hold m := by unfold hold; split <;> (try split) <;> omega
theorem hold_le (m : Int) : hold m ≤ 9223372036854775807 := by unfold hold; split <;> (try split) <;> omega
theorem hold_id {m : Int} (h0 : -9223372036854775808 ≤ m) (h1 : m ≤ 9223372036854775807) : hold m = m := by unfold hold; rw [if_neg (by omega), if_neg (by omega)]
/-- The quotient downwards, of any signs. -/
def flo (a b : Int) : Int := if 0 < b then a / b else (-a) / (-b)
/-- The nearest number to a quotient; of two the greater one. -/
def rdiv (a b : Int) : Int := if 0 < b then (2 * a + b) / (2 * b) else (2 * (-a) + (-b)) / (2 * (-b))
/-- Without sign. -/
def siz (x : Int) : Int := if x < 0 then -x else x
/-- Rounded, without sign: the half goes up (of a number that isn't below), or down (of one that is). -/
theorem near_up {p d : Int} (_hp : 0 ≤ p) (hd : 0 < d) : (2 * p + d) / (2 * d) = if p % d ≥ d - p % d then p / d + 1 else p / d := by
  have e := Int.mul_ediv_add_emod p d
  have r0 := Int.emod_nonneg p (Int.ne_of_gt hd)
  have r1 := Int.emod_lt_of_pos p hd
  have e2 : 2 * p + d = (2 * d) * (p / d) + (2 * (p % d) + d) := by rw [Int.mul_assoc]; omega
  rw [e2, Int.add_comm, Int.add_mul_ediv_left _ _ (by omega)]
  split
  · have : (2 * (p % d) + d) / (2 * d) = 1 := by
      rw [show 2 * (p % d) + d = (2 * (p % d) - d) + (2 * d) * 1 from by omega, Int.add_mul_ediv_left _ _ (by omega), Int.ediv_eq_zero_of_lt (by omega) (by omega)]; omega
    omega
  · have : (2 * (p % d) + d) / (2 * d) = 0 := Int.ediv_eq_zero_of_lt (by omega) (by omega)
    omega
theorem near_dn {p d : Int} (_hp : 0 ≤ p) (hd : 0 < d) : (2 * (-p) + d) / (2 * d) = if p % d > d - p % d then -(p / d + 1) else -(p / d) := by
  have e := Int.mul_ediv_add_emod p d
  have r0 := Int.emod_nonneg p (Int.ne_of_gt hd)
  have r1 := Int.emod_lt_of_pos p hd
  have e2 : 2 * (-p) + d = (2 * d) * (-(p / d)) + (d - 2 * (p % d)) := by rw [Int.mul_assoc, Int.mul_neg, Int.mul_neg]; omega
  rw [e2, Int.add_comm, Int.add_mul_ediv_left _ _ (by omega)]
  split
  · have : (d - 2 * (p % d)) / (2 * d) = -1 := by
      rw [show d - 2 * (p % d) = (3 * d - 2 * (p % d)) + (2 * d) * (-1) from by omega, Int.add_mul_ediv_left _ _ (by omega), Int.ediv_eq_zero_of_lt (by omega) (by omega)]; omega
    omega
  · have : (d - 2 * (p % d)) / (2 * d) = 0 := Int.ediv_eq_zero_of_lt (by omega) (by omega)
    omega
/-- A product's or a number's sign. -/
def sgn (below : Bool) (m : Int) : Int := if below = true then -m else m
theorem sgn_siz2 (a b : Int) : sgn ((decide (a < 0)) != (decide (b < 0))) (siz a * siz b) = a * b := by
  unfold sgn siz
  by_cases h : a < 0 <;> by_cases k : b < 0 <;> simp [h, k, Int.neg_mul, Int.mul_neg]
theorem sgn_siz (a : Int) : sgn (decide (a < 0)) (siz a) = a := by
  unfold sgn siz
  by_cases h : a < 0 <;> simp [h]
theorem sgn_xor (x : Bool) (d p : Int) (_hd : d ≠ 0) : rdiv (sgn (x != decide (d < 0)) p) (siz d) = rdiv (sgn x p) d := by
  unfold sgn siz rdiv
  by_cases k : d < 0
  · rw [if_pos k]
    rw [if_pos (show 0 < -d from by omega), if_neg (show ¬ 0 < d from by omega)]
    cases x <;> simp [k]
  · simp [k]
theorem flo_xor (x : Bool) (d p : Int) (_hd : d ≠ 0) : flo (sgn (x != decide (d < 0)) p) (siz d) = flo (sgn x p) d := by
  unfold sgn siz flo
  by_cases k : d < 0
  · rw [if_pos k]
    rw [if_pos (show 0 < -d from by omega), if_neg (show ¬ 0 < d from by omega)]
    cases x <;> simp [k]
  · simp [k]
theorem rdiv_sgn (below : Bool) {p d : Int} (hp : 0 ≤ p) (hd : 0 < d) :
    rdiv (sgn below p) d = sgn below (if below = true then (if p % d > d - p % d then p / d + 1 else p / d) else (if p % d ≥ d - p % d then p / d + 1 else p / d)) := by
  unfold rdiv sgn
  rw [if_pos hd]
  cases below
  · simp only [Bool.false_eq_true, if_false]; exact near_up hp hd
  · simp only [if_true]; rw [near_dn hp hd]; split <;> rfl
theorem neg_ediv {p d : Int} (hd : 0 < d) : (-p) / d = if p % d = 0 then -(p / d) else -(p / d + 1) := by
  have e := Int.mul_ediv_add_emod p d
  have r0 := Int.emod_nonneg p (Int.ne_of_gt hd)
  have r1 := Int.emod_lt_of_pos p hd
  rw [show -p = -(p % d) + d * (-(p / d)) from by rw [Int.mul_neg]; omega, Int.add_mul_ediv_left _ _ (by omega)]
  split
  · rename_i h; rw [h]; simp
  · have : (-(p % d)) / d = -1 := by
      rw [show -(p % d) = (d - p % d) + d * (-1) from by omega, Int.add_mul_ediv_left _ _ (by omega), Int.ediv_eq_zero_of_lt (by omega) (by omega)]; omega
    omega
theorem flo_sgn (below : Bool) {p d : Int} (hd : 0 < d) :
    flo (sgn below p) d = sgn below (if below = true ∧ p % d ≠ 0 then p / d + 1 else p / d) := by
  unfold flo sgn
  rw [if_pos hd]
  cases below
  · simp
  · simp only [if_true, true_and]; rw [neg_ediv hd]; by_cases h : p % d = 0 <;> simp [h]
/-- Within 64 bits; without sign. -/
abbrev I64 (x : Int) : Prop := -9223372036854775808 ≤ x ∧ x ≤ 9223372036854775807
abbrev U64 (x : Int) : Prop := 0 ≤ x ∧ x < 18446744073709551616
theorem siz_u {a : Int} (h : I64 a) : 0 ≤ siz a ∧ siz a ≤ 9223372036854775808 := by unfold siz; split <;> omega
theorem siz_zero {a : Int} : siz a = 0 ↔ a = 0 := by unfold siz; split <;> omega
theorem hold_i (m : Int) : I64 (hold m) := ⟨hold_ge m, hold_le m⟩
theorem tmod_pos (a : Int) {b : Int} (hb : 0 < b) : a.tmod b = if 0 ≤ a ∨ a % b = 0 then a % b else a % b - b := by
  have e := Int.tmod_eq_emod (a := a) (b := b)
  have hdv := Int.dvd_iff_emod_eq_zero (a := b) (b := a)
  rw [e]
  simp only [hdv]
  split
  · simp
  · rw [Int.natAbs_of_nonneg (by omega)]
/-- What is left. -/
def md (a b : Int) : Int := if b = 0 then 0 else if 0 < b then a % b else -((-a) % (-b))
/-- By bits, rounded. -/
def sh (x n : Int) : Int := if n ≤ 0 then x else rdiv x (2 ^ n.toNat)
theorem pow_pos (n : Nat) : (0 : Int) < 2 ^ n := Int.pow_pos (by decide)
theorem pow_succ2 (n : Nat) : (2 : Int) ^ (n + 1) = 2 * 2 ^ n := by rw [Int.pow_succ, Int.mul_comm]
theorem pow_le {m n : Nat} (h : m ≤ n) : (2 : Int) ^ m ≤ 2 ^ n := by
  obtain ⟨d, rfl⟩ := Nat.exists_eq_add_of_le h
  rw [Int.pow_add]
  have h1 := pow_pos m
  have h2 := pow_pos d
  calc (2 : Int) ^ m = 2 ^ m * 1 := by rw [Int.mul_one]
    _ ≤ 2 ^ m * 2 ^ d := Int.mul_le_mul_of_nonneg_left (by omega) (by omega)
/-- Rounded by a power of two: the part below and its highest bit. -/
theorem rdiv_pow (x : Int) (n : Nat) (hn : 1 ≤ n) : rdiv x (2 ^ n) = x / 2 ^ n + x / 2 ^ (n - 1) % 2 := by
  obtain ⟨m, rfl⟩ : ∃ m, n = m + 1 := ⟨n - 1, by omega⟩
  rw [Nat.add_sub_cancel]
  have hp := pow_pos m
  unfold rdiv
  rw [if_pos (pow_pos _), pow_succ2]
  have e1 : (2 * x + 2 * 2 ^ m) / (2 * (2 * 2 ^ m)) = (x + 2 ^ m) / (2 * 2 ^ m) := by
    rw [← Int.mul_add]; exact Int.mul_ediv_mul_of_pos _ _ (by omega)
  have e2 : (x + 2 ^ m) / (2 * 2 ^ m) = (x / 2 ^ m + 1) / 2 := by
    rw [Int.mul_comm, ← Int.ediv_ediv_of_nonneg (by omega)]
    congr 1
    have := Int.add_mul_ediv_right x 1 (show (2 : Int) ^ m ≠ 0 from by omega)
    rw [Int.one_mul] at this; exact this
  have e3 : x / (2 * 2 ^ m) = x / 2 ^ m / 2 := by rw [Int.mul_comm, ← Int.ediv_ediv_of_nonneg (by omega)]
  rw [e1, e2, e3]
  omega
theorem rdiv_far {x d : Int} (hd : 18446744073709551616 ≤ d) (hx : I64 x) : rdiv x d = 0 := by
  unfold rdiv
  rw [if_pos (by omega)]
  exact Int.ediv_eq_zero_of_lt (by omega) (by omega)
theorem rdiv_one (x : Int) : rdiv x 1 = x := by unfold rdiv; rw [if_pos (by decide)]; omega
theorem div_unique {a d q r : Int} (h : q * d + r = a) (h0 : 0 ≤ r) (h1 : r < d) : a / d = q ∧ a % d = r := by
  subst h
  constructor
  · rw [Int.add_comm, Int.add_mul_ediv_right _ _ (by omega), Int.ediv_eq_zero_of_lt h0 h1]; omega
  · rw [Int.add_comm, Int.add_mul_emod_self_right, Int.emod_eq_of_lt h0 h1]
theorem half_pow (a : Int) (n : Nat) : a / 2 ^ n = 2 * (a / 2 ^ (n + 1)) + a / 2 ^ n % 2 := by
  have e : a / 2 ^ (n + 1) = a / 2 ^ n / 2 := by rw [pow_succ2, Int.mul_comm, ← Int.ediv_ediv_of_nonneg (by have := pow_pos n; omega)]
  rw [e]; omega
theorem sh_range {x n : Int} (hx : I64 x) : I64 (sh x n) := by
  unfold sh
  split
  · exact hx
  · by_cases h : 64 ≤ n
    · rw [rdiv_far (x := x) _ hx]
      · constructor <;> omega
      · calc (18446744073709551616 : Int) = 2 ^ 64 := by decide
          _ ≤ 2 ^ n.toNat := pow_le (by omega)
    · rw [rdiv_pow x n.toNat (by omega)]
      have hp := pow_pos n.toNat
      have h2 : (2 : Int) ≤ 2 ^ n.toNat := by
        calc (2 : Int) = 2 ^ 1 := by decide
          _ ≤ 2 ^ n.toNat := pow_le (by omega)
      have a : -9223372036854775808 ≤ x / 2 ^ n.toNat := by
        rw [Int.le_ediv_iff_mul_le hp]
        have : -9223372036854775808 * 2 ^ n.toNat ≤ -9223372036854775808 * 1 := Int.mul_le_mul_of_nonpos_left (by decide) (by omega)
        omega
      have b : x / 2 ^ n.toNat < 4611686018427387904 := by
        rw [Int.ediv_lt_iff_lt_mul hp]
        calc x < 4611686018427387904 * 2 := by omega
          _ ≤ 4611686018427387904 * 2 ^ n.toNat := Int.mul_le_mul_of_nonneg_left h2 (by decide)
      constructor <;> omega
end Go.Proofs.YtebipmdopdogkaaGreatDoor.T

namespace Go.Proofs.YtebipmdopdogkaaGreatDoor.QA
open Go.Proofs.YtebipmdopdogkaaGreatDoor.T
open Go.RowKit Go.Proofs.YtebipmdopdogkaaGreatDoorW.PrintWords Go.Proofs.YtebipmdopdogkaaGreatDoorW.PrintLast Go.Proofs.YtebipmdopdogkaaGreatDoorW.PrintMore
attribute [local go_sem] ext_call max2_int min2_int max_two min_two
set_option linter.unusedVariables false
set_option linter.unusedSimpArgs false
def fixed_hold.j0 : Nat → Int → Bool → Bool → Option (Int)
 | 0, _, _, _ => none
 | k + 1, x0, x1, x5 => if x5 = true then (some (-9223372036854775808)) else (if x1 = true then (some (wrap64 (-(wrap64 (x0))))) else (if x0 > 9223372036854775807 then (some 9223372036854775807) else (some (wrap64 (x0)))))
def fixed_hold.f (k : Nat) (a0 : Int) (a1 : Bool) : Option (Int) := if a1 = true then (fixed_hold.j0 k a0 a1 (decide (a0 ≥ 9223372036854775808))) else (fixed_hold.j0 k a0 a1 false)
theorem fixed_hold.mono_l : ∀ k, (∀ y0 y1 y2, LeO (fixed_hold.j0 k y0 y1 y2) (fixed_hold.j0 (k + 1) y0 y1 y2))
 | 0 => fun _ _ _ r h => by simp [fixed_hold.j0] at h
 | k + 1 => by
  have ih0 := fixed_hold.mono_l k
  ·intro y0 y1 y2
   unfold fixed_hold.j0
   repeat' (with_reducible first | exact ih0 _ _ _ | exact zM | refine LeO.ite ?_ ?_ | refine LeO.bind ?_ (fun _ => ?_))
theorem fixed_hold.mono : ∀ a0 a1 k, LeO (fixed_hold.f k a0 a1) (fixed_hold.f (k + 1) a0 a1) := by
 intro a0 a1 k
 have ih0 := fixed_hold.mono_l k
 unfold fixed_hold.f
 repeat' (with_reducible first | exact ih0 _ _ _ | exact zM | refine LeO.ite ?_ ?_ | refine LeO.bind ?_ (fun _ => ?_))
set_option maxHeartbeats 8000000 in
set_option maxRecDepth 100000 in
theorem fixed_hold.calls (k : Nat) (a0 : Int) (a1 : Bool) (r : Int) (w : World) (h : fixed_hold.f k a0 a1 = some r) :
  Calls Tryz.prog 105 #[.int .u64 a0, .bool a1] w fun e w' => e = .returned (.int .i64 r) ∧ Drawn0 w w' := by
 have H := h
 clear h
 unfold fixed_hold.f at H
 have HC3 := Aside0.mk H
 clear H
 go_enter Tryz.func105, Tryz.ntmps105
 go_upto_region 1 with (fail)
 go_cut [5] (fun v5 wc => ∃ (kq : Nat) (x5_2 : Bool), v5 = .bool x5_2 ∧ Aside0 (fixed_hold.j0 kq a0 a1 x5_2 = some r) ∧ Aside0 (kq ≤ k) ∧ Drawn0 w wc)
 case first =>
  have H := HC3.out
  clear HC3
  by_cases c4 : a1 = true
  ·subst c4
   rw [if_pos rfl] at H; try dsimp only at H
   have H' := Aside0.mk H
   clear H
   go_wp2
   go_meet
   case rel => exact ⟨_, (decide (a0 ≥ 9223372036854775808)), zT, H', ⟨by first | omega | exact Nat.le_refl _⟩, zW⟩
  ·replace c4 := Bool.eq_false_iff.mpr c4
   subst c4
   rw [if_neg (show ¬ (false = true) by decide)] at H; try dsimp only at H
   have H' := Aside0.mk H
   clear H
   go_wp2
   go_meet
   case rel => exact ⟨_, (false), zT, H', ⟨by first | omega | exact Nat.le_refl _⟩, zW⟩
 case rest =>
  clear HC3
  obtain ⟨kq, x5_2, rfl, HA, HJ2, ⟨mc2, rfl⟩⟩ := hcut
  cases kq with
  | zero => exact absurd HA.out (by simp [fixed_hold.j0])
  | succ kj2 =>
   have H := HA.out
   clear HA
   simp only [fixed_hold.j0] at H
   by_cases c5 : x5_2 = true
   ·subst c5
    rw [if_pos rfl] at H; try dsimp only at H
    obtain rfl := Option.some.inj H
    go_wp2
    go_ret
    exact ⟨zT, zW⟩
   ·replace c5 := Bool.eq_false_iff.mpr c5
    subst c5
    rw [if_neg (show ¬ (false = true) by decide)] at H; try dsimp only at H
    by_cases c6 : a1 = true
    ·subst c6
     rw [if_pos rfl] at H; try dsimp only at H
     obtain rfl := Option.some.inj H
     go_wp2
     go_ret
     exact ⟨zT, zW⟩
    ·replace c6 := Bool.eq_false_iff.mpr c6
     subst c6
     rw [if_neg (show ¬ (false = true) by decide)] at H; try dsimp only at H
     by_cases c7 : a0 > 9223372036854775807
     ·rw [if_pos c7] at H
      have c7b0 := decide_eq_true c7
      clear c7
      obtain rfl := Option.some.inj H
      go_wp2
      go_ret
      exact ⟨zT, zW⟩
     ·rw [if_neg c7] at H
      have c7b0 := decide_eq_false c7
      clear c7
      obtain rfl := Option.some.inj H
      go_wp2
      go_ret
      exact ⟨zT, zW⟩
def fixed_Floor.f (k : Nat) (a0 a1 : Int) : Option (Int) := if a1 = 0 then (some 0) else ((fixed_size.f a0).bind fun t106 => ((fixed_size.f a1).bind fun t107 => (if t107 = 0 then (none) else (if ((decide (a0 < 0)) != (decide (a1 < 0))) = true then (if (Int.tmod t106 t107) = 0 then ((fixed_hold.f k (IntKind.u64.wrap (Int.tdiv t106 t107)) true).bind fun t108 => (some t108)) else ((fixed_hold.f k (IntKind.u64.wrap ((IntKind.u64.wrap (Int.tdiv t106 t107)) + 1)) true).bind fun t109 => (some t109))) else ((fixed_hold.f k (IntKind.u64.wrap (Int.tdiv t106 t107)) false).bind fun t110 => (some t110))))))
theorem fixed_Floor.mono : ∀ a0 a1 k, LeO (fixed_Floor.f k a0 a1) (fixed_Floor.f (k + 1) a0 a1) := by
 intro a0 a1 k
 unfold fixed_Floor.f
 repeat' (with_reducible first | exact fixed_hold.mono _ _ _ | exact zM | refine LeO.ite ?_ ?_ | refine LeO.bind ?_ (fun _ => ?_))
set_option maxHeartbeats 8000000 in
set_option maxRecDepth 100000 in
theorem fixed_Floor.calls (k : Nat) (a0 a1 r : Int) (w : World) (h : fixed_Floor.f k a0 a1 = some r) :
  Calls Tryz.prog 74 #[.int .i64 a0, .int .i64 a1] w fun e w' => e = .returned (.int .i64 r) ∧ Drawn0 w w' := by
 have H := h
 clear h
 unfold fixed_Floor.f at H
 by_cases c3 : a1 = 0
 ·rw [if_pos c3] at H
  have c3b0 : (a1 == 0) = true := beq_iff_eq.mpr c3
  have c3b1 : (a1 != 0) = false := bne_eq_false_iff_eq.mpr c3
  clear c3
  obtain rfl := Option.some.inj H
  go_enter Tryz.func74, Tryz.ntmps74
  go_wp2
  repeat (go_quiet (fail); try go_wp2)
  go_ret
  exact ⟨zT, zW⟩
 ·rw [if_neg c3] at H
  have c3b0 : (a1 == 0) = false := beq_eq_false_iff_ne.mpr c3
  have c3b1 : (a1 != 0) = true := bne_iff_ne.mpr c3
  replace H := zO H
  obtain ⟨t106, A4, H⟩ := H
  try dsimp only at H
  replace H := zO H
  obtain ⟨t107, A5, H⟩ := H
  try dsimp only at H
  by_cases c6 : t107 = 0
  ·rw [if_pos c6] at H
   exact absurd H (by simp)
  ·rw [if_neg c6] at H
   have c6b0 : (t107 == 0) = false := beq_eq_false_iff_ne.mpr c6
   have c6b1 : (t107 != 0) = true := bne_iff_ne.mpr c6
   by_cases c7 : ((decide (a0 < 0)) != (decide (a1 < 0))) = true
   ·rw [if_pos c7] at H
    have c7b0 : ((decide (a0 < 0)) != (decide (a1 < 0))) = true := c7
    (try (have c7b1 : decide ((decide (a0 < 0)) = (decide (a1 < 0))) = false := by simpa using c7))
    (try (have c7b2 : ((decide (a0 < 0)) == (decide (a1 < 0))) = false := by simpa using c7))
    (try (have c7b3 : ¬ ((decide (a0 < 0)) = (decide (a1 < 0))) := by simpa using c7))
    clear c7
    by_cases c8 : (Int.tmod t106 t107) = 0
    ·rw [if_pos c8] at H
     have c8b0 : ((Int.tmod t106 t107) == 0) = true := beq_iff_eq.mpr c8
     have c8b1 : ((Int.tmod t106 t107) != 0) = false := bne_eq_false_iff_eq.mpr c8
     clear c8
     replace H := zO H
     obtain ⟨t108, A9, H⟩ := H
     try dsimp only at H
     obtain rfl := Option.some.inj H
     go_enter Tryz.func74, Tryz.ntmps74
     go_wp2_with (first | (go_at_call 104; (with_reducible refine (fixed_size.calls a0 t106 _ A4.out).mono ?_); rintro e w' ⟨rfl, ⟨nd, rfl⟩⟩; (try exact ⟨rfl, _, zN⟩)) | (go_at_call 104; (with_reducible refine (fixed_size.calls a1 t107 _ A5.out).mono ?_); rintro e w' ⟨rfl, ⟨nd, rfl⟩⟩; (try exact ⟨rfl, _, zN⟩)) | (go_at_call 105; (with_reducible refine (fixed_hold.calls k (IntKind.u64.wrap (Int.tdiv t106 t107)) true t108 _ A9.out).mono ?_); rintro e w' ⟨rfl, ⟨nd, rfl⟩⟩; (try exact ⟨rfl, _, zN⟩)))
     repeat (go_quiet (first | (go_at_call 104; (with_reducible refine (fixed_size.calls a0 t106 _ A4.out).mono ?_); rintro e w' ⟨rfl, ⟨nd, rfl⟩⟩; (try exact ⟨rfl, _, zN⟩)) | (go_at_call 104; (with_reducible refine (fixed_size.calls a1 t107 _ A5.out).mono ?_); rintro e w' ⟨rfl, ⟨nd, rfl⟩⟩; (try exact ⟨rfl, _, zN⟩)) | (go_at_call 105; (with_reducible refine (fixed_hold.calls k (IntKind.u64.wrap (Int.tdiv t106 t107)) true t108 _ A9.out).mono ?_); rintro e w' ⟨rfl, ⟨nd, rfl⟩⟩; (try exact ⟨rfl, _, zN⟩))); try go_wp2_with (first | (go_at_call 104; (with_reducible refine (fixed_size.calls a0 t106 _ A4.out).mono ?_); rintro e w' ⟨rfl, ⟨nd, rfl⟩⟩; (try exact ⟨rfl, _, zN⟩)) | (go_at_call 104; (with_reducible refine (fixed_size.calls a1 t107 _ A5.out).mono ?_); rintro e w' ⟨rfl, ⟨nd, rfl⟩⟩; (try exact ⟨rfl, _, zN⟩)) | (go_at_call 105; (with_reducible refine (fixed_hold.calls k (IntKind.u64.wrap (Int.tdiv t106 t107)) true t108 _ A9.out).mono ?_); rintro e w' ⟨rfl, ⟨nd, rfl⟩⟩; (try exact ⟨rfl, _, zN⟩))))
     go_ret
     exact ⟨zT, zW⟩
    ·rw [if_neg c8] at H
     have c8b0 : ((Int.tmod t106 t107) == 0) = false := beq_eq_false_iff_ne.mpr c8
     have c8b1 : ((Int.tmod t106 t107) != 0) = true := bne_iff_ne.mpr c8
     replace H := zO H
     obtain ⟨t109, A10, H⟩ := H
     try dsimp only at H
     obtain rfl := Option.some.inj H
     go_enter Tryz.func74, Tryz.ntmps74
     go_wp2_with (first | (go_at_call 104; (with_reducible refine (fixed_size.calls a0 t106 _ A4.out).mono ?_); rintro e w' ⟨rfl, ⟨nd, rfl⟩⟩; (try exact ⟨rfl, _, zN⟩)) | (go_at_call 104; (with_reducible refine (fixed_size.calls a1 t107 _ A5.out).mono ?_); rintro e w' ⟨rfl, ⟨nd, rfl⟩⟩; (try exact ⟨rfl, _, zN⟩)) | (go_at_call 105; (with_reducible refine (fixed_hold.calls k (IntKind.u64.wrap ((IntKind.u64.wrap (Int.tdiv t106 t107)) + 1)) true t109 _ A10.out).mono ?_); rintro e w' ⟨rfl, ⟨nd, rfl⟩⟩; (try exact ⟨rfl, _, zN⟩)))
     repeat (go_quiet (first | (go_at_call 104; (with_reducible refine (fixed_size.calls a0 t106 _ A4.out).mono ?_); rintro e w' ⟨rfl, ⟨nd, rfl⟩⟩; (try exact ⟨rfl, _, zN⟩)) | (go_at_call 104; (with_reducible refine (fixed_size.calls a1 t107 _ A5.out).mono ?_); rintro e w' ⟨rfl, ⟨nd, rfl⟩⟩; (try exact ⟨rfl, _, zN⟩)) | (go_at_call 105; (with_reducible refine (fixed_hold.calls k (IntKind.u64.wrap ((IntKind.u64.wrap (Int.tdiv t106 t107)) + 1)) true t109 _ A10.out).mono ?_); rintro e w' ⟨rfl, ⟨nd, rfl⟩⟩; (try exact ⟨rfl, _, zN⟩))); try go_wp2_with (first | (go_at_call 104; (with_reducible refine (fixed_size.calls a0 t106 _ A4.out).mono ?_); rintro e w' ⟨rfl, ⟨nd, rfl⟩⟩; (try exact ⟨rfl, _, zN⟩)) | (go_at_call 104; (with_reducible refine (fixed_size.calls a1 t107 _ A5.out).mono ?_); rintro e w' ⟨rfl, ⟨nd, rfl⟩⟩; (try exact ⟨rfl, _, zN⟩)) | (go_at_call 105; (with_reducible refine (fixed_hold.calls k (IntKind.u64.wrap ((IntKind.u64.wrap (Int.tdiv t106 t107)) + 1)) true t109 _ A10.out).mono ?_); rintro e w' ⟨rfl, ⟨nd, rfl⟩⟩; (try exact ⟨rfl, _, zN⟩))))
     go_ret
     exact ⟨zT, zW⟩
   ·rw [if_neg c7] at H
    have c7b0 : ((decide (a0 < 0)) != (decide (a1 < 0))) = false := by simpa using c7
    (try (have c7b1 : decide ((decide (a0 < 0)) = (decide (a1 < 0))) = true := by simpa using c7))
    (try (have c7b2 : ((decide (a0 < 0)) == (decide (a1 < 0))) = true := by simpa using c7))
    clear c7
    replace H := zO H
    obtain ⟨t110, A11, H⟩ := H
    try dsimp only at H
    obtain rfl := Option.some.inj H
    go_enter Tryz.func74, Tryz.ntmps74
    go_wp2_with (first | (go_at_call 104; (with_reducible refine (fixed_size.calls a0 t106 _ A4.out).mono ?_); rintro e w' ⟨rfl, ⟨nd, rfl⟩⟩; (try exact ⟨rfl, _, zN⟩)) | (go_at_call 104; (with_reducible refine (fixed_size.calls a1 t107 _ A5.out).mono ?_); rintro e w' ⟨rfl, ⟨nd, rfl⟩⟩; (try exact ⟨rfl, _, zN⟩)) | (go_at_call 105; (with_reducible refine (fixed_hold.calls k (IntKind.u64.wrap (Int.tdiv t106 t107)) false t110 _ A11.out).mono ?_); rintro e w' ⟨rfl, ⟨nd, rfl⟩⟩; (try exact ⟨rfl, _, zN⟩)))
    repeat (go_quiet (first | (go_at_call 104; (with_reducible refine (fixed_size.calls a0 t106 _ A4.out).mono ?_); rintro e w' ⟨rfl, ⟨nd, rfl⟩⟩; (try exact ⟨rfl, _, zN⟩)) | (go_at_call 104; (with_reducible refine (fixed_size.calls a1 t107 _ A5.out).mono ?_); rintro e w' ⟨rfl, ⟨nd, rfl⟩⟩; (try exact ⟨rfl, _, zN⟩)) | (go_at_call 105; (with_reducible refine (fixed_hold.calls k (IntKind.u64.wrap (Int.tdiv t106 t107)) false t110 _ A11.out).mono ?_); rintro e w' ⟨rfl, ⟨nd, rfl⟩⟩; (try exact ⟨rfl, _, zN⟩))); try go_wp2_with (first | (go_at_call 104; (with_reducible refine (fixed_size.calls a0 t106 _ A4.out).mono ?_); rintro e w' ⟨rfl, ⟨nd, rfl⟩⟩; (try exact ⟨rfl, _, zN⟩)) | (go_at_call 104; (with_reducible refine (fixed_size.calls a1 t107 _ A5.out).mono ?_); rintro e w' ⟨rfl, ⟨nd, rfl⟩⟩; (try exact ⟨rfl, _, zN⟩)) | (go_at_call 105; (with_reducible refine (fixed_hold.calls k (IntKind.u64.wrap (Int.tdiv t106 t107)) false t110 _ A11.out).mono ?_); rintro e w' ⟨rfl, ⟨nd, rfl⟩⟩; (try exact ⟨rfl, _, zN⟩))))
    go_ret
    exact ⟨zT, zW⟩
def raw_may.f (a0 a1 a2 a3 : Int) : Option (Bool) := if a0 ≥ 0 then (if a0 < 3 then (if a1 ≥ 1 then (if a1 ≤ 65536 then (if a2 ≥ 1 then (if a2 ≤ 65536 then (if a3 ≥ 0 then (some (decide (a3 < a2))) else (some false)) else (some false)) else (some false)) else (some false)) else (some false)) else (some false)) else (some false)
set_option maxHeartbeats 8000000 in
set_option maxRecDepth 100000 in
theorem raw_may.calls (a0 a1 a2 a3 : Int) (r : Bool) (w : World) (h : raw_may.f a0 a1 a2 a3 = some r) :
  Calls Tryz.prog 92 #[.int .i64 a0, .int .i64 a1, .int .i64 a2, .int .i64 a3] w fun e w' => e = .returned (.bool r) ∧ Drawn0 w w' := by
 have H := h
 clear h
 unfold raw_may.f at H
 by_cases c5 : a0 ≥ 0
 ·rw [if_pos c5] at H
  have c5b0 := decide_eq_true c5
  clear c5
  by_cases c6 : a0 < 3
  ·rw [if_pos c6] at H
   have c6b0 := decide_eq_true c6
   clear c6
   by_cases c7 : a1 ≥ 1
   ·rw [if_pos c7] at H
    have c7b0 := decide_eq_true c7
    clear c7
    by_cases c8 : a1 ≤ 65536
    ·rw [if_pos c8] at H
     have c8b0 := decide_eq_true c8
     clear c8
     by_cases c9 : a2 ≥ 1
     ·rw [if_pos c9] at H
      have c9b0 := decide_eq_true c9
      clear c9
      by_cases c10 : a2 ≤ 65536
      ·rw [if_pos c10] at H
       have c10b0 := decide_eq_true c10
       clear c10
       by_cases c11 : a3 ≥ 0
       ·rw [if_pos c11] at H
        have c11b0 := decide_eq_true c11
        clear c11
        obtain rfl := Option.some.inj H
        go_enter Tryz.func92, Tryz.ntmps92
        go_wp2
        go_ret
        exact ⟨zT, zW⟩
       ·rw [if_neg c11] at H
        have c11b0 := decide_eq_false c11
        clear c11
        obtain rfl := Option.some.inj H
        go_enter Tryz.func92, Tryz.ntmps92
        go_wp2
        go_ret
        exact ⟨zT, zW⟩
      ·rw [if_neg c10] at H
       have c10b0 := decide_eq_false c10
       clear c10
       obtain rfl := Option.some.inj H
       go_enter Tryz.func92, Tryz.ntmps92
       go_wp2
       go_ret
       exact ⟨zT, zW⟩
     ·rw [if_neg c9] at H
      have c9b0 := decide_eq_false c9
      clear c9
      obtain rfl := Option.some.inj H
      go_enter Tryz.func92, Tryz.ntmps92
      go_wp2
      go_ret
      exact ⟨zT, zW⟩
    ·rw [if_neg c8] at H
     have c8b0 := decide_eq_false c8
     clear c8
     obtain rfl := Option.some.inj H
     go_enter Tryz.func92, Tryz.ntmps92
     go_wp2
     go_ret
     exact ⟨zT, zW⟩
   ·rw [if_neg c7] at H
    have c7b0 := decide_eq_false c7
    clear c7
    obtain rfl := Option.some.inj H
    go_enter Tryz.func92, Tryz.ntmps92
    go_wp2
    go_ret
    exact ⟨zT, zW⟩
  ·rw [if_neg c6] at H
   have c6b0 := decide_eq_false c6
   clear c6
   obtain rfl := Option.some.inj H
   go_enter Tryz.func92, Tryz.ntmps92
   go_wp2
   go_ret
   exact ⟨zT, zW⟩
 ·rw [if_neg c5] at H
  have c5b0 := decide_eq_false c5
  clear c5
  obtain rfl := Option.some.inj H
  go_enter Tryz.func92, Tryz.ntmps92
  go_wp2
  go_ret
  exact ⟨zT, zW⟩
def raw_ceil.f (k : Nat) (a0 a1 : Int) : Option (Int) := (fixed_Floor.f k (wrap64 (-a0)) a1).bind fun t111 => (some (wrap64 (-t111)))
theorem raw_ceil.mono : ∀ a0 a1 k, LeO (raw_ceil.f k a0 a1) (raw_ceil.f (k + 1) a0 a1) := by
 intro a0 a1 k
 unfold raw_ceil.f
 repeat' (with_reducible first | exact fixed_Floor.mono _ _ _ | exact zM | refine LeO.ite ?_ ?_ | refine LeO.bind ?_ (fun _ => ?_))
set_option maxHeartbeats 8000000 in
set_option maxRecDepth 100000 in
theorem raw_ceil.calls (k : Nat) (a0 a1 r : Int) (w : World) (h : raw_ceil.f k a0 a1 = some r) :
  Calls Tryz.prog 93 #[.int .i64 a0, .int .i64 a1] w fun e w' => e = .returned (.int .i64 r) ∧ Drawn0 w w' := by
 have H := h
 clear h
 unfold raw_ceil.f at H
 replace H := zO H
 obtain ⟨t111, A3, H⟩ := H
 try dsimp only at H
 obtain rfl := Option.some.inj H
 go_enter Tryz.func93, Tryz.ntmps93
 go_wp2_with (first | ((with_reducible refine gate_callee (f := 74) rfl ?_); refine goesL_ (some 8) rfl rfl Tryz.func74 (by kernel_rfl) rfl #[.int .i64 (wrap64 (-a0)), .int .i64 a1] rfl zL ?_; (with_reducible refine (fixed_Floor.calls k (wrap64 (-a0)) a1 t111 _ A3.out).mono ?_); rintro e w' ⟨rfl, ⟨nd, rfl⟩⟩; refine ⟨_, rfl, ?_⟩))
 go_ret
 exact ⟨zT, zW⟩
end Go.Proofs.YtebipmdopdogkaaGreatDoor.QA

namespace Go.Proofs.YtebipmdopdogkaaGreatDoor.QA
open Go.Proofs.YtebipmdopdogkaaGreatDoor.T
open Go.RowKit Go.Proofs.YtebipmdopdogkaaGreatDoorW.PrintWords Go.Proofs.YtebipmdopdogkaaGreatDoorW.PrintLast Go.Proofs.YtebipmdopdogkaaGreatDoorW.PrintMore
attribute [local go_sem] ext_call max2_int min2_int max_two min_two
set_option linter.unusedVariables false
set_option linter.unusedSimpArgs false
def raw_Window_at1.f (k : Nat) (a1 a2 a3 : Int) : Option (Int × Int) := (raw_may.f 1 a1 a2 a3).bind fun t112 => (if t112 = true then ((fixed_Floor.f k (wrap64 (a3 * a1)) a2).bind fun t113 => ((raw_ceil.f k (wrap64 ((wrap64 (a3 + 1)) * a1)) a2).bind fun t114 => ((fixed_Floor.f k (wrap64 ((wrap64 ((wrap64 ((wrap64 ((wrap64 (2 * a3)) + 1)) * a1)) - a2)) - (wrap64 (4 * (mx a1 a2))))) (wrap64 (2 * a2))).bind fun t115 => ((raw_ceil.f k (wrap64 ((wrap64 ((wrap64 ((wrap64 ((wrap64 (2 * a3)) + 1)) * a1)) - a2)) + (wrap64 (4 * (mx a1 a2))))) (wrap64 (2 * a2))).bind fun t116 => (some (wrap64 (t115 + 1), wrap64 (t116 - (wrap64 (t115 + 1))))))))) else (some (0, 0)))
theorem raw_Window_at1.mono : ∀ a1 a2 a3 k, LeO (raw_Window_at1.f k a1 a2 a3) (raw_Window_at1.f (k + 1) a1 a2 a3) := by
 intro a1 a2 a3 k
 unfold raw_Window_at1.f
 repeat' (with_reducible first | exact fixed_Floor.mono _ _ _ | exact raw_ceil.mono _ _ _ | exact zM | refine LeO.ite ?_ ?_ | refine LeO.bind ?_ (fun _ => ?_))
set_option maxHeartbeats 8000000 in
set_option maxRecDepth 100000 in
theorem raw_Window_at1.calls (k : Nat) (a1 a2 a3 r1 r2 : Int) (w : World) (hG : GL w) (h : raw_Window_at1.f k a1 a2 a3 = some (r1, r2)) :
  Calls Tryz.prog 69 #[.int .i64 1, .int .i64 a1, .int .i64 a2, .int .i64 a3] w fun e w' => e = .returned (.tuple #[.int .i64 r1, .int .i64 r2]) ∧ Below w.heap.size w w' := by
 have HB := Aside0.mk (Below.refl w.heap.size w)
 have H := h
 clear h
 unfold raw_Window_at1.f at H
 obtain ⟨⟨h0_0, h0_1, h0_2, h0_3, h0_4, h0_5⟩, ⟨ga1_, gc1_, gl1_, gs1_, h1_0, h1_1, h1_2⟩⟩ := hG
 replace H := zO H
 obtain ⟨t112, A5, H⟩ := H
 try dsimp only at H
 by_cases c6 : t112 = true
 ·subst c6
  rw [if_pos rfl] at H; try dsimp only at H
  replace H := zO H
  obtain ⟨t113, A7, H⟩ := H
  try dsimp only at H
  replace H := zO H
  obtain ⟨t114, A8, H⟩ := H
  try dsimp only at H
  obtain ⟨ji9, hji9⟩ : ∃ j_ : Int, (mx a1 a2) = j_ := ⟨_, rfl⟩
  replace H : ((fixed_Floor.f k (wrap64 ((wrap64 ((wrap64 ((wrap64 ((wrap64 (2 * a3)) + 1)) * a1)) - a2)) - (wrap64 (4 * (ji9))))) (wrap64 (2 * a2))).bind fun t115 => ((raw_ceil.f k (wrap64 ((wrap64 ((wrap64 ((wrap64 ((wrap64 (2 * a3)) + 1)) * a1)) - a2)) + (wrap64 (4 * (ji9))))) (wrap64 (2 * a2))).bind fun t116 => (some (wrap64 (t115 + 1), wrap64 (t116 - (wrap64 (t115 + 1))))))) = some (r1, r2) := by first | (rw [hji9] at H; exact H) | (simp only [hji9] at H ⊢; exact H)
  (try rw [hji9] at A5)
  (try rw [hji9] at A7)
  (try rw [hji9] at A8)
  have hji9_ : (if a1 < a2 then a2 else a1) = ji9 := hji9
  replace H := zO H
  obtain ⟨t115, A10, H⟩ := H
  try dsimp only at H
  replace H := zO H
  obtain ⟨t116, A11, H⟩ := H
  try dsimp only at H
  simp only [Option.some.injEq, Prod.mk.injEq] at H
  obtain ⟨rfl, rfl⟩ := H
  go_enter Tryz.func69, Tryz.ntmps69
  go_wp2_with (first | (go_at_call 92; (with_reducible refine (raw_may.calls 1 a1 a2 a3 true _ A5.out).mono ?_); rintro e w' ⟨rfl, ⟨nd, rfl⟩⟩; (try exact ⟨rfl, _, zN⟩)) | (go_at_call 74; (with_reducible refine (fixed_Floor.calls k (wrap64 (a3 * a1)) a2 t113 _ A7.out).mono ?_); rintro e w' ⟨rfl, ⟨nd, rfl⟩⟩; (try exact ⟨rfl, _, zN⟩)) | (go_at_call 93; (with_reducible refine (raw_ceil.calls k (wrap64 ((wrap64 (a3 + 1)) * a1)) a2 t114 _ A8.out).mono ?_); rintro e w' ⟨rfl, ⟨nd, rfl⟩⟩; (try exact ⟨rfl, _, zN⟩)) | (go_at_call 74; (with_reducible refine (fixed_Floor.calls k (wrap64 ((wrap64 ((wrap64 ((wrap64 ((wrap64 (2 * a3)) + 1)) * a1)) - a2)) - (wrap64 (4 * (ji9))))) (wrap64 (2 * a2)) t115 _ A10.out).mono ?_); rintro e w' ⟨rfl, ⟨nd, rfl⟩⟩; (try exact ⟨rfl, _, zN⟩)) | (go_at_call 93; (with_reducible refine (raw_ceil.calls k (wrap64 ((wrap64 ((wrap64 ((wrap64 ((wrap64 (2 * a3)) + 1)) * a1)) - a2)) + (wrap64 (4 * (ji9))))) (wrap64 (2 * a2)) t116 _ A11.out).mono ?_); rintro e w' ⟨rfl, ⟨nd, rfl⟩⟩; (try exact ⟨rfl, _, zN⟩)))
  repeat (go_quiet (first | (go_at_call 92; (with_reducible refine (raw_may.calls 1 a1 a2 a3 true _ A5.out).mono ?_); rintro e w' ⟨rfl, ⟨nd, rfl⟩⟩; (try exact ⟨rfl, _, zN⟩)) | (go_at_call 74; (with_reducible refine (fixed_Floor.calls k (wrap64 (a3 * a1)) a2 t113 _ A7.out).mono ?_); rintro e w' ⟨rfl, ⟨nd, rfl⟩⟩; (try exact ⟨rfl, _, zN⟩)) | (go_at_call 93; (with_reducible refine (raw_ceil.calls k (wrap64 ((wrap64 (a3 + 1)) * a1)) a2 t114 _ A8.out).mono ?_); rintro e w' ⟨rfl, ⟨nd, rfl⟩⟩; (try exact ⟨rfl, _, zN⟩)) | (go_at_call 74; (with_reducible refine (fixed_Floor.calls k (wrap64 ((wrap64 ((wrap64 ((wrap64 ((wrap64 (2 * a3)) + 1)) * a1)) - a2)) - (wrap64 (4 * (ji9))))) (wrap64 (2 * a2)) t115 _ A10.out).mono ?_); rintro e w' ⟨rfl, ⟨nd, rfl⟩⟩; (try exact ⟨rfl, _, zN⟩)) | (go_at_call 93; (with_reducible refine (raw_ceil.calls k (wrap64 ((wrap64 ((wrap64 ((wrap64 ((wrap64 (2 * a3)) + 1)) * a1)) - a2)) + (wrap64 (4 * (ji9))))) (wrap64 (2 * a2)) t116 _ A11.out).mono ?_); rintro e w' ⟨rfl, ⟨nd, rfl⟩⟩; (try exact ⟨rfl, _, zN⟩))); try go_wp2_with (first | (go_at_call 92; (with_reducible refine (raw_may.calls 1 a1 a2 a3 true _ A5.out).mono ?_); rintro e w' ⟨rfl, ⟨nd, rfl⟩⟩; (try exact ⟨rfl, _, zN⟩)) | (go_at_call 74; (with_reducible refine (fixed_Floor.calls k (wrap64 (a3 * a1)) a2 t113 _ A7.out).mono ?_); rintro e w' ⟨rfl, ⟨nd, rfl⟩⟩; (try exact ⟨rfl, _, zN⟩)) | (go_at_call 93; (with_reducible refine (raw_ceil.calls k (wrap64 ((wrap64 (a3 + 1)) * a1)) a2 t114 _ A8.out).mono ?_); rintro e w' ⟨rfl, ⟨nd, rfl⟩⟩; (try exact ⟨rfl, _, zN⟩)) | (go_at_call 74; (with_reducible refine (fixed_Floor.calls k (wrap64 ((wrap64 ((wrap64 ((wrap64 ((wrap64 (2 * a3)) + 1)) * a1)) - a2)) - (wrap64 (4 * (ji9))))) (wrap64 (2 * a2)) t115 _ A10.out).mono ?_); rintro e w' ⟨rfl, ⟨nd, rfl⟩⟩; (try exact ⟨rfl, _, zN⟩)) | (go_at_call 93; (with_reducible refine (raw_ceil.calls k (wrap64 ((wrap64 ((wrap64 ((wrap64 ((wrap64 (2 * a3)) + 1)) * a1)) - a2)) + (wrap64 (4 * (ji9))))) (wrap64 (2 * a2)) t116 _ A11.out).mono ?_); rintro e w' ⟨rfl, ⟨nd, rfl⟩⟩; (try exact ⟨rfl, _, zN⟩))))
  go_ret2
  exact ⟨by first | rfl | (simp [errW_none, errW_some] <;> rfl) | (simp only [← hji9]; first | rfl | (simp [errW_none, errW_some] <;> rfl)) | (simp [*, errW_none, errW_some] <;> rfl), zB⟩
 ·replace c6 := Bool.eq_false_iff.mpr c6
  subst c6
  rw [if_neg (show ¬ (false = true) by decide)] at H; try dsimp only at H
  simp only [Option.some.injEq, Prod.mk.injEq] at H
  obtain ⟨rfl, rfl⟩ := H
  go_enter Tryz.func69, Tryz.ntmps69
  go_wp2_with (first | (go_at_call 92; (with_reducible refine (raw_may.calls 1 a1 a2 a3 false _ A5.out).mono ?_); rintro e w' ⟨rfl, ⟨nd, rfl⟩⟩; (try exact ⟨rfl, _, zN⟩)))
  repeat (go_quiet (first | (go_at_call 92; (with_reducible refine (raw_may.calls 1 a1 a2 a3 false _ A5.out).mono ?_); rintro e w' ⟨rfl, ⟨nd, rfl⟩⟩; (try exact ⟨rfl, _, zN⟩))); try go_wp2_with (first | (go_at_call 92; (with_reducible refine (raw_may.calls 1 a1 a2 a3 false _ A5.out).mono ?_); rintro e w' ⟨rfl, ⟨nd, rfl⟩⟩; (try exact ⟨rfl, _, zN⟩))))
  go_ret2
  exact ⟨zS, zB⟩
def raw_Window_at2.f (k : Nat) (a1 a2 a3 : Int) : Option (Int × Int) := (raw_may.f 2 a1 a2 a3).bind fun t117 => (if t117 = true then ((fixed_Floor.f k (wrap64 (a3 * a1)) a2).bind fun t118 => ((raw_ceil.f k (wrap64 ((wrap64 (a3 + 1)) * a1)) a2).bind fun t119 => ((fixed_Floor.f k (wrap64 ((wrap64 ((wrap64 ((wrap64 ((wrap64 (2 * a3)) + 1)) * a1)) - a2)) - (wrap64 (6 * (mx a1 a2))))) (wrap64 (2 * a2))).bind fun t120 => ((raw_ceil.f k (wrap64 ((wrap64 ((wrap64 ((wrap64 ((wrap64 (2 * a3)) + 1)) * a1)) - a2)) + (wrap64 (6 * (mx a1 a2))))) (wrap64 (2 * a2))).bind fun t121 => (some (wrap64 (t120 + 1), wrap64 (t121 - (wrap64 (t120 + 1))))))))) else (some (0, 0)))
theorem raw_Window_at2.mono : ∀ a1 a2 a3 k, LeO (raw_Window_at2.f k a1 a2 a3) (raw_Window_at2.f (k + 1) a1 a2 a3) := by
 intro a1 a2 a3 k
 unfold raw_Window_at2.f
 repeat' (with_reducible first | exact fixed_Floor.mono _ _ _ | exact raw_ceil.mono _ _ _ | exact zM | refine LeO.ite ?_ ?_ | refine LeO.bind ?_ (fun _ => ?_))
set_option maxHeartbeats 8000000 in
set_option maxRecDepth 100000 in
theorem raw_Window_at2.calls (k : Nat) (a1 a2 a3 r1 r2 : Int) (w : World) (hG : GL w) (h : raw_Window_at2.f k a1 a2 a3 = some (r1, r2)) :
  Calls Tryz.prog 69 #[.int .i64 2, .int .i64 a1, .int .i64 a2, .int .i64 a3] w fun e w' => e = .returned (.tuple #[.int .i64 r1, .int .i64 r2]) ∧ Below w.heap.size w w' := by
 have HB := Aside0.mk (Below.refl w.heap.size w)
 have H := h
 clear h
 unfold raw_Window_at2.f at H
 obtain ⟨⟨h0_0, h0_1, h0_2, h0_3, h0_4, h0_5⟩, ⟨ga1_, gc1_, gl1_, gs1_, h1_0, h1_1, h1_2⟩⟩ := hG
 replace H := zO H
 obtain ⟨t117, A5, H⟩ := H
 try dsimp only at H
 by_cases c6 : t117 = true
 ·subst c6
  rw [if_pos rfl] at H; try dsimp only at H
  replace H := zO H
  obtain ⟨t118, A7, H⟩ := H
  try dsimp only at H
  replace H := zO H
  obtain ⟨t119, A8, H⟩ := H
  try dsimp only at H
  obtain ⟨ji9, hji9⟩ : ∃ j_ : Int, (mx a1 a2) = j_ := ⟨_, rfl⟩
  replace H : ((fixed_Floor.f k (wrap64 ((wrap64 ((wrap64 ((wrap64 ((wrap64 (2 * a3)) + 1)) * a1)) - a2)) - (wrap64 (6 * (ji9))))) (wrap64 (2 * a2))).bind fun t120 => ((raw_ceil.f k (wrap64 ((wrap64 ((wrap64 ((wrap64 ((wrap64 (2 * a3)) + 1)) * a1)) - a2)) + (wrap64 (6 * (ji9))))) (wrap64 (2 * a2))).bind fun t121 => (some (wrap64 (t120 + 1), wrap64 (t121 - (wrap64 (t120 + 1))))))) = some (r1, r2) := by first | (rw [hji9] at H; exact H) | (simp only [hji9] at H ⊢; exact H)
  (try rw [hji9] at A5)
  (try rw [hji9] at A7)
  (try rw [hji9] at A8)
  have hji9_ : (if a1 < a2 then a2 else a1) = ji9 := hji9
  replace H := zO H
  obtain ⟨t120, A10, H⟩ := H
  try dsimp only at H
  replace H := zO H
  obtain ⟨t121, A11, H⟩ := H
  try dsimp only at H
  simp only [Option.some.injEq, Prod.mk.injEq] at H
  obtain ⟨rfl, rfl⟩ := H
  go_enter Tryz.func69, Tryz.ntmps69
  go_wp2_with (first | (go_at_call 92; (with_reducible refine (raw_may.calls 2 a1 a2 a3 true _ A5.out).mono ?_); rintro e w' ⟨rfl, ⟨nd, rfl⟩⟩; (try exact ⟨rfl, _, zN⟩)) | (go_at_call 74; (with_reducible refine (fixed_Floor.calls k (wrap64 (a3 * a1)) a2 t118 _ A7.out).mono ?_); rintro e w' ⟨rfl, ⟨nd, rfl⟩⟩; (try exact ⟨rfl, _, zN⟩)) | (go_at_call 93; (with_reducible refine (raw_ceil.calls k (wrap64 ((wrap64 (a3 + 1)) * a1)) a2 t119 _ A8.out).mono ?_); rintro e w' ⟨rfl, ⟨nd, rfl⟩⟩; (try exact ⟨rfl, _, zN⟩)) | (go_at_call 74; (with_reducible refine (fixed_Floor.calls k (wrap64 ((wrap64 ((wrap64 ((wrap64 ((wrap64 (2 * a3)) + 1)) * a1)) - a2)) - (wrap64 (6 * (ji9))))) (wrap64 (2 * a2)) t120 _ A10.out).mono ?_); rintro e w' ⟨rfl, ⟨nd, rfl⟩⟩; (try exact ⟨rfl, _, zN⟩)) | (go_at_call 93; (with_reducible refine (raw_ceil.calls k (wrap64 ((wrap64 ((wrap64 ((wrap64 ((wrap64 (2 * a3)) + 1)) * a1)) - a2)) + (wrap64 (6 * (ji9))))) (wrap64 (2 * a2)) t121 _ A11.out).mono ?_); rintro e w' ⟨rfl, ⟨nd, rfl⟩⟩; (try exact ⟨rfl, _, zN⟩)))
  repeat (go_quiet (first | (go_at_call 92; (with_reducible refine (raw_may.calls 2 a1 a2 a3 true _ A5.out).mono ?_); rintro e w' ⟨rfl, ⟨nd, rfl⟩⟩; (try exact ⟨rfl, _, zN⟩)) | (go_at_call 74; (with_reducible refine (fixed_Floor.calls k (wrap64 (a3 * a1)) a2 t118 _ A7.out).mono ?_); rintro e w' ⟨rfl, ⟨nd, rfl⟩⟩; (try exact ⟨rfl, _, zN⟩)) | (go_at_call 93; (with_reducible refine (raw_ceil.calls k (wrap64 ((wrap64 (a3 + 1)) * a1)) a2 t119 _ A8.out).mono ?_); rintro e w' ⟨rfl, ⟨nd, rfl⟩⟩; (try exact ⟨rfl, _, zN⟩)) | (go_at_call 74; (with_reducible refine (fixed_Floor.calls k (wrap64 ((wrap64 ((wrap64 ((wrap64 ((wrap64 (2 * a3)) + 1)) * a1)) - a2)) - (wrap64 (6 * (ji9))))) (wrap64 (2 * a2)) t120 _ A10.out).mono ?_); rintro e w' ⟨rfl, ⟨nd, rfl⟩⟩; (try exact ⟨rfl, _, zN⟩)) | (go_at_call 93; (with_reducible refine (raw_ceil.calls k (wrap64 ((wrap64 ((wrap64 ((wrap64 ((wrap64 (2 * a3)) + 1)) * a1)) - a2)) + (wrap64 (6 * (ji9))))) (wrap64 (2 * a2)) t121 _ A11.out).mono ?_); rintro e w' ⟨rfl, ⟨nd, rfl⟩⟩; (try exact ⟨rfl, _, zN⟩))); try go_wp2_with (first | (go_at_call 92; (with_reducible refine (raw_may.calls 2 a1 a2 a3 true _ A5.out).mono ?_); rintro e w' ⟨rfl, ⟨nd, rfl⟩⟩; (try exact ⟨rfl, _, zN⟩)) | (go_at_call 74; (with_reducible refine (fixed_Floor.calls k (wrap64 (a3 * a1)) a2 t118 _ A7.out).mono ?_); rintro e w' ⟨rfl, ⟨nd, rfl⟩⟩; (try exact ⟨rfl, _, zN⟩)) | (go_at_call 93; (with_reducible refine (raw_ceil.calls k (wrap64 ((wrap64 (a3 + 1)) * a1)) a2 t119 _ A8.out).mono ?_); rintro e w' ⟨rfl, ⟨nd, rfl⟩⟩; (try exact ⟨rfl, _, zN⟩)) | (go_at_call 74; (with_reducible refine (fixed_Floor.calls k (wrap64 ((wrap64 ((wrap64 ((wrap64 ((wrap64 (2 * a3)) + 1)) * a1)) - a2)) - (wrap64 (6 * (ji9))))) (wrap64 (2 * a2)) t120 _ A10.out).mono ?_); rintro e w' ⟨rfl, ⟨nd, rfl⟩⟩; (try exact ⟨rfl, _, zN⟩)) | (go_at_call 93; (with_reducible refine (raw_ceil.calls k (wrap64 ((wrap64 ((wrap64 ((wrap64 ((wrap64 (2 * a3)) + 1)) * a1)) - a2)) + (wrap64 (6 * (ji9))))) (wrap64 (2 * a2)) t121 _ A11.out).mono ?_); rintro e w' ⟨rfl, ⟨nd, rfl⟩⟩; (try exact ⟨rfl, _, zN⟩))))
  go_ret2
  exact ⟨by first | rfl | (simp [errW_none, errW_some] <;> rfl) | (simp only [← hji9]; first | rfl | (simp [errW_none, errW_some] <;> rfl)) | (simp [*, errW_none, errW_some] <;> rfl), zB⟩
 ·replace c6 := Bool.eq_false_iff.mpr c6
  subst c6
  rw [if_neg (show ¬ (false = true) by decide)] at H; try dsimp only at H
  simp only [Option.some.injEq, Prod.mk.injEq] at H
  obtain ⟨rfl, rfl⟩ := H
  go_enter Tryz.func69, Tryz.ntmps69
  go_wp2_with (first | (go_at_call 92; (with_reducible refine (raw_may.calls 2 a1 a2 a3 false _ A5.out).mono ?_); rintro e w' ⟨rfl, ⟨nd, rfl⟩⟩; (try exact ⟨rfl, _, zN⟩)))
  repeat (go_quiet (first | (go_at_call 92; (with_reducible refine (raw_may.calls 2 a1 a2 a3 false _ A5.out).mono ?_); rintro e w' ⟨rfl, ⟨nd, rfl⟩⟩; (try exact ⟨rfl, _, zN⟩))); try go_wp2_with (first | (go_at_call 92; (with_reducible refine (raw_may.calls 2 a1 a2 a3 false _ A5.out).mono ?_); rintro e w' ⟨rfl, ⟨nd, rfl⟩⟩; (try exact ⟨rfl, _, zN⟩))))
  go_ret2
  exact ⟨zS, zB⟩
def raw_Window_gen.f (k : Nat) (a0 a1 a2 a3 : Int) : Option (Int × Int) := (raw_may.f a0 a1 a2 a3).bind fun t122 => (if t122 = true then ((fixed_Floor.f k (wrap64 (a3 * a1)) a2).bind fun t123 => ((raw_ceil.f k (wrap64 ((wrap64 (a3 + 1)) * a1)) a2).bind fun t124 => (if a0 = 0 then (some (t123, wrap64 (t124 - t123))) else (none)))) else (some (0, 0)))
theorem raw_Window_gen.mono : ∀ a0 a1 a2 a3 k, LeO (raw_Window_gen.f k a0 a1 a2 a3) (raw_Window_gen.f (k + 1) a0 a1 a2 a3) := by
 intro a0 a1 a2 a3 k
 unfold raw_Window_gen.f
 repeat' (with_reducible first | exact fixed_Floor.mono _ _ _ | exact raw_ceil.mono _ _ _ | exact zM | refine LeO.ite ?_ ?_ | refine LeO.bind ?_ (fun _ => ?_))
set_option maxHeartbeats 8000000 in
set_option maxRecDepth 100000 in
theorem raw_Window_gen.calls (k : Nat) (a0 a1 a2 a3 r1 r2 : Int) (w : World) (hG : GL w) (h : raw_Window_gen.f k a0 a1 a2 a3 = some (r1, r2)) :
  Calls Tryz.prog 69 #[.int .i64 a0, .int .i64 a1, .int .i64 a2, .int .i64 a3] w fun e w' => e = .returned (.tuple #[.int .i64 r1, .int .i64 r2]) ∧ Below w.heap.size w w' := by
 have HB := Aside0.mk (Below.refl w.heap.size w)
 have H := h
 clear h
 unfold raw_Window_gen.f at H
 obtain ⟨⟨h0_0, h0_1, h0_2, h0_3, h0_4, h0_5⟩, ⟨ga1_, gc1_, gl1_, gs1_, h1_0, h1_1, h1_2⟩⟩ := hG
 replace H := zO H
 obtain ⟨t122, A5, H⟩ := H
 try dsimp only at H
 by_cases c6 : t122 = true
 ·subst c6
  rw [if_pos rfl] at H; try dsimp only at H
  replace H := zO H
  obtain ⟨t123, A7, H⟩ := H
  try dsimp only at H
  replace H := zO H
  obtain ⟨t124, A8, H⟩ := H
  try dsimp only at H
  by_cases c9 : a0 = 0
  ·rw [if_pos c9] at H
   have c9b0 : (a0 == 0) = true := beq_iff_eq.mpr c9
   have c9b1 : (a0 != 0) = false := bne_eq_false_iff_eq.mpr c9
   clear c9
   simp only [Option.some.injEq, Prod.mk.injEq] at H
   obtain ⟨rfl, rfl⟩ := H
   go_enter Tryz.func69, Tryz.ntmps69
   go_wp2_with (first | (go_at_call 92; (with_reducible refine (raw_may.calls a0 a1 a2 a3 true _ A5.out).mono ?_); rintro e w' ⟨rfl, ⟨nd, rfl⟩⟩; (try exact ⟨rfl, _, zN⟩)) | (go_at_call 74; (with_reducible refine (fixed_Floor.calls k (wrap64 (a3 * a1)) a2 t123 _ A7.out).mono ?_); rintro e w' ⟨rfl, ⟨nd, rfl⟩⟩; (try exact ⟨rfl, _, zN⟩)) | (go_at_call 93; (with_reducible refine (raw_ceil.calls k (wrap64 ((wrap64 (a3 + 1)) * a1)) a2 t124 _ A8.out).mono ?_); rintro e w' ⟨rfl, ⟨nd, rfl⟩⟩; (try exact ⟨rfl, _, zN⟩)))
   repeat (go_quiet (first | (go_at_call 92; (with_reducible refine (raw_may.calls a0 a1 a2 a3 true _ A5.out).mono ?_); rintro e w' ⟨rfl, ⟨nd, rfl⟩⟩; (try exact ⟨rfl, _, zN⟩)) | (go_at_call 74; (with_reducible refine (fixed_Floor.calls k (wrap64 (a3 * a1)) a2 t123 _ A7.out).mono ?_); rintro e w' ⟨rfl, ⟨nd, rfl⟩⟩; (try exact ⟨rfl, _, zN⟩)) | (go_at_call 93; (with_reducible refine (raw_ceil.calls k (wrap64 ((wrap64 (a3 + 1)) * a1)) a2 t124 _ A8.out).mono ?_); rintro e w' ⟨rfl, ⟨nd, rfl⟩⟩; (try exact ⟨rfl, _, zN⟩))); try go_wp2_with (first | (go_at_call 92; (with_reducible refine (raw_may.calls a0 a1 a2 a3 true _ A5.out).mono ?_); rintro e w' ⟨rfl, ⟨nd, rfl⟩⟩; (try exact ⟨rfl, _, zN⟩)) | (go_at_call 74; (with_reducible refine (fixed_Floor.calls k (wrap64 (a3 * a1)) a2 t123 _ A7.out).mono ?_); rintro e w' ⟨rfl, ⟨nd, rfl⟩⟩; (try exact ⟨rfl, _, zN⟩)) | (go_at_call 93; (with_reducible refine (raw_ceil.calls k (wrap64 ((wrap64 (a3 + 1)) * a1)) a2 t124 _ A8.out).mono ?_); rintro e w' ⟨rfl, ⟨nd, rfl⟩⟩; (try exact ⟨rfl, _, zN⟩))))
   go_ret2
   exact ⟨zS, zB⟩
  ·rw [if_neg c9] at H
   exact absurd H (by simp)
 ·replace c6 := Bool.eq_false_iff.mpr c6
  subst c6
  rw [if_neg (show ¬ (false = true) by decide)] at H; try dsimp only at H
  simp only [Option.some.injEq, Prod.mk.injEq] at H
  obtain ⟨rfl, rfl⟩ := H
  go_enter Tryz.func69, Tryz.ntmps69
  go_wp2_with (first | (go_at_call 92; (with_reducible refine (raw_may.calls a0 a1 a2 a3 false _ A5.out).mono ?_); rintro e w' ⟨rfl, ⟨nd, rfl⟩⟩; (try exact ⟨rfl, _, zN⟩)))
  repeat (go_quiet (first | (go_at_call 92; (with_reducible refine (raw_may.calls a0 a1 a2 a3 false _ A5.out).mono ?_); rintro e w' ⟨rfl, ⟨nd, rfl⟩⟩; (try exact ⟨rfl, _, zN⟩))); try go_wp2_with (first | (go_at_call 92; (with_reducible refine (raw_may.calls a0 a1 a2 a3 false _ A5.out).mono ?_); rintro e w' ⟨rfl, ⟨nd, rfl⟩⟩; (try exact ⟨rfl, _, zN⟩))))
  go_ret2
  exact ⟨zS, zB⟩
def raw_Window.f (k : Nat) (a0 a1 a2 a3 : Int) : Option (Int × Int) := if a0 = 1 then raw_Window_at1.f k a1 a2 a3 else if a0 = 2 then raw_Window_at2.f k a1 a2 a3 else raw_Window_gen.f k a0 a1 a2 a3
theorem raw_Window.mono : ∀ a0 a1 a2 a3 k, LeO (raw_Window.f k a0 a1 a2 a3) (raw_Window.f (k + 1) a0 a1 a2 a3) := by
 intro a0 a1 a2 a3 k
 unfold raw_Window.f
 exact LeO.ite (raw_Window_at1.mono _ _ _ _) (LeO.ite (raw_Window_at2.mono _ _ _ _) (raw_Window_gen.mono _ _ _ _ _))
theorem raw_Window.calls (k : Nat) (a0 a1 a2 a3 r1 r2 : Int) (w : World) (hG : GL w) (h : raw_Window.f k a0 a1 a2 a3 = some (r1, r2)) :
  Calls Tryz.prog 69 #[.int .i64 a0, .int .i64 a1, .int .i64 a2, .int .i64 a3] w fun e w' => e = .returned (.tuple #[.int .i64 r1, .int .i64 r2]) ∧ Below w.heap.size w w' := by
 unfold raw_Window.f at h
 by_cases c1 : a0 = 1
 ·subst c1; exact raw_Window_at1.calls k a1 a2 a3 r1 r2 w hG (by rw [if_pos rfl] at h; exact h)
 ·rw [if_neg c1] at h
  by_cases c2 : a0 = 2
  ·subst c2; exact raw_Window_at2.calls k a1 a2 a3 r1 r2 w hG (by rw [if_pos rfl] at h; exact h)
  ·rw [if_neg c2] at h
   exact raw_Window_gen.calls k a0 a1 a2 a3 r1 r2 w hG h
def wide_size.f (a0 : Int) : Option (Int) := if a0 < 0 then (some (IntKind.u64.wrap (-(IntKind.u64.wrap (a0))))) else (some (IntKind.u64.wrap (a0)))
set_option maxHeartbeats 8000000 in
set_option maxRecDepth 100000 in
theorem wide_size.calls (a0 r : Int) (w : World) (h : wide_size.f a0 = some r) :
  Calls Tryz.prog 96 #[.int .i64 a0] w fun e w' => e = .returned (.int .u64 r) ∧ Drawn0 w w' := by
 have H := h
 clear h
 unfold wide_size.f at H
 by_cases c2 : a0 < 0
 ·rw [if_pos c2] at H
  have c2b0 := decide_eq_true c2
  clear c2
  obtain rfl := Option.some.inj H
  go_enter Tryz.func96, Tryz.ntmps96
  go_wp2
  go_ret
  exact ⟨zT, zW⟩
 ·rw [if_neg c2] at H
  have c2b0 := decide_eq_false c2
  clear c2
  obtain rfl := Option.some.inj H
  go_enter Tryz.func96, Tryz.ntmps96
  go_wp2
  go_ret
  exact ⟨zT, zW⟩
def bits_Mul64.f (a0 a1 : Int) : Option (Int × Int) := if 0 ≤ a0 ∧ a0 < 18446744073709551616 ∧ 0 ≤ a1 ∧ a1 < 18446744073709551616 then some (a0 * a1 / 18446744073709551616, a0 * a1 % 18446744073709551616) else none
theorem bits_Mul64.calls (a0 a1 r1 r2 : Int) (w : World) (h : bits_Mul64.f a0 a1 = some (r1, r2)) :
  Calls Tryz.prog 119 #[.int .u64 a0, .int .u64 a1] w fun e w' => e = .returned (.tuple #[.int .u64 r1, .int .u64 r2]) ∧ Drawn0 w w' := by
 unfold bits_Mul64.f at h
 by_cases c : 0 ≤ a0 ∧ a0 < 18446744073709551616 ∧ 0 ≤ a1 ∧ a1 < 18446744073709551616
 ·rw [if_pos c] at h
  obtain ⟨h0, h1, h2, h3⟩ := c
  obtain ⟨rfl, rfl⟩ := Prod.mk.inj (Option.some.inj h)
  obtain ⟨x, rfl⟩ := Int.eq_ofNat_of_zero_le h0
  obtain ⟨y, rfl⟩ := Int.eq_ofNat_of_zero_le h2
  exact (Tryz.bits_Mul64 x y (by omega) (by omega) w).mono fun e w' ⟨he, hw⟩ => ⟨by rw [he]; congr 4, by rw [hw]; exact Drawn0.refl _⟩
 ·rw [if_neg c] at h; exact absurd h (by simp)
def wide_product.f (a0 a1 : Int) : Option (Int × Int × Bool) := (wide_size.f a0).bind fun t125 => ((wide_size.f a1).bind fun t126 => ((bits_Mul64.f t125 t126).bind fun bt127 => (some (bt127.1, bt127.2, ((decide (a0 < 0)) != (decide (a1 < 0)))))))
set_option maxHeartbeats 8000000 in
set_option maxRecDepth 100000 in
theorem wide_product.calls (a0 a1 r1 r2 : Int) (r3 : Bool) (w : World) (h : wide_product.f a0 a1 = some (r1, r2, r3)) :
  Calls Tryz.prog 95 #[.int .i64 a0, .int .i64 a1] w fun e w' => e = .returned (.tuple #[.int .u64 r1, .int .u64 r2, .bool r3]) ∧ Drawn0 w w' := by
 have H := h
 clear h
 unfold wide_product.f at H
 replace H := zO H
 obtain ⟨t125, A3, H⟩ := H
 try dsimp only at H
 replace H := zO H
 obtain ⟨t126, A4, H⟩ := H
 try dsimp only at H
 replace H := zO H
 obtain ⟨⟨t127, t128⟩, A5, H⟩ := H
 try dsimp only at H
 simp only [Option.some.injEq, Prod.mk.injEq] at H
 obtain ⟨rfl, rfl, rfl⟩ := H
 go_enter Tryz.func95, Tryz.ntmps95
 go_wp2_with (first | ((with_reducible refine gate_callee (f := 96) rfl ?_); refine goesL_ (some 9) rfl rfl Tryz.func96 (by kernel_rfl) rfl #[.int .i64 a0] rfl zL ?_; (with_reducible refine (wide_size.calls a0 t125 _ A3.out).mono ?_); rintro e w' ⟨rfl, ⟨nd, rfl⟩⟩; refine ⟨_, rfl, ?_⟩) | ((with_reducible refine gate_callee (f := 96) rfl ?_); refine goesL_ (some 11) rfl rfl Tryz.func96 (by kernel_rfl) rfl #[.int .i64 a1] rfl zL ?_; (with_reducible refine (wide_size.calls a1 t126 _ A4.out).mono ?_); rintro e w' ⟨rfl, ⟨nd, rfl⟩⟩; refine ⟨_, rfl, ?_⟩) | ((with_reducible refine gate_callee (f := 119) rfl ?_); refine goesL_ (some 12) rfl rfl Tryz.func119 (by kernel_rfl) rfl #[.int .u64 t125, .int .u64 t126] rfl zL ?_; (with_reducible refine (bits_Mul64.calls t125 t126 t127 t128 _ A5.out).mono ?_); rintro e w' ⟨rfl, ⟨nd, rfl⟩⟩; refine ⟨_, rfl, ?_⟩))
 go_ret3
 exact ⟨zT, zW⟩
end Go.Proofs.YtebipmdopdogkaaGreatDoor.QA

namespace Go.Proofs.YtebipmdopdogkaaGreatDoor.QA
open Go.Proofs.YtebipmdopdogkaaGreatDoor.T
open Go.RowKit Go.Proofs.YtebipmdopdogkaaGreatDoorW.PrintWords Go.Proofs.YtebipmdopdogkaaGreatDoorW.PrintLast Go.Proofs.YtebipmdopdogkaaGreatDoorW.PrintMore
attribute [local go_sem] ext_call max2_int min2_int max_two min_two
set_option linter.unusedVariables false
set_option linter.unusedSimpArgs false
def fixed_Add.j0 : Nat → Int → Int → Int → Bool → Option (Int)
 | 0, _, _, _, _ => none
 | k + 1, x0, x1, x5, x9 => if x9 = true then (some 9223372036854775807) else (if x1 < 0 then (if x5 > x0 then (some (-9223372036854775808)) else (some x5)) else (some x5))
def fixed_Add.f (k : Nat) (a0 a1 : Int) : Option (Int) := if a1 > 0 then (fixed_Add.j0 k a0 a1 (wrap64 (a0 + a1)) (decide ((wrap64 (a0 + a1)) < a0))) else (fixed_Add.j0 k a0 a1 (wrap64 (a0 + a1)) false)
set_option maxHeartbeats 8000000 in
set_option maxRecDepth 100000 in
theorem fixed_Add.calls (k : Nat) (a0 a1 r : Int) (w : World) (h : fixed_Add.f k a0 a1 = some r) :
  Calls Tryz.prog 103 #[.int .i64 a0, .int .i64 a1] w fun e w' => e = .returned (.int .i64 r) ∧ Drawn0 w w' := by
 have H := h
 clear h
 unfold fixed_Add.f at H
 have HC3 := Aside0.mk H
 clear H
 go_enter Tryz.func103, Tryz.ntmps103
 go_upto_region 2 with (fail)
 go_cut [9] (fun v9 wc => ∃ (kq : Nat) (x9_2 : Bool), v9 = .bool x9_2 ∧ Aside0 (fixed_Add.j0 kq a0 a1 (wrap64 (a0 + a1)) x9_2 = some r) ∧ Aside0 (kq ≤ k) ∧ Drawn0 w wc)
 case first =>
  have H := HC3.out
  clear HC3
  by_cases c4 : a1 > 0
  ·rw [if_pos c4] at H
   have c4b0 := decide_eq_true c4
   clear c4
   (first | rw [c4b0] | (simp only [i64_w, i32_w]; rw [c4b0]) | skip)
   have H' := Aside0.mk H
   clear H
   go_wp2
   go_meet
   case rel => exact ⟨_, (decide ((wrap64 (a0 + a1)) < a0)), zT, H', ⟨by first | omega | exact Nat.le_refl _⟩, zW⟩
  ·rw [if_neg c4] at H
   have c4b0 := decide_eq_false c4
   clear c4
   (first | rw [c4b0] | (simp only [i64_w, i32_w]; rw [c4b0]) | skip)
   have H' := Aside0.mk H
   clear H
   go_wp2
   go_meet
   case rel => exact ⟨_, (false), zT, H', ⟨by first | omega | exact Nat.le_refl _⟩, zW⟩
 case rest =>
  clear HC3
  obtain ⟨kq, x9_2, rfl, HA, HJ2, ⟨mc2, rfl⟩⟩ := hcut
  cases kq with
  | zero => exact absurd HA.out (by simp [fixed_Add.j0])
  | succ kj2 =>
   have H := HA.out
   clear HA
   simp only [fixed_Add.j0] at H
   by_cases c5 : x9_2 = true
   ·subst c5
    rw [if_pos rfl] at H; try dsimp only at H
    obtain rfl := Option.some.inj H
    go_wp2
    go_ret
    exact ⟨zT, zW⟩
   ·replace c5 := Bool.eq_false_iff.mpr c5
    subst c5
    rw [if_neg (show ¬ (false = true) by decide)] at H; try dsimp only at H
    by_cases c6 : a1 < 0
    ·rw [if_pos c6] at H
     have c6b0 := decide_eq_true c6
     clear c6
     by_cases c7 : (wrap64 (a0 + a1)) > a0
     ·rw [if_pos c7] at H
      have c7b0 := decide_eq_true c7
      clear c7
      obtain rfl := Option.some.inj H
      go_wp2
      go_ret
      exact ⟨zT, zW⟩
     ·rw [if_neg c7] at H
      have c7b0 := decide_eq_false c7
      clear c7
      obtain rfl := Option.some.inj H
      go_wp2
      go_ret
      exact ⟨zT, zW⟩
    ·rw [if_neg c6] at H
     have c6b0 := decide_eq_false c6
     clear c6
     obtain rfl := Option.some.inj H
     go_wp2
     go_ret
     exact ⟨zT, zW⟩
def taps_Sum.l0 : Nat → Int → List Int → Int → Int → Option (Int)
 | 0, _, _, _, _ => none
 | k + 1, x3, x6, x7, x8 => if x8 < x7 then (if 0 ≤ x8 then (if x8 < (x6.length : Int) then ((fixed_Add.f k x3 (rd x6 x8)).bind fun t172 => (taps_Sum.l0 k t172 x6 x7 (wrap64 (x8 + 1)))) else (none)) else (none)) else (some x3)
def taps_Sum.f (k : Nat) (l0 : List Int) : Option (Int) := taps_Sum.l0 k 0 l0 (l0.length : Int) 0
set_option maxHeartbeats 8000000 in
set_option maxRecDepth 100000 in
theorem taps_Sum.calls (k : Nat) (A0 : Option Addr) (c0 : Nat) (l0 : List Int) (r : Int) (w : World) (hr0 : Kd.C (Kd.int .i64) w A0 l0.length l0) (hc0 : l0.length ≤ c0) (h : taps_Sum.f k l0 = some r) :
  Calls Tryz.prog 73 #[.slice A0 l0.length c0] w fun e w' => e = .returned (.int .i64 r) ∧ Drawn0 w w' := by
 have HR0 := Aside0.mk hr0
 have HC0 := Aside0.mk hc0
 clear hr0 hc0
 have H := h
 clear h
 unfold taps_Sum.f at H
 have H' := Aside0.mk H
 clear H
 go_enter Tryz.func73, Tryz.ntmps73
 go_wp2
 go_loopg [3, 8] k (fun kq v3 v8 w' => ∃ (x3_1 : Int) (x8_1 : Int), v3 = .int .i64 x3_1 ∧ v8 = .int .i64 x8_1 ∧ Aside0 (taps_Sum.l0 kq x3_1 l0 (l0.length : Int) x8_1 = some r) ∧ Aside0 (kq ≤ k) ∧ Drawn0 w w')
 case atStart => exact ⟨(0), (0), zT, zT, H', ⟨Nat.le_refl _⟩, zW⟩
 case round =>
  clear H'
  obtain ⟨x3_1, x8_1, rfl, rfl, HA, HK1, ⟨m1, rfl⟩⟩ := hrel
  cases gk with
  | zero => exact absurd HA.out (by simp [taps_Sum.l0])
  | succ k1 =>
   have H := HA.out
   clear HA
   simp only [taps_Sum.l0] at H
   by_cases c2 : x8_1 < (l0.length : Int)
   ·rw [if_pos c2] at H
    have c2b0 := decide_eq_true c2
    clear c2
    by_cases c3 : 0 ≤ x8_1
    ·rw [if_pos c3] at H
     have c3b0 := decide_eq_true c3
     clear c3
     by_cases c4 : x8_1 < (l0.length : Int)
     ·rw [if_pos c4] at H
      have c4b0 := decide_eq_true c4
      clear c4
      replace H := zO H
      obtain ⟨t172, A5, H⟩ := H
      try dsimp only at H
      have H' := Aside0.mk H
      clear H
      have p171 : 0 ≤ (x8_1 : Int) := of_decide_eq_true (by first | (with_reducible assumption) | assumption)
      have q171 : x8_1 < (l0.length : Int) := of_decide_eq_true (by first | (with_reducible assumption) | assumption)
      obtain ⟨ad171, e171, hx171_0⟩ := Kd.at_int HR0.out x8_1 p171 q171
      cases e171
      replace p171 := eq_true p171
      replace q171 := eq_true q171
      go_wp2_with (first | ((with_reducible refine gate_callee (f := 103) rfl ?_); refine goesL_ (some 14) rfl rfl Tryz.func103 (by kernel_rfl) rfl #[.int .i64 x3_1, .int .i64 (rd l0 x8_1)] rfl zL ?_; (with_reducible refine (fixed_Add.calls k1 x3_1 (rd l0 x8_1) t172 _ A5.out).mono ?_); rintro e w' ⟨rfl, ⟨nd, rfl⟩⟩; refine ⟨_, rfl, ?_⟩))
      go_roundg k1
      case measure => have := HK1.out; omega
      case rel => exact ⟨(t172), (wrap64 (x8_1 + 1)), zT, zT, H', ⟨by have := HK1.out; omega⟩, zW⟩
     ·rw [if_neg c4] at H
      exact absurd H (by simp)
    ·rw [if_neg c3] at H
     exact absurd H (by simp)
   ·rw [if_neg c2] at H
    have c2b0 := decide_eq_false c2
    clear c2
    obtain rfl := Option.some.inj H
    go_wp2
    go_ret
    exact ⟨zT, zW⟩
def fixed_Mod.j0 : Nat → Int → Int → Bool → Option (Int)
 | 0, _, _, _ => none
 | k + 1, x0, x1, x11 => if x11 = true then (some 0) else (if x1 = 0 then (none) else (if (Int.tmod x0 x1) = 0 then (some (Int.tmod x0 x1)) else (if ((decide ((Int.tmod x0 x1) < 0)) != (decide (x1 < 0))) = true then (some (wrap64 ((Int.tmod x0 x1) + x1))) else (some (Int.tmod x0 x1)))))
def fixed_Mod.f (k : Nat) (a0 a1 : Int) : Option (Int) := if a1 = 0 then (fixed_Mod.j0 k a0 a1 true) else (fixed_Mod.j0 k a0 a1 (a1 == (-1)))
set_option maxHeartbeats 8000000 in
set_option maxRecDepth 100000 in
theorem fixed_Mod.calls (k : Nat) (a0 a1 r : Int) (w : World) (h : fixed_Mod.f k a0 a1 = some r) :
  Calls Tryz.prog 75 #[.int .i64 a0, .int .i64 a1] w fun e w' => e = .returned (.int .i64 r) ∧ Drawn0 w w' := by
 have H := h
 clear h
 unfold fixed_Mod.f at H
 have HC3 := Aside0.mk H
 clear H
 go_enter Tryz.func75, Tryz.ntmps75
 go_upto_region 1 with (fail)
 go_cut [11] (fun v11 wc => ∃ (kq : Nat) (x11_2 : Bool), v11 = .bool x11_2 ∧ Aside0 (fixed_Mod.j0 kq a0 a1 x11_2 = some r) ∧ Aside0 (kq ≤ k) ∧ Drawn0 w wc)
 case first =>
  have H := HC3.out
  clear HC3
  by_cases c4 : a1 = 0
  ·rw [if_pos c4] at H
   have c4b0 : (a1 == 0) = true := beq_iff_eq.mpr c4
   have c4b1 : (a1 != 0) = false := bne_eq_false_iff_eq.mpr c4
   clear c4
   (first | rw [c4b0] | (simp only [i64_w, i32_w]; rw [c4b0]) | skip)
   have H' := Aside0.mk H
   clear H
   go_wp2
   go_meet
   case rel => exact ⟨_, (true), zT, H', ⟨by first | omega | exact Nat.le_refl _⟩, zW⟩
  ·rw [if_neg c4] at H
   have c4b0 : (a1 == 0) = false := beq_eq_false_iff_ne.mpr c4
   have c4b1 : (a1 != 0) = true := bne_iff_ne.mpr c4
   (first | rw [c4b0] | (simp only [i64_w, i32_w]; rw [c4b0]) | skip)
   have H' := Aside0.mk H
   clear H
   go_wp2
   go_meet
   case rel => exact ⟨_, ((a1 == (-1))), zT, H', ⟨by first | omega | exact Nat.le_refl _⟩, zW⟩
 case rest =>
  clear HC3
  obtain ⟨kq, x11_2, rfl, HA, HJ2, ⟨mc2, rfl⟩⟩ := hcut
  cases kq with
  | zero => exact absurd HA.out (by simp [fixed_Mod.j0])
  | succ kj2 =>
   have H := HA.out
   clear HA
   simp only [fixed_Mod.j0] at H
   by_cases c5 : x11_2 = true
   ·subst c5
    rw [if_pos rfl] at H; try dsimp only at H
    obtain rfl := Option.some.inj H
    go_wp2
    go_ret
    exact ⟨zT, zW⟩
   ·replace c5 := Bool.eq_false_iff.mpr c5
    subst c5
    rw [if_neg (show ¬ (false = true) by decide)] at H; try dsimp only at H
    by_cases c6 : a1 = 0
    ·rw [if_pos c6] at H
     exact absurd H (by simp)
    ·rw [if_neg c6] at H
     have c6b0 : (a1 == 0) = false := beq_eq_false_iff_ne.mpr c6
     have c6b1 : (a1 != 0) = true := bne_iff_ne.mpr c6
     by_cases c7 : (Int.tmod a0 a1) = 0
     ·rw [if_pos c7] at H
      have c7b0 : ((Int.tmod a0 a1) == 0) = true := beq_iff_eq.mpr c7
      have c7b1 : ((Int.tmod a0 a1) != 0) = false := bne_eq_false_iff_eq.mpr c7
      clear c7
      obtain rfl := Option.some.inj H
      go_wp2
      go_ret
      exact ⟨zT, zW⟩
     ·rw [if_neg c7] at H
      have c7b0 : ((Int.tmod a0 a1) == 0) = false := beq_eq_false_iff_ne.mpr c7
      have c7b1 : ((Int.tmod a0 a1) != 0) = true := bne_iff_ne.mpr c7
      by_cases c8 : ((decide ((Int.tmod a0 a1) < 0)) != (decide (a1 < 0))) = true
      ·rw [if_pos c8] at H
       have c8b0 : ((decide ((Int.tmod a0 a1) < 0)) != (decide (a1 < 0))) = true := c8
       (try (have c8b1 : decide ((decide ((Int.tmod a0 a1) < 0)) = (decide (a1 < 0))) = false := by simpa using c8))
       (try (have c8b2 : ((decide ((Int.tmod a0 a1) < 0)) == (decide (a1 < 0))) = false := by simpa using c8))
       (try (have c8b3 : ¬ ((decide ((Int.tmod a0 a1) < 0)) = (decide (a1 < 0))) := by simpa using c8))
       clear c8
       obtain rfl := Option.some.inj H
       go_wp2
       go_ret
       exact ⟨zT, zW⟩
      ·rw [if_neg c8] at H
       have c8b0 : ((decide ((Int.tmod a0 a1) < 0)) != (decide (a1 < 0))) = false := by simpa using c8
       (try (have c8b1 : decide ((decide ((Int.tmod a0 a1) < 0)) = (decide (a1 < 0))) = true := by simpa using c8))
       (try (have c8b2 : ((decide ((Int.tmod a0 a1) < 0)) == (decide (a1 < 0))) = true := by simpa using c8))
       clear c8
       obtain rfl := Option.some.inj H
       go_wp2
       go_ret
       exact ⟨zT, zW⟩
end Go.Proofs.YtebipmdopdogkaaGreatDoor.QA

namespace Go.Proofs.YtebipmdopdogkaaGreatDoor.QA
open Go.Proofs.YtebipmdopdogkaaGreatDoor.T
open Go.RowKit Go.Proofs.YtebipmdopdogkaaGreatDoorW.PrintWords Go.Proofs.YtebipmdopdogkaaGreatDoorW.PrintLast Go.Proofs.YtebipmdopdogkaaGreatDoorW.PrintMore
attribute [local go_sem] ext_call max2_int min2_int max_two min_two
set_option linter.unusedVariables false
set_option linter.unusedSimpArgs false
def fixed_Mul.f (k : Nat) (a0 a1 : Int) : Option (Int) := (fixed_size.f a0).bind fun t173 => ((fixed_size.f a1).bind fun t174 => ((bits_Mul64.f t173 t174).bind fun bt175 => (if bt175.1 = 0 then ((fixed_hold.f k bt175.2 ((decide (a0 < 0)) != (decide (a1 < 0)))).bind fun t177 => (some t177)) else ((fixed_hold.f k 18446744073709551615 ((decide (a0 < 0)) != (decide (a1 < 0)))).bind fun t178 => (some t178)))))
set_option maxHeartbeats 8000000 in
set_option maxRecDepth 100000 in
theorem fixed_Mul.calls (k : Nat) (a0 a1 r : Int) (w : World) (h : fixed_Mul.f k a0 a1 = some r) :
  Calls Tryz.prog 122 #[.int .i64 a0, .int .i64 a1] w fun e w' => e = .returned (.int .i64 r) ∧ Drawn0 w w' := by
 have H := h
 clear h
 unfold fixed_Mul.f at H
 replace H := zO H
 obtain ⟨t173, A3, H⟩ := H
 try dsimp only at H
 replace H := zO H
 obtain ⟨t174, A4, H⟩ := H
 try dsimp only at H
 replace H := zO H
 obtain ⟨⟨t175, t176⟩, A5, H⟩ := H
 try dsimp only at H
 by_cases c6 : t175 = 0
 ·rw [if_pos c6] at H
  have c6b0 : (t175 == 0) = true := beq_iff_eq.mpr c6
  have c6b1 : (t175 != 0) = false := bne_eq_false_iff_eq.mpr c6
  clear c6
  replace H := zO H
  obtain ⟨t177, A7, H⟩ := H
  try dsimp only at H
  obtain rfl := Option.some.inj H
  go_enter Tryz.func122, Tryz.ntmps122
  go_wp2_with (first | ((with_reducible refine gate_callee (f := 104) rfl ?_); refine goesL_ (some 9) rfl rfl Tryz.func104 (by kernel_rfl) rfl #[.int .i64 a0] rfl zL ?_; (with_reducible refine (fixed_size.calls a0 t173 _ A3.out).mono ?_); rintro e w' ⟨rfl, ⟨nd, rfl⟩⟩; refine ⟨_, rfl, ?_⟩) | ((with_reducible refine gate_callee (f := 104) rfl ?_); refine goesL_ (some 11) rfl rfl Tryz.func104 (by kernel_rfl) rfl #[.int .i64 a1] rfl zL ?_; (with_reducible refine (fixed_size.calls a1 t174 _ A4.out).mono ?_); rintro e w' ⟨rfl, ⟨nd, rfl⟩⟩; refine ⟨_, rfl, ?_⟩) | ((with_reducible refine gate_callee (f := 119) rfl ?_); refine goesL_ (some 12) rfl rfl Tryz.func119 (by kernel_rfl) rfl #[.int .u64 t173, .int .u64 t174] rfl zL ?_; (with_reducible refine (bits_Mul64.calls t173 t174 t175 t176 _ A5.out).mono ?_); rintro e w' ⟨rfl, ⟨nd, rfl⟩⟩; refine ⟨_, rfl, ?_⟩) | ((with_reducible refine gate_callee (f := 105) rfl ?_); refine goesL_ (some 23) rfl rfl Tryz.func105 (by kernel_rfl) rfl #[.int .u64 t176, .bool ((decide (a0 < 0)) != (decide (a1 < 0)))] rfl zL ?_; (with_reducible refine (fixed_hold.calls k t176 ((decide (a0 < 0)) != (decide (a1 < 0))) t177 _ A7.out).mono ?_); rintro e w' ⟨rfl, ⟨nd, rfl⟩⟩; refine ⟨_, rfl, ?_⟩))
  go_ret
  exact ⟨zT, zW⟩
 ·rw [if_neg c6] at H
  have c6b0 : (t175 == 0) = false := beq_eq_false_iff_ne.mpr c6
  have c6b1 : (t175 != 0) = true := bne_iff_ne.mpr c6
  replace H := zO H
  obtain ⟨t178, A8, H⟩ := H
  try dsimp only at H
  obtain rfl := Option.some.inj H
  go_enter Tryz.func122, Tryz.ntmps122
  go_wp2_with (first | ((with_reducible refine gate_callee (f := 104) rfl ?_); refine goesL_ (some 9) rfl rfl Tryz.func104 (by kernel_rfl) rfl #[.int .i64 a0] rfl zL ?_; (with_reducible refine (fixed_size.calls a0 t173 _ A3.out).mono ?_); rintro e w' ⟨rfl, ⟨nd, rfl⟩⟩; refine ⟨_, rfl, ?_⟩) | ((with_reducible refine gate_callee (f := 104) rfl ?_); refine goesL_ (some 11) rfl rfl Tryz.func104 (by kernel_rfl) rfl #[.int .i64 a1] rfl zL ?_; (with_reducible refine (fixed_size.calls a1 t174 _ A4.out).mono ?_); rintro e w' ⟨rfl, ⟨nd, rfl⟩⟩; refine ⟨_, rfl, ?_⟩) | ((with_reducible refine gate_callee (f := 119) rfl ?_); refine goesL_ (some 12) rfl rfl Tryz.func119 (by kernel_rfl) rfl #[.int .u64 t173, .int .u64 t174] rfl zL ?_; (with_reducible refine (bits_Mul64.calls t173 t174 t175 t176 _ A5.out).mono ?_); rintro e w' ⟨rfl, ⟨nd, rfl⟩⟩; refine ⟨_, rfl, ?_⟩) | ((with_reducible refine gate_callee (f := 105) rfl ?_); refine goesL_ (some 23) rfl rfl Tryz.func105 (by kernel_rfl) rfl #[.int .u64 18446744073709551615, .bool ((decide (a0 < 0)) != (decide (a1 < 0)))] rfl zL ?_; (with_reducible refine (fixed_hold.calls k 18446744073709551615 ((decide (a0 < 0)) != (decide (a1 < 0))) t178 _ A8.out).mono ?_); rintro e w' ⟨rfl, ⟨nd, rfl⟩⟩; refine ⟨_, rfl, ?_⟩))
  go_ret
  exact ⟨zT, zW⟩
def taps_size.f (k : Nat) (a0 : Int) : Option (Int) := (fixed_Mul.f k a0 (-1)).bind fun t179 => (some (mx a0 t179))
set_option maxHeartbeats 8000000 in
set_option maxRecDepth 100000 in
theorem taps_size.calls (k : Nat) (a0 r : Int) (w : World) (h : taps_size.f k a0 = some r) :
  Calls Tryz.prog 102 #[.int .i64 a0] w fun e w' => e = .returned (.int .i64 r) ∧ Below w.heap.size w w' := by
 have HB := Aside0.mk (Below.refl w.heap.size w)
 have H := h
 clear h
 unfold taps_size.f at H
 replace H := zO H
 obtain ⟨t179, A2, H⟩ := H
 try dsimp only at H
 obtain ⟨ji3, hji3⟩ : ∃ j_ : Int, (mx a0 t179) = j_ := ⟨_, rfl⟩
 replace H : (some ji3) = some r := by first | (rw [hji3] at H; exact H) | (simp only [hji3] at H ⊢; exact H)
 (try rw [hji3] at A2)
 have hji3_ : (if a0 < t179 then t179 else a0) = ji3 := hji3
 obtain rfl := Option.some.inj H
 go_enter Tryz.func102, Tryz.ntmps102
 go_wp2_with (first | ((with_reducible refine gate_callee (f := 122) rfl ?_); refine goesL_ (some 5) rfl rfl Tryz.func122 (by kernel_rfl) rfl #[.int .i64 a0, .int .i64 (-1)] rfl zL ?_; (with_reducible refine (fixed_Mul.calls k a0 (-1) t179 _ A2.out).mono ?_); rintro e w' ⟨rfl, ⟨nd, rfl⟩⟩; refine ⟨_, rfl, ?_⟩))
 go_ret
 exact ⟨by first | rfl | (simp [errW_none, errW_some] <;> rfl) | (simp only [← hji3]; first | rfl | (simp [errW_none, errW_some] <;> rfl)) | (simp [*, errW_none, errW_some] <;> rfl), zB⟩
end Go.Proofs.YtebipmdopdogkaaGreatDoor.QA
