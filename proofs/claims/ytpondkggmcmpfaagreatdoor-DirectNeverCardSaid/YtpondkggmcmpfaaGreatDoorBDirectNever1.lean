/- Joined by wip/tools/bundle.py out of: Shelf WTab WFour WFootNe WAt WEqStruct WRepsOne WInv WInvWords WGuard QAx0 QAx1 QAx2 QAx3 QAx4 QAx5. -/
import Derived.Shelf.Small.Bits
import Derived.Shelf.Strconv.Itoa0
import Derived.Shelf.Bits.Mul64
import Derived.Ground.SlsfProg
import Derived.Shelf.SlSortCmp.Insertion
import Derived.Shelf.SlSortCmp.Insertion1
import Derived.Test.YtpondkggmcmpfaaGreatDoorProg
import Derived.Test.YtpondkggmcmpfaaGreatDoorBDirectNever0
import Derived.Laws.StructEq
import Derived.Below
import Derived.Deep.Draws
import Derived.Deep.AppendLies
import Derived.Maps.AppendAt
import Derived.OwnWalk
import Derived.Laws.BytesArg
import Derived.Laws.MakeOwn
import Derived.Laws.OwnMore
import Derived.Deep.OwnRows
import Derived.Tactics
import Derived.Lib.ConvBytes
import Derived.Laws.Slices
import Derived.WalkKit
import Derived.KernelRfl
import Derived.RowKit3
import Derived.Deep.LoopGhost
import Derived.Deep.QuietTactic
import Derived.BigQuiet
import Derived.WideLaws
import Derived.Deep.DeepCutAuto
import Derived.Deep.CutBlock
import Derived.Deep.RegionHeld3
import Derived.Laws.Rows
import Derived.Lib.AppendStr
import Derived.ArgAppend
import Derived.Laws.IdiomCopy
import Derived.OrdersHeld
import Derived.Laws.BitsLemmas
import Derived.RowKit
namespace Go.Proofs
open Go.Shelf
def Tryz.lays134_ren:Go.Shelf.Ren:=⟨fun|134=>179|129=>190|n=>n,fun|53=>177|3=>3|4=>4|46=>196|5=>5|9=>9|n=>n,fun|n=>n⟩
theorem Tryz.lays134:Go.Proofs.Lays.n134 Tryz.prog Tryz.lays134_ren:={
  mixed:=by kernel_rfl
  f129:=Tryz.func190.trans (congrArg some (by kernel_rfl))
  f134:=Tryz.func179.trans (congrArg some (by kernel_rfl))
  t3:=Tryz.underlying3
  a3:=Tryz.isAgg3
  z3:=Tryz.sizeOf3
  v3:=Tryz.zeroValue3
  t4:=Tryz.underlying4
  a4:=Tryz.isAgg4
  z4:=Tryz.sizeOf4
  v4:=Tryz.zeroValue4
  t5:=Tryz.underlying5
  a5:=Tryz.isAgg5
  z5:=Tryz.sizeOf5
  v5:=Tryz.zeroValue5
  t9:=Tryz.underlying9
  a9:=Tryz.isAgg9
  z9:=Tryz.sizeOf9
  v9:=Tryz.zeroValue9
  t46:=Tryz.underlying196
  a46:=Tryz.isAgg196
  z46:=Tryz.sizeOf196
  v46:=Tryz.zeroValue196
  t53:=Tryz.underlying177
  a53:=Tryz.isAgg177
  z53:=Tryz.sizeOf177
  v53:=Tryz.zeroValue177 }
theorem Tryz.bits_LeadingZeros64 (x:Int) (w:World) (h0:0≤x) (h1:x≤18446744073709551615) :
    Calls Tryz.prog 179 #[.int .u64 x] w fun e w'=>e = .returned (.int .i64 (64 - (Lib.bitLen x.toNat:Int)))∧w'=w:=Any.bits_LeadingZeros64 Tryz.lays134 x w h0 h1
def Tryz.lays264_ren:Go.Shelf.Ren:=⟨fun|264=>178|n=>n,fun|53=>177|46=>196|n=>n,fun|n=>n⟩
theorem Tryz.lays264:Go.Proofs.Lays.n264 Tryz.prog Tryz.lays264_ren:={
  mixed:=by kernel_rfl
  f264:=Tryz.func178.trans (congrArg some (by kernel_rfl))
  t46:=Tryz.underlying196
  a46:=Tryz.isAgg196
  z46:=Tryz.sizeOf196
  v46:=Tryz.zeroValue196
  t53:=Tryz.underlying177
  a53:=Tryz.isAgg177
  z53:=Tryz.sizeOf177
  v53:=Tryz.zeroValue177 }
open Go.RowKit Go.Lib in
theorem Tryz.bits_Mul64 (x y:Nat) (hx:x < 18446744073709551616) (hy:y < 18446744073709551616) (w:World) :
    Calls Tryz.prog 178 #[.int .u64 x,.int .u64 y] w fun e w'=>e = .returned (.tuple #[.int .u64 ((x*y / 18446744073709551616:Nat):Int),.int .u64 ((x*y % 18446744073709551616:Nat):Int)])∧w'=w:=Any.bits_Mul64 Tryz.lays264 x y hx hy w
def Tryz.lays212_ren:Go.Shelf.Ren:=⟨fun|212=>173|263=>187|264=>178|n=>n,fun|46=>196|51=>229|146=>230|53=>177|148=>208|n=>n,fun|n=>n⟩
theorem Tryz.lays212:Go.Proofs.Lays.n212 Tryz.prog Tryz.lays212_ren:={
  mixed:=by kernel_rfl
  f212:=Tryz.func173.trans (congrArg some (by kernel_rfl))
  f263:=Tryz.func187.trans (congrArg some (by kernel_rfl))
  f264:=Tryz.func178.trans (congrArg some (by kernel_rfl))
  t46:=Tryz.underlying196
  a46:=Tryz.isAgg196
  z46:=Tryz.sizeOf196
  v46:=Tryz.zeroValue196
  t51:=Tryz.underlying229
  a51:=Tryz.isAgg229
  z51:=Tryz.sizeOf229
  v51:=Tryz.zeroValue229
  t53:=Tryz.underlying177
  a53:=Tryz.isAgg177
  z53:=Tryz.sizeOf177
  v53:=Tryz.zeroValue177
  t146:=Tryz.underlying230
  a146:=Tryz.isAgg230
  z146:=Tryz.sizeOf230
  v146:=Tryz.zeroValue230
  t148:=Tryz.underlying208
  a148:=Tryz.isAgg208
  z148:=Tryz.sizeOf208
  v148:=Tryz.zeroValue208 }
open Go.RowKit Go.Lib in
theorem Tryz.bits_Mul (x y:Nat) (hx:x < 18446744073709551616) (hy:y < 18446744073709551616) (w:World) :
    Calls Tryz.prog 173 #[.int .u64 x,.int .u64 y] w fun e w'=>e = .returned (.tuple #[.int .u64 ((x*y / 18446744073709551616:Nat):Int),.int .u64 ((x*y % 18446744073709551616:Nat):Int)])∧w'=w:=Any.bits_Mul Tryz.lays212 x y hx hy w
end Go.Proofs
namespace Go.Proofs.YtpondkggmcmpfaaGreatDoorW.PrintLast
open Go.Proofs.YtpondkggmcmpfaaGreatDoorW.PrintWords (aj)
def abK (md:Region.Mode) (o:Oper):List Nat:=(o.after.toList.filter (fun e=>Region.binds md e)).map (fun e=>e.on)
def aiu (md:Region.Mode) (ops:Array Oper) (i:Nat) (oi:Oper):List Nat:=(List.range ops.size).filter fun j => !(j == i) && match ops[j]? with
  | some oj => !(oj.after.any (fun e=>Region.binds md e && e.on == i) || oi.apart ops oj)
  | none=>false
def uh (md:Region.Mode) (ops:Array Oper):Bool × List (List Nat × List Nat):=(Region.noSelect ops,(List.range ops.size).map fun i=>match ops[i]? with
  | some o=>(abK md o,aiu md ops i o)
  | none=>([],[]))
def yQ (T:List (List Nat × List Nat)) (l:List Bool) (i:Nat):Bool := !l.getD i true && match T[i]? with
  | some r=>r.1.all (fun j=>l.getD j false)
  | none=>false
def aex (T:List (List Nat × List Nat)) (l:List Bool):List Nat:=(List.range T.length).filter (yQ T l)
def ahg (T:List (List Nat × List Nat)) (l:List Bool) (i:Nat):Bool:=match T[i]? with
  | some r=>r.2.all (fun j=>l.getD j true)
  | none=>false
def afC (T:List (List Nat × List Nat)) (l:List Bool):Bool:=(List.range T.length).all fun j => !l.getD j false || match T[j]? with
  | some r=>r.1.all (fun k=>l.getD k false)
  | none=>true
def adh (T:List (List Nat × List Nat)) (i:Nat):Nat→Nat→Bool
  | 0,_=>false
  | fuel+1,d=>match T[d]? with
    | some r=>r.1.any fun j=>j == i || adh T i fuel j
    | none=>false
def lastT (T:List (List Nat × List Nat)) (l:List Bool) (ds:List Nat) (i:Nat):Bool:=ds.all fun d=>l.getD d true || adh T i T.length d
section
variable {md:Region.Mode} {ops:Array Oper} {T:Bool × List (List Nat × List Nat)} {l l' li lj lk:Array Bool} {ds:List Nat} {i j k:Nat}
theorem gd (l:Array Bool) (j:Nat) (b:Bool):l.getD j b=l.toList.getD j b:=by simp [Array.getD_eq_getD_getElem?,List.getD_eq_getElem?_getD]
theorem ajl (o:Oper) (p:Nat→Bool):o.after.all (fun e => !Region.binds md e || p e.on)=(abK md o).all p:=by
  unfold abK
  rw [← Array.all_toList]
  induction o.after.toList with
  | nil=>rfl
  | cons e r ih =>
    rw [List.all_cons,ih,List.filter_cons]
    cases h:Region.binds md e <;> simp
theorem ao6 (o:Oper) (p:Nat→Bool):o.after.any (fun e=>Region.binds md e && p e.on)=(abK md o).any p:=by
  unfold abK
  rw [← Array.any_toList]
  induction o.after.toList with
  | nil=>rfl
  | cons e r ih =>
    rw [List.any_cons,ih,List.filter_cons]
    cases h:Region.binds md e <;> simp
theorem aaQ:(uh md ops).2.length=ops.size:=by simp [uh]
theorem acu {o:Oper} (h:ops[i]? = some o):(uh md ops).2[i]? = some (abK md o,aiu md ops i o):=by
  have hi:=(Array.getElem?_eq_some_iff.1 h).1
  unfold uh
  rw [List.getElem?_map,List.getElem?_range hi,Option.map_some,h]
theorem acv (h:ops[i]? = none):(uh md ops).2[i]? = none:=by
  have hi:ops.size≤i:=Array.getElem?_eq_none_iff.1 h
  exact List.getElem?_eq_none (by rw [aaQ];exact hi)
theorem ank:yQ (uh md ops).2 l.toList i=(!l.getD i true && ((ops[i]?).map (·.after.all fun e => !Region.binds md e || l.getD e.on false)).getD false):=by
  unfold yQ
  rw [gd]
  cases h:ops[i]? with
  | none=>rw [acv h];rfl
  | some o =>
    rw [acu h]
    simp only [Option.map_some,Option.getD_some]
    rw [← ajl]
    simp only [gd]
theorem ready_eq:Region.ready md ops l=aex (uh md ops).2 l.toList:=by
  unfold Region.ready aex
  rw [aaQ]
  refine List.filter_congr (fun i _ => ?_)
  rw [ank]
theorem free_eq:Region.free md ops l i=ahg (uh md ops).2 l.toList i:=by
  unfold Region.free ahg
  cases h:ops[i]? with
  | none=>rw [acv h]
  | some oi =>
    rw [acu h]
    simp only [aiu]
    rw [List.all_filter]
    congr 1
    funext j
    rw [gd]
    cases hj:ops[j]? with
    | none=>cases (j == i) <;> cases (l.toList.getD j true) <;> simp
    | some oj =>
      cases (j == i) <;> cases (l.toList.getD j true) <;> cases (oj.after.any (fun e=>Region.binds md e && e.on == i) || oi.apart ops oj) <;> simp_all
theorem ao7:Region.adb md ops l=afC (uh md ops).2 l.toList:=by
  unfold Region.adb afC
  rw [aaQ]
  congr 1
  funext j
  rw [gd]
  cases h:ops[j]? with
  | none=>rw [acv h]
  | some o =>
    rw [acu h]
    simp only
    rw [← ajl]
    simp only [gd]
theorem reach_eq:∀ (fuel d:Nat),Region.vW md ops i fuel d=adh (uh md ops).2 i fuel d
  | 0,_=>rfl
  | fuel+1,d=>by
    unfold Region.vW adh
    cases h:ops[d]? with
    | none=>rw [acv h]
    | some o =>
      rw [acu h]
      simp only
      rw [← ao6]
      congr 1
      funext e
      rw [reach_eq fuel]
theorem atr:Region.lastB md ops l ds i=lastT (uh md ops).2 l.toList ds i:=by
  unfold Region.lastB lastT
  rw [aaQ]
  congr 1
  funext d
  rw [gd,reach_eq]
theorem agb (h:yQ T.2 l.toList i=true) (hT:uh md ops=T):(Region.ready md ops l).contains i=true:=by
  subst hT
  rw [ready_eq]
  unfold aex
  rw [List.contains_iff_mem,List.mem_filter,List.mem_range]
  refine ⟨?_,h⟩
  unfold yQ at h
  rw [Bool.and_eq_true] at h
  cases hq:(uh md ops).2[i]? with
  | none=>rw [hq] at h;simp at h
  | some r=>exact (List.getElem?_eq_some_iff.1 hq).1
theorem akH (h:(l.toList.set i true == l'.toList)=true):(l.setIfInBounds i true == l')=true:=by
  rw [beq_iff_eq] at h ⊢
  apply Array.ext'
  rw [Array.toList_setIfInBounds]
  exact h
def auu (T:Bool × List (List Nat × List Nat)) (l l':List Bool) (i:Nat):Bool:=T.1 && ahg T.2 l i && yQ T.2 l i && (l.set i true == l')
theorem adi (hT:uh md ops=T) (h:auu T l.toList l'.toList i=true):anc md ops l l' i=true:=by
  simp only [auu,Bool.and_eq_true] at h
  obtain ⟨⟨⟨h1,h2⟩,h3⟩,h4⟩:=h
  have h5:=agb h3 hT
  have h6:=akH h4
  subst hT
  simp only [anc,Bool.and_eq_true]
  exact ⟨⟨⟨h1,by rw [free_eq];exact h2⟩,h5⟩,h6⟩
def anl (T:Bool × List (List Nat × List Nat)) (ds:List Nat) (l l':List Bool) (i:Nat):Bool:=T.1 && ahg T.2 l i && yQ T.2 l i && afC T.2 l && lastT T.2 l ds i && (l.set i true == l')
theorem att (hT:uh md ops=T) (h:anl T ds l.toList l'.toList i=true):takeB md ops ds l l' i=true:=by
  simp only [anl,Bool.and_eq_true] at h
  obtain ⟨⟨⟨⟨⟨h1,h2⟩,h3⟩,h4⟩,h5⟩,h6⟩:=h
  have h7:=agb h3 hT
  have h8:=akH h6
  subst hT
  simp only [takeB,Bool.and_eq_true]
  exact ⟨⟨⟨⟨⟨h1,by rw [free_eq];exact h2⟩,h7⟩,by rw [ao7];exact h4⟩,by rw [atr];exact h5⟩,h8⟩
theorem ao8 (hT:uh md ops=T) (h:(aex T.2 l.toList == [i] && l.toList.set i true == l'.toList)=true):adf md ops l l' i=true:=by
  simp only [Bool.and_eq_true] at h
  obtain ⟨h1,h2⟩:=h
  subst hT
  simp only [adf,Bool.and_eq_true]
  exact ⟨by rw [ready_eq];exact h1,akH h2⟩
theorem atu (hT:uh md ops=T) (h:(aex T.2 l.toList == [])=true):(Region.ready md ops l == [])=true:=by
  subst hT
  rw [ready_eq]
  exact h
def upM (B:List Nat) (d:Nat):List Nat→Nat
  | []=>0
  | n :: r=>(2 ^ n ||| (if n < d then B.getD n 0 else 0)) ||| upM B d r
def adk (T:List (List Nat × List Nat)) (B:List Nat):Bool:=(List.range T.length).all fun d=>match T[d]? with
  | some r=>(B.getD d 0 ||| upM B d r.1) == upM B d r.1
  | none=>false
theorem amI {B:List Nat} {d i:Nat}:∀ {ns:List Nat},(upM B d ns).testBit i=true→∃ n ∈ ns,n=i∨(n < d∧(B.getD n 0).testBit i=true)
  | [],h=>by simp [upM] at h
  | n :: r,h=>by
    unfold upM at h
    rw [Nat.testBit_or,Nat.testBit_or,Bool.or_eq_true,Bool.or_eq_true] at h
    rcases h with (h|h)|h
    · rw [Nat.testBit_two_pow] at h
      exact ⟨n,List.mem_cons_self,.inl (by simpa using h)⟩
    · by_cases hn:n < d
      · rw [if_pos hn] at h
        exact ⟨n,List.mem_cons_self,.inr ⟨hn,h⟩⟩
      · rw [if_neg hn] at h
        simp at h
    · obtain ⟨m,hm,h2⟩:=amI h
      exact ⟨m,List.mem_cons_of_mem _ hm,h2⟩
theorem ajm {T:List (List Nat × List Nat)} {B:List Nat} (hB:adk T B=true):∀ (fuel d:Nat),d < fuel→d < T.length→(B.getD d 0).testBit i=true→adh T i fuel d=true
  | 0,d,h,_,_=>by omega
  | fuel+1,d,h,hd,hb=>by
    have h1:=List.all_eq_true.1 hB d (List.mem_range.2 hd)
    cases hr:T[d]? with
    | none=>rw [hr] at h1;simp at h1
    | some r =>
      rw [hr] at h1
      simp only [beq_iff_eq] at h1
      have h2:(upM B d r.1).testBit i=true:=by rw [← h1,Nat.testBit_or,hb,Bool.true_or]
      obtain ⟨n,hn,h3⟩:=amI h2
      unfold adh
      rw [hr]
      simp only
      rw [List.any_eq_true]
      refine ⟨n,hn,?_⟩
      rcases h3 with rfl|⟨h4,h5⟩
      · simp
      · rw [ajm hB fuel n (by omega) (by omega) h5,Bool.or_true]
def asw (T:List (List Nat × List Nat)) (B:List Nat) (l:List Bool) (ds:List Nat) (i:Nat):Bool:=ds.all fun d=>l.getD d true || (decide (d < T.length) && (B.getD d 0).testBit i)
def asx (T:Bool × List (List Nat × List Nat)) (B:List Nat) (ds:List Nat) (l l':List Bool) (i:Nat):Bool:=T.1 && ahg T.2 l i && yQ T.2 l i && afC T.2 l && asw T.2 B l ds i && (l.set i true == l')
theorem apX {B:List Nat} (hT:uh md ops=T) (hB:adk T.2 B=true) (h:asx T B ds l.toList l'.toList i=true):takeB md ops ds l l' i=true:=by
  refine att hT ?_
  simp only [asx,anl,Bool.and_eq_true] at h ⊢
  obtain ⟨⟨⟨⟨⟨h1,h2⟩,h3⟩,h4⟩,h5⟩,h6⟩:=h
  refine ⟨⟨⟨⟨⟨h1,h2⟩,h3⟩,h4⟩,?_⟩,h6⟩
  unfold asw at h5
  unfold lastT
  rw [List.all_eq_true] at h5 ⊢
  intro d hd
  have h7:=h5 d hd
  rw [Bool.or_eq_true,Bool.and_eq_true,decide_eq_true_eq] at h7
  rcases h7 with h7|⟨h8,h9⟩
  · rw [h7,Bool.true_or]
  · rw [ajm hB _ d h8 h8 h9,Bool.or_true]
theorem ao9 {P:Program} {Q:Exit→Act→World→Prop} {S:World→Prop} {n:Nat} {a:Act} {w:World} {B:List Nat} (hT:uh md ops=T) (hB:adk T.2 B=true) (h:aj (uh md ops=T)→aj (adk T.2 B=true)→iq P md ops Q S ds n l a w):iq P md ops Q S ds n l a w:=h ⟨hT⟩ ⟨hB⟩
end
def aaR:Code→Nat→Option (Array Oper)
  | .region id ops _,k=>if id == k then some ops else none
  | .seq a b,k=>match aaR a k with
    | some o=>some o
    | none=>aaR b k
  | .cond _ a b,k=>match aaR a k with
    | some o=>some o
    | none=>aaR b k
  | .block _ c,k=>aaR c k
  | .loop c,k=>aaR c k
  | .scope c,k=>aaR c k
  | .rangeFunc _ _ a b,k=>match aaR a k with
    | some o=>some o
    | none=>aaR b k
  | _,_=>none
def opsOf (f:Func) (k:Nat):Array Oper:=((f.body.bind fun c=>aaR c k)).getD #[]
end Go.Proofs.YtpondkggmcmpfaaGreatDoorW.PrintLast
namespace Go.Proofs.YtpondkggmcmpfaaGreatDoorW.PrintLast
section
variable {P:Program} {ops:Array Oper} {Q:Exit→Act→World→Prop} {md:Region.Mode} {S:World→Prop} {ds:List Nat} {T:Bool × List (List Nat × List Nat)}
end
end Go.Proofs.YtpondkggmcmpfaaGreatDoorW.PrintLast
namespace Go.Proofs.YtpondkggmcmpfaaGreatDoorW.PrintWords
open Go.RowKit
namespace Kd
section
variable {α:Type} {d:Kd α} {W:World} {g n:Nat} {S ok:Nat→Prop} {A:Option Addr} {ad:Addr} {xs:List α}
end
end Kd
end Go.Proofs.YtpondkggmcmpfaaGreatDoorW.PrintWords
namespace Go.Proofs.YtpondkggmcmpfaaGreatDoorW.PrintWords
open Go.RowKit
section
variable {w w' u:World} {m B g:Nat} {o:Obj} {row:Option Nat} {S:Nat→Prop} {a:Addr} {v:Value}
end
namespace Kd
section
variable {α:Type} {d:Kd α} {e base n m:Nat} {ok:Nat→Prop} {w w':World} {v:Value} {A:Option Addr} {xs:List α}
end
end Kd
end Go.Proofs.YtpondkggmcmpfaaGreatDoorW.PrintWords
namespace Go.Proofs.YtpondkggmcmpfaaGreatDoorW.PrintWords
open Go.RowKit
section
variable {P:Program} {d:Nat} {xs ys:Array Value} {f:Field} {fs:List Field} {a b:Value} {r s:Bool} {w:World}
end
end Go.Proofs.YtpondkggmcmpfaaGreatDoorW.PrintWords
namespace Go.Proofs.YtpondkggmcmpfaaGreatDoorW.PrintWords
theorem jw.one {α:Type} {R:α→List Value→Prop} {ps:List α} {cs:List Value} {p:α} {v:Value} (hp:R p [v]) (h:jw R 1 ps cs):jw R 1 (p :: ps) (v :: cs):=by
  refine ⟨by simp [h.1],fun j q hq => ?_⟩
  cases j with
  | zero =>
    simp only [List.getElem?_cons_zero,Option.some.injEq] at hq
    subst hq
    simpa using hp
  | succ j =>
    simp only [List.getElem?_cons_succ] at hq
    have h1:=h.2 j q hq
    simpa [Nat.mul_one] using h1
end Go.Proofs.YtpondkggmcmpfaaGreatDoorW.PrintWords
namespace Go.Proofs.YtpondkggmcmpfaaGreatDoorW.PrintLast
section
variable {P:Program} {ops:Array Oper} {Q:Exit→Act→World→Prop} {md:Region.Mode} {T:Bool × List (List Nat × List Nat)} {B:List Nat} {O:List Nat} {b:Nat→Bool} {i j n:Nat}
end
end Go.Proofs.YtpondkggmcmpfaaGreatDoorW.PrintLast
namespace Go.Proofs.YtpondkggmcmpfaaGreatDoorW.PrintWords
open Go.RowKit
end Go.Proofs.YtpondkggmcmpfaaGreatDoorW.PrintWords
namespace Go.Proofs.YtpondkggmcmpfaaGreatDoorW.PrintLast
section
variable {ops:Array Oper} {a:Act} {o og:Oper} {g:Nat} {t:Tmp} {u:Bool}
end
end Go.Proofs.YtpondkggmcmpfaaGreatDoorW.PrintLast
namespace Go.Proofs.YtpondkggmcmpfaaGreatDoorW.PrintWords
open Go.RowKit
section
variable {P:Program} {ops:Array Oper} {rest:List Oper} {o:Oper} {a:Act} {Q:Exit→Act→World→Prop} {W:World}
theorem kT (hw:Region.wanted o (yielded ops a.tmps)=true) (h:wpList P ops Q ({ o with guard:=none } :: rest) a W):wpList P ops Q (o :: rest) a W:=by
  have h1:Region.wanted { o with guard:=none } (yielded ops a.tmps)=true:=rfl
  unfold wpList at h ⊢
  rw [if_pos h1] at h
  rw [if_pos hw]
  exact h
end
end Go.Proofs.YtpondkggmcmpfaaGreatDoorW.PrintWords
namespace Go.Proofs.YtpondkggmcmpfaaGreatDoor.QA
open Go.Proofs.YtpondkggmcmpfaaGreatDoor.T
open Go.RowKit Go.Proofs.YtpondkggmcmpfaaGreatDoorW.PrintWords Go.Proofs.YtpondkggmcmpfaaGreatDoorW.PrintLast Go.Proofs.YtpondkggmcmpfaaGreatDoorW.PrintMore
attribute [local go_sem] dV dP dQ fC fD
set_option linter.unusedVariables false
set_option linter.unusedSimpArgs false
def auv:Option Int→Value
 | none => .nilIface
 | some c => .iface 0 (.int .i64 c)
theorem bH:auv none = .nilIface:=rfl
theorem bI (c:Int):auv (some c) = .iface 0 (.int .i64 c):=rfl
theorem wK:(Tryz.prog.info? 2).map (fun i=>(i.zero,i.size,i.bytes))=some (some (.int .i64 0),1,8):=by kernel_rfl
theorem atv:(Tryz.prog.info? 138).map (fun i=>(i.zero,i.size,i.bytes))=some (some (.agg #[(.int .i64 0),(.slice none 0 0)]),2,32):=by kernel_rfl
structure S71 where
 f0:Int
 f1:(List Int)
def z71:S71:=⟨(0:Int),([]:List Int)⟩
def k71:Kd S71:=Kd.iso (Kd.pair (Kd.int .i64) (Kd.slice 2 (Kd.int .i64))) (fun x:S71=>(x.f0,x.f1))
theorem apY {w:World} {x:S71} {cs:List Value} (h:k71.K w x cs):∃ A1 c1,cs=[.int .i64 x.f0,.slice A1 x.f1.length c1]∧x.f1.length≤c1∧(Kd.int .i64).C w A1 x.f1.length x.f1:=by
 obtain ⟨_,_,rfl,rfl,⟨A1,c1,rfl,l1,g1⟩⟩:=h
 exact ⟨A1,c1,rfl,l1,g1⟩
theorem atw (w:World) (base:Nat) (ok:Nat→Prop) (x:S71) {v1:Value} (g1:(Kd.int .i64).R 2 w base ok v1 x.f1):k71.M w base ok x [.int .i64 x.f0,v1]:=⟨[.int .i64 x.f0],[v1],rfl,rfl,⟨v1,rfl,g1⟩⟩
def fH (xs:List S71) (i:Int):S71:=xs.getD i.toNat z71
theorem akI {w:World} {A:Option Addr} {n:Nat} {xs:List S71} (h:Kd.C k71 w A n xs) (i:Int) (h0:0≤i) (h1:i < n):∃ ad A1 c1,A=some ad∧w.cell? (ad.add (i.toNat*2))=some (.int .i64 (fH xs i).f0)∧w.cell? ⟨(ad.add (i.toNat*2)).block,(ad.add (i.toNat*2)).off+1,none⟩=some (.slice A1 (fH xs i).f1.length c1)∧(fH xs i).f1.length≤c1∧(Kd.int .i64).C w A1 (fH xs i).f1.length (fH xs i).f1:=by
 obtain ⟨ad,c,e,_,hK,hc0⟩:=Kd.akc h z71 i h0 h1
 have hc:∀ j u,c[j]? = some u→w.cell? (ad.add (i.toNat*2+j))=some u:=hc0
 obtain ⟨A1,c1,rfl,l1,g1⟩:=apY hK
 exact ⟨ad,A1,c1,e,hc 0 _ rfl,by rw [← jO _ _ 1 (by omega)];exact hc 1 _ rfl,l1,g1⟩
structure S47 where
 f0:Int
 f1:Int
 f2:Int
 f3:Int
 f4:(List Int)
 f5:(List Int)
 f6:Int
 f7:Int
 f8:Int
def z47:S47:=⟨(0:Int),(0:Int),(0:Int),(0:Int),([]:List Int),([]:List Int),(0:Int),(0:Int),(0:Int)⟩
def k47:Kd S47:=Kd.iso (Kd.pair (Kd.int .i64) (Kd.pair (Kd.int .i64) (Kd.pair (Kd.int .i64) (Kd.pair (Kd.int .i64) (Kd.pair (Kd.slice 2 (Kd.int .i64)) (Kd.pair (Kd.slice 2 (Kd.int .i64)) (Kd.pair (Kd.int .i64) (Kd.pair (Kd.int .i64) (Kd.int .i64))))))))) (fun x:S47=>(x.f0,x.f1,x.f2,x.f3,x.f4,x.f5,x.f6,x.f7,x.f8))
theorem apZ {w:World} {x:S47} {cs:List Value} (h:k47.K w x cs):∃ A4 c4 A5 c5,cs=[.int .i64 x.f0,.int .i64 x.f1,.int .i64 x.f2,.int .i64 x.f3,.slice A4 x.f4.length c4,.slice A5 x.f5.length c5,.int .i64 x.f6,.int .i64 x.f7,.int .i64 x.f8]∧x.f4.length≤c4∧(Kd.int .i64).C w A4 x.f4.length x.f4∧x.f5.length≤c5∧(Kd.int .i64).C w A5 x.f5.length x.f5:=by
 obtain ⟨_,_,rfl,rfl,⟨_,_,rfl,rfl,⟨_,_,rfl,rfl,⟨_,_,rfl,rfl,⟨_,_,rfl,⟨A4,c4,rfl,l4,g4⟩,⟨_,_,rfl,⟨A5,c5,rfl,l5,g5⟩,⟨_,_,rfl,rfl,⟨_,_,rfl,rfl,rfl⟩⟩⟩⟩⟩⟩⟩⟩:=h
 exact ⟨A4,c4,A5,c5,rfl,l4,g4,l5,g5⟩
theorem auw (w:World) (x:S47) {A4:Option Addr} {c4:Nat} (l4:x.f4.length≤c4) (g4:(Kd.int .i64).C w A4 x.f4.length x.f4) {A5:Option Addr} {c5:Nat} (l5:x.f5.length≤c5) (g5:(Kd.int .i64).C w A5 x.f5.length x.f5):k47.K w x [.int .i64 x.f0,.int .i64 x.f1,.int .i64 x.f2,.int .i64 x.f3,.slice A4 x.f4.length c4,.slice A5 x.f5.length c5,.int .i64 x.f6,.int .i64 x.f7,.int .i64 x.f8]:=⟨[.int .i64 x.f0],[.int .i64 x.f1,.int .i64 x.f2,.int .i64 x.f3,.slice A4 x.f4.length c4,.slice A5 x.f5.length c5,.int .i64 x.f6,.int .i64 x.f7,.int .i64 x.f8],rfl,rfl,⟨[.int .i64 x.f1],[.int .i64 x.f2,.int .i64 x.f3,.slice A4 x.f4.length c4,.slice A5 x.f5.length c5,.int .i64 x.f6,.int .i64 x.f7,.int .i64 x.f8],rfl,rfl,⟨[.int .i64 x.f2],[.int .i64 x.f3,.slice A4 x.f4.length c4,.slice A5 x.f5.length c5,.int .i64 x.f6,.int .i64 x.f7,.int .i64 x.f8],rfl,rfl,⟨[.int .i64 x.f3],[.slice A4 x.f4.length c4,.slice A5 x.f5.length c5,.int .i64 x.f6,.int .i64 x.f7,.int .i64 x.f8],rfl,rfl,⟨[.slice A4 x.f4.length c4],[.slice A5 x.f5.length c5,.int .i64 x.f6,.int .i64 x.f7,.int .i64 x.f8],rfl,⟨A4,c4,rfl,l4,g4⟩,⟨[.slice A5 x.f5.length c5],[.int .i64 x.f6,.int .i64 x.f7,.int .i64 x.f8],rfl,⟨A5,c5,rfl,l5,g5⟩,⟨[.int .i64 x.f6],[.int .i64 x.f7,.int .i64 x.f8],rfl,rfl,⟨[.int .i64 x.f7],[.int .i64 x.f8],rfl,rfl,rfl⟩⟩⟩⟩⟩⟩⟩⟩
def dU (xs:List S47) (i:Int):S47:=xs.getD i.toNat z47
theorem akJ {w:World} {A:Option Addr} {n:Nat} {xs:List S47} (h:Kd.C k47 w A n xs) (i:Int) (h0:0≤i) (h1:i < n):∃ ad A4 c4 A5 c5,A=some ad∧w.cell? (ad.add (i.toNat*9))=some (.int .i64 (dU xs i).f0)∧w.cell? ⟨(ad.add (i.toNat*9)).block,(ad.add (i.toNat*9)).off+1,none⟩=some (.int .i64 (dU xs i).f1)∧w.cell? ⟨(ad.add (i.toNat*9)).block,(ad.add (i.toNat*9)).off+2,none⟩=some (.int .i64 (dU xs i).f2)∧w.cell? ⟨(ad.add (i.toNat*9)).block,(ad.add (i.toNat*9)).off+3,none⟩=some (.int .i64 (dU xs i).f3)∧w.cell? ⟨(ad.add (i.toNat*9)).block,(ad.add (i.toNat*9)).off+4,none⟩=some (.slice A4 (dU xs i).f4.length c4)∧w.cell? ⟨(ad.add (i.toNat*9)).block,(ad.add (i.toNat*9)).off+5,none⟩=some (.slice A5 (dU xs i).f5.length c5)∧w.cell? ⟨(ad.add (i.toNat*9)).block,(ad.add (i.toNat*9)).off+6,none⟩=some (.int .i64 (dU xs i).f6)∧w.cell? ⟨(ad.add (i.toNat*9)).block,(ad.add (i.toNat*9)).off+7,none⟩=some (.int .i64 (dU xs i).f7)∧w.cell? ⟨(ad.add (i.toNat*9)).block,(ad.add (i.toNat*9)).off+8,none⟩=some (.int .i64 (dU xs i).f8)∧(dU xs i).f4.length≤c4∧(Kd.int .i64).C w A4 (dU xs i).f4.length (dU xs i).f4∧(dU xs i).f5.length≤c5∧(Kd.int .i64).C w A5 (dU xs i).f5.length (dU xs i).f5:=by
 obtain ⟨ad,c,e,_,hK,hc0⟩:=Kd.akc h z47 i h0 h1
 have hc:∀ j u,c[j]? = some u→w.cell? (ad.add (i.toNat*9+j))=some u:=hc0
 obtain ⟨A4,c4,A5,c5,rfl,l4,g4,l5,g5⟩:=apZ hK
 exact ⟨ad,A4,c4,A5,c5,e,hc 0 _ rfl,by rw [← jO _ _ 1 (by omega)];exact hc 1 _ rfl,by rw [← jO _ _ 2 (by omega)];exact hc 2 _ rfl,by rw [← jO _ _ 3 (by omega)];exact hc 3 _ rfl,by rw [← jO _ _ 4 (by omega)];exact hc 4 _ rfl,by rw [← jO _ _ 5 (by omega)];exact hc 5 _ rfl,by rw [← jO _ _ 6 (by omega)];exact hc 6 _ rfl,by rw [← jO _ _ 7 (by omega)];exact hc 7 _ rfl,by rw [← jO _ _ 8 (by omega)];exact hc 8 _ rfl,l4,g4,l5,g5⟩
structure lV where
 f0:Int
 f1:(List Int)
def aaq:Kd lV:=Kd.iso (Kd.pair (Kd.int .i64) (Kd.slice 2 (Kd.int .i64))) (fun x:lV=>(x.f0,x.f1))
theorem akK (w:World) (base:Nat) (ok:Nat→Prop) (x:lV) {v1:Value} (g1:(Kd.int .i64).R 2 w base ok v1 x.f1):aaq.M w base ok x [.int .i64 x.f0,v1]:=⟨[.int .i64 x.f0],[v1],rfl,rfl,⟨v1,rfl,g1⟩⟩
structure adx where
 f0:Int
 f1:Int
 f2:Int
 f3:Int
 f4:(List Int)
 f5:(List Int)
 f6:Int
 f7:Int
 f8:Int
def auy:adx:=⟨(0:Int),(0:Int),(0:Int),(0:Int),([]:List Int),([]:List Int),(0:Int),(0:Int),(0:Int)⟩
def abQ:Kd adx:=Kd.iso (Kd.pair (Kd.int .i64) (Kd.pair (Kd.int .i64) (Kd.pair (Kd.int .i64) (Kd.pair (Kd.int .i64) (Kd.pair (Kd.slice 2 (Kd.int .i64)) (Kd.pair (Kd.slice 2 (Kd.int .i64)) (Kd.pair (Kd.int .i64) (Kd.pair (Kd.int .i64) (Kd.int .i64))))))))) (fun x:adx=>(x.f0,x.f1,x.f2,x.f3,x.f4,x.f5,x.f6,x.f7,x.f8))
theorem apa {w:World} {x:adx} {cs:List Value} (h:abQ.K w x cs):∃ A4 c4 A5 c5,cs=[.int .i64 x.f0,.int .i64 x.f1,.int .i64 x.f2,.int .i64 x.f3,.slice A4 x.f4.length c4,.slice A5 x.f5.length c5,.int .i64 x.f6,.int .i64 x.f7,.int .i64 x.f8]∧x.f4.length≤c4∧(Kd.int .i64).C w A4 x.f4.length x.f4∧x.f5.length≤c5∧(Kd.int .i64).C w A5 x.f5.length x.f5:=by
 obtain ⟨_,_,rfl,rfl,⟨_,_,rfl,rfl,⟨_,_,rfl,rfl,⟨_,_,rfl,rfl,⟨_,_,rfl,⟨A4,c4,rfl,l4,g4⟩,⟨_,_,rfl,⟨A5,c5,rfl,l5,g5⟩,⟨_,_,rfl,rfl,⟨_,_,rfl,rfl,rfl⟩⟩⟩⟩⟩⟩⟩⟩:=h
 exact ⟨A4,c4,A5,c5,rfl,l4,g4,l5,g5⟩
theorem atx (w:World) (x:adx) {A4:Option Addr} {c4:Nat} (l4:x.f4.length≤c4) (g4:(Kd.int .i64).C w A4 x.f4.length x.f4) {A5:Option Addr} {c5:Nat} (l5:x.f5.length≤c5) (g5:(Kd.int .i64).C w A5 x.f5.length x.f5):abQ.K w x [.int .i64 x.f0,.int .i64 x.f1,.int .i64 x.f2,.int .i64 x.f3,.slice A4 x.f4.length c4,.slice A5 x.f5.length c5,.int .i64 x.f6,.int .i64 x.f7,.int .i64 x.f8]:=⟨[.int .i64 x.f0],[.int .i64 x.f1,.int .i64 x.f2,.int .i64 x.f3,.slice A4 x.f4.length c4,.slice A5 x.f5.length c5,.int .i64 x.f6,.int .i64 x.f7,.int .i64 x.f8],rfl,rfl,⟨[.int .i64 x.f1],[.int .i64 x.f2,.int .i64 x.f3,.slice A4 x.f4.length c4,.slice A5 x.f5.length c5,.int .i64 x.f6,.int .i64 x.f7,.int .i64 x.f8],rfl,rfl,⟨[.int .i64 x.f2],[.int .i64 x.f3,.slice A4 x.f4.length c4,.slice A5 x.f5.length c5,.int .i64 x.f6,.int .i64 x.f7,.int .i64 x.f8],rfl,rfl,⟨[.int .i64 x.f3],[.slice A4 x.f4.length c4,.slice A5 x.f5.length c5,.int .i64 x.f6,.int .i64 x.f7,.int .i64 x.f8],rfl,rfl,⟨[.slice A4 x.f4.length c4],[.slice A5 x.f5.length c5,.int .i64 x.f6,.int .i64 x.f7,.int .i64 x.f8],rfl,⟨A4,c4,rfl,l4,g4⟩,⟨[.slice A5 x.f5.length c5],[.int .i64 x.f6,.int .i64 x.f7,.int .i64 x.f8],rfl,⟨A5,c5,rfl,l5,g5⟩,⟨[.int .i64 x.f6],[.int .i64 x.f7,.int .i64 x.f8],rfl,rfl,⟨[.int .i64 x.f7],[.int .i64 x.f8],rfl,rfl,rfl⟩⟩⟩⟩⟩⟩⟩⟩
def nV (xs:List adx) (i:Int):adx:=xs.getD i.toNat auy
theorem aty {w:World} {A:Option Addr} {n:Nat} {xs:List adx} (h:Kd.C abQ w A n xs) (i:Int) (h0:0≤i) (h1:i < n):∃ ad A4 c4 A5 c5,A=some ad∧w.cell? (ad.add (i.toNat*9))=some (.int .i64 (nV xs i).f0)∧w.cell? ⟨(ad.add (i.toNat*9)).block,(ad.add (i.toNat*9)).off+1,none⟩=some (.int .i64 (nV xs i).f1)∧w.cell? ⟨(ad.add (i.toNat*9)).block,(ad.add (i.toNat*9)).off+2,none⟩=some (.int .i64 (nV xs i).f2)∧w.cell? ⟨(ad.add (i.toNat*9)).block,(ad.add (i.toNat*9)).off+3,none⟩=some (.int .i64 (nV xs i).f3)∧w.cell? ⟨(ad.add (i.toNat*9)).block,(ad.add (i.toNat*9)).off+4,none⟩=some (.slice A4 (nV xs i).f4.length c4)∧w.cell? ⟨(ad.add (i.toNat*9)).block,(ad.add (i.toNat*9)).off+5,none⟩=some (.slice A5 (nV xs i).f5.length c5)∧w.cell? ⟨(ad.add (i.toNat*9)).block,(ad.add (i.toNat*9)).off+6,none⟩=some (.int .i64 (nV xs i).f6)∧w.cell? ⟨(ad.add (i.toNat*9)).block,(ad.add (i.toNat*9)).off+7,none⟩=some (.int .i64 (nV xs i).f7)∧w.cell? ⟨(ad.add (i.toNat*9)).block,(ad.add (i.toNat*9)).off+8,none⟩=some (.int .i64 (nV xs i).f8)∧(nV xs i).f4.length≤c4∧(Kd.int .i64).C w A4 (nV xs i).f4.length (nV xs i).f4∧(nV xs i).f5.length≤c5∧(Kd.int .i64).C w A5 (nV xs i).f5.length (nV xs i).f5:=by
 obtain ⟨ad,c,e,_,hK,hc0⟩:=Kd.akc h auy i h0 h1
 have hc:∀ j u,c[j]? = some u→w.cell? (ad.add (i.toNat*9+j))=some u:=hc0
 obtain ⟨A4,c4,A5,c5,rfl,l4,g4,l5,g5⟩:=apa hK
 exact ⟨ad,A4,c4,A5,c5,e,hc 0 _ rfl,by rw [← jO _ _ 1 (by omega)];exact hc 1 _ rfl,by rw [← jO _ _ 2 (by omega)];exact hc 2 _ rfl,by rw [← jO _ _ 3 (by omega)];exact hc 3 _ rfl,by rw [← jO _ _ 4 (by omega)];exact hc 4 _ rfl,by rw [← jO _ _ 5 (by omega)];exact hc 5 _ rfl,by rw [← jO _ _ 6 (by omega)];exact hc 6 _ rfl,by rw [← jO _ _ 7 (by omega)];exact hc 7 _ rfl,by rw [← jO _ _ 8 (by omega)];exact hc 8 _ rfl,l4,g4,l5,g5⟩
end Go.Proofs.YtpondkggmcmpfaaGreatDoor.QA
namespace Go.Proofs.YtpondkggmcmpfaaGreatDoor.QA
open Go.Proofs.YtpondkggmcmpfaaGreatDoor.T
open Go.RowKit Go.Proofs.YtpondkggmcmpfaaGreatDoorW.PrintWords Go.Proofs.YtpondkggmcmpfaaGreatDoorW.PrintLast Go.Proofs.YtpondkggmcmpfaaGreatDoorW.PrintMore
attribute [local go_sem] dV dP dQ fC fD
set_option linter.unusedVariables false
set_option linter.unusedSimpArgs false
def wL.f:Option (ByteArray):=some (⟨#[99,108,97,109,112]⟩:ByteArray)
set_option maxHeartbeats 8000000 in
set_option maxRecDepth 100000 in
theorem wL.calls (r:ByteArray) (w:World) (hG:GL w) (h:wL.f=some r) :
  Calls Tryz.prog 77 #[.int .i64 0] w fun e w'=>e = .returned (.string r)∧cO w w':=by
 have H:(some (⟨#[99,108,97,109,112]⟩:ByteArray))=some r:=h
 clear h
 obtain ⟨⟨aa8,aa9,abb,abd,abe,abf⟩,⟨abg,abh,abj,abk,abl,abm,abn⟩⟩:=hG
 obtain rfl:=Option.some.inj H
 go_enter Tryz.func77,Tryz.ntmps77
 go_wp2
 go_ret
 exact ⟨zT,zW⟩
def wM.f:Option (ByteArray):=some (⟨#[109,105,114,114,111,114]⟩:ByteArray)
set_option maxHeartbeats 8000000 in
set_option maxRecDepth 100000 in
theorem wM.calls (r:ByteArray) (w:World) (hG:GL w) (h:wM.f=some r) :
  Calls Tryz.prog 77 #[.int .i64 1] w fun e w'=>e = .returned (.string r)∧cO w w':=by
 have H:(some (⟨#[109,105,114,114,111,114]⟩:ByteArray))=some r:=h
 clear h
 obtain ⟨⟨aa8,aa9,abb,abd,abe,abf⟩,⟨abg,abh,abj,abk,abl,abm,abn⟩⟩:=hG
 obtain rfl:=Option.some.inj H
 go_enter Tryz.func77,Tryz.ntmps77
 go_wp2
 go_ret
 exact ⟨zT,zW⟩
def wO.f:Option (ByteArray):=some (⟨#[119,114,97,112]⟩:ByteArray)
set_option maxHeartbeats 8000000 in
set_option maxRecDepth 100000 in
theorem wO.calls (r:ByteArray) (w:World) (hG:GL w) (h:wO.f=some r) :
  Calls Tryz.prog 77 #[.int .i64 2] w fun e w'=>e = .returned (.string r)∧cO w w':=by
 have H:(some (⟨#[119,114,97,112]⟩:ByteArray))=some r:=h
 clear h
 obtain ⟨⟨aa8,aa9,abb,abd,abe,abf⟩,⟨abg,abh,abj,abk,abl,abm,abn⟩⟩:=hG
 obtain rfl:=Option.some.inj H
 go_enter Tryz.func77,Tryz.ntmps77
 go_wp2
 go_ret
 exact ⟨zT,zW⟩
def qK.f (a0:Int):Option (ByteArray):=if a0 < 0 then (some (⟨#[]⟩:ByteArray)) else (if a0≥3 then (some (⟨#[]⟩:ByteArray)) else (none))
set_option maxHeartbeats 8000000 in
set_option maxRecDepth 100000 in
theorem qK.calls (a0:Int) (r:ByteArray) (w:World) (hG:GL w) (h:qK.f a0=some r) :
  Calls Tryz.prog 77 #[.int .i64 a0] w fun e w'=>e = .returned (.string r)∧cO w w':=by
 have H:=h
 clear h
 unfold qK.f at H
 obtain ⟨⟨aa8,aa9,abb,abd,abe,abf⟩,⟨abg,abh,abj,abk,abl,abm,abn⟩⟩:=hG
 by_cases c2:a0 < 0
 ·rw [if_pos c2] at H
  have nD:=decide_eq_true c2
  clear c2
  obtain rfl:=Option.some.inj H
  go_enter Tryz.func77,Tryz.ntmps77
  go_wp2
  go_ret
  exact ⟨zT,zW⟩
 ·rw [if_neg c2] at H
  have nD:=decide_eq_false c2
  clear c2
  by_cases c3:a0≥3
  ·rw [if_pos c3] at H
   have fQ:=decide_eq_true c3
   clear c3
   obtain rfl:=Option.some.inj H
   go_enter Tryz.func77,Tryz.ntmps77
   go_wp2
   go_ret
   exact ⟨zT,zW⟩
  ·rw [if_neg c3] at H
   exact absurd H (by simp)
def nG.f (a0:Int):Option (ByteArray):=if a0=0 then wL.f else if a0=1 then wM.f else if a0=2 then wO.f else qK.f a0
theorem nG.calls (a0:Int) (r:ByteArray) (w:World) (hG:GL w) (h:nG.f a0=some r) :
  Calls Tryz.prog 77 #[.int .i64 a0] w fun e w'=>e = .returned (.string r)∧cO w w':=by
 unfold nG.f at h
 by_cases c0:a0=0
 ·subst c0;exact wL.calls r w hG (by rw [if_pos rfl] at h;exact h)
 ·rw [if_neg c0] at h
  by_cases c1:a0=1
  ·subst c1;exact wM.calls r w hG (by rw [if_pos rfl] at h;exact h)
  ·rw [if_neg c1] at h
   by_cases c2:a0=2
   ·subst c2;exact wO.calls r w hG (by rw [if_pos rfl] at h;exact h)
   ·rw [if_neg c2] at h
    exact qK.calls a0 r w hG h
def jB.f (a0:Int):Option (Bool):=if a0≥1 then (some (decide (a0≤65536))) else (some false)
set_option maxHeartbeats 8000000 in
set_option maxRecDepth 100000 in
theorem jB.calls (a0:Int) (r:Bool) (w:World) (h:jB.f a0=some r) :
  Calls Tryz.prog 86 #[.int .i64 a0] w fun e w'=>e = .returned (.bool r)∧cO w w':=by
 have H:=h
 clear h
 unfold jB.f at H
 by_cases c2:a0≥1
 ·rw [if_pos c2] at H
  have nD:=decide_eq_true c2
  clear c2
  obtain rfl:=Option.some.inj H
  go_enter Tryz.func86,Tryz.ntmps86
  go_wp2
  go_ret
  exact ⟨zT,zW⟩
 ·rw [if_neg c2] at H
  have nD:=decide_eq_false c2
  clear c2
  obtain rfl:=Option.some.inj H
  go_enter Tryz.func86,Tryz.ntmps86
  go_wp2
  go_ret
  exact ⟨zT,zW⟩
def zA.f:Option (ByteArray):=some (⟨#[98,111,120]⟩:ByteArray)
set_option maxHeartbeats 8000000 in
set_option maxRecDepth 100000 in
theorem zA.calls (r:ByteArray) (w:World) (hG:GL w) (h:zA.f=some r) :
  Calls Tryz.prog 104 #[.int .i64 0] w fun e w'=>e = .returned (.string r)∧cO w w':=by
 have H:(some (⟨#[98,111,120]⟩:ByteArray))=some r:=h
 clear h
 obtain ⟨⟨aa8,aa9,abb,abd,abe,abf⟩,⟨abg,abh,abj,abk,abl,abm,abn⟩⟩:=hG
 obtain rfl:=Option.some.inj H
 go_enter Tryz.func104,Tryz.ntmps104
 go_wp2
 go_ret
 exact ⟨zT,zW⟩
def zC.f:Option (ByteArray):=some (⟨#[99,117,98,105,99]⟩:ByteArray)
set_option maxHeartbeats 8000000 in
set_option maxRecDepth 100000 in
theorem zC.calls (r:ByteArray) (w:World) (hG:GL w) (h:zC.f=some r) :
  Calls Tryz.prog 104 #[.int .i64 1] w fun e w'=>e = .returned (.string r)∧cO w w':=by
 have H:(some (⟨#[99,117,98,105,99]⟩:ByteArray))=some r:=h
 clear h
 obtain ⟨⟨aa8,aa9,abb,abd,abe,abf⟩,⟨abg,abh,abj,abk,abl,abm,abn⟩⟩:=hG
 obtain rfl:=Option.some.inj H
 go_enter Tryz.func104,Tryz.ntmps104
 go_wp2
 go_ret
 exact ⟨zT,zW⟩
def zF.f:Option (ByteArray):=some (⟨#[108,97,110,99,122,111,115]⟩:ByteArray)
set_option maxHeartbeats 8000000 in
set_option maxRecDepth 100000 in
theorem zF.calls (r:ByteArray) (w:World) (hG:GL w) (h:zF.f=some r) :
  Calls Tryz.prog 104 #[.int .i64 2] w fun e w'=>e = .returned (.string r)∧cO w w':=by
 have H:(some (⟨#[108,97,110,99,122,111,115]⟩:ByteArray))=some r:=h
 clear h
 obtain ⟨⟨aa8,aa9,abb,abd,abe,abf⟩,⟨abg,abh,abj,abk,abl,abm,abn⟩⟩:=hG
 obtain rfl:=Option.some.inj H
 go_enter Tryz.func104,Tryz.ntmps104
 go_wp2
 go_ret
 exact ⟨zT,zW⟩
def uJ.f (a0:Int):Option (ByteArray):=if a0 < 0 then (some (⟨#[]⟩:ByteArray)) else (if a0≥3 then (some (⟨#[]⟩:ByteArray)) else (none))
set_option maxHeartbeats 8000000 in
set_option maxRecDepth 100000 in
theorem uJ.calls (a0:Int) (r:ByteArray) (w:World) (hG:GL w) (h:uJ.f a0=some r) :
  Calls Tryz.prog 104 #[.int .i64 a0] w fun e w'=>e = .returned (.string r)∧cO w w':=by
 have H:=h
 clear h
 unfold uJ.f at H
 obtain ⟨⟨aa8,aa9,abb,abd,abe,abf⟩,⟨abg,abh,abj,abk,abl,abm,abn⟩⟩:=hG
 by_cases c2:a0 < 0
 ·rw [if_pos c2] at H
  have nD:=decide_eq_true c2
  clear c2
  obtain rfl:=Option.some.inj H
  go_enter Tryz.func104,Tryz.ntmps104
  go_wp2
  go_ret
  exact ⟨zT,zW⟩
 ·rw [if_neg c2] at H
  have nD:=decide_eq_false c2
  clear c2
  by_cases c3:a0≥3
  ·rw [if_pos c3] at H
   have fQ:=decide_eq_true c3
   clear c3
   obtain rfl:=Option.some.inj H
   go_enter Tryz.func104,Tryz.ntmps104
   go_wp2
   go_ret
   exact ⟨zT,zW⟩
  ·rw [if_neg c3] at H
   exact absurd H (by simp)
def uj.f (a0:Int):Option (ByteArray):=if a0=0 then zA.f else if a0=1 then zC.f else if a0=2 then zF.f else uJ.f a0
theorem uj.calls (a0:Int) (r:ByteArray) (w:World) (hG:GL w) (h:uj.f a0=some r) :
  Calls Tryz.prog 104 #[.int .i64 a0] w fun e w'=>e = .returned (.string r)∧cO w w':=by
 unfold uj.f at h
 by_cases c0:a0=0
 ·subst c0;exact zA.calls r w hG (by rw [if_pos rfl] at h;exact h)
 ·rw [if_neg c0] at h
  by_cases c1:a0=1
  ·subst c1;exact zC.calls r w hG (by rw [if_pos rfl] at h;exact h)
  ·rw [if_neg c1] at h
   by_cases c2:a0=2
   ·subst c2;exact zF.calls r w hG (by rw [if_pos rfl] at h;exact h)
   ·rw [if_neg c2] at h
    exact uJ.calls a0 r w hG h
end Go.Proofs.YtpondkggmcmpfaaGreatDoor.QA
namespace Go.Proofs.YtpondkggmcmpfaaGreatDoor.QA
open Go.Proofs.YtpondkggmcmpfaaGreatDoor.T
open Go.RowKit Go.Proofs.YtpondkggmcmpfaaGreatDoorW.PrintWords Go.Proofs.YtpondkggmcmpfaaGreatDoorW.PrintLast Go.Proofs.YtpondkggmcmpfaaGreatDoorW.PrintMore
attribute [local go_sem] dV dP dQ fC fD
set_option linter.unusedVariables false
set_option linter.unusedSimpArgs false
def jQ.j0:Nat→Bool→Int→Int→Int→Int→List Int→List Int→Int→Int→Int→Option (Bool)
 | 0,_,_,_,_,_,_,_,_,_,_=>none
 | k+1,x16,atz,azM,azN,azO,azP,azQ,atA,atB,atC=>if x16=true then (some false) else (if atz=3 then ((jB.f atB).bind fun ap0=>(if ap0=true then ((jB.f atC).bind fun ap1=>(if ap1=true then ((uj.f atA).bind fun t105=>(some (t105.toList != ([]:List UInt8)))) else (some false))) else (some false))) else (some true))
def jQ.f (k:Nat) (bn bT kM kN:Int) (iY je:List Int) (kX jY kK:Int):Option (Bool):=if bn < 0 then (jQ.j0 k true bn bT kM kN iY je kX jY kK) else (if bn≥4 then (jQ.j0 k true bn bT kM kN iY je kX jY kK) else ((nG.f bT).bind fun anm=>(jQ.j0 k (anm.toList == ([]:List UInt8)) bn bT kM kN iY je kX jY kK)))
set_option maxHeartbeats 8000000 in
set_option maxRecDepth 100000 in
theorem jQ.calls (k:Nat) (bn bT kM kN:Int) (nP:Option Addr) (nR:Nat) (iY:List Int) (oK:Option Addr) (oL:Nat) (je:List Int) (kX jY kK:Int) (r:Bool) (w:World) (zH:Kd.C (Kd.int .i64) w nP iY.length iY) (zI:iY.length≤nR) (zJ:Kd.C (Kd.int .i64) w oK je.length je) (zQ:je.length≤oL) (hG:GL w) (h:jQ.f k bn bT kM kN iY je kX jY kK=some r) :
  Calls Tryz.prog 85 #[.agg #[.int .i64 bn,.int .i64 bT,.int .i64 kM,.int .i64 kN,.slice nP iY.length nR,.slice oK je.length oL,.int .i64 kX,.int .i64 jY,.int .i64 kK]] w fun e w'=>e = .returned (.bool r)∧Below w.heap.size w w':=by
 have auz:=Tryz.underlying47
 have ahh:=aj.mk zH
 have ahi:=aj.mk zI
 clear zH zI
 have akd:=aj.mk zJ
 have ake:=aj.mk zQ
 clear zJ zQ
 have HB:=aj.mk (Below.refl w.heap.size w)
 have H:=h
 clear h
 unfold jQ.f at H
 have HC2:=aj.mk H
 clear H
 go_enter Tryz.func85,Tryz.ntmps85
 go_upto_region 1 with (first|((with_reducible refine bF (N:=1) rfl ?_);refine bG zR (N:=1) zR (cs := #[.int .i64 bn,.int .i64 bT,.int .i64 kM,.int .i64 kN,.slice nP iY.length nR,.slice oK je.length oL,.int .i64 kX,.int .i64 jY,.int .i64 kK]) (t:=47) zG ?_;intro avZ hg w3 hbox hb;obtain ⟨HB,rU,aA6,asy⟩:=zA4 (ak zB hb) hbox (zg hg zB) (zg hg zB);clear hb hbox hg))
 (try simp only [Act.put,List.setIfInBounds_toArray,List.set_cons_zero,List.set_cons_succ])
 go_cut [16] (fun v16 wc=>∃ (kq:Nat) (yC:Bool),v16 = .bool yC∧aj (jQ.j0 kq yC bn bT kM kN iY je kX jY kK=some r)∧aj (kq≤k)∧aj (wc.heap[avZ]? = some (.cells #[.int .i64 bn,.int .i64 bT,.int .i64 kM,.int .i64 kN,(.slice nP iY.length nR),(.slice oK je.length oL),.int .i64 kX,.int .i64 jY,.int .i64 kK] 47 (0,0)))∧aj (Below w.heap.size w wc))
 case first =>
  have H:=HC2.out
  clear HC2
  by_cases c4:bn < 0
  ·rw [if_pos c4] at H
   have fB:=decide_eq_true c4
   clear c4
   (first|rw [fB]|(simp only [bY,dw];rw [fB])|skip)
   have H':=aj.mk H
   clear H
   obtain ⟨_,_,_,_,_,_,_,_,_⟩:=zC9 rU.out
   obtain ⟨_,_,_,_,_,_,_,_,_⟩:=zF9 rU.out
   go_wp2
   go_meet
   case rel=>exact ⟨_,(true),zT,H',⟨by first|omega|exact Nat.le_refl _⟩,⟨zK rU⟩,⟨zB⟩⟩
  ·rw [if_neg c4] at H
   have fB:=decide_eq_false c4
   clear c4
   (first|rw [fB]|(simp only [bY,dw];rw [fB])|skip)
   by_cases c6:bn≥4
   ·rw [if_pos c6] at H
    have iw:=decide_eq_true c6
    clear c6
    have H':=aj.mk H
    clear H
    obtain ⟨_,_,_,_,_,_,_,_,_⟩:=zC9 rU.out
    obtain ⟨_,_,_,_,_,_,_,_,_⟩:=zF9 rU.out
    go_wp2
    go_meet
    case rel=>exact ⟨_,(true),zT,H',⟨by first|omega|exact Nat.le_refl _⟩,⟨zK rU⟩,⟨zB⟩⟩
   ·rw [if_neg c6] at H
    have iw:=decide_eq_false c6
    clear c6
    replace H:=zO H
    obtain ⟨anm,A8,H⟩:=H
    try dsimp only at H
    have H':=aj.mk H
    clear H
    obtain ⟨_,_,_,_,_,_,_,_,_⟩:=zC9 rU.out
    obtain ⟨_,_,_,_,_,_,_,_,_⟩:=zF9 rU.out
    go_wp2_with (first|(go_at_call 77;(with_reducible refine (nG.calls bT anm _ (by exact GL.below hG (by repeat (first|(with_reducible first|exact HB.out|apply aT|apply aI|apply aZ|refine sD ?_ asy.out)|exact HB.out|exact Below.refl _ _))) A8.out).mono ?_);rintro e w' ⟨rfl,⟨nd,rfl⟩⟩))
    go_meet
    case rel=>exact ⟨_,((anm.toList == ([]:List UInt8))),zT,H',⟨by first|omega|exact Nat.le_refl _⟩,⟨zK rU⟩,⟨zB⟩⟩
 case rest =>
  clear HC2
  obtain ⟨kq,yC,rfl,HA,HJ1,rU,HB⟩:=hcut
  cases kq with
  | zero=>exact absurd HA.out (by simp [jQ.j0])
  | succ kj1 =>
   have H:=HA.out
   clear HA
   simp only [jQ.j0] at H
   by_cases c10:yC=true
   ·subst c10
    rw [if_pos rfl] at H;try dsimp only at H
    obtain rfl:=Option.some.inj H
    go_wp2
    go_ret
    exact ⟨by first|rfl|(simp [bH,bI] <;> rfl)|(simp [*,bH,bI] <;> rfl)|(simp;cases t105.toList <;> rfl),zB⟩
   ·replace c10:=Bool.eq_false_iff.mpr c10
    subst c10
    rw [if_neg (show ¬ (false=true) by decide)] at H;try dsimp only at H
    by_cases c11:bn=3
    ·rw [if_pos c11] at H
     have iQ:(bn == 3)=true:=beq_iff_eq.mpr c11
     have xH:(bn != 3)=false:=bne_eq_false_iff_eq.mpr c11
     clear c11
     replace H:=zO H
     obtain ⟨ap0,A12,H⟩:=H
     try dsimp only at H
     by_cases c13:ap0=true
     ·subst c13
      rw [if_pos rfl] at H;try dsimp only at H
      replace H:=zO H
      obtain ⟨ap1,A14,H⟩:=H
      try dsimp only at H
      by_cases c15:ap1=true
      ·subst c15
       rw [if_pos rfl] at H;try dsimp only at H
       replace H:=zO H
       obtain ⟨t105,A16,H⟩:=H
       try dsimp only at H
       obtain rfl:=Option.some.inj H
       obtain ⟨_,_,_,_,_,_,_,_,_⟩:=zC9 rU.out
       obtain ⟨_,_,_,_,_,_,_,_,_⟩:=zF9 rU.out
       go_wp2_with (first|(go_at_call 86;(with_reducible refine (jB.calls jY true _ A12.out).mono ?_);rintro e w' ⟨rfl,⟨nd,rfl⟩⟩)|(go_at_call 86;(with_reducible refine (jB.calls kK true _ A14.out).mono ?_);rintro e w' ⟨rfl,⟨nd,rfl⟩⟩)|(go_at_call 104;(with_reducible refine (uj.calls kX t105 _ (by exact GL.below hG (by repeat (first|(with_reducible first|exact HB.out|apply aT|apply aI|apply aZ|refine sD ?_ asy.out)|exact HB.out|exact Below.refl _ _))) A16.out).mono ?_);rintro e w' ⟨rfl,⟨nd,rfl⟩⟩))
       go_ret
       exact ⟨by first|rfl|(simp [bH,bI] <;> rfl)|(simp [*,bH,bI] <;> rfl)|(simp;cases t105.toList <;> rfl),zB⟩
      ·replace c15:=Bool.eq_false_iff.mpr c15
       subst c15
       rw [if_neg (show ¬ (false=true) by decide)] at H;try dsimp only at H
       obtain rfl:=Option.some.inj H
       obtain ⟨_,_,_,_,_,_,_,_,_⟩:=zC9 rU.out
       obtain ⟨_,_,_,_,_,_,_,_,_⟩:=zF9 rU.out
       go_wp2_with (first|(go_at_call 86;(with_reducible refine (jB.calls jY true _ A12.out).mono ?_);rintro e w' ⟨rfl,⟨nd,rfl⟩⟩)|(go_at_call 86;(with_reducible refine (jB.calls kK false _ A14.out).mono ?_);rintro e w' ⟨rfl,⟨nd,rfl⟩⟩))
       go_ret
       exact ⟨by first|rfl|(simp [bH,bI] <;> rfl)|(simp [*,bH,bI] <;> rfl)|(simp;cases t105.toList <;> rfl),zB⟩
     ·replace c13:=Bool.eq_false_iff.mpr c13
      subst c13
      rw [if_neg (show ¬ (false=true) by decide)] at H;try dsimp only at H
      obtain rfl:=Option.some.inj H
      obtain ⟨_,_,_,_,_,_,_,_,_⟩:=zC9 rU.out
      obtain ⟨_,_,_,_,_,_,_,_,_⟩:=zF9 rU.out
      go_wp2_with (first|(go_at_call 86;(with_reducible refine (jB.calls jY false _ A12.out).mono ?_);rintro e w' ⟨rfl,⟨nd,rfl⟩⟩))
      go_ret
      exact ⟨by first|rfl|(simp [bH,bI] <;> rfl)|(simp [*,bH,bI] <;> rfl)|(simp;cases t105.toList <;> rfl),zB⟩
    ·rw [if_neg c11] at H
     have iQ:(bn == 3)=false:=beq_eq_false_iff_ne.mpr c11
     have xH:(bn != 3)=true:=bne_iff_ne.mpr c11
     obtain rfl:=Option.some.inj H
     obtain ⟨_,_,_,_,_,_,_,_,_⟩:=zC9 rU.out
     obtain ⟨_,_,_,_,_,_,_,_,_⟩:=zF9 rU.out
     go_wp2
     go_ret
     exact ⟨by first|rfl|(simp [bH,bI] <;> rfl)|(simp [*,bH,bI] <;> rfl)|(simp;cases t105.toList <;> rfl),zB⟩
def gq.f (a0:Int):Option (Int):=if a0 < 0 then (some (IntKind.u64.wrap (-(IntKind.u64.wrap (a0))))) else (some (IntKind.u64.wrap (a0)))
set_option maxHeartbeats 8000000 in
set_option maxRecDepth 100000 in
theorem gq.calls (a0 r:Int) (w:World) (h:gq.f a0=some r) :
  Calls Tryz.prog 163 #[.int .i64 a0] w fun e w'=>e = .returned (.int .u64 r)∧cO w w':=by
 have H:=h
 clear h
 unfold gq.f at H
 by_cases c2:a0 < 0
 ·rw [if_pos c2] at H
  have nD:=decide_eq_true c2
  clear c2
  obtain rfl:=Option.some.inj H
  go_enter Tryz.func163,Tryz.ntmps163
  go_wp2
  go_ret
  exact ⟨zT,zW⟩
 ·rw [if_neg c2] at H
  have nD:=decide_eq_false c2
  clear c2
  obtain rfl:=Option.some.inj H
  go_enter Tryz.func163,Tryz.ntmps163
  go_wp2
  go_ret
  exact ⟨zT,zW⟩
end Go.Proofs.YtpondkggmcmpfaaGreatDoor.QA
namespace Go.Proofs.YtpondkggmcmpfaaGreatDoor.QA
open Go.Proofs.YtpondkggmcmpfaaGreatDoor.T
open Go.RowKit Go.Proofs.YtpondkggmcmpfaaGreatDoorW.PrintWords Go.Proofs.YtpondkggmcmpfaaGreatDoorW.PrintLast Go.Proofs.YtpondkggmcmpfaaGreatDoorW.PrintMore
attribute [local go_sem] dV dP dQ fC fD
set_option linter.unusedVariables false
set_option linter.unusedSimpArgs false
def dH.j0:Nat→Int→Bool→Bool→Option (Int)
 | 0,_,_,_=>none
 | k+1,x0,x1,x5=>if x5=true then (some (-9223372036854775808)) else (if x1=true then (some (wrap64 (-(wrap64 (x0))))) else (if x0 > 9223372036854775807 then (some 9223372036854775807) else (some (wrap64 (x0)))))
def dH.f (k:Nat) (a0:Int) (a1:Bool):Option (Int):=if a1=true then (dH.j0 k a0 a1 (decide (a0≥9223372036854775808))) else (dH.j0 k a0 a1 false)
theorem dH.jd:∀ k,(∀ y0 y1 y2,LeO (dH.j0 k y0 y1 y2) (dH.j0 (k+1) y0 y1 y2))
 | 0=>fun _ _ _ r h=>by simp [dH.j0] at h
 | k+1=>by
  have ih0:=dH.jd k
  ·intro y0 y1 y2
   unfold dH.j0
   repeat' (with_reducible first|exact ih0 _ _ _|exact zM|refine LeO.ite ?_ ?_|refine LeO.bind ?_ (fun _ => ?_))
theorem dH.mono:∀ a0 a1 k,LeO (dH.f k a0 a1) (dH.f (k+1) a0 a1):=by
 intro a0 a1 k
 have ih0:=dH.jd k
 unfold dH.f
 repeat' (with_reducible first|exact ih0 _ _ _|exact zM|refine LeO.ite ?_ ?_|refine LeO.bind ?_ (fun _ => ?_))
set_option maxHeartbeats 8000000 in
set_option maxRecDepth 100000 in
theorem dH.calls (k:Nat) (a0:Int) (a1:Bool) (r:Int) (w:World) (h:dH.f k a0 a1=some r) :
  Calls Tryz.prog 164 #[.int .u64 a0,.bool a1] w fun e w'=>e = .returned (.int .i64 r)∧cO w w':=by
 have H:=h
 clear h
 unfold dH.f at H
 have HC3:=aj.mk H
 clear H
 go_enter Tryz.func164,Tryz.ntmps164
 go_upto_region 1 with (fail)
 go_cut [5] (fun v5 wc=>∃ (kq:Nat) (mW:Bool),v5 = .bool mW∧aj (dH.j0 kq a0 a1 mW=some r)∧aj (kq≤k)∧cO w wc)
 case first =>
  have H:=HC3.out
  clear HC3
  by_cases c4:a1=true
  ·subst c4
   rw [if_pos rfl] at H;try dsimp only at H
   have H':=aj.mk H
   clear H
   go_wp2
   go_meet
   case rel=>exact ⟨_,(decide (a0≥9223372036854775808)),zT,H',⟨by first|omega|exact Nat.le_refl _⟩,zW⟩
  ·replace c4:=Bool.eq_false_iff.mpr c4
   subst c4
   rw [if_neg (show ¬ (false=true) by decide)] at H;try dsimp only at H
   have H':=aj.mk H
   clear H
   go_wp2
   go_meet
   case rel=>exact ⟨_,(false),zT,H',⟨by first|omega|exact Nat.le_refl _⟩,zW⟩
 case rest =>
  clear HC3
  obtain ⟨kq,mW,rfl,HA,HJ2,⟨mc2,rfl⟩⟩:=hcut
  cases kq with
  | zero=>exact absurd HA.out (by simp [dH.j0])
  | succ kj2 =>
   have H:=HA.out
   clear HA
   simp only [dH.j0] at H
   by_cases c5:mW=true
   ·subst c5
    rw [if_pos rfl] at H;try dsimp only at H
    obtain rfl:=Option.some.inj H
    go_wp2
    go_ret
    exact ⟨zT,zW⟩
   ·replace c5:=Bool.eq_false_iff.mpr c5
    subst c5
    rw [if_neg (show ¬ (false=true) by decide)] at H;try dsimp only at H
    by_cases c6:a1=true
    ·subst c6
     rw [if_pos rfl] at H;try dsimp only at H
     obtain rfl:=Option.some.inj H
     go_wp2
     go_ret
     exact ⟨zT,zW⟩
    ·replace c6:=Bool.eq_false_iff.mpr c6
     subst c6
     rw [if_neg (show ¬ (false=true) by decide)] at H;try dsimp only at H
     by_cases c7:a0 > 9223372036854775807
     ·rw [if_pos c7] at H
      have jf:=decide_eq_true c7
      clear c7
      obtain rfl:=Option.some.inj H
      go_wp2
      go_ret
      exact ⟨zT,zW⟩
     ·rw [if_neg c7] at H
      have jf:=decide_eq_false c7
      clear c7
      obtain rfl:=Option.some.inj H
      go_wp2
      go_ret
      exact ⟨zT,zW⟩
def cZ.f (k:Nat) (a0 a1:Int):Option (Int):=if a1=0 then (some 0) else ((gq.f a0).bind fun pI=>((gq.f a1).bind fun t107=>(if t107=0 then (none) else (if ((decide (a0 < 0)) != (decide (a1 < 0)))=true then (if (Int.tmod pI t107)=0 then ((dH.f k (IntKind.u64.wrap (Int.tdiv pI t107)) true).bind fun akL=>(some akL)) else ((dH.f k (IntKind.u64.wrap ((IntKind.u64.wrap (Int.tdiv pI t107))+1)) true).bind fun t109=>(some t109))) else ((dH.f k (IntKind.u64.wrap (Int.tdiv pI t107)) false).bind fun akM=>(some akM))))))
theorem cZ.mono:∀ a0 a1 k,LeO (cZ.f k a0 a1) (cZ.f (k+1) a0 a1):=by
 intro a0 a1 k
 unfold cZ.f
 repeat' (with_reducible first|exact dH.mono _ _ _|exact zM|refine LeO.ite ?_ ?_|refine LeO.bind ?_ (fun _ => ?_))
set_option maxHeartbeats 8000000 in
set_option maxRecDepth 100000 in
theorem cZ.calls (k:Nat) (a0 a1 r:Int) (w:World) (h:cZ.f k a0 a1=some r) :
  Calls Tryz.prog 133 #[.int .i64 a0,.int .i64 a1] w fun e w'=>e = .returned (.int .i64 r)∧cO w w':=by
 have H:=h
 clear h
 unfold cZ.f at H
 by_cases c3:a1=0
 ·rw [if_pos c3] at H
  have fQ:(a1 == 0)=true:=beq_iff_eq.mpr c3
  have wC:(a1 != 0)=false:=bne_eq_false_iff_eq.mpr c3
  clear c3
  obtain rfl:=Option.some.inj H
  go_enter Tryz.func133,Tryz.ntmps133
  go_wp2
  repeat (go_quiet (fail);try go_wp2)
  go_ret
  exact ⟨zT,zW⟩
 ·rw [if_neg c3] at H
  have fQ:(a1 == 0)=false:=beq_eq_false_iff_ne.mpr c3
  have wC:(a1 != 0)=true:=bne_iff_ne.mpr c3
  replace H:=zO H
  obtain ⟨pI,A4,H⟩:=H
  try dsimp only at H
  replace H:=zO H
  obtain ⟨t107,A5,H⟩:=H
  try dsimp only at H
  by_cases c6:t107=0
  ·rw [if_pos c6] at H
   exact absurd H (by simp)
  ·rw [if_neg c6] at H
   have iw:(t107 == 0)=false:=beq_eq_false_iff_ne.mpr c6
   have vI:(t107 != 0)=true:=bne_iff_ne.mpr c6
   by_cases c7:((decide (a0 < 0)) != (decide (a1 < 0)))=true
   ·rw [if_pos c7] at H
    have jf:((decide (a0 < 0)) != (decide (a1 < 0)))=true:=c7
    (try (have aar:decide ((decide (a0 < 0))=(decide (a1 < 0)))=false:=by simpa using c7))
    (try (have ayl:((decide (a0 < 0)) == (decide (a1 < 0)))=false:=by simpa using c7))
    (try (have aDI:¬ ((decide (a0 < 0))=(decide (a1 < 0))):=by simpa using c7))
    clear c7
    by_cases c8:(Int.tmod pI t107)=0
    ·rw [if_pos c8] at H
     have um:((Int.tmod pI t107) == 0)=true:=beq_iff_eq.mpr c8
     have aas:((Int.tmod pI t107) != 0)=false:=bne_eq_false_iff_eq.mpr c8
     clear c8
     replace H:=zO H
     obtain ⟨akL,A9,H⟩:=H
     try dsimp only at H
     obtain rfl:=Option.some.inj H
     go_enter Tryz.func133,Tryz.ntmps133
     go_wp2_with (first|(go_at_call 163;(with_reducible refine (gq.calls a0 pI _ A4.out).mono ?_);rintro e w' ⟨rfl,⟨nd,rfl⟩⟩;(try exact ⟨rfl,_,zN⟩))|(go_at_call 163;(with_reducible refine (gq.calls a1 t107 _ A5.out).mono ?_);rintro e w' ⟨rfl,⟨nd,rfl⟩⟩;(try exact ⟨rfl,_,zN⟩))|(go_at_call 164;(with_reducible refine (dH.calls k (IntKind.u64.wrap (Int.tdiv pI t107)) true akL _ A9.out).mono ?_);rintro e w' ⟨rfl,⟨nd,rfl⟩⟩;(try exact ⟨rfl,_,zN⟩)))
     repeat (go_quiet (first|(go_at_call 163;(with_reducible refine (gq.calls a0 pI _ A4.out).mono ?_);rintro e w' ⟨rfl,⟨nd,rfl⟩⟩;(try exact ⟨rfl,_,zN⟩))|(go_at_call 163;(with_reducible refine (gq.calls a1 t107 _ A5.out).mono ?_);rintro e w' ⟨rfl,⟨nd,rfl⟩⟩;(try exact ⟨rfl,_,zN⟩))|(go_at_call 164;(with_reducible refine (dH.calls k (IntKind.u64.wrap (Int.tdiv pI t107)) true akL _ A9.out).mono ?_);rintro e w' ⟨rfl,⟨nd,rfl⟩⟩;(try exact ⟨rfl,_,zN⟩)));try go_wp2_with (first|(go_at_call 163;(with_reducible refine (gq.calls a0 pI _ A4.out).mono ?_);rintro e w' ⟨rfl,⟨nd,rfl⟩⟩;(try exact ⟨rfl,_,zN⟩))|(go_at_call 163;(with_reducible refine (gq.calls a1 t107 _ A5.out).mono ?_);rintro e w' ⟨rfl,⟨nd,rfl⟩⟩;(try exact ⟨rfl,_,zN⟩))|(go_at_call 164;(with_reducible refine (dH.calls k (IntKind.u64.wrap (Int.tdiv pI t107)) true akL _ A9.out).mono ?_);rintro e w' ⟨rfl,⟨nd,rfl⟩⟩;(try exact ⟨rfl,_,zN⟩))))
     go_ret
     exact ⟨zT,zW⟩
    ·rw [if_neg c8] at H
     have um:((Int.tmod pI t107) == 0)=false:=beq_eq_false_iff_ne.mpr c8
     have aas:((Int.tmod pI t107) != 0)=true:=bne_iff_ne.mpr c8
     replace H:=zO H
     obtain ⟨t109,A10,H⟩:=H
     try dsimp only at H
     obtain rfl:=Option.some.inj H
     go_enter Tryz.func133,Tryz.ntmps133
     go_wp2_with (first|(go_at_call 163;(with_reducible refine (gq.calls a0 pI _ A4.out).mono ?_);rintro e w' ⟨rfl,⟨nd,rfl⟩⟩;(try exact ⟨rfl,_,zN⟩))|(go_at_call 163;(with_reducible refine (gq.calls a1 t107 _ A5.out).mono ?_);rintro e w' ⟨rfl,⟨nd,rfl⟩⟩;(try exact ⟨rfl,_,zN⟩))|(go_at_call 164;(with_reducible refine (dH.calls k (IntKind.u64.wrap ((IntKind.u64.wrap (Int.tdiv pI t107))+1)) true t109 _ A10.out).mono ?_);rintro e w' ⟨rfl,⟨nd,rfl⟩⟩;(try exact ⟨rfl,_,zN⟩)))
     repeat (go_quiet (first|(go_at_call 163;(with_reducible refine (gq.calls a0 pI _ A4.out).mono ?_);rintro e w' ⟨rfl,⟨nd,rfl⟩⟩;(try exact ⟨rfl,_,zN⟩))|(go_at_call 163;(with_reducible refine (gq.calls a1 t107 _ A5.out).mono ?_);rintro e w' ⟨rfl,⟨nd,rfl⟩⟩;(try exact ⟨rfl,_,zN⟩))|(go_at_call 164;(with_reducible refine (dH.calls k (IntKind.u64.wrap ((IntKind.u64.wrap (Int.tdiv pI t107))+1)) true t109 _ A10.out).mono ?_);rintro e w' ⟨rfl,⟨nd,rfl⟩⟩;(try exact ⟨rfl,_,zN⟩)));try go_wp2_with (first|(go_at_call 163;(with_reducible refine (gq.calls a0 pI _ A4.out).mono ?_);rintro e w' ⟨rfl,⟨nd,rfl⟩⟩;(try exact ⟨rfl,_,zN⟩))|(go_at_call 163;(with_reducible refine (gq.calls a1 t107 _ A5.out).mono ?_);rintro e w' ⟨rfl,⟨nd,rfl⟩⟩;(try exact ⟨rfl,_,zN⟩))|(go_at_call 164;(with_reducible refine (dH.calls k (IntKind.u64.wrap ((IntKind.u64.wrap (Int.tdiv pI t107))+1)) true t109 _ A10.out).mono ?_);rintro e w' ⟨rfl,⟨nd,rfl⟩⟩;(try exact ⟨rfl,_,zN⟩))))
     go_ret
     exact ⟨zT,zW⟩
   ·rw [if_neg c7] at H
    have jf:((decide (a0 < 0)) != (decide (a1 < 0)))=false:=by simpa using c7
    (try (have aar:decide ((decide (a0 < 0))=(decide (a1 < 0)))=true:=by simpa using c7))
    (try (have ayl:((decide (a0 < 0)) == (decide (a1 < 0)))=true:=by simpa using c7))
    clear c7
    replace H:=zO H
    obtain ⟨akM,A11,H⟩:=H
    try dsimp only at H
    obtain rfl:=Option.some.inj H
    go_enter Tryz.func133,Tryz.ntmps133
    go_wp2_with (first|(go_at_call 163;(with_reducible refine (gq.calls a0 pI _ A4.out).mono ?_);rintro e w' ⟨rfl,⟨nd,rfl⟩⟩;(try exact ⟨rfl,_,zN⟩))|(go_at_call 163;(with_reducible refine (gq.calls a1 t107 _ A5.out).mono ?_);rintro e w' ⟨rfl,⟨nd,rfl⟩⟩;(try exact ⟨rfl,_,zN⟩))|(go_at_call 164;(with_reducible refine (dH.calls k (IntKind.u64.wrap (Int.tdiv pI t107)) false akM _ A11.out).mono ?_);rintro e w' ⟨rfl,⟨nd,rfl⟩⟩;(try exact ⟨rfl,_,zN⟩)))
    repeat (go_quiet (first|(go_at_call 163;(with_reducible refine (gq.calls a0 pI _ A4.out).mono ?_);rintro e w' ⟨rfl,⟨nd,rfl⟩⟩;(try exact ⟨rfl,_,zN⟩))|(go_at_call 163;(with_reducible refine (gq.calls a1 t107 _ A5.out).mono ?_);rintro e w' ⟨rfl,⟨nd,rfl⟩⟩;(try exact ⟨rfl,_,zN⟩))|(go_at_call 164;(with_reducible refine (dH.calls k (IntKind.u64.wrap (Int.tdiv pI t107)) false akM _ A11.out).mono ?_);rintro e w' ⟨rfl,⟨nd,rfl⟩⟩;(try exact ⟨rfl,_,zN⟩)));try go_wp2_with (first|(go_at_call 163;(with_reducible refine (gq.calls a0 pI _ A4.out).mono ?_);rintro e w' ⟨rfl,⟨nd,rfl⟩⟩;(try exact ⟨rfl,_,zN⟩))|(go_at_call 163;(with_reducible refine (gq.calls a1 t107 _ A5.out).mono ?_);rintro e w' ⟨rfl,⟨nd,rfl⟩⟩;(try exact ⟨rfl,_,zN⟩))|(go_at_call 164;(with_reducible refine (dH.calls k (IntKind.u64.wrap (Int.tdiv pI t107)) false akM _ A11.out).mono ?_);rintro e w' ⟨rfl,⟨nd,rfl⟩⟩;(try exact ⟨rfl,_,zN⟩))))
    go_ret
    exact ⟨zT,zW⟩
def jl.f (a0 a1 a2 a3:Int):Option (Bool):=if a0≥0 then (if a0 < 3 then (if a1≥1 then (if a1≤65536 then (if a2≥1 then (if a2≤65536 then (if a3≥0 then (some (decide (a3 < a2))) else (some false)) else (some false)) else (some false)) else (some false)) else (some false)) else (some false)) else (some false)
set_option maxHeartbeats 8000000 in
set_option maxRecDepth 100000 in
theorem jl.calls (a0 a1 a2 a3:Int) (r:Bool) (w:World) (h:jl.f a0 a1 a2 a3=some r) :
  Calls Tryz.prog 151 #[.int .i64 a0,.int .i64 a1,.int .i64 a2,.int .i64 a3] w fun e w'=>e = .returned (.bool r)∧cO w w':=by
 have H:=h
 clear h
 unfold jl.f at H
 by_cases c5:a0≥0
 ·rw [if_pos c5] at H
  have gQ:=decide_eq_true c5
  clear c5
  by_cases c6:a0 < 3
  ·rw [if_pos c6] at H
   have iw:=decide_eq_true c6
   clear c6
   by_cases c7:a1≥1
   ·rw [if_pos c7] at H
    have jf:=decide_eq_true c7
    clear c7
    by_cases c8:a1≤65536
    ·rw [if_pos c8] at H
     have um:=decide_eq_true c8
     clear c8
     by_cases c9:a2≥1
     ·rw [if_pos c9] at H
      have qA:=decide_eq_true c9
      clear c9
      by_cases c10:a2≤65536
      ·rw [if_pos c10] at H
       have pK:=decide_eq_true c10
       clear c10
       by_cases c11:a3≥0
       ·rw [if_pos c11] at H
        have iQ:=decide_eq_true c11
        clear c11
        obtain rfl:=Option.some.inj H
        go_enter Tryz.func151,Tryz.ntmps151
        go_wp2
        go_ret
        exact ⟨zT,zW⟩
       ·rw [if_neg c11] at H
        have iQ:=decide_eq_false c11
        clear c11
        obtain rfl:=Option.some.inj H
        go_enter Tryz.func151,Tryz.ntmps151
        go_wp2
        go_ret
        exact ⟨zT,zW⟩
      ·rw [if_neg c10] at H
       have pK:=decide_eq_false c10
       clear c10
       obtain rfl:=Option.some.inj H
       go_enter Tryz.func151,Tryz.ntmps151
       go_wp2
       go_ret
       exact ⟨zT,zW⟩
     ·rw [if_neg c9] at H
      have qA:=decide_eq_false c9
      clear c9
      obtain rfl:=Option.some.inj H
      go_enter Tryz.func151,Tryz.ntmps151
      go_wp2
      go_ret
      exact ⟨zT,zW⟩
    ·rw [if_neg c8] at H
     have um:=decide_eq_false c8
     clear c8
     obtain rfl:=Option.some.inj H
     go_enter Tryz.func151,Tryz.ntmps151
     go_wp2
     go_ret
     exact ⟨zT,zW⟩
   ·rw [if_neg c7] at H
    have jf:=decide_eq_false c7
    clear c7
    obtain rfl:=Option.some.inj H
    go_enter Tryz.func151,Tryz.ntmps151
    go_wp2
    go_ret
    exact ⟨zT,zW⟩
  ·rw [if_neg c6] at H
   have iw:=decide_eq_false c6
   clear c6
   obtain rfl:=Option.some.inj H
   go_enter Tryz.func151,Tryz.ntmps151
   go_wp2
   go_ret
   exact ⟨zT,zW⟩
 ·rw [if_neg c5] at H
  have gQ:=decide_eq_false c5
  clear c5
  obtain rfl:=Option.some.inj H
  go_enter Tryz.func151,Tryz.ntmps151
  go_wp2
  go_ret
  exact ⟨zT,zW⟩
def gU.f (k:Nat) (a0 a1:Int):Option (Int):=(cZ.f k (wrap64 (-a0)) a1).bind fun ap2=>(some (wrap64 (-ap2)))
theorem gU.mono:∀ a0 a1 k,LeO (gU.f k a0 a1) (gU.f (k+1) a0 a1):=by
 intro a0 a1 k
 unfold gU.f
 repeat' (with_reducible first|exact cZ.mono _ _ _|exact zM|refine LeO.ite ?_ ?_|refine LeO.bind ?_ (fun _ => ?_))
set_option maxHeartbeats 8000000 in
set_option maxRecDepth 100000 in
theorem gU.calls (k:Nat) (a0 a1 r:Int) (w:World) (h:gU.f k a0 a1=some r) :
  Calls Tryz.prog 152 #[.int .i64 a0,.int .i64 a1] w fun e w'=>e = .returned (.int .i64 r)∧cO w w':=by
 have H:=h
 clear h
 unfold gU.f at H
 replace H:=zO H
 obtain ⟨ap2,A3,H⟩:=H
 try dsimp only at H
 obtain rfl:=Option.some.inj H
 go_enter Tryz.func152,Tryz.ntmps152
 go_wp2_with (first|((with_reducible refine ay (f:=133) rfl ?_);refine aH (some 8) rfl rfl Tryz.func133 (by kernel_rfl) rfl #[.int .i64 (wrap64 (-a0)),.int .i64 a1] rfl zL ?_;(with_reducible refine (cZ.calls k (wrap64 (-a0)) a1 ap2 _ A3.out).mono ?_);rintro e w' ⟨rfl,⟨nd,rfl⟩⟩;refine ⟨_,rfl,?_⟩))
 go_ret
 exact ⟨zT,zW⟩
end Go.Proofs.YtpondkggmcmpfaaGreatDoor.QA
namespace Go.Proofs.YtpondkggmcmpfaaGreatDoor.QA
open Go.Proofs.YtpondkggmcmpfaaGreatDoor.T
open Go.RowKit Go.Proofs.YtpondkggmcmpfaaGreatDoorW.PrintWords Go.Proofs.YtpondkggmcmpfaaGreatDoorW.PrintLast Go.Proofs.YtpondkggmcmpfaaGreatDoorW.PrintMore
attribute [local go_sem] dV dP dQ fC fD
set_option linter.unusedVariables false
set_option linter.unusedSimpArgs false
def jJ.f (k:Nat) (a1 a2 a3:Int):Option (Int × Int):=(jl.f 1 a1 a2 a3).bind fun ap3=>(if ap3=true then ((cZ.f k (wrap64 (a3*a1)) a2).bind fun ano=>((gU.f k (wrap64 ((wrap64 (a3+1))*a1)) a2).bind fun anp=>((cZ.f k (wrap64 ((wrap64 ((wrap64 ((wrap64 ((wrap64 (2*a3))+1))*a1)) - a2)) - (wrap64 (4*(mx a1 a2))))) (wrap64 (2*a2))).bind fun ady=>((gU.f k (wrap64 ((wrap64 ((wrap64 ((wrap64 ((wrap64 (2*a3))+1))*a1)) - a2))+(wrap64 (4*(mx a1 a2))))) (wrap64 (2*a2))).bind fun t116=>(some (wrap64 (ady+1),wrap64 (t116 - (wrap64 (ady+1))))))))) else (some (0,0)))
theorem jJ.mono:∀ a1 a2 a3 k,LeO (jJ.f k a1 a2 a3) (jJ.f (k+1) a1 a2 a3):=by
 intro a1 a2 a3 k
 unfold jJ.f
 repeat' (with_reducible first|exact cZ.mono _ _ _|exact gU.mono _ _ _|exact zM|refine LeO.ite ?_ ?_|refine LeO.bind ?_ (fun _ => ?_))
set_option maxHeartbeats 8000000 in
set_option maxRecDepth 100000 in
theorem jJ.calls (k:Nat) (a1 a2 a3 r1 r2:Int) (w:World) (hG:GL w) (h:jJ.f k a1 a2 a3=some (r1,r2)) :
  Calls Tryz.prog 128 #[.int .i64 1,.int .i64 a1,.int .i64 a2,.int .i64 a3] w fun e w'=>e = .returned (.tuple #[.int .i64 r1,.int .i64 r2])∧Below w.heap.size w w':=by
 have HB:=aj.mk (Below.refl w.heap.size w)
 have H:=h
 clear h
 unfold jJ.f at H
 obtain ⟨⟨aa8,aa9,abb,abd,abe,abf⟩,⟨abg,abh,abj,abk,abl,abm,abn⟩⟩:=hG
 replace H:=zO H
 obtain ⟨ap3,A5,H⟩:=H
 try dsimp only at H
 by_cases c6:ap3=true
 ·subst c6
  rw [if_pos rfl] at H;try dsimp only at H
  replace H:=zO H
  obtain ⟨ano,A7,H⟩:=H
  try dsimp only at H
  replace H:=zO H
  obtain ⟨anp,A8,H⟩:=H
  try dsimp only at H
  obtain ⟨ji9,nH⟩:∃ j_:Int,(mx a1 a2)=j_:=⟨_,rfl⟩
  replace H:((cZ.f k (wrap64 ((wrap64 ((wrap64 ((wrap64 ((wrap64 (2*a3))+1))*a1)) - a2)) - (wrap64 (4*(ji9))))) (wrap64 (2*a2))).bind fun ady=>((gU.f k (wrap64 ((wrap64 ((wrap64 ((wrap64 ((wrap64 (2*a3))+1))*a1)) - a2))+(wrap64 (4*(ji9))))) (wrap64 (2*a2))).bind fun t116=>(some (wrap64 (ady+1),wrap64 (t116 - (wrap64 (ady+1)))))))=some (r1,r2):=by first|(rw [nH] at H;exact H)|(simp only [nH] at H ⊢;exact H)
  (try rw [nH] at A5)
  (try rw [nH] at A7)
  (try rw [nH] at A8)
  have anq:(if a1 < a2 then a2 else a1)=ji9:=nH
  replace H:=zO H
  obtain ⟨ady,A10,H⟩:=H
  try dsimp only at H
  replace H:=zO H
  obtain ⟨t116,A11,H⟩:=H
  try dsimp only at H
  simp only [Option.some.injEq,Prod.mk.injEq] at H
  obtain ⟨rfl,rfl⟩:=H
  go_enter Tryz.func128,Tryz.ntmps128
  go_wp2_with (first|(go_at_call 151;(with_reducible refine (jl.calls 1 a1 a2 a3 true _ A5.out).mono ?_);rintro e w' ⟨rfl,⟨nd,rfl⟩⟩;(try exact ⟨rfl,_,zN⟩))|(go_at_call 133;(with_reducible refine (cZ.calls k (wrap64 (a3*a1)) a2 ano _ A7.out).mono ?_);rintro e w' ⟨rfl,⟨nd,rfl⟩⟩;(try exact ⟨rfl,_,zN⟩))|(go_at_call 152;(with_reducible refine (gU.calls k (wrap64 ((wrap64 (a3+1))*a1)) a2 anp _ A8.out).mono ?_);rintro e w' ⟨rfl,⟨nd,rfl⟩⟩;(try exact ⟨rfl,_,zN⟩))|(go_at_call 133;(with_reducible refine (cZ.calls k (wrap64 ((wrap64 ((wrap64 ((wrap64 ((wrap64 (2*a3))+1))*a1)) - a2)) - (wrap64 (4*(ji9))))) (wrap64 (2*a2)) ady _ A10.out).mono ?_);rintro e w' ⟨rfl,⟨nd,rfl⟩⟩;(try exact ⟨rfl,_,zN⟩))|(go_at_call 152;(with_reducible refine (gU.calls k (wrap64 ((wrap64 ((wrap64 ((wrap64 ((wrap64 (2*a3))+1))*a1)) - a2))+(wrap64 (4*(ji9))))) (wrap64 (2*a2)) t116 _ A11.out).mono ?_);rintro e w' ⟨rfl,⟨nd,rfl⟩⟩;(try exact ⟨rfl,_,zN⟩)))
  repeat (go_quiet (first|(go_at_call 151;(with_reducible refine (jl.calls 1 a1 a2 a3 true _ A5.out).mono ?_);rintro e w' ⟨rfl,⟨nd,rfl⟩⟩;(try exact ⟨rfl,_,zN⟩))|(go_at_call 133;(with_reducible refine (cZ.calls k (wrap64 (a3*a1)) a2 ano _ A7.out).mono ?_);rintro e w' ⟨rfl,⟨nd,rfl⟩⟩;(try exact ⟨rfl,_,zN⟩))|(go_at_call 152;(with_reducible refine (gU.calls k (wrap64 ((wrap64 (a3+1))*a1)) a2 anp _ A8.out).mono ?_);rintro e w' ⟨rfl,⟨nd,rfl⟩⟩;(try exact ⟨rfl,_,zN⟩))|(go_at_call 133;(with_reducible refine (cZ.calls k (wrap64 ((wrap64 ((wrap64 ((wrap64 ((wrap64 (2*a3))+1))*a1)) - a2)) - (wrap64 (4*(ji9))))) (wrap64 (2*a2)) ady _ A10.out).mono ?_);rintro e w' ⟨rfl,⟨nd,rfl⟩⟩;(try exact ⟨rfl,_,zN⟩))|(go_at_call 152;(with_reducible refine (gU.calls k (wrap64 ((wrap64 ((wrap64 ((wrap64 ((wrap64 (2*a3))+1))*a1)) - a2))+(wrap64 (4*(ji9))))) (wrap64 (2*a2)) t116 _ A11.out).mono ?_);rintro e w' ⟨rfl,⟨nd,rfl⟩⟩;(try exact ⟨rfl,_,zN⟩)));try go_wp2_with (first|(go_at_call 151;(with_reducible refine (jl.calls 1 a1 a2 a3 true _ A5.out).mono ?_);rintro e w' ⟨rfl,⟨nd,rfl⟩⟩;(try exact ⟨rfl,_,zN⟩))|(go_at_call 133;(with_reducible refine (cZ.calls k (wrap64 (a3*a1)) a2 ano _ A7.out).mono ?_);rintro e w' ⟨rfl,⟨nd,rfl⟩⟩;(try exact ⟨rfl,_,zN⟩))|(go_at_call 152;(with_reducible refine (gU.calls k (wrap64 ((wrap64 (a3+1))*a1)) a2 anp _ A8.out).mono ?_);rintro e w' ⟨rfl,⟨nd,rfl⟩⟩;(try exact ⟨rfl,_,zN⟩))|(go_at_call 133;(with_reducible refine (cZ.calls k (wrap64 ((wrap64 ((wrap64 ((wrap64 ((wrap64 (2*a3))+1))*a1)) - a2)) - (wrap64 (4*(ji9))))) (wrap64 (2*a2)) ady _ A10.out).mono ?_);rintro e w' ⟨rfl,⟨nd,rfl⟩⟩;(try exact ⟨rfl,_,zN⟩))|(go_at_call 152;(with_reducible refine (gU.calls k (wrap64 ((wrap64 ((wrap64 ((wrap64 ((wrap64 (2*a3))+1))*a1)) - a2))+(wrap64 (4*(ji9))))) (wrap64 (2*a2)) t116 _ A11.out).mono ?_);rintro e w' ⟨rfl,⟨nd,rfl⟩⟩;(try exact ⟨rfl,_,zN⟩))))
  go_ret2
  exact ⟨by first|rfl|(simp [bH,bI] <;> rfl)|(simp only [← nH];first|rfl|(simp [bH,bI] <;> rfl))|(simp [*,bH,bI] <;> rfl),zB⟩
 ·replace c6:=Bool.eq_false_iff.mpr c6
  subst c6
  rw [if_neg (show ¬ (false=true) by decide)] at H;try dsimp only at H
  simp only [Option.some.injEq,Prod.mk.injEq] at H
  obtain ⟨rfl,rfl⟩:=H
  go_enter Tryz.func128,Tryz.ntmps128
  go_wp2_with (first|(go_at_call 151;(with_reducible refine (jl.calls 1 a1 a2 a3 false _ A5.out).mono ?_);rintro e w' ⟨rfl,⟨nd,rfl⟩⟩;(try exact ⟨rfl,_,zN⟩)))
  repeat (go_quiet (first|(go_at_call 151;(with_reducible refine (jl.calls 1 a1 a2 a3 false _ A5.out).mono ?_);rintro e w' ⟨rfl,⟨nd,rfl⟩⟩;(try exact ⟨rfl,_,zN⟩)));try go_wp2_with (first|(go_at_call 151;(with_reducible refine (jl.calls 1 a1 a2 a3 false _ A5.out).mono ?_);rintro e w' ⟨rfl,⟨nd,rfl⟩⟩;(try exact ⟨rfl,_,zN⟩))))
  go_ret2
  exact ⟨zS,zB⟩
def jK.f (k:Nat) (a1 a2 a3:Int):Option (Int × Int):=(jl.f 2 a1 a2 a3).bind fun t117=>(if t117=true then ((cZ.f k (wrap64 (a3*a1)) a2).bind fun anr=>((gU.f k (wrap64 ((wrap64 (a3+1))*a1)) a2).bind fun t119=>((cZ.f k (wrap64 ((wrap64 ((wrap64 ((wrap64 ((wrap64 (2*a3))+1))*a1)) - a2)) - (wrap64 (6*(mx a1 a2))))) (wrap64 (2*a2))).bind fun adz=>((gU.f k (wrap64 ((wrap64 ((wrap64 ((wrap64 ((wrap64 (2*a3))+1))*a1)) - a2))+(wrap64 (6*(mx a1 a2))))) (wrap64 (2*a2))).bind fun agn=>(some (wrap64 (adz+1),wrap64 (agn - (wrap64 (adz+1))))))))) else (some (0,0)))
theorem jK.mono:∀ a1 a2 a3 k,LeO (jK.f k a1 a2 a3) (jK.f (k+1) a1 a2 a3):=by
 intro a1 a2 a3 k
 unfold jK.f
 repeat' (with_reducible first|exact cZ.mono _ _ _|exact gU.mono _ _ _|exact zM|refine LeO.ite ?_ ?_|refine LeO.bind ?_ (fun _ => ?_))
set_option maxHeartbeats 8000000 in
set_option maxRecDepth 100000 in
theorem jK.calls (k:Nat) (a1 a2 a3 r1 r2:Int) (w:World) (hG:GL w) (h:jK.f k a1 a2 a3=some (r1,r2)) :
  Calls Tryz.prog 128 #[.int .i64 2,.int .i64 a1,.int .i64 a2,.int .i64 a3] w fun e w'=>e = .returned (.tuple #[.int .i64 r1,.int .i64 r2])∧Below w.heap.size w w':=by
 have HB:=aj.mk (Below.refl w.heap.size w)
 have H:=h
 clear h
 unfold jK.f at H
 obtain ⟨⟨aa8,aa9,abb,abd,abe,abf⟩,⟨abg,abh,abj,abk,abl,abm,abn⟩⟩:=hG
 replace H:=zO H
 obtain ⟨t117,A5,H⟩:=H
 try dsimp only at H
 by_cases c6:t117=true
 ·subst c6
  rw [if_pos rfl] at H;try dsimp only at H
  replace H:=zO H
  obtain ⟨anr,A7,H⟩:=H
  try dsimp only at H
  replace H:=zO H
  obtain ⟨t119,A8,H⟩:=H
  try dsimp only at H
  obtain ⟨ji9,nH⟩:∃ j_:Int,(mx a1 a2)=j_:=⟨_,rfl⟩
  replace H:((cZ.f k (wrap64 ((wrap64 ((wrap64 ((wrap64 ((wrap64 (2*a3))+1))*a1)) - a2)) - (wrap64 (6*(ji9))))) (wrap64 (2*a2))).bind fun adz=>((gU.f k (wrap64 ((wrap64 ((wrap64 ((wrap64 ((wrap64 (2*a3))+1))*a1)) - a2))+(wrap64 (6*(ji9))))) (wrap64 (2*a2))).bind fun agn=>(some (wrap64 (adz+1),wrap64 (agn - (wrap64 (adz+1)))))))=some (r1,r2):=by first|(rw [nH] at H;exact H)|(simp only [nH] at H ⊢;exact H)
  (try rw [nH] at A5)
  (try rw [nH] at A7)
  (try rw [nH] at A8)
  have anq:(if a1 < a2 then a2 else a1)=ji9:=nH
  replace H:=zO H
  obtain ⟨adz,A10,H⟩:=H
  try dsimp only at H
  replace H:=zO H
  obtain ⟨agn,A11,H⟩:=H
  try dsimp only at H
  simp only [Option.some.injEq,Prod.mk.injEq] at H
  obtain ⟨rfl,rfl⟩:=H
  go_enter Tryz.func128,Tryz.ntmps128
  go_wp2_with (first|(go_at_call 151;(with_reducible refine (jl.calls 2 a1 a2 a3 true _ A5.out).mono ?_);rintro e w' ⟨rfl,⟨nd,rfl⟩⟩;(try exact ⟨rfl,_,zN⟩))|(go_at_call 133;(with_reducible refine (cZ.calls k (wrap64 (a3*a1)) a2 anr _ A7.out).mono ?_);rintro e w' ⟨rfl,⟨nd,rfl⟩⟩;(try exact ⟨rfl,_,zN⟩))|(go_at_call 152;(with_reducible refine (gU.calls k (wrap64 ((wrap64 (a3+1))*a1)) a2 t119 _ A8.out).mono ?_);rintro e w' ⟨rfl,⟨nd,rfl⟩⟩;(try exact ⟨rfl,_,zN⟩))|(go_at_call 133;(with_reducible refine (cZ.calls k (wrap64 ((wrap64 ((wrap64 ((wrap64 ((wrap64 (2*a3))+1))*a1)) - a2)) - (wrap64 (6*(ji9))))) (wrap64 (2*a2)) adz _ A10.out).mono ?_);rintro e w' ⟨rfl,⟨nd,rfl⟩⟩;(try exact ⟨rfl,_,zN⟩))|(go_at_call 152;(with_reducible refine (gU.calls k (wrap64 ((wrap64 ((wrap64 ((wrap64 ((wrap64 (2*a3))+1))*a1)) - a2))+(wrap64 (6*(ji9))))) (wrap64 (2*a2)) agn _ A11.out).mono ?_);rintro e w' ⟨rfl,⟨nd,rfl⟩⟩;(try exact ⟨rfl,_,zN⟩)))
  repeat (go_quiet (first|(go_at_call 151;(with_reducible refine (jl.calls 2 a1 a2 a3 true _ A5.out).mono ?_);rintro e w' ⟨rfl,⟨nd,rfl⟩⟩;(try exact ⟨rfl,_,zN⟩))|(go_at_call 133;(with_reducible refine (cZ.calls k (wrap64 (a3*a1)) a2 anr _ A7.out).mono ?_);rintro e w' ⟨rfl,⟨nd,rfl⟩⟩;(try exact ⟨rfl,_,zN⟩))|(go_at_call 152;(with_reducible refine (gU.calls k (wrap64 ((wrap64 (a3+1))*a1)) a2 t119 _ A8.out).mono ?_);rintro e w' ⟨rfl,⟨nd,rfl⟩⟩;(try exact ⟨rfl,_,zN⟩))|(go_at_call 133;(with_reducible refine (cZ.calls k (wrap64 ((wrap64 ((wrap64 ((wrap64 ((wrap64 (2*a3))+1))*a1)) - a2)) - (wrap64 (6*(ji9))))) (wrap64 (2*a2)) adz _ A10.out).mono ?_);rintro e w' ⟨rfl,⟨nd,rfl⟩⟩;(try exact ⟨rfl,_,zN⟩))|(go_at_call 152;(with_reducible refine (gU.calls k (wrap64 ((wrap64 ((wrap64 ((wrap64 ((wrap64 (2*a3))+1))*a1)) - a2))+(wrap64 (6*(ji9))))) (wrap64 (2*a2)) agn _ A11.out).mono ?_);rintro e w' ⟨rfl,⟨nd,rfl⟩⟩;(try exact ⟨rfl,_,zN⟩)));try go_wp2_with (first|(go_at_call 151;(with_reducible refine (jl.calls 2 a1 a2 a3 true _ A5.out).mono ?_);rintro e w' ⟨rfl,⟨nd,rfl⟩⟩;(try exact ⟨rfl,_,zN⟩))|(go_at_call 133;(with_reducible refine (cZ.calls k (wrap64 (a3*a1)) a2 anr _ A7.out).mono ?_);rintro e w' ⟨rfl,⟨nd,rfl⟩⟩;(try exact ⟨rfl,_,zN⟩))|(go_at_call 152;(with_reducible refine (gU.calls k (wrap64 ((wrap64 (a3+1))*a1)) a2 t119 _ A8.out).mono ?_);rintro e w' ⟨rfl,⟨nd,rfl⟩⟩;(try exact ⟨rfl,_,zN⟩))|(go_at_call 133;(with_reducible refine (cZ.calls k (wrap64 ((wrap64 ((wrap64 ((wrap64 ((wrap64 (2*a3))+1))*a1)) - a2)) - (wrap64 (6*(ji9))))) (wrap64 (2*a2)) adz _ A10.out).mono ?_);rintro e w' ⟨rfl,⟨nd,rfl⟩⟩;(try exact ⟨rfl,_,zN⟩))|(go_at_call 152;(with_reducible refine (gU.calls k (wrap64 ((wrap64 ((wrap64 ((wrap64 ((wrap64 (2*a3))+1))*a1)) - a2))+(wrap64 (6*(ji9))))) (wrap64 (2*a2)) agn _ A11.out).mono ?_);rintro e w' ⟨rfl,⟨nd,rfl⟩⟩;(try exact ⟨rfl,_,zN⟩))))
  go_ret2
  exact ⟨by first|rfl|(simp [bH,bI] <;> rfl)|(simp only [← nH];first|rfl|(simp [bH,bI] <;> rfl))|(simp [*,bH,bI] <;> rfl),zB⟩
 ·replace c6:=Bool.eq_false_iff.mpr c6
  subst c6
  rw [if_neg (show ¬ (false=true) by decide)] at H;try dsimp only at H
  simp only [Option.some.injEq,Prod.mk.injEq] at H
  obtain ⟨rfl,rfl⟩:=H
  go_enter Tryz.func128,Tryz.ntmps128
  go_wp2_with (first|(go_at_call 151;(with_reducible refine (jl.calls 2 a1 a2 a3 false _ A5.out).mono ?_);rintro e w' ⟨rfl,⟨nd,rfl⟩⟩;(try exact ⟨rfl,_,zN⟩)))
  repeat (go_quiet (first|(go_at_call 151;(with_reducible refine (jl.calls 2 a1 a2 a3 false _ A5.out).mono ?_);rintro e w' ⟨rfl,⟨nd,rfl⟩⟩;(try exact ⟨rfl,_,zN⟩)));try go_wp2_with (first|(go_at_call 151;(with_reducible refine (jl.calls 2 a1 a2 a3 false _ A5.out).mono ?_);rintro e w' ⟨rfl,⟨nd,rfl⟩⟩;(try exact ⟨rfl,_,zN⟩))))
  go_ret2
  exact ⟨zS,zB⟩
def jL.f (k:Nat) (a0 a1 a2 a3:Int):Option (Int × Int):=(jl.f a0 a1 a2 a3).bind fun ap4=>(if ap4=true then ((cZ.f k (wrap64 (a3*a1)) a2).bind fun aiv=>((gU.f k (wrap64 ((wrap64 (a3+1))*a1)) a2).bind fun t124=>(if a0=0 then (some (aiv,wrap64 (t124 - aiv))) else (none)))) else (some (0,0)))
theorem jL.mono:∀ a0 a1 a2 a3 k,LeO (jL.f k a0 a1 a2 a3) (jL.f (k+1) a0 a1 a2 a3):=by
 intro a0 a1 a2 a3 k
 unfold jL.f
 repeat' (with_reducible first|exact cZ.mono _ _ _|exact gU.mono _ _ _|exact zM|refine LeO.ite ?_ ?_|refine LeO.bind ?_ (fun _ => ?_))
set_option maxHeartbeats 8000000 in
set_option maxRecDepth 100000 in
theorem jL.calls (k:Nat) (a0 a1 a2 a3 r1 r2:Int) (w:World) (hG:GL w) (h:jL.f k a0 a1 a2 a3=some (r1,r2)) :
  Calls Tryz.prog 128 #[.int .i64 a0,.int .i64 a1,.int .i64 a2,.int .i64 a3] w fun e w'=>e = .returned (.tuple #[.int .i64 r1,.int .i64 r2])∧Below w.heap.size w w':=by
 have HB:=aj.mk (Below.refl w.heap.size w)
 have H:=h
 clear h
 unfold jL.f at H
 obtain ⟨⟨aa8,aa9,abb,abd,abe,abf⟩,⟨abg,abh,abj,abk,abl,abm,abn⟩⟩:=hG
 replace H:=zO H
 obtain ⟨ap4,A5,H⟩:=H
 try dsimp only at H
 by_cases c6:ap4=true
 ·subst c6
  rw [if_pos rfl] at H;try dsimp only at H
  replace H:=zO H
  obtain ⟨aiv,A7,H⟩:=H
  try dsimp only at H
  replace H:=zO H
  obtain ⟨t124,A8,H⟩:=H
  try dsimp only at H
  by_cases c9:a0=0
  ·rw [if_pos c9] at H
   have qA:(a0 == 0)=true:=beq_iff_eq.mpr c9
   have abR:(a0 != 0)=false:=bne_eq_false_iff_eq.mpr c9
   clear c9
   simp only [Option.some.injEq,Prod.mk.injEq] at H
   obtain ⟨rfl,rfl⟩:=H
   go_enter Tryz.func128,Tryz.ntmps128
   go_wp2_with (first|(go_at_call 151;(with_reducible refine (jl.calls a0 a1 a2 a3 true _ A5.out).mono ?_);rintro e w' ⟨rfl,⟨nd,rfl⟩⟩;(try exact ⟨rfl,_,zN⟩))|(go_at_call 133;(with_reducible refine (cZ.calls k (wrap64 (a3*a1)) a2 aiv _ A7.out).mono ?_);rintro e w' ⟨rfl,⟨nd,rfl⟩⟩;(try exact ⟨rfl,_,zN⟩))|(go_at_call 152;(with_reducible refine (gU.calls k (wrap64 ((wrap64 (a3+1))*a1)) a2 t124 _ A8.out).mono ?_);rintro e w' ⟨rfl,⟨nd,rfl⟩⟩;(try exact ⟨rfl,_,zN⟩)))
   repeat (go_quiet (first|(go_at_call 151;(with_reducible refine (jl.calls a0 a1 a2 a3 true _ A5.out).mono ?_);rintro e w' ⟨rfl,⟨nd,rfl⟩⟩;(try exact ⟨rfl,_,zN⟩))|(go_at_call 133;(with_reducible refine (cZ.calls k (wrap64 (a3*a1)) a2 aiv _ A7.out).mono ?_);rintro e w' ⟨rfl,⟨nd,rfl⟩⟩;(try exact ⟨rfl,_,zN⟩))|(go_at_call 152;(with_reducible refine (gU.calls k (wrap64 ((wrap64 (a3+1))*a1)) a2 t124 _ A8.out).mono ?_);rintro e w' ⟨rfl,⟨nd,rfl⟩⟩;(try exact ⟨rfl,_,zN⟩)));try go_wp2_with (first|(go_at_call 151;(with_reducible refine (jl.calls a0 a1 a2 a3 true _ A5.out).mono ?_);rintro e w' ⟨rfl,⟨nd,rfl⟩⟩;(try exact ⟨rfl,_,zN⟩))|(go_at_call 133;(with_reducible refine (cZ.calls k (wrap64 (a3*a1)) a2 aiv _ A7.out).mono ?_);rintro e w' ⟨rfl,⟨nd,rfl⟩⟩;(try exact ⟨rfl,_,zN⟩))|(go_at_call 152;(with_reducible refine (gU.calls k (wrap64 ((wrap64 (a3+1))*a1)) a2 t124 _ A8.out).mono ?_);rintro e w' ⟨rfl,⟨nd,rfl⟩⟩;(try exact ⟨rfl,_,zN⟩))))
   go_ret2
   exact ⟨zS,zB⟩
  ·rw [if_neg c9] at H
   exact absurd H (by simp)
 ·replace c6:=Bool.eq_false_iff.mpr c6
  subst c6
  rw [if_neg (show ¬ (false=true) by decide)] at H;try dsimp only at H
  simp only [Option.some.injEq,Prod.mk.injEq] at H
  obtain ⟨rfl,rfl⟩:=H
  go_enter Tryz.func128,Tryz.ntmps128
  go_wp2_with (first|(go_at_call 151;(with_reducible refine (jl.calls a0 a1 a2 a3 false _ A5.out).mono ?_);rintro e w' ⟨rfl,⟨nd,rfl⟩⟩;(try exact ⟨rfl,_,zN⟩)))
  repeat (go_quiet (first|(go_at_call 151;(with_reducible refine (jl.calls a0 a1 a2 a3 false _ A5.out).mono ?_);rintro e w' ⟨rfl,⟨nd,rfl⟩⟩;(try exact ⟨rfl,_,zN⟩)));try go_wp2_with (first|(go_at_call 151;(with_reducible refine (jl.calls a0 a1 a2 a3 false _ A5.out).mono ?_);rintro e w' ⟨rfl,⟨nd,rfl⟩⟩;(try exact ⟨rfl,_,zN⟩))))
  go_ret2
  exact ⟨zS,zB⟩
def lG.f (k:Nat) (a0 a1 a2 a3:Int):Option (Int × Int):=if a0=1 then jJ.f k a1 a2 a3 else if a0=2 then jK.f k a1 a2 a3 else jL.f k a0 a1 a2 a3
theorem lG.mono:∀ a0 a1 a2 a3 k,LeO (lG.f k a0 a1 a2 a3) (lG.f (k+1) a0 a1 a2 a3):=by
 intro a0 a1 a2 a3 k
 unfold lG.f
 exact LeO.ite (jJ.mono _ _ _ _) (LeO.ite (jK.mono _ _ _ _) (jL.mono _ _ _ _ _))
theorem lG.calls (k:Nat) (a0 a1 a2 a3 r1 r2:Int) (w:World) (hG:GL w) (h:lG.f k a0 a1 a2 a3=some (r1,r2)) :
  Calls Tryz.prog 128 #[.int .i64 a0,.int .i64 a1,.int .i64 a2,.int .i64 a3] w fun e w'=>e = .returned (.tuple #[.int .i64 r1,.int .i64 r2])∧Below w.heap.size w w':=by
 unfold lG.f at h
 by_cases c1:a0=1
 ·subst c1;exact jJ.calls k a1 a2 a3 r1 r2 w hG (by rw [if_pos rfl] at h;exact h)
 ·rw [if_neg c1] at h
  by_cases c2:a0=2
  ·subst c2;exact jK.calls k a1 a2 a3 r1 r2 w hG (by rw [if_pos rfl] at h;exact h)
  ·rw [if_neg c2] at h
   exact jL.calls k a0 a1 a2 a3 r1 r2 w hG h
def nZ.f (a0:Int):Option (Int):=if a0 < 0 then (some (IntKind.u64.wrap (-(IntKind.u64.wrap (a0))))) else (some (IntKind.u64.wrap (a0)))
set_option maxHeartbeats 8000000 in
set_option maxRecDepth 100000 in
theorem nZ.calls (a0 r:Int) (w:World) (h:nZ.f a0=some r) :
  Calls Tryz.prog 155 #[.int .i64 a0] w fun e w'=>e = .returned (.int .u64 r)∧cO w w':=by
 have H:=h
 clear h
 unfold nZ.f at H
 by_cases c2:a0 < 0
 ·rw [if_pos c2] at H
  have nD:=decide_eq_true c2
  clear c2
  obtain rfl:=Option.some.inj H
  go_enter Tryz.func155,Tryz.ntmps155
  go_wp2
  go_ret
  exact ⟨zT,zW⟩
 ·rw [if_neg c2] at H
  have nD:=decide_eq_false c2
  clear c2
  obtain rfl:=Option.some.inj H
  go_enter Tryz.func155,Tryz.ntmps155
  go_wp2
  go_ret
  exact ⟨zT,zW⟩
def bits_Mul64.f (a0 a1:Int):Option (Int × Int):=if 0≤a0∧a0 < 18446744073709551616∧0≤a1∧a1 < 18446744073709551616 then some (a0*a1 / 18446744073709551616,a0*a1 % 18446744073709551616) else none
theorem bits_Mul64.calls (a0 a1 r1 r2:Int) (w:World) (h:bits_Mul64.f a0 a1=some (r1,r2)) :
  Calls Tryz.prog 178 #[.int .u64 a0,.int .u64 a1] w fun e w'=>e = .returned (.tuple #[.int .u64 r1,.int .u64 r2])∧cO w w':=by
 unfold bits_Mul64.f at h
 by_cases c:0≤a0∧a0 < 18446744073709551616∧0≤a1∧a1 < 18446744073709551616
 ·rw [if_pos c] at h
  obtain ⟨h0,h1,h2,h3⟩:=c
  obtain ⟨rfl,rfl⟩:=Prod.mk.inj (Option.some.inj h)
  obtain ⟨x,rfl⟩:=Int.eq_ofNat_of_zero_le h0
  obtain ⟨y,rfl⟩:=Int.eq_ofNat_of_zero_le h2
  exact (Tryz.bits_Mul64 x y (by omega) (by omega) w).mono fun e w' ⟨he,hw⟩=>⟨by rw [he];congr 4,by rw [hw];exact cO.refl _⟩
 ·rw [if_neg c] at h;exact absurd h (by simp)
def kL.f (a0 a1:Int):Option (Int × Int × Bool):=(nZ.f a0).bind fun akN=>((nZ.f a1).bind fun akO=>((bits_Mul64.f akN akO).bind fun asz=>(some (asz.1,asz.2,((decide (a0 < 0)) != (decide (a1 < 0)))))))
set_option maxHeartbeats 8000000 in
set_option maxRecDepth 100000 in
theorem kL.calls (a0 a1 r1 r2:Int) (r3:Bool) (w:World) (h:kL.f a0 a1=some (r1,r2,r3)) :
  Calls Tryz.prog 154 #[.int .i64 a0,.int .i64 a1] w fun e w'=>e = .returned (.tuple #[.int .u64 r1,.int .u64 r2,.bool r3])∧cO w w':=by
 have H:=h
 clear h
 unfold kL.f at H
 replace H:=zO H
 obtain ⟨akN,A3,H⟩:=H
 try dsimp only at H
 replace H:=zO H
 obtain ⟨akO,A4,H⟩:=H
 try dsimp only at H
 replace H:=zO H
 obtain ⟨⟨t127,aym⟩,A5,H⟩:=H
 try dsimp only at H
 simp only [Option.some.injEq,Prod.mk.injEq] at H
 obtain ⟨rfl,rfl,rfl⟩:=H
 go_enter Tryz.func154,Tryz.ntmps154
 go_wp2_with (first|((with_reducible refine ay (f:=155) rfl ?_);refine aH (some 9) rfl rfl Tryz.func155 (by kernel_rfl) rfl #[.int .i64 a0] rfl zL ?_;(with_reducible refine (nZ.calls a0 akN _ A3.out).mono ?_);rintro e w' ⟨rfl,⟨nd,rfl⟩⟩;refine ⟨_,rfl,?_⟩)|((with_reducible refine ay (f:=155) rfl ?_);refine aH (some 11) rfl rfl Tryz.func155 (by kernel_rfl) rfl #[.int .i64 a1] rfl zL ?_;(with_reducible refine (nZ.calls a1 akO _ A4.out).mono ?_);rintro e w' ⟨rfl,⟨nd,rfl⟩⟩;refine ⟨_,rfl,?_⟩)|((with_reducible refine ay (f:=178) rfl ?_);refine aH (some 12) rfl rfl Tryz.func178 (by kernel_rfl) rfl #[.int .u64 akN,.int .u64 akO] rfl zL ?_;(with_reducible refine (bits_Mul64.calls akN akO t127 aym _ A5.out).mono ?_);rintro e w' ⟨rfl,⟨nd,rfl⟩⟩;refine ⟨_,rfl,?_⟩))
 go_ret3
 exact ⟨zT,zW⟩
end Go.Proofs.YtpondkggmcmpfaaGreatDoor.QA
namespace Go.Proofs.YtpondkggmcmpfaaGreatDoor.QA
open Go.Proofs.YtpondkggmcmpfaaGreatDoor.T
open Go.RowKit Go.Proofs.YtpondkggmcmpfaaGreatDoorW.PrintWords Go.Proofs.YtpondkggmcmpfaaGreatDoorW.PrintLast Go.Proofs.YtpondkggmcmpfaaGreatDoorW.PrintMore
attribute [local go_sem] dV dP dQ fC fD
set_option linter.unusedVariables false
set_option linter.unusedSimpArgs false
def dh.j0:Nat→Int→Int→Bool→Bool→Option (Int)
 | 0,_,_,_,_=>none
 | k+1,x0,x1,x2,x7=>if x7=true then (some (-9223372036854775808)) else (if x2=true then (some (wrap64 (IntKind.u64.wrap (-x1)))) else (if x0 > 0 then (some 9223372036854775807) else (if x1 > 9223372036854775807 then (some 9223372036854775807) else (some (wrap64 (x1))))))
def dh.f (k:Nat) (a0 a1:Int) (a2:Bool):Option (Int):=if a2=true then (if a0 > 0 then (dh.j0 k a0 a1 a2 true) else (dh.j0 k a0 a1 a2 (decide (a1 > 9223372036854775808)))) else (dh.j0 k a0 a1 a2 false)
theorem dh.jd:∀ k,(∀ y0 y1 y2 y3,LeO (dh.j0 k y0 y1 y2 y3) (dh.j0 (k+1) y0 y1 y2 y3))
 | 0=>fun _ _ _ _ r h=>by simp [dh.j0] at h
 | k+1=>by
  have ih0:=dh.jd k
  ·intro y0 y1 y2 y3
   unfold dh.j0
   repeat' (with_reducible first|exact ih0 _ _ _ _|exact zM|refine LeO.ite ?_ ?_|refine LeO.bind ?_ (fun _ => ?_))
theorem dh.mono:∀ a0 a1 a2 k,LeO (dh.f k a0 a1 a2) (dh.f (k+1) a0 a1 a2):=by
 intro a0 a1 a2 k
 have ih0:=dh.jd k
 unfold dh.f
 repeat' (with_reducible first|exact ih0 _ _ _ _|exact zM|refine LeO.ite ?_ ?_|refine LeO.bind ?_ (fun _ => ?_))
set_option maxHeartbeats 8000000 in
set_option maxRecDepth 100000 in
theorem dh.calls (k:Nat) (a0 a1:Int) (a2:Bool) (r:Int) (w:World) (h:dh.f k a0 a1 a2=some r) :
  Calls Tryz.prog 156 #[.int .u64 a0,.int .u64 a1,.bool a2] w fun e w'=>e = .returned (.int .i64 r)∧cO w w':=by
 have H:=h
 clear h
 unfold dh.f at H
 have HC4:=aj.mk H
 clear H
 go_enter Tryz.func156,Tryz.ntmps156
 go_upto_region 1 with (fail)
 go_cut [7] (fun v7 wc=>∃ (kq:Nat) (zU:Bool),v7 = .bool zU∧aj (dh.j0 kq a0 a1 a2 zU=some r)∧aj (kq≤k)∧cO w wc)
 case first =>
  have H:=HC4.out
  clear HC4
  by_cases c5:a2=true
  ·subst c5
   rw [if_pos rfl] at H;try dsimp only at H
   by_cases c6:a0 > 0
   ·rw [if_pos c6] at H
    have iw:=decide_eq_true c6
    clear c6
    (first|rw [iw]|(simp only [bY,dw];rw [iw])|skip)
    have H':=aj.mk H
    clear H
    go_wp2
    go_meet
    case rel=>exact ⟨_,(true),zT,H',⟨by first|omega|exact Nat.le_refl _⟩,zW⟩
   ·rw [if_neg c6] at H
    have iw:=decide_eq_false c6
    clear c6
    (first|rw [iw]|(simp only [bY,dw];rw [iw])|skip)
    have H':=aj.mk H
    clear H
    go_wp2
    go_meet
    case rel=>exact ⟨_,(decide (a1 > 9223372036854775808)),zT,H',⟨by first|omega|exact Nat.le_refl _⟩,zW⟩
  ·replace c5:=Bool.eq_false_iff.mpr c5
   subst c5
   rw [if_neg (show ¬ (false=true) by decide)] at H;try dsimp only at H
   have H':=aj.mk H
   clear H
   go_wp2
   go_meet
   case rel=>exact ⟨_,(false),zT,H',⟨by first|omega|exact Nat.le_refl _⟩,zW⟩
 case rest =>
  clear HC4
  obtain ⟨kq,zU,rfl,HA,HJ3,⟨mc3,rfl⟩⟩:=hcut
  cases kq with
  | zero=>exact absurd HA.out (by simp [dh.j0])
  | succ kj3 =>
   have H:=HA.out
   clear HA
   simp only [dh.j0] at H
   by_cases c7:zU=true
   ·subst c7
    rw [if_pos rfl] at H;try dsimp only at H
    obtain rfl:=Option.some.inj H
    go_wp2
    go_ret
    exact ⟨zT,zW⟩
   ·replace c7:=Bool.eq_false_iff.mpr c7
    subst c7
    rw [if_neg (show ¬ (false=true) by decide)] at H;try dsimp only at H
    by_cases c8:a2=true
    ·subst c8
     rw [if_pos rfl] at H;try dsimp only at H
     obtain rfl:=Option.some.inj H
     go_wp2
     go_ret
     exact ⟨zT,zW⟩
    ·replace c8:=Bool.eq_false_iff.mpr c8
     subst c8
     rw [if_neg (show ¬ (false=true) by decide)] at H;try dsimp only at H
     by_cases c9:a0 > 0
     ·rw [if_pos c9] at H
      have qA:=decide_eq_true c9
      clear c9
      obtain rfl:=Option.some.inj H
      go_wp2
      go_ret
      exact ⟨zT,zW⟩
     ·rw [if_neg c9] at H
      have qA:=decide_eq_false c9
      clear c9
      by_cases c10:a1 > 9223372036854775807
      ·rw [if_pos c10] at H
       have pK:=decide_eq_true c10
       clear c10
       obtain rfl:=Option.some.inj H
       go_wp2
       go_ret
       exact ⟨zT,zW⟩
      ·rw [if_neg c10] at H
       have pK:=decide_eq_false c10
       clear c10
       obtain rfl:=Option.some.inj H
       go_wp2
       go_ret
       exact ⟨zT,zW⟩
def bits_LeadingZeros64.f (a0:Int):Option (Int):=if 0≤a0 then (if a0≤18446744073709551615 then (some (64 - (Lib.bitLen a0.toNat:Int))) else (none)) else (none)
theorem bits_LeadingZeros64.calls (a0 r:Int) (w:World) (h:bits_LeadingZeros64.f a0=some r) :
  Calls Tryz.prog 179 #[.int .u64 a0] w fun e w'=>e = .returned (.int .i64 r)∧cO w w':=by
 unfold bits_LeadingZeros64.f at h
 by_cases h0:0≤a0
 ·rw [if_pos h0] at h
  by_cases h1:a0≤18446744073709551615
  ·rw [if_pos h1] at h
   obtain rfl:=Option.some.inj h
   exact (Tryz.bits_LeadingZeros64 a0 w h0 h1).mono fun e w' ⟨he,hw⟩=>⟨he,by rw [hw];exact cO.refl _⟩
  ·rw [if_neg h1] at h;exact absurd h (by simp)
 ·rw [if_neg h0] at h;exact absurd h (by simp)
end Go.Proofs.YtpondkggmcmpfaaGreatDoor.QA
