/- Joined by wip/tools/bundle.py out of: WTab WFour WFootNe WAt WEqStruct WRepsOne WInv WInvWords WGuard QAx0 QAx1 QAx2 TCore QAx3 QAx4 QAx11 QAx12. -/
import Derived.Test.YtpondkggmcmpfaaGreatDoorBPlanReaches0
import Derived.Laws.StructEq
import Derived.Test.YtpondkggmcmpfaaGreatDoorProg
import Derived.Below
import Derived.Deep.Draws
import Derived.Deep.AppendLies
import Derived.Maps.AppendAt
import Derived.OwnWalk
import Derived.Laws.BytesArg
import Derived.Laws.MakeOwn
import Derived.Laws.OwnMore
import Derived.Deep.OwnRows
import Derived.Tactics
import Derived.Lib.ConvBytes
import Derived.Laws.Slices
import Derived.WalkKit
import Derived.KernelRfl
import Derived.RowKit3
import Derived.Deep.LoopGhost
import Derived.Deep.QuietTactic
import Derived.BigQuiet
import Derived.WideLaws
import Derived.Deep.DeepCutAuto
import Derived.Deep.CutBlock
import Derived.Deep.RegionHeld3
import Derived.Laws.Rows
import Derived.Lib.AppendStr
import Derived.ArgAppend
import Derived.Laws.IdiomCopy
import Derived.OrdersHeld
import Derived.Laws.BitsLemmas
import Derived.RowKit
namespace Go.Proofs.YtpondkggmcmpfaaGreatDoorW.PrintLast
open Go.Proofs.YtpondkggmcmpfaaGreatDoorW.PrintWords (aj)
def aa5 (md:Region.Mode) (o:Oper):List Nat:=(o.after.toList.filter (fun e=>Region.binds md e)).map (fun e=>e.on)
def ahe (md:Region.Mode) (ops:Array Oper) (i:Nat) (oi:Oper):List Nat:=(List.range ops.size).filter fun j => !(j == i) && match ops[j]? with
  | some oj => !(oj.after.any (fun e=>Region.binds md e && e.on == i) || oi.apart ops oj)
  | none=>false
def rV (md:Region.Mode) (ops:Array Oper):Bool × List (List Nat × List Nat):=(Region.noSelect ops,(List.range ops.size).map fun i=>match ops[i]? with
  | some o=>(aa5 md o,ahe md ops i o)
  | none=>([],[]))
def xU (T:List (List Nat × List Nat)) (l:List Bool) (i:Nat):Bool := !l.getD i true && match T[i]? with
  | some r=>r.1.all (fun j=>l.getD j false)
  | none=>false
def adB (T:List (List Nat × List Nat)) (l:List Bool):List Nat:=(List.range T.length).filter (xU T l)
def af8 (T:List (List Nat × List Nat)) (l:List Bool) (i:Nat):Bool:=match T[i]? with
  | some r=>r.2.all (fun j=>l.getD j true)
  | none=>false
def aeF (T:List (List Nat × List Nat)) (l:List Bool):Bool:=(List.range T.length).all fun j => !l.getD j false || match T[j]? with
  | some r=>r.1.all (fun k=>l.getD k false)
  | none=>true
def acp (T:List (List Nat × List Nat)) (i:Nat):Nat→Nat→Bool
  | 0,_=>false
  | fuel+1,d=>match T[d]? with
    | some r=>r.1.any fun j=>j == i || acp T i fuel j
    | none=>false
def lastT (T:List (List Nat × List Nat)) (l:List Bool) (ds:List Nat) (i:Nat):Bool:=ds.all fun d=>l.getD d true || acp T i T.length d
section
variable {md:Region.Mode} {ops:Array Oper} {T:Bool × List (List Nat × List Nat)} {l l' li lj lk:Array Bool} {ds:List Nat} {i j k:Nat}
theorem gd (l:Array Bool) (j:Nat) (b:Bool):l.getD j b=l.toList.getD j b:=by simp [Array.getD_eq_getD_getElem?,List.getD_eq_getElem?_getD]
theorem ah2 (o:Oper) (p:Nat→Bool):o.after.all (fun e => !Region.binds md e || p e.on)=(aa5 md o).all p:=by
  unfold aa5
  rw [← Array.all_toList]
  induction o.after.toList with
  | nil=>rfl
  | cons e r ih =>
    rw [List.all_cons,ih,List.filter_cons]
    cases h:Region.binds md e <;> simp
theorem ano (o:Oper) (p:Nat→Bool):o.after.any (fun e=>Region.binds md e && p e.on)=(aa5 md o).any p:=by
  unfold aa5
  rw [← Array.any_toList]
  induction o.after.toList with
  | nil=>rfl
  | cons e r ih =>
    rw [List.any_cons,ih,List.filter_cons]
    cases h:Region.binds md e <;> simp
theorem zY:(rV md ops).2.length=ops.size:=by simp [rV]
theorem abD {o:Oper} (h:ops[i]? = some o):(rV md ops).2[i]? = some (aa5 md o,ahe md ops i o):=by
  have hi:=(Array.getElem?_eq_some_iff.1 h).1
  unfold rV
  rw [List.getElem?_map,List.getElem?_range hi,Option.map_some,h]
theorem abE (h:ops[i]? = none):(rV md ops).2[i]? = none:=by
  have hi:ops.size≤i:=Array.getElem?_eq_none_iff.1 h
  exact List.getElem?_eq_none (by rw [zY];exact hi)
theorem alE:xU (rV md ops).2 l.toList i=(!l.getD i true && ((ops[i]?).map (·.after.all fun e => !Region.binds md e || l.getD e.on false)).getD false):=by
  unfold xU
  rw [gd]
  cases h:ops[i]? with
  | none=>rw [abE h];rfl
  | some o =>
    rw [abD h]
    simp only [Option.map_some,Option.getD_some]
    rw [← ah2]
    simp only [gd]
theorem ready_eq:Region.ready md ops l=adB (rV md ops).2 l.toList:=by
  unfold Region.ready adB
  rw [zY]
  refine List.filter_congr (fun i _ => ?_)
  rw [alE]
theorem free_eq:Region.free md ops l i=af8 (rV md ops).2 l.toList i:=by
  unfold Region.free af8
  cases h:ops[i]? with
  | none=>rw [abE h]
  | some oi =>
    rw [abD h]
    simp only [ahe]
    rw [List.all_filter]
    congr 1
    funext j
    rw [gd]
    cases hj:ops[j]? with
    | none=>cases (j == i) <;> cases (l.toList.getD j true) <;> simp
    | some oj =>
      cases (j == i) <;> cases (l.toList.getD j true) <;> cases (oj.after.any (fun e=>Region.binds md e && e.on == i) || oi.apart ops oj) <;> simp_all
theorem anp:Region.acj md ops l=aeF (rV md ops).2 l.toList:=by
  unfold Region.acj aeF
  rw [zY]
  congr 1
  funext j
  rw [gd]
  cases h:ops[j]? with
  | none=>rw [abE h]
  | some o =>
    rw [abD h]
    simp only
    rw [← ah2]
    simp only [gd]
theorem reach_eq:∀ (fuel d:Nat),Region.uM md ops i fuel d=acp (rV md ops).2 i fuel d
  | 0,_=>rfl
  | fuel+1,d=>by
    unfold Region.uM acp
    cases h:ops[d]? with
    | none=>rw [abE h]
    | some o =>
      rw [abD h]
      simp only
      rw [← ano]
      congr 1
      funext e
      rw [reach_eq fuel]
theorem aqY:Region.lastB md ops l ds i=lastT (rV md ops).2 l.toList ds i:=by
  unfold Region.lastB lastT
  rw [zY]
  congr 1
  funext d
  rw [gd,reach_eq]
theorem ae9 (h:xU T.2 l.toList i=true) (hT:rV md ops=T):(Region.ready md ops l).contains i=true:=by
  subst hT
  rw [ready_eq]
  unfold adB
  rw [List.contains_iff_mem,List.mem_filter,List.mem_range]
  refine ⟨?_,h⟩
  unfold xU at h
  rw [Bool.and_eq_true] at h
  cases hq:(rV md ops).2[i]? with
  | none=>rw [hq] at h;simp at h
  | some r=>exact (List.getElem?_eq_some_iff.1 hq).1
theorem ajh (h:(l.toList.set i true == l'.toList)=true):(l.setIfInBounds i true == l')=true:=by
  rw [beq_iff_eq] at h ⊢
  apply Array.ext'
  rw [Array.toList_setIfInBounds]
  exact h
def arN (T:Bool × List (List Nat × List Nat)) (l l':List Bool) (i:Nat):Bool:=T.1 && af8 T.2 l i && xU T.2 l i && (l.set i true == l')
theorem acr (hT:rV md ops=T) (h:arN T l.toList l'.toList i=true):alv md ops l l' i=true:=by
  simp only [arN,Bool.and_eq_true] at h
  obtain ⟨⟨⟨h1,h2⟩,h3⟩,h4⟩:=h
  have h5:=ae9 h3 hT
  have h6:=ajh h4
  subst hT
  simp only [alv,Bool.and_eq_true]
  exact ⟨⟨⟨h1,by rw [free_eq];exact h2⟩,h5⟩,h6⟩
def alF (T:Bool × List (List Nat × List Nat)) (ds:List Nat) (l l':List Bool) (i:Nat):Bool:=T.1 && af8 T.2 l i && xU T.2 l i && aeF T.2 l && lastT T.2 l ds i && (l.set i true == l')
theorem aqZ (hT:rV md ops=T) (h:alF T ds l.toList l'.toList i=true):takeB md ops ds l l' i=true:=by
  simp only [alF,Bool.and_eq_true] at h
  obtain ⟨⟨⟨⟨⟨h1,h2⟩,h3⟩,h4⟩,h5⟩,h6⟩:=h
  have h7:=ae9 h3 hT
  have h8:=ajh h6
  subst hT
  simp only [takeB,Bool.and_eq_true]
  exact ⟨⟨⟨⟨⟨h1,by rw [free_eq];exact h2⟩,h7⟩,by rw [anp];exact h4⟩,by rw [aqY];exact h5⟩,h8⟩
theorem anq (hT:rV md ops=T) (h:(adB T.2 l.toList == [i] && l.toList.set i true == l'.toList)=true):aco md ops l l' i=true:=by
  simp only [Bool.and_eq_true] at h
  obtain ⟨h1,h2⟩:=h
  subst hT
  simp only [aco,Bool.and_eq_true]
  exact ⟨by rw [ready_eq];exact h1,ajh h2⟩
theorem aq0 (hT:rV md ops=T) (h:(adB T.2 l.toList == [])=true):(Region.ready md ops l == [])=true:=by
  subst hT
  rw [ready_eq]
  exact h
def upM (B:List Nat) (d:Nat):List Nat→Nat
  | []=>0
  | n :: r=>(2 ^ n ||| (if n < d then B.getD n 0 else 0)) ||| upM B d r
def acs (T:List (List Nat × List Nat)) (B:List Nat):Bool:=(List.range T.length).all fun d=>match T[d]? with
  | some r=>(B.getD d 0 ||| upM B d r.1) == upM B d r.1
  | none=>false
theorem ak5 {B:List Nat} {d i:Nat}:∀ {ns:List Nat},(upM B d ns).testBit i=true→∃ n ∈ ns,n=i∨(n < d∧(B.getD n 0).testBit i=true)
  | [],h=>by simp [upM] at h
  | n :: r,h=>by
    unfold upM at h
    rw [Nat.testBit_or,Nat.testBit_or,Bool.or_eq_true,Bool.or_eq_true] at h
    rcases h with (h|h)|h
    · rw [Nat.testBit_two_pow] at h
      exact ⟨n,List.mem_cons_self,.inl (by simpa using h)⟩
    · by_cases hn:n < d
      · rw [if_pos hn] at h
        exact ⟨n,List.mem_cons_self,.inr ⟨hn,h⟩⟩
      · rw [if_neg hn] at h
        simp at h
    · obtain ⟨m,hm,h2⟩:=ak5 h
      exact ⟨m,List.mem_cons_of_mem _ hm,h2⟩
theorem ah3 {T:List (List Nat × List Nat)} {B:List Nat} (hB:acs T B=true):∀ (fuel d:Nat),d < fuel→d < T.length→(B.getD d 0).testBit i=true→acp T i fuel d=true
  | 0,d,h,_,_=>by omega
  | fuel+1,d,h,hd,hb=>by
    have h1:=List.all_eq_true.1 hB d (List.mem_range.2 hd)
    cases hr:T[d]? with
    | none=>rw [hr] at h1;simp at h1
    | some r =>
      rw [hr] at h1
      simp only [beq_iff_eq] at h1
      have h2:(upM B d r.1).testBit i=true:=by rw [← h1,Nat.testBit_or,hb,Bool.true_or]
      obtain ⟨n,hn,h3⟩:=ak5 h2
      unfold acp
      rw [hr]
      simp only
      rw [List.any_eq_true]
      refine ⟨n,hn,?_⟩
      rcases h3 with rfl|⟨h4,h5⟩
      · simp
      · rw [ah3 hB fuel n (by omega) (by omega) h5,Bool.or_true]
def ap6 (T:List (List Nat × List Nat)) (B:List Nat) (l:List Bool) (ds:List Nat) (i:Nat):Bool:=ds.all fun d=>l.getD d true || (decide (d < T.length) && (B.getD d 0).testBit i)
def ap7 (T:Bool × List (List Nat × List Nat)) (B:List Nat) (ds:List Nat) (l l':List Bool) (i:Nat):Bool:=T.1 && af8 T.2 l i && xU T.2 l i && aeF T.2 l && ap6 T.2 B l ds i && (l.set i true == l')
theorem an3 {B:List Nat} (hT:rV md ops=T) (hB:acs T.2 B=true) (h:ap7 T B ds l.toList l'.toList i=true):takeB md ops ds l l' i=true:=by
  refine aqZ hT ?_
  simp only [ap7,alF,Bool.and_eq_true] at h ⊢
  obtain ⟨⟨⟨⟨⟨h1,h2⟩,h3⟩,h4⟩,h5⟩,h6⟩:=h
  refine ⟨⟨⟨⟨⟨h1,h2⟩,h3⟩,h4⟩,?_⟩,h6⟩
  unfold ap6 at h5
  unfold lastT
  rw [List.all_eq_true] at h5 ⊢
  intro d hd
  have h7:=h5 d hd
  rw [Bool.or_eq_true,Bool.and_eq_true,decide_eq_true_eq] at h7
  rcases h7 with h7|⟨h8,h9⟩
  · rw [h7,Bool.true_or]
  · rw [ah3 hB _ d h8 h8 h9,Bool.or_true]
theorem anr {P:Program} {Q:Exit→Act→World→Prop} {S:World→Prop} {n:Nat} {a:Act} {w:World} {B:List Nat} (hT:rV md ops=T) (hB:acs T.2 B=true) (h:aj (rV md ops=T)→aj (acs T.2 B=true)→gX P md ops Q S ds n l a w):gX P md ops Q S ds n l a w:=h ⟨hT⟩ ⟨hB⟩
end
def zZ:Code→Nat→Option (Array Oper)
  | .region id ops _,k=>if id == k then some ops else none
  | .seq a b,k=>match zZ a k with
    | some o=>some o
    | none=>zZ b k
  | .cond _ a b,k=>match zZ a k with
    | some o=>some o
    | none=>zZ b k
  | .block _ c,k=>zZ c k
  | .loop c,k=>zZ c k
  | .scope c,k=>zZ c k
  | .rangeFunc _ _ a b,k=>match zZ a k with
    | some o=>some o
    | none=>zZ b k
  | _,_=>none
def opsOf (f:Func) (k:Nat):Array Oper:=((f.body.bind fun c=>zZ c k)).getD #[]
end Go.Proofs.YtpondkggmcmpfaaGreatDoorW.PrintLast
namespace Go.Proofs.YtpondkggmcmpfaaGreatDoorW.PrintLast
section
variable {P:Program} {ops:Array Oper} {Q:Exit→Act→World→Prop} {md:Region.Mode} {S:World→Prop} {ds:List Nat} {T:Bool × List (List Nat × List Nat)}
end
end Go.Proofs.YtpondkggmcmpfaaGreatDoorW.PrintLast
namespace Go.Proofs.YtpondkggmcmpfaaGreatDoorW.PrintWords
open Go.RowKit
namespace Kd
section
variable {α:Type} {d:Kd α} {W:World} {g n:Nat} {S ok:Nat→Prop} {A:Option Addr} {ad:Addr} {xs:List α}
end
end Kd
end Go.Proofs.YtpondkggmcmpfaaGreatDoorW.PrintWords
namespace Go.Proofs.YtpondkggmcmpfaaGreatDoorW.PrintWords
open Go.RowKit
section
variable {w w' u:World} {m B g:Nat} {o:Obj} {row:Option Nat} {S:Nat→Prop} {a:Addr} {v:Value}
end
namespace Kd
section
variable {α:Type} {d:Kd α} {e base n m:Nat} {ok:Nat→Prop} {w w':World} {v:Value} {A:Option Addr} {xs:List α}
end
end Kd
end Go.Proofs.YtpondkggmcmpfaaGreatDoorW.PrintWords
namespace Go.Proofs.YtpondkggmcmpfaaGreatDoorW.PrintWords
open Go.RowKit
section
variable {P:Program} {d:Nat} {xs ys:Array Value} {f:Field} {fs:List Field} {a b:Value} {r s:Bool} {w:World}
end
end Go.Proofs.YtpondkggmcmpfaaGreatDoorW.PrintWords
namespace Go.Proofs.YtpondkggmcmpfaaGreatDoorW.PrintWords
theorem jg.one {α:Type} {R:α→List Value→Prop} {ps:List α} {cs:List Value} {p:α} {v:Value} (hp:R p [v]) (h:jg R 1 ps cs):jg R 1 (p :: ps) (v :: cs):=by
  refine ⟨by simp [h.1],fun j q hq => ?_⟩
  cases j with
  | zero =>
    simp only [List.getElem?_cons_zero,Option.some.injEq] at hq
    subst hq
    simpa using hp
  | succ j =>
    simp only [List.getElem?_cons_succ] at hq
    have h1:=h.2 j q hq
    simpa [Nat.mul_one] using h1
end Go.Proofs.YtpondkggmcmpfaaGreatDoorW.PrintWords
namespace Go.Proofs.YtpondkggmcmpfaaGreatDoorW.PrintLast
section
variable {P:Program} {ops:Array Oper} {Q:Exit→Act→World→Prop} {md:Region.Mode} {T:Bool × List (List Nat × List Nat)} {B:List Nat} {O:List Nat} {b:Nat→Bool} {i j n:Nat}
end
end Go.Proofs.YtpondkggmcmpfaaGreatDoorW.PrintLast
namespace Go.Proofs.YtpondkggmcmpfaaGreatDoorW.PrintWords
open Go.RowKit
end Go.Proofs.YtpondkggmcmpfaaGreatDoorW.PrintWords
namespace Go.Proofs.YtpondkggmcmpfaaGreatDoorW.PrintLast
section
variable {ops:Array Oper} {a:Act} {o og:Oper} {g:Nat} {t:Tmp} {u:Bool}
end
end Go.Proofs.YtpondkggmcmpfaaGreatDoorW.PrintLast
namespace Go.Proofs.YtpondkggmcmpfaaGreatDoorW.PrintWords
open Go.RowKit
section
variable {P:Program} {ops:Array Oper} {rest:List Oper} {o:Oper} {a:Act} {Q:Exit→Act→World→Prop} {W:World}
theorem ku (hw:Region.wanted o (yielded ops a.tmps)=true) (h:wpList P ops Q ({ o with guard:=none } :: rest) a W):wpList P ops Q (o :: rest) a W:=by
  have h1:Region.wanted { o with guard:=none } (yielded ops a.tmps)=true:=rfl
  unfold wpList at h ⊢
  rw [if_pos h1] at h
  rw [if_pos hw]
  exact h
end
end Go.Proofs.YtpondkggmcmpfaaGreatDoorW.PrintWords
namespace Go.Proofs.YtpondkggmcmpfaaGreatDoor.QA
open Go.Proofs.YtpondkggmcmpfaaGreatDoor.T
open Go.RowKit Go.Proofs.YtpondkggmcmpfaaGreatDoorW.PrintWords Go.Proofs.YtpondkggmcmpfaaGreatDoorW.PrintLast Go.Proofs.YtpondkggmcmpfaaGreatDoorW.PrintMore
attribute [local go_sem] dV dQ dR eP eX
set_option linter.unusedVariables false
set_option linter.unusedSimpArgs false
def arO:Option Int→Value
 | none => .nilIface
 | some c => .iface 0 (.int .i64 c)
theorem bG:arO none = .nilIface:=rfl
theorem bH (c:Int):arO (some c) = .iface 0 (.int .i64 c):=rfl
theorem vH:(Tryz.prog.info? 2).map (fun i=>(i.zero,i.size,i.bytes))=some (some (.int .i64 0),1,8):=by kernel_rfl
theorem aq1:(Tryz.prog.info? 138).map (fun i=>(i.zero,i.size,i.bytes))=some (some (.agg #[(.int .i64 0),(.slice none 0 0)]),2,32):=by kernel_rfl
structure S71 where
 f0:Int
 f1:(List Int)
def z71:S71:=⟨(0:Int),([]:List Int)⟩
def k71:Kd S71:=Kd.iso (Kd.pair (Kd.int .i64) (Kd.slice 2 (Kd.int .i64))) (fun x:S71=>(x.f0,x.f1))
theorem an4 {w:World} {x:S71} {cs:List Value} (h:k71.K w x cs):∃ A1 c1,cs=[.int .i64 x.f0,.slice A1 x.f1.length c1]∧x.f1.length≤c1∧(Kd.int .i64).C w A1 x.f1.length x.f1:=by
 obtain ⟨_,_,rfl,rfl,⟨A1,c1,rfl,l1,g1⟩⟩:=h
 exact ⟨A1,c1,rfl,l1,g1⟩
theorem aq2 (w:World) (base:Nat) (ok:Nat→Prop) (x:S71) {v1:Value} (g1:(Kd.int .i64).R 2 w base ok v1 x.f1):k71.M w base ok x [.int .i64 x.f0,v1]:=⟨[.int .i64 x.f0],[v1],rfl,rfl,⟨v1,rfl,g1⟩⟩
def eY (xs:List S71) (i:Int):S71:=xs.getD i.toNat z71
theorem aji {w:World} {A:Option Addr} {n:Nat} {xs:List S71} (h:Kd.C k71 w A n xs) (i:Int) (h0:0≤i) (h1:i < n):∃ ad A1 c1,A=some ad∧w.cell? (ad.add (i.toNat*2))=some (.int .i64 (eY xs i).f0)∧w.cell? ⟨(ad.add (i.toNat*2)).block,(ad.add (i.toNat*2)).off+1,none⟩=some (.slice A1 (eY xs i).f1.length c1)∧(eY xs i).f1.length≤c1∧(Kd.int .i64).C w A1 (eY xs i).f1.length (eY xs i).f1:=by
 obtain ⟨ad,c,e,_,hK,hc0⟩:=Kd.alB h z71 i h0 h1
 have hc:∀ j u,c[j]? = some u→w.cell? (ad.add (i.toNat*2+j))=some u:=hc0
 obtain ⟨A1,c1,rfl,l1,g1⟩:=an4 hK
 exact ⟨ad,A1,c1,e,hc 0 _ rfl,by rw [← jO _ _ 1 (by omega)];exact hc 1 _ rfl,l1,g1⟩
structure S47 where
 f0:Int
 f1:Int
 f2:Int
 f3:Int
 f4:(List Int)
 f5:(List Int)
 f6:Int
 f7:Int
 f8:Int
def z47:S47:=⟨(0:Int),(0:Int),(0:Int),(0:Int),([]:List Int),([]:List Int),(0:Int),(0:Int),(0:Int)⟩
def k47:Kd S47:=Kd.iso (Kd.pair (Kd.int .i64) (Kd.pair (Kd.int .i64) (Kd.pair (Kd.int .i64) (Kd.pair (Kd.int .i64) (Kd.pair (Kd.slice 2 (Kd.int .i64)) (Kd.pair (Kd.slice 2 (Kd.int .i64)) (Kd.pair (Kd.int .i64) (Kd.pair (Kd.int .i64) (Kd.int .i64))))))))) (fun x:S47=>(x.f0,x.f1,x.f2,x.f3,x.f4,x.f5,x.f6,x.f7,x.f8))
theorem ajj {w:World} {x:S47} {cs:List Value} (h:k47.K w x cs):∃ A4 c4 A5 c5,cs=[.int .i64 x.f0,.int .i64 x.f1,.int .i64 x.f2,.int .i64 x.f3,.slice A4 x.f4.length c4,.slice A5 x.f5.length c5,.int .i64 x.f6,.int .i64 x.f7,.int .i64 x.f8]∧x.f4.length≤c4∧(Kd.int .i64).C w A4 x.f4.length x.f4∧x.f5.length≤c5∧(Kd.int .i64).C w A5 x.f5.length x.f5:=by
 obtain ⟨_,_,rfl,rfl,⟨_,_,rfl,rfl,⟨_,_,rfl,rfl,⟨_,_,rfl,rfl,⟨_,_,rfl,⟨A4,c4,rfl,l4,g4⟩,⟨_,_,rfl,⟨A5,c5,rfl,l5,g5⟩,⟨_,_,rfl,rfl,⟨_,_,rfl,rfl,rfl⟩⟩⟩⟩⟩⟩⟩⟩:=h
 exact ⟨A4,c4,A5,c5,rfl,l4,g4,l5,g5⟩
theorem ant (w:World) (x:S47) {A4:Option Addr} {c4:Nat} (l4:x.f4.length≤c4) (g4:(Kd.int .i64).C w A4 x.f4.length x.f4) {A5:Option Addr} {c5:Nat} (l5:x.f5.length≤c5) (g5:(Kd.int .i64).C w A5 x.f5.length x.f5):k47.K w x [.int .i64 x.f0,.int .i64 x.f1,.int .i64 x.f2,.int .i64 x.f3,.slice A4 x.f4.length c4,.slice A5 x.f5.length c5,.int .i64 x.f6,.int .i64 x.f7,.int .i64 x.f8]:=⟨[.int .i64 x.f0],[.int .i64 x.f1,.int .i64 x.f2,.int .i64 x.f3,.slice A4 x.f4.length c4,.slice A5 x.f5.length c5,.int .i64 x.f6,.int .i64 x.f7,.int .i64 x.f8],rfl,rfl,⟨[.int .i64 x.f1],[.int .i64 x.f2,.int .i64 x.f3,.slice A4 x.f4.length c4,.slice A5 x.f5.length c5,.int .i64 x.f6,.int .i64 x.f7,.int .i64 x.f8],rfl,rfl,⟨[.int .i64 x.f2],[.int .i64 x.f3,.slice A4 x.f4.length c4,.slice A5 x.f5.length c5,.int .i64 x.f6,.int .i64 x.f7,.int .i64 x.f8],rfl,rfl,⟨[.int .i64 x.f3],[.slice A4 x.f4.length c4,.slice A5 x.f5.length c5,.int .i64 x.f6,.int .i64 x.f7,.int .i64 x.f8],rfl,rfl,⟨[.slice A4 x.f4.length c4],[.slice A5 x.f5.length c5,.int .i64 x.f6,.int .i64 x.f7,.int .i64 x.f8],rfl,⟨A4,c4,rfl,l4,g4⟩,⟨[.slice A5 x.f5.length c5],[.int .i64 x.f6,.int .i64 x.f7,.int .i64 x.f8],rfl,⟨A5,c5,rfl,l5,g5⟩,⟨[.int .i64 x.f6],[.int .i64 x.f7,.int .i64 x.f8],rfl,rfl,⟨[.int .i64 x.f7],[.int .i64 x.f8],rfl,rfl,rfl⟩⟩⟩⟩⟩⟩⟩⟩
def lN (xs:List S47) (i:Int):S47:=xs.getD i.toNat z47
theorem arP {w:World} {A:Option Addr} {n:Nat} {xs:List S47} (h:Kd.C k47 w A n xs) (i:Int) (h0:0≤i) (h1:i < n):∃ ad A4 c4 A5 c5,A=some ad∧w.cell? (ad.add (i.toNat*9))=some (.int .i64 (lN xs i).f0)∧w.cell? ⟨(ad.add (i.toNat*9)).block,(ad.add (i.toNat*9)).off+1,none⟩=some (.int .i64 (lN xs i).f1)∧w.cell? ⟨(ad.add (i.toNat*9)).block,(ad.add (i.toNat*9)).off+2,none⟩=some (.int .i64 (lN xs i).f2)∧w.cell? ⟨(ad.add (i.toNat*9)).block,(ad.add (i.toNat*9)).off+3,none⟩=some (.int .i64 (lN xs i).f3)∧w.cell? ⟨(ad.add (i.toNat*9)).block,(ad.add (i.toNat*9)).off+4,none⟩=some (.slice A4 (lN xs i).f4.length c4)∧w.cell? ⟨(ad.add (i.toNat*9)).block,(ad.add (i.toNat*9)).off+5,none⟩=some (.slice A5 (lN xs i).f5.length c5)∧w.cell? ⟨(ad.add (i.toNat*9)).block,(ad.add (i.toNat*9)).off+6,none⟩=some (.int .i64 (lN xs i).f6)∧w.cell? ⟨(ad.add (i.toNat*9)).block,(ad.add (i.toNat*9)).off+7,none⟩=some (.int .i64 (lN xs i).f7)∧w.cell? ⟨(ad.add (i.toNat*9)).block,(ad.add (i.toNat*9)).off+8,none⟩=some (.int .i64 (lN xs i).f8)∧(lN xs i).f4.length≤c4∧(Kd.int .i64).C w A4 (lN xs i).f4.length (lN xs i).f4∧(lN xs i).f5.length≤c5∧(Kd.int .i64).C w A5 (lN xs i).f5.length (lN xs i).f5:=by
 obtain ⟨ad,c,e,_,hK,hc0⟩:=Kd.alB h z47 i h0 h1
 have hc:∀ j u,c[j]? = some u→w.cell? (ad.add (i.toNat*9+j))=some u:=hc0
 obtain ⟨A4,c4,A5,c5,rfl,l4,g4,l5,g5⟩:=ajj hK
 exact ⟨ad,A4,c4,A5,c5,e,hc 0 _ rfl,by rw [← jO _ _ 1 (by omega)];exact hc 1 _ rfl,by rw [← jO _ _ 2 (by omega)];exact hc 2 _ rfl,by rw [← jO _ _ 3 (by omega)];exact hc 3 _ rfl,by rw [← jO _ _ 4 (by omega)];exact hc 4 _ rfl,by rw [← jO _ _ 5 (by omega)];exact hc 5 _ rfl,by rw [← jO _ _ 6 (by omega)];exact hc 6 _ rfl,by rw [← jO _ _ 7 (by omega)];exact hc 7 _ rfl,by rw [← jO _ _ 8 (by omega)];exact hc 8 _ rfl,l4,g4,l5,g5⟩
structure lZ where
 f0:Int
 f1:(List Int)
def aaJ:Kd lZ:=Kd.iso (Kd.pair (Kd.int .i64) (Kd.slice 2 (Kd.int .i64))) (fun x:lZ=>(x.f0,x.f1))
theorem ajk (w:World) (base:Nat) (ok:Nat→Prop) (x:lZ) {v1:Value} (g1:(Kd.int .i64).R 2 w base ok v1 x.f1):aaJ.M w base ok x [.int .i64 x.f0,v1]:=⟨[.int .i64 x.f0],[v1],rfl,rfl,⟨v1,rfl,g1⟩⟩
structure S67 where
 f0:Int
 f1:Int
 f2:Int
 f3:Int
 f4:Int
 f5:Int
 f6:Int
 f7:Int
 f8:Int
 f9:Int
def z67:S67:=⟨(0:Int),(0:Int),(0:Int),(0:Int),(0:Int),(0:Int),(0:Int),(0:Int),(0:Int),(0:Int)⟩
def k67:Kd S67:=Kd.iso (Kd.pair (Kd.int .i64) (Kd.pair (Kd.int .i64) (Kd.pair (Kd.int .i64) (Kd.pair (Kd.int .i64) (Kd.pair (Kd.int .i64) (Kd.pair (Kd.int .i64) (Kd.pair (Kd.int .i64) (Kd.pair (Kd.int .i64) (Kd.pair (Kd.int .i64) (Kd.int .i64)))))))))) (fun x:S67=>(x.f0,x.f1,x.f2,x.f3,x.f4,x.f5,x.f6,x.f7,x.f8,x.f9))
theorem an5 {w:World} {x:S67} {cs:List Value} (h:k67.K w x cs):cs=[.int .i64 x.f0,.int .i64 x.f1,.int .i64 x.f2,.int .i64 x.f3,.int .i64 x.f4,.int .i64 x.f5,.int .i64 x.f6,.int .i64 x.f7,.int .i64 x.f8,.int .i64 x.f9]:=by
 obtain ⟨_,_,rfl,rfl,⟨_,_,rfl,rfl,⟨_,_,rfl,rfl,⟨_,_,rfl,rfl,⟨_,_,rfl,rfl,⟨_,_,rfl,rfl,⟨_,_,rfl,rfl,⟨_,_,rfl,rfl,⟨_,_,rfl,rfl,rfl⟩⟩⟩⟩⟩⟩⟩⟩⟩:=h
 exact rfl
theorem aq3 (w:World) (base:Nat) (ok:Nat→Prop) (x:S67):k67.M w base ok x [.int .i64 x.f0,.int .i64 x.f1,.int .i64 x.f2,.int .i64 x.f3,.int .i64 x.f4,.int .i64 x.f5,.int .i64 x.f6,.int .i64 x.f7,.int .i64 x.f8,.int .i64 x.f9]:=⟨[.int .i64 x.f0],[.int .i64 x.f1,.int .i64 x.f2,.int .i64 x.f3,.int .i64 x.f4,.int .i64 x.f5,.int .i64 x.f6,.int .i64 x.f7,.int .i64 x.f8,.int .i64 x.f9],rfl,rfl,⟨[.int .i64 x.f1],[.int .i64 x.f2,.int .i64 x.f3,.int .i64 x.f4,.int .i64 x.f5,.int .i64 x.f6,.int .i64 x.f7,.int .i64 x.f8,.int .i64 x.f9],rfl,rfl,⟨[.int .i64 x.f2],[.int .i64 x.f3,.int .i64 x.f4,.int .i64 x.f5,.int .i64 x.f6,.int .i64 x.f7,.int .i64 x.f8,.int .i64 x.f9],rfl,rfl,⟨[.int .i64 x.f3],[.int .i64 x.f4,.int .i64 x.f5,.int .i64 x.f6,.int .i64 x.f7,.int .i64 x.f8,.int .i64 x.f9],rfl,rfl,⟨[.int .i64 x.f4],[.int .i64 x.f5,.int .i64 x.f6,.int .i64 x.f7,.int .i64 x.f8,.int .i64 x.f9],rfl,rfl,⟨[.int .i64 x.f5],[.int .i64 x.f6,.int .i64 x.f7,.int .i64 x.f8,.int .i64 x.f9],rfl,rfl,⟨[.int .i64 x.f6],[.int .i64 x.f7,.int .i64 x.f8,.int .i64 x.f9],rfl,rfl,⟨[.int .i64 x.f7],[.int .i64 x.f8,.int .i64 x.f9],rfl,rfl,⟨[.int .i64 x.f8],[.int .i64 x.f9],rfl,rfl,rfl⟩⟩⟩⟩⟩⟩⟩⟩⟩
def uO (xs:List S67) (i:Int):S67:=xs.getD i.toNat z67
theorem arQ {w:World} {A:Option Addr} {n:Nat} {xs:List S67} (h:Kd.C k67 w A n xs) (i:Int) (h0:0≤i) (h1:i < n):∃ ad ,A=some ad∧w.cell? (ad.add (i.toNat*10))=some (.int .i64 (uO xs i).f0)∧w.cell? ⟨(ad.add (i.toNat*10)).block,(ad.add (i.toNat*10)).off+1,none⟩=some (.int .i64 (uO xs i).f1)∧w.cell? ⟨(ad.add (i.toNat*10)).block,(ad.add (i.toNat*10)).off+2,none⟩=some (.int .i64 (uO xs i).f2)∧w.cell? ⟨(ad.add (i.toNat*10)).block,(ad.add (i.toNat*10)).off+3,none⟩=some (.int .i64 (uO xs i).f3)∧w.cell? ⟨(ad.add (i.toNat*10)).block,(ad.add (i.toNat*10)).off+4,none⟩=some (.int .i64 (uO xs i).f4)∧w.cell? ⟨(ad.add (i.toNat*10)).block,(ad.add (i.toNat*10)).off+5,none⟩=some (.int .i64 (uO xs i).f5)∧w.cell? ⟨(ad.add (i.toNat*10)).block,(ad.add (i.toNat*10)).off+6,none⟩=some (.int .i64 (uO xs i).f6)∧w.cell? ⟨(ad.add (i.toNat*10)).block,(ad.add (i.toNat*10)).off+7,none⟩=some (.int .i64 (uO xs i).f7)∧w.cell? ⟨(ad.add (i.toNat*10)).block,(ad.add (i.toNat*10)).off+8,none⟩=some (.int .i64 (uO xs i).f8)∧w.cell? ⟨(ad.add (i.toNat*10)).block,(ad.add (i.toNat*10)).off+9,none⟩=some (.int .i64 (uO xs i).f9):=by
 obtain ⟨ad,c,e,_,hK,hc0⟩:=Kd.alB h z67 i h0 h1
 have hc:∀ j u,c[j]? = some u→w.cell? (ad.add (i.toNat*10+j))=some u:=hc0
 obtain rfl:=an5 hK
 exact ⟨ad,e,hc 0 _ rfl,by rw [← jO _ _ 1 (by omega)];exact hc 1 _ rfl,by rw [← jO _ _ 2 (by omega)];exact hc 2 _ rfl,by rw [← jO _ _ 3 (by omega)];exact hc 3 _ rfl,by rw [← jO _ _ 4 (by omega)];exact hc 4 _ rfl,by rw [← jO _ _ 5 (by omega)];exact hc 5 _ rfl,by rw [← jO _ _ 6 (by omega)];exact hc 6 _ rfl,by rw [← jO _ _ 7 (by omega)];exact hc 7 _ rfl,by rw [← jO _ _ 8 (by omega)];exact hc 8 _ rfl,by rw [← jO _ _ 9 (by omega)];exact hc 9 _ rfl⟩
end Go.Proofs.YtpondkggmcmpfaaGreatDoor.QA
namespace Go.Proofs.YtpondkggmcmpfaaGreatDoor.QA
open Go.Proofs.YtpondkggmcmpfaaGreatDoor.T
open Go.RowKit Go.Proofs.YtpondkggmcmpfaaGreatDoorW.PrintWords Go.Proofs.YtpondkggmcmpfaaGreatDoorW.PrintLast Go.Proofs.YtpondkggmcmpfaaGreatDoorW.PrintMore
attribute [local go_sem] dV dQ dR eP eX
set_option linter.unusedVariables false
set_option linter.unusedSimpArgs false
def vI.f:Option (ByteArray):=some (⟨#[99,108,97,109,112]⟩:ByteArray)
set_option maxHeartbeats 8000000 in
set_option maxRecDepth 100000 in
theorem vI.calls (r:ByteArray) (w:World) (hG:GL w) (h:vI.f=some r) :
  Calls Tryz.prog 77 #[.int .i64 0] w fun e w'=>e = .returned (.string r)∧dw w w':=by
 have H:(some (⟨#[99,108,97,109,112]⟩:ByteArray))=some r:=h
 clear h
 obtain ⟨⟨aaw,aax,aay,aaz,aaA,aaB⟩,⟨aaC,aaD,aaE,aaF,aaG,aaH,aaI⟩⟩:=hG
 obtain rfl:=Option.some.inj H
 go_enter Tryz.func77,Tryz.ntmps77
 go_wp2
 go_ret
 exact ⟨zT,zW⟩
def vJ.f:Option (ByteArray):=some (⟨#[109,105,114,114,111,114]⟩:ByteArray)
set_option maxHeartbeats 8000000 in
set_option maxRecDepth 100000 in
theorem vJ.calls (r:ByteArray) (w:World) (hG:GL w) (h:vJ.f=some r) :
  Calls Tryz.prog 77 #[.int .i64 1] w fun e w'=>e = .returned (.string r)∧dw w w':=by
 have H:(some (⟨#[109,105,114,114,111,114]⟩:ByteArray))=some r:=h
 clear h
 obtain ⟨⟨aaw,aax,aay,aaz,aaA,aaB⟩,⟨aaC,aaD,aaE,aaF,aaG,aaH,aaI⟩⟩:=hG
 obtain rfl:=Option.some.inj H
 go_enter Tryz.func77,Tryz.ntmps77
 go_wp2
 go_ret
 exact ⟨zT,zW⟩
def vK.f:Option (ByteArray):=some (⟨#[119,114,97,112]⟩:ByteArray)
set_option maxHeartbeats 8000000 in
set_option maxRecDepth 100000 in
theorem vK.calls (r:ByteArray) (w:World) (hG:GL w) (h:vK.f=some r) :
  Calls Tryz.prog 77 #[.int .i64 2] w fun e w'=>e = .returned (.string r)∧dw w w':=by
 have H:(some (⟨#[119,114,97,112]⟩:ByteArray))=some r:=h
 clear h
 obtain ⟨⟨aaw,aax,aay,aaz,aaA,aaB⟩,⟨aaC,aaD,aaE,aaF,aaG,aaH,aaI⟩⟩:=hG
 obtain rfl:=Option.some.inj H
 go_enter Tryz.func77,Tryz.ntmps77
 go_wp2
 go_ret
 exact ⟨zT,zW⟩
def pz.f (a0:Int):Option (ByteArray):=if a0 < 0 then (some (⟨#[]⟩:ByteArray)) else (if a0≥3 then (some (⟨#[]⟩:ByteArray)) else (none))
set_option maxHeartbeats 8000000 in
set_option maxRecDepth 100000 in
theorem pz.calls (a0:Int) (r:ByteArray) (w:World) (hG:GL w) (h:pz.f a0=some r) :
  Calls Tryz.prog 77 #[.int .i64 a0] w fun e w'=>e = .returned (.string r)∧dw w w':=by
 have H:=h
 clear h
 unfold pz.f at H
 obtain ⟨⟨aaw,aax,aay,aaz,aaA,aaB⟩,⟨aaC,aaD,aaE,aaF,aaG,aaH,aaI⟩⟩:=hG
 by_cases c2:a0 < 0
 ·rw [if_pos c2] at H
  have lQ:=decide_eq_true c2
  clear c2
  obtain rfl:=Option.some.inj H
  go_enter Tryz.func77,Tryz.ntmps77
  go_wp2
  go_ret
  exact ⟨zT,zW⟩
 ·rw [if_neg c2] at H
  have lQ:=decide_eq_false c2
  clear c2
  by_cases c3:a0≥3
  ·rw [if_pos c3] at H
   have fO:=decide_eq_true c3
   clear c3
   obtain rfl:=Option.some.inj H
   go_enter Tryz.func77,Tryz.ntmps77
   go_wp2
   go_ret
   exact ⟨zT,zW⟩
  ·rw [if_neg c3] at H
   exact absurd H (by simp)
def oH.f (a0:Int):Option (ByteArray):=if a0=0 then vI.f else if a0=1 then vJ.f else if a0=2 then vK.f else pz.f a0
theorem oH.calls (a0:Int) (r:ByteArray) (w:World) (hG:GL w) (h:oH.f a0=some r) :
  Calls Tryz.prog 77 #[.int .i64 a0] w fun e w'=>e = .returned (.string r)∧dw w w':=by
 unfold oH.f at h
 by_cases c0:a0=0
 ·subst c0;exact vI.calls r w hG (by rw [if_pos rfl] at h;exact h)
 ·rw [if_neg c0] at h
  by_cases c1:a0=1
  ·subst c1;exact vJ.calls r w hG (by rw [if_pos rfl] at h;exact h)
  ·rw [if_neg c1] at h
   by_cases c2:a0=2
   ·subst c2;exact vK.calls r w hG (by rw [if_pos rfl] at h;exact h)
   ·rw [if_neg c2] at h
    exact pz.calls a0 r w hG h
def ji.f (a0:Int):Option (Bool):=if a0≥1 then (some (decide (a0≤65536))) else (some false)
set_option maxHeartbeats 8000000 in
set_option maxRecDepth 100000 in
theorem ji.calls (a0:Int) (r:Bool) (w:World) (h:ji.f a0=some r) :
  Calls Tryz.prog 86 #[.int .i64 a0] w fun e w'=>e = .returned (.bool r)∧dw w w':=by
 have H:=h
 clear h
 unfold ji.f at H
 by_cases c2:a0≥1
 ·rw [if_pos c2] at H
  have lQ:=decide_eq_true c2
  clear c2
  obtain rfl:=Option.some.inj H
  go_enter Tryz.func86,Tryz.ntmps86
  go_wp2
  go_ret
  exact ⟨zT,zW⟩
 ·rw [if_neg c2] at H
  have lQ:=decide_eq_false c2
  clear c2
  obtain rfl:=Option.some.inj H
  go_enter Tryz.func86,Tryz.ntmps86
  go_wp2
  go_ret
  exact ⟨zT,zW⟩
def yB.f:Option (ByteArray):=some (⟨#[98,111,120]⟩:ByteArray)
set_option maxHeartbeats 8000000 in
set_option maxRecDepth 100000 in
theorem yB.calls (r:ByteArray) (w:World) (hG:GL w) (h:yB.f=some r) :
  Calls Tryz.prog 104 #[.int .i64 0] w fun e w'=>e = .returned (.string r)∧dw w w':=by
 have H:(some (⟨#[98,111,120]⟩:ByteArray))=some r:=h
 clear h
 obtain ⟨⟨aaw,aax,aay,aaz,aaA,aaB⟩,⟨aaC,aaD,aaE,aaF,aaG,aaH,aaI⟩⟩:=hG
 obtain rfl:=Option.some.inj H
 go_enter Tryz.func104,Tryz.ntmps104
 go_wp2
 go_ret
 exact ⟨zT,zW⟩
def yC.f:Option (ByteArray):=some (⟨#[99,117,98,105,99]⟩:ByteArray)
set_option maxHeartbeats 8000000 in
set_option maxRecDepth 100000 in
theorem yC.calls (r:ByteArray) (w:World) (hG:GL w) (h:yC.f=some r) :
  Calls Tryz.prog 104 #[.int .i64 1] w fun e w'=>e = .returned (.string r)∧dw w w':=by
 have H:(some (⟨#[99,117,98,105,99]⟩:ByteArray))=some r:=h
 clear h
 obtain ⟨⟨aaw,aax,aay,aaz,aaA,aaB⟩,⟨aaC,aaD,aaE,aaF,aaG,aaH,aaI⟩⟩:=hG
 obtain rfl:=Option.some.inj H
 go_enter Tryz.func104,Tryz.ntmps104
 go_wp2
 go_ret
 exact ⟨zT,zW⟩
def yD.f:Option (ByteArray):=some (⟨#[108,97,110,99,122,111,115]⟩:ByteArray)
set_option maxHeartbeats 8000000 in
set_option maxRecDepth 100000 in
theorem yD.calls (r:ByteArray) (w:World) (hG:GL w) (h:yD.f=some r) :
  Calls Tryz.prog 104 #[.int .i64 2] w fun e w'=>e = .returned (.string r)∧dw w w':=by
 have H:(some (⟨#[108,97,110,99,122,111,115]⟩:ByteArray))=some r:=h
 clear h
 obtain ⟨⟨aaw,aax,aay,aaz,aaA,aaB⟩,⟨aaC,aaD,aaE,aaF,aaG,aaH,aaI⟩⟩:=hG
 obtain rfl:=Option.some.inj H
 go_enter Tryz.func104,Tryz.ntmps104
 go_wp2
 go_ret
 exact ⟨zT,zW⟩
def sN.f (a0:Int):Option (ByteArray):=if a0 < 0 then (some (⟨#[]⟩:ByteArray)) else (if a0≥3 then (some (⟨#[]⟩:ByteArray)) else (none))
set_option maxHeartbeats 8000000 in
set_option maxRecDepth 100000 in
theorem sN.calls (a0:Int) (r:ByteArray) (w:World) (hG:GL w) (h:sN.f a0=some r) :
  Calls Tryz.prog 104 #[.int .i64 a0] w fun e w'=>e = .returned (.string r)∧dw w w':=by
 have H:=h
 clear h
 unfold sN.f at H
 obtain ⟨⟨aaw,aax,aay,aaz,aaA,aaB⟩,⟨aaC,aaD,aaE,aaF,aaG,aaH,aaI⟩⟩:=hG
 by_cases c2:a0 < 0
 ·rw [if_pos c2] at H
  have lQ:=decide_eq_true c2
  clear c2
  obtain rfl:=Option.some.inj H
  go_enter Tryz.func104,Tryz.ntmps104
  go_wp2
  go_ret
  exact ⟨zT,zW⟩
 ·rw [if_neg c2] at H
  have lQ:=decide_eq_false c2
  clear c2
  by_cases c3:a0≥3
  ·rw [if_pos c3] at H
   have fO:=decide_eq_true c3
   clear c3
   obtain rfl:=Option.some.inj H
   go_enter Tryz.func104,Tryz.ntmps104
   go_wp2
   go_ret
   exact ⟨zT,zW⟩
  ·rw [if_neg c3] at H
   exact absurd H (by simp)
def rW.f (a0:Int):Option (ByteArray):=if a0=0 then yB.f else if a0=1 then yC.f else if a0=2 then yD.f else sN.f a0
theorem rW.calls (a0:Int) (r:ByteArray) (w:World) (hG:GL w) (h:rW.f a0=some r) :
  Calls Tryz.prog 104 #[.int .i64 a0] w fun e w'=>e = .returned (.string r)∧dw w w':=by
 unfold rW.f at h
 by_cases c0:a0=0
 ·subst c0;exact yB.calls r w hG (by rw [if_pos rfl] at h;exact h)
 ·rw [if_neg c0] at h
  by_cases c1:a0=1
  ·subst c1;exact yC.calls r w hG (by rw [if_pos rfl] at h;exact h)
  ·rw [if_neg c1] at h
   by_cases c2:a0=2
   ·subst c2;exact yD.calls r w hG (by rw [if_pos rfl] at h;exact h)
   ·rw [if_neg c2] at h
    exact sN.calls a0 r w hG h
end Go.Proofs.YtpondkggmcmpfaaGreatDoor.QA
namespace Go.Proofs.YtpondkggmcmpfaaGreatDoor.QA
open Go.Proofs.YtpondkggmcmpfaaGreatDoor.T
open Go.RowKit Go.Proofs.YtpondkggmcmpfaaGreatDoorW.PrintWords Go.Proofs.YtpondkggmcmpfaaGreatDoorW.PrintLast Go.Proofs.YtpondkggmcmpfaaGreatDoorW.PrintMore
attribute [local go_sem] dV dQ dR eP eX
set_option linter.unusedVariables false
set_option linter.unusedSimpArgs false
def jF.j0:Nat→Bool→Int→Int→Int→Int→List Int→List Int→Int→Int→Int→Option (Bool)
 | 0,_,_,_,_,_,_,_,_,_,_=>none
 | k+1,x16,aq4,awG,awH,awI,awJ,awK,aq5,aq6,aq7=>if x16=true then (some false) else (if aq4=3 then ((ji.f aq6).bind fun an6=>(if an6=true then ((ji.f aq7).bind fun an7=>(if an7=true then ((rW.f aq5).bind fun t105=>(some (t105.toList != ([]:List UInt8)))) else (some false))) else (some false))) else (some true))
def jF.f (k:Nat) (bJ dB sO sQ:Int) (nZ oP:List Int) (uZ sS uj:Int):Option (Bool):=if bJ < 0 then (jF.j0 k true bJ dB sO sQ nZ oP uZ sS uj) else (if bJ≥4 then (jF.j0 k true bJ dB sO sQ nZ oP uZ sS uj) else ((oH.f dB).bind fun alG=>(jF.j0 k (alG.toList == ([]:List UInt8)) bJ dB sO sQ nZ oP uZ sS uj)))
set_option maxHeartbeats 8000000 in
set_option maxRecDepth 100000 in
theorem jF.calls (k:Nat) (bJ dB sO sQ:Int) (yX:Option Addr) (yY:Nat) (nZ:List Int) (aaK:Option Addr) (aaL:Nat) (oP:List Int) (uZ sS uj:Int) (r:Bool) (w:World) (af9:Kd.C (Kd.int .i64) w yX nZ.length nZ) (aga:nZ.length≤yY) (agb:Kd.C (Kd.int .i64) w aaK oP.length oP) (agc:oP.length≤aaL) (hG:GL w) (h:jF.f k bJ dB sO sQ nZ oP uZ sS uj=some r) :
  Calls Tryz.prog 85 #[.agg #[.int .i64 bJ,.int .i64 dB,.int .i64 sO,.int .i64 sQ,.slice yX nZ.length yY,.slice aaK oP.length aaL,.int .i64 uZ,.int .i64 sS,.int .i64 uj]] w fun e w'=>e = .returned (.bool r)∧Below w.heap.size w w':=by
 have avj:=Tryz.underlying47
 have alH:=aj.mk af9
 have alI:=aj.mk aga
 clear af9 aga
 have ap8:=aj.mk agb
 have ap9:=aj.mk agc
 clear agb agc
 have HB:=aj.mk (Below.refl w.heap.size w)
 have H:=h
 clear h
 unfold jF.f at H
 have HC2:=aj.mk H
 clear H
 go_enter Tryz.func85,Tryz.ntmps85
 go_upto_region 1 with (first|((with_reducible refine bM (N:=1) rfl ?_);refine bU zR (N:=1) zR (cs := #[.int .i64 bJ,.int .i64 dB,.int .i64 sO,.int .i64 sQ,.slice yX nZ.length yY,.slice aaK oP.length aaL,.int .i64 uZ,.int .i64 sS,.int .i64 uj]) (t:=47) zG ?_;intro as7 hg w3 hbox hb;obtain ⟨HB,qG,ax3,aqa⟩:=zA4 (ak zB hb) hbox (zg hg zB) (zg hg zB);clear hb hbox hg))
 (try simp only [Act.put,List.setIfInBounds_toArray,List.set_cons_zero,List.set_cons_succ])
 go_cut [16] (fun v16 wc=>∃ (kq:Nat) (xu:Bool),v16 = .bool xu∧aj (jF.j0 kq xu bJ dB sO sQ nZ oP uZ sS uj=some r)∧aj (kq≤k)∧aj (wc.heap[as7]? = some (.cells #[.int .i64 bJ,.int .i64 dB,.int .i64 sO,.int .i64 sQ,(.slice yX nZ.length yY),(.slice aaK oP.length aaL),.int .i64 uZ,.int .i64 sS,.int .i64 uj] 47 (0,0)))∧aj (Below w.heap.size w wc))
 case first =>
  have H:=HC2.out
  clear HC2
  by_cases c4:bJ < 0
  ·rw [if_pos c4] at H
   have fU:=decide_eq_true c4
   clear c4
   (first|rw [fU]|(simp only [bZ,dA];rw [fU])|skip)
   have H':=aj.mk H
   clear H
   obtain ⟨_,_,_,_,_,_,_,_,_⟩:=zC9 qG.out
   obtain ⟨_,_,_,_,_,_,_,_,_⟩:=zF9 qG.out
   go_wp2
   go_meet
   case rel=>exact ⟨_,(true),zT,H',⟨by first|omega|exact Nat.le_refl _⟩,⟨zK qG⟩,⟨zB⟩⟩
  ·rw [if_neg c4] at H
   have fU:=decide_eq_false c4
   clear c4
   (first|rw [fU]|(simp only [bZ,dA];rw [fU])|skip)
   by_cases c6:bJ≥4
   ·rw [if_pos c6] at H
    have iw:=decide_eq_true c6
    clear c6
    have H':=aj.mk H
    clear H
    obtain ⟨_,_,_,_,_,_,_,_,_⟩:=zC9 qG.out
    obtain ⟨_,_,_,_,_,_,_,_,_⟩:=zF9 qG.out
    go_wp2
    go_meet
    case rel=>exact ⟨_,(true),zT,H',⟨by first|omega|exact Nat.le_refl _⟩,⟨zK qG⟩,⟨zB⟩⟩
   ·rw [if_neg c6] at H
    have iw:=decide_eq_false c6
    clear c6
    replace H:=zO H
    obtain ⟨alG,A8,H⟩:=H
    try dsimp only at H
    have H':=aj.mk H
    clear H
    obtain ⟨_,_,_,_,_,_,_,_,_⟩:=zC9 qG.out
    obtain ⟨_,_,_,_,_,_,_,_,_⟩:=zF9 qG.out
    go_wp2_with (first|(go_at_call 77;(with_reducible refine (oH.calls dB alG _ (by exact GL.below hG (by repeat (first|(with_reducible first|exact HB.out|apply aT|apply aI|apply bg|refine qQ ?_ aqa.out)|exact HB.out|exact Below.refl _ _))) A8.out).mono ?_);rintro e w' ⟨rfl,⟨nd,rfl⟩⟩))
    go_meet
    case rel=>exact ⟨_,((alG.toList == ([]:List UInt8))),zT,H',⟨by first|omega|exact Nat.le_refl _⟩,⟨zK qG⟩,⟨zB⟩⟩
 case rest =>
  clear HC2
  obtain ⟨kq,xu,rfl,HA,HJ1,qG,HB⟩:=hcut
  cases kq with
  | zero=>exact absurd HA.out (by simp [jF.j0])
  | succ kj1 =>
   have H:=HA.out
   clear HA
   simp only [jF.j0] at H
   by_cases c10:xu=true
   ·subst c10
    rw [if_pos rfl] at H;try dsimp only at H
    obtain rfl:=Option.some.inj H
    go_wp2
    go_ret
    exact ⟨by first|rfl|(simp [bG,bH] <;> rfl)|(simp [*,bG,bH] <;> rfl)|(simp;cases t105.toList <;> rfl),zB⟩
   ·replace c10:=Bool.eq_false_iff.mpr c10
    subst c10
    rw [if_neg (show ¬ (false=true) by decide)] at H;try dsimp only at H
    by_cases c11:bJ=3
    ·rw [if_pos c11] at H
     have iO:(bJ == 3)=true:=beq_iff_eq.mpr c11
     have yE:(bJ != 3)=false:=bne_eq_false_iff_eq.mpr c11
     clear c11
     replace H:=zO H
     obtain ⟨an6,A12,H⟩:=H
     try dsimp only at H
     by_cases c13:an6=true
     ·subst c13
      rw [if_pos rfl] at H;try dsimp only at H
      replace H:=zO H
      obtain ⟨an7,A14,H⟩:=H
      try dsimp only at H
      by_cases c15:an7=true
      ·subst c15
       rw [if_pos rfl] at H;try dsimp only at H
       replace H:=zO H
       obtain ⟨t105,A16,H⟩:=H
       try dsimp only at H
       obtain rfl:=Option.some.inj H
       obtain ⟨_,_,_,_,_,_,_,_,_⟩:=zC9 qG.out
       obtain ⟨_,_,_,_,_,_,_,_,_⟩:=zF9 qG.out
       go_wp2_with (first|(go_at_call 86;(with_reducible refine (ji.calls sS true _ A12.out).mono ?_);rintro e w' ⟨rfl,⟨nd,rfl⟩⟩)|(go_at_call 86;(with_reducible refine (ji.calls uj true _ A14.out).mono ?_);rintro e w' ⟨rfl,⟨nd,rfl⟩⟩)|(go_at_call 104;(with_reducible refine (rW.calls uZ t105 _ (by exact GL.below hG (by repeat (first|(with_reducible first|exact HB.out|apply aT|apply aI|apply bg|refine qQ ?_ aqa.out)|exact HB.out|exact Below.refl _ _))) A16.out).mono ?_);rintro e w' ⟨rfl,⟨nd,rfl⟩⟩))
       go_ret
       exact ⟨by first|rfl|(simp [bG,bH] <;> rfl)|(simp [*,bG,bH] <;> rfl)|(simp;cases t105.toList <;> rfl),zB⟩
      ·replace c15:=Bool.eq_false_iff.mpr c15
       subst c15
       rw [if_neg (show ¬ (false=true) by decide)] at H;try dsimp only at H
       obtain rfl:=Option.some.inj H
       obtain ⟨_,_,_,_,_,_,_,_,_⟩:=zC9 qG.out
       obtain ⟨_,_,_,_,_,_,_,_,_⟩:=zF9 qG.out
       go_wp2_with (first|(go_at_call 86;(with_reducible refine (ji.calls sS true _ A12.out).mono ?_);rintro e w' ⟨rfl,⟨nd,rfl⟩⟩)|(go_at_call 86;(with_reducible refine (ji.calls uj false _ A14.out).mono ?_);rintro e w' ⟨rfl,⟨nd,rfl⟩⟩))
       go_ret
       exact ⟨by first|rfl|(simp [bG,bH] <;> rfl)|(simp [*,bG,bH] <;> rfl)|(simp;cases t105.toList <;> rfl),zB⟩
     ·replace c13:=Bool.eq_false_iff.mpr c13
      subst c13
      rw [if_neg (show ¬ (false=true) by decide)] at H;try dsimp only at H
      obtain rfl:=Option.some.inj H
      obtain ⟨_,_,_,_,_,_,_,_,_⟩:=zC9 qG.out
      obtain ⟨_,_,_,_,_,_,_,_,_⟩:=zF9 qG.out
      go_wp2_with (first|(go_at_call 86;(with_reducible refine (ji.calls sS false _ A12.out).mono ?_);rintro e w' ⟨rfl,⟨nd,rfl⟩⟩))
      go_ret
      exact ⟨by first|rfl|(simp [bG,bH] <;> rfl)|(simp [*,bG,bH] <;> rfl)|(simp;cases t105.toList <;> rfl),zB⟩
    ·rw [if_neg c11] at H
     have iO:(bJ == 3)=false:=beq_eq_false_iff_ne.mpr c11
     have yE:(bJ != 3)=true:=bne_iff_ne.mpr c11
     obtain rfl:=Option.some.inj H
     obtain ⟨_,_,_,_,_,_,_,_,_⟩:=zC9 qG.out
     obtain ⟨_,_,_,_,_,_,_,_,_⟩:=zF9 qG.out
     go_wp2
     go_ret
     exact ⟨by first|rfl|(simp [bG,bH] <;> rfl)|(simp [*,bG,bH] <;> rfl)|(simp;cases t105.toList <;> rfl),zB⟩
def fK.f (a0:Int):Option (Int):=if a0 < 0 then (some (IntKind.u64.wrap (-(IntKind.u64.wrap (a0))))) else (some (IntKind.u64.wrap (a0)))
set_option maxHeartbeats 8000000 in
set_option maxRecDepth 100000 in
theorem fK.calls (a0 r:Int) (w:World) (h:fK.f a0=some r) :
  Calls Tryz.prog 163 #[.int .i64 a0] w fun e w'=>e = .returned (.int .u64 r)∧dw w w':=by
 have H:=h
 clear h
 unfold fK.f at H
 by_cases c2:a0 < 0
 ·rw [if_pos c2] at H
  have lQ:=decide_eq_true c2
  clear c2
  obtain rfl:=Option.some.inj H
  go_enter Tryz.func163,Tryz.ntmps163
  go_wp2
  go_ret
  exact ⟨zT,zW⟩
 ·rw [if_neg c2] at H
  have lQ:=decide_eq_false c2
  clear c2
  obtain rfl:=Option.some.inj H
  go_enter Tryz.func163,Tryz.ntmps163
  go_wp2
  go_ret
  exact ⟨zT,zW⟩
end Go.Proofs.YtpondkggmcmpfaaGreatDoor.QA
namespace Go.Proofs.YtpondkggmcmpfaaGreatDoor.T
open Go.RowKit Go.Proofs.YtpondkggmcmpfaaGreatDoorW.PrintWords Go.Proofs.YtpondkggmcmpfaaGreatDoorW.PrintLast Go.Proofs.YtpondkggmcmpfaaGreatDoorW.PrintMore
theorem l7 (n:Int):IntKind.u64.wrap n=n % 18446744073709551616:=by simp [IntKind.wrap,IntKind.bits,IntKind.signed]
theorem kV (n:Int):IntKind.i64.wrap n=wrap64 n:=by rw [IntKind.wrap_i64];unfold wrap64;omega
theorem wf64 {x:Int} (h:(Lit.int .i64 x).wf=true) : -9223372036854775808≤x∧x≤9223372036854775807:=by
  simp [Lit.wf,IntKind.min,IntKind.max,IntKind.bits,IntKind.signed] at h;exact h
theorem alu {x:Int} (h:(Lit.int .u8 x).wf=true):0≤x∧x≤255:=by
  simp [Lit.wf,IntKind.min,IntKind.max,IntKind.bits,IntKind.signed] at h;exact h
theorem aC {x:Int} (h0 : -9223372036854775808≤x) (h1:x≤9223372036854775807):wrap64 x=x:=by unfold wrap64;omega
theorem afi (k:IntKind) (x:Int) (i:Nat) (hi:i≤k.bits) (hw:k.wrap (x % 2 ^ i)=x % 2 ^ i):bits .and k x (2 ^ i - 1)=x % 2 ^ i:=by
  have hc:((2:Int) ^ i - 1)=((2 ^ i - 1:Nat):Int):=by
    rw [Int.natCast_sub (Nat.two_pow_pos i)];simp
  have h1:(BitVec.ofInt k.bits (2 ^ i - 1)).toNat=2 ^ i - 1:=by
    rw [hc,BitVec.ofInt_natCast,BitVec.toNat_ofNat,Nat.mod_eq_of_lt]
    exact Nat.lt_of_lt_of_le (Nat.sub_lt (Nat.two_pow_pos i) (by decide)) (Nat.pow_le_pow_right (by decide) hi)
  have h2:(((BitVec.ofInt k.bits x).toNat:Nat):Int)=x % 2 ^ k.bits:=by
    rw [BitVec.toNat_ofInt,Int.toNat_of_nonneg (Int.emod_nonneg _ (by have:=Nat.two_pow_pos k.bits;omega))]
    simp
  have h3:((((BitVec.ofInt k.bits x) &&& (BitVec.ofInt k.bits (2 ^ i - 1))).toNat:Nat):Int)=x % 2 ^ i:=by
    rw [BitVec.toNat_and,h1,Nat.and_two_pow_sub_one_eq_mod]
    rw [Int.natCast_emod,h2]
    simp only [Int.natCast_pow,Int.cast_ofNat_Int]
    exact Int.emod_emod_of_dvd x ⟨2 ^ (k.bits - i),by rw [← Int.pow_add];congr 1;omega⟩
  simp only [bits]
  rw [h3,hw]
theorem aeG (x:Int):bits .and .u64 x 1=x % 2:=by
  have:=afi .u64 x 1 (by decide) (by rw [l7];omega)
  simpa using this
theorem aq8 (x:Int):bits .and .i64 x 1=x % 2:=by
  have:=afi .i64 x 1 (by decide) (by rw [kV];unfold wrap64;omega)
  simpa using this
theorem ajl (x:Int):bits .and .u64 x 4294967295=x % 4294967296:=by
  have:=afi .u64 x 32 (by decide) (by rw [l7];omega)
  simpa using this
def hold (m:Int):Int:=if m < -9223372036854775808 then -9223372036854775808 else if m > 9223372036854775807 then 9223372036854775807 else m
theorem aq9 (m:Int) : -9223372036854775808≤hold m:=by unfold hold;split <;> (try split) <;> omega
theorem ak6 (m:Int):hold m≤9223372036854775807:=by unfold hold;split <;> (try split) <;> omega
theorem sU {m:Int} (h0 : -9223372036854775808≤m) (h1:m≤9223372036854775807):hold m=m:=by unfold hold;rw [if_neg (by omega),if_neg (by omega)]
def flo (a b:Int):Int:=if 0 < b then a / b else (-a) / (-b)
def jh (a b:Int):Int:=if 0 < b then (2*a+b) / (2*b) else (2*(-a)+(-b)) / (2*(-b))
def siz (x:Int):Int:=if x < 0 then -x else x
theorem ara {p d:Int} (_hp:0≤p) (hd:0 < d):(2*p+d) / (2*d)=if p % d≥d - p % d then p / d+1 else p / d:=by
  have e:=Int.mul_ediv_add_emod p d
  have r0:=Int.emod_nonneg p (Int.ne_of_gt hd)
  have r1:=Int.emod_lt_of_pos p hd
  have e2:2*p+d=(2*d)*(p / d)+(2*(p % d)+d):=by rw [Int.mul_assoc];omega
  rw [e2,Int.add_comm,Int.add_mul_ediv_left _ _ (by omega)]
  split
  · have:(2*(p % d)+d) / (2*d)=1:=by
      rw [show 2*(p % d)+d=(2*(p % d) - d)+(2*d)*1 from by omega,Int.add_mul_ediv_left _ _ (by omega),Int.ediv_eq_zero_of_lt (by omega) (by omega)];omega
    omega
  · have:(2*(p % d)+d) / (2*d)=0:=Int.ediv_eq_zero_of_lt (by omega) (by omega)
    omega
theorem arb {p d:Int} (_hp:0≤p) (hd:0 < d):(2*(-p)+d) / (2*d)=if p % d > d - p % d then -(p / d+1) else -(p / d):=by
  have e:=Int.mul_ediv_add_emod p d
  have r0:=Int.emod_nonneg p (Int.ne_of_gt hd)
  have r1:=Int.emod_lt_of_pos p hd
  have e2:2*(-p)+d=(2*d)*(-(p / d))+(d - 2*(p % d)):=by rw [Int.mul_assoc,Int.mul_neg,Int.mul_neg];omega
  rw [e2,Int.add_comm,Int.add_mul_ediv_left _ _ (by omega)]
  split
  · have:(d - 2*(p % d)) / (2*d) = -1:=by
      rw [show d - 2*(p % d)=(3*d - 2*(p % d))+(2*d)*(-1) from by omega,Int.add_mul_ediv_left _ _ (by omega),Int.ediv_eq_zero_of_lt (by omega) (by omega)];omega
    omega
  · have:(d - 2*(p % d)) / (2*d)=0:=Int.ediv_eq_zero_of_lt (by omega) (by omega)
    omega
def sgn (below:Bool) (m:Int):Int:=if below=true then -m else m
theorem abb (a b:Int):sgn ((decide (a < 0)) != (decide (b < 0))) (siz a*siz b)=a*b:=by
  unfold sgn siz
  by_cases h:a < 0 <;> by_cases k:b < 0 <;> simp [h,k,Int.neg_mul,Int.mul_neg]
theorem ahf (a:Int):sgn (decide (a < 0)) (siz a)=a:=by
  unfold sgn siz
  by_cases h:a < 0 <;> simp [h]
theorem ak7 (x:Bool) (d p:Int) (_hd:d≠0):jh (sgn (x != decide (d < 0)) p) (siz d)=jh (sgn x p) d:=by
  unfold sgn siz jh
  by_cases k:d < 0
  · rw [if_pos k]
    rw [if_pos (show 0 < -d from by omega),if_neg (show ¬ 0 < d from by omega)]
    cases x <;> simp [k]
  · simp [k]
theorem ak8 (x:Bool) (d p:Int) (_hd:d≠0):flo (sgn (x != decide (d < 0)) p) (siz d)=flo (sgn x p) d:=by
  unfold sgn siz flo
  by_cases k:d < 0
  · rw [if_pos k]
    rw [if_pos (show 0 < -d from by omega),if_neg (show ¬ 0 < d from by omega)]
    cases x <;> simp [k]
  · simp [k]
theorem acE (below:Bool) {p d:Int} (hp:0≤p) (hd:0 < d) :
    jh (sgn below p) d=sgn below (if below=true then (if p % d > d - p % d then p / d+1 else p / d) else (if p % d≥d - p % d then p / d+1 else p / d)):=by
  unfold jh sgn
  rw [if_pos hd]
  cases below
  · simp only [Bool.false_eq_true,if_false];exact ara hp hd
  · simp only [if_true];rw [arb hp hd];split <;> rfl
theorem neg_ediv {p d:Int} (hd:0 < d):(-p) / d=if p % d=0 then -(p / d) else -(p / d+1):=by
  have e:=Int.mul_ediv_add_emod p d
  have r0:=Int.emod_nonneg p (Int.ne_of_gt hd)
  have r1:=Int.emod_lt_of_pos p hd
  rw [show -p = -(p % d)+d*(-(p / d)) from by rw [Int.mul_neg];omega,Int.add_mul_ediv_left _ _ (by omega)]
  split
  · rename_i h;rw [h];simp
  · have:(-(p % d)) / d = -1:=by
      rw [show -(p % d)=(d - p % d)+d*(-1) from by omega,Int.add_mul_ediv_left _ _ (by omega),Int.ediv_eq_zero_of_lt (by omega) (by omega)];omega
    omega
theorem ak9 (below:Bool) {p d:Int} (hd:0 < d) :
    flo (sgn below p) d=sgn below (if below=true∧p % d≠0 then p / d+1 else p / d):=by
  unfold flo sgn
  rw [if_pos hd]
  cases below
  · simp
  · simp only [if_true,true_and];rw [neg_ediv hd];by_cases h:p % d=0 <;> simp [h]
abbrev I64 (x:Int):Prop := -9223372036854775808≤x∧x≤9223372036854775807
abbrev U64 (x:Int):Prop:=0≤x∧x < 18446744073709551616
theorem pO {a:Int} (h:I64 a):0≤siz a∧siz a≤9223372036854775808:=by unfold siz;split <;> omega
theorem acF {a:Int}:siz a=0↔a=0:=by unfold siz;split <;> omega
theorem qy (m:Int):I64 (hold m):=⟨aq9 m,ak6 m⟩
theorem ajm (a:Int) {b:Int} (hb:0 < b):a.tmod b=if 0≤a∨a % b=0 then a % b else a % b - b:=by
  have e:=Int.tmod_eq_emod (a:=a) (b:=b)
  have hdv:=Int.dvd_iff_emod_eq_zero (a:=b) (b:=a)
  rw [e]
  simp only [hdv]
  split
  · simp
  · rw [Int.natAbs_of_nonneg (by omega)]
def md (a b:Int):Int:=if b=0 then 0 else if 0 < b then a % b else -((-a) % (-b))
def sh (x n:Int):Int:=if n≤0 then x else jh x (2 ^ n.toNat)
theorem pow_pos (n:Nat):(0:Int) < 2 ^ n:=Int.pow_pos (by decide)
theorem lV (n:Nat):(2:Int) ^ (n+1)=2*2 ^ n:=by rw [Int.pow_succ,Int.mul_comm]
theorem qR {m n:Nat} (h:m≤n):(2:Int) ^ m≤2 ^ n:=by
  obtain ⟨d,rfl⟩:=Nat.exists_eq_add_of_le h
  rw [Int.pow_add]
  have h1:=pow_pos m
  have h2:=pow_pos d
  calc (2:Int) ^ m=2 ^ m*1:=by rw [Int.mul_one]
    _≤2 ^ m*2 ^ d:=Int.mul_le_mul_of_nonneg_left (by omega) (by omega)
theorem acG (x:Int) (n:Nat) (hn:1≤n):jh x (2 ^ n)=x / 2 ^ n+x / 2 ^ (n - 1) % 2:=by
  obtain ⟨m,rfl⟩:∃ m,n=m+1:=⟨n - 1,by omega⟩
  rw [Nat.add_sub_cancel]
  have hp:=pow_pos m
  unfold jh
  rw [if_pos (pow_pos _),lV]
  have e1:(2*x+2*2 ^ m) / (2*(2*2 ^ m))=(x+2 ^ m) / (2*2 ^ m):=by
    rw [← Int.mul_add];exact Int.mul_ediv_mul_of_pos _ _ (by omega)
  have e2:(x+2 ^ m) / (2*2 ^ m)=(x / 2 ^ m+1) / 2:=by
    rw [Int.mul_comm,← Int.ediv_ediv_of_nonneg (by omega)]
    congr 1
    have:=Int.add_mul_ediv_right x 1 (show (2:Int) ^ m≠0 from by omega)
    rw [Int.one_mul] at this;exact this
  have e3:x / (2*2 ^ m)=x / 2 ^ m / 2:=by rw [Int.mul_comm,← Int.ediv_ediv_of_nonneg (by omega)]
  rw [e1,e2,e3]
  omega
theorem afj {x d:Int} (hd:18446744073709551616≤d) (hx:I64 x):jh x d=0:=by
  unfold jh
  rw [if_pos (by omega)]
  exact Int.ediv_eq_zero_of_lt (by omega) (by omega)
theorem ajn (x:Int):jh x 1=x:=by unfold jh;rw [if_pos (by decide)];omega
theorem wI {a d q r:Int} (h:q*d+r=a) (h0:0≤r) (h1:r < d):a / d=q∧a % d=r:=by
  subst h
  constructor
  · rw [Int.add_comm,Int.add_mul_ediv_right _ _ (by omega),Int.ediv_eq_zero_of_lt h0 h1];omega
  · rw [Int.add_comm,Int.add_mul_emod_self_right,Int.emod_eq_of_lt h0 h1]
theorem xJ (a:Int) (n:Nat):a / 2 ^ n=2*(a / 2 ^ (n+1))+a / 2 ^ n % 2:=by
  have e:a / 2 ^ (n+1)=a / 2 ^ n / 2:=by rw [lV,Int.mul_comm,← Int.ediv_ediv_of_nonneg (by have:=pow_pos n;omega)]
  rw [e];omega
theorem ajo {x n:Int} (hx:I64 x):I64 (sh x n):=by
  unfold sh
  split
  · exact hx
  · by_cases h:64≤n
    · rw [afj (x:=x) _ hx]
      · constructor <;> omega
      · calc (18446744073709551616:Int)=2 ^ 64:=by decide
          _≤2 ^ n.toNat:=qR (by omega)
    · rw [acG x n.toNat (by omega)]
      have hp:=pow_pos n.toNat
      have h2:(2:Int)≤2 ^ n.toNat:=by
        calc (2:Int)=2 ^ 1:=by decide
          _≤2 ^ n.toNat:=qR (by omega)
      have a : -9223372036854775808≤x / 2 ^ n.toNat:=by
        rw [Int.le_ediv_iff_mul_le hp]
        have : -9223372036854775808*2 ^ n.toNat ≤ -9223372036854775808*1:=Int.mul_le_mul_of_nonpos_left (by decide) (by omega)
        omega
      have b:x / 2 ^ n.toNat < 4611686018427387904:=by
        rw [Int.ediv_lt_iff_lt_mul hp]
        calc x < 4611686018427387904*2:=by omega
          _≤4611686018427387904*2 ^ n.toNat:=Int.mul_le_mul_of_nonneg_left h2 (by decide)
      constructor <;> omega
end Go.Proofs.YtpondkggmcmpfaaGreatDoor.T
namespace Go.Proofs.YtpondkggmcmpfaaGreatDoor.QA
open Go.Proofs.YtpondkggmcmpfaaGreatDoor.T
open Go.RowKit Go.Proofs.YtpondkggmcmpfaaGreatDoorW.PrintWords Go.Proofs.YtpondkggmcmpfaaGreatDoorW.PrintLast Go.Proofs.YtpondkggmcmpfaaGreatDoorW.PrintMore
attribute [local go_sem] dV dQ dR eP eX
set_option linter.unusedVariables false
set_option linter.unusedSimpArgs false
def dH.j0:Nat→Int→Bool→Bool→Option (Int)
 | 0,_,_,_=>none
 | k+1,x0,x1,x5=>if x5=true then (some (-9223372036854775808)) else (if x1=true then (some (wrap64 (-(wrap64 (x0))))) else (if x0 > 9223372036854775807 then (some 9223372036854775807) else (some (wrap64 (x0)))))
def dH.f (k:Nat) (a0:Int) (a1:Bool):Option (Int):=if a1=true then (dH.j0 k a0 a1 (decide (a0≥9223372036854775808))) else (dH.j0 k a0 a1 false)
theorem dH.iT:∀ k,(∀ y0 y1 y2,LeO (dH.j0 k y0 y1 y2) (dH.j0 (k+1) y0 y1 y2))
 | 0=>fun _ _ _ r h=>by simp [dH.j0] at h
 | k+1=>by
  have ih0:=dH.iT k
  ·intro y0 y1 y2
   unfold dH.j0
   repeat' (with_reducible first|exact ih0 _ _ _|exact zM|refine LeO.ite ?_ ?_|refine LeO.bind ?_ (fun _ => ?_))
theorem dH.mono:∀ a0 a1 k,LeO (dH.f k a0 a1) (dH.f (k+1) a0 a1):=by
 intro a0 a1 k
 have ih0:=dH.iT k
 unfold dH.f
 repeat' (with_reducible first|exact ih0 _ _ _|exact zM|refine LeO.ite ?_ ?_|refine LeO.bind ?_ (fun _ => ?_))
set_option maxHeartbeats 8000000 in
set_option maxRecDepth 100000 in
theorem dH.calls (k:Nat) (a0:Int) (a1:Bool) (r:Int) (w:World) (h:dH.f k a0 a1=some r) :
  Calls Tryz.prog 164 #[.int .u64 a0,.bool a1] w fun e w'=>e = .returned (.int .i64 r)∧dw w w':=by
 have H:=h
 clear h
 unfold dH.f at H
 have HC3:=aj.mk H
 clear H
 go_enter Tryz.func164,Tryz.ntmps164
 go_upto_region 1 with (fail)
 go_cut [5] (fun v5 wc=>∃ (kq:Nat) (lS:Bool),v5 = .bool lS∧aj (dH.j0 kq a0 a1 lS=some r)∧aj (kq≤k)∧dw w wc)
 case first =>
  have H:=HC3.out
  clear HC3
  by_cases c4:a1=true
  ·subst c4
   rw [if_pos rfl] at H;try dsimp only at H
   have H':=aj.mk H
   clear H
   go_wp2
   go_meet
   case rel=>exact ⟨_,(decide (a0≥9223372036854775808)),zT,H',⟨by first|omega|exact Nat.le_refl _⟩,zW⟩
  ·replace c4:=Bool.eq_false_iff.mpr c4
   subst c4
   rw [if_neg (show ¬ (false=true) by decide)] at H;try dsimp only at H
   have H':=aj.mk H
   clear H
   go_wp2
   go_meet
   case rel=>exact ⟨_,(false),zT,H',⟨by first|omega|exact Nat.le_refl _⟩,zW⟩
 case rest =>
  clear HC3
  obtain ⟨kq,lS,rfl,HA,HJ2,⟨mc2,rfl⟩⟩:=hcut
  cases kq with
  | zero=>exact absurd HA.out (by simp [dH.j0])
  | succ kj2 =>
   have H:=HA.out
   clear HA
   simp only [dH.j0] at H
   by_cases c5:lS=true
   ·subst c5
    rw [if_pos rfl] at H;try dsimp only at H
    obtain rfl:=Option.some.inj H
    go_wp2
    go_ret
    exact ⟨zT,zW⟩
   ·replace c5:=Bool.eq_false_iff.mpr c5
    subst c5
    rw [if_neg (show ¬ (false=true) by decide)] at H;try dsimp only at H
    by_cases c6:a1=true
    ·subst c6
     rw [if_pos rfl] at H;try dsimp only at H
     obtain rfl:=Option.some.inj H
     go_wp2
     go_ret
     exact ⟨zT,zW⟩
    ·replace c6:=Bool.eq_false_iff.mpr c6
     subst c6
     rw [if_neg (show ¬ (false=true) by decide)] at H;try dsimp only at H
     by_cases c7:a0 > 9223372036854775807
     ·rw [if_pos c7] at H
      have jr:=decide_eq_true c7
      clear c7
      obtain rfl:=Option.some.inj H
      go_wp2
      go_ret
      exact ⟨zT,zW⟩
     ·rw [if_neg c7] at H
      have jr:=decide_eq_false c7
      clear c7
      obtain rfl:=Option.some.inj H
      go_wp2
      go_ret
      exact ⟨zT,zW⟩
def cO.f (k:Nat) (a0 a1:Int):Option (Int):=if a1=0 then (some 0) else ((fK.f a0).bind fun oq=>((fK.f a1).bind fun t107=>(if t107=0 then (none) else (if ((decide (a0 < 0)) != (decide (a1 < 0)))=true then (if (Int.tmod oq t107)=0 then ((dH.f k (IntKind.u64.wrap (Int.tdiv oq t107)) true).bind fun ajp=>(some ajp)) else ((dH.f k (IntKind.u64.wrap ((IntKind.u64.wrap (Int.tdiv oq t107))+1)) true).bind fun t109=>(some t109))) else ((dH.f k (IntKind.u64.wrap (Int.tdiv oq t107)) false).bind fun ajq=>(some ajq))))))
theorem cO.mono:∀ a0 a1 k,LeO (cO.f k a0 a1) (cO.f (k+1) a0 a1):=by
 intro a0 a1 k
 unfold cO.f
 repeat' (with_reducible first|exact dH.mono _ _ _|exact zM|refine LeO.ite ?_ ?_|refine LeO.bind ?_ (fun _ => ?_))
set_option maxHeartbeats 8000000 in
set_option maxRecDepth 100000 in
theorem cO.calls (k:Nat) (a0 a1 r:Int) (w:World) (h:cO.f k a0 a1=some r) :
  Calls Tryz.prog 133 #[.int .i64 a0,.int .i64 a1] w fun e w'=>e = .returned (.int .i64 r)∧dw w w':=by
 have H:=h
 clear h
 unfold cO.f at H
 by_cases c3:a1=0
 ·rw [if_pos c3] at H
  have fO:(a1 == 0)=true:=beq_iff_eq.mpr c3
  have wO:(a1 != 0)=false:=bne_eq_false_iff_eq.mpr c3
  clear c3
  obtain rfl:=Option.some.inj H
  go_enter Tryz.func133,Tryz.ntmps133
  go_wp2
  repeat (go_quiet (fail);try go_wp2)
  go_ret
  exact ⟨zT,zW⟩
 ·rw [if_neg c3] at H
  have fO:(a1 == 0)=false:=beq_eq_false_iff_ne.mpr c3
  have wO:(a1 != 0)=true:=bne_iff_ne.mpr c3
  replace H:=zO H
  obtain ⟨oq,A4,H⟩:=H
  try dsimp only at H
  replace H:=zO H
  obtain ⟨t107,A5,H⟩:=H
  try dsimp only at H
  by_cases c6:t107=0
  ·rw [if_pos c6] at H
   exact absurd H (by simp)
  ·rw [if_neg c6] at H
   have iw:(t107 == 0)=false:=beq_eq_false_iff_ne.mpr c6
   have um:(t107 != 0)=true:=bne_iff_ne.mpr c6
   by_cases c7:((decide (a0 < 0)) != (decide (a1 < 0)))=true
   ·rw [if_pos c7] at H
    have jr:((decide (a0 < 0)) != (decide (a1 < 0)))=true:=c7
    (try (have abd:decide ((decide (a0 < 0))=(decide (a1 < 0)))=false:=by simpa using c7))
    (try (have avk:((decide (a0 < 0)) == (decide (a1 < 0)))=false:=by simpa using c7))
    (try (have aAw:¬ ((decide (a0 < 0))=(decide (a1 < 0))):=by simpa using c7))
    clear c7
    by_cases c8:(Int.tmod oq t107)=0
    ·rw [if_pos c8] at H
     have vT:((Int.tmod oq t107) == 0)=true:=beq_iff_eq.mpr c8
     have acH:((Int.tmod oq t107) != 0)=false:=bne_eq_false_iff_eq.mpr c8
     clear c8
     replace H:=zO H
     obtain ⟨ajp,A9,H⟩:=H
     try dsimp only at H
     obtain rfl:=Option.some.inj H
     go_enter Tryz.func133,Tryz.ntmps133
     go_wp2_with (first|(go_at_call 163;(with_reducible refine (fK.calls a0 oq _ A4.out).mono ?_);rintro e w' ⟨rfl,⟨nd,rfl⟩⟩;(try exact ⟨rfl,_,zN⟩))|(go_at_call 163;(with_reducible refine (fK.calls a1 t107 _ A5.out).mono ?_);rintro e w' ⟨rfl,⟨nd,rfl⟩⟩;(try exact ⟨rfl,_,zN⟩))|(go_at_call 164;(with_reducible refine (dH.calls k (IntKind.u64.wrap (Int.tdiv oq t107)) true ajp _ A9.out).mono ?_);rintro e w' ⟨rfl,⟨nd,rfl⟩⟩;(try exact ⟨rfl,_,zN⟩)))
     repeat (go_quiet (first|(go_at_call 163;(with_reducible refine (fK.calls a0 oq _ A4.out).mono ?_);rintro e w' ⟨rfl,⟨nd,rfl⟩⟩;(try exact ⟨rfl,_,zN⟩))|(go_at_call 163;(with_reducible refine (fK.calls a1 t107 _ A5.out).mono ?_);rintro e w' ⟨rfl,⟨nd,rfl⟩⟩;(try exact ⟨rfl,_,zN⟩))|(go_at_call 164;(with_reducible refine (dH.calls k (IntKind.u64.wrap (Int.tdiv oq t107)) true ajp _ A9.out).mono ?_);rintro e w' ⟨rfl,⟨nd,rfl⟩⟩;(try exact ⟨rfl,_,zN⟩)));try go_wp2_with (first|(go_at_call 163;(with_reducible refine (fK.calls a0 oq _ A4.out).mono ?_);rintro e w' ⟨rfl,⟨nd,rfl⟩⟩;(try exact ⟨rfl,_,zN⟩))|(go_at_call 163;(with_reducible refine (fK.calls a1 t107 _ A5.out).mono ?_);rintro e w' ⟨rfl,⟨nd,rfl⟩⟩;(try exact ⟨rfl,_,zN⟩))|(go_at_call 164;(with_reducible refine (dH.calls k (IntKind.u64.wrap (Int.tdiv oq t107)) true ajp _ A9.out).mono ?_);rintro e w' ⟨rfl,⟨nd,rfl⟩⟩;(try exact ⟨rfl,_,zN⟩))))
     go_ret
     exact ⟨zT,zW⟩
    ·rw [if_neg c8] at H
     have vT:((Int.tmod oq t107) == 0)=false:=beq_eq_false_iff_ne.mpr c8
     have acH:((Int.tmod oq t107) != 0)=true:=bne_iff_ne.mpr c8
     replace H:=zO H
     obtain ⟨t109,A10,H⟩:=H
     try dsimp only at H
     obtain rfl:=Option.some.inj H
     go_enter Tryz.func133,Tryz.ntmps133
     go_wp2_with (first|(go_at_call 163;(with_reducible refine (fK.calls a0 oq _ A4.out).mono ?_);rintro e w' ⟨rfl,⟨nd,rfl⟩⟩;(try exact ⟨rfl,_,zN⟩))|(go_at_call 163;(with_reducible refine (fK.calls a1 t107 _ A5.out).mono ?_);rintro e w' ⟨rfl,⟨nd,rfl⟩⟩;(try exact ⟨rfl,_,zN⟩))|(go_at_call 164;(with_reducible refine (dH.calls k (IntKind.u64.wrap ((IntKind.u64.wrap (Int.tdiv oq t107))+1)) true t109 _ A10.out).mono ?_);rintro e w' ⟨rfl,⟨nd,rfl⟩⟩;(try exact ⟨rfl,_,zN⟩)))
     repeat (go_quiet (first|(go_at_call 163;(with_reducible refine (fK.calls a0 oq _ A4.out).mono ?_);rintro e w' ⟨rfl,⟨nd,rfl⟩⟩;(try exact ⟨rfl,_,zN⟩))|(go_at_call 163;(with_reducible refine (fK.calls a1 t107 _ A5.out).mono ?_);rintro e w' ⟨rfl,⟨nd,rfl⟩⟩;(try exact ⟨rfl,_,zN⟩))|(go_at_call 164;(with_reducible refine (dH.calls k (IntKind.u64.wrap ((IntKind.u64.wrap (Int.tdiv oq t107))+1)) true t109 _ A10.out).mono ?_);rintro e w' ⟨rfl,⟨nd,rfl⟩⟩;(try exact ⟨rfl,_,zN⟩)));try go_wp2_with (first|(go_at_call 163;(with_reducible refine (fK.calls a0 oq _ A4.out).mono ?_);rintro e w' ⟨rfl,⟨nd,rfl⟩⟩;(try exact ⟨rfl,_,zN⟩))|(go_at_call 163;(with_reducible refine (fK.calls a1 t107 _ A5.out).mono ?_);rintro e w' ⟨rfl,⟨nd,rfl⟩⟩;(try exact ⟨rfl,_,zN⟩))|(go_at_call 164;(with_reducible refine (dH.calls k (IntKind.u64.wrap ((IntKind.u64.wrap (Int.tdiv oq t107))+1)) true t109 _ A10.out).mono ?_);rintro e w' ⟨rfl,⟨nd,rfl⟩⟩;(try exact ⟨rfl,_,zN⟩))))
     go_ret
     exact ⟨zT,zW⟩
   ·rw [if_neg c7] at H
    have jr:((decide (a0 < 0)) != (decide (a1 < 0)))=false:=by simpa using c7
    (try (have abd:decide ((decide (a0 < 0))=(decide (a1 < 0)))=true:=by simpa using c7))
    (try (have avk:((decide (a0 < 0)) == (decide (a1 < 0)))=true:=by simpa using c7))
    clear c7
    replace H:=zO H
    obtain ⟨ajq,A11,H⟩:=H
    try dsimp only at H
    obtain rfl:=Option.some.inj H
    go_enter Tryz.func133,Tryz.ntmps133
    go_wp2_with (first|(go_at_call 163;(with_reducible refine (fK.calls a0 oq _ A4.out).mono ?_);rintro e w' ⟨rfl,⟨nd,rfl⟩⟩;(try exact ⟨rfl,_,zN⟩))|(go_at_call 163;(with_reducible refine (fK.calls a1 t107 _ A5.out).mono ?_);rintro e w' ⟨rfl,⟨nd,rfl⟩⟩;(try exact ⟨rfl,_,zN⟩))|(go_at_call 164;(with_reducible refine (dH.calls k (IntKind.u64.wrap (Int.tdiv oq t107)) false ajq _ A11.out).mono ?_);rintro e w' ⟨rfl,⟨nd,rfl⟩⟩;(try exact ⟨rfl,_,zN⟩)))
    repeat (go_quiet (first|(go_at_call 163;(with_reducible refine (fK.calls a0 oq _ A4.out).mono ?_);rintro e w' ⟨rfl,⟨nd,rfl⟩⟩;(try exact ⟨rfl,_,zN⟩))|(go_at_call 163;(with_reducible refine (fK.calls a1 t107 _ A5.out).mono ?_);rintro e w' ⟨rfl,⟨nd,rfl⟩⟩;(try exact ⟨rfl,_,zN⟩))|(go_at_call 164;(with_reducible refine (dH.calls k (IntKind.u64.wrap (Int.tdiv oq t107)) false ajq _ A11.out).mono ?_);rintro e w' ⟨rfl,⟨nd,rfl⟩⟩;(try exact ⟨rfl,_,zN⟩)));try go_wp2_with (first|(go_at_call 163;(with_reducible refine (fK.calls a0 oq _ A4.out).mono ?_);rintro e w' ⟨rfl,⟨nd,rfl⟩⟩;(try exact ⟨rfl,_,zN⟩))|(go_at_call 163;(with_reducible refine (fK.calls a1 t107 _ A5.out).mono ?_);rintro e w' ⟨rfl,⟨nd,rfl⟩⟩;(try exact ⟨rfl,_,zN⟩))|(go_at_call 164;(with_reducible refine (dH.calls k (IntKind.u64.wrap (Int.tdiv oq t107)) false ajq _ A11.out).mono ?_);rintro e w' ⟨rfl,⟨nd,rfl⟩⟩;(try exact ⟨rfl,_,zN⟩))))
    go_ret
    exact ⟨zT,zW⟩
def iV.f (a0 a1 a2 a3:Int):Option (Bool):=if a0≥0 then (if a0 < 3 then (if a1≥1 then (if a1≤65536 then (if a2≥1 then (if a2≤65536 then (if a3≥0 then (some (decide (a3 < a2))) else (some false)) else (some false)) else (some false)) else (some false)) else (some false)) else (some false)) else (some false)
set_option maxHeartbeats 8000000 in
set_option maxRecDepth 100000 in
theorem iV.calls (a0 a1 a2 a3:Int) (r:Bool) (w:World) (h:iV.f a0 a1 a2 a3=some r) :
  Calls Tryz.prog 151 #[.int .i64 a0,.int .i64 a1,.int .i64 a2,.int .i64 a3] w fun e w'=>e = .returned (.bool r)∧dw w w':=by
 have H:=h
 clear h
 unfold iV.f at H
 by_cases c5:a0≥0
 ·rw [if_pos c5] at H
  have iL:=decide_eq_true c5
  clear c5
  by_cases c6:a0 < 3
  ·rw [if_pos c6] at H
   have iw:=decide_eq_true c6
   clear c6
   by_cases c7:a1≥1
   ·rw [if_pos c7] at H
    have jr:=decide_eq_true c7
    clear c7
    by_cases c8:a1≤65536
    ·rw [if_pos c8] at H
     have vT:=decide_eq_true c8
     clear c8
     by_cases c9:a2≥1
     ·rw [if_pos c9] at H
      have qJ:=decide_eq_true c9
      clear c9
      by_cases c10:a2≤65536
      ·rw [if_pos c10] at H
       have pR:=decide_eq_true c10
       clear c10
       by_cases c11:a3≥0
       ·rw [if_pos c11] at H
        have iO:=decide_eq_true c11
        clear c11
        obtain rfl:=Option.some.inj H
        go_enter Tryz.func151,Tryz.ntmps151
        go_wp2
        go_ret
        exact ⟨zT,zW⟩
       ·rw [if_neg c11] at H
        have iO:=decide_eq_false c11
        clear c11
        obtain rfl:=Option.some.inj H
        go_enter Tryz.func151,Tryz.ntmps151
        go_wp2
        go_ret
        exact ⟨zT,zW⟩
      ·rw [if_neg c10] at H
       have pR:=decide_eq_false c10
       clear c10
       obtain rfl:=Option.some.inj H
       go_enter Tryz.func151,Tryz.ntmps151
       go_wp2
       go_ret
       exact ⟨zT,zW⟩
     ·rw [if_neg c9] at H
      have qJ:=decide_eq_false c9
      clear c9
      obtain rfl:=Option.some.inj H
      go_enter Tryz.func151,Tryz.ntmps151
      go_wp2
      go_ret
      exact ⟨zT,zW⟩
    ·rw [if_neg c8] at H
     have vT:=decide_eq_false c8
     clear c8
     obtain rfl:=Option.some.inj H
     go_enter Tryz.func151,Tryz.ntmps151
     go_wp2
     go_ret
     exact ⟨zT,zW⟩
   ·rw [if_neg c7] at H
    have jr:=decide_eq_false c7
    clear c7
    obtain rfl:=Option.some.inj H
    go_enter Tryz.func151,Tryz.ntmps151
    go_wp2
    go_ret
    exact ⟨zT,zW⟩
  ·rw [if_neg c6] at H
   have iw:=decide_eq_false c6
   clear c6
   obtain rfl:=Option.some.inj H
   go_enter Tryz.func151,Tryz.ntmps151
   go_wp2
   go_ret
   exact ⟨zT,zW⟩
 ·rw [if_neg c5] at H
  have iL:=decide_eq_false c5
  clear c5
  obtain rfl:=Option.some.inj H
  go_enter Tryz.func151,Tryz.ntmps151
  go_wp2
  go_ret
  exact ⟨zT,zW⟩
def gG.f (k:Nat) (a0 a1:Int):Option (Int):=(cO.f k (wrap64 (-a0)) a1).bind fun an8=>(some (wrap64 (-an8)))
theorem gG.mono:∀ a0 a1 k,LeO (gG.f k a0 a1) (gG.f (k+1) a0 a1):=by
 intro a0 a1 k
 unfold gG.f
 repeat' (with_reducible first|exact cO.mono _ _ _|exact zM|refine LeO.ite ?_ ?_|refine LeO.bind ?_ (fun _ => ?_))
set_option maxHeartbeats 8000000 in
set_option maxRecDepth 100000 in
theorem gG.calls (k:Nat) (a0 a1 r:Int) (w:World) (h:gG.f k a0 a1=some r) :
  Calls Tryz.prog 152 #[.int .i64 a0,.int .i64 a1] w fun e w'=>e = .returned (.int .i64 r)∧dw w w':=by
 have H:=h
 clear h
 unfold gG.f at H
 replace H:=zO H
 obtain ⟨an8,A3,H⟩:=H
 try dsimp only at H
 obtain rfl:=Option.some.inj H
 go_enter Tryz.func152,Tryz.ntmps152
 go_wp2_with (first|((with_reducible refine aA (f:=133) rfl ?_);refine aH (some 8) rfl rfl Tryz.func133 (by kernel_rfl) rfl #[.int .i64 (wrap64 (-a0)),.int .i64 a1] rfl zL ?_;(with_reducible refine (cO.calls k (wrap64 (-a0)) a1 an8 _ A3.out).mono ?_);rintro e w' ⟨rfl,⟨nd,rfl⟩⟩;refine ⟨_,rfl,?_⟩))
 go_ret
 exact ⟨zT,zW⟩
end Go.Proofs.YtpondkggmcmpfaaGreatDoor.QA
namespace Go.Proofs.YtpondkggmcmpfaaGreatDoor.QA
open Go.Proofs.YtpondkggmcmpfaaGreatDoor.T
open Go.RowKit Go.Proofs.YtpondkggmcmpfaaGreatDoorW.PrintWords Go.Proofs.YtpondkggmcmpfaaGreatDoorW.PrintLast Go.Proofs.YtpondkggmcmpfaaGreatDoorW.PrintMore
attribute [local go_sem] dV dQ dR eP eX
set_option linter.unusedVariables false
set_option linter.unusedSimpArgs false
def jy.f (k:Nat) (a1 a2 a3:Int):Option (Int × Int):=(iV.f 1 a1 a2 a3).bind fun an9=>(if an9=true then ((cO.f k (wrap64 (a3*a1)) a2).bind fun alJ=>((gG.f k (wrap64 ((wrap64 (a3+1))*a1)) a2).bind fun alK=>((cO.f k (wrap64 ((wrap64 ((wrap64 ((wrap64 ((wrap64 (2*a3))+1))*a1)) - a2)) - (wrap64 (4*(mx a1 a2))))) (wrap64 (2*a2))).bind fun acI=>((gG.f k (wrap64 ((wrap64 ((wrap64 ((wrap64 ((wrap64 (2*a3))+1))*a1)) - a2))+(wrap64 (4*(mx a1 a2))))) (wrap64 (2*a2))).bind fun t116=>(some (wrap64 (acI+1),wrap64 (t116 - (wrap64 (acI+1))))))))) else (some (0,0)))
theorem jy.mono:∀ a1 a2 a3 k,LeO (jy.f k a1 a2 a3) (jy.f (k+1) a1 a2 a3):=by
 intro a1 a2 a3 k
 unfold jy.f
 repeat' (with_reducible first|exact cO.mono _ _ _|exact gG.mono _ _ _|exact zM|refine LeO.ite ?_ ?_|refine LeO.bind ?_ (fun _ => ?_))
set_option maxHeartbeats 8000000 in
set_option maxRecDepth 100000 in
theorem jy.calls (k:Nat) (a1 a2 a3 r1 r2:Int) (w:World) (hG:GL w) (h:jy.f k a1 a2 a3=some (r1,r2)) :
  Calls Tryz.prog 128 #[.int .i64 1,.int .i64 a1,.int .i64 a2,.int .i64 a3] w fun e w'=>e = .returned (.tuple #[.int .i64 r1,.int .i64 r2])∧Below w.heap.size w w':=by
 have HB:=aj.mk (Below.refl w.heap.size w)
 have H:=h
 clear h
 unfold jy.f at H
 obtain ⟨⟨aaw,aax,aay,aaz,aaA,aaB⟩,⟨aaC,aaD,aaE,aaF,aaG,aaH,aaI⟩⟩:=hG
 replace H:=zO H
 obtain ⟨an9,A5,H⟩:=H
 try dsimp only at H
 by_cases c6:an9=true
 ·subst c6
  rw [if_pos rfl] at H;try dsimp only at H
  replace H:=zO H
  obtain ⟨alJ,A7,H⟩:=H
  try dsimp only at H
  replace H:=zO H
  obtain ⟨alK,A8,H⟩:=H
  try dsimp only at H
  obtain ⟨ji9,l9⟩:∃ j_:Int,(mx a1 a2)=j_:=⟨_,rfl⟩
  replace H:((cO.f k (wrap64 ((wrap64 ((wrap64 ((wrap64 ((wrap64 (2*a3))+1))*a1)) - a2)) - (wrap64 (4*(ji9))))) (wrap64 (2*a2))).bind fun acI=>((gG.f k (wrap64 ((wrap64 ((wrap64 ((wrap64 ((wrap64 (2*a3))+1))*a1)) - a2))+(wrap64 (4*(ji9))))) (wrap64 (2*a2))).bind fun t116=>(some (wrap64 (acI+1),wrap64 (t116 - (wrap64 (acI+1)))))))=some (r1,r2):=by first|(rw [l9] at H;exact H)|(simp only [l9] at H ⊢;exact H)
  (try rw [l9] at A5)
  (try rw [l9] at A7)
  (try rw [l9] at A8)
  have alL:(if a1 < a2 then a2 else a1)=ji9:=l9
  replace H:=zO H
  obtain ⟨acI,A10,H⟩:=H
  try dsimp only at H
  replace H:=zO H
  obtain ⟨t116,A11,H⟩:=H
  try dsimp only at H
  simp only [Option.some.injEq,Prod.mk.injEq] at H
  obtain ⟨rfl,rfl⟩:=H
  go_enter Tryz.func128,Tryz.ntmps128
  go_wp2_with (first|(go_at_call 151;(with_reducible refine (iV.calls 1 a1 a2 a3 true _ A5.out).mono ?_);rintro e w' ⟨rfl,⟨nd,rfl⟩⟩;(try exact ⟨rfl,_,zN⟩))|(go_at_call 133;(with_reducible refine (cO.calls k (wrap64 (a3*a1)) a2 alJ _ A7.out).mono ?_);rintro e w' ⟨rfl,⟨nd,rfl⟩⟩;(try exact ⟨rfl,_,zN⟩))|(go_at_call 152;(with_reducible refine (gG.calls k (wrap64 ((wrap64 (a3+1))*a1)) a2 alK _ A8.out).mono ?_);rintro e w' ⟨rfl,⟨nd,rfl⟩⟩;(try exact ⟨rfl,_,zN⟩))|(go_at_call 133;(with_reducible refine (cO.calls k (wrap64 ((wrap64 ((wrap64 ((wrap64 ((wrap64 (2*a3))+1))*a1)) - a2)) - (wrap64 (4*(ji9))))) (wrap64 (2*a2)) acI _ A10.out).mono ?_);rintro e w' ⟨rfl,⟨nd,rfl⟩⟩;(try exact ⟨rfl,_,zN⟩))|(go_at_call 152;(with_reducible refine (gG.calls k (wrap64 ((wrap64 ((wrap64 ((wrap64 ((wrap64 (2*a3))+1))*a1)) - a2))+(wrap64 (4*(ji9))))) (wrap64 (2*a2)) t116 _ A11.out).mono ?_);rintro e w' ⟨rfl,⟨nd,rfl⟩⟩;(try exact ⟨rfl,_,zN⟩)))
  repeat (go_quiet (first|(go_at_call 151;(with_reducible refine (iV.calls 1 a1 a2 a3 true _ A5.out).mono ?_);rintro e w' ⟨rfl,⟨nd,rfl⟩⟩;(try exact ⟨rfl,_,zN⟩))|(go_at_call 133;(with_reducible refine (cO.calls k (wrap64 (a3*a1)) a2 alJ _ A7.out).mono ?_);rintro e w' ⟨rfl,⟨nd,rfl⟩⟩;(try exact ⟨rfl,_,zN⟩))|(go_at_call 152;(with_reducible refine (gG.calls k (wrap64 ((wrap64 (a3+1))*a1)) a2 alK _ A8.out).mono ?_);rintro e w' ⟨rfl,⟨nd,rfl⟩⟩;(try exact ⟨rfl,_,zN⟩))|(go_at_call 133;(with_reducible refine (cO.calls k (wrap64 ((wrap64 ((wrap64 ((wrap64 ((wrap64 (2*a3))+1))*a1)) - a2)) - (wrap64 (4*(ji9))))) (wrap64 (2*a2)) acI _ A10.out).mono ?_);rintro e w' ⟨rfl,⟨nd,rfl⟩⟩;(try exact ⟨rfl,_,zN⟩))|(go_at_call 152;(with_reducible refine (gG.calls k (wrap64 ((wrap64 ((wrap64 ((wrap64 ((wrap64 (2*a3))+1))*a1)) - a2))+(wrap64 (4*(ji9))))) (wrap64 (2*a2)) t116 _ A11.out).mono ?_);rintro e w' ⟨rfl,⟨nd,rfl⟩⟩;(try exact ⟨rfl,_,zN⟩)));try go_wp2_with (first|(go_at_call 151;(with_reducible refine (iV.calls 1 a1 a2 a3 true _ A5.out).mono ?_);rintro e w' ⟨rfl,⟨nd,rfl⟩⟩;(try exact ⟨rfl,_,zN⟩))|(go_at_call 133;(with_reducible refine (cO.calls k (wrap64 (a3*a1)) a2 alJ _ A7.out).mono ?_);rintro e w' ⟨rfl,⟨nd,rfl⟩⟩;(try exact ⟨rfl,_,zN⟩))|(go_at_call 152;(with_reducible refine (gG.calls k (wrap64 ((wrap64 (a3+1))*a1)) a2 alK _ A8.out).mono ?_);rintro e w' ⟨rfl,⟨nd,rfl⟩⟩;(try exact ⟨rfl,_,zN⟩))|(go_at_call 133;(with_reducible refine (cO.calls k (wrap64 ((wrap64 ((wrap64 ((wrap64 ((wrap64 (2*a3))+1))*a1)) - a2)) - (wrap64 (4*(ji9))))) (wrap64 (2*a2)) acI _ A10.out).mono ?_);rintro e w' ⟨rfl,⟨nd,rfl⟩⟩;(try exact ⟨rfl,_,zN⟩))|(go_at_call 152;(with_reducible refine (gG.calls k (wrap64 ((wrap64 ((wrap64 ((wrap64 ((wrap64 (2*a3))+1))*a1)) - a2))+(wrap64 (4*(ji9))))) (wrap64 (2*a2)) t116 _ A11.out).mono ?_);rintro e w' ⟨rfl,⟨nd,rfl⟩⟩;(try exact ⟨rfl,_,zN⟩))))
  go_ret2
  exact ⟨by first|rfl|(simp [bG,bH] <;> rfl)|(simp only [← l9];first|rfl|(simp [bG,bH] <;> rfl))|(simp [*,bG,bH] <;> rfl),zB⟩
 ·replace c6:=Bool.eq_false_iff.mpr c6
  subst c6
  rw [if_neg (show ¬ (false=true) by decide)] at H;try dsimp only at H
  simp only [Option.some.injEq,Prod.mk.injEq] at H
  obtain ⟨rfl,rfl⟩:=H
  go_enter Tryz.func128,Tryz.ntmps128
  go_wp2_with (first|(go_at_call 151;(with_reducible refine (iV.calls 1 a1 a2 a3 false _ A5.out).mono ?_);rintro e w' ⟨rfl,⟨nd,rfl⟩⟩;(try exact ⟨rfl,_,zN⟩)))
  repeat (go_quiet (first|(go_at_call 151;(with_reducible refine (iV.calls 1 a1 a2 a3 false _ A5.out).mono ?_);rintro e w' ⟨rfl,⟨nd,rfl⟩⟩;(try exact ⟨rfl,_,zN⟩)));try go_wp2_with (first|(go_at_call 151;(with_reducible refine (iV.calls 1 a1 a2 a3 false _ A5.out).mono ?_);rintro e w' ⟨rfl,⟨nd,rfl⟩⟩;(try exact ⟨rfl,_,zN⟩))))
  go_ret2
  exact ⟨zS,zB⟩
def jA.f (k:Nat) (a1 a2 a3:Int):Option (Int × Int):=(iV.f 2 a1 a2 a3).bind fun t117=>(if t117=true then ((cO.f k (wrap64 (a3*a1)) a2).bind fun alM=>((gG.f k (wrap64 ((wrap64 (a3+1))*a1)) a2).bind fun t119=>((cO.f k (wrap64 ((wrap64 ((wrap64 ((wrap64 ((wrap64 (2*a3))+1))*a1)) - a2)) - (wrap64 (6*(mx a1 a2))))) (wrap64 (2*a2))).bind fun acJ=>((gG.f k (wrap64 ((wrap64 ((wrap64 ((wrap64 ((wrap64 (2*a3))+1))*a1)) - a2))+(wrap64 (6*(mx a1 a2))))) (wrap64 (2*a2))).bind fun afk=>(some (wrap64 (acJ+1),wrap64 (afk - (wrap64 (acJ+1))))))))) else (some (0,0)))
theorem jA.mono:∀ a1 a2 a3 k,LeO (jA.f k a1 a2 a3) (jA.f (k+1) a1 a2 a3):=by
 intro a1 a2 a3 k
 unfold jA.f
 repeat' (with_reducible first|exact cO.mono _ _ _|exact gG.mono _ _ _|exact zM|refine LeO.ite ?_ ?_|refine LeO.bind ?_ (fun _ => ?_))
set_option maxHeartbeats 8000000 in
set_option maxRecDepth 100000 in
theorem jA.calls (k:Nat) (a1 a2 a3 r1 r2:Int) (w:World) (hG:GL w) (h:jA.f k a1 a2 a3=some (r1,r2)) :
  Calls Tryz.prog 128 #[.int .i64 2,.int .i64 a1,.int .i64 a2,.int .i64 a3] w fun e w'=>e = .returned (.tuple #[.int .i64 r1,.int .i64 r2])∧Below w.heap.size w w':=by
 have HB:=aj.mk (Below.refl w.heap.size w)
 have H:=h
 clear h
 unfold jA.f at H
 obtain ⟨⟨aaw,aax,aay,aaz,aaA,aaB⟩,⟨aaC,aaD,aaE,aaF,aaG,aaH,aaI⟩⟩:=hG
 replace H:=zO H
 obtain ⟨t117,A5,H⟩:=H
 try dsimp only at H
 by_cases c6:t117=true
 ·subst c6
  rw [if_pos rfl] at H;try dsimp only at H
  replace H:=zO H
  obtain ⟨alM,A7,H⟩:=H
  try dsimp only at H
  replace H:=zO H
  obtain ⟨t119,A8,H⟩:=H
  try dsimp only at H
  obtain ⟨ji9,l9⟩:∃ j_:Int,(mx a1 a2)=j_:=⟨_,rfl⟩
  replace H:((cO.f k (wrap64 ((wrap64 ((wrap64 ((wrap64 ((wrap64 (2*a3))+1))*a1)) - a2)) - (wrap64 (6*(ji9))))) (wrap64 (2*a2))).bind fun acJ=>((gG.f k (wrap64 ((wrap64 ((wrap64 ((wrap64 ((wrap64 (2*a3))+1))*a1)) - a2))+(wrap64 (6*(ji9))))) (wrap64 (2*a2))).bind fun afk=>(some (wrap64 (acJ+1),wrap64 (afk - (wrap64 (acJ+1)))))))=some (r1,r2):=by first|(rw [l9] at H;exact H)|(simp only [l9] at H ⊢;exact H)
  (try rw [l9] at A5)
  (try rw [l9] at A7)
  (try rw [l9] at A8)
  have alL:(if a1 < a2 then a2 else a1)=ji9:=l9
  replace H:=zO H
  obtain ⟨acJ,A10,H⟩:=H
  try dsimp only at H
  replace H:=zO H
  obtain ⟨afk,A11,H⟩:=H
  try dsimp only at H
  simp only [Option.some.injEq,Prod.mk.injEq] at H
  obtain ⟨rfl,rfl⟩:=H
  go_enter Tryz.func128,Tryz.ntmps128
  go_wp2_with (first|(go_at_call 151;(with_reducible refine (iV.calls 2 a1 a2 a3 true _ A5.out).mono ?_);rintro e w' ⟨rfl,⟨nd,rfl⟩⟩;(try exact ⟨rfl,_,zN⟩))|(go_at_call 133;(with_reducible refine (cO.calls k (wrap64 (a3*a1)) a2 alM _ A7.out).mono ?_);rintro e w' ⟨rfl,⟨nd,rfl⟩⟩;(try exact ⟨rfl,_,zN⟩))|(go_at_call 152;(with_reducible refine (gG.calls k (wrap64 ((wrap64 (a3+1))*a1)) a2 t119 _ A8.out).mono ?_);rintro e w' ⟨rfl,⟨nd,rfl⟩⟩;(try exact ⟨rfl,_,zN⟩))|(go_at_call 133;(with_reducible refine (cO.calls k (wrap64 ((wrap64 ((wrap64 ((wrap64 ((wrap64 (2*a3))+1))*a1)) - a2)) - (wrap64 (6*(ji9))))) (wrap64 (2*a2)) acJ _ A10.out).mono ?_);rintro e w' ⟨rfl,⟨nd,rfl⟩⟩;(try exact ⟨rfl,_,zN⟩))|(go_at_call 152;(with_reducible refine (gG.calls k (wrap64 ((wrap64 ((wrap64 ((wrap64 ((wrap64 (2*a3))+1))*a1)) - a2))+(wrap64 (6*(ji9))))) (wrap64 (2*a2)) afk _ A11.out).mono ?_);rintro e w' ⟨rfl,⟨nd,rfl⟩⟩;(try exact ⟨rfl,_,zN⟩)))
  repeat (go_quiet (first|(go_at_call 151;(with_reducible refine (iV.calls 2 a1 a2 a3 true _ A5.out).mono ?_);rintro e w' ⟨rfl,⟨nd,rfl⟩⟩;(try exact ⟨rfl,_,zN⟩))|(go_at_call 133;(with_reducible refine (cO.calls k (wrap64 (a3*a1)) a2 alM _ A7.out).mono ?_);rintro e w' ⟨rfl,⟨nd,rfl⟩⟩;(try exact ⟨rfl,_,zN⟩))|(go_at_call 152;(with_reducible refine (gG.calls k (wrap64 ((wrap64 (a3+1))*a1)) a2 t119 _ A8.out).mono ?_);rintro e w' ⟨rfl,⟨nd,rfl⟩⟩;(try exact ⟨rfl,_,zN⟩))|(go_at_call 133;(with_reducible refine (cO.calls k (wrap64 ((wrap64 ((wrap64 ((wrap64 ((wrap64 (2*a3))+1))*a1)) - a2)) - (wrap64 (6*(ji9))))) (wrap64 (2*a2)) acJ _ A10.out).mono ?_);rintro e w' ⟨rfl,⟨nd,rfl⟩⟩;(try exact ⟨rfl,_,zN⟩))|(go_at_call 152;(with_reducible refine (gG.calls k (wrap64 ((wrap64 ((wrap64 ((wrap64 ((wrap64 (2*a3))+1))*a1)) - a2))+(wrap64 (6*(ji9))))) (wrap64 (2*a2)) afk _ A11.out).mono ?_);rintro e w' ⟨rfl,⟨nd,rfl⟩⟩;(try exact ⟨rfl,_,zN⟩)));try go_wp2_with (first|(go_at_call 151;(with_reducible refine (iV.calls 2 a1 a2 a3 true _ A5.out).mono ?_);rintro e w' ⟨rfl,⟨nd,rfl⟩⟩;(try exact ⟨rfl,_,zN⟩))|(go_at_call 133;(with_reducible refine (cO.calls k (wrap64 (a3*a1)) a2 alM _ A7.out).mono ?_);rintro e w' ⟨rfl,⟨nd,rfl⟩⟩;(try exact ⟨rfl,_,zN⟩))|(go_at_call 152;(with_reducible refine (gG.calls k (wrap64 ((wrap64 (a3+1))*a1)) a2 t119 _ A8.out).mono ?_);rintro e w' ⟨rfl,⟨nd,rfl⟩⟩;(try exact ⟨rfl,_,zN⟩))|(go_at_call 133;(with_reducible refine (cO.calls k (wrap64 ((wrap64 ((wrap64 ((wrap64 ((wrap64 (2*a3))+1))*a1)) - a2)) - (wrap64 (6*(ji9))))) (wrap64 (2*a2)) acJ _ A10.out).mono ?_);rintro e w' ⟨rfl,⟨nd,rfl⟩⟩;(try exact ⟨rfl,_,zN⟩))|(go_at_call 152;(with_reducible refine (gG.calls k (wrap64 ((wrap64 ((wrap64 ((wrap64 ((wrap64 (2*a3))+1))*a1)) - a2))+(wrap64 (6*(ji9))))) (wrap64 (2*a2)) afk _ A11.out).mono ?_);rintro e w' ⟨rfl,⟨nd,rfl⟩⟩;(try exact ⟨rfl,_,zN⟩))))
  go_ret2
  exact ⟨by first|rfl|(simp [bG,bH] <;> rfl)|(simp only [← l9];first|rfl|(simp [bG,bH] <;> rfl))|(simp [*,bG,bH] <;> rfl),zB⟩
 ·replace c6:=Bool.eq_false_iff.mpr c6
  subst c6
  rw [if_neg (show ¬ (false=true) by decide)] at H;try dsimp only at H
  simp only [Option.some.injEq,Prod.mk.injEq] at H
  obtain ⟨rfl,rfl⟩:=H
  go_enter Tryz.func128,Tryz.ntmps128
  go_wp2_with (first|(go_at_call 151;(with_reducible refine (iV.calls 2 a1 a2 a3 false _ A5.out).mono ?_);rintro e w' ⟨rfl,⟨nd,rfl⟩⟩;(try exact ⟨rfl,_,zN⟩)))
  repeat (go_quiet (first|(go_at_call 151;(with_reducible refine (iV.calls 2 a1 a2 a3 false _ A5.out).mono ?_);rintro e w' ⟨rfl,⟨nd,rfl⟩⟩;(try exact ⟨rfl,_,zN⟩)));try go_wp2_with (first|(go_at_call 151;(with_reducible refine (iV.calls 2 a1 a2 a3 false _ A5.out).mono ?_);rintro e w' ⟨rfl,⟨nd,rfl⟩⟩;(try exact ⟨rfl,_,zN⟩))))
  go_ret2
  exact ⟨zS,zB⟩
def jB.f (k:Nat) (a0 a1 a2 a3:Int):Option (Int × Int):=(iV.f a0 a1 a2 a3).bind fun aoa=>(if aoa=true then ((cO.f k (wrap64 (a3*a1)) a2).bind fun ahg=>((gG.f k (wrap64 ((wrap64 (a3+1))*a1)) a2).bind fun t124=>(if a0=0 then (some (ahg,wrap64 (t124 - ahg))) else (none)))) else (some (0,0)))
theorem jB.mono:∀ a0 a1 a2 a3 k,LeO (jB.f k a0 a1 a2 a3) (jB.f (k+1) a0 a1 a2 a3):=by
 intro a0 a1 a2 a3 k
 unfold jB.f
 repeat' (with_reducible first|exact cO.mono _ _ _|exact gG.mono _ _ _|exact zM|refine LeO.ite ?_ ?_|refine LeO.bind ?_ (fun _ => ?_))
set_option maxHeartbeats 8000000 in
set_option maxRecDepth 100000 in
theorem jB.calls (k:Nat) (a0 a1 a2 a3 r1 r2:Int) (w:World) (hG:GL w) (h:jB.f k a0 a1 a2 a3=some (r1,r2)) :
  Calls Tryz.prog 128 #[.int .i64 a0,.int .i64 a1,.int .i64 a2,.int .i64 a3] w fun e w'=>e = .returned (.tuple #[.int .i64 r1,.int .i64 r2])∧Below w.heap.size w w':=by
 have HB:=aj.mk (Below.refl w.heap.size w)
 have H:=h
 clear h
 unfold jB.f at H
 obtain ⟨⟨aaw,aax,aay,aaz,aaA,aaB⟩,⟨aaC,aaD,aaE,aaF,aaG,aaH,aaI⟩⟩:=hG
 replace H:=zO H
 obtain ⟨aoa,A5,H⟩:=H
 try dsimp only at H
 by_cases c6:aoa=true
 ·subst c6
  rw [if_pos rfl] at H;try dsimp only at H
  replace H:=zO H
  obtain ⟨ahg,A7,H⟩:=H
  try dsimp only at H
  replace H:=zO H
  obtain ⟨t124,A8,H⟩:=H
  try dsimp only at H
  by_cases c9:a0=0
  ·rw [if_pos c9] at H
   have qJ:(a0 == 0)=true:=beq_iff_eq.mpr c9
   have afl:(a0 != 0)=false:=bne_eq_false_iff_eq.mpr c9
   clear c9
   simp only [Option.some.injEq,Prod.mk.injEq] at H
   obtain ⟨rfl,rfl⟩:=H
   go_enter Tryz.func128,Tryz.ntmps128
   go_wp2_with (first|(go_at_call 151;(with_reducible refine (iV.calls a0 a1 a2 a3 true _ A5.out).mono ?_);rintro e w' ⟨rfl,⟨nd,rfl⟩⟩;(try exact ⟨rfl,_,zN⟩))|(go_at_call 133;(with_reducible refine (cO.calls k (wrap64 (a3*a1)) a2 ahg _ A7.out).mono ?_);rintro e w' ⟨rfl,⟨nd,rfl⟩⟩;(try exact ⟨rfl,_,zN⟩))|(go_at_call 152;(with_reducible refine (gG.calls k (wrap64 ((wrap64 (a3+1))*a1)) a2 t124 _ A8.out).mono ?_);rintro e w' ⟨rfl,⟨nd,rfl⟩⟩;(try exact ⟨rfl,_,zN⟩)))
   repeat (go_quiet (first|(go_at_call 151;(with_reducible refine (iV.calls a0 a1 a2 a3 true _ A5.out).mono ?_);rintro e w' ⟨rfl,⟨nd,rfl⟩⟩;(try exact ⟨rfl,_,zN⟩))|(go_at_call 133;(with_reducible refine (cO.calls k (wrap64 (a3*a1)) a2 ahg _ A7.out).mono ?_);rintro e w' ⟨rfl,⟨nd,rfl⟩⟩;(try exact ⟨rfl,_,zN⟩))|(go_at_call 152;(with_reducible refine (gG.calls k (wrap64 ((wrap64 (a3+1))*a1)) a2 t124 _ A8.out).mono ?_);rintro e w' ⟨rfl,⟨nd,rfl⟩⟩;(try exact ⟨rfl,_,zN⟩)));try go_wp2_with (first|(go_at_call 151;(with_reducible refine (iV.calls a0 a1 a2 a3 true _ A5.out).mono ?_);rintro e w' ⟨rfl,⟨nd,rfl⟩⟩;(try exact ⟨rfl,_,zN⟩))|(go_at_call 133;(with_reducible refine (cO.calls k (wrap64 (a3*a1)) a2 ahg _ A7.out).mono ?_);rintro e w' ⟨rfl,⟨nd,rfl⟩⟩;(try exact ⟨rfl,_,zN⟩))|(go_at_call 152;(with_reducible refine (gG.calls k (wrap64 ((wrap64 (a3+1))*a1)) a2 t124 _ A8.out).mono ?_);rintro e w' ⟨rfl,⟨nd,rfl⟩⟩;(try exact ⟨rfl,_,zN⟩))))
   go_ret2
   exact ⟨zS,zB⟩
  ·rw [if_neg c9] at H
   exact absurd H (by simp)
 ·replace c6:=Bool.eq_false_iff.mpr c6
  subst c6
  rw [if_neg (show ¬ (false=true) by decide)] at H;try dsimp only at H
  simp only [Option.some.injEq,Prod.mk.injEq] at H
  obtain ⟨rfl,rfl⟩:=H
  go_enter Tryz.func128,Tryz.ntmps128
  go_wp2_with (first|(go_at_call 151;(with_reducible refine (iV.calls a0 a1 a2 a3 false _ A5.out).mono ?_);rintro e w' ⟨rfl,⟨nd,rfl⟩⟩;(try exact ⟨rfl,_,zN⟩)))
  repeat (go_quiet (first|(go_at_call 151;(with_reducible refine (iV.calls a0 a1 a2 a3 false _ A5.out).mono ?_);rintro e w' ⟨rfl,⟨nd,rfl⟩⟩;(try exact ⟨rfl,_,zN⟩)));try go_wp2_with (first|(go_at_call 151;(with_reducible refine (iV.calls a0 a1 a2 a3 false _ A5.out).mono ?_);rintro e w' ⟨rfl,⟨nd,rfl⟩⟩;(try exact ⟨rfl,_,zN⟩))))
  go_ret2
  exact ⟨zS,zB⟩
def kK.f (k:Nat) (a0 a1 a2 a3:Int):Option (Int × Int):=if a0=1 then jy.f k a1 a2 a3 else if a0=2 then jA.f k a1 a2 a3 else jB.f k a0 a1 a2 a3
theorem kK.mono:∀ a0 a1 a2 a3 k,LeO (kK.f k a0 a1 a2 a3) (kK.f (k+1) a0 a1 a2 a3):=by
 intro a0 a1 a2 a3 k
 unfold kK.f
 exact LeO.ite (jy.mono _ _ _ _) (LeO.ite (jA.mono _ _ _ _) (jB.mono _ _ _ _ _))
theorem kK.calls (k:Nat) (a0 a1 a2 a3 r1 r2:Int) (w:World) (hG:GL w) (h:kK.f k a0 a1 a2 a3=some (r1,r2)) :
  Calls Tryz.prog 128 #[.int .i64 a0,.int .i64 a1,.int .i64 a2,.int .i64 a3] w fun e w'=>e = .returned (.tuple #[.int .i64 r1,.int .i64 r2])∧Below w.heap.size w w':=by
 unfold kK.f at h
 by_cases c1:a0=1
 ·subst c1;exact jy.calls k a1 a2 a3 r1 r2 w hG (by rw [if_pos rfl] at h;exact h)
 ·rw [if_neg c1] at h
  by_cases c2:a0=2
  ·subst c2;exact jA.calls k a1 a2 a3 r1 r2 w hG (by rw [if_pos rfl] at h;exact h)
  ·rw [if_neg c2] at h
   exact jB.calls k a0 a1 a2 a3 r1 r2 w hG h
def mW.f (a0:Int):Option (Int):=if a0 < 0 then (some (IntKind.u64.wrap (-(IntKind.u64.wrap (a0))))) else (some (IntKind.u64.wrap (a0)))
set_option maxHeartbeats 8000000 in
set_option maxRecDepth 100000 in
theorem mW.calls (a0 r:Int) (w:World) (h:mW.f a0=some r) :
  Calls Tryz.prog 155 #[.int .i64 a0] w fun e w'=>e = .returned (.int .u64 r)∧dw w w':=by
 have H:=h
 clear h
 unfold mW.f at H
 by_cases c2:a0 < 0
 ·rw [if_pos c2] at H
  have lQ:=decide_eq_true c2
  clear c2
  obtain rfl:=Option.some.inj H
  go_enter Tryz.func155,Tryz.ntmps155
  go_wp2
  go_ret
  exact ⟨zT,zW⟩
 ·rw [if_neg c2] at H
  have lQ:=decide_eq_false c2
  clear c2
  obtain rfl:=Option.some.inj H
  go_enter Tryz.func155,Tryz.ntmps155
  go_wp2
  go_ret
  exact ⟨zT,zW⟩
def bits_Mul64.f (a0 a1:Int):Option (Int × Int):=if 0≤a0∧a0 < 18446744073709551616∧0≤a1∧a1 < 18446744073709551616 then some (a0*a1 / 18446744073709551616,a0*a1 % 18446744073709551616) else none
theorem bits_Mul64.calls (a0 a1 r1 r2:Int) (w:World) (h:bits_Mul64.f a0 a1=some (r1,r2)) :
  Calls Tryz.prog 178 #[.int .u64 a0,.int .u64 a1] w fun e w'=>e = .returned (.tuple #[.int .u64 r1,.int .u64 r2])∧dw w w':=by
 unfold bits_Mul64.f at h
 by_cases c:0≤a0∧a0 < 18446744073709551616∧0≤a1∧a1 < 18446744073709551616
 ·rw [if_pos c] at h
  obtain ⟨h0,h1,h2,h3⟩:=c
  obtain ⟨rfl,rfl⟩:=Prod.mk.inj (Option.some.inj h)
  obtain ⟨x,rfl⟩:=Int.eq_ofNat_of_zero_le h0
  obtain ⟨y,rfl⟩:=Int.eq_ofNat_of_zero_le h2
  exact (Tryz.bits_Mul64 x y (by omega) (by omega) w).mono fun e w' ⟨he,hw⟩=>⟨by rw [he];congr 4,by rw [hw];exact dw.refl _⟩
 ·rw [if_neg c] at h;exact absurd h (by simp)
def jW.f (a0 a1:Int):Option (Int × Int × Bool):=(mW.f a0).bind fun ajr=>((mW.f a1).bind fun ajs=>((bits_Mul64.f ajr ajs).bind fun aqb=>(some (aqb.1,aqb.2,((decide (a0 < 0)) != (decide (a1 < 0)))))))
set_option maxHeartbeats 8000000 in
set_option maxRecDepth 100000 in
theorem jW.calls (a0 a1 r1 r2:Int) (r3:Bool) (w:World) (h:jW.f a0 a1=some (r1,r2,r3)) :
  Calls Tryz.prog 154 #[.int .i64 a0,.int .i64 a1] w fun e w'=>e = .returned (.tuple #[.int .u64 r1,.int .u64 r2,.bool r3])∧dw w w':=by
 have H:=h
 clear h
 unfold jW.f at H
 replace H:=zO H
 obtain ⟨ajr,A3,H⟩:=H
 try dsimp only at H
 replace H:=zO H
 obtain ⟨ajs,A4,H⟩:=H
 try dsimp only at H
 replace H:=zO H
 obtain ⟨⟨t127,avl⟩,A5,H⟩:=H
 try dsimp only at H
 simp only [Option.some.injEq,Prod.mk.injEq] at H
 obtain ⟨rfl,rfl,rfl⟩:=H
 go_enter Tryz.func154,Tryz.ntmps154
 go_wp2_with (first|((with_reducible refine aA (f:=155) rfl ?_);refine aH (some 9) rfl rfl Tryz.func155 (by kernel_rfl) rfl #[.int .i64 a0] rfl zL ?_;(with_reducible refine (mW.calls a0 ajr _ A3.out).mono ?_);rintro e w' ⟨rfl,⟨nd,rfl⟩⟩;refine ⟨_,rfl,?_⟩)|((with_reducible refine aA (f:=155) rfl ?_);refine aH (some 11) rfl rfl Tryz.func155 (by kernel_rfl) rfl #[.int .i64 a1] rfl zL ?_;(with_reducible refine (mW.calls a1 ajs _ A4.out).mono ?_);rintro e w' ⟨rfl,⟨nd,rfl⟩⟩;refine ⟨_,rfl,?_⟩)|((with_reducible refine aA (f:=178) rfl ?_);refine aH (some 12) rfl rfl Tryz.func178 (by kernel_rfl) rfl #[.int .u64 ajr,.int .u64 ajs] rfl zL ?_;(with_reducible refine (bits_Mul64.calls ajr ajs t127 avl _ A5.out).mono ?_);rintro e w' ⟨rfl,⟨nd,rfl⟩⟩;refine ⟨_,rfl,?_⟩))
 go_ret3
 exact ⟨zT,zW⟩
end Go.Proofs.YtpondkggmcmpfaaGreatDoor.QA
namespace Go.Proofs.YtpondkggmcmpfaaGreatDoor.QA
open Go.Proofs.YtpondkggmcmpfaaGreatDoor.T
open Go.RowKit Go.Proofs.YtpondkggmcmpfaaGreatDoorW.PrintWords Go.Proofs.YtpondkggmcmpfaaGreatDoorW.PrintLast Go.Proofs.YtpondkggmcmpfaaGreatDoorW.PrintMore
attribute [local go_sem] dV dQ dR eP eX
set_option linter.unusedVariables false
set_option linter.unusedSimpArgs false
def kG.j0:Nat→Int→Int→Bool→Option (Int)
 | 0,_,_,_=>none
 | k+1,x0,x1,x11=>if x11=true then (some 0) else (if x1=0 then (none) else (if (Int.tmod x0 x1)=0 then (some (Int.tmod x0 x1)) else (if ((decide ((Int.tmod x0 x1) < 0)) != (decide (x1 < 0)))=true then (some (wrap64 ((Int.tmod x0 x1)+x1))) else (some (Int.tmod x0 x1)))))
def kG.f (k:Nat) (a0 a1:Int):Option (Int):=if a1=0 then (kG.j0 k a0 a1 true) else (kG.j0 k a0 a1 (a1 == (-1)))
set_option maxHeartbeats 8000000 in
set_option maxRecDepth 100000 in
theorem kG.calls (k:Nat) (a0 a1 r:Int) (w:World) (h:kG.f k a0 a1=some r) :
  Calls Tryz.prog 103 #[.int .i64 a0,.int .i64 a1] w fun e w'=>e = .returned (.int .i64 r)∧dw w w':=by
 have H:=h
 clear h
 unfold kG.f at H
 have HC3:=aj.mk H
 clear H
 go_enter Tryz.func103,Tryz.ntmps103
 go_upto_region 1 with (fail)
 go_cut [11] (fun v11 wc=>∃ (kq:Nat) (aiN:Bool),v11 = .bool aiN∧aj (kG.j0 kq a0 a1 aiN=some r)∧aj (kq≤k)∧dw w wc)
 case first =>
  have H:=HC3.out
  clear HC3
  by_cases c4:a1=0
  ·rw [if_pos c4] at H
   have fU:(a1 == 0)=true:=beq_iff_eq.mpr c4
   have acK:(a1 != 0)=false:=bne_eq_false_iff_eq.mpr c4
   clear c4
   (first|rw [fU]|(simp only [bZ,dA];rw [fU])|skip)
   have H':=aj.mk H
   clear H
   go_wp2
   go_meet
   case rel=>exact ⟨_,(true),zT,H',⟨by first|omega|exact Nat.le_refl _⟩,zW⟩
  ·rw [if_neg c4] at H
   have fU:(a1 == 0)=false:=beq_eq_false_iff_ne.mpr c4
   have acK:(a1 != 0)=true:=bne_iff_ne.mpr c4
   (first|rw [fU]|(simp only [bZ,dA];rw [fU])|skip)
   have H':=aj.mk H
   clear H
   go_wp2
   go_meet
   case rel=>exact ⟨_,((a1 == (-1))),zT,H',⟨by first|omega|exact Nat.le_refl _⟩,zW⟩
 case rest =>
  clear HC3
  obtain ⟨kq,aiN,rfl,HA,HJ2,⟨mc2,rfl⟩⟩:=hcut
  cases kq with
  | zero=>exact absurd HA.out (by simp [kG.j0])
  | succ kj2 =>
   have H:=HA.out
   clear HA
   simp only [kG.j0] at H
   by_cases c5:aiN=true
   ·subst c5
    rw [if_pos rfl] at H;try dsimp only at H
    obtain rfl:=Option.some.inj H
    go_wp2
    go_ret
    exact ⟨zT,zW⟩
   ·replace c5:=Bool.eq_false_iff.mpr c5
    subst c5
    rw [if_neg (show ¬ (false=true) by decide)] at H;try dsimp only at H
    by_cases c6:a1=0
    ·rw [if_pos c6] at H
     exact absurd H (by simp)
    ·rw [if_neg c6] at H
     have iw:(a1 == 0)=false:=beq_eq_false_iff_ne.mpr c6
     have um:(a1 != 0)=true:=bne_iff_ne.mpr c6
     by_cases c7:(Int.tmod a0 a1)=0
     ·rw [if_pos c7] at H
      have jr:((Int.tmod a0 a1) == 0)=true:=beq_iff_eq.mpr c7
      have abd:((Int.tmod a0 a1) != 0)=false:=bne_eq_false_iff_eq.mpr c7
      clear c7
      obtain rfl:=Option.some.inj H
      go_wp2
      go_ret
      exact ⟨zT,zW⟩
     ·rw [if_neg c7] at H
      have jr:((Int.tmod a0 a1) == 0)=false:=beq_eq_false_iff_ne.mpr c7
      have abd:((Int.tmod a0 a1) != 0)=true:=bne_iff_ne.mpr c7
      by_cases c8:((decide ((Int.tmod a0 a1) < 0)) != (decide (a1 < 0)))=true
      ·rw [if_pos c8] at H
       have vT:((decide ((Int.tmod a0 a1) < 0)) != (decide (a1 < 0)))=true:=c8
       (try (have acH:decide ((decide ((Int.tmod a0 a1) < 0))=(decide (a1 < 0)))=false:=by simpa using c8))
       (try (have avm:((decide ((Int.tmod a0 a1) < 0)) == (decide (a1 < 0)))=false:=by simpa using c8))
       (try (have aAx:¬ ((decide ((Int.tmod a0 a1) < 0))=(decide (a1 < 0))):=by simpa using c8))
       clear c8
       obtain rfl:=Option.some.inj H
       go_wp2
       go_ret
       exact ⟨zT,zW⟩
      ·rw [if_neg c8] at H
       have vT:((decide ((Int.tmod a0 a1) < 0)) != (decide (a1 < 0)))=false:=by simpa using c8
       (try (have acH:decide ((decide ((Int.tmod a0 a1) < 0))=(decide (a1 < 0)))=true:=by simpa using c8))
       (try (have avm:((decide ((Int.tmod a0 a1) < 0)) == (decide (a1 < 0)))=true:=by simpa using c8))
       clear c8
       obtain rfl:=Option.some.inj H
       go_wp2
       go_ret
       exact ⟨zT,zW⟩
def kH.j0:Nat→Int→Int→Int→Bool→Option (Int)
 | 0,_,_,_,_=>none
 | k+1,x0,x1,x5,x9=>if x9=true then (some 9223372036854775807) else (if x1 < 0 then (if x5 > x0 then (some (-9223372036854775808)) else (some x5)) else (some x5))
def kH.f (k:Nat) (a0 a1:Int):Option (Int):=if a1 > 0 then (kH.j0 k a0 a1 (wrap64 (a0+a1)) (decide ((wrap64 (a0+a1)) < a0))) else (kH.j0 k a0 a1 (wrap64 (a0+a1)) false)
set_option maxHeartbeats 8000000 in
set_option maxRecDepth 100000 in
theorem kH.calls (k:Nat) (a0 a1 r:Int) (w:World) (h:kH.f k a0 a1=some r) :
  Calls Tryz.prog 162 #[.int .i64 a0,.int .i64 a1] w fun e w'=>e = .returned (.int .i64 r)∧dw w w':=by
 have H:=h
 clear h
 unfold kH.f at H
 have HC3:=aj.mk H
 clear H
 go_enter Tryz.func162,Tryz.ntmps162
 go_upto_region 2 with (fail)
 go_cut [9] (fun v9 wc=>∃ (kq:Nat) (aaM:Bool),v9 = .bool aaM∧aj (kH.j0 kq a0 a1 (wrap64 (a0+a1)) aaM=some r)∧aj (kq≤k)∧dw w wc)
 case first =>
  have H:=HC3.out
  clear HC3
  by_cases c4:a1 > 0
  ·rw [if_pos c4] at H
   have fU:=decide_eq_true c4
   clear c4
   (first|rw [fU]|(simp only [bZ,dA];rw [fU])|skip)
   have H':=aj.mk H
   clear H
   go_wp2
   go_meet
   case rel=>exact ⟨_,(decide ((wrap64 (a0+a1)) < a0)),zT,H',⟨by first|omega|exact Nat.le_refl _⟩,zW⟩
  ·rw [if_neg c4] at H
   have fU:=decide_eq_false c4
   clear c4
   (first|rw [fU]|(simp only [bZ,dA];rw [fU])|skip)
   have H':=aj.mk H
   clear H
   go_wp2
   go_meet
   case rel=>exact ⟨_,(false),zT,H',⟨by first|omega|exact Nat.le_refl _⟩,zW⟩
 case rest =>
  clear HC3
  obtain ⟨kq,aaM,rfl,HA,HJ2,⟨mc2,rfl⟩⟩:=hcut
  cases kq with
  | zero=>exact absurd HA.out (by simp [kH.j0])
  | succ kj2 =>
   have H:=HA.out
   clear HA
   simp only [kH.j0] at H
   by_cases c5:aaM=true
   ·subst c5
    rw [if_pos rfl] at H;try dsimp only at H
    obtain rfl:=Option.some.inj H
    go_wp2
    go_ret
    exact ⟨zT,zW⟩
   ·replace c5:=Bool.eq_false_iff.mpr c5
    subst c5
    rw [if_neg (show ¬ (false=true) by decide)] at H;try dsimp only at H
    by_cases c6:a1 < 0
    ·rw [if_pos c6] at H
     have iw:=decide_eq_true c6
     clear c6
     by_cases c7:(wrap64 (a0+a1)) > a0
     ·rw [if_pos c7] at H
      have jr:=decide_eq_true c7
      clear c7
      obtain rfl:=Option.some.inj H
      go_wp2
      go_ret
      exact ⟨zT,zW⟩
     ·rw [if_neg c7] at H
      have jr:=decide_eq_false c7
      clear c7
      obtain rfl:=Option.some.inj H
      go_wp2
      go_ret
      exact ⟨zT,zW⟩
    ·rw [if_neg c6] at H
     have iw:=decide_eq_false c6
     clear c6
     obtain rfl:=Option.some.inj H
     go_wp2
     go_ret
     exact ⟨zT,zW⟩
def mM.l0:Nat→Int→List Int→Int→Int→Option (Int)
 | 0,_,_,_,_=>none
 | k+1,x3,x6,x7,x8=>if x8 < x7 then (if 0≤x8 then (if x8 < (x6.length:Int) then ((kH.f k x3 (rd x6 x8)).bind fun alN=>(mM.l0 k alN x6 x7 (wrap64 (x8+1)))) else (none)) else (none)) else (some x3)
def mM.f (k:Nat) (l0:List Int):Option (Int):=mM.l0 k 0 l0 (l0.length:Int) 0
set_option maxHeartbeats 8000000 in
set_option maxRecDepth 100000 in
theorem mM.calls (k:Nat) (A0:Option Addr) (c0:Nat) (l0:List Int) (r:Int) (w:World) (hr0:Kd.C (Kd.int .i64) w A0 l0.length l0) (hc0:l0.length≤c0) (h:mM.f k l0=some r) :
  Calls Tryz.prog 132 #[.slice A0 l0.length c0] w fun e w'=>e = .returned (.int .i64 r)∧dw w w':=by
 have HR0:=aj.mk hr0
 have HC0:=aj.mk hc0
 clear hr0 hc0
 have H:=h
 clear h
 unfold mM.f at H
 have H':=aj.mk H
 clear H
 go_enter Tryz.func132,Tryz.ntmps132
 go_wp2
 go_loopg [3,8] k (fun kq v3 v8 w'=>∃ (qA:Int) (gY:Int),v3 = .int .i64 qA∧v8 = .int .i64 gY∧aj (mM.l0 kq qA l0 (l0.length:Int) gY=some r)∧aj (kq≤k)∧dw w w')
 case atStart=>exact ⟨(0),(0),zT,zT,H',⟨Nat.le_refl _⟩,zW⟩
 case round =>
  clear H'
  obtain ⟨qA,gY,rfl,rfl,HA,HK1,⟨m1,rfl⟩⟩:=hrel
  cases gk with
  | zero=>exact absurd HA.out (by simp [mM.l0])
  | succ k1 =>
   have H:=HA.out
   clear HA
   simp only [mM.l0] at H
   by_cases c2:gY < (l0.length:Int)
   ·rw [if_pos c2] at H
    have lQ:=decide_eq_true c2
    clear c2
    by_cases c3:0≤gY
    ·rw [if_pos c3] at H
     have fO:=decide_eq_true c3
     clear c3
     by_cases c4:gY < (l0.length:Int)
     ·rw [if_pos c4] at H
      have fU:=decide_eq_true c4
      clear c4
      replace H:=zO H
      obtain ⟨alN,A5,H⟩:=H
      try dsimp only at H
      have H':=aj.mk H
      clear H
      have aob:0≤(gY:Int):=of_decide_eq_true (by first|(with_reducible assumption)|assumption)
      have aoc:gY < (l0.length:Int):=of_decide_eq_true (by first|(with_reducible assumption)|assumption)
      obtain ⟨ax4,avn,awL⟩:=Kd.jD HR0.out gY aob aoc
      cases avn
      replace aob:=eq_true aob
      replace aoc:=eq_true aoc
      go_wp2_with (first|((with_reducible refine aA (f:=162) rfl ?_);refine aH (some 14) rfl rfl Tryz.func162 (by kernel_rfl) rfl #[.int .i64 qA,.int .i64 (rd l0 gY)] rfl zL ?_;(with_reducible refine (kH.calls k1 qA (rd l0 gY) alN _ A5.out).mono ?_);rintro e w' ⟨rfl,⟨nd,rfl⟩⟩;refine ⟨_,rfl,?_⟩))
      go_roundg k1
      case measure=>have:=HK1.out;omega
      case rel=>exact ⟨(alN),(wrap64 (gY+1)),zT,zT,H',⟨by have:=HK1.out;omega⟩,zW⟩
     ·rw [if_neg c4] at H
      exact absurd H (by simp)
    ·rw [if_neg c3] at H
     exact absurd H (by simp)
   ·rw [if_neg c2] at H
    have lQ:=decide_eq_false c2
    clear c2
    obtain rfl:=Option.some.inj H
    go_wp2
    go_ret
    exact ⟨zT,zW⟩
end Go.Proofs.YtpondkggmcmpfaaGreatDoor.QA
namespace Go.Proofs.YtpondkggmcmpfaaGreatDoor.QA
open Go.Proofs.YtpondkggmcmpfaaGreatDoor.T
open Go.RowKit Go.Proofs.YtpondkggmcmpfaaGreatDoorW.PrintWords Go.Proofs.YtpondkggmcmpfaaGreatDoorW.PrintLast Go.Proofs.YtpondkggmcmpfaaGreatDoorW.PrintMore
attribute [local go_sem] dV dQ dR eP eX
set_option linter.unusedVariables false
set_option linter.unusedSimpArgs false
def vU.f (k:Nat) (a0 a1:Int):Option (Int):=(fK.f a0).bind fun t173=>((fK.f a1).bind fun adC=>((bits_Mul64.f t173 adC).bind fun aqc=>(if aqc.1=0 then ((dH.f k aqc.2 ((decide (a0 < 0)) != (decide (a1 < 0)))).bind fun aod=>(some aod)) else ((dH.f k 18446744073709551615 ((decide (a0 < 0)) != (decide (a1 < 0)))).bind fun aoe=>(some aoe)))))
set_option maxHeartbeats 8000000 in
set_option maxRecDepth 100000 in
theorem vU.calls (k:Nat) (a0 a1 r:Int) (w:World) (h:vU.f k a0 a1=some r) :
  Calls Tryz.prog 181 #[.int .i64 a0,.int .i64 a1] w fun e w'=>e = .returned (.int .i64 r)∧dw w w':=by
 have H:=h
 clear h
 unfold vU.f at H
 replace H:=zO H
 obtain ⟨t173,A3,H⟩:=H
 try dsimp only at H
 replace H:=zO H
 obtain ⟨adC,A4,H⟩:=H
 try dsimp only at H
 replace H:=zO H
 obtain ⟨⟨t175,alO⟩,A5,H⟩:=H
 try dsimp only at H
 by_cases c6:t175=0
 ·rw [if_pos c6] at H
  have iw:(t175 == 0)=true:=beq_iff_eq.mpr c6
  have um:(t175 != 0)=false:=bne_eq_false_iff_eq.mpr c6
  clear c6
  replace H:=zO H
  obtain ⟨aod,A7,H⟩:=H
  try dsimp only at H
  obtain rfl:=Option.some.inj H
  go_enter Tryz.func181,Tryz.ntmps181
  go_wp2_with (first|((with_reducible refine aA (f:=163) rfl ?_);refine aH (some 9) rfl rfl Tryz.func163 (by kernel_rfl) rfl #[.int .i64 a0] rfl zL ?_;(with_reducible refine (fK.calls a0 t173 _ A3.out).mono ?_);rintro e w' ⟨rfl,⟨nd,rfl⟩⟩;refine ⟨_,rfl,?_⟩)|((with_reducible refine aA (f:=163) rfl ?_);refine aH (some 11) rfl rfl Tryz.func163 (by kernel_rfl) rfl #[.int .i64 a1] rfl zL ?_;(with_reducible refine (fK.calls a1 adC _ A4.out).mono ?_);rintro e w' ⟨rfl,⟨nd,rfl⟩⟩;refine ⟨_,rfl,?_⟩)|((with_reducible refine aA (f:=178) rfl ?_);refine aH (some 12) rfl rfl Tryz.func178 (by kernel_rfl) rfl #[.int .u64 t173,.int .u64 adC] rfl zL ?_;(with_reducible refine (bits_Mul64.calls t173 adC t175 alO _ A5.out).mono ?_);rintro e w' ⟨rfl,⟨nd,rfl⟩⟩;refine ⟨_,rfl,?_⟩)|((with_reducible refine aA (f:=164) rfl ?_);refine aH (some 23) rfl rfl Tryz.func164 (by kernel_rfl) rfl #[.int .u64 alO,.bool ((decide (a0 < 0)) != (decide (a1 < 0)))] rfl zL ?_;(with_reducible refine (dH.calls k alO ((decide (a0 < 0)) != (decide (a1 < 0))) aod _ A7.out).mono ?_);rintro e w' ⟨rfl,⟨nd,rfl⟩⟩;refine ⟨_,rfl,?_⟩))
  go_ret
  exact ⟨zT,zW⟩
 ·rw [if_neg c6] at H
  have iw:(t175 == 0)=false:=beq_eq_false_iff_ne.mpr c6
  have um:(t175 != 0)=true:=bne_iff_ne.mpr c6
  replace H:=zO H
  obtain ⟨aoe,A8,H⟩:=H
  try dsimp only at H
  obtain rfl:=Option.some.inj H
  go_enter Tryz.func181,Tryz.ntmps181
  go_wp2_with (first|((with_reducible refine aA (f:=163) rfl ?_);refine aH (some 9) rfl rfl Tryz.func163 (by kernel_rfl) rfl #[.int .i64 a0] rfl zL ?_;(with_reducible refine (fK.calls a0 t173 _ A3.out).mono ?_);rintro e w' ⟨rfl,⟨nd,rfl⟩⟩;refine ⟨_,rfl,?_⟩)|((with_reducible refine aA (f:=163) rfl ?_);refine aH (some 11) rfl rfl Tryz.func163 (by kernel_rfl) rfl #[.int .i64 a1] rfl zL ?_;(with_reducible refine (fK.calls a1 adC _ A4.out).mono ?_);rintro e w' ⟨rfl,⟨nd,rfl⟩⟩;refine ⟨_,rfl,?_⟩)|((with_reducible refine aA (f:=178) rfl ?_);refine aH (some 12) rfl rfl Tryz.func178 (by kernel_rfl) rfl #[.int .u64 t173,.int .u64 adC] rfl zL ?_;(with_reducible refine (bits_Mul64.calls t173 adC t175 alO _ A5.out).mono ?_);rintro e w' ⟨rfl,⟨nd,rfl⟩⟩;refine ⟨_,rfl,?_⟩)|((with_reducible refine aA (f:=164) rfl ?_);refine aH (some 23) rfl rfl Tryz.func164 (by kernel_rfl) rfl #[.int .u64 18446744073709551615,.bool ((decide (a0 < 0)) != (decide (a1 < 0)))] rfl zL ?_;(with_reducible refine (dH.calls k 18446744073709551615 ((decide (a0 < 0)) != (decide (a1 < 0))) aoe _ A8.out).mono ?_);rintro e w' ⟨rfl,⟨nd,rfl⟩⟩;refine ⟨_,rfl,?_⟩))
  go_ret
  exact ⟨zT,zW⟩
def tV.f (k:Nat) (a0:Int):Option (Int):=(vU.f k a0 (-1)).bind fun ahh=>(some (mx a0 ahh))
set_option maxHeartbeats 8000000 in
set_option maxRecDepth 100000 in
theorem tV.calls (k:Nat) (a0 r:Int) (w:World) (h:tV.f k a0=some r) :
  Calls Tryz.prog 161 #[.int .i64 a0] w fun e w'=>e = .returned (.int .i64 r)∧Below w.heap.size w w':=by
 have HB:=aj.mk (Below.refl w.heap.size w)
 have H:=h
 clear h
 unfold tV.f at H
 replace H:=zO H
 obtain ⟨ahh,A2,H⟩:=H
 try dsimp only at H
 obtain ⟨ji3,ajt⟩:∃ j_:Int,(mx a0 ahh)=j_:=⟨_,rfl⟩
 replace H:(some ji3)=some r:=by first|(rw [ajt] at H;exact H)|(simp only [ajt] at H ⊢;exact H)
 (try rw [ajt] at A2)
 have ax5:(if a0 < ahh then ahh else a0)=ji3:=ajt
 obtain rfl:=Option.some.inj H
 go_enter Tryz.func161,Tryz.ntmps161
 go_wp2_with (first|((with_reducible refine aA (f:=181) rfl ?_);refine aH (some 5) rfl rfl Tryz.func181 (by kernel_rfl) rfl #[.int .i64 a0,.int .i64 (-1)] rfl zL ?_;(with_reducible refine (vU.calls k a0 (-1) ahh _ A2.out).mono ?_);rintro e w' ⟨rfl,⟨nd,rfl⟩⟩;refine ⟨_,rfl,?_⟩))
 go_ret
 exact ⟨by first|rfl|(simp [bG,bH] <;> rfl)|(simp only [← ajt];first|rfl|(simp [bG,bH] <;> rfl))|(simp [*,bG,bH] <;> rfl),zB⟩
end Go.Proofs.YtpondkggmcmpfaaGreatDoor.QA
