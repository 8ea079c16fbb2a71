/- Joined by wip/tools/bundle.py out of: WTab WFour WFootNe WAt WEqStruct WRepsOne WInv WInvWords WGuard QAx0 QAx1 QAx2 TCore QAx3 QAx4 QAx11 QAx12. -/
import Derived.Test.YtpondkggmcmpfaaGreatDoorBPlanCovers0
import Derived.Laws.StructEq
import Derived.Test.YtpondkggmcmpfaaGreatDoorProg
import Derived.Below
import Derived.Deep.Draws
import Derived.Deep.AppendLies
import Derived.Maps.AppendAt
import Derived.OwnWalk
import Derived.Laws.BytesArg
import Derived.Laws.MakeOwn
import Derived.Laws.OwnMore
import Derived.Deep.OwnRows
import Derived.Tactics
import Derived.Lib.ConvBytes
import Derived.Laws.Slices
import Derived.WalkKit
import Derived.KernelRfl
import Derived.RowKit3
import Derived.Deep.LoopGhost
import Derived.Deep.QuietTactic
import Derived.BigQuiet
import Derived.WideLaws
import Derived.Deep.DeepCutAuto
import Derived.Deep.CutBlock
import Derived.Deep.RegionHeld3
import Derived.Laws.Rows
import Derived.Lib.AppendStr
import Derived.ArgAppend
import Derived.Laws.IdiomCopy
import Derived.OrdersHeld
import Derived.Laws.BitsLemmas
import Derived.RowKit
namespace Go.Proofs.YtpondkggmcmpfaaGreatDoorW.PrintLast
open Go.Proofs.YtpondkggmcmpfaaGreatDoorW.PrintWords (aj)
def abe (md:Region.Mode) (o:Oper):List Nat:=(o.after.toList.filter (fun e=>Region.binds md e)).map (fun e=>e.on)
def ahm (md:Region.Mode) (ops:Array Oper) (i:Nat) (oi:Oper):List Nat:=(List.range ops.size).filter fun j => !(j == i) && match ops[j]? with
  | some oj => !(oj.after.any (fun e=>Region.binds md e && e.on == i) || oi.apart ops oj)
  | none=>false
def rZ (md:Region.Mode) (ops:Array Oper):Bool × List (List Nat × List Nat):=(Region.noSelect ops,(List.range ops.size).map fun i=>match ops[i]? with
  | some o=>(abe md o,ahm md ops i o)
  | none=>([],[]))
def yc (T:List (List Nat × List Nat)) (l:List Bool) (i:Nat):Bool := !l.getD i true && match T[i]? with
  | some r=>r.1.all (fun j=>l.getD j false)
  | none=>false
def adJ (T:List (List Nat × List Nat)) (l:List Bool):List Nat:=(List.range T.length).filter (yc T l)
def agi (T:List (List Nat × List Nat)) (l:List Bool) (i:Nat):Bool:=match T[i]? with
  | some r=>r.2.all (fun j=>l.getD j true)
  | none=>false
def aeP (T:List (List Nat × List Nat)) (l:List Bool):Bool:=(List.range T.length).all fun j => !l.getD j false || match T[j]? with
  | some r=>r.1.all (fun k=>l.getD k false)
  | none=>true
def acz (T:List (List Nat × List Nat)) (i:Nat):Nat→Nat→Bool
  | 0,_=>false
  | fuel+1,d=>match T[d]? with
    | some r=>r.1.any fun j=>j == i || acz T i fuel j
    | none=>false
def lastT (T:List (List Nat × List Nat)) (l:List Bool) (ds:List Nat) (i:Nat):Bool:=ds.all fun d=>l.getD d true || acz T i T.length d
section
variable {md:Region.Mode} {ops:Array Oper} {T:Bool × List (List Nat × List Nat)} {l l' li lj lk:Array Bool} {ds:List Nat} {i j k:Nat}
theorem gd (l:Array Bool) (j:Nat) (b:Bool):l.getD j b=l.toList.getD j b:=by simp [Array.getD_eq_getD_getElem?,List.getD_eq_getElem?_getD]
theorem aic (o:Oper) (p:Nat→Bool):o.after.all (fun e => !Region.binds md e || p e.on)=(abe md o).all p:=by
  unfold abe
  rw [← Array.all_toList]
  induction o.after.toList with
  | nil=>rfl
  | cons e r ih =>
    rw [List.all_cons,ih,List.filter_cons]
    cases h:Region.binds md e <;> simp
theorem anF (o:Oper) (p:Nat→Bool):o.after.any (fun e=>Region.binds md e && p e.on)=(abe md o).any p:=by
  unfold abe
  rw [← Array.any_toList]
  induction o.after.toList with
  | nil=>rfl
  | cons e r ih =>
    rw [List.any_cons,ih,List.filter_cons]
    cases h:Region.binds md e <;> simp
theorem aah:(rZ md ops).2.length=ops.size:=by simp [rZ]
theorem abL {o:Oper} (h:ops[i]? = some o):(rZ md ops).2[i]? = some (abe md o,ahm md ops i o):=by
  have hi:=(Array.getElem?_eq_some_iff.1 h).1
  unfold rZ
  rw [List.getElem?_map,List.getElem?_range hi,Option.map_some,h]
theorem abM (h:ops[i]? = none):(rZ md ops).2[i]? = none:=by
  have hi:ops.size≤i:=Array.getElem?_eq_none_iff.1 h
  exact List.getElem?_eq_none (by rw [aah];exact hi)
theorem alP:yc (rZ md ops).2 l.toList i=(!l.getD i true && ((ops[i]?).map (·.after.all fun e => !Region.binds md e || l.getD e.on false)).getD false):=by
  unfold yc
  rw [gd]
  cases h:ops[i]? with
  | none=>rw [abM h];rfl
  | some o =>
    rw [abL h]
    simp only [Option.map_some,Option.getD_some]
    rw [← aic]
    simp only [gd]
theorem ready_eq:Region.ready md ops l=adJ (rZ md ops).2 l.toList:=by
  unfold Region.ready adJ
  rw [aah]
  refine List.filter_congr (fun i _ => ?_)
  rw [alP]
theorem free_eq:Region.free md ops l i=agi (rZ md ops).2 l.toList i:=by
  unfold Region.free agi
  cases h:ops[i]? with
  | none=>rw [abM h]
  | some oi =>
    rw [abL h]
    simp only [ahm]
    rw [List.all_filter]
    congr 1
    funext j
    rw [gd]
    cases hj:ops[j]? with
    | none=>cases (j == i) <;> cases (l.toList.getD j true) <;> simp
    | some oj =>
      cases (j == i) <;> cases (l.toList.getD j true) <;> cases (oj.after.any (fun e=>Region.binds md e && e.on == i) || oi.apart ops oj) <;> simp_all
theorem anG:Region.acv md ops l=aeP (rZ md ops).2 l.toList:=by
  unfold Region.acv aeP
  rw [aah]
  congr 1
  funext j
  rw [gd]
  cases h:ops[j]? with
  | none=>rw [abM h]
  | some o =>
    rw [abL h]
    simp only
    rw [← aic]
    simp only [gd]
theorem reach_eq:∀ (fuel d:Nat),Region.uQ md ops i fuel d=acz (rZ md ops).2 i fuel d
  | 0,_=>rfl
  | fuel+1,d=>by
    unfold Region.uQ acz
    cases h:ops[d]? with
    | none=>rw [abM h]
    | some o =>
      rw [abL h]
      simp only
      rw [← anF]
      congr 1
      funext e
      rw [reach_eq fuel]
theorem ars:Region.lastB md ops l ds i=lastT (rZ md ops).2 l.toList ds i:=by
  unfold Region.lastB lastT
  rw [aah]
  congr 1
  funext d
  rw [gd,reach_eq]
theorem afh (h:yc T.2 l.toList i=true) (hT:rZ md ops=T):(Region.ready md ops l).contains i=true:=by
  subst hT
  rw [ready_eq]
  unfold adJ
  rw [List.contains_iff_mem,List.mem_filter,List.mem_range]
  refine ⟨?_,h⟩
  unfold yc at h
  rw [Bool.and_eq_true] at h
  cases hq:(rZ md ops).2[i]? with
  | none=>rw [hq] at h;simp at h
  | some r=>exact (List.getElem?_eq_some_iff.1 hq).1
theorem ajq (h:(l.toList.set i true == l'.toList)=true):(l.setIfInBounds i true == l')=true:=by
  rw [beq_iff_eq] at h ⊢
  apply Array.ext'
  rw [Array.toList_setIfInBounds]
  exact h
def ase (T:Bool × List (List Nat × List Nat)) (l l':List Bool) (i:Nat):Bool:=T.1 && agi T.2 l i && yc T.2 l i && (l.set i true == l')
theorem acA (hT:rZ md ops=T) (h:ase T l.toList l'.toList i=true):alH md ops l l' i=true:=by
  simp only [ase,Bool.and_eq_true] at h
  obtain ⟨⟨⟨h1,h2⟩,h3⟩,h4⟩:=h
  have h5:=afh h3 hT
  have h6:=ajq h4
  subst hT
  simp only [alH,Bool.and_eq_true]
  exact ⟨⟨⟨h1,by rw [free_eq];exact h2⟩,h5⟩,h6⟩
def alQ (T:Bool × List (List Nat × List Nat)) (ds:List Nat) (l l':List Bool) (i:Nat):Bool:=T.1 && agi T.2 l i && yc T.2 l i && aeP T.2 l && lastT T.2 l ds i && (l.set i true == l')
theorem aru (hT:rZ md ops=T) (h:alQ T ds l.toList l'.toList i=true):takeB md ops ds l l' i=true:=by
  simp only [alQ,Bool.and_eq_true] at h
  obtain ⟨⟨⟨⟨⟨h1,h2⟩,h3⟩,h4⟩,h5⟩,h6⟩:=h
  have h7:=afh h3 hT
  have h8:=ajq h6
  subst hT
  simp only [takeB,Bool.and_eq_true]
  exact ⟨⟨⟨⟨⟨h1,by rw [free_eq];exact h2⟩,h7⟩,by rw [anG];exact h4⟩,by rw [ars];exact h5⟩,h8⟩
theorem anH (hT:rZ md ops=T) (h:(adJ T.2 l.toList == [i] && l.toList.set i true == l'.toList)=true):acy md ops l l' i=true:=by
  simp only [Bool.and_eq_true] at h
  obtain ⟨h1,h2⟩:=h
  subst hT
  simp only [acy,Bool.and_eq_true]
  exact ⟨by rw [ready_eq];exact h1,ajq h2⟩
theorem arv (hT:rZ md ops=T) (h:(adJ T.2 l.toList == [])=true):(Region.ready md ops l == [])=true:=by
  subst hT
  rw [ready_eq]
  exact h
def upM (B:List Nat) (d:Nat):List Nat→Nat
  | []=>0
  | n :: r=>(2 ^ n ||| (if n < d then B.getD n 0 else 0)) ||| upM B d r
def acB (T:List (List Nat × List Nat)) (B:List Nat):Bool:=(List.range T.length).all fun d=>match T[d]? with
  | some r=>(B.getD d 0 ||| upM B d r.1) == upM B d r.1
  | none=>false
theorem alb {B:List Nat} {d i:Nat}:∀ {ns:List Nat},(upM B d ns).testBit i=true→∃ n ∈ ns,n=i∨(n < d∧(B.getD n 0).testBit i=true)
  | [],h=>by simp [upM] at h
  | n :: r,h=>by
    unfold upM at h
    rw [Nat.testBit_or,Nat.testBit_or,Bool.or_eq_true,Bool.or_eq_true] at h
    rcases h with (h|h)|h
    · rw [Nat.testBit_two_pow] at h
      exact ⟨n,List.mem_cons_self,.inl (by simpa using h)⟩
    · by_cases hn:n < d
      · rw [if_pos hn] at h
        exact ⟨n,List.mem_cons_self,.inr ⟨hn,h⟩⟩
      · rw [if_neg hn] at h
        simp at h
    · obtain ⟨m,hm,h2⟩:=alb h
      exact ⟨m,List.mem_cons_of_mem _ hm,h2⟩
theorem aie {T:List (List Nat × List Nat)} {B:List Nat} (hB:acB T B=true):∀ (fuel d:Nat),d < fuel→d < T.length→(B.getD d 0).testBit i=true→acz T i fuel d=true
  | 0,d,h,_,_=>by omega
  | fuel+1,d,h,hd,hb=>by
    have h1:=List.all_eq_true.1 hB d (List.mem_range.2 hd)
    cases hr:T[d]? with
    | none=>rw [hr] at h1;simp at h1
    | some r =>
      rw [hr] at h1
      simp only [beq_iff_eq] at h1
      have h2:(upM B d r.1).testBit i=true:=by rw [← h1,Nat.testBit_or,hb,Bool.true_or]
      obtain ⟨n,hn,h3⟩:=alb h2
      unfold acz
      rw [hr]
      simp only
      rw [List.any_eq_true]
      refine ⟨n,hn,?_⟩
      rcases h3 with rfl|⟨h4,h5⟩
      · simp
      · rw [aie hB fuel n (by omega) (by omega) h5,Bool.or_true]
def aqw (T:List (List Nat × List Nat)) (B:List Nat) (l:List Bool) (ds:List Nat) (i:Nat):Bool:=ds.all fun d=>l.getD d true || (decide (d < T.length) && (B.getD d 0).testBit i)
def aqx (T:Bool × List (List Nat × List Nat)) (B:List Nat) (ds:List Nat) (l l':List Bool) (i:Nat):Bool:=T.1 && agi T.2 l i && yc T.2 l i && aeP T.2 l && aqw T.2 B l ds i && (l.set i true == l')
theorem aoo {B:List Nat} (hT:rZ md ops=T) (hB:acB T.2 B=true) (h:aqx T B ds l.toList l'.toList i=true):takeB md ops ds l l' i=true:=by
  refine aru hT ?_
  simp only [aqx,alQ,Bool.and_eq_true] at h ⊢
  obtain ⟨⟨⟨⟨⟨h1,h2⟩,h3⟩,h4⟩,h5⟩,h6⟩:=h
  refine ⟨⟨⟨⟨⟨h1,h2⟩,h3⟩,h4⟩,?_⟩,h6⟩
  unfold aqw at h5
  unfold lastT
  rw [List.all_eq_true] at h5 ⊢
  intro d hd
  have h7:=h5 d hd
  rw [Bool.or_eq_true,Bool.and_eq_true,decide_eq_true_eq] at h7
  rcases h7 with h7|⟨h8,h9⟩
  · rw [h7,Bool.true_or]
  · rw [aie hB _ d h8 h8 h9,Bool.or_true]
theorem anI {P:Program} {Q:Exit→Act→World→Prop} {S:World→Prop} {n:Nat} {a:Act} {w:World} {B:List Nat} (hT:rZ md ops=T) (hB:acB T.2 B=true) (h:aj (rZ md ops=T)→aj (acB T.2 B=true)→gY P md ops Q S ds n l a w):gY P md ops Q S ds n l a w:=h ⟨hT⟩ ⟨hB⟩
end
def aai:Code→Nat→Option (Array Oper)
  | .region id ops _,k=>if id == k then some ops else none
  | .seq a b,k=>match aai a k with
    | some o=>some o
    | none=>aai b k
  | .cond _ a b,k=>match aai a k with
    | some o=>some o
    | none=>aai b k
  | .block _ c,k=>aai c k
  | .loop c,k=>aai c k
  | .scope c,k=>aai c k
  | .rangeFunc _ _ a b,k=>match aai a k with
    | some o=>some o
    | none=>aai b k
  | _,_=>none
def opsOf (f:Func) (k:Nat):Array Oper:=((f.body.bind fun c=>aai c k)).getD #[]
end Go.Proofs.YtpondkggmcmpfaaGreatDoorW.PrintLast
namespace Go.Proofs.YtpondkggmcmpfaaGreatDoorW.PrintLast
section
variable {P:Program} {ops:Array Oper} {Q:Exit→Act→World→Prop} {md:Region.Mode} {S:World→Prop} {ds:List Nat} {T:Bool × List (List Nat × List Nat)}
end
end Go.Proofs.YtpondkggmcmpfaaGreatDoorW.PrintLast
namespace Go.Proofs.YtpondkggmcmpfaaGreatDoorW.PrintWords
open Go.RowKit
namespace Kd
section
variable {α:Type} {d:Kd α} {W:World} {g n:Nat} {S ok:Nat→Prop} {A:Option Addr} {ad:Addr} {xs:List α}
end
end Kd
end Go.Proofs.YtpondkggmcmpfaaGreatDoorW.PrintWords
namespace Go.Proofs.YtpondkggmcmpfaaGreatDoorW.PrintWords
open Go.RowKit
section
variable {w w' u:World} {m B g:Nat} {o:Obj} {row:Option Nat} {S:Nat→Prop} {a:Addr} {v:Value}
end
namespace Kd
section
variable {α:Type} {d:Kd α} {e base n m:Nat} {ok:Nat→Prop} {w w':World} {v:Value} {A:Option Addr} {xs:List α}
end
end Kd
end Go.Proofs.YtpondkggmcmpfaaGreatDoorW.PrintWords
namespace Go.Proofs.YtpondkggmcmpfaaGreatDoorW.PrintWords
open Go.RowKit
section
variable {P:Program} {d:Nat} {xs ys:Array Value} {f:Field} {fs:List Field} {a b:Value} {r s:Bool} {w:World}
theorem asf {t:TypeId} {fs:Array Field} (hu:P.underlying t=some (.struct fs)) (hp:P.stoodInHeld t=false) (h:(Op.eqFields d xs ys fs.toList).run P w = .ok r w):(Op.equalIn (d+1) t (.agg xs) (.agg ys)).run P w = .ok r w:=by
  have hf:P.fieldsOf t=fs:=by simp [Program.fieldsOf,hu]
  rw [run_equalIn_struct (P:=P) w d t xs ys (by rw [hf];exact hu) hp,hf]
  exact h
end
end Go.Proofs.YtpondkggmcmpfaaGreatDoorW.PrintWords
namespace Go.Proofs.YtpondkggmcmpfaaGreatDoorW.PrintWords
theorem ji.one {α:Type} {R:α→List Value→Prop} {ps:List α} {cs:List Value} {p:α} {v:Value} (hp:R p [v]) (h:ji R 1 ps cs):ji R 1 (p :: ps) (v :: cs):=by
  refine ⟨by simp [h.1],fun j q hq => ?_⟩
  cases j with
  | zero =>
    simp only [List.getElem?_cons_zero,Option.some.injEq] at hq
    subst hq
    simpa using hp
  | succ j =>
    simp only [List.getElem?_cons_succ] at hq
    have h1:=h.2 j q hq
    simpa [Nat.mul_one] using h1
end Go.Proofs.YtpondkggmcmpfaaGreatDoorW.PrintWords
namespace Go.Proofs.YtpondkggmcmpfaaGreatDoorW.PrintLast
section
variable {P:Program} {ops:Array Oper} {Q:Exit→Act→World→Prop} {md:Region.Mode} {T:Bool × List (List Nat × List Nat)} {B:List Nat} {O:List Nat} {b:Nat→Bool} {i j n:Nat}
end
end Go.Proofs.YtpondkggmcmpfaaGreatDoorW.PrintLast
namespace Go.Proofs.YtpondkggmcmpfaaGreatDoorW.PrintWords
open Go.RowKit
end Go.Proofs.YtpondkggmcmpfaaGreatDoorW.PrintWords
namespace Go.Proofs.YtpondkggmcmpfaaGreatDoorW.PrintLast
section
variable {ops:Array Oper} {a:Act} {o og:Oper} {g:Nat} {t:Tmp} {u:Bool}
end
end Go.Proofs.YtpondkggmcmpfaaGreatDoorW.PrintLast
namespace Go.Proofs.YtpondkggmcmpfaaGreatDoorW.PrintWords
open Go.RowKit
section
variable {P:Program} {ops:Array Oper} {rest:List Oper} {o:Oper} {a:Act} {Q:Exit→Act→World→Prop} {W:World}
theorem kG (hw:Region.wanted o (yielded ops a.tmps)=true) (h:wpList P ops Q ({ o with guard:=none } :: rest) a W):wpList P ops Q (o :: rest) a W:=by
  have h1:Region.wanted { o with guard:=none } (yielded ops a.tmps)=true:=rfl
  unfold wpList at h ⊢
  rw [if_pos h1] at h
  rw [if_pos hw]
  exact h
end
end Go.Proofs.YtpondkggmcmpfaaGreatDoorW.PrintWords
namespace Go.Proofs.YtpondkggmcmpfaaGreatDoor.QA
open Go.Proofs.YtpondkggmcmpfaaGreatDoor.T
open Go.RowKit Go.Proofs.YtpondkggmcmpfaaGreatDoorW.PrintWords Go.Proofs.YtpondkggmcmpfaaGreatDoorW.PrintLast Go.Proofs.YtpondkggmcmpfaaGreatDoorW.PrintMore
attribute [local go_sem] dY dS dU fA fB
set_option linter.unusedVariables false
set_option linter.unusedSimpArgs false
def asg:Option Int→Value
 | none => .nilIface
 | some c => .iface 0 (.int .i64 c)
theorem bG:asg none = .nilIface:=rfl
theorem bH (c:Int):asg (some c) = .iface 0 (.int .i64 c):=rfl
theorem vM:(Tryz.prog.info? 2).map (fun i=>(i.zero,i.size,i.bytes))=some (some (.int .i64 0),1,8):=by kernel_rfl
theorem arw:(Tryz.prog.info? 138).map (fun i=>(i.zero,i.size,i.bytes))=some (some (.agg #[(.int .i64 0),(.slice none 0 0)]),2,32):=by kernel_rfl
structure S71 where
 f0:Int
 f1:(List Int)
def z71:S71:=⟨(0:Int),([]:List Int)⟩
def k71:Kd S71:=Kd.iso (Kd.pair (Kd.int .i64) (Kd.slice 2 (Kd.int .i64))) (fun x:S71=>(x.f0,x.f1))
theorem aop {w:World} {x:S71} {cs:List Value} (h:k71.K w x cs):∃ A1 c1,cs=[.int .i64 x.f0,.slice A1 x.f1.length c1]∧x.f1.length≤c1∧(Kd.int .i64).C w A1 x.f1.length x.f1:=by
 obtain ⟨_,_,rfl,rfl,⟨A1,c1,rfl,l1,g1⟩⟩:=h
 exact ⟨A1,c1,rfl,l1,g1⟩
theorem arx (w:World) (base:Nat) (ok:Nat→Prop) (x:S71) {v1:Value} (g1:(Kd.int .i64).R 2 w base ok v1 x.f1):k71.M w base ok x [.int .i64 x.f0,v1]:=⟨[.int .i64 x.f0],[v1],rfl,rfl,⟨v1,rfl,g1⟩⟩
def iW (xs:List S71) (i:Int):S71:=xs.getD i.toNat z71
theorem ajr {w:World} {A:Option Addr} {n:Nat} {xs:List S71} (h:Kd.C k71 w A n xs) (i:Int) (h0:0≤i) (h1:i < n):∃ ad A1 c1,A=some ad∧w.cell? (ad.add (i.toNat*2))=some (.int .i64 (iW xs i).f0)∧w.cell? ⟨(ad.add (i.toNat*2)).block,(ad.add (i.toNat*2)).off+1,none⟩=some (.slice A1 (iW xs i).f1.length c1)∧(iW xs i).f1.length≤c1∧(Kd.int .i64).C w A1 (iW xs i).f1.length (iW xs i).f1:=by
 obtain ⟨ad,c,e,_,hK,hc0⟩:=Kd.alM h z71 i h0 h1
 have hc:∀ j u,c[j]? = some u→w.cell? (ad.add (i.toNat*2+j))=some u:=hc0
 obtain ⟨A1,c1,rfl,l1,g1⟩:=aop hK
 exact ⟨ad,A1,c1,e,hc 0 _ rfl,by rw [← jS _ _ 1 (by omega)];exact hc 1 _ rfl,l1,g1⟩
structure S47 where
 f0:Int
 f1:Int
 f2:Int
 f3:Int
 f4:(List Int)
 f5:(List Int)
 f6:Int
 f7:Int
 f8:Int
def z47:S47:=⟨(0:Int),(0:Int),(0:Int),(0:Int),([]:List Int),([]:List Int),(0:Int),(0:Int),(0:Int)⟩
def k47:Kd S47:=Kd.iso (Kd.pair (Kd.int .i64) (Kd.pair (Kd.int .i64) (Kd.pair (Kd.int .i64) (Kd.pair (Kd.int .i64) (Kd.pair (Kd.slice 2 (Kd.int .i64)) (Kd.pair (Kd.slice 2 (Kd.int .i64)) (Kd.pair (Kd.int .i64) (Kd.pair (Kd.int .i64) (Kd.int .i64))))))))) (fun x:S47=>(x.f0,x.f1,x.f2,x.f3,x.f4,x.f5,x.f6,x.f7,x.f8))
theorem ajs {w:World} {x:S47} {cs:List Value} (h:k47.K w x cs):∃ A4 c4 A5 c5,cs=[.int .i64 x.f0,.int .i64 x.f1,.int .i64 x.f2,.int .i64 x.f3,.slice A4 x.f4.length c4,.slice A5 x.f5.length c5,.int .i64 x.f6,.int .i64 x.f7,.int .i64 x.f8]∧x.f4.length≤c4∧(Kd.int .i64).C w A4 x.f4.length x.f4∧x.f5.length≤c5∧(Kd.int .i64).C w A5 x.f5.length x.f5:=by
 obtain ⟨_,_,rfl,rfl,⟨_,_,rfl,rfl,⟨_,_,rfl,rfl,⟨_,_,rfl,rfl,⟨_,_,rfl,⟨A4,c4,rfl,l4,g4⟩,⟨_,_,rfl,⟨A5,c5,rfl,l5,g5⟩,⟨_,_,rfl,rfl,⟨_,_,rfl,rfl,rfl⟩⟩⟩⟩⟩⟩⟩⟩:=h
 exact ⟨A4,c4,A5,c5,rfl,l4,g4,l5,g5⟩
theorem anJ (w:World) (x:S47) {A4:Option Addr} {c4:Nat} (l4:x.f4.length≤c4) (g4:(Kd.int .i64).C w A4 x.f4.length x.f4) {A5:Option Addr} {c5:Nat} (l5:x.f5.length≤c5) (g5:(Kd.int .i64).C w A5 x.f5.length x.f5):k47.K w x [.int .i64 x.f0,.int .i64 x.f1,.int .i64 x.f2,.int .i64 x.f3,.slice A4 x.f4.length c4,.slice A5 x.f5.length c5,.int .i64 x.f6,.int .i64 x.f7,.int .i64 x.f8]:=⟨[.int .i64 x.f0],[.int .i64 x.f1,.int .i64 x.f2,.int .i64 x.f3,.slice A4 x.f4.length c4,.slice A5 x.f5.length c5,.int .i64 x.f6,.int .i64 x.f7,.int .i64 x.f8],rfl,rfl,⟨[.int .i64 x.f1],[.int .i64 x.f2,.int .i64 x.f3,.slice A4 x.f4.length c4,.slice A5 x.f5.length c5,.int .i64 x.f6,.int .i64 x.f7,.int .i64 x.f8],rfl,rfl,⟨[.int .i64 x.f2],[.int .i64 x.f3,.slice A4 x.f4.length c4,.slice A5 x.f5.length c5,.int .i64 x.f6,.int .i64 x.f7,.int .i64 x.f8],rfl,rfl,⟨[.int .i64 x.f3],[.slice A4 x.f4.length c4,.slice A5 x.f5.length c5,.int .i64 x.f6,.int .i64 x.f7,.int .i64 x.f8],rfl,rfl,⟨[.slice A4 x.f4.length c4],[.slice A5 x.f5.length c5,.int .i64 x.f6,.int .i64 x.f7,.int .i64 x.f8],rfl,⟨A4,c4,rfl,l4,g4⟩,⟨[.slice A5 x.f5.length c5],[.int .i64 x.f6,.int .i64 x.f7,.int .i64 x.f8],rfl,⟨A5,c5,rfl,l5,g5⟩,⟨[.int .i64 x.f6],[.int .i64 x.f7,.int .i64 x.f8],rfl,rfl,⟨[.int .i64 x.f7],[.int .i64 x.f8],rfl,rfl,rfl⟩⟩⟩⟩⟩⟩⟩⟩
def lV (xs:List S47) (i:Int):S47:=xs.getD i.toNat z47
theorem ash {w:World} {A:Option Addr} {n:Nat} {xs:List S47} (h:Kd.C k47 w A n xs) (i:Int) (h0:0≤i) (h1:i < n):∃ ad A4 c4 A5 c5,A=some ad∧w.cell? (ad.add (i.toNat*9))=some (.int .i64 (lV xs i).f0)∧w.cell? ⟨(ad.add (i.toNat*9)).block,(ad.add (i.toNat*9)).off+1,none⟩=some (.int .i64 (lV xs i).f1)∧w.cell? ⟨(ad.add (i.toNat*9)).block,(ad.add (i.toNat*9)).off+2,none⟩=some (.int .i64 (lV xs i).f2)∧w.cell? ⟨(ad.add (i.toNat*9)).block,(ad.add (i.toNat*9)).off+3,none⟩=some (.int .i64 (lV xs i).f3)∧w.cell? ⟨(ad.add (i.toNat*9)).block,(ad.add (i.toNat*9)).off+4,none⟩=some (.slice A4 (lV xs i).f4.length c4)∧w.cell? ⟨(ad.add (i.toNat*9)).block,(ad.add (i.toNat*9)).off+5,none⟩=some (.slice A5 (lV xs i).f5.length c5)∧w.cell? ⟨(ad.add (i.toNat*9)).block,(ad.add (i.toNat*9)).off+6,none⟩=some (.int .i64 (lV xs i).f6)∧w.cell? ⟨(ad.add (i.toNat*9)).block,(ad.add (i.toNat*9)).off+7,none⟩=some (.int .i64 (lV xs i).f7)∧w.cell? ⟨(ad.add (i.toNat*9)).block,(ad.add (i.toNat*9)).off+8,none⟩=some (.int .i64 (lV xs i).f8)∧(lV xs i).f4.length≤c4∧(Kd.int .i64).C w A4 (lV xs i).f4.length (lV xs i).f4∧(lV xs i).f5.length≤c5∧(Kd.int .i64).C w A5 (lV xs i).f5.length (lV xs i).f5:=by
 obtain ⟨ad,c,e,_,hK,hc0⟩:=Kd.alM h z47 i h0 h1
 have hc:∀ j u,c[j]? = some u→w.cell? (ad.add (i.toNat*9+j))=some u:=hc0
 obtain ⟨A4,c4,A5,c5,rfl,l4,g4,l5,g5⟩:=ajs hK
 exact ⟨ad,A4,c4,A5,c5,e,hc 0 _ rfl,by rw [← jS _ _ 1 (by omega)];exact hc 1 _ rfl,by rw [← jS _ _ 2 (by omega)];exact hc 2 _ rfl,by rw [← jS _ _ 3 (by omega)];exact hc 3 _ rfl,by rw [← jS _ _ 4 (by omega)];exact hc 4 _ rfl,by rw [← jS _ _ 5 (by omega)];exact hc 5 _ rfl,by rw [← jS _ _ 6 (by omega)];exact hc 6 _ rfl,by rw [← jS _ _ 7 (by omega)];exact hc 7 _ rfl,by rw [← jS _ _ 8 (by omega)];exact hc 8 _ rfl,l4,g4,l5,g5⟩
structure mG where
 f0:Int
 f1:(List Int)
def aaP:Kd mG:=Kd.iso (Kd.pair (Kd.int .i64) (Kd.slice 2 (Kd.int .i64))) (fun x:mG=>(x.f0,x.f1))
theorem ajt (w:World) (base:Nat) (ok:Nat→Prop) (x:mG) {v1:Value} (g1:(Kd.int .i64).R 2 w base ok v1 x.f1):aaP.M w base ok x [.int .i64 x.f0,v1]:=⟨[.int .i64 x.f0],[v1],rfl,rfl,⟨v1,rfl,g1⟩⟩
structure S67 where
 f0:Int
 f1:Int
 f2:Int
 f3:Int
 f4:Int
 f5:Int
 f6:Int
 f7:Int
 f8:Int
 f9:Int
def z67:S67:=⟨(0:Int),(0:Int),(0:Int),(0:Int),(0:Int),(0:Int),(0:Int),(0:Int),(0:Int),(0:Int)⟩
def k67:Kd S67:=Kd.iso (Kd.pair (Kd.int .i64) (Kd.pair (Kd.int .i64) (Kd.pair (Kd.int .i64) (Kd.pair (Kd.int .i64) (Kd.pair (Kd.int .i64) (Kd.pair (Kd.int .i64) (Kd.pair (Kd.int .i64) (Kd.pair (Kd.int .i64) (Kd.pair (Kd.int .i64) (Kd.int .i64)))))))))) (fun x:S67=>(x.f0,x.f1,x.f2,x.f3,x.f4,x.f5,x.f6,x.f7,x.f8,x.f9))
theorem aoq {w:World} {x:S67} {cs:List Value} (h:k67.K w x cs):cs=[.int .i64 x.f0,.int .i64 x.f1,.int .i64 x.f2,.int .i64 x.f3,.int .i64 x.f4,.int .i64 x.f5,.int .i64 x.f6,.int .i64 x.f7,.int .i64 x.f8,.int .i64 x.f9]:=by
 obtain ⟨_,_,rfl,rfl,⟨_,_,rfl,rfl,⟨_,_,rfl,rfl,⟨_,_,rfl,rfl,⟨_,_,rfl,rfl,⟨_,_,rfl,rfl,⟨_,_,rfl,rfl,⟨_,_,rfl,rfl,⟨_,_,rfl,rfl,rfl⟩⟩⟩⟩⟩⟩⟩⟩⟩:=h
 exact rfl
theorem arz (w:World) (base:Nat) (ok:Nat→Prop) (x:S67):k67.M w base ok x [.int .i64 x.f0,.int .i64 x.f1,.int .i64 x.f2,.int .i64 x.f3,.int .i64 x.f4,.int .i64 x.f5,.int .i64 x.f6,.int .i64 x.f7,.int .i64 x.f8,.int .i64 x.f9]:=⟨[.int .i64 x.f0],[.int .i64 x.f1,.int .i64 x.f2,.int .i64 x.f3,.int .i64 x.f4,.int .i64 x.f5,.int .i64 x.f6,.int .i64 x.f7,.int .i64 x.f8,.int .i64 x.f9],rfl,rfl,⟨[.int .i64 x.f1],[.int .i64 x.f2,.int .i64 x.f3,.int .i64 x.f4,.int .i64 x.f5,.int .i64 x.f6,.int .i64 x.f7,.int .i64 x.f8,.int .i64 x.f9],rfl,rfl,⟨[.int .i64 x.f2],[.int .i64 x.f3,.int .i64 x.f4,.int .i64 x.f5,.int .i64 x.f6,.int .i64 x.f7,.int .i64 x.f8,.int .i64 x.f9],rfl,rfl,⟨[.int .i64 x.f3],[.int .i64 x.f4,.int .i64 x.f5,.int .i64 x.f6,.int .i64 x.f7,.int .i64 x.f8,.int .i64 x.f9],rfl,rfl,⟨[.int .i64 x.f4],[.int .i64 x.f5,.int .i64 x.f6,.int .i64 x.f7,.int .i64 x.f8,.int .i64 x.f9],rfl,rfl,⟨[.int .i64 x.f5],[.int .i64 x.f6,.int .i64 x.f7,.int .i64 x.f8,.int .i64 x.f9],rfl,rfl,⟨[.int .i64 x.f6],[.int .i64 x.f7,.int .i64 x.f8,.int .i64 x.f9],rfl,rfl,⟨[.int .i64 x.f7],[.int .i64 x.f8,.int .i64 x.f9],rfl,rfl,⟨[.int .i64 x.f8],[.int .i64 x.f9],rfl,rfl,rfl⟩⟩⟩⟩⟩⟩⟩⟩⟩
def uT (xs:List S67) (i:Int):S67:=xs.getD i.toNat z67
theorem asi {w:World} {A:Option Addr} {n:Nat} {xs:List S67} (h:Kd.C k67 w A n xs) (i:Int) (h0:0≤i) (h1:i < n):∃ ad ,A=some ad∧w.cell? (ad.add (i.toNat*10))=some (.int .i64 (uT xs i).f0)∧w.cell? ⟨(ad.add (i.toNat*10)).block,(ad.add (i.toNat*10)).off+1,none⟩=some (.int .i64 (uT xs i).f1)∧w.cell? ⟨(ad.add (i.toNat*10)).block,(ad.add (i.toNat*10)).off+2,none⟩=some (.int .i64 (uT xs i).f2)∧w.cell? ⟨(ad.add (i.toNat*10)).block,(ad.add (i.toNat*10)).off+3,none⟩=some (.int .i64 (uT xs i).f3)∧w.cell? ⟨(ad.add (i.toNat*10)).block,(ad.add (i.toNat*10)).off+4,none⟩=some (.int .i64 (uT xs i).f4)∧w.cell? ⟨(ad.add (i.toNat*10)).block,(ad.add (i.toNat*10)).off+5,none⟩=some (.int .i64 (uT xs i).f5)∧w.cell? ⟨(ad.add (i.toNat*10)).block,(ad.add (i.toNat*10)).off+6,none⟩=some (.int .i64 (uT xs i).f6)∧w.cell? ⟨(ad.add (i.toNat*10)).block,(ad.add (i.toNat*10)).off+7,none⟩=some (.int .i64 (uT xs i).f7)∧w.cell? ⟨(ad.add (i.toNat*10)).block,(ad.add (i.toNat*10)).off+8,none⟩=some (.int .i64 (uT xs i).f8)∧w.cell? ⟨(ad.add (i.toNat*10)).block,(ad.add (i.toNat*10)).off+9,none⟩=some (.int .i64 (uT xs i).f9):=by
 obtain ⟨ad,c,e,_,hK,hc0⟩:=Kd.alM h z67 i h0 h1
 have hc:∀ j u,c[j]? = some u→w.cell? (ad.add (i.toNat*10+j))=some u:=hc0
 obtain rfl:=aoq hK
 exact ⟨ad,e,hc 0 _ rfl,by rw [← jS _ _ 1 (by omega)];exact hc 1 _ rfl,by rw [← jS _ _ 2 (by omega)];exact hc 2 _ rfl,by rw [← jS _ _ 3 (by omega)];exact hc 3 _ rfl,by rw [← jS _ _ 4 (by omega)];exact hc 4 _ rfl,by rw [← jS _ _ 5 (by omega)];exact hc 5 _ rfl,by rw [← jS _ _ 6 (by omega)];exact hc 6 _ rfl,by rw [← jS _ _ 7 (by omega)];exact hc 7 _ rfl,by rw [← jS _ _ 8 (by omega)];exact hc 8 _ rfl,by rw [← jS _ _ 9 (by omega)];exact hc 9 _ rfl⟩
end Go.Proofs.YtpondkggmcmpfaaGreatDoor.QA
namespace Go.Proofs.YtpondkggmcmpfaaGreatDoor.QA
open Go.Proofs.YtpondkggmcmpfaaGreatDoor.T
open Go.RowKit Go.Proofs.YtpondkggmcmpfaaGreatDoorW.PrintWords Go.Proofs.YtpondkggmcmpfaaGreatDoorW.PrintLast Go.Proofs.YtpondkggmcmpfaaGreatDoorW.PrintMore
attribute [local go_sem] dY dS dU fA fB
set_option linter.unusedVariables false
set_option linter.unusedSimpArgs false
def vN.f:Option (ByteArray):=some (⟨#[99,108,97,109,112]⟩:ByteArray)
set_option maxHeartbeats 8000000 in
set_option maxRecDepth 100000 in
theorem vN.calls (r:ByteArray) (w:World) (hG:GL w) (h:vN.f=some r) :
  Calls Tryz.prog 77 #[.int .i64 0] w fun e w'=>e = .returned (.string r)∧dw w w':=by
 have H:(some (⟨#[99,108,97,109,112]⟩:ByteArray))=some r:=h
 clear h
 obtain ⟨⟨aaC,aaD,aaE,aaF,aaG,aaH⟩,⟨aaI,aaJ,aaK,aaL,aaM,aaN,aaO⟩⟩:=hG
 obtain rfl:=Option.some.inj H
 go_enter Tryz.func77,Tryz.ntmps77
 go_wp2
 go_ret
 exact ⟨zT,zW⟩
def vO.f:Option (ByteArray):=some (⟨#[109,105,114,114,111,114]⟩:ByteArray)
set_option maxHeartbeats 8000000 in
set_option maxRecDepth 100000 in
theorem vO.calls (r:ByteArray) (w:World) (hG:GL w) (h:vO.f=some r) :
  Calls Tryz.prog 77 #[.int .i64 1] w fun e w'=>e = .returned (.string r)∧dw w w':=by
 have H:(some (⟨#[109,105,114,114,111,114]⟩:ByteArray))=some r:=h
 clear h
 obtain ⟨⟨aaC,aaD,aaE,aaF,aaG,aaH⟩,⟨aaI,aaJ,aaK,aaL,aaM,aaN,aaO⟩⟩:=hG
 obtain rfl:=Option.some.inj H
 go_enter Tryz.func77,Tryz.ntmps77
 go_wp2
 go_ret
 exact ⟨zT,zW⟩
def vP.f:Option (ByteArray):=some (⟨#[119,114,97,112]⟩:ByteArray)
set_option maxHeartbeats 8000000 in
set_option maxRecDepth 100000 in
theorem vP.calls (r:ByteArray) (w:World) (hG:GL w) (h:vP.f=some r) :
  Calls Tryz.prog 77 #[.int .i64 2] w fun e w'=>e = .returned (.string r)∧dw w w':=by
 have H:(some (⟨#[119,114,97,112]⟩:ByteArray))=some r:=h
 clear h
 obtain ⟨⟨aaC,aaD,aaE,aaF,aaG,aaH⟩,⟨aaI,aaJ,aaK,aaL,aaM,aaN,aaO⟩⟩:=hG
 obtain rfl:=Option.some.inj H
 go_enter Tryz.func77,Tryz.ntmps77
 go_wp2
 go_ret
 exact ⟨zT,zW⟩
def pR.f (a0:Int):Option (ByteArray):=if a0 < 0 then (some (⟨#[]⟩:ByteArray)) else (if a0≥3 then (some (⟨#[]⟩:ByteArray)) else (none))
set_option maxHeartbeats 8000000 in
set_option maxRecDepth 100000 in
theorem pR.calls (a0:Int) (r:ByteArray) (w:World) (hG:GL w) (h:pR.f a0=some r) :
  Calls Tryz.prog 77 #[.int .i64 a0] w fun e w'=>e = .returned (.string r)∧dw w w':=by
 have H:=h
 clear h
 unfold pR.f at H
 obtain ⟨⟨aaC,aaD,aaE,aaF,aaG,aaH⟩,⟨aaI,aaJ,aaK,aaL,aaM,aaN,aaO⟩⟩:=hG
 by_cases c2:a0 < 0
 ·rw [if_pos c2] at H
  have lW:=decide_eq_true c2
  clear c2
  obtain rfl:=Option.some.inj H
  go_enter Tryz.func77,Tryz.ntmps77
  go_wp2
  go_ret
  exact ⟨zT,zW⟩
 ·rw [if_neg c2] at H
  have lW:=decide_eq_false c2
  clear c2
  by_cases c3:a0≥3
  ·rw [if_pos c3] at H
   have fQ:=decide_eq_true c3
   clear c3
   obtain rfl:=Option.some.inj H
   go_enter Tryz.func77,Tryz.ntmps77
   go_wp2
   go_ret
   exact ⟨zT,zW⟩
  ·rw [if_neg c3] at H
   exact absurd H (by simp)
def oP.f (a0:Int):Option (ByteArray):=if a0=0 then vN.f else if a0=1 then vO.f else if a0=2 then vP.f else pR.f a0
theorem oP.calls (a0:Int) (r:ByteArray) (w:World) (hG:GL w) (h:oP.f a0=some r) :
  Calls Tryz.prog 77 #[.int .i64 a0] w fun e w'=>e = .returned (.string r)∧dw w w':=by
 unfold oP.f at h
 by_cases c0:a0=0
 ·subst c0;exact vN.calls r w hG (by rw [if_pos rfl] at h;exact h)
 ·rw [if_neg c0] at h
  by_cases c1:a0=1
  ·subst c1;exact vO.calls r w hG (by rw [if_pos rfl] at h;exact h)
  ·rw [if_neg c1] at h
   by_cases c2:a0=2
   ·subst c2;exact vP.calls r w hG (by rw [if_pos rfl] at h;exact h)
   ·rw [if_neg c2] at h
    exact pR.calls a0 r w hG h
def jl.f (a0:Int):Option (Bool):=if a0≥1 then (some (decide (a0≤65536))) else (some false)
set_option maxHeartbeats 8000000 in
set_option maxRecDepth 100000 in
theorem jl.calls (a0:Int) (r:Bool) (w:World) (h:jl.f a0=some r) :
  Calls Tryz.prog 86 #[.int .i64 a0] w fun e w'=>e = .returned (.bool r)∧dw w w':=by
 have H:=h
 clear h
 unfold jl.f at H
 by_cases c2:a0≥1
 ·rw [if_pos c2] at H
  have lW:=decide_eq_true c2
  clear c2
  obtain rfl:=Option.some.inj H
  go_enter Tryz.func86,Tryz.ntmps86
  go_wp2
  go_ret
  exact ⟨zT,zW⟩
 ·rw [if_neg c2] at H
  have lW:=decide_eq_false c2
  clear c2
  obtain rfl:=Option.some.inj H
  go_enter Tryz.func86,Tryz.ntmps86
  go_wp2
  go_ret
  exact ⟨zT,zW⟩
def yG.f:Option (ByteArray):=some (⟨#[98,111,120]⟩:ByteArray)
set_option maxHeartbeats 8000000 in
set_option maxRecDepth 100000 in
theorem yG.calls (r:ByteArray) (w:World) (hG:GL w) (h:yG.f=some r) :
  Calls Tryz.prog 104 #[.int .i64 0] w fun e w'=>e = .returned (.string r)∧dw w w':=by
 have H:(some (⟨#[98,111,120]⟩:ByteArray))=some r:=h
 clear h
 obtain ⟨⟨aaC,aaD,aaE,aaF,aaG,aaH⟩,⟨aaI,aaJ,aaK,aaL,aaM,aaN,aaO⟩⟩:=hG
 obtain rfl:=Option.some.inj H
 go_enter Tryz.func104,Tryz.ntmps104
 go_wp2
 go_ret
 exact ⟨zT,zW⟩
def yH.f:Option (ByteArray):=some (⟨#[99,117,98,105,99]⟩:ByteArray)
set_option maxHeartbeats 8000000 in
set_option maxRecDepth 100000 in
theorem yH.calls (r:ByteArray) (w:World) (hG:GL w) (h:yH.f=some r) :
  Calls Tryz.prog 104 #[.int .i64 1] w fun e w'=>e = .returned (.string r)∧dw w w':=by
 have H:(some (⟨#[99,117,98,105,99]⟩:ByteArray))=some r:=h
 clear h
 obtain ⟨⟨aaC,aaD,aaE,aaF,aaG,aaH⟩,⟨aaI,aaJ,aaK,aaL,aaM,aaN,aaO⟩⟩:=hG
 obtain rfl:=Option.some.inj H
 go_enter Tryz.func104,Tryz.ntmps104
 go_wp2
 go_ret
 exact ⟨zT,zW⟩
def yI.f:Option (ByteArray):=some (⟨#[108,97,110,99,122,111,115]⟩:ByteArray)
set_option maxHeartbeats 8000000 in
set_option maxRecDepth 100000 in
theorem yI.calls (r:ByteArray) (w:World) (hG:GL w) (h:yI.f=some r) :
  Calls Tryz.prog 104 #[.int .i64 2] w fun e w'=>e = .returned (.string r)∧dw w w':=by
 have H:(some (⟨#[108,97,110,99,122,111,115]⟩:ByteArray))=some r:=h
 clear h
 obtain ⟨⟨aaC,aaD,aaE,aaF,aaG,aaH⟩,⟨aaI,aaJ,aaK,aaL,aaM,aaN,aaO⟩⟩:=hG
 obtain rfl:=Option.some.inj H
 go_enter Tryz.func104,Tryz.ntmps104
 go_wp2
 go_ret
 exact ⟨zT,zW⟩
def sV.f (a0:Int):Option (ByteArray):=if a0 < 0 then (some (⟨#[]⟩:ByteArray)) else (if a0≥3 then (some (⟨#[]⟩:ByteArray)) else (none))
set_option maxHeartbeats 8000000 in
set_option maxRecDepth 100000 in
theorem sV.calls (a0:Int) (r:ByteArray) (w:World) (hG:GL w) (h:sV.f a0=some r) :
  Calls Tryz.prog 104 #[.int .i64 a0] w fun e w'=>e = .returned (.string r)∧dw w w':=by
 have H:=h
 clear h
 unfold sV.f at H
 obtain ⟨⟨aaC,aaD,aaE,aaF,aaG,aaH⟩,⟨aaI,aaJ,aaK,aaL,aaM,aaN,aaO⟩⟩:=hG
 by_cases c2:a0 < 0
 ·rw [if_pos c2] at H
  have lW:=decide_eq_true c2
  clear c2
  obtain rfl:=Option.some.inj H
  go_enter Tryz.func104,Tryz.ntmps104
  go_wp2
  go_ret
  exact ⟨zT,zW⟩
 ·rw [if_neg c2] at H
  have lW:=decide_eq_false c2
  clear c2
  by_cases c3:a0≥3
  ·rw [if_pos c3] at H
   have fQ:=decide_eq_true c3
   clear c3
   obtain rfl:=Option.some.inj H
   go_enter Tryz.func104,Tryz.ntmps104
   go_wp2
   go_ret
   exact ⟨zT,zW⟩
  ·rw [if_neg c3] at H
   exact absurd H (by simp)
def su.f (a0:Int):Option (ByteArray):=if a0=0 then yG.f else if a0=1 then yH.f else if a0=2 then yI.f else sV.f a0
theorem su.calls (a0:Int) (r:ByteArray) (w:World) (hG:GL w) (h:su.f a0=some r) :
  Calls Tryz.prog 104 #[.int .i64 a0] w fun e w'=>e = .returned (.string r)∧dw w w':=by
 unfold su.f at h
 by_cases c0:a0=0
 ·subst c0;exact yG.calls r w hG (by rw [if_pos rfl] at h;exact h)
 ·rw [if_neg c0] at h
  by_cases c1:a0=1
  ·subst c1;exact yH.calls r w hG (by rw [if_pos rfl] at h;exact h)
  ·rw [if_neg c1] at h
   by_cases c2:a0=2
   ·subst c2;exact yI.calls r w hG (by rw [if_pos rfl] at h;exact h)
   ·rw [if_neg c2] at h
    exact sV.calls a0 r w hG h
end Go.Proofs.YtpondkggmcmpfaaGreatDoor.QA
namespace Go.Proofs.YtpondkggmcmpfaaGreatDoor.QA
open Go.Proofs.YtpondkggmcmpfaaGreatDoor.T
open Go.RowKit Go.Proofs.YtpondkggmcmpfaaGreatDoorW.PrintWords Go.Proofs.YtpondkggmcmpfaaGreatDoorW.PrintLast Go.Proofs.YtpondkggmcmpfaaGreatDoorW.PrintMore
attribute [local go_sem] dY dS dU fA fB
set_option linter.unusedVariables false
set_option linter.unusedSimpArgs false
def jH.j0:Nat→Bool→Int→Int→Int→Int→List Int→List Int→Int→Int→Int→Option (Bool)
 | 0,_,_,_,_,_,_,_,_,_,_=>none
 | k+1,x16,arA,aw1,aw2,aw3,aw4,aw5,arB,arC,arD=>if x16=true then (some false) else (if arA=3 then ((jl.f arC).bind fun aor=>(if aor=true then ((jl.f arD).bind fun aos=>(if aos=true then ((su.f arB).bind fun t105=>(some (t105.toList != ([]:List UInt8)))) else (some false))) else (some false))) else (some true))
def jH.f (k:Nat) (bJ dB sZ tq:Int) (oI o9:List Int) (vC tu uz:Int):Option (Bool):=if bJ < 0 then (jH.j0 k true bJ dB sZ tq oI o9 vC tu uz) else (if bJ≥4 then (jH.j0 k true bJ dB sZ tq oI o9 vC tu uz) else ((oP.f dB).bind fun alR=>(jH.j0 k (alR.toList == ([]:List UInt8)) bJ dB sZ tq oI o9 vC tu uz)))
set_option maxHeartbeats 8000000 in
set_option maxRecDepth 100000 in
theorem jH.calls (k:Nat) (bJ dB sZ tq:Int) (zo:Option Addr) (zu:Nat) (oI:List Int) (aaQ:Option Addr) (aaR:Nat) (o9:List Int) (vC tu uz:Int) (r:Bool) (w:World) (agj:Kd.C (Kd.int .i64) w zo oI.length oI) (agk:oI.length≤zu) (agl:Kd.C (Kd.int .i64) w aaQ o9.length o9) (agm:o9.length≤aaR) (hG:GL w) (h:jH.f k bJ dB sZ tq oI o9 vC tu uz=some r) :
  Calls Tryz.prog 85 #[.agg #[.int .i64 bJ,.int .i64 dB,.int .i64 sZ,.int .i64 tq,.slice zo oI.length zu,.slice aaQ o9.length aaR,.int .i64 vC,.int .i64 tu,.int .i64 uz]] w fun e w'=>e = .returned (.bool r)∧Below w.heap.size w w':=by
 have avJ:=Tryz.underlying47
 have alS:=aj.mk agj
 have alT:=aj.mk agk
 clear agj agk
 have aqy:=aj.mk agl
 have aqz:=aj.mk agm
 clear agl agm
 have HB:=aj.mk (Below.refl w.heap.size w)
 have H:=h
 clear h
 unfold jH.f at H
 have HC2:=aj.mk H
 clear H
 go_enter Tryz.func85,Tryz.ntmps85
 go_upto_region 1 with (first|((with_reducible refine bK (N:=1) rfl ?_);refine bT zR (N:=1) zR (cs := #[.int .i64 bJ,.int .i64 dB,.int .i64 sZ,.int .i64 tq,.slice zo oI.length zu,.slice aaQ o9.length aaR,.int .i64 vC,.int .i64 tu,.int .i64 uz]) (t:=47) zG ?_;intro aty hg w3 hbox hb;obtain ⟨HB,qK,ayo,aqA⟩:=zA4 (ak zB hb) hbox (zg hg zB) (zg hg zB);clear hb hbox hg))
 (try simp only [Act.put,List.setIfInBounds_toArray,List.set_cons_zero,List.set_cons_succ])
 go_cut [16] (fun v16 wc=>∃ (kq:Nat) (xH:Bool),v16 = .bool xH∧aj (jH.j0 kq xH bJ dB sZ tq oI o9 vC tu uz=some r)∧aj (kq≤k)∧aj (wc.heap[aty]? = some (.cells #[.int .i64 bJ,.int .i64 dB,.int .i64 sZ,.int .i64 tq,(.slice zo oI.length zu),(.slice aaQ o9.length aaR),.int .i64 vC,.int .i64 tu,.int .i64 uz] 47 (0,0)))∧aj (Below w.heap.size w wc))
 case first =>
  have H:=HC2.out
  clear HC2
  by_cases c4:bJ < 0
  ·rw [if_pos c4] at H
   have fV:=decide_eq_true c4
   clear c4
   (first|rw [fV]|(simp only [bW,dA];rw [fV])|skip)
   have H':=aj.mk H
   clear H
   obtain ⟨_,_,_,_,_,_,_,_,_⟩:=zC9 qK.out
   obtain ⟨_,_,_,_,_,_,_,_,_⟩:=zF9 qK.out
   go_wp2
   go_meet
   case rel=>exact ⟨_,(true),zT,H',⟨by first|omega|exact Nat.le_refl _⟩,⟨zK qK⟩,⟨zB⟩⟩
  ·rw [if_neg c4] at H
   have fV:=decide_eq_false c4
   clear c4
   (first|rw [fV]|(simp only [bW,dA];rw [fV])|skip)
   by_cases c6:bJ≥4
   ·rw [if_pos c6] at H
    have iy:=decide_eq_true c6
    clear c6
    have H':=aj.mk H
    clear H
    obtain ⟨_,_,_,_,_,_,_,_,_⟩:=zC9 qK.out
    obtain ⟨_,_,_,_,_,_,_,_,_⟩:=zF9 qK.out
    go_wp2
    go_meet
    case rel=>exact ⟨_,(true),zT,H',⟨by first|omega|exact Nat.le_refl _⟩,⟨zK qK⟩,⟨zB⟩⟩
   ·rw [if_neg c6] at H
    have iy:=decide_eq_false c6
    clear c6
    replace H:=zO H
    obtain ⟨alR,A8,H⟩:=H
    try dsimp only at H
    have H':=aj.mk H
    clear H
    obtain ⟨_,_,_,_,_,_,_,_,_⟩:=zC9 qK.out
    obtain ⟨_,_,_,_,_,_,_,_,_⟩:=zF9 qK.out
    go_wp2_with (first|(go_at_call 77;(with_reducible refine (oP.calls dB alR _ (by exact GL.below hG (by repeat (first|(with_reducible first|exact HB.out|apply aT|apply aI|apply bg|refine qY ?_ aqA.out)|exact HB.out|exact Below.refl _ _))) A8.out).mono ?_);rintro e w' ⟨rfl,⟨nd,rfl⟩⟩))
    go_meet
    case rel=>exact ⟨_,((alR.toList == ([]:List UInt8))),zT,H',⟨by first|omega|exact Nat.le_refl _⟩,⟨zK qK⟩,⟨zB⟩⟩
 case rest =>
  clear HC2
  obtain ⟨kq,xH,rfl,HA,HJ1,qK,HB⟩:=hcut
  cases kq with
  | zero=>exact absurd HA.out (by simp [jH.j0])
  | succ kj1 =>
   have H:=HA.out
   clear HA
   simp only [jH.j0] at H
   by_cases c10:xH=true
   ·subst c10
    rw [if_pos rfl] at H;try dsimp only at H
    obtain rfl:=Option.some.inj H
    go_wp2
    go_ret
    exact ⟨by first|rfl|(simp [bG,bH] <;> rfl)|(simp [*,bG,bH] <;> rfl)|(simp;cases t105.toList <;> rfl),zB⟩
   ·replace c10:=Bool.eq_false_iff.mpr c10
    subst c10
    rw [if_neg (show ¬ (false=true) by decide)] at H;try dsimp only at H
    by_cases c11:bJ=3
    ·rw [if_pos c11] at H
     have iP:(bJ == 3)=true:=beq_iff_eq.mpr c11
     have yJ:(bJ != 3)=false:=bne_eq_false_iff_eq.mpr c11
     clear c11
     replace H:=zO H
     obtain ⟨aor,A12,H⟩:=H
     try dsimp only at H
     by_cases c13:aor=true
     ·subst c13
      rw [if_pos rfl] at H;try dsimp only at H
      replace H:=zO H
      obtain ⟨aos,A14,H⟩:=H
      try dsimp only at H
      by_cases c15:aos=true
      ·subst c15
       rw [if_pos rfl] at H;try dsimp only at H
       replace H:=zO H
       obtain ⟨t105,A16,H⟩:=H
       try dsimp only at H
       obtain rfl:=Option.some.inj H
       obtain ⟨_,_,_,_,_,_,_,_,_⟩:=zC9 qK.out
       obtain ⟨_,_,_,_,_,_,_,_,_⟩:=zF9 qK.out
       go_wp2_with (first|(go_at_call 86;(with_reducible refine (jl.calls tu true _ A12.out).mono ?_);rintro e w' ⟨rfl,⟨nd,rfl⟩⟩)|(go_at_call 86;(with_reducible refine (jl.calls uz true _ A14.out).mono ?_);rintro e w' ⟨rfl,⟨nd,rfl⟩⟩)|(go_at_call 104;(with_reducible refine (su.calls vC t105 _ (by exact GL.below hG (by repeat (first|(with_reducible first|exact HB.out|apply aT|apply aI|apply bg|refine qY ?_ aqA.out)|exact HB.out|exact Below.refl _ _))) A16.out).mono ?_);rintro e w' ⟨rfl,⟨nd,rfl⟩⟩))
       go_ret
       exact ⟨by first|rfl|(simp [bG,bH] <;> rfl)|(simp [*,bG,bH] <;> rfl)|(simp;cases t105.toList <;> rfl),zB⟩
      ·replace c15:=Bool.eq_false_iff.mpr c15
       subst c15
       rw [if_neg (show ¬ (false=true) by decide)] at H;try dsimp only at H
       obtain rfl:=Option.some.inj H
       obtain ⟨_,_,_,_,_,_,_,_,_⟩:=zC9 qK.out
       obtain ⟨_,_,_,_,_,_,_,_,_⟩:=zF9 qK.out
       go_wp2_with (first|(go_at_call 86;(with_reducible refine (jl.calls tu true _ A12.out).mono ?_);rintro e w' ⟨rfl,⟨nd,rfl⟩⟩)|(go_at_call 86;(with_reducible refine (jl.calls uz false _ A14.out).mono ?_);rintro e w' ⟨rfl,⟨nd,rfl⟩⟩))
       go_ret
       exact ⟨by first|rfl|(simp [bG,bH] <;> rfl)|(simp [*,bG,bH] <;> rfl)|(simp;cases t105.toList <;> rfl),zB⟩
     ·replace c13:=Bool.eq_false_iff.mpr c13
      subst c13
      rw [if_neg (show ¬ (false=true) by decide)] at H;try dsimp only at H
      obtain rfl:=Option.some.inj H
      obtain ⟨_,_,_,_,_,_,_,_,_⟩:=zC9 qK.out
      obtain ⟨_,_,_,_,_,_,_,_,_⟩:=zF9 qK.out
      go_wp2_with (first|(go_at_call 86;(with_reducible refine (jl.calls tu false _ A12.out).mono ?_);rintro e w' ⟨rfl,⟨nd,rfl⟩⟩))
      go_ret
      exact ⟨by first|rfl|(simp [bG,bH] <;> rfl)|(simp [*,bG,bH] <;> rfl)|(simp;cases t105.toList <;> rfl),zB⟩
    ·rw [if_neg c11] at H
     have iP:(bJ == 3)=false:=beq_eq_false_iff_ne.mpr c11
     have yJ:(bJ != 3)=true:=bne_iff_ne.mpr c11
     obtain rfl:=Option.some.inj H
     obtain ⟨_,_,_,_,_,_,_,_,_⟩:=zC9 qK.out
     obtain ⟨_,_,_,_,_,_,_,_,_⟩:=zF9 qK.out
     go_wp2
     go_ret
     exact ⟨by first|rfl|(simp [bG,bH] <;> rfl)|(simp [*,bG,bH] <;> rfl)|(simp;cases t105.toList <;> rfl),zB⟩
def fO.f (a0:Int):Option (Int):=if a0 < 0 then (some (IntKind.u64.wrap (-(IntKind.u64.wrap (a0))))) else (some (IntKind.u64.wrap (a0)))
set_option maxHeartbeats 8000000 in
set_option maxRecDepth 100000 in
theorem fO.calls (a0 r:Int) (w:World) (h:fO.f a0=some r) :
  Calls Tryz.prog 163 #[.int .i64 a0] w fun e w'=>e = .returned (.int .u64 r)∧dw w w':=by
 have H:=h
 clear h
 unfold fO.f at H
 by_cases c2:a0 < 0
 ·rw [if_pos c2] at H
  have lW:=decide_eq_true c2
  clear c2
  obtain rfl:=Option.some.inj H
  go_enter Tryz.func163,Tryz.ntmps163
  go_wp2
  go_ret
  exact ⟨zT,zW⟩
 ·rw [if_neg c2] at H
  have lW:=decide_eq_false c2
  clear c2
  obtain rfl:=Option.some.inj H
  go_enter Tryz.func163,Tryz.ntmps163
  go_wp2
  go_ret
  exact ⟨zT,zW⟩
end Go.Proofs.YtpondkggmcmpfaaGreatDoor.QA
namespace Go.Proofs.YtpondkggmcmpfaaGreatDoor.T
open Go.RowKit Go.Proofs.YtpondkggmcmpfaaGreatDoorW.PrintWords Go.Proofs.YtpondkggmcmpfaaGreatDoorW.PrintLast Go.Proofs.YtpondkggmcmpfaaGreatDoorW.PrintMore
theorem mJ (n:Int):IntKind.u64.wrap n=n % 18446744073709551616:=by simp [IntKind.wrap,IntKind.bits,IntKind.signed]
theorem kU (n:Int):IntKind.i64.wrap n=wrap64 n:=by rw [IntKind.wrap_i64];unfold wrap64;omega
theorem wf64 {x:Int} (h:(Lit.int .i64 x).wf=true) : -9223372036854775808≤x∧x≤9223372036854775807:=by
  simp [Lit.wf,IntKind.min,IntKind.max,IntKind.bits,IntKind.signed] at h;exact h
theorem alG {x:Int} (h:(Lit.int .u8 x).wf=true):0≤x∧x≤255:=by
  simp [Lit.wf,IntKind.min,IntKind.max,IntKind.bits,IntKind.signed] at h;exact h
theorem aC {x:Int} (h0 : -9223372036854775808≤x) (h1:x≤9223372036854775807):wrap64 x=x:=by unfold wrap64;omega
theorem afr (k:IntKind) (x:Int) (i:Nat) (hi:i≤k.bits) (hw:k.wrap (x % 2 ^ i)=x % 2 ^ i):bits .and k x (2 ^ i - 1)=x % 2 ^ i:=by
  have hc:((2:Int) ^ i - 1)=((2 ^ i - 1:Nat):Int):=by
    rw [Int.natCast_sub (Nat.two_pow_pos i)];simp
  have h1:(BitVec.ofInt k.bits (2 ^ i - 1)).toNat=2 ^ i - 1:=by
    rw [hc,BitVec.ofInt_natCast,BitVec.toNat_ofNat,Nat.mod_eq_of_lt]
    exact Nat.lt_of_lt_of_le (Nat.sub_lt (Nat.two_pow_pos i) (by decide)) (Nat.pow_le_pow_right (by decide) hi)
  have h2:(((BitVec.ofInt k.bits x).toNat:Nat):Int)=x % 2 ^ k.bits:=by
    rw [BitVec.toNat_ofInt,Int.toNat_of_nonneg (Int.emod_nonneg _ (by have:=Nat.two_pow_pos k.bits;omega))]
    simp
  have h3:((((BitVec.ofInt k.bits x) &&& (BitVec.ofInt k.bits (2 ^ i - 1))).toNat:Nat):Int)=x % 2 ^ i:=by
    rw [BitVec.toNat_and,h1,Nat.and_two_pow_sub_one_eq_mod]
    rw [Int.natCast_emod,h2]
    simp only [Int.natCast_pow,Int.cast_ofNat_Int]
    exact Int.emod_emod_of_dvd x ⟨2 ^ (k.bits - i),by rw [← Int.pow_add];congr 1;omega⟩
  simp only [bits]
  rw [h3,hw]
theorem aeQ (x:Int):bits .and .u64 x 1=x % 2:=by
  have:=afr .u64 x 1 (by decide) (by rw [mJ];omega)
  simpa using this
theorem arE (x:Int):bits .and .i64 x 1=x % 2:=by
  have:=afr .i64 x 1 (by decide) (by rw [kU];unfold wrap64;omega)
  simpa using this
theorem aju (x:Int):bits .and .u64 x 4294967295=x % 4294967296:=by
  have:=afr .u64 x 32 (by decide) (by rw [mJ];omega)
  simpa using this
def hold (m:Int):Int:=if m < -9223372036854775808 then -9223372036854775808 else if m > 9223372036854775807 then 9223372036854775807 else m
theorem arF (m:Int) : -9223372036854775808≤hold m:=by unfold hold;split <;> (try split) <;> omega
theorem alc (m:Int):hold m≤9223372036854775807:=by unfold hold;split <;> (try split) <;> omega
theorem tC {m:Int} (h0 : -9223372036854775808≤m) (h1:m≤9223372036854775807):hold m=m:=by unfold hold;rw [if_neg (by omega),if_neg (by omega)]
def flo (a b:Int):Int:=if 0 < b then a / b else (-a) / (-b)
def jk (a b:Int):Int:=if 0 < b then (2*a+b) / (2*b) else (2*(-a)+(-b)) / (2*(-b))
def siz (x:Int):Int:=if x < 0 then -x else x
theorem arG {p d:Int} (_hp:0≤p) (hd:0 < d):(2*p+d) / (2*d)=if p % d≥d - p % d then p / d+1 else p / d:=by
  have e:=Int.mul_ediv_add_emod p d
  have r0:=Int.emod_nonneg p (Int.ne_of_gt hd)
  have r1:=Int.emod_lt_of_pos p hd
  have e2:2*p+d=(2*d)*(p / d)+(2*(p % d)+d):=by rw [Int.mul_assoc];omega
  rw [e2,Int.add_comm,Int.add_mul_ediv_left _ _ (by omega)]
  split
  · have:(2*(p % d)+d) / (2*d)=1:=by
      rw [show 2*(p % d)+d=(2*(p % d) - d)+(2*d)*1 from by omega,Int.add_mul_ediv_left _ _ (by omega),Int.ediv_eq_zero_of_lt (by omega) (by omega)];omega
    omega
  · have:(2*(p % d)+d) / (2*d)=0:=Int.ediv_eq_zero_of_lt (by omega) (by omega)
    omega
theorem arH {p d:Int} (_hp:0≤p) (hd:0 < d):(2*(-p)+d) / (2*d)=if p % d > d - p % d then -(p / d+1) else -(p / d):=by
  have e:=Int.mul_ediv_add_emod p d
  have r0:=Int.emod_nonneg p (Int.ne_of_gt hd)
  have r1:=Int.emod_lt_of_pos p hd
  have e2:2*(-p)+d=(2*d)*(-(p / d))+(d - 2*(p % d)):=by rw [Int.mul_assoc,Int.mul_neg,Int.mul_neg];omega
  rw [e2,Int.add_comm,Int.add_mul_ediv_left _ _ (by omega)]
  split
  · have:(d - 2*(p % d)) / (2*d) = -1:=by
      rw [show d - 2*(p % d)=(3*d - 2*(p % d))+(2*d)*(-1) from by omega,Int.add_mul_ediv_left _ _ (by omega),Int.ediv_eq_zero_of_lt (by omega) (by omega)];omega
    omega
  · have:(d - 2*(p % d)) / (2*d)=0:=Int.ediv_eq_zero_of_lt (by omega) (by omega)
    omega
def sgn (below:Bool) (m:Int):Int:=if below=true then -m else m
theorem abk (a b:Int):sgn ((decide (a < 0)) != (decide (b < 0))) (siz a*siz b)=a*b:=by
  unfold sgn siz
  by_cases h:a < 0 <;> by_cases k:b < 0 <;> simp [h,k,Int.neg_mul,Int.mul_neg]
theorem ahn (a:Int):sgn (decide (a < 0)) (siz a)=a:=by
  unfold sgn siz
  by_cases h:a < 0 <;> simp [h]
theorem ald (x:Bool) (d p:Int) (_hd:d≠0):jk (sgn (x != decide (d < 0)) p) (siz d)=jk (sgn x p) d:=by
  unfold sgn siz jk
  by_cases k:d < 0
  · rw [if_pos k]
    rw [if_pos (show 0 < -d from by omega),if_neg (show ¬ 0 < d from by omega)]
    cases x <;> simp [k]
  · simp [k]
theorem ale (x:Bool) (d p:Int) (_hd:d≠0):flo (sgn (x != decide (d < 0)) p) (siz d)=flo (sgn x p) d:=by
  unfold sgn siz flo
  by_cases k:d < 0
  · rw [if_pos k]
    rw [if_pos (show 0 < -d from by omega),if_neg (show ¬ 0 < d from by omega)]
    cases x <;> simp [k]
  · simp [k]
theorem acM (below:Bool) {p d:Int} (hp:0≤p) (hd:0 < d) :
    jk (sgn below p) d=sgn below (if below=true then (if p % d > d - p % d then p / d+1 else p / d) else (if p % d≥d - p % d then p / d+1 else p / d)):=by
  unfold jk sgn
  rw [if_pos hd]
  cases below
  · simp only [Bool.false_eq_true,if_false];exact arG hp hd
  · simp only [if_true];rw [arH hp hd];split <;> rfl
theorem neg_ediv {p d:Int} (hd:0 < d):(-p) / d=if p % d=0 then -(p / d) else -(p / d+1):=by
  have e:=Int.mul_ediv_add_emod p d
  have r0:=Int.emod_nonneg p (Int.ne_of_gt hd)
  have r1:=Int.emod_lt_of_pos p hd
  rw [show -p = -(p % d)+d*(-(p / d)) from by rw [Int.mul_neg];omega,Int.add_mul_ediv_left _ _ (by omega)]
  split
  · rename_i h;rw [h];simp
  · have:(-(p % d)) / d = -1:=by
      rw [show -(p % d)=(d - p % d)+d*(-1) from by omega,Int.add_mul_ediv_left _ _ (by omega),Int.ediv_eq_zero_of_lt (by omega) (by omega)];omega
    omega
theorem alf (below:Bool) {p d:Int} (hd:0 < d) :
    flo (sgn below p) d=sgn below (if below=true∧p % d≠0 then p / d+1 else p / d):=by
  unfold flo sgn
  rw [if_pos hd]
  cases below
  · simp
  · simp only [if_true,true_and];rw [neg_ediv hd];by_cases h:p % d=0 <;> simp [h]
abbrev I64 (x:Int):Prop := -9223372036854775808≤x∧x≤9223372036854775807
abbrev U64 (x:Int):Prop:=0≤x∧x < 18446744073709551616
theorem qc {a:Int} (h:I64 a):0≤siz a∧siz a≤9223372036854775808:=by unfold siz;split <;> omega
theorem acN {a:Int}:siz a=0↔a=0:=by unfold siz;split <;> omega
theorem qG (m:Int):I64 (hold m):=⟨arF m,alc m⟩
theorem ajv (a:Int) {b:Int} (hb:0 < b):a.tmod b=if 0≤a∨a % b=0 then a % b else a % b - b:=by
  have e:=Int.tmod_eq_emod (a:=a) (b:=b)
  have hdv:=Int.dvd_iff_emod_eq_zero (a:=b) (b:=a)
  rw [e]
  simp only [hdv]
  split
  · simp
  · rw [Int.natAbs_of_nonneg (by omega)]
def md (a b:Int):Int:=if b=0 then 0 else if 0 < b then a % b else -((-a) % (-b))
def sh (x n:Int):Int:=if n≤0 then x else jk x (2 ^ n.toNat)
theorem pow_pos (n:Nat):(0:Int) < 2 ^ n:=Int.pow_pos (by decide)
theorem l9 (n:Nat):(2:Int) ^ (n+1)=2*2 ^ n:=by rw [Int.pow_succ,Int.mul_comm]
theorem qZ {m n:Nat} (h:m≤n):(2:Int) ^ m≤2 ^ n:=by
  obtain ⟨d,rfl⟩:=Nat.exists_eq_add_of_le h
  rw [Int.pow_add]
  have h1:=pow_pos m
  have h2:=pow_pos d
  calc (2:Int) ^ m=2 ^ m*1:=by rw [Int.mul_one]
    _≤2 ^ m*2 ^ d:=Int.mul_le_mul_of_nonneg_left (by omega) (by omega)
theorem acO (x:Int) (n:Nat) (hn:1≤n):jk x (2 ^ n)=x / 2 ^ n+x / 2 ^ (n - 1) % 2:=by
  obtain ⟨m,rfl⟩:∃ m,n=m+1:=⟨n - 1,by omega⟩
  rw [Nat.add_sub_cancel]
  have hp:=pow_pos m
  unfold jk
  rw [if_pos (pow_pos _),l9]
  have e1:(2*x+2*2 ^ m) / (2*(2*2 ^ m))=(x+2 ^ m) / (2*2 ^ m):=by
    rw [← Int.mul_add];exact Int.mul_ediv_mul_of_pos _ _ (by omega)
  have e2:(x+2 ^ m) / (2*2 ^ m)=(x / 2 ^ m+1) / 2:=by
    rw [Int.mul_comm,← Int.ediv_ediv_of_nonneg (by omega)]
    congr 1
    have:=Int.add_mul_ediv_right x 1 (show (2:Int) ^ m≠0 from by omega)
    rw [Int.one_mul] at this;exact this
  have e3:x / (2*2 ^ m)=x / 2 ^ m / 2:=by rw [Int.mul_comm,← Int.ediv_ediv_of_nonneg (by omega)]
  rw [e1,e2,e3]
  omega
theorem afs {x d:Int} (hd:18446744073709551616≤d) (hx:I64 x):jk x d=0:=by
  unfold jk
  rw [if_pos (by omega)]
  exact Int.ediv_eq_zero_of_lt (by omega) (by omega)
theorem ajw (x:Int):jk x 1=x:=by unfold jk;rw [if_pos (by decide)];omega
theorem wM {a d q r:Int} (h:q*d+r=a) (h0:0≤r) (h1:r < d):a / d=q∧a % d=r:=by
  subst h
  constructor
  · rw [Int.add_comm,Int.add_mul_ediv_right _ _ (by omega),Int.ediv_eq_zero_of_lt h0 h1];omega
  · rw [Int.add_comm,Int.add_mul_emod_self_right,Int.emod_eq_of_lt h0 h1]
theorem xQ (a:Int) (n:Nat):a / 2 ^ n=2*(a / 2 ^ (n+1))+a / 2 ^ n % 2:=by
  have e:a / 2 ^ (n+1)=a / 2 ^ n / 2:=by rw [l9,Int.mul_comm,← Int.ediv_ediv_of_nonneg (by have:=pow_pos n;omega)]
  rw [e];omega
theorem ajx {x n:Int} (hx:I64 x):I64 (sh x n):=by
  unfold sh
  split
  · exact hx
  · by_cases h:64≤n
    · rw [afs (x:=x) _ hx]
      · constructor <;> omega
      · calc (18446744073709551616:Int)=2 ^ 64:=by decide
          _≤2 ^ n.toNat:=qZ (by omega)
    · rw [acO x n.toNat (by omega)]
      have hp:=pow_pos n.toNat
      have h2:(2:Int)≤2 ^ n.toNat:=by
        calc (2:Int)=2 ^ 1:=by decide
          _≤2 ^ n.toNat:=qZ (by omega)
      have a : -9223372036854775808≤x / 2 ^ n.toNat:=by
        rw [Int.le_ediv_iff_mul_le hp]
        have : -9223372036854775808*2 ^ n.toNat ≤ -9223372036854775808*1:=Int.mul_le_mul_of_nonpos_left (by decide) (by omega)
        omega
      have b:x / 2 ^ n.toNat < 4611686018427387904:=by
        rw [Int.ediv_lt_iff_lt_mul hp]
        calc x < 4611686018427387904*2:=by omega
          _≤4611686018427387904*2 ^ n.toNat:=Int.mul_le_mul_of_nonneg_left h2 (by decide)
      constructor <;> omega
end Go.Proofs.YtpondkggmcmpfaaGreatDoor.T
namespace Go.Proofs.YtpondkggmcmpfaaGreatDoor.QA
open Go.Proofs.YtpondkggmcmpfaaGreatDoor.T
open Go.RowKit Go.Proofs.YtpondkggmcmpfaaGreatDoorW.PrintWords Go.Proofs.YtpondkggmcmpfaaGreatDoorW.PrintLast Go.Proofs.YtpondkggmcmpfaaGreatDoorW.PrintMore
attribute [local go_sem] dY dS dU fA fB
set_option linter.unusedVariables false
set_option linter.unusedSimpArgs false
def dK.j0:Nat→Int→Bool→Bool→Option (Int)
 | 0,_,_,_=>none
 | k+1,x0,x1,x5=>if x5=true then (some (-9223372036854775808)) else (if x1=true then (some (wrap64 (-(wrap64 (x0))))) else (if x0 > 9223372036854775807 then (some 9223372036854775807) else (some (wrap64 (x0)))))
def dK.f (k:Nat) (a0:Int) (a1:Bool):Option (Int):=if a1=true then (dK.j0 k a0 a1 (decide (a0≥9223372036854775808))) else (dK.j0 k a0 a1 false)
theorem dK.iU:∀ k,(∀ y0 y1 y2,LeO (dK.j0 k y0 y1 y2) (dK.j0 (k+1) y0 y1 y2))
 | 0=>fun _ _ _ r h=>by simp [dK.j0] at h
 | k+1=>by
  have ih0:=dK.iU k
  ·intro y0 y1 y2
   unfold dK.j0
   repeat' (with_reducible first|exact ih0 _ _ _|exact zM|refine LeO.ite ?_ ?_|refine LeO.bind ?_ (fun _ => ?_))
theorem dK.mono:∀ a0 a1 k,LeO (dK.f k a0 a1) (dK.f (k+1) a0 a1):=by
 intro a0 a1 k
 have ih0:=dK.iU k
 unfold dK.f
 repeat' (with_reducible first|exact ih0 _ _ _|exact zM|refine LeO.ite ?_ ?_|refine LeO.bind ?_ (fun _ => ?_))
set_option maxHeartbeats 8000000 in
set_option maxRecDepth 100000 in
theorem dK.calls (k:Nat) (a0:Int) (a1:Bool) (r:Int) (w:World) (h:dK.f k a0 a1=some r) :
  Calls Tryz.prog 164 #[.int .u64 a0,.bool a1] w fun e w'=>e = .returned (.int .i64 r)∧dw w w':=by
 have H:=h
 clear h
 unfold dK.f at H
 have HC3:=aj.mk H
 clear H
 go_enter Tryz.func164,Tryz.ntmps164
 go_upto_region 1 with (fail)
 go_cut [5] (fun v5 wc=>∃ (kq:Nat) (lX:Bool),v5 = .bool lX∧aj (dK.j0 kq a0 a1 lX=some r)∧aj (kq≤k)∧dw w wc)
 case first =>
  have H:=HC3.out
  clear HC3
  by_cases c4:a1=true
  ·subst c4
   rw [if_pos rfl] at H;try dsimp only at H
   have H':=aj.mk H
   clear H
   go_wp2
   go_meet
   case rel=>exact ⟨_,(decide (a0≥9223372036854775808)),zT,H',⟨by first|omega|exact Nat.le_refl _⟩,zW⟩
  ·replace c4:=Bool.eq_false_iff.mpr c4
   subst c4
   rw [if_neg (show ¬ (false=true) by decide)] at H;try dsimp only at H
   have H':=aj.mk H
   clear H
   go_wp2
   go_meet
   case rel=>exact ⟨_,(false),zT,H',⟨by first|omega|exact Nat.le_refl _⟩,zW⟩
 case rest =>
  clear HC3
  obtain ⟨kq,lX,rfl,HA,HJ2,⟨mc2,rfl⟩⟩:=hcut
  cases kq with
  | zero=>exact absurd HA.out (by simp [dK.j0])
  | succ kj2 =>
   have H:=HA.out
   clear HA
   simp only [dK.j0] at H
   by_cases c5:lX=true
   ·subst c5
    rw [if_pos rfl] at H;try dsimp only at H
    obtain rfl:=Option.some.inj H
    go_wp2
    go_ret
    exact ⟨zT,zW⟩
   ·replace c5:=Bool.eq_false_iff.mpr c5
    subst c5
    rw [if_neg (show ¬ (false=true) by decide)] at H;try dsimp only at H
    by_cases c6:a1=true
    ·subst c6
     rw [if_pos rfl] at H;try dsimp only at H
     obtain rfl:=Option.some.inj H
     go_wp2
     go_ret
     exact ⟨zT,zW⟩
    ·replace c6:=Bool.eq_false_iff.mpr c6
     subst c6
     rw [if_neg (show ¬ (false=true) by decide)] at H;try dsimp only at H
     by_cases c7:a0 > 9223372036854775807
     ·rw [if_pos c7] at H
      have jw:=decide_eq_true c7
      clear c7
      obtain rfl:=Option.some.inj H
      go_wp2
      go_ret
      exact ⟨zT,zW⟩
     ·rw [if_neg c7] at H
      have jw:=decide_eq_false c7
      clear c7
      obtain rfl:=Option.some.inj H
      go_wp2
      go_ret
      exact ⟨zT,zW⟩
def bZ.f (k:Nat) (a0 a1:Int):Option (Int):=if a1=0 then (some 0) else ((fO.f a0).bind fun oJ=>((fO.f a1).bind fun t107=>(if t107=0 then (none) else (if ((decide (a0 < 0)) != (decide (a1 < 0)))=true then (if (Int.tmod oJ t107)=0 then ((dK.f k (IntKind.u64.wrap (Int.tdiv oJ t107)) true).bind fun ajy=>(some ajy)) else ((dK.f k (IntKind.u64.wrap ((IntKind.u64.wrap (Int.tdiv oJ t107))+1)) true).bind fun t109=>(some t109))) else ((dK.f k (IntKind.u64.wrap (Int.tdiv oJ t107)) false).bind fun ajz=>(some ajz))))))
theorem bZ.mono:∀ a0 a1 k,LeO (bZ.f k a0 a1) (bZ.f (k+1) a0 a1):=by
 intro a0 a1 k
 unfold bZ.f
 repeat' (with_reducible first|exact dK.mono _ _ _|exact zM|refine LeO.ite ?_ ?_|refine LeO.bind ?_ (fun _ => ?_))
set_option maxHeartbeats 8000000 in
set_option maxRecDepth 100000 in
theorem bZ.calls (k:Nat) (a0 a1 r:Int) (w:World) (h:bZ.f k a0 a1=some r) :
  Calls Tryz.prog 133 #[.int .i64 a0,.int .i64 a1] w fun e w'=>e = .returned (.int .i64 r)∧dw w w':=by
 have H:=h
 clear h
 unfold bZ.f at H
 by_cases c3:a1=0
 ·rw [if_pos c3] at H
  have fQ:(a1 == 0)=true:=beq_iff_eq.mpr c3
  have wS:(a1 != 0)=false:=bne_eq_false_iff_eq.mpr c3
  clear c3
  obtain rfl:=Option.some.inj H
  go_enter Tryz.func133,Tryz.ntmps133
  go_wp2
  repeat (go_quiet (fail);try go_wp2)
  go_ret
  exact ⟨zT,zW⟩
 ·rw [if_neg c3] at H
  have fQ:(a1 == 0)=false:=beq_eq_false_iff_ne.mpr c3
  have wS:(a1 != 0)=true:=bne_iff_ne.mpr c3
  replace H:=zO H
  obtain ⟨oJ,A4,H⟩:=H
  try dsimp only at H
  replace H:=zO H
  obtain ⟨t107,A5,H⟩:=H
  try dsimp only at H
  by_cases c6:t107=0
  ·rw [if_pos c6] at H
   exact absurd H (by simp)
  ·rw [if_neg c6] at H
   have iy:(t107 == 0)=false:=beq_eq_false_iff_ne.mpr c6
   have uD:(t107 != 0)=true:=bne_iff_ne.mpr c6
   by_cases c7:((decide (a0 < 0)) != (decide (a1 < 0)))=true
   ·rw [if_pos c7] at H
    have jw:((decide (a0 < 0)) != (decide (a1 < 0)))=true:=c7
    (try (have abl:decide ((decide (a0 < 0))=(decide (a1 < 0)))=false:=by simpa using c7))
    (try (have avK:((decide (a0 < 0)) == (decide (a1 < 0)))=false:=by simpa using c7))
    (try (have aAR:¬ ((decide (a0 < 0))=(decide (a1 < 0))):=by simpa using c7))
    clear c7
    by_cases c8:(Int.tmod oJ t107)=0
    ·rw [if_pos c8] at H
     have vX:((Int.tmod oJ t107) == 0)=true:=beq_iff_eq.mpr c8
     have acP:((Int.tmod oJ t107) != 0)=false:=bne_eq_false_iff_eq.mpr c8
     clear c8
     replace H:=zO H
     obtain ⟨ajy,A9,H⟩:=H
     try dsimp only at H
     obtain rfl:=Option.some.inj H
     go_enter Tryz.func133,Tryz.ntmps133
     go_wp2_with (first|(go_at_call 163;(with_reducible refine (fO.calls a0 oJ _ A4.out).mono ?_);rintro e w' ⟨rfl,⟨nd,rfl⟩⟩;(try exact ⟨rfl,_,zN⟩))|(go_at_call 163;(with_reducible refine (fO.calls a1 t107 _ A5.out).mono ?_);rintro e w' ⟨rfl,⟨nd,rfl⟩⟩;(try exact ⟨rfl,_,zN⟩))|(go_at_call 164;(with_reducible refine (dK.calls k (IntKind.u64.wrap (Int.tdiv oJ t107)) true ajy _ A9.out).mono ?_);rintro e w' ⟨rfl,⟨nd,rfl⟩⟩;(try exact ⟨rfl,_,zN⟩)))
     repeat (go_quiet (first|(go_at_call 163;(with_reducible refine (fO.calls a0 oJ _ A4.out).mono ?_);rintro e w' ⟨rfl,⟨nd,rfl⟩⟩;(try exact ⟨rfl,_,zN⟩))|(go_at_call 163;(with_reducible refine (fO.calls a1 t107 _ A5.out).mono ?_);rintro e w' ⟨rfl,⟨nd,rfl⟩⟩;(try exact ⟨rfl,_,zN⟩))|(go_at_call 164;(with_reducible refine (dK.calls k (IntKind.u64.wrap (Int.tdiv oJ t107)) true ajy _ A9.out).mono ?_);rintro e w' ⟨rfl,⟨nd,rfl⟩⟩;(try exact ⟨rfl,_,zN⟩)));try go_wp2_with (first|(go_at_call 163;(with_reducible refine (fO.calls a0 oJ _ A4.out).mono ?_);rintro e w' ⟨rfl,⟨nd,rfl⟩⟩;(try exact ⟨rfl,_,zN⟩))|(go_at_call 163;(with_reducible refine (fO.calls a1 t107 _ A5.out).mono ?_);rintro e w' ⟨rfl,⟨nd,rfl⟩⟩;(try exact ⟨rfl,_,zN⟩))|(go_at_call 164;(with_reducible refine (dK.calls k (IntKind.u64.wrap (Int.tdiv oJ t107)) true ajy _ A9.out).mono ?_);rintro e w' ⟨rfl,⟨nd,rfl⟩⟩;(try exact ⟨rfl,_,zN⟩))))
     go_ret
     exact ⟨zT,zW⟩
    ·rw [if_neg c8] at H
     have vX:((Int.tmod oJ t107) == 0)=false:=beq_eq_false_iff_ne.mpr c8
     have acP:((Int.tmod oJ t107) != 0)=true:=bne_iff_ne.mpr c8
     replace H:=zO H
     obtain ⟨t109,A10,H⟩:=H
     try dsimp only at H
     obtain rfl:=Option.some.inj H
     go_enter Tryz.func133,Tryz.ntmps133
     go_wp2_with (first|(go_at_call 163;(with_reducible refine (fO.calls a0 oJ _ A4.out).mono ?_);rintro e w' ⟨rfl,⟨nd,rfl⟩⟩;(try exact ⟨rfl,_,zN⟩))|(go_at_call 163;(with_reducible refine (fO.calls a1 t107 _ A5.out).mono ?_);rintro e w' ⟨rfl,⟨nd,rfl⟩⟩;(try exact ⟨rfl,_,zN⟩))|(go_at_call 164;(with_reducible refine (dK.calls k (IntKind.u64.wrap ((IntKind.u64.wrap (Int.tdiv oJ t107))+1)) true t109 _ A10.out).mono ?_);rintro e w' ⟨rfl,⟨nd,rfl⟩⟩;(try exact ⟨rfl,_,zN⟩)))
     repeat (go_quiet (first|(go_at_call 163;(with_reducible refine (fO.calls a0 oJ _ A4.out).mono ?_);rintro e w' ⟨rfl,⟨nd,rfl⟩⟩;(try exact ⟨rfl,_,zN⟩))|(go_at_call 163;(with_reducible refine (fO.calls a1 t107 _ A5.out).mono ?_);rintro e w' ⟨rfl,⟨nd,rfl⟩⟩;(try exact ⟨rfl,_,zN⟩))|(go_at_call 164;(with_reducible refine (dK.calls k (IntKind.u64.wrap ((IntKind.u64.wrap (Int.tdiv oJ t107))+1)) true t109 _ A10.out).mono ?_);rintro e w' ⟨rfl,⟨nd,rfl⟩⟩;(try exact ⟨rfl,_,zN⟩)));try go_wp2_with (first|(go_at_call 163;(with_reducible refine (fO.calls a0 oJ _ A4.out).mono ?_);rintro e w' ⟨rfl,⟨nd,rfl⟩⟩;(try exact ⟨rfl,_,zN⟩))|(go_at_call 163;(with_reducible refine (fO.calls a1 t107 _ A5.out).mono ?_);rintro e w' ⟨rfl,⟨nd,rfl⟩⟩;(try exact ⟨rfl,_,zN⟩))|(go_at_call 164;(with_reducible refine (dK.calls k (IntKind.u64.wrap ((IntKind.u64.wrap (Int.tdiv oJ t107))+1)) true t109 _ A10.out).mono ?_);rintro e w' ⟨rfl,⟨nd,rfl⟩⟩;(try exact ⟨rfl,_,zN⟩))))
     go_ret
     exact ⟨zT,zW⟩
   ·rw [if_neg c7] at H
    have jw:((decide (a0 < 0)) != (decide (a1 < 0)))=false:=by simpa using c7
    (try (have abl:decide ((decide (a0 < 0))=(decide (a1 < 0)))=true:=by simpa using c7))
    (try (have avK:((decide (a0 < 0)) == (decide (a1 < 0)))=true:=by simpa using c7))
    clear c7
    replace H:=zO H
    obtain ⟨ajz,A11,H⟩:=H
    try dsimp only at H
    obtain rfl:=Option.some.inj H
    go_enter Tryz.func133,Tryz.ntmps133
    go_wp2_with (first|(go_at_call 163;(with_reducible refine (fO.calls a0 oJ _ A4.out).mono ?_);rintro e w' ⟨rfl,⟨nd,rfl⟩⟩;(try exact ⟨rfl,_,zN⟩))|(go_at_call 163;(with_reducible refine (fO.calls a1 t107 _ A5.out).mono ?_);rintro e w' ⟨rfl,⟨nd,rfl⟩⟩;(try exact ⟨rfl,_,zN⟩))|(go_at_call 164;(with_reducible refine (dK.calls k (IntKind.u64.wrap (Int.tdiv oJ t107)) false ajz _ A11.out).mono ?_);rintro e w' ⟨rfl,⟨nd,rfl⟩⟩;(try exact ⟨rfl,_,zN⟩)))
    repeat (go_quiet (first|(go_at_call 163;(with_reducible refine (fO.calls a0 oJ _ A4.out).mono ?_);rintro e w' ⟨rfl,⟨nd,rfl⟩⟩;(try exact ⟨rfl,_,zN⟩))|(go_at_call 163;(with_reducible refine (fO.calls a1 t107 _ A5.out).mono ?_);rintro e w' ⟨rfl,⟨nd,rfl⟩⟩;(try exact ⟨rfl,_,zN⟩))|(go_at_call 164;(with_reducible refine (dK.calls k (IntKind.u64.wrap (Int.tdiv oJ t107)) false ajz _ A11.out).mono ?_);rintro e w' ⟨rfl,⟨nd,rfl⟩⟩;(try exact ⟨rfl,_,zN⟩)));try go_wp2_with (first|(go_at_call 163;(with_reducible refine (fO.calls a0 oJ _ A4.out).mono ?_);rintro e w' ⟨rfl,⟨nd,rfl⟩⟩;(try exact ⟨rfl,_,zN⟩))|(go_at_call 163;(with_reducible refine (fO.calls a1 t107 _ A5.out).mono ?_);rintro e w' ⟨rfl,⟨nd,rfl⟩⟩;(try exact ⟨rfl,_,zN⟩))|(go_at_call 164;(with_reducible refine (dK.calls k (IntKind.u64.wrap (Int.tdiv oJ t107)) false ajz _ A11.out).mono ?_);rintro e w' ⟨rfl,⟨nd,rfl⟩⟩;(try exact ⟨rfl,_,zN⟩))))
    go_ret
    exact ⟨zT,zW⟩
def iY.f (a0 a1 a2 a3:Int):Option (Bool):=if a0≥0 then (if a0 < 3 then (if a1≥1 then (if a1≤65536 then (if a2≥1 then (if a2≤65536 then (if a3≥0 then (some (decide (a3 < a2))) else (some false)) else (some false)) else (some false)) else (some false)) else (some false)) else (some false)) else (some false)
set_option maxHeartbeats 8000000 in
set_option maxRecDepth 100000 in
theorem iY.calls (a0 a1 a2 a3:Int) (r:Bool) (w:World) (h:iY.f a0 a1 a2 a3=some r) :
  Calls Tryz.prog 151 #[.int .i64 a0,.int .i64 a1,.int .i64 a2,.int .i64 a3] w fun e w'=>e = .returned (.bool r)∧dw w w':=by
 have H:=h
 clear h
 unfold iY.f at H
 by_cases c5:a0≥0
 ·rw [if_pos c5] at H
  have iM:=decide_eq_true c5
  clear c5
  by_cases c6:a0 < 3
  ·rw [if_pos c6] at H
   have iy:=decide_eq_true c6
   clear c6
   by_cases c7:a1≥1
   ·rw [if_pos c7] at H
    have jw:=decide_eq_true c7
    clear c7
    by_cases c8:a1≤65536
    ·rw [if_pos c8] at H
     have vX:=decide_eq_true c8
     clear c8
     by_cases c9:a2≥1
     ·rw [if_pos c9] at H
      have qO:=decide_eq_true c9
      clear c9
      by_cases c10:a2≤65536
      ·rw [if_pos c10] at H
       have qg:=decide_eq_true c10
       clear c10
       by_cases c11:a3≥0
       ·rw [if_pos c11] at H
        have iP:=decide_eq_true c11
        clear c11
        obtain rfl:=Option.some.inj H
        go_enter Tryz.func151,Tryz.ntmps151
        go_wp2
        go_ret
        exact ⟨zT,zW⟩
       ·rw [if_neg c11] at H
        have iP:=decide_eq_false c11
        clear c11
        obtain rfl:=Option.some.inj H
        go_enter Tryz.func151,Tryz.ntmps151
        go_wp2
        go_ret
        exact ⟨zT,zW⟩
      ·rw [if_neg c10] at H
       have qg:=decide_eq_false c10
       clear c10
       obtain rfl:=Option.some.inj H
       go_enter Tryz.func151,Tryz.ntmps151
       go_wp2
       go_ret
       exact ⟨zT,zW⟩
     ·rw [if_neg c9] at H
      have qO:=decide_eq_false c9
      clear c9
      obtain rfl:=Option.some.inj H
      go_enter Tryz.func151,Tryz.ntmps151
      go_wp2
      go_ret
      exact ⟨zT,zW⟩
    ·rw [if_neg c8] at H
     have vX:=decide_eq_false c8
     clear c8
     obtain rfl:=Option.some.inj H
     go_enter Tryz.func151,Tryz.ntmps151
     go_wp2
     go_ret
     exact ⟨zT,zW⟩
   ·rw [if_neg c7] at H
    have jw:=decide_eq_false c7
    clear c7
    obtain rfl:=Option.some.inj H
    go_enter Tryz.func151,Tryz.ntmps151
    go_wp2
    go_ret
    exact ⟨zT,zW⟩
  ·rw [if_neg c6] at H
   have iy:=decide_eq_false c6
   clear c6
   obtain rfl:=Option.some.inj H
   go_enter Tryz.func151,Tryz.ntmps151
   go_wp2
   go_ret
   exact ⟨zT,zW⟩
 ·rw [if_neg c5] at H
  have iM:=decide_eq_false c5
  clear c5
  obtain rfl:=Option.some.inj H
  go_enter Tryz.func151,Tryz.ntmps151
  go_wp2
  go_ret
  exact ⟨zT,zW⟩
def gI.f (k:Nat) (a0 a1:Int):Option (Int):=(bZ.f k (wrap64 (-a0)) a1).bind fun aot=>(some (wrap64 (-aot)))
theorem gI.mono:∀ a0 a1 k,LeO (gI.f k a0 a1) (gI.f (k+1) a0 a1):=by
 intro a0 a1 k
 unfold gI.f
 repeat' (with_reducible first|exact bZ.mono _ _ _|exact zM|refine LeO.ite ?_ ?_|refine LeO.bind ?_ (fun _ => ?_))
set_option maxHeartbeats 8000000 in
set_option maxRecDepth 100000 in
theorem gI.calls (k:Nat) (a0 a1 r:Int) (w:World) (h:gI.f k a0 a1=some r) :
  Calls Tryz.prog 152 #[.int .i64 a0,.int .i64 a1] w fun e w'=>e = .returned (.int .i64 r)∧dw w w':=by
 have H:=h
 clear h
 unfold gI.f at H
 replace H:=zO H
 obtain ⟨aot,A3,H⟩:=H
 try dsimp only at H
 obtain rfl:=Option.some.inj H
 go_enter Tryz.func152,Tryz.ntmps152
 go_wp2_with (first|((with_reducible refine aA (f:=133) rfl ?_);refine aH (some 8) rfl rfl Tryz.func133 (by kernel_rfl) rfl #[.int .i64 (wrap64 (-a0)),.int .i64 a1] rfl zL ?_;(with_reducible refine (bZ.calls k (wrap64 (-a0)) a1 aot _ A3.out).mono ?_);rintro e w' ⟨rfl,⟨nd,rfl⟩⟩;refine ⟨_,rfl,?_⟩))
 go_ret
 exact ⟨zT,zW⟩
end Go.Proofs.YtpondkggmcmpfaaGreatDoor.QA
namespace Go.Proofs.YtpondkggmcmpfaaGreatDoor.QA
open Go.Proofs.YtpondkggmcmpfaaGreatDoor.T
open Go.RowKit Go.Proofs.YtpondkggmcmpfaaGreatDoorW.PrintWords Go.Proofs.YtpondkggmcmpfaaGreatDoorW.PrintLast Go.Proofs.YtpondkggmcmpfaaGreatDoorW.PrintMore
attribute [local go_sem] dY dS dU fA fB
set_option linter.unusedVariables false
set_option linter.unusedSimpArgs false
def jB.f (k:Nat) (a1 a2 a3:Int):Option (Int × Int):=(iY.f 1 a1 a2 a3).bind fun aou=>(if aou=true then ((bZ.f k (wrap64 (a3*a1)) a2).bind fun alU=>((gI.f k (wrap64 ((wrap64 (a3+1))*a1)) a2).bind fun alV=>((bZ.f k (wrap64 ((wrap64 ((wrap64 ((wrap64 ((wrap64 (2*a3))+1))*a1)) - a2)) - (wrap64 (4*(mx a1 a2))))) (wrap64 (2*a2))).bind fun acQ=>((gI.f k (wrap64 ((wrap64 ((wrap64 ((wrap64 ((wrap64 (2*a3))+1))*a1)) - a2))+(wrap64 (4*(mx a1 a2))))) (wrap64 (2*a2))).bind fun t116=>(some (wrap64 (acQ+1),wrap64 (t116 - (wrap64 (acQ+1))))))))) else (some (0,0)))
theorem jB.mono:∀ a1 a2 a3 k,LeO (jB.f k a1 a2 a3) (jB.f (k+1) a1 a2 a3):=by
 intro a1 a2 a3 k
 unfold jB.f
 repeat' (with_reducible first|exact bZ.mono _ _ _|exact gI.mono _ _ _|exact zM|refine LeO.ite ?_ ?_|refine LeO.bind ?_ (fun _ => ?_))
set_option maxHeartbeats 8000000 in
set_option maxRecDepth 100000 in
theorem jB.calls (k:Nat) (a1 a2 a3 r1 r2:Int) (w:World) (hG:GL w) (h:jB.f k a1 a2 a3=some (r1,r2)) :
  Calls Tryz.prog 128 #[.int .i64 1,.int .i64 a1,.int .i64 a2,.int .i64 a3] w fun e w'=>e = .returned (.tuple #[.int .i64 r1,.int .i64 r2])∧Below w.heap.size w w':=by
 have HB:=aj.mk (Below.refl w.heap.size w)
 have H:=h
 clear h
 unfold jB.f at H
 obtain ⟨⟨aaC,aaD,aaE,aaF,aaG,aaH⟩,⟨aaI,aaJ,aaK,aaL,aaM,aaN,aaO⟩⟩:=hG
 replace H:=zO H
 obtain ⟨aou,A5,H⟩:=H
 try dsimp only at H
 by_cases c6:aou=true
 ·subst c6
  rw [if_pos rfl] at H;try dsimp only at H
  replace H:=zO H
  obtain ⟨alU,A7,H⟩:=H
  try dsimp only at H
  replace H:=zO H
  obtain ⟨alV,A8,H⟩:=H
  try dsimp only at H
  obtain ⟨ji9,mM⟩:∃ j_:Int,(mx a1 a2)=j_:=⟨_,rfl⟩
  replace H:((bZ.f k (wrap64 ((wrap64 ((wrap64 ((wrap64 ((wrap64 (2*a3))+1))*a1)) - a2)) - (wrap64 (4*(ji9))))) (wrap64 (2*a2))).bind fun acQ=>((gI.f k (wrap64 ((wrap64 ((wrap64 ((wrap64 ((wrap64 (2*a3))+1))*a1)) - a2))+(wrap64 (4*(ji9))))) (wrap64 (2*a2))).bind fun t116=>(some (wrap64 (acQ+1),wrap64 (t116 - (wrap64 (acQ+1)))))))=some (r1,r2):=by first|(rw [mM] at H;exact H)|(simp only [mM] at H ⊢;exact H)
  (try rw [mM] at A5)
  (try rw [mM] at A7)
  (try rw [mM] at A8)
  have alW:(if a1 < a2 then a2 else a1)=ji9:=mM
  replace H:=zO H
  obtain ⟨acQ,A10,H⟩:=H
  try dsimp only at H
  replace H:=zO H
  obtain ⟨t116,A11,H⟩:=H
  try dsimp only at H
  simp only [Option.some.injEq,Prod.mk.injEq] at H
  obtain ⟨rfl,rfl⟩:=H
  go_enter Tryz.func128,Tryz.ntmps128
  go_wp2_with (first|(go_at_call 151;(with_reducible refine (iY.calls 1 a1 a2 a3 true _ A5.out).mono ?_);rintro e w' ⟨rfl,⟨nd,rfl⟩⟩;(try exact ⟨rfl,_,zN⟩))|(go_at_call 133;(with_reducible refine (bZ.calls k (wrap64 (a3*a1)) a2 alU _ A7.out).mono ?_);rintro e w' ⟨rfl,⟨nd,rfl⟩⟩;(try exact ⟨rfl,_,zN⟩))|(go_at_call 152;(with_reducible refine (gI.calls k (wrap64 ((wrap64 (a3+1))*a1)) a2 alV _ A8.out).mono ?_);rintro e w' ⟨rfl,⟨nd,rfl⟩⟩;(try exact ⟨rfl,_,zN⟩))|(go_at_call 133;(with_reducible refine (bZ.calls k (wrap64 ((wrap64 ((wrap64 ((wrap64 ((wrap64 (2*a3))+1))*a1)) - a2)) - (wrap64 (4*(ji9))))) (wrap64 (2*a2)) acQ _ A10.out).mono ?_);rintro e w' ⟨rfl,⟨nd,rfl⟩⟩;(try exact ⟨rfl,_,zN⟩))|(go_at_call 152;(with_reducible refine (gI.calls k (wrap64 ((wrap64 ((wrap64 ((wrap64 ((wrap64 (2*a3))+1))*a1)) - a2))+(wrap64 (4*(ji9))))) (wrap64 (2*a2)) t116 _ A11.out).mono ?_);rintro e w' ⟨rfl,⟨nd,rfl⟩⟩;(try exact ⟨rfl,_,zN⟩)))
  repeat (go_quiet (first|(go_at_call 151;(with_reducible refine (iY.calls 1 a1 a2 a3 true _ A5.out).mono ?_);rintro e w' ⟨rfl,⟨nd,rfl⟩⟩;(try exact ⟨rfl,_,zN⟩))|(go_at_call 133;(with_reducible refine (bZ.calls k (wrap64 (a3*a1)) a2 alU _ A7.out).mono ?_);rintro e w' ⟨rfl,⟨nd,rfl⟩⟩;(try exact ⟨rfl,_,zN⟩))|(go_at_call 152;(with_reducible refine (gI.calls k (wrap64 ((wrap64 (a3+1))*a1)) a2 alV _ A8.out).mono ?_);rintro e w' ⟨rfl,⟨nd,rfl⟩⟩;(try exact ⟨rfl,_,zN⟩))|(go_at_call 133;(with_reducible refine (bZ.calls k (wrap64 ((wrap64 ((wrap64 ((wrap64 ((wrap64 (2*a3))+1))*a1)) - a2)) - (wrap64 (4*(ji9))))) (wrap64 (2*a2)) acQ _ A10.out).mono ?_);rintro e w' ⟨rfl,⟨nd,rfl⟩⟩;(try exact ⟨rfl,_,zN⟩))|(go_at_call 152;(with_reducible refine (gI.calls k (wrap64 ((wrap64 ((wrap64 ((wrap64 ((wrap64 (2*a3))+1))*a1)) - a2))+(wrap64 (4*(ji9))))) (wrap64 (2*a2)) t116 _ A11.out).mono ?_);rintro e w' ⟨rfl,⟨nd,rfl⟩⟩;(try exact ⟨rfl,_,zN⟩)));try go_wp2_with (first|(go_at_call 151;(with_reducible refine (iY.calls 1 a1 a2 a3 true _ A5.out).mono ?_);rintro e w' ⟨rfl,⟨nd,rfl⟩⟩;(try exact ⟨rfl,_,zN⟩))|(go_at_call 133;(with_reducible refine (bZ.calls k (wrap64 (a3*a1)) a2 alU _ A7.out).mono ?_);rintro e w' ⟨rfl,⟨nd,rfl⟩⟩;(try exact ⟨rfl,_,zN⟩))|(go_at_call 152;(with_reducible refine (gI.calls k (wrap64 ((wrap64 (a3+1))*a1)) a2 alV _ A8.out).mono ?_);rintro e w' ⟨rfl,⟨nd,rfl⟩⟩;(try exact ⟨rfl,_,zN⟩))|(go_at_call 133;(with_reducible refine (bZ.calls k (wrap64 ((wrap64 ((wrap64 ((wrap64 ((wrap64 (2*a3))+1))*a1)) - a2)) - (wrap64 (4*(ji9))))) (wrap64 (2*a2)) acQ _ A10.out).mono ?_);rintro e w' ⟨rfl,⟨nd,rfl⟩⟩;(try exact ⟨rfl,_,zN⟩))|(go_at_call 152;(with_reducible refine (gI.calls k (wrap64 ((wrap64 ((wrap64 ((wrap64 ((wrap64 (2*a3))+1))*a1)) - a2))+(wrap64 (4*(ji9))))) (wrap64 (2*a2)) t116 _ A11.out).mono ?_);rintro e w' ⟨rfl,⟨nd,rfl⟩⟩;(try exact ⟨rfl,_,zN⟩))))
  go_ret2
  exact ⟨by first|rfl|(simp [bG,bH] <;> rfl)|(simp only [← mM];first|rfl|(simp [bG,bH] <;> rfl))|(simp [*,bG,bH] <;> rfl),zB⟩
 ·replace c6:=Bool.eq_false_iff.mpr c6
  subst c6
  rw [if_neg (show ¬ (false=true) by decide)] at H;try dsimp only at H
  simp only [Option.some.injEq,Prod.mk.injEq] at H
  obtain ⟨rfl,rfl⟩:=H
  go_enter Tryz.func128,Tryz.ntmps128
  go_wp2_with (first|(go_at_call 151;(with_reducible refine (iY.calls 1 a1 a2 a3 false _ A5.out).mono ?_);rintro e w' ⟨rfl,⟨nd,rfl⟩⟩;(try exact ⟨rfl,_,zN⟩)))
  repeat (go_quiet (first|(go_at_call 151;(with_reducible refine (iY.calls 1 a1 a2 a3 false _ A5.out).mono ?_);rintro e w' ⟨rfl,⟨nd,rfl⟩⟩;(try exact ⟨rfl,_,zN⟩)));try go_wp2_with (first|(go_at_call 151;(with_reducible refine (iY.calls 1 a1 a2 a3 false _ A5.out).mono ?_);rintro e w' ⟨rfl,⟨nd,rfl⟩⟩;(try exact ⟨rfl,_,zN⟩))))
  go_ret2
  exact ⟨zS,zB⟩
def jC.f (k:Nat) (a1 a2 a3:Int):Option (Int × Int):=(iY.f 2 a1 a2 a3).bind fun t117=>(if t117=true then ((bZ.f k (wrap64 (a3*a1)) a2).bind fun alX=>((gI.f k (wrap64 ((wrap64 (a3+1))*a1)) a2).bind fun t119=>((bZ.f k (wrap64 ((wrap64 ((wrap64 ((wrap64 ((wrap64 (2*a3))+1))*a1)) - a2)) - (wrap64 (6*(mx a1 a2))))) (wrap64 (2*a2))).bind fun acR=>((gI.f k (wrap64 ((wrap64 ((wrap64 ((wrap64 ((wrap64 (2*a3))+1))*a1)) - a2))+(wrap64 (6*(mx a1 a2))))) (wrap64 (2*a2))).bind fun aft=>(some (wrap64 (acR+1),wrap64 (aft - (wrap64 (acR+1))))))))) else (some (0,0)))
theorem jC.mono:∀ a1 a2 a3 k,LeO (jC.f k a1 a2 a3) (jC.f (k+1) a1 a2 a3):=by
 intro a1 a2 a3 k
 unfold jC.f
 repeat' (with_reducible first|exact bZ.mono _ _ _|exact gI.mono _ _ _|exact zM|refine LeO.ite ?_ ?_|refine LeO.bind ?_ (fun _ => ?_))
set_option maxHeartbeats 8000000 in
set_option maxRecDepth 100000 in
theorem jC.calls (k:Nat) (a1 a2 a3 r1 r2:Int) (w:World) (hG:GL w) (h:jC.f k a1 a2 a3=some (r1,r2)) :
  Calls Tryz.prog 128 #[.int .i64 2,.int .i64 a1,.int .i64 a2,.int .i64 a3] w fun e w'=>e = .returned (.tuple #[.int .i64 r1,.int .i64 r2])∧Below w.heap.size w w':=by
 have HB:=aj.mk (Below.refl w.heap.size w)
 have H:=h
 clear h
 unfold jC.f at H
 obtain ⟨⟨aaC,aaD,aaE,aaF,aaG,aaH⟩,⟨aaI,aaJ,aaK,aaL,aaM,aaN,aaO⟩⟩:=hG
 replace H:=zO H
 obtain ⟨t117,A5,H⟩:=H
 try dsimp only at H
 by_cases c6:t117=true
 ·subst c6
  rw [if_pos rfl] at H;try dsimp only at H
  replace H:=zO H
  obtain ⟨alX,A7,H⟩:=H
  try dsimp only at H
  replace H:=zO H
  obtain ⟨t119,A8,H⟩:=H
  try dsimp only at H
  obtain ⟨ji9,mM⟩:∃ j_:Int,(mx a1 a2)=j_:=⟨_,rfl⟩
  replace H:((bZ.f k (wrap64 ((wrap64 ((wrap64 ((wrap64 ((wrap64 (2*a3))+1))*a1)) - a2)) - (wrap64 (6*(ji9))))) (wrap64 (2*a2))).bind fun acR=>((gI.f k (wrap64 ((wrap64 ((wrap64 ((wrap64 ((wrap64 (2*a3))+1))*a1)) - a2))+(wrap64 (6*(ji9))))) (wrap64 (2*a2))).bind fun aft=>(some (wrap64 (acR+1),wrap64 (aft - (wrap64 (acR+1)))))))=some (r1,r2):=by first|(rw [mM] at H;exact H)|(simp only [mM] at H ⊢;exact H)
  (try rw [mM] at A5)
  (try rw [mM] at A7)
  (try rw [mM] at A8)
  have alW:(if a1 < a2 then a2 else a1)=ji9:=mM
  replace H:=zO H
  obtain ⟨acR,A10,H⟩:=H
  try dsimp only at H
  replace H:=zO H
  obtain ⟨aft,A11,H⟩:=H
  try dsimp only at H
  simp only [Option.some.injEq,Prod.mk.injEq] at H
  obtain ⟨rfl,rfl⟩:=H
  go_enter Tryz.func128,Tryz.ntmps128
  go_wp2_with (first|(go_at_call 151;(with_reducible refine (iY.calls 2 a1 a2 a3 true _ A5.out).mono ?_);rintro e w' ⟨rfl,⟨nd,rfl⟩⟩;(try exact ⟨rfl,_,zN⟩))|(go_at_call 133;(with_reducible refine (bZ.calls k (wrap64 (a3*a1)) a2 alX _ A7.out).mono ?_);rintro e w' ⟨rfl,⟨nd,rfl⟩⟩;(try exact ⟨rfl,_,zN⟩))|(go_at_call 152;(with_reducible refine (gI.calls k (wrap64 ((wrap64 (a3+1))*a1)) a2 t119 _ A8.out).mono ?_);rintro e w' ⟨rfl,⟨nd,rfl⟩⟩;(try exact ⟨rfl,_,zN⟩))|(go_at_call 133;(with_reducible refine (bZ.calls k (wrap64 ((wrap64 ((wrap64 ((wrap64 ((wrap64 (2*a3))+1))*a1)) - a2)) - (wrap64 (6*(ji9))))) (wrap64 (2*a2)) acR _ A10.out).mono ?_);rintro e w' ⟨rfl,⟨nd,rfl⟩⟩;(try exact ⟨rfl,_,zN⟩))|(go_at_call 152;(with_reducible refine (gI.calls k (wrap64 ((wrap64 ((wrap64 ((wrap64 ((wrap64 (2*a3))+1))*a1)) - a2))+(wrap64 (6*(ji9))))) (wrap64 (2*a2)) aft _ A11.out).mono ?_);rintro e w' ⟨rfl,⟨nd,rfl⟩⟩;(try exact ⟨rfl,_,zN⟩)))
  repeat (go_quiet (first|(go_at_call 151;(with_reducible refine (iY.calls 2 a1 a2 a3 true _ A5.out).mono ?_);rintro e w' ⟨rfl,⟨nd,rfl⟩⟩;(try exact ⟨rfl,_,zN⟩))|(go_at_call 133;(with_reducible refine (bZ.calls k (wrap64 (a3*a1)) a2 alX _ A7.out).mono ?_);rintro e w' ⟨rfl,⟨nd,rfl⟩⟩;(try exact ⟨rfl,_,zN⟩))|(go_at_call 152;(with_reducible refine (gI.calls k (wrap64 ((wrap64 (a3+1))*a1)) a2 t119 _ A8.out).mono ?_);rintro e w' ⟨rfl,⟨nd,rfl⟩⟩;(try exact ⟨rfl,_,zN⟩))|(go_at_call 133;(with_reducible refine (bZ.calls k (wrap64 ((wrap64 ((wrap64 ((wrap64 ((wrap64 (2*a3))+1))*a1)) - a2)) - (wrap64 (6*(ji9))))) (wrap64 (2*a2)) acR _ A10.out).mono ?_);rintro e w' ⟨rfl,⟨nd,rfl⟩⟩;(try exact ⟨rfl,_,zN⟩))|(go_at_call 152;(with_reducible refine (gI.calls k (wrap64 ((wrap64 ((wrap64 ((wrap64 ((wrap64 (2*a3))+1))*a1)) - a2))+(wrap64 (6*(ji9))))) (wrap64 (2*a2)) aft _ A11.out).mono ?_);rintro e w' ⟨rfl,⟨nd,rfl⟩⟩;(try exact ⟨rfl,_,zN⟩)));try go_wp2_with (first|(go_at_call 151;(with_reducible refine (iY.calls 2 a1 a2 a3 true _ A5.out).mono ?_);rintro e w' ⟨rfl,⟨nd,rfl⟩⟩;(try exact ⟨rfl,_,zN⟩))|(go_at_call 133;(with_reducible refine (bZ.calls k (wrap64 (a3*a1)) a2 alX _ A7.out).mono ?_);rintro e w' ⟨rfl,⟨nd,rfl⟩⟩;(try exact ⟨rfl,_,zN⟩))|(go_at_call 152;(with_reducible refine (gI.calls k (wrap64 ((wrap64 (a3+1))*a1)) a2 t119 _ A8.out).mono ?_);rintro e w' ⟨rfl,⟨nd,rfl⟩⟩;(try exact ⟨rfl,_,zN⟩))|(go_at_call 133;(with_reducible refine (bZ.calls k (wrap64 ((wrap64 ((wrap64 ((wrap64 ((wrap64 (2*a3))+1))*a1)) - a2)) - (wrap64 (6*(ji9))))) (wrap64 (2*a2)) acR _ A10.out).mono ?_);rintro e w' ⟨rfl,⟨nd,rfl⟩⟩;(try exact ⟨rfl,_,zN⟩))|(go_at_call 152;(with_reducible refine (gI.calls k (wrap64 ((wrap64 ((wrap64 ((wrap64 ((wrap64 (2*a3))+1))*a1)) - a2))+(wrap64 (6*(ji9))))) (wrap64 (2*a2)) aft _ A11.out).mono ?_);rintro e w' ⟨rfl,⟨nd,rfl⟩⟩;(try exact ⟨rfl,_,zN⟩))))
  go_ret2
  exact ⟨by first|rfl|(simp [bG,bH] <;> rfl)|(simp only [← mM];first|rfl|(simp [bG,bH] <;> rfl))|(simp [*,bG,bH] <;> rfl),zB⟩
 ·replace c6:=Bool.eq_false_iff.mpr c6
  subst c6
  rw [if_neg (show ¬ (false=true) by decide)] at H;try dsimp only at H
  simp only [Option.some.injEq,Prod.mk.injEq] at H
  obtain ⟨rfl,rfl⟩:=H
  go_enter Tryz.func128,Tryz.ntmps128
  go_wp2_with (first|(go_at_call 151;(with_reducible refine (iY.calls 2 a1 a2 a3 false _ A5.out).mono ?_);rintro e w' ⟨rfl,⟨nd,rfl⟩⟩;(try exact ⟨rfl,_,zN⟩)))
  repeat (go_quiet (first|(go_at_call 151;(with_reducible refine (iY.calls 2 a1 a2 a3 false _ A5.out).mono ?_);rintro e w' ⟨rfl,⟨nd,rfl⟩⟩;(try exact ⟨rfl,_,zN⟩)));try go_wp2_with (first|(go_at_call 151;(with_reducible refine (iY.calls 2 a1 a2 a3 false _ A5.out).mono ?_);rintro e w' ⟨rfl,⟨nd,rfl⟩⟩;(try exact ⟨rfl,_,zN⟩))))
  go_ret2
  exact ⟨zS,zB⟩
def jD.f (k:Nat) (a0 a1 a2 a3:Int):Option (Int × Int):=(iY.f a0 a1 a2 a3).bind fun aov=>(if aov=true then ((bZ.f k (wrap64 (a3*a1)) a2).bind fun aho=>((gI.f k (wrap64 ((wrap64 (a3+1))*a1)) a2).bind fun t124=>(if a0=0 then (some (aho,wrap64 (t124 - aho))) else (none)))) else (some (0,0)))
theorem jD.mono:∀ a0 a1 a2 a3 k,LeO (jD.f k a0 a1 a2 a3) (jD.f (k+1) a0 a1 a2 a3):=by
 intro a0 a1 a2 a3 k
 unfold jD.f
 repeat' (with_reducible first|exact bZ.mono _ _ _|exact gI.mono _ _ _|exact zM|refine LeO.ite ?_ ?_|refine LeO.bind ?_ (fun _ => ?_))
set_option maxHeartbeats 8000000 in
set_option maxRecDepth 100000 in
theorem jD.calls (k:Nat) (a0 a1 a2 a3 r1 r2:Int) (w:World) (hG:GL w) (h:jD.f k a0 a1 a2 a3=some (r1,r2)) :
  Calls Tryz.prog 128 #[.int .i64 a0,.int .i64 a1,.int .i64 a2,.int .i64 a3] w fun e w'=>e = .returned (.tuple #[.int .i64 r1,.int .i64 r2])∧Below w.heap.size w w':=by
 have HB:=aj.mk (Below.refl w.heap.size w)
 have H:=h
 clear h
 unfold jD.f at H
 obtain ⟨⟨aaC,aaD,aaE,aaF,aaG,aaH⟩,⟨aaI,aaJ,aaK,aaL,aaM,aaN,aaO⟩⟩:=hG
 replace H:=zO H
 obtain ⟨aov,A5,H⟩:=H
 try dsimp only at H
 by_cases c6:aov=true
 ·subst c6
  rw [if_pos rfl] at H;try dsimp only at H
  replace H:=zO H
  obtain ⟨aho,A7,H⟩:=H
  try dsimp only at H
  replace H:=zO H
  obtain ⟨t124,A8,H⟩:=H
  try dsimp only at H
  by_cases c9:a0=0
  ·rw [if_pos c9] at H
   have qO:(a0 == 0)=true:=beq_iff_eq.mpr c9
   have afu:(a0 != 0)=false:=bne_eq_false_iff_eq.mpr c9
   clear c9
   simp only [Option.some.injEq,Prod.mk.injEq] at H
   obtain ⟨rfl,rfl⟩:=H
   go_enter Tryz.func128,Tryz.ntmps128
   go_wp2_with (first|(go_at_call 151;(with_reducible refine (iY.calls a0 a1 a2 a3 true _ A5.out).mono ?_);rintro e w' ⟨rfl,⟨nd,rfl⟩⟩;(try exact ⟨rfl,_,zN⟩))|(go_at_call 133;(with_reducible refine (bZ.calls k (wrap64 (a3*a1)) a2 aho _ A7.out).mono ?_);rintro e w' ⟨rfl,⟨nd,rfl⟩⟩;(try exact ⟨rfl,_,zN⟩))|(go_at_call 152;(with_reducible refine (gI.calls k (wrap64 ((wrap64 (a3+1))*a1)) a2 t124 _ A8.out).mono ?_);rintro e w' ⟨rfl,⟨nd,rfl⟩⟩;(try exact ⟨rfl,_,zN⟩)))
   repeat (go_quiet (first|(go_at_call 151;(with_reducible refine (iY.calls a0 a1 a2 a3 true _ A5.out).mono ?_);rintro e w' ⟨rfl,⟨nd,rfl⟩⟩;(try exact ⟨rfl,_,zN⟩))|(go_at_call 133;(with_reducible refine (bZ.calls k (wrap64 (a3*a1)) a2 aho _ A7.out).mono ?_);rintro e w' ⟨rfl,⟨nd,rfl⟩⟩;(try exact ⟨rfl,_,zN⟩))|(go_at_call 152;(with_reducible refine (gI.calls k (wrap64 ((wrap64 (a3+1))*a1)) a2 t124 _ A8.out).mono ?_);rintro e w' ⟨rfl,⟨nd,rfl⟩⟩;(try exact ⟨rfl,_,zN⟩)));try go_wp2_with (first|(go_at_call 151;(with_reducible refine (iY.calls a0 a1 a2 a3 true _ A5.out).mono ?_);rintro e w' ⟨rfl,⟨nd,rfl⟩⟩;(try exact ⟨rfl,_,zN⟩))|(go_at_call 133;(with_reducible refine (bZ.calls k (wrap64 (a3*a1)) a2 aho _ A7.out).mono ?_);rintro e w' ⟨rfl,⟨nd,rfl⟩⟩;(try exact ⟨rfl,_,zN⟩))|(go_at_call 152;(with_reducible refine (gI.calls k (wrap64 ((wrap64 (a3+1))*a1)) a2 t124 _ A8.out).mono ?_);rintro e w' ⟨rfl,⟨nd,rfl⟩⟩;(try exact ⟨rfl,_,zN⟩))))
   go_ret2
   exact ⟨zS,zB⟩
  ·rw [if_neg c9] at H
   exact absurd H (by simp)
 ·replace c6:=Bool.eq_false_iff.mpr c6
  subst c6
  rw [if_neg (show ¬ (false=true) by decide)] at H;try dsimp only at H
  simp only [Option.some.injEq,Prod.mk.injEq] at H
  obtain ⟨rfl,rfl⟩:=H
  go_enter Tryz.func128,Tryz.ntmps128
  go_wp2_with (first|(go_at_call 151;(with_reducible refine (iY.calls a0 a1 a2 a3 false _ A5.out).mono ?_);rintro e w' ⟨rfl,⟨nd,rfl⟩⟩;(try exact ⟨rfl,_,zN⟩)))
  repeat (go_quiet (first|(go_at_call 151;(with_reducible refine (iY.calls a0 a1 a2 a3 false _ A5.out).mono ?_);rintro e w' ⟨rfl,⟨nd,rfl⟩⟩;(try exact ⟨rfl,_,zN⟩)));try go_wp2_with (first|(go_at_call 151;(with_reducible refine (iY.calls a0 a1 a2 a3 false _ A5.out).mono ?_);rintro e w' ⟨rfl,⟨nd,rfl⟩⟩;(try exact ⟨rfl,_,zN⟩))))
  go_ret2
  exact ⟨zS,zB⟩
def kQ.f (k:Nat) (a0 a1 a2 a3:Int):Option (Int × Int):=if a0=1 then jB.f k a1 a2 a3 else if a0=2 then jC.f k a1 a2 a3 else jD.f k a0 a1 a2 a3
theorem kQ.mono:∀ a0 a1 a2 a3 k,LeO (kQ.f k a0 a1 a2 a3) (kQ.f (k+1) a0 a1 a2 a3):=by
 intro a0 a1 a2 a3 k
 unfold kQ.f
 exact LeO.ite (jB.mono _ _ _ _) (LeO.ite (jC.mono _ _ _ _) (jD.mono _ _ _ _ _))
theorem kQ.calls (k:Nat) (a0 a1 a2 a3 r1 r2:Int) (w:World) (hG:GL w) (h:kQ.f k a0 a1 a2 a3=some (r1,r2)) :
  Calls Tryz.prog 128 #[.int .i64 a0,.int .i64 a1,.int .i64 a2,.int .i64 a3] w fun e w'=>e = .returned (.tuple #[.int .i64 r1,.int .i64 r2])∧Below w.heap.size w w':=by
 unfold kQ.f at h
 by_cases c1:a0=1
 ·subst c1;exact jB.calls k a1 a2 a3 r1 r2 w hG (by rw [if_pos rfl] at h;exact h)
 ·rw [if_neg c1] at h
  by_cases c2:a0=2
  ·subst c2;exact jC.calls k a1 a2 a3 r1 r2 w hG (by rw [if_pos rfl] at h;exact h)
  ·rw [if_neg c2] at h
   exact jD.calls k a0 a1 a2 a3 r1 r2 w hG h
def nD.f (a0:Int):Option (Int):=if a0 < 0 then (some (IntKind.u64.wrap (-(IntKind.u64.wrap (a0))))) else (some (IntKind.u64.wrap (a0)))
set_option maxHeartbeats 8000000 in
set_option maxRecDepth 100000 in
theorem nD.calls (a0 r:Int) (w:World) (h:nD.f a0=some r) :
  Calls Tryz.prog 155 #[.int .i64 a0] w fun e w'=>e = .returned (.int .u64 r)∧dw w w':=by
 have H:=h
 clear h
 unfold nD.f at H
 by_cases c2:a0 < 0
 ·rw [if_pos c2] at H
  have lW:=decide_eq_true c2
  clear c2
  obtain rfl:=Option.some.inj H
  go_enter Tryz.func155,Tryz.ntmps155
  go_wp2
  go_ret
  exact ⟨zT,zW⟩
 ·rw [if_neg c2] at H
  have lW:=decide_eq_false c2
  clear c2
  obtain rfl:=Option.some.inj H
  go_enter Tryz.func155,Tryz.ntmps155
  go_wp2
  go_ret
  exact ⟨zT,zW⟩
def bits_Mul64.f (a0 a1:Int):Option (Int × Int):=if 0≤a0∧a0 < 18446744073709551616∧0≤a1∧a1 < 18446744073709551616 then some (a0*a1 / 18446744073709551616,a0*a1 % 18446744073709551616) else none
theorem bits_Mul64.calls (a0 a1 r1 r2:Int) (w:World) (h:bits_Mul64.f a0 a1=some (r1,r2)) :
  Calls Tryz.prog 178 #[.int .u64 a0,.int .u64 a1] w fun e w'=>e = .returned (.tuple #[.int .u64 r1,.int .u64 r2])∧dw w w':=by
 unfold bits_Mul64.f at h
 by_cases c:0≤a0∧a0 < 18446744073709551616∧0≤a1∧a1 < 18446744073709551616
 ·rw [if_pos c] at h
  obtain ⟨h0,h1,h2,h3⟩:=c
  obtain ⟨rfl,rfl⟩:=Prod.mk.inj (Option.some.inj h)
  obtain ⟨x,rfl⟩:=Int.eq_ofNat_of_zero_le h0
  obtain ⟨y,rfl⟩:=Int.eq_ofNat_of_zero_le h2
  exact (Tryz.bits_Mul64 x y (by omega) (by omega) w).mono fun e w' ⟨he,hw⟩=>⟨by rw [he];congr 4,by rw [hw];exact dw.refl _⟩
 ·rw [if_neg c] at h;exact absurd h (by simp)
def ku.f (a0 a1:Int):Option (Int × Int × Bool):=(nD.f a0).bind fun ajA=>((nD.f a1).bind fun ajB=>((bits_Mul64.f ajA ajB).bind fun aqB=>(some (aqB.1,aqB.2,((decide (a0 < 0)) != (decide (a1 < 0)))))))
set_option maxHeartbeats 8000000 in
set_option maxRecDepth 100000 in
theorem ku.calls (a0 a1 r1 r2:Int) (r3:Bool) (w:World) (h:ku.f a0 a1=some (r1,r2,r3)) :
  Calls Tryz.prog 154 #[.int .i64 a0,.int .i64 a1] w fun e w'=>e = .returned (.tuple #[.int .u64 r1,.int .u64 r2,.bool r3])∧dw w w':=by
 have H:=h
 clear h
 unfold ku.f at H
 replace H:=zO H
 obtain ⟨ajA,A3,H⟩:=H
 try dsimp only at H
 replace H:=zO H
 obtain ⟨ajB,A4,H⟩:=H
 try dsimp only at H
 replace H:=zO H
 obtain ⟨⟨t127,avL⟩,A5,H⟩:=H
 try dsimp only at H
 simp only [Option.some.injEq,Prod.mk.injEq] at H
 obtain ⟨rfl,rfl,rfl⟩:=H
 go_enter Tryz.func154,Tryz.ntmps154
 go_wp2_with (first|((with_reducible refine aA (f:=155) rfl ?_);refine aH (some 9) rfl rfl Tryz.func155 (by kernel_rfl) rfl #[.int .i64 a0] rfl zL ?_;(with_reducible refine (nD.calls a0 ajA _ A3.out).mono ?_);rintro e w' ⟨rfl,⟨nd,rfl⟩⟩;refine ⟨_,rfl,?_⟩)|((with_reducible refine aA (f:=155) rfl ?_);refine aH (some 11) rfl rfl Tryz.func155 (by kernel_rfl) rfl #[.int .i64 a1] rfl zL ?_;(with_reducible refine (nD.calls a1 ajB _ A4.out).mono ?_);rintro e w' ⟨rfl,⟨nd,rfl⟩⟩;refine ⟨_,rfl,?_⟩)|((with_reducible refine aA (f:=178) rfl ?_);refine aH (some 12) rfl rfl Tryz.func178 (by kernel_rfl) rfl #[.int .u64 ajA,.int .u64 ajB] rfl zL ?_;(with_reducible refine (bits_Mul64.calls ajA ajB t127 avL _ A5.out).mono ?_);rintro e w' ⟨rfl,⟨nd,rfl⟩⟩;refine ⟨_,rfl,?_⟩))
 go_ret3
 exact ⟨zT,zW⟩
end Go.Proofs.YtpondkggmcmpfaaGreatDoor.QA
namespace Go.Proofs.YtpondkggmcmpfaaGreatDoor.QA
open Go.Proofs.YtpondkggmcmpfaaGreatDoor.T
open Go.RowKit Go.Proofs.YtpondkggmcmpfaaGreatDoorW.PrintWords Go.Proofs.YtpondkggmcmpfaaGreatDoorW.PrintLast Go.Proofs.YtpondkggmcmpfaaGreatDoorW.PrintMore
attribute [local go_sem] dY dS dU fA fB
set_option linter.unusedVariables false
set_option linter.unusedSimpArgs false
def kM.j0:Nat→Int→Int→Bool→Option (Int)
 | 0,_,_,_=>none
 | k+1,x0,x1,x11=>if x11=true then (some 0) else (if x1=0 then (none) else (if (Int.tmod x0 x1)=0 then (some (Int.tmod x0 x1)) else (if ((decide ((Int.tmod x0 x1) < 0)) != (decide (x1 < 0)))=true then (some (wrap64 ((Int.tmod x0 x1)+x1))) else (some (Int.tmod x0 x1)))))
def kM.f (k:Nat) (a0 a1:Int):Option (Int):=if a1=0 then (kM.j0 k a0 a1 true) else (kM.j0 k a0 a1 (a1 == (-1)))
set_option maxHeartbeats 8000000 in
set_option maxRecDepth 100000 in
theorem kM.calls (k:Nat) (a0 a1 r:Int) (w:World) (h:kM.f k a0 a1=some r) :
  Calls Tryz.prog 103 #[.int .i64 a0,.int .i64 a1] w fun e w'=>e = .returned (.int .i64 r)∧dw w w':=by
 have H:=h
 clear h
 unfold kM.f at H
 have HC3:=aj.mk H
 clear H
 go_enter Tryz.func103,Tryz.ntmps103
 go_upto_region 1 with (fail)
 go_cut [11] (fun v11 wc=>∃ (kq:Nat) (aiW:Bool),v11 = .bool aiW∧aj (kM.j0 kq a0 a1 aiW=some r)∧aj (kq≤k)∧dw w wc)
 case first =>
  have H:=HC3.out
  clear HC3
  by_cases c4:a1=0
  ·rw [if_pos c4] at H
   have fV:(a1 == 0)=true:=beq_iff_eq.mpr c4
   have acS:(a1 != 0)=false:=bne_eq_false_iff_eq.mpr c4
   clear c4
   (first|rw [fV]|(simp only [bW,dA];rw [fV])|skip)
   have H':=aj.mk H
   clear H
   go_wp2
   go_meet
   case rel=>exact ⟨_,(true),zT,H',⟨by first|omega|exact Nat.le_refl _⟩,zW⟩
  ·rw [if_neg c4] at H
   have fV:(a1 == 0)=false:=beq_eq_false_iff_ne.mpr c4
   have acS:(a1 != 0)=true:=bne_iff_ne.mpr c4
   (first|rw [fV]|(simp only [bW,dA];rw [fV])|skip)
   have H':=aj.mk H
   clear H
   go_wp2
   go_meet
   case rel=>exact ⟨_,((a1 == (-1))),zT,H',⟨by first|omega|exact Nat.le_refl _⟩,zW⟩
 case rest =>
  clear HC3
  obtain ⟨kq,aiW,rfl,HA,HJ2,⟨mc2,rfl⟩⟩:=hcut
  cases kq with
  | zero=>exact absurd HA.out (by simp [kM.j0])
  | succ kj2 =>
   have H:=HA.out
   clear HA
   simp only [kM.j0] at H
   by_cases c5:aiW=true
   ·subst c5
    rw [if_pos rfl] at H;try dsimp only at H
    obtain rfl:=Option.some.inj H
    go_wp2
    go_ret
    exact ⟨zT,zW⟩
   ·replace c5:=Bool.eq_false_iff.mpr c5
    subst c5
    rw [if_neg (show ¬ (false=true) by decide)] at H;try dsimp only at H
    by_cases c6:a1=0
    ·rw [if_pos c6] at H
     exact absurd H (by simp)
    ·rw [if_neg c6] at H
     have iy:(a1 == 0)=false:=beq_eq_false_iff_ne.mpr c6
     have uD:(a1 != 0)=true:=bne_iff_ne.mpr c6
     by_cases c7:(Int.tmod a0 a1)=0
     ·rw [if_pos c7] at H
      have jw:((Int.tmod a0 a1) == 0)=true:=beq_iff_eq.mpr c7
      have abl:((Int.tmod a0 a1) != 0)=false:=bne_eq_false_iff_eq.mpr c7
      clear c7
      obtain rfl:=Option.some.inj H
      go_wp2
      go_ret
      exact ⟨zT,zW⟩
     ·rw [if_neg c7] at H
      have jw:((Int.tmod a0 a1) == 0)=false:=beq_eq_false_iff_ne.mpr c7
      have abl:((Int.tmod a0 a1) != 0)=true:=bne_iff_ne.mpr c7
      by_cases c8:((decide ((Int.tmod a0 a1) < 0)) != (decide (a1 < 0)))=true
      ·rw [if_pos c8] at H
       have vX:((decide ((Int.tmod a0 a1) < 0)) != (decide (a1 < 0)))=true:=c8
       (try (have acP:decide ((decide ((Int.tmod a0 a1) < 0))=(decide (a1 < 0)))=false:=by simpa using c8))
       (try (have avM:((decide ((Int.tmod a0 a1) < 0)) == (decide (a1 < 0)))=false:=by simpa using c8))
       (try (have aAS:¬ ((decide ((Int.tmod a0 a1) < 0))=(decide (a1 < 0))):=by simpa using c8))
       clear c8
       obtain rfl:=Option.some.inj H
       go_wp2
       go_ret
       exact ⟨zT,zW⟩
      ·rw [if_neg c8] at H
       have vX:((decide ((Int.tmod a0 a1) < 0)) != (decide (a1 < 0)))=false:=by simpa using c8
       (try (have acP:decide ((decide ((Int.tmod a0 a1) < 0))=(decide (a1 < 0)))=true:=by simpa using c8))
       (try (have avM:((decide ((Int.tmod a0 a1) < 0)) == (decide (a1 < 0)))=true:=by simpa using c8))
       clear c8
       obtain rfl:=Option.some.inj H
       go_wp2
       go_ret
       exact ⟨zT,zW⟩
def kN.j0:Nat→Int→Int→Int→Bool→Option (Int)
 | 0,_,_,_,_=>none
 | k+1,x0,x1,x5,x9=>if x9=true then (some 9223372036854775807) else (if x1 < 0 then (if x5 > x0 then (some (-9223372036854775808)) else (some x5)) else (some x5))
def kN.f (k:Nat) (a0 a1:Int):Option (Int):=if a1 > 0 then (kN.j0 k a0 a1 (wrap64 (a0+a1)) (decide ((wrap64 (a0+a1)) < a0))) else (kN.j0 k a0 a1 (wrap64 (a0+a1)) false)
set_option maxHeartbeats 8000000 in
set_option maxRecDepth 100000 in
theorem kN.calls (k:Nat) (a0 a1 r:Int) (w:World) (h:kN.f k a0 a1=some r) :
  Calls Tryz.prog 162 #[.int .i64 a0,.int .i64 a1] w fun e w'=>e = .returned (.int .i64 r)∧dw w w':=by
 have H:=h
 clear h
 unfold kN.f at H
 have HC3:=aj.mk H
 clear H
 go_enter Tryz.func162,Tryz.ntmps162
 go_upto_region 2 with (fail)
 go_cut [9] (fun v9 wc=>∃ (kq:Nat) (aaS:Bool),v9 = .bool aaS∧aj (kN.j0 kq a0 a1 (wrap64 (a0+a1)) aaS=some r)∧aj (kq≤k)∧dw w wc)
 case first =>
  have H:=HC3.out
  clear HC3
  by_cases c4:a1 > 0
  ·rw [if_pos c4] at H
   have fV:=decide_eq_true c4
   clear c4
   (first|rw [fV]|(simp only [bW,dA];rw [fV])|skip)
   have H':=aj.mk H
   clear H
   go_wp2
   go_meet
   case rel=>exact ⟨_,(decide ((wrap64 (a0+a1)) < a0)),zT,H',⟨by first|omega|exact Nat.le_refl _⟩,zW⟩
  ·rw [if_neg c4] at H
   have fV:=decide_eq_false c4
   clear c4
   (first|rw [fV]|(simp only [bW,dA];rw [fV])|skip)
   have H':=aj.mk H
   clear H
   go_wp2
   go_meet
   case rel=>exact ⟨_,(false),zT,H',⟨by first|omega|exact Nat.le_refl _⟩,zW⟩
 case rest =>
  clear HC3
  obtain ⟨kq,aaS,rfl,HA,HJ2,⟨mc2,rfl⟩⟩:=hcut
  cases kq with
  | zero=>exact absurd HA.out (by simp [kN.j0])
  | succ kj2 =>
   have H:=HA.out
   clear HA
   simp only [kN.j0] at H
   by_cases c5:aaS=true
   ·subst c5
    rw [if_pos rfl] at H;try dsimp only at H
    obtain rfl:=Option.some.inj H
    go_wp2
    go_ret
    exact ⟨zT,zW⟩
   ·replace c5:=Bool.eq_false_iff.mpr c5
    subst c5
    rw [if_neg (show ¬ (false=true) by decide)] at H;try dsimp only at H
    by_cases c6:a1 < 0
    ·rw [if_pos c6] at H
     have iy:=decide_eq_true c6
     clear c6
     by_cases c7:(wrap64 (a0+a1)) > a0
     ·rw [if_pos c7] at H
      have jw:=decide_eq_true c7
      clear c7
      obtain rfl:=Option.some.inj H
      go_wp2
      go_ret
      exact ⟨zT,zW⟩
     ·rw [if_neg c7] at H
      have jw:=decide_eq_false c7
      clear c7
      obtain rfl:=Option.some.inj H
      go_wp2
      go_ret
      exact ⟨zT,zW⟩
    ·rw [if_neg c6] at H
     have iy:=decide_eq_false c6
     clear c6
     obtain rfl:=Option.some.inj H
     go_wp2
     go_ret
     exact ⟨zT,zW⟩
def mY.l0:Nat→Int→List Int→Int→Int→Option (Int)
 | 0,_,_,_,_=>none
 | k+1,x3,x6,x7,x8=>if x8 < x7 then (if 0≤x8 then (if x8 < (x6.length:Int) then ((kN.f k x3 (rd x6 x8)).bind fun alY=>(mY.l0 k alY x6 x7 (wrap64 (x8+1)))) else (none)) else (none)) else (some x3)
def mY.f (k:Nat) (l0:List Int):Option (Int):=mY.l0 k 0 l0 (l0.length:Int) 0
set_option maxHeartbeats 8000000 in
set_option maxRecDepth 100000 in
theorem mY.calls (k:Nat) (A0:Option Addr) (c0:Nat) (l0:List Int) (r:Int) (w:World) (hr0:Kd.C (Kd.int .i64) w A0 l0.length l0) (hc0:l0.length≤c0) (h:mY.f k l0=some r) :
  Calls Tryz.prog 132 #[.slice A0 l0.length c0] w fun e w'=>e = .returned (.int .i64 r)∧dw w w':=by
 have HR0:=aj.mk hr0
 have HC0:=aj.mk hc0
 clear hr0 hc0
 have H:=h
 clear h
 unfold mY.f at H
 have H':=aj.mk H
 clear H
 go_enter Tryz.func132,Tryz.ntmps132
 go_wp2
 go_loopg [3,8] k (fun kq v3 v8 w'=>∃ (qH:Int) (gZ:Int),v3 = .int .i64 qH∧v8 = .int .i64 gZ∧aj (mY.l0 kq qH l0 (l0.length:Int) gZ=some r)∧aj (kq≤k)∧dw w w')
 case atStart=>exact ⟨(0),(0),zT,zT,H',⟨Nat.le_refl _⟩,zW⟩
 case round =>
  clear H'
  obtain ⟨qH,gZ,rfl,rfl,HA,HK1,⟨m1,rfl⟩⟩:=hrel
  cases gk with
  | zero=>exact absurd HA.out (by simp [mY.l0])
  | succ k1 =>
   have H:=HA.out
   clear HA
   simp only [mY.l0] at H
   by_cases c2:gZ < (l0.length:Int)
   ·rw [if_pos c2] at H
    have lW:=decide_eq_true c2
    clear c2
    by_cases c3:0≤gZ
    ·rw [if_pos c3] at H
     have fQ:=decide_eq_true c3
     clear c3
     by_cases c4:gZ < (l0.length:Int)
     ·rw [if_pos c4] at H
      have fV:=decide_eq_true c4
      clear c4
      replace H:=zO H
      obtain ⟨alY,A5,H⟩:=H
      try dsimp only at H
      have H':=aj.mk H
      clear H
      have aow:0≤(gZ:Int):=of_decide_eq_true (by first|(with_reducible assumption)|assumption)
      have aox:gZ < (l0.length:Int):=of_decide_eq_true (by first|(with_reducible assumption)|assumption)
      obtain ⟨ayp,avN,aw6⟩:=Kd.jF HR0.out gZ aow aox
      cases avN
      replace aow:=eq_true aow
      replace aox:=eq_true aox
      go_wp2_with (first|((with_reducible refine aA (f:=162) rfl ?_);refine aH (some 14) rfl rfl Tryz.func162 (by kernel_rfl) rfl #[.int .i64 qH,.int .i64 (rd l0 gZ)] rfl zL ?_;(with_reducible refine (kN.calls k1 qH (rd l0 gZ) alY _ A5.out).mono ?_);rintro e w' ⟨rfl,⟨nd,rfl⟩⟩;refine ⟨_,rfl,?_⟩))
      go_roundg k1
      case measure=>have:=HK1.out;omega
      case rel=>exact ⟨(alY),(wrap64 (gZ+1)),zT,zT,H',⟨by have:=HK1.out;omega⟩,zW⟩
     ·rw [if_neg c4] at H
      exact absurd H (by simp)
    ·rw [if_neg c3] at H
     exact absurd H (by simp)
   ·rw [if_neg c2] at H
    have lW:=decide_eq_false c2
    clear c2
    obtain rfl:=Option.some.inj H
    go_wp2
    go_ret
    exact ⟨zT,zW⟩
end Go.Proofs.YtpondkggmcmpfaaGreatDoor.QA
namespace Go.Proofs.YtpondkggmcmpfaaGreatDoor.QA
open Go.Proofs.YtpondkggmcmpfaaGreatDoor.T
open Go.RowKit Go.Proofs.YtpondkggmcmpfaaGreatDoorW.PrintWords Go.Proofs.YtpondkggmcmpfaaGreatDoorW.PrintLast Go.Proofs.YtpondkggmcmpfaaGreatDoorW.PrintMore
attribute [local go_sem] dY dS dU fA fB
set_option linter.unusedVariables false
set_option linter.unusedSimpArgs false
def vY.f (k:Nat) (a0 a1:Int):Option (Int):=(fO.f a0).bind fun t173=>((fO.f a1).bind fun adK=>((bits_Mul64.f t173 adK).bind fun aqC=>(if aqC.1=0 then ((dK.f k aqC.2 ((decide (a0 < 0)) != (decide (a1 < 0)))).bind fun aoy=>(some aoy)) else ((dK.f k 18446744073709551615 ((decide (a0 < 0)) != (decide (a1 < 0)))).bind fun aoz=>(some aoz)))))
set_option maxHeartbeats 8000000 in
set_option maxRecDepth 100000 in
theorem vY.calls (k:Nat) (a0 a1 r:Int) (w:World) (h:vY.f k a0 a1=some r) :
  Calls Tryz.prog 181 #[.int .i64 a0,.int .i64 a1] w fun e w'=>e = .returned (.int .i64 r)∧dw w w':=by
 have H:=h
 clear h
 unfold vY.f at H
 replace H:=zO H
 obtain ⟨t173,A3,H⟩:=H
 try dsimp only at H
 replace H:=zO H
 obtain ⟨adK,A4,H⟩:=H
 try dsimp only at H
 replace H:=zO H
 obtain ⟨⟨t175,alZ⟩,A5,H⟩:=H
 try dsimp only at H
 by_cases c6:t175=0
 ·rw [if_pos c6] at H
  have iy:(t175 == 0)=true:=beq_iff_eq.mpr c6
  have uD:(t175 != 0)=false:=bne_eq_false_iff_eq.mpr c6
  clear c6
  replace H:=zO H
  obtain ⟨aoy,A7,H⟩:=H
  try dsimp only at H
  obtain rfl:=Option.some.inj H
  go_enter Tryz.func181,Tryz.ntmps181
  go_wp2_with (first|((with_reducible refine aA (f:=163) rfl ?_);refine aH (some 9) rfl rfl Tryz.func163 (by kernel_rfl) rfl #[.int .i64 a0] rfl zL ?_;(with_reducible refine (fO.calls a0 t173 _ A3.out).mono ?_);rintro e w' ⟨rfl,⟨nd,rfl⟩⟩;refine ⟨_,rfl,?_⟩)|((with_reducible refine aA (f:=163) rfl ?_);refine aH (some 11) rfl rfl Tryz.func163 (by kernel_rfl) rfl #[.int .i64 a1] rfl zL ?_;(with_reducible refine (fO.calls a1 adK _ A4.out).mono ?_);rintro e w' ⟨rfl,⟨nd,rfl⟩⟩;refine ⟨_,rfl,?_⟩)|((with_reducible refine aA (f:=178) rfl ?_);refine aH (some 12) rfl rfl Tryz.func178 (by kernel_rfl) rfl #[.int .u64 t173,.int .u64 adK] rfl zL ?_;(with_reducible refine (bits_Mul64.calls t173 adK t175 alZ _ A5.out).mono ?_);rintro e w' ⟨rfl,⟨nd,rfl⟩⟩;refine ⟨_,rfl,?_⟩)|((with_reducible refine aA (f:=164) rfl ?_);refine aH (some 23) rfl rfl Tryz.func164 (by kernel_rfl) rfl #[.int .u64 alZ,.bool ((decide (a0 < 0)) != (decide (a1 < 0)))] rfl zL ?_;(with_reducible refine (dK.calls k alZ ((decide (a0 < 0)) != (decide (a1 < 0))) aoy _ A7.out).mono ?_);rintro e w' ⟨rfl,⟨nd,rfl⟩⟩;refine ⟨_,rfl,?_⟩))
  go_ret
  exact ⟨zT,zW⟩
 ·rw [if_neg c6] at H
  have iy:(t175 == 0)=false:=beq_eq_false_iff_ne.mpr c6
  have uD:(t175 != 0)=true:=bne_iff_ne.mpr c6
  replace H:=zO H
  obtain ⟨aoz,A8,H⟩:=H
  try dsimp only at H
  obtain rfl:=Option.some.inj H
  go_enter Tryz.func181,Tryz.ntmps181
  go_wp2_with (first|((with_reducible refine aA (f:=163) rfl ?_);refine aH (some 9) rfl rfl Tryz.func163 (by kernel_rfl) rfl #[.int .i64 a0] rfl zL ?_;(with_reducible refine (fO.calls a0 t173 _ A3.out).mono ?_);rintro e w' ⟨rfl,⟨nd,rfl⟩⟩;refine ⟨_,rfl,?_⟩)|((with_reducible refine aA (f:=163) rfl ?_);refine aH (some 11) rfl rfl Tryz.func163 (by kernel_rfl) rfl #[.int .i64 a1] rfl zL ?_;(with_reducible refine (fO.calls a1 adK _ A4.out).mono ?_);rintro e w' ⟨rfl,⟨nd,rfl⟩⟩;refine ⟨_,rfl,?_⟩)|((with_reducible refine aA (f:=178) rfl ?_);refine aH (some 12) rfl rfl Tryz.func178 (by kernel_rfl) rfl #[.int .u64 t173,.int .u64 adK] rfl zL ?_;(with_reducible refine (bits_Mul64.calls t173 adK t175 alZ _ A5.out).mono ?_);rintro e w' ⟨rfl,⟨nd,rfl⟩⟩;refine ⟨_,rfl,?_⟩)|((with_reducible refine aA (f:=164) rfl ?_);refine aH (some 23) rfl rfl Tryz.func164 (by kernel_rfl) rfl #[.int .u64 18446744073709551615,.bool ((decide (a0 < 0)) != (decide (a1 < 0)))] rfl zL ?_;(with_reducible refine (dK.calls k 18446744073709551615 ((decide (a0 < 0)) != (decide (a1 < 0))) aoz _ A8.out).mono ?_);rintro e w' ⟨rfl,⟨nd,rfl⟩⟩;refine ⟨_,rfl,?_⟩))
  go_ret
  exact ⟨zT,zW⟩
def ug.f (k:Nat) (a0:Int):Option (Int):=(vY.f k a0 (-1)).bind fun ahp=>(some (mx a0 ahp))
set_option maxHeartbeats 8000000 in
set_option maxRecDepth 100000 in
theorem ug.calls (k:Nat) (a0 r:Int) (w:World) (h:ug.f k a0=some r) :
  Calls Tryz.prog 161 #[.int .i64 a0] w fun e w'=>e = .returned (.int .i64 r)∧Below w.heap.size w w':=by
 have HB:=aj.mk (Below.refl w.heap.size w)
 have H:=h
 clear h
 unfold ug.f at H
 replace H:=zO H
 obtain ⟨ahp,A2,H⟩:=H
 try dsimp only at H
 obtain ⟨ji3,ajC⟩:∃ j_:Int,(mx a0 ahp)=j_:=⟨_,rfl⟩
 replace H:(some ji3)=some r:=by first|(rw [ajC] at H;exact H)|(simp only [ajC] at H ⊢;exact H)
 (try rw [ajC] at A2)
 have ayq:(if a0 < ahp then ahp else a0)=ji3:=ajC
 obtain rfl:=Option.some.inj H
 go_enter Tryz.func161,Tryz.ntmps161
 go_wp2_with (first|((with_reducible refine aA (f:=181) rfl ?_);refine aH (some 5) rfl rfl Tryz.func181 (by kernel_rfl) rfl #[.int .i64 a0,.int .i64 (-1)] rfl zL ?_;(with_reducible refine (vY.calls k a0 (-1) ahp _ A2.out).mono ?_);rintro e w' ⟨rfl,⟨nd,rfl⟩⟩;refine ⟨_,rfl,?_⟩))
 go_ret
 exact ⟨by first|rfl|(simp [bG,bH] <;> rfl)|(simp only [← ajC];first|rfl|(simp [bG,bH] <;> rfl))|(simp [*,bG,bH] <;> rfl),zB⟩
end Go.Proofs.YtpondkggmcmpfaaGreatDoor.QA
