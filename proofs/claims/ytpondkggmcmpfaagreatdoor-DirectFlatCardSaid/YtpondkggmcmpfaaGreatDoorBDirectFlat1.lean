/- Joined by wip/tools/bundle.py out of: TGlob Shelf WTab WFour WFootNe WAt WEqStruct WRepsOne WInv WInvWords WGuard QAx0 QAx1 QAx2 QAx3 QAx4 QAx5. -/
import Derived.Shelf.Bits.Mul64
import Derived.Shelf.SlSortCmp.Insertion1
import Derived.Test.YtpondkggmcmpfaaGreatDoorBDirectFlat0
set_option maxHeartbeats 8000000
set_option maxRecDepth 100000
namespace Go.Proofs.YtpondkggmcmpfaaGreatDoor.T
open Go.RowKit
def GL (w:World):Prop:=(w.cell? ⟨1,0,none⟩=some (.string (⟨#[98,111,120]⟩:ByteArray))/\w.cell? ⟨1,1,none⟩=some (.int .i64 0)/\w.cell? ⟨1,2,none⟩=some (.string (⟨#[99,117,98,105,99]⟩:ByteArray))/\w.cell? ⟨1,3,none⟩=some (.int .i64 2)/\w.cell? ⟨1,4,none⟩=some (.string (⟨#[108,97,110,99,122,111,115]⟩:ByteArray))/\w.cell? ⟨1,5,none⟩=some (.int .i64 3))/\(∃ (a:Addr) (c:Nat),3<=c/\w.cell? ⟨0,0,none⟩=some (.slice (some a) 3 c)/\w.cell? a=some (.string (⟨#[99,108,97,109,112]⟩:ByteArray))/\w.cell? ⟨a.block,a.off+1,none⟩=some (.string (⟨#[109,105,114,114,111,114]⟩:ByteArray))/\w.cell? ⟨a.block,a.off+2,none⟩=some (.string (⟨#[119,114,97,112]⟩:ByteArray)))
theorem cell_below {w w':World} {p:Addr} {v:Value} (h:w.cell? p=some v) (hb:Below w.heap.size w w'):w'.cell? p=some v:=(hb.cell (World.block_lt_of_cell? w _ h)).trans h
theorem GL.below {w w':World} (h:GL w) (hb:Below w.heap.size w w'):GL w':=by
 obtain ⟨⟨abk,abl,abm,abn,abo,abp⟩,⟨abq,abr,abt,abu,abv,abw,abx⟩⟩:=h;exact ⟨⟨cell_below abk hb,cell_below abl hb,cell_below abm hb,cell_below abn hb,cell_below abo hb,cell_below abp hb⟩,⟨abq,abr,abt,cell_below abu hb,cell_below abv hb,cell_below abw hb,cell_below abx hb⟩⟩
end Go.Proofs.YtpondkggmcmpfaaGreatDoor.T
namespace Go.Proofs
open Go.Shelf
def Tryz.lays134_ren:Go.Shelf.Ren:=⟨fun|134=>179|129=>190|n=>n,fun|53=>177|3=>3|4=>4|46=>196|5=>5|9=>9|n=>n,fun|n=>n⟩
theorem Tryz.lays134:Go.Proofs.Lays.n134 Tryz.prog Tryz.lays134_ren:={
  mixed:=by kernel_rfl
  f129:=Tryz.func190.trans (congrArg some (by kernel_rfl))
  f134:=Tryz.func179.trans (congrArg some (by kernel_rfl))
  t3:=Tryz.underlying3
  a3:=Tryz.isAgg3
  z3:=Tryz.sizeOf3
  v3:=Tryz.zeroValue3
  t4:=Tryz.underlying4
  a4:=Tryz.isAgg4
  z4:=Tryz.sizeOf4
  v4:=Tryz.zeroValue4
  t5:=Tryz.underlying5
  a5:=Tryz.isAgg5
  z5:=Tryz.sizeOf5
  v5:=Tryz.zeroValue5
  t9:=Tryz.underlying9
  a9:=Tryz.isAgg9
  z9:=Tryz.sizeOf9
  v9:=Tryz.zeroValue9
  t46:=Tryz.underlying196
  a46:=Tryz.isAgg196
  z46:=Tryz.sizeOf196
  v46:=Tryz.zeroValue196
  t53:=Tryz.underlying177
  a53:=Tryz.isAgg177
  z53:=Tryz.sizeOf177
  v53:=Tryz.zeroValue177 }
theorem Tryz.bits_LeadingZeros64 (x:Int) (w:World) (h0:0<=x) (h1:x<=18446744073709551615) :
   Calls Tryz.prog 179 #[.int .u64 x] w fun e w'=>e = .returned (.int .i64 (64 - (Lib.bitLen x.toNat:Int)))/\w'=w:=Any.bits_LeadingZeros64 Tryz.lays134 x w h0 h1
def Tryz.lays264_ren:Go.Shelf.Ren:=⟨fun|264=>178|n=>n,fun|53=>177|46=>196|n=>n,fun|n=>n⟩
theorem Tryz.lays264:Go.Proofs.Lays.n264 Tryz.prog Tryz.lays264_ren:={
  mixed:=by kernel_rfl
  f264:=Tryz.func178.trans (congrArg some (by kernel_rfl))
  t46:=Tryz.underlying196
  a46:=Tryz.isAgg196
  z46:=Tryz.sizeOf196
  v46:=Tryz.zeroValue196
  t53:=Tryz.underlying177
  a53:=Tryz.isAgg177
  z53:=Tryz.sizeOf177
  v53:=Tryz.zeroValue177 }
open Go.RowKit Go.Lib in
theorem Tryz.bits_Mul64 (x y:Nat) (hx:x < 18446744073709551616) (hy:y < 18446744073709551616) (w:World) :
   Calls Tryz.prog 178 #[.int .u64 x,.int .u64 y] w fun e w'=>e = .returned (.tuple #[.int .u64 ((x*y / 18446744073709551616:Nat):Int),.int .u64 ((x*y % 18446744073709551616:Nat):Int)])/\w'=w:=Any.bits_Mul64 Tryz.lays264 x y hx hy w
def Tryz.lays212_ren:Go.Shelf.Ren:=⟨fun|212=>173|263=>187|264=>178|n=>n,fun|46=>196|51=>229|146=>230|53=>177|148=>208|n=>n,fun|n=>n⟩
theorem Tryz.lays212:Go.Proofs.Lays.n212 Tryz.prog Tryz.lays212_ren:={
  mixed:=by kernel_rfl
  f212:=Tryz.func173.trans (congrArg some (by kernel_rfl))
  f263:=Tryz.func187.trans (congrArg some (by kernel_rfl))
  f264:=Tryz.func178.trans (congrArg some (by kernel_rfl))
  t46:=Tryz.underlying196
  a46:=Tryz.isAgg196
  z46:=Tryz.sizeOf196
  v46:=Tryz.zeroValue196
  t51:=Tryz.underlying229
  a51:=Tryz.isAgg229
  z51:=Tryz.sizeOf229
  v51:=Tryz.zeroValue229
  t53:=Tryz.underlying177
  a53:=Tryz.isAgg177
  z53:=Tryz.sizeOf177
  v53:=Tryz.zeroValue177
  t146:=Tryz.underlying230
  a146:=Tryz.isAgg230
  z146:=Tryz.sizeOf230
  v146:=Tryz.zeroValue230
  t148:=Tryz.underlying208
  a148:=Tryz.isAgg208
  z148:=Tryz.sizeOf208
  v148:=Tryz.zeroValue208 }
open Go.RowKit Go.Lib in
theorem Tryz.bits_Mul (x y:Nat) (hx:x < 18446744073709551616) (hy:y < 18446744073709551616) (w:World) :
   Calls Tryz.prog 173 #[.int .u64 x,.int .u64 y] w fun e w'=>e = .returned (.tuple #[.int .u64 ((x*y / 18446744073709551616:Nat):Int),.int .u64 ((x*y % 18446744073709551616:Nat):Int)])/\w'=w:=Any.bits_Mul Tryz.lays212 x y hx hy w
end Go.Proofs
namespace Go.Proofs.YtpondkggmcmpfaaGreatDoorW.PrintLast
open Go.Proofs.YtpondkggmcmpfaaGreatDoorW.PrintWords (aj)
def abU (md:Region.Mode) (o:Oper):List Nat:=(o.after.toList.filter (fun e=>Region.binds md e)).map (fun e=>e.on)
def aiH (md:Region.Mode) (ops:Array Oper) (i:Nat) (oi:Oper):List Nat:=(List.range ops.size).filter fun j => !(j == i) && match ops[j]? with
  | some oj => !(oj.after.any (fun e=>Region.binds md e && e.on == i) || oi.apart ops oj)
  | none=>false
def uF (md:Region.Mode) (ops:Array Oper):Bool × List (List Nat × List Nat):=(Region.noSelect ops,(List.range ops.size).map fun i=>match ops[i]? with
  | some o=>(abU md o,aiH md ops i o)
  | none=>([],[]))
def yY (T:List (List Nat × List Nat)) (l:List Bool) (i:Nat):Bool := !l.getD i true && match T[i]? with
  | some r=>r.1.all (fun j=>l.getD j false)
  | none=>false
def aeH (T:List (List Nat × List Nat)) (l:List Bool):List Nat:=(List.range T.length).filter (yY T l)
def aht (T:List (List Nat × List Nat)) (l:List Bool) (i:Nat):Bool:=match T[i]? with
  | some r=>r.2.all (fun j=>l.getD j true)
  | none=>false
def afS (T:List (List Nat × List Nat)) (l:List Bool):Bool:=(List.range T.length).all fun j => !l.getD j false || match T[j]? with
  | some r=>r.1.all (fun k=>l.getD k false)
  | none=>true
def adt (T:List (List Nat × List Nat)) (i:Nat):Nat->Nat->Bool
  | 0,_=>false
  | fuel+1,d=>match T[d]? with
    | some r=>r.1.any fun j=>j == i || adt T i fuel j
    | none=>false
def lastT (T:List (List Nat × List Nat)) (l:List Bool) (ds:List Nat) (i:Nat):Bool:=ds.all fun d=>l.getD d true || adt T i T.length d
section
variable {md:Region.Mode} {ops:Array Oper} {T:Bool × List (List Nat × List Nat)} {l l' li lj lk:Array Bool} {ds:List Nat} {i j k:Nat}
theorem gd (l:Array Bool) (j:Nat) (b:Bool):l.getD j b=l.toList.getD j b:=by simp [Array.getD_eq_getD_getElem?,List.getD_eq_getElem?_getD]
theorem ajz (o:Oper) (p:Nat->Bool):o.after.all (fun e => !Region.binds md e || p e.on)=(abU md o).all p:=by
 unfold abU;rw [<- Array.all_toList];induction o.after.toList with
 | nil=>rfl
 | cons e r ih =>
   rw [List.all_cons,ih,List.filter_cons];cases h:Region.binds md e <;> simp
theorem apq (o:Oper) (p:Nat->Bool):o.after.any (fun e=>Region.binds md e && p e.on)=(abU md o).any p:=by
 unfold abU;rw [<- Array.any_toList];induction o.after.toList with
 | nil=>rfl
 | cons e r ih =>
   rw [List.any_cons,ih,List.filter_cons];cases h:Region.binds md e <;> simp
theorem aaY:(uF md ops).2.length=ops.size:=by simp [uF]
theorem acH {o:Oper} (h:ops[i]? = some o):(uF md ops).2[i]? = some (abU md o,aiH md ops i o):=by
 have hi:=(Array.getElem?_eq_some_iff.1 h).1;unfold uF;rw [List.getElem?_map,List.getElem?_range hi,Option.map_some,h]
theorem acI (h:ops[i]? = none):(uF md ops).2[i]? = none:=by
 have hi:ops.size<=i:=Array.getElem?_eq_none_iff.1 h;exact List.getElem?_eq_none (by rw [aaY];exact hi)
theorem anG:yY (uF md ops).2 l.toList i=(!l.getD i true && ((ops[i]?).map (·.after.all fun e => !Region.binds md e || l.getD e.on false)).getD false):=by
 unfold yY;rw [gd];cases h:ops[i]? with
 | none=>rw [acI h];rfl
 | some o =>
   rw [acH h];simp only [Option.map_some,Option.getD_some];rw [<- ajz];simp only [gd]
theorem ready_eq:Region.ready md ops l=aeH (uF md ops).2 l.toList:=by
 unfold Region.ready aeH;rw [aaY];refine List.filter_congr (fun i _ => ?_);rw [anG]
theorem free_eq:Region.free md ops l i=aht (uF md ops).2 l.toList i:=by
 unfold Region.free aht;cases h:ops[i]? with
 | none=>rw [acI h]
 | some oi =>
   rw [acH h];simp only [aiH];rw [List.all_filter];congr 1
   funext j;rw [gd];cases hj:ops[j]? with
   | none=>cases (j == i) <;> cases (l.toList.getD j true) <;> simp
   | some oj =>
     cases (j == i) <;> cases (l.toList.getD j true) <;> cases (oj.after.any (fun e=>Region.binds md e && e.on == i) || oi.apart ops oj) <;> simp_all
theorem apr:Region.adq md ops l=afS (uF md ops).2 l.toList:=by
 unfold Region.adq afS;rw [aaY];congr 1
 funext j;rw [gd];cases h:ops[j]? with
 | none=>rw [acI h]
 | some o =>
   rw [acH h];simp only;rw [<- ajz];simp only [gd]
theorem reach_eq:∀ (fuel d:Nat),Region.wC md ops i fuel d=adt (uF md ops).2 i fuel d
  | 0,_=>rfl
  | fuel+1,d=>by
    unfold Region.wC adt;cases h:ops[d]? with
    | none=>rw [acI h]
    | some o =>
      rw [acH h];simp only;rw [<- apq];congr 1
      funext e;rw [reach_eq fuel]
theorem atM:Region.lastB md ops l ds i=lastT (uF md ops).2 l.toList ds i:=by
 unfold Region.lastB lastT;rw [aaY];congr 1
 funext d;rw [gd,reach_eq]
theorem ags (h:yY T.2 l.toList i=true) (hT:uF md ops=T):(Region.ready md ops l).contains i=true:=by
 subst hT;rw [ready_eq];unfold aeH;rw [List.contains_iff_mem,List.mem_filter,List.mem_range];refine ⟨?_,h⟩;unfold yY at h;rw [Bool.and_eq_true] at h;cases hq:(uF md ops).2[i]? with
 | none=>rw [hq] at h;simp at h
 | some r=>exact (List.getElem?_eq_some_iff.1 hq).1
theorem akU (h:(l.toList.set i true == l'.toList)=true):(l.setIfInBounds i true == l')=true:=by
 rw [beq_iff_eq] at h ⊢;apply Array.ext';rw [Array.toList_setIfInBounds];exact h
def auQ (T:Bool × List (List Nat × List Nat)) (l l':List Bool) (i:Nat):Bool:=T.1 && aht T.2 l i && yY T.2 l i && (l.set i true == l')
theorem adu (hT:uF md ops=T) (h:auQ T l.toList l'.toList i=true):anA md ops l l' i=true:=by
 simp only [auQ,Bool.and_eq_true] at h;obtain ⟨⟨⟨h1,h2⟩,h3⟩,h4⟩:=h;have h5:=ags h3 hT;have h6:=akU h4;subst hT;simp only [anA,Bool.and_eq_true];exact ⟨⟨⟨h1,by rw [free_eq];exact h2⟩,h5⟩,h6⟩
def anH (T:Bool × List (List Nat × List Nat)) (ds:List Nat) (l l':List Bool) (i:Nat):Bool:=T.1 && aht T.2 l i && yY T.2 l i && afS T.2 l && lastT T.2 l ds i && (l.set i true == l')
theorem atN (hT:uF md ops=T) (h:anH T ds l.toList l'.toList i=true):takeB md ops ds l l' i=true:=by
 simp only [anH,Bool.and_eq_true] at h;obtain ⟨⟨⟨⟨⟨h1,h2⟩,h3⟩,h4⟩,h5⟩,h6⟩:=h;have h7:=ags h3 hT;have h8:=akU h6;subst hT;simp only [takeB,Bool.and_eq_true];exact ⟨⟨⟨⟨⟨h1,by rw [free_eq];exact h2⟩,h7⟩,by rw [apr];exact h4⟩,by rw [atM];exact h5⟩,h8⟩
theorem aps (hT:uF md ops=T) (h:(aeH T.2 l.toList == [i] && l.toList.set i true == l'.toList)=true):ads md ops l l' i=true:=by
 simp only [Bool.and_eq_true] at h;obtain ⟨h1,h2⟩:=h;subst hT;simp only [ads,Bool.and_eq_true];exact ⟨by rw [ready_eq];exact h1,akU h2⟩
theorem atO (hT:uF md ops=T) (h:(aeH T.2 l.toList == [])=true):(Region.ready md ops l == [])=true:=by
 subst hT;rw [ready_eq];exact h
def upM (B:List Nat) (d:Nat):List Nat->Nat
  | []=>0
  | n :: r=>(2 ^ n ||| (if n < d then B.getD n 0 else 0)) ||| upM B d r
def adv (T:List (List Nat × List Nat)) (B:List Nat):Bool:=(List.range T.length).all fun d=>match T[d]? with
  | some r=>(B.getD d 0 ||| upM B d r.1) == upM B d r.1
  | none=>false
theorem amX {B:List Nat} {d i:Nat}:∀ {ns:List Nat},(upM B d ns).testBit i=true->∃ n ∈ ns,n=i\/(n < d/\(B.getD n 0).testBit i=true)
  | [],h=>by simp [upM] at h
  | n :: r,h=>by
    unfold upM at h;rw [Nat.testBit_or,Nat.testBit_or,Bool.or_eq_true,Bool.or_eq_true] at h;rcases h with (h|h)|h
    . rw [Nat.testBit_two_pow] at h;exact ⟨n,List.mem_cons_self,.inl (by simpa using h)⟩
    . by_cases hn:n < d
      . rw [if_pos hn] at h;exact ⟨n,List.mem_cons_self,.inr ⟨hn,h⟩⟩
      . rw [if_neg hn] at h;simp at h
    . obtain ⟨m,hm,h2⟩:=amX h;exact ⟨m,List.mem_cons_of_mem _ hm,h2⟩
theorem ajA {T:List (List Nat × List Nat)} {B:List Nat} (hB:adv T B=true):∀ (fuel d:Nat),d < fuel->d < T.length->(B.getD d 0).testBit i=true->adt T i fuel d=true
  | 0,d,h,_,_=>by omega
  | fuel+1,d,h,hd,hb=>by
    have h1:=List.all_eq_true.1 hB d (List.mem_range.2 hd);cases hr:T[d]? with
    | none=>rw [hr] at h1;simp at h1
    | some r =>
      rw [hr] at h1;simp only [beq_iff_eq] at h1;have h2:(upM B d r.1).testBit i=true:=(by rw [<- h1,Nat.testBit_or,hb,Bool.true_or]);obtain ⟨n,hn,h3⟩:=amX h2;unfold adt;rw [hr];simp only;rw [List.any_eq_true];refine ⟨n,hn,?_⟩;rcases h3 with rfl|⟨h4,h5⟩
      . simp
      . rw [ajA hB fuel n (by omega) (by omega) h5,Bool.or_true]
def asQ (T:List (List Nat × List Nat)) (B:List Nat) (l:List Bool) (ds:List Nat) (i:Nat):Bool:=ds.all fun d=>l.getD d true || (decide (d < T.length) && (B.getD d 0).testBit i)
def asR (T:Bool × List (List Nat × List Nat)) (B:List Nat) (ds:List Nat) (l l':List Bool) (i:Nat):Bool:=T.1 && aht T.2 l i && yY T.2 l i && afS T.2 l && asQ T.2 B l ds i && (l.set i true == l')
theorem aqf {B:List Nat} (hT:uF md ops=T) (hB:adv T.2 B=true) (h:asR T B ds l.toList l'.toList i=true):takeB md ops ds l l' i=true:=by
 refine atN hT ?_;simp only [asR,anH,Bool.and_eq_true] at h ⊢;obtain ⟨⟨⟨⟨⟨h1,h2⟩,h3⟩,h4⟩,h5⟩,h6⟩:=h;refine ⟨⟨⟨⟨⟨h1,h2⟩,h3⟩,h4⟩,?_⟩,h6⟩;unfold asQ at h5;unfold lastT;rw [List.all_eq_true] at h5 ⊢;intro d hd;have h7:=h5 d hd;rw [Bool.or_eq_true,Bool.and_eq_true,decide_eq_true_eq] at h7;rcases h7 with h7|⟨h8,h9⟩
 . rw [h7,Bool.true_or]
 . rw [ajA hB _ d h8 h8 h9,Bool.or_true]
theorem apt {P:Program} {Q:Exit->Act->World->Prop} {S:World->Prop} {n:Nat} {a:Act} {w:World} {B:List Nat} (hT:uF md ops=T) (hB:adv T.2 B=true) (h:aj (uF md ops=T)->aj (adv T.2 B=true)->iD P md ops Q S ds n l a w):iD P md ops Q S ds n l a w:=h ⟨hT⟩ ⟨hB⟩
end
def aaZ:Code->Nat->Option (Array Oper)
  | .region id ops _,k=>if id == k then some ops else none
  | .seq a b,k=>match aaZ a k with
    | some o=>some o
    | none=>aaZ b k
  | .cond _ a b,k=>match aaZ a k with
    | some o=>some o
    | none=>aaZ b k
  | .block _ c,k=>aaZ c k
  | .loop c,k=>aaZ c k
  | .scope c,k=>aaZ c k
  | .rangeFunc _ _ a b,k=>match aaZ a k with
    | some o=>some o
    | none=>aaZ b k
  | _,_=>none
def opsOf (f:Func) (k:Nat):Array Oper:=((f.body.bind fun c=>aaZ c k)).getD #[]
end Go.Proofs.YtpondkggmcmpfaaGreatDoorW.PrintLast
namespace Go.Proofs.YtpondkggmcmpfaaGreatDoorW.PrintLast
section
variable {P:Program} {ops:Array Oper} {Q:Exit->Act->World->Prop} {md:Region.Mode} {S:World->Prop} {ds:List Nat} {T:Bool × List (List Nat × List Nat)}
end
end Go.Proofs.YtpondkggmcmpfaaGreatDoorW.PrintLast
namespace Go.Proofs.YtpondkggmcmpfaaGreatDoorW.PrintWords
open Go.RowKit
namespace Kd
section
variable {α:Type} {d:Kd α} {W:World} {g n:Nat} {S ok:Nat->Prop} {A:Option Addr} {ad:Addr} {xs:List α}
end
end Kd
end Go.Proofs.YtpondkggmcmpfaaGreatDoorW.PrintWords
namespace Go.Proofs.YtpondkggmcmpfaaGreatDoorW.PrintWords
open Go.RowKit
section
variable {w w' u:World} {m B g:Nat} {o:Obj} {row:Option Nat} {S:Nat->Prop} {a:Addr} {v:Value}
end
namespace Kd
section
variable {α:Type} {d:Kd α} {e base n m:Nat} {ok:Nat->Prop} {w w':World} {v:Value} {A:Option Addr} {xs:List α}
end
end Kd
end Go.Proofs.YtpondkggmcmpfaaGreatDoorW.PrintWords
namespace Go.Proofs.YtpondkggmcmpfaaGreatDoorW.PrintWords
open Go.RowKit
section
variable {P:Program} {d:Nat} {xs ys:Array Value} {f:Field} {fs:List Field} {a b:Value} {r s:Bool} {w:World}
end
end Go.Proofs.YtpondkggmcmpfaaGreatDoorW.PrintWords
namespace Go.Proofs.YtpondkggmcmpfaaGreatDoorW.PrintWords
theorem jC.one {α:Type} {R:α->List Value->Prop} {ps:List α} {cs:List Value} {p:α} {v:Value} (hp:R p [v]) (h:jC R 1 ps cs):jC R 1 (p :: ps) (v :: cs):=by
 refine ⟨by simp [h.1],fun j q hq => ?_⟩;cases j with
 | zero =>
   simp only [List.getElem?_cons_zero,Option.some.injEq] at hq;subst hq;simpa using hp
 | succ j =>
   simp only [List.getElem?_cons_succ] at hq;have h1:=h.2 j q hq;simpa [Nat.mul_one] using h1
end Go.Proofs.YtpondkggmcmpfaaGreatDoorW.PrintWords
namespace Go.Proofs.YtpondkggmcmpfaaGreatDoorW.PrintLast
section
variable {P:Program} {ops:Array Oper} {Q:Exit->Act->World->Prop} {md:Region.Mode} {T:Bool × List (List Nat × List Nat)} {B:List Nat} {O:List Nat} {b:Nat->Bool} {i j n:Nat}
end
end Go.Proofs.YtpondkggmcmpfaaGreatDoorW.PrintLast
namespace Go.Proofs.YtpondkggmcmpfaaGreatDoorW.PrintWords
open Go.RowKit
end Go.Proofs.YtpondkggmcmpfaaGreatDoorW.PrintWords
namespace Go.Proofs.YtpondkggmcmpfaaGreatDoorW.PrintLast
section
variable {ops:Array Oper} {a:Act} {o og:Oper} {g:Nat} {t:Tmp} {u:Bool}
end
end Go.Proofs.YtpondkggmcmpfaaGreatDoorW.PrintLast
namespace Go.Proofs.YtpondkggmcmpfaaGreatDoorW.PrintWords
open Go.RowKit
section
variable {P:Program} {ops:Array Oper} {rest:List Oper} {o:Oper} {a:Act} {Q:Exit->Act->World->Prop} {W:World}
theorem kX (hw:Region.wanted o (yielded ops a.tmps)=true) (h:wpList P ops Q ({ o with guard:=none } :: rest) a W):wpList P ops Q (o :: rest) a W:=by
 have h1:Region.wanted { o with guard:=none } (yielded ops a.tmps)=true:=rfl;unfold wpList at h ⊢;rw [if_pos h1] at h;rw [if_pos hw];exact h
end
end Go.Proofs.YtpondkggmcmpfaaGreatDoorW.PrintWords
namespace Go.Proofs.YtpondkggmcmpfaaGreatDoor.QA
open Go.Proofs.YtpondkggmcmpfaaGreatDoor.T
open Go.RowKit Go.Proofs.YtpondkggmcmpfaaGreatDoorW.PrintWords Go.Proofs.YtpondkggmcmpfaaGreatDoorW.PrintLast Go.Proofs.YtpondkggmcmpfaaGreatDoorW.PrintMore
attribute [local go_sem] dV dN dO eP fA
set_option linter.unusedVariables false
set_option linter.unusedSimpArgs false
def auR:Option Int->Value
 | none => .nilIface
 | some c => .iface 0 (.int .i64 c)
theorem bJ:auR none = .nilIface:=rfl
theorem bK (c:Int):auR (some c) = .iface 0 (.int .i64 c):=rfl
theorem wQ:(Tryz.prog.info? 2).map (fun i=>(i.zero,i.size,i.bytes))=some (some (.int .i64 0),1,8):=by kernel_rfl
theorem atP:(Tryz.prog.info? 138).map (fun i=>(i.zero,i.size,i.bytes))=some (some (.agg #[(.int .i64 0),(.slice none 0 0)]),2,32):=by kernel_rfl
structure S71 where
 f0:Int
 f1:(List Int)
def z71:S71:=⟨(0:Int),([]:List Int)⟩
def k71:Kd S71:=Kd.iso (Kd.pair (Kd.int .i64) (Kd.slice 2 (Kd.int .i64))) (fun x:S71=>(x.f0,x.f1))
theorem aqg {w:World} {x:S71} {cs:List Value} (h:k71.K w x cs):∃ A1 c1,cs=[.int .i64 x.f0,.slice A1 x.f1.length c1]/\x.f1.length<=c1/\(Kd.int .i64).C w A1 x.f1.length x.f1:=by
 obtain ⟨_,_,rfl,rfl,⟨A1,c1,rfl,l1,g1⟩⟩:=h;exact ⟨A1,c1,rfl,l1,g1⟩
theorem atQ (w:World) (base:Nat) (ok:Nat->Prop) (x:S71) {v1:Value} (g1:(Kd.int .i64).R 2 w base ok v1 x.f1):k71.M w base ok x [.int .i64 x.f0,v1]:=⟨[.int .i64 x.f0],[v1],rfl,rfl,⟨v1,rfl,g1⟩⟩
def fV (xs:List S71) (i:Int):S71:=xs.getD i.toNat z71
theorem akV {w:World} {A:Option Addr} {n:Nat} {xs:List S71} (h:Kd.C k71 w A n xs) (i:Int) (h0:0<=i) (h1:i < n):∃ ad A1 c1,A=some ad/\w.cell? (ad.add (i.toNat*2))=some (.int .i64 (fV xs i).f0)/\w.cell? ⟨(ad.add (i.toNat*2)).block,(ad.add (i.toNat*2)).off+1,none⟩=some (.slice A1 (fV xs i).f1.length c1)/\(fV xs i).f1.length<=c1/\(Kd.int .i64).C w A1 (fV xs i).f1.length (fV xs i).f1:=by
 obtain ⟨ad,c,e,_,hK,hc0⟩:=Kd.ako h z71 i h0 h1;have hc:∀ j u,c[j]? = some u->w.cell? (ad.add (i.toNat*2+j))=some u:=hc0;obtain ⟨A1,c1,rfl,l1,g1⟩:=aqg hK;exact ⟨ad,A1,c1,e,hc 0 _ rfl,by rw [<- jP _ _ 1 (by omega)];exact hc 1 _ rfl,l1,g1⟩
structure S47 where
 f0:Int
 f1:Int
 f2:Int
 f3:Int
 f4:(List Int)
 f5:(List Int)
 f6:Int
 f7:Int
 f8:Int
def z47:S47:=⟨(0:Int),(0:Int),(0:Int),(0:Int),([]:List Int),([]:List Int),(0:Int),(0:Int),(0:Int)⟩
def k47:Kd S47:=Kd.iso (Kd.pair (Kd.int .i64) (Kd.pair (Kd.int .i64) (Kd.pair (Kd.int .i64) (Kd.pair (Kd.int .i64) (Kd.pair (Kd.slice 2 (Kd.int .i64)) (Kd.pair (Kd.slice 2 (Kd.int .i64)) (Kd.pair (Kd.int .i64) (Kd.pair (Kd.int .i64) (Kd.int .i64))))))))) (fun x:S47=>(x.f0,x.f1,x.f2,x.f3,x.f4,x.f5,x.f6,x.f7,x.f8))
theorem aqh {w:World} {x:S47} {cs:List Value} (h:k47.K w x cs):∃ A4 c4 A5 c5,cs=[.int .i64 x.f0,.int .i64 x.f1,.int .i64 x.f2,.int .i64 x.f3,.slice A4 x.f4.length c4,.slice A5 x.f5.length c5,.int .i64 x.f6,.int .i64 x.f7,.int .i64 x.f8]/\x.f4.length<=c4/\(Kd.int .i64).C w A4 x.f4.length x.f4/\x.f5.length<=c5/\(Kd.int .i64).C w A5 x.f5.length x.f5:=by
 obtain ⟨_,_,rfl,rfl,⟨_,_,rfl,rfl,⟨_,_,rfl,rfl,⟨_,_,rfl,rfl,⟨_,_,rfl,⟨A4,c4,rfl,l4,g4⟩,⟨_,_,rfl,⟨A5,c5,rfl,l5,g5⟩,⟨_,_,rfl,rfl,⟨_,_,rfl,rfl,rfl⟩⟩⟩⟩⟩⟩⟩⟩:=h;exact ⟨A4,c4,A5,c5,rfl,l4,g4,l5,g5⟩
theorem auS (w:World) (x:S47) {A4:Option Addr} {c4:Nat} (l4:x.f4.length<=c4) (g4:(Kd.int .i64).C w A4 x.f4.length x.f4) {A5:Option Addr} {c5:Nat} (l5:x.f5.length<=c5) (g5:(Kd.int .i64).C w A5 x.f5.length x.f5):k47.K w x [.int .i64 x.f0,.int .i64 x.f1,.int .i64 x.f2,.int .i64 x.f3,.slice A4 x.f4.length c4,.slice A5 x.f5.length c5,.int .i64 x.f6,.int .i64 x.f7,.int .i64 x.f8]:=⟨[.int .i64 x.f0],[.int .i64 x.f1,.int .i64 x.f2,.int .i64 x.f3,.slice A4 x.f4.length c4,.slice A5 x.f5.length c5,.int .i64 x.f6,.int .i64 x.f7,.int .i64 x.f8],rfl,rfl,⟨[.int .i64 x.f1],[.int .i64 x.f2,.int .i64 x.f3,.slice A4 x.f4.length c4,.slice A5 x.f5.length c5,.int .i64 x.f6,.int .i64 x.f7,.int .i64 x.f8],rfl,rfl,⟨[.int .i64 x.f2],[.int .i64 x.f3,.slice A4 x.f4.length c4,.slice A5 x.f5.length c5,.int .i64 x.f6,.int .i64 x.f7,.int .i64 x.f8],rfl,rfl,⟨[.int .i64 x.f3],[.slice A4 x.f4.length c4,.slice A5 x.f5.length c5,.int .i64 x.f6,.int .i64 x.f7,.int .i64 x.f8],rfl,rfl,⟨[.slice A4 x.f4.length c4],[.slice A5 x.f5.length c5,.int .i64 x.f6,.int .i64 x.f7,.int .i64 x.f8],rfl,⟨A4,c4,rfl,l4,g4⟩,⟨[.slice A5 x.f5.length c5],[.int .i64 x.f6,.int .i64 x.f7,.int .i64 x.f8],rfl,⟨A5,c5,rfl,l5,g5⟩,⟨[.int .i64 x.f6],[.int .i64 x.f7,.int .i64 x.f8],rfl,rfl,⟨[.int .i64 x.f7],[.int .i64 x.f8],rfl,rfl,rfl⟩⟩⟩⟩⟩⟩⟩⟩
def dX (xs:List S47) (i:Int):S47:=xs.getD i.toNat z47
theorem akW {w:World} {A:Option Addr} {n:Nat} {xs:List S47} (h:Kd.C k47 w A n xs) (i:Int) (h0:0<=i) (h1:i < n):∃ ad A4 c4 A5 c5,A=some ad/\w.cell? (ad.add (i.toNat*9))=some (.int .i64 (dX xs i).f0)/\w.cell? ⟨(ad.add (i.toNat*9)).block,(ad.add (i.toNat*9)).off+1,none⟩=some (.int .i64 (dX xs i).f1)/\w.cell? ⟨(ad.add (i.toNat*9)).block,(ad.add (i.toNat*9)).off+2,none⟩=some (.int .i64 (dX xs i).f2)/\w.cell? ⟨(ad.add (i.toNat*9)).block,(ad.add (i.toNat*9)).off+3,none⟩=some (.int .i64 (dX xs i).f3)/\w.cell? ⟨(ad.add (i.toNat*9)).block,(ad.add (i.toNat*9)).off+4,none⟩=some (.slice A4 (dX xs i).f4.length c4)/\w.cell? ⟨(ad.add (i.toNat*9)).block,(ad.add (i.toNat*9)).off+5,none⟩=some (.slice A5 (dX xs i).f5.length c5)/\w.cell? ⟨(ad.add (i.toNat*9)).block,(ad.add (i.toNat*9)).off+6,none⟩=some (.int .i64 (dX xs i).f6)/\w.cell? ⟨(ad.add (i.toNat*9)).block,(ad.add (i.toNat*9)).off+7,none⟩=some (.int .i64 (dX xs i).f7)/\w.cell? ⟨(ad.add (i.toNat*9)).block,(ad.add (i.toNat*9)).off+8,none⟩=some (.int .i64 (dX xs i).f8)/\(dX xs i).f4.length<=c4/\(Kd.int .i64).C w A4 (dX xs i).f4.length (dX xs i).f4/\(dX xs i).f5.length<=c5/\(Kd.int .i64).C w A5 (dX xs i).f5.length (dX xs i).f5:=by
 obtain ⟨ad,c,e,_,hK,hc0⟩:=Kd.ako h z47 i h0 h1;have hc:∀ j u,c[j]? = some u->w.cell? (ad.add (i.toNat*9+j))=some u:=hc0;obtain ⟨A4,c4,A5,c5,rfl,l4,g4,l5,g5⟩:=aqh hK;exact ⟨ad,A4,c4,A5,c5,e,hc 0 _ rfl,by rw [<- jP _ _ 1 (by omega)];exact hc 1 _ rfl,by rw [<- jP _ _ 2 (by omega)];exact hc 2 _ rfl,by rw [<- jP _ _ 3 (by omega)];exact hc 3 _ rfl,by rw [<- jP _ _ 4 (by omega)];exact hc 4 _ rfl,by rw [<- jP _ _ 5 (by omega)];exact hc 5 _ rfl,by rw [<- jP _ _ 6 (by omega)];exact hc 6 _ rfl,by rw [<- jP _ _ 7 (by omega)];exact hc 7 _ rfl,by rw [<- jP _ _ 8 (by omega)];exact hc 8 _ rfl,l4,g4,l5,g5⟩
structure lY where
 f0:Int
 f1:(List Int)
def aaA:Kd lY:=Kd.iso (Kd.pair (Kd.int .i64) (Kd.slice 2 (Kd.int .i64))) (fun x:lY=>(x.f0,x.f1))
theorem akX (w:World) (base:Nat) (ok:Nat->Prop) (x:lY) {v1:Value} (g1:(Kd.int .i64).R 2 w base ok v1 x.f1):aaA.M w base ok x [.int .i64 x.f0,v1]:=⟨[.int .i64 x.f0],[v1],rfl,rfl,⟨v1,rfl,g1⟩⟩
structure adH where
 f0:Int
 f1:Int
 f2:Int
 f3:Int
 f4:(List Int)
 f5:(List Int)
 f6:Int
 f7:Int
 f8:Int
def auT:adH:=⟨(0:Int),(0:Int),(0:Int),(0:Int),([]:List Int),([]:List Int),(0:Int),(0:Int),(0:Int)⟩
def ab3:Kd adH:=Kd.iso (Kd.pair (Kd.int .i64) (Kd.pair (Kd.int .i64) (Kd.pair (Kd.int .i64) (Kd.pair (Kd.int .i64) (Kd.pair (Kd.slice 2 (Kd.int .i64)) (Kd.pair (Kd.slice 2 (Kd.int .i64)) (Kd.pair (Kd.int .i64) (Kd.pair (Kd.int .i64) (Kd.int .i64))))))))) (fun x:adH=>(x.f0,x.f1,x.f2,x.f3,x.f4,x.f5,x.f6,x.f7,x.f8))
theorem apu {w:World} {x:adH} {cs:List Value} (h:ab3.K w x cs):∃ A4 c4 A5 c5,cs=[.int .i64 x.f0,.int .i64 x.f1,.int .i64 x.f2,.int .i64 x.f3,.slice A4 x.f4.length c4,.slice A5 x.f5.length c5,.int .i64 x.f6,.int .i64 x.f7,.int .i64 x.f8]/\x.f4.length<=c4/\(Kd.int .i64).C w A4 x.f4.length x.f4/\x.f5.length<=c5/\(Kd.int .i64).C w A5 x.f5.length x.f5:=by
 obtain ⟨_,_,rfl,rfl,⟨_,_,rfl,rfl,⟨_,_,rfl,rfl,⟨_,_,rfl,rfl,⟨_,_,rfl,⟨A4,c4,rfl,l4,g4⟩,⟨_,_,rfl,⟨A5,c5,rfl,l5,g5⟩,⟨_,_,rfl,rfl,⟨_,_,rfl,rfl,rfl⟩⟩⟩⟩⟩⟩⟩⟩:=h;exact ⟨A4,c4,A5,c5,rfl,l4,g4,l5,g5⟩
theorem atS (w:World) (x:adH) {A4:Option Addr} {c4:Nat} (l4:x.f4.length<=c4) (g4:(Kd.int .i64).C w A4 x.f4.length x.f4) {A5:Option Addr} {c5:Nat} (l5:x.f5.length<=c5) (g5:(Kd.int .i64).C w A5 x.f5.length x.f5):ab3.K w x [.int .i64 x.f0,.int .i64 x.f1,.int .i64 x.f2,.int .i64 x.f3,.slice A4 x.f4.length c4,.slice A5 x.f5.length c5,.int .i64 x.f6,.int .i64 x.f7,.int .i64 x.f8]:=⟨[.int .i64 x.f0],[.int .i64 x.f1,.int .i64 x.f2,.int .i64 x.f3,.slice A4 x.f4.length c4,.slice A5 x.f5.length c5,.int .i64 x.f6,.int .i64 x.f7,.int .i64 x.f8],rfl,rfl,⟨[.int .i64 x.f1],[.int .i64 x.f2,.int .i64 x.f3,.slice A4 x.f4.length c4,.slice A5 x.f5.length c5,.int .i64 x.f6,.int .i64 x.f7,.int .i64 x.f8],rfl,rfl,⟨[.int .i64 x.f2],[.int .i64 x.f3,.slice A4 x.f4.length c4,.slice A5 x.f5.length c5,.int .i64 x.f6,.int .i64 x.f7,.int .i64 x.f8],rfl,rfl,⟨[.int .i64 x.f3],[.slice A4 x.f4.length c4,.slice A5 x.f5.length c5,.int .i64 x.f6,.int .i64 x.f7,.int .i64 x.f8],rfl,rfl,⟨[.slice A4 x.f4.length c4],[.slice A5 x.f5.length c5,.int .i64 x.f6,.int .i64 x.f7,.int .i64 x.f8],rfl,⟨A4,c4,rfl,l4,g4⟩,⟨[.slice A5 x.f5.length c5],[.int .i64 x.f6,.int .i64 x.f7,.int .i64 x.f8],rfl,⟨A5,c5,rfl,l5,g5⟩,⟨[.int .i64 x.f6],[.int .i64 x.f7,.int .i64 x.f8],rfl,rfl,⟨[.int .i64 x.f7],[.int .i64 x.f8],rfl,rfl,rfl⟩⟩⟩⟩⟩⟩⟩⟩
def oC (xs:List adH) (i:Int):adH:=xs.getD i.toNat auT
theorem atT {w:World} {A:Option Addr} {n:Nat} {xs:List adH} (h:Kd.C ab3 w A n xs) (i:Int) (h0:0<=i) (h1:i < n):∃ ad A4 c4 A5 c5,A=some ad/\w.cell? (ad.add (i.toNat*9))=some (.int .i64 (oC xs i).f0)/\w.cell? ⟨(ad.add (i.toNat*9)).block,(ad.add (i.toNat*9)).off+1,none⟩=some (.int .i64 (oC xs i).f1)/\w.cell? ⟨(ad.add (i.toNat*9)).block,(ad.add (i.toNat*9)).off+2,none⟩=some (.int .i64 (oC xs i).f2)/\w.cell? ⟨(ad.add (i.toNat*9)).block,(ad.add (i.toNat*9)).off+3,none⟩=some (.int .i64 (oC xs i).f3)/\w.cell? ⟨(ad.add (i.toNat*9)).block,(ad.add (i.toNat*9)).off+4,none⟩=some (.slice A4 (oC xs i).f4.length c4)/\w.cell? ⟨(ad.add (i.toNat*9)).block,(ad.add (i.toNat*9)).off+5,none⟩=some (.slice A5 (oC xs i).f5.length c5)/\w.cell? ⟨(ad.add (i.toNat*9)).block,(ad.add (i.toNat*9)).off+6,none⟩=some (.int .i64 (oC xs i).f6)/\w.cell? ⟨(ad.add (i.toNat*9)).block,(ad.add (i.toNat*9)).off+7,none⟩=some (.int .i64 (oC xs i).f7)/\w.cell? ⟨(ad.add (i.toNat*9)).block,(ad.add (i.toNat*9)).off+8,none⟩=some (.int .i64 (oC xs i).f8)/\(oC xs i).f4.length<=c4/\(Kd.int .i64).C w A4 (oC xs i).f4.length (oC xs i).f4/\(oC xs i).f5.length<=c5/\(Kd.int .i64).C w A5 (oC xs i).f5.length (oC xs i).f5:=by
 obtain ⟨ad,c,e,_,hK,hc0⟩:=Kd.ako h auT i h0 h1;have hc:∀ j u,c[j]? = some u->w.cell? (ad.add (i.toNat*9+j))=some u:=hc0;obtain ⟨A4,c4,A5,c5,rfl,l4,g4,l5,g5⟩:=apu hK;exact ⟨ad,A4,c4,A5,c5,e,hc 0 _ rfl,by rw [<- jP _ _ 1 (by omega)];exact hc 1 _ rfl,by rw [<- jP _ _ 2 (by omega)];exact hc 2 _ rfl,by rw [<- jP _ _ 3 (by omega)];exact hc 3 _ rfl,by rw [<- jP _ _ 4 (by omega)];exact hc 4 _ rfl,by rw [<- jP _ _ 5 (by omega)];exact hc 5 _ rfl,by rw [<- jP _ _ 6 (by omega)];exact hc 6 _ rfl,by rw [<- jP _ _ 7 (by omega)];exact hc 7 _ rfl,by rw [<- jP _ _ 8 (by omega)];exact hc 8 _ rfl,l4,g4,l5,g5⟩
def wR.f:Option (ByteArray):=some (⟨#[99,108,97,109,112]⟩:ByteArray)
theorem wR.calls (r:ByteArray) (w:World) (hG:GL w) (h:wR.f=some r) :
  Calls Tryz.prog 77 #[.int .i64 0] w fun e w'=>e = .returned (.string r)/\dG w w':=by
 have H:(some (⟨#[99,108,97,109,112]⟩:ByteArray))=some r:=h;clear h;obtain ⟨⟨abk,abl,abm,abn,abo,abp⟩,⟨abq,abr,abt,abu,abv,abw,abx⟩⟩:=hG;obtain rfl:=Option.some.inj H;go_enter Tryz.func77,Tryz.ntmps77;go_wp2;go_ret;exact ⟨zT,zW⟩
def wS.f:Option (ByteArray):=some (⟨#[109,105,114,114,111,114]⟩:ByteArray)
theorem wS.calls (r:ByteArray) (w:World) (hG:GL w) (h:wS.f=some r) :
  Calls Tryz.prog 77 #[.int .i64 1] w fun e w'=>e = .returned (.string r)/\dG w w':=by
 have H:(some (⟨#[109,105,114,114,111,114]⟩:ByteArray))=some r:=h;clear h;obtain ⟨⟨abk,abl,abm,abn,abo,abp⟩,⟨abq,abr,abt,abu,abv,abw,abx⟩⟩:=hG;obtain rfl:=Option.some.inj H;go_enter Tryz.func77,Tryz.ntmps77;go_wp2;go_ret;exact ⟨zT,zW⟩
def wU.f:Option (ByteArray):=some (⟨#[119,114,97,112]⟩:ByteArray)
theorem wU.calls (r:ByteArray) (w:World) (hG:GL w) (h:wU.f=some r) :
  Calls Tryz.prog 77 #[.int .i64 2] w fun e w'=>e = .returned (.string r)/\dG w w':=by
 have H:(some (⟨#[119,114,97,112]⟩:ByteArray))=some r:=h;clear h;obtain ⟨⟨abk,abl,abm,abn,abo,abp⟩,⟨abq,abr,abt,abu,abv,abw,abx⟩⟩:=hG;obtain rfl:=Option.some.inj H;go_enter Tryz.func77,Tryz.ntmps77;go_wp2;go_ret;exact ⟨zT,zW⟩
def qQ.f (a0:Int):Option (ByteArray):=if a0 < 0 then (some (⟨#[]⟩:ByteArray)) else (if a0>=3 then (some (⟨#[]⟩:ByteArray)) else (none))
theorem qQ.calls (a0:Int) (r:ByteArray) (w:World) (hG:GL w) (h:qQ.f a0=some r) :
  Calls Tryz.prog 77 #[.int .i64 a0] w fun e w'=>e = .returned (.string r)/\dG w w':=by
 have H:=h;clear h;unfold qQ.f at H;obtain ⟨⟨abk,abl,abm,abn,abo,abp⟩,⟨abq,abr,abt,abu,abv,abw,abx⟩⟩:=hG;by_cases c2:a0 < 0
 ·rw [if_pos c2] at H;have nK:=decide_eq_true c2;clear c2;obtain rfl:=Option.some.inj H;go_enter Tryz.func77,Tryz.ntmps77;go_wp2;go_ret;exact ⟨zT,zW⟩
 ·rw [if_neg c2] at H;have nK:=decide_eq_false c2;clear c2;by_cases c3:a0>=3
  ·rw [if_pos c3] at H;have gI:=decide_eq_true c3;clear c3;obtain rfl:=Option.some.inj H;go_enter Tryz.func77,Tryz.ntmps77;go_wp2;go_ret;exact ⟨zT,zW⟩
  ·rw [if_neg c3] at H;exact absurd H (by simp)
def nM.f (a0:Int):Option (ByteArray):=if a0=0 then wR.f else if a0=1 then wS.f else if a0=2 then wU.f else qQ.f a0
theorem nM.calls (a0:Int) (r:ByteArray) (w:World) (hG:GL w) (h:nM.f a0=some r) :
  Calls Tryz.prog 77 #[.int .i64 a0] w fun e w'=>e = .returned (.string r)/\dG w w':=by
 unfold nM.f at h;by_cases c0:a0=0
 ·subst c0;exact wR.calls r w hG (by rw [if_pos rfl] at h;exact h)
 ·rw [if_neg c0] at h;by_cases c1:a0=1
  ·subst c1;exact wS.calls r w hG (by rw [if_pos rfl] at h;exact h)
  ·rw [if_neg c1] at h;by_cases c2:a0=2
   ·subst c2;exact wU.calls r w hG (by rw [if_pos rfl] at h;exact h)
   ·rw [if_neg c2] at h;exact qQ.calls a0 r w hG h
def jE.f (a0:Int):Option (Bool):=if a0>=1 then (some (decide (a0<=65536))) else (some false)
theorem jE.calls (a0:Int) (r:Bool) (w:World) (h:jE.f a0=some r) :
  Calls Tryz.prog 86 #[.int .i64 a0] w fun e w'=>e = .returned (.bool r)/\dG w w':=by
 have H:=h;clear h;unfold jE.f at H;by_cases c2:a0>=1
 ·rw [if_pos c2] at H;have nK:=decide_eq_true c2;clear c2;obtain rfl:=Option.some.inj H;go_enter Tryz.func86,Tryz.ntmps86;go_wp2;go_ret;exact ⟨zT,zW⟩
 ·rw [if_neg c2] at H;have nK:=decide_eq_false c2;clear c2;obtain rfl:=Option.some.inj H;go_enter Tryz.func86,Tryz.ntmps86;go_wp2;go_ret;exact ⟨zT,zW⟩
def zU.f:Option (ByteArray):=some (⟨#[98,111,120]⟩:ByteArray)
theorem zU.calls (r:ByteArray) (w:World) (hG:GL w) (h:zU.f=some r) :
  Calls Tryz.prog 104 #[.int .i64 0] w fun e w'=>e = .returned (.string r)/\dG w w':=by
 have H:(some (⟨#[98,111,120]⟩:ByteArray))=some r:=h;clear h;obtain ⟨⟨abk,abl,abm,abn,abo,abp⟩,⟨abq,abr,abt,abu,abv,abw,abx⟩⟩:=hG;obtain rfl:=Option.some.inj H;go_enter Tryz.func104,Tryz.ntmps104;go_wp2;go_ret;exact ⟨zT,zW⟩
def zV.f:Option (ByteArray):=some (⟨#[99,117,98,105,99]⟩:ByteArray)
theorem zV.calls (r:ByteArray) (w:World) (hG:GL w) (h:zV.f=some r) :
  Calls Tryz.prog 104 #[.int .i64 1] w fun e w'=>e = .returned (.string r)/\dG w w':=by
 have H:(some (⟨#[99,117,98,105,99]⟩:ByteArray))=some r:=h;clear h;obtain ⟨⟨abk,abl,abm,abn,abo,abp⟩,⟨abq,abr,abt,abu,abv,abw,abx⟩⟩:=hG;obtain rfl:=Option.some.inj H;go_enter Tryz.func104,Tryz.ntmps104;go_wp2;go_ret;exact ⟨zT,zW⟩
def zX.f:Option (ByteArray):=some (⟨#[108,97,110,99,122,111,115]⟩:ByteArray)
theorem zX.calls (r:ByteArray) (w:World) (hG:GL w) (h:zX.f=some r) :
  Calls Tryz.prog 104 #[.int .i64 2] w fun e w'=>e = .returned (.string r)/\dG w w':=by
 have H:(some (⟨#[108,97,110,99,122,111,115]⟩:ByteArray))=some r:=h;clear h;obtain ⟨⟨abk,abl,abm,abn,abo,abp⟩,⟨abq,abr,abt,abu,abv,abw,abx⟩⟩:=hG;obtain rfl:=Option.some.inj H;go_enter Tryz.func104,Tryz.ntmps104;go_wp2;go_ret;exact ⟨zT,zW⟩
def uQ.f (a0:Int):Option (ByteArray):=if a0 < 0 then (some (⟨#[]⟩:ByteArray)) else (if a0>=3 then (some (⟨#[]⟩:ByteArray)) else (none))
theorem uQ.calls (a0:Int) (r:ByteArray) (w:World) (hG:GL w) (h:uQ.f a0=some r) :
  Calls Tryz.prog 104 #[.int .i64 a0] w fun e w'=>e = .returned (.string r)/\dG w w':=by
 have H:=h;clear h;unfold uQ.f at H;obtain ⟨⟨abk,abl,abm,abn,abo,abp⟩,⟨abq,abr,abt,abu,abv,abw,abx⟩⟩:=hG;by_cases c2:a0 < 0
 ·rw [if_pos c2] at H;have nK:=decide_eq_true c2;clear c2;obtain rfl:=Option.some.inj H;go_enter Tryz.func104,Tryz.ntmps104;go_wp2;go_ret;exact ⟨zT,zW⟩
 ·rw [if_neg c2] at H;have nK:=decide_eq_false c2;clear c2;by_cases c3:a0>=3
  ·rw [if_pos c3] at H;have gI:=decide_eq_true c3;clear c3;obtain rfl:=Option.some.inj H;go_enter Tryz.func104,Tryz.ntmps104;go_wp2;go_ret;exact ⟨zT,zW⟩
  ·rw [if_neg c3] at H;exact absurd H (by simp)
def uG.f (a0:Int):Option (ByteArray):=if a0=0 then zU.f else if a0=1 then zV.f else if a0=2 then zX.f else uQ.f a0
theorem uG.calls (a0:Int) (r:ByteArray) (w:World) (hG:GL w) (h:uG.f a0=some r) :
  Calls Tryz.prog 104 #[.int .i64 a0] w fun e w'=>e = .returned (.string r)/\dG w w':=by
 unfold uG.f at h;by_cases c0:a0=0
 ·subst c0;exact zU.calls r w hG (by rw [if_pos rfl] at h;exact h)
 ·rw [if_neg c0] at h;by_cases c1:a0=1
  ·subst c1;exact zV.calls r w hG (by rw [if_pos rfl] at h;exact h)
  ·rw [if_neg c1] at h;by_cases c2:a0=2
   ·subst c2;exact zX.calls r w hG (by rw [if_pos rfl] at h;exact h)
   ·rw [if_neg c2] at h;exact uQ.calls a0 r w hG h
def jR.j0:Nat->Bool->Int->Int->Int->Int->List Int->List Int->Int->Int->Int->Option (Bool)
 | 0,_,_,_,_,_,_,_,_,_,_=>none
 | k+1,x16,atU,az7,az8,az9,aAa,aAb,atW,atX,atY=>if x16=true then (some false) else (if atU=3 then ((jE.f atX).bind fun aqi=>(if aqi=true then ((jE.f atY).bind fun aqj=>(if aqj=true then ((uG.f atW).bind fun t105=>(some (t105.toList != ([]:List UInt8)))) else (some false))) else (some false))) else (some true))
def jR.f (k:Nat) (bn bV kS kT:Int) (je jh:List Int) (lg kC kQ:Int):Option (Bool):=if bn < 0 then (jR.j0 k true bn bV kS kT je jh lg kC kQ) else (if bn>=4 then (jR.j0 k true bn bV kS kT je jh lg kC kQ) else ((nM.f bV).bind fun anI=>(jR.j0 k (anI.toList == ([]:List UInt8)) bn bV kS kT je jh lg kC kQ)))
theorem jR.calls (k:Nat) (bn bV kS kT:Int) (nU:Option Addr) (nV:Nat) (je:List Int) (oO:Option Addr) (oP:Nat) (jh:List Int) (lg kC kQ:Int) (r:Bool) (w:World) (zY:Kd.C (Kd.int .i64) w nU je.length je) (zZ:je.length<=nV) (aac:Kd.C (Kd.int .i64) w oO jh.length jh) (aad:jh.length<=oP) (hG:GL w) (h:jR.f k bn bV kS kT je jh lg kC kQ=some r) :
  Calls Tryz.prog 85 #[.agg #[.int .i64 bn,.int .i64 bV,.int .i64 kS,.int .i64 kT,.slice nU je.length nV,.slice oO jh.length oP,.int .i64 lg,.int .i64 kC,.int .i64 kQ]] w fun e w'=>e = .returned (.bool r)/\Below w.heap.size w w':=by
 have auU:=Tryz.underlying47;have ahu:=aj.mk zY;have ahv:=aj.mk zZ;clear zY zZ;have akq:=aj.mk aac;have akr:=aj.mk aad;clear aac aad;have HB:=aj.mk (Below.refl w.heap.size w);have H:=h;clear h;unfold jR.f at H;have HC2:=aj.mk H;clear H;go_enter Tryz.func85,Tryz.ntmps85;go_upto_region 1 with (first|((with_reducible refine bG (N:=1) rfl ?_);refine bI zR (N:=1) zR (cs := #[.int .i64 bn,.int .i64 bV,.int .i64 kS,.int .i64 kT,.slice nU je.length nV,.slice oO jh.length oP,.int .i64 lg,.int .i64 kC,.int .i64 kQ]) (t:=47) zG ?_;intro awm hg w3 hbox hb;obtain ⟨HB,sH,aBs,asT⟩:=zA4 (ak zB hb) hbox (zg hg zB) (zg hg zB);clear hb hbox hg))
 (try simp only [Act.put,List.setIfInBounds_toArray,List.set_cons_zero,List.set_cons_succ])
 go_cut [16] (fun v16 wc=>∃ (kq:Nat) (yG:Bool),v16 = .bool yG/\aj (jR.j0 kq yG bn bV kS kT je jh lg kC kQ=some r)/\aj (kq<=k)/\aj (wc.heap[awm]? = some (.cells #[.int .i64 bn,.int .i64 bV,.int .i64 kS,.int .i64 kT,(.slice nU je.length nV),(.slice oO jh.length oP),.int .i64 lg,.int .i64 kC,.int .i64 kQ] 47 (0,0)))/\aj (Below w.heap.size w wc))
 case first =>
  have H:=HC2.out;clear HC2;by_cases c4:bn < 0
  ·rw [if_pos c4] at H;have fG:=decide_eq_true c4;clear c4
   (first|rw [fG]|(simp only [cZ,dD];rw [fG])|skip)
   have H':=aj.mk H;clear H;obtain ⟨_,_,_,_,_,_,_,_,_⟩:=zC9 sH.out;obtain ⟨_,_,_,_,_,_,_,_,_⟩:=zF9 sH.out;go_wp2;go_meet
   case rel=>exact ⟨_,(true),zT,H',⟨by first|omega|exact Nat.le_refl _⟩,⟨zK sH⟩,⟨zB⟩⟩
  ·rw [if_neg c4] at H;have fG:=decide_eq_false c4;clear c4
   (first|rw [fG]|(simp only [cZ,dD];rw [fG])|skip)
   by_cases c6:bn>=4
   ·rw [if_pos c6] at H;have iF:=decide_eq_true c6;clear c6;have H':=aj.mk H;clear H;obtain ⟨_,_,_,_,_,_,_,_,_⟩:=zC9 sH.out;obtain ⟨_,_,_,_,_,_,_,_,_⟩:=zF9 sH.out;go_wp2;go_meet
    case rel=>exact ⟨_,(true),zT,H',⟨by first|omega|exact Nat.le_refl _⟩,⟨zK sH⟩,⟨zB⟩⟩
   ·rw [if_neg c6] at H;have iF:=decide_eq_false c6;clear c6;replace H:=zO H;obtain ⟨anI,A8,H⟩:=H;try dsimp only at H
    have H':=aj.mk H;clear H;obtain ⟨_,_,_,_,_,_,_,_,_⟩:=zC9 sH.out;obtain ⟨_,_,_,_,_,_,_,_,_⟩:=zF9 sH.out;go_wp2_with (first|(go_at_call 77;(with_reducible refine (nM.calls bV anI _ (by exact GL.below hG (by repeat (first|(with_reducible first|exact HB.out|apply aT|apply aI|apply aZ|refine sV ?_ asT.out)|exact HB.out|exact Below.refl _ _))) A8.out).mono ?_);rintro e w' ⟨rfl,⟨nd,rfl⟩⟩));go_meet
    case rel=>exact ⟨_,((anI.toList == ([]:List UInt8))),zT,H',⟨by first|omega|exact Nat.le_refl _⟩,⟨zK sH⟩,⟨zB⟩⟩
 case rest =>
  clear HC2;obtain ⟨kq,yG,rfl,HA,HJ1,sH,HB⟩:=hcut;cases kq with
  | zero=>exact absurd HA.out (by simp [jR.j0])
  | succ kj1 =>
   have H:=HA.out;clear HA;simp only [jR.j0] at H;by_cases c10:yG=true
   ·subst c10;rw [if_pos rfl] at H;(try dsimp only at H);obtain rfl:=Option.some.inj H;go_wp2;go_ret;exact ⟨by first|rfl|(simp [bJ,bK] <;> rfl)|(simp [*,bJ,bK] <;> rfl)|(simp;cases t105.toList <;> rfl),zB⟩
   ·replace c10:=Bool.eq_false_iff.mpr c10;subst c10;rw [if_neg (show ¬ (false=true) by decide)] at H;(try dsimp only at H);by_cases c11:bn=3
    ·rw [if_pos c11] at H;have iV:(bn == 3)=true:=beq_iff_eq.mpr c11;have xM:(bn != 3)=false:=bne_eq_false_iff_eq.mpr c11;clear c11;replace H:=zO H;obtain ⟨aqi,A12,H⟩:=H;try dsimp only at H
     by_cases c13:aqi=true
     ·subst c13;rw [if_pos rfl] at H;(try dsimp only at H);replace H:=zO H;obtain ⟨aqj,A14,H⟩:=H;try dsimp only at H
      by_cases c15:aqj=true
      ·subst c15;rw [if_pos rfl] at H;(try dsimp only at H);replace H:=zO H;obtain ⟨t105,A16,H⟩:=H;try dsimp only at H
       obtain rfl:=Option.some.inj H;obtain ⟨_,_,_,_,_,_,_,_,_⟩:=zC9 sH.out;obtain ⟨_,_,_,_,_,_,_,_,_⟩:=zF9 sH.out;go_wp2_with (first|(go_at_call 86;(with_reducible refine (jE.calls kC true _ A12.out).mono ?_);rintro e w' ⟨rfl,⟨nd,rfl⟩⟩)|(go_at_call 86;(with_reducible refine (jE.calls kQ true _ A14.out).mono ?_);rintro e w' ⟨rfl,⟨nd,rfl⟩⟩)|(go_at_call 104;(with_reducible refine (uG.calls lg t105 _ (by exact GL.below hG (by repeat (first|(with_reducible first|exact HB.out|apply aT|apply aI|apply aZ|refine sV ?_ asT.out)|exact HB.out|exact Below.refl _ _))) A16.out).mono ?_);rintro e w' ⟨rfl,⟨nd,rfl⟩⟩));go_ret;exact ⟨by first|rfl|(simp [bJ,bK] <;> rfl)|(simp [*,bJ,bK] <;> rfl)|(simp;cases t105.toList <;> rfl),zB⟩
      ·replace c15:=Bool.eq_false_iff.mpr c15;subst c15;rw [if_neg (show ¬ (false=true) by decide)] at H;(try dsimp only at H);obtain rfl:=Option.some.inj H;obtain ⟨_,_,_,_,_,_,_,_,_⟩:=zC9 sH.out;obtain ⟨_,_,_,_,_,_,_,_,_⟩:=zF9 sH.out;go_wp2_with (first|(go_at_call 86;(with_reducible refine (jE.calls kC true _ A12.out).mono ?_);rintro e w' ⟨rfl,⟨nd,rfl⟩⟩)|(go_at_call 86;(with_reducible refine (jE.calls kQ false _ A14.out).mono ?_);rintro e w' ⟨rfl,⟨nd,rfl⟩⟩));go_ret;exact ⟨by first|rfl|(simp [bJ,bK] <;> rfl)|(simp [*,bJ,bK] <;> rfl)|(simp;cases t105.toList <;> rfl),zB⟩
     ·replace c13:=Bool.eq_false_iff.mpr c13;subst c13;rw [if_neg (show ¬ (false=true) by decide)] at H;(try dsimp only at H);obtain rfl:=Option.some.inj H;obtain ⟨_,_,_,_,_,_,_,_,_⟩:=zC9 sH.out;obtain ⟨_,_,_,_,_,_,_,_,_⟩:=zF9 sH.out;go_wp2_with (first|(go_at_call 86;(with_reducible refine (jE.calls kC false _ A12.out).mono ?_);rintro e w' ⟨rfl,⟨nd,rfl⟩⟩));go_ret;exact ⟨by first|rfl|(simp [bJ,bK] <;> rfl)|(simp [*,bJ,bK] <;> rfl)|(simp;cases t105.toList <;> rfl),zB⟩
    ·rw [if_neg c11] at H;have iV:(bn == 3)=false:=beq_eq_false_iff_ne.mpr c11;have xM:(bn != 3)=true:=bne_iff_ne.mpr c11;obtain rfl:=Option.some.inj H;obtain ⟨_,_,_,_,_,_,_,_,_⟩:=zC9 sH.out;obtain ⟨_,_,_,_,_,_,_,_,_⟩:=zF9 sH.out;go_wp2;go_ret;exact ⟨by first|rfl|(simp [bJ,bK] <;> rfl)|(simp [*,bJ,bK] <;> rfl)|(simp;cases t105.toList <;> rfl),zB⟩
def gB.f (a0:Int):Option (Int):=if a0 < 0 then (some (IntKind.u64.wrap (-(IntKind.u64.wrap (a0))))) else (some (IntKind.u64.wrap (a0)))
theorem gB.calls (a0 r:Int) (w:World) (h:gB.f a0=some r) :
  Calls Tryz.prog 163 #[.int .i64 a0] w fun e w'=>e = .returned (.int .u64 r)/\dG w w':=by
 have H:=h;clear h;unfold gB.f at H;by_cases c2:a0 < 0
 ·rw [if_pos c2] at H;have nK:=decide_eq_true c2;clear c2;obtain rfl:=Option.some.inj H;go_enter Tryz.func163,Tryz.ntmps163;go_wp2;go_ret;exact ⟨zT,zW⟩
 ·rw [if_neg c2] at H;have nK:=decide_eq_false c2;clear c2;obtain rfl:=Option.some.inj H;go_enter Tryz.func163,Tryz.ntmps163;go_wp2;go_ret;exact ⟨zT,zW⟩
def dL.j0:Nat->Int->Bool->Bool->Option (Int)
 | 0,_,_,_=>none
 | k+1,x0,x1,x5=>if x5=true then (some (-9223372036854775808)) else (if x1=true then (some (wrap64 (-(wrap64 (x0))))) else (if x0 > 9223372036854775807 then (some 9223372036854775807) else (some (wrap64 (x0)))))
def dL.f (k:Nat) (a0:Int) (a1:Bool):Option (Int):=if a1=true then (dL.j0 k a0 a1 (decide (a0>=9223372036854775808))) else (dL.j0 k a0 a1 false)
theorem dL.jg:∀ k,(∀ y0 y1 y2,LeO (dL.j0 k y0 y1 y2) (dL.j0 (k+1) y0 y1 y2))
 | 0=>fun _ _ _ r h=>by simp [dL.j0] at h
 | k+1=>by
  have ih0:=dL.jg k
  ·intro y0 y1 y2;unfold dL.j0;repeat' (with_reducible first|exact ih0 _ _ _|exact zM|refine LeO.ite ?_ ?_|refine LeO.bind ?_ (fun _ => ?_))
theorem dL.mono:∀ a0 a1 k,LeO (dL.f k a0 a1) (dL.f (k+1) a0 a1):=by
 intro a0 a1 k;have ih0:=dL.jg k;unfold dL.f;repeat' (with_reducible first|exact ih0 _ _ _|exact zM|refine LeO.ite ?_ ?_|refine LeO.bind ?_ (fun _ => ?_))
theorem dL.calls (k:Nat) (a0:Int) (a1:Bool) (r:Int) (w:World) (h:dL.f k a0 a1=some r) :
  Calls Tryz.prog 164 #[.int .u64 a0,.bool a1] w fun e w'=>e = .returned (.int .i64 r)/\dG w w':=by
 have H:=h;clear h;unfold dL.f at H;have HC3:=aj.mk H;clear H;go_enter Tryz.func164,Tryz.ntmps164;go_upto_region 1 with (fail);go_cut [5] (fun v5 wc=>∃ (kq:Nat) (ng:Bool),v5 = .bool ng/\aj (dL.j0 kq a0 a1 ng=some r)/\aj (kq<=k)/\dG w wc)
 case first =>
  have H:=HC3.out;clear HC3;by_cases c4:a1=true
  ·subst c4;rw [if_pos rfl] at H;(try dsimp only at H);have H':=aj.mk H;clear H;go_wp2;go_meet
   case rel=>exact ⟨_,(decide (a0>=9223372036854775808)),zT,H',⟨by first|omega|exact Nat.le_refl _⟩,zW⟩
  ·replace c4:=Bool.eq_false_iff.mpr c4;subst c4;rw [if_neg (show ¬ (false=true) by decide)] at H;(try dsimp only at H);have H':=aj.mk H;clear H;go_wp2;go_meet
   case rel=>exact ⟨_,(false),zT,H',⟨by first|omega|exact Nat.le_refl _⟩,zW⟩
 case rest =>
  clear HC3;obtain ⟨kq,ng,rfl,HA,HJ2,⟨mc2,rfl⟩⟩:=hcut;cases kq with
  | zero=>exact absurd HA.out (by simp [dL.j0])
  | succ kj2 =>
   have H:=HA.out;clear HA;simp only [dL.j0] at H;by_cases c5:ng=true
   ·subst c5;rw [if_pos rfl] at H;(try dsimp only at H);obtain rfl:=Option.some.inj H;go_wp2;go_ret;exact ⟨zT,zW⟩
   ·replace c5:=Bool.eq_false_iff.mpr c5;subst c5;rw [if_neg (show ¬ (false=true) by decide)] at H;(try dsimp only at H);by_cases c6:a1=true
    ·subst c6;rw [if_pos rfl] at H;(try dsimp only at H);obtain rfl:=Option.some.inj H;go_wp2;go_ret;exact ⟨zT,zW⟩
    ·replace c6:=Bool.eq_false_iff.mpr c6;subst c6;rw [if_neg (show ¬ (false=true) by decide)] at H;(try dsimp only at H);by_cases c7:a0 > 9223372036854775807
     ·rw [if_pos c7] at H;have jk:=decide_eq_true c7;clear c7;obtain rfl:=Option.some.inj H;go_wp2;go_ret;exact ⟨zT,zW⟩
     ·rw [if_neg c7] at H;have jk:=decide_eq_false c7;clear c7;obtain rfl:=Option.some.inj H;go_wp2;go_ret;exact ⟨zT,zW⟩
def dA.f (k:Nat) (a0 a1:Int):Option (Int):=if a1=0 then (some 0) else ((gB.f a0).bind fun pV=>((gB.f a1).bind fun t107=>(if t107=0 then (none) else (if ((decide (a0 < 0)) != (decide (a1 < 0)))=true then (if (Int.tmod pV t107)=0 then ((dL.f k (IntKind.u64.wrap (Int.tdiv pV t107)) true).bind fun akY=>(some akY)) else ((dL.f k (IntKind.u64.wrap ((IntKind.u64.wrap (Int.tdiv pV t107))+1)) true).bind fun t109=>(some t109))) else ((dL.f k (IntKind.u64.wrap (Int.tdiv pV t107)) false).bind fun akZ=>(some akZ))))))
theorem dA.mono:∀ a0 a1 k,LeO (dA.f k a0 a1) (dA.f (k+1) a0 a1):=by
 intro a0 a1 k;unfold dA.f;repeat' (with_reducible first|exact dL.mono _ _ _|exact zM|refine LeO.ite ?_ ?_|refine LeO.bind ?_ (fun _ => ?_))
theorem dA.calls (k:Nat) (a0 a1 r:Int) (w:World) (h:dA.f k a0 a1=some r) :
  Calls Tryz.prog 133 #[.int .i64 a0,.int .i64 a1] w fun e w'=>e = .returned (.int .i64 r)/\dG w w':=by
 have H:=h;clear h;unfold dA.f at H;by_cases c3:a1=0
 ·rw [if_pos c3] at H;have gI:(a1 == 0)=true:=beq_iff_eq.mpr c3;have xZ:(a1 != 0)=false:=bne_eq_false_iff_eq.mpr c3;clear c3;obtain rfl:=Option.some.inj H;go_enter Tryz.func133,Tryz.ntmps133;go_wp2;repeat (go_quiet (fail);try go_wp2)
  go_ret;exact ⟨zT,zW⟩
 ·rw [if_neg c3] at H;have gI:(a1 == 0)=false:=beq_eq_false_iff_ne.mpr c3;have xZ:(a1 != 0)=true:=bne_iff_ne.mpr c3;replace H:=zO H;obtain ⟨pV,A4,H⟩:=H;try dsimp only at H
  replace H:=zO H;obtain ⟨t107,A5,H⟩:=H;try dsimp only at H
  by_cases c6:t107=0
  ·rw [if_pos c6] at H;exact absurd H (by simp)
  ·rw [if_neg c6] at H;have iF:(t107 == 0)=false:=beq_eq_false_iff_ne.mpr c6;have vP:(t107 != 0)=true:=bne_iff_ne.mpr c6;by_cases c7:((decide (a0 < 0)) != (decide (a1 < 0)))=true
   ·rw [if_pos c7] at H;have jk:((decide (a0 < 0)) != (decide (a1 < 0)))=true:=c7
    (try (have aaB:decide ((decide (a0 < 0))=(decide (a1 < 0)))=false:=by simpa using c7))
    (try (have ayE:((decide (a0 < 0)) == (decide (a1 < 0)))=false:=by simpa using c7))
    (try (have aD3:¬ ((decide (a0 < 0))=(decide (a1 < 0))):=by simpa using c7))
    clear c7;by_cases c8:(Int.tmod pV t107)=0
    ·rw [if_pos c8] at H;have vS:((Int.tmod pV t107) == 0)=true:=beq_iff_eq.mpr c8;have ab4:((Int.tmod pV t107) != 0)=false:=bne_eq_false_iff_eq.mpr c8;clear c8;replace H:=zO H;obtain ⟨akY,A9,H⟩:=H;try dsimp only at H
     obtain rfl:=Option.some.inj H;go_enter Tryz.func133,Tryz.ntmps133;go_wp2_with (first|(go_at_call 163;(with_reducible refine (gB.calls a0 pV _ A4.out).mono ?_);rintro e w' ⟨rfl,⟨nd,rfl⟩⟩;(try exact ⟨rfl,_,zN⟩))|(go_at_call 163;(with_reducible refine (gB.calls a1 t107 _ A5.out).mono ?_);rintro e w' ⟨rfl,⟨nd,rfl⟩⟩;(try exact ⟨rfl,_,zN⟩))|(go_at_call 164;(with_reducible refine (dL.calls k (IntKind.u64.wrap (Int.tdiv pV t107)) true akY _ A9.out).mono ?_);rintro e w' ⟨rfl,⟨nd,rfl⟩⟩;(try exact ⟨rfl,_,zN⟩)));repeat (go_quiet (first|(go_at_call 163;(with_reducible refine (gB.calls a0 pV _ A4.out).mono ?_);rintro e w' ⟨rfl,⟨nd,rfl⟩⟩;(try exact ⟨rfl,_,zN⟩))|(go_at_call 163;(with_reducible refine (gB.calls a1 t107 _ A5.out).mono ?_);rintro e w' ⟨rfl,⟨nd,rfl⟩⟩;(try exact ⟨rfl,_,zN⟩))|(go_at_call 164;(with_reducible refine (dL.calls k (IntKind.u64.wrap (Int.tdiv pV t107)) true akY _ A9.out).mono ?_);rintro e w' ⟨rfl,⟨nd,rfl⟩⟩;(try exact ⟨rfl,_,zN⟩)));try go_wp2_with (first|(go_at_call 163;(with_reducible refine (gB.calls a0 pV _ A4.out).mono ?_);rintro e w' ⟨rfl,⟨nd,rfl⟩⟩;(try exact ⟨rfl,_,zN⟩))|(go_at_call 163;(with_reducible refine (gB.calls a1 t107 _ A5.out).mono ?_);rintro e w' ⟨rfl,⟨nd,rfl⟩⟩;(try exact ⟨rfl,_,zN⟩))|(go_at_call 164;(with_reducible refine (dL.calls k (IntKind.u64.wrap (Int.tdiv pV t107)) true akY _ A9.out).mono ?_);rintro e w' ⟨rfl,⟨nd,rfl⟩⟩;(try exact ⟨rfl,_,zN⟩))))
     go_ret;exact ⟨zT,zW⟩
    ·rw [if_neg c8] at H;have vS:((Int.tmod pV t107) == 0)=false:=beq_eq_false_iff_ne.mpr c8;have ab4:((Int.tmod pV t107) != 0)=true:=bne_iff_ne.mpr c8;replace H:=zO H;obtain ⟨t109,A10,H⟩:=H;try dsimp only at H
     obtain rfl:=Option.some.inj H;go_enter Tryz.func133,Tryz.ntmps133;go_wp2_with (first|(go_at_call 163;(with_reducible refine (gB.calls a0 pV _ A4.out).mono ?_);rintro e w' ⟨rfl,⟨nd,rfl⟩⟩;(try exact ⟨rfl,_,zN⟩))|(go_at_call 163;(with_reducible refine (gB.calls a1 t107 _ A5.out).mono ?_);rintro e w' ⟨rfl,⟨nd,rfl⟩⟩;(try exact ⟨rfl,_,zN⟩))|(go_at_call 164;(with_reducible refine (dL.calls k (IntKind.u64.wrap ((IntKind.u64.wrap (Int.tdiv pV t107))+1)) true t109 _ A10.out).mono ?_);rintro e w' ⟨rfl,⟨nd,rfl⟩⟩;(try exact ⟨rfl,_,zN⟩)));repeat (go_quiet (first|(go_at_call 163;(with_reducible refine (gB.calls a0 pV _ A4.out).mono ?_);rintro e w' ⟨rfl,⟨nd,rfl⟩⟩;(try exact ⟨rfl,_,zN⟩))|(go_at_call 163;(with_reducible refine (gB.calls a1 t107 _ A5.out).mono ?_);rintro e w' ⟨rfl,⟨nd,rfl⟩⟩;(try exact ⟨rfl,_,zN⟩))|(go_at_call 164;(with_reducible refine (dL.calls k (IntKind.u64.wrap ((IntKind.u64.wrap (Int.tdiv pV t107))+1)) true t109 _ A10.out).mono ?_);rintro e w' ⟨rfl,⟨nd,rfl⟩⟩;(try exact ⟨rfl,_,zN⟩)));try go_wp2_with (first|(go_at_call 163;(with_reducible refine (gB.calls a0 pV _ A4.out).mono ?_);rintro e w' ⟨rfl,⟨nd,rfl⟩⟩;(try exact ⟨rfl,_,zN⟩))|(go_at_call 163;(with_reducible refine (gB.calls a1 t107 _ A5.out).mono ?_);rintro e w' ⟨rfl,⟨nd,rfl⟩⟩;(try exact ⟨rfl,_,zN⟩))|(go_at_call 164;(with_reducible refine (dL.calls k (IntKind.u64.wrap ((IntKind.u64.wrap (Int.tdiv pV t107))+1)) true t109 _ A10.out).mono ?_);rintro e w' ⟨rfl,⟨nd,rfl⟩⟩;(try exact ⟨rfl,_,zN⟩))))
     go_ret;exact ⟨zT,zW⟩
   ·rw [if_neg c7] at H;have jk:((decide (a0 < 0)) != (decide (a1 < 0)))=false:=by simpa using c7
    (try (have aaB:decide ((decide (a0 < 0))=(decide (a1 < 0)))=true:=by simpa using c7))
    (try (have ayE:((decide (a0 < 0)) == (decide (a1 < 0)))=true:=by simpa using c7))
    clear c7;replace H:=zO H;obtain ⟨akZ,A11,H⟩:=H;try dsimp only at H
    obtain rfl:=Option.some.inj H;go_enter Tryz.func133,Tryz.ntmps133;go_wp2_with (first|(go_at_call 163;(with_reducible refine (gB.calls a0 pV _ A4.out).mono ?_);rintro e w' ⟨rfl,⟨nd,rfl⟩⟩;(try exact ⟨rfl,_,zN⟩))|(go_at_call 163;(with_reducible refine (gB.calls a1 t107 _ A5.out).mono ?_);rintro e w' ⟨rfl,⟨nd,rfl⟩⟩;(try exact ⟨rfl,_,zN⟩))|(go_at_call 164;(with_reducible refine (dL.calls k (IntKind.u64.wrap (Int.tdiv pV t107)) false akZ _ A11.out).mono ?_);rintro e w' ⟨rfl,⟨nd,rfl⟩⟩;(try exact ⟨rfl,_,zN⟩)));repeat (go_quiet (first|(go_at_call 163;(with_reducible refine (gB.calls a0 pV _ A4.out).mono ?_);rintro e w' ⟨rfl,⟨nd,rfl⟩⟩;(try exact ⟨rfl,_,zN⟩))|(go_at_call 163;(with_reducible refine (gB.calls a1 t107 _ A5.out).mono ?_);rintro e w' ⟨rfl,⟨nd,rfl⟩⟩;(try exact ⟨rfl,_,zN⟩))|(go_at_call 164;(with_reducible refine (dL.calls k (IntKind.u64.wrap (Int.tdiv pV t107)) false akZ _ A11.out).mono ?_);rintro e w' ⟨rfl,⟨nd,rfl⟩⟩;(try exact ⟨rfl,_,zN⟩)));try go_wp2_with (first|(go_at_call 163;(with_reducible refine (gB.calls a0 pV _ A4.out).mono ?_);rintro e w' ⟨rfl,⟨nd,rfl⟩⟩;(try exact ⟨rfl,_,zN⟩))|(go_at_call 163;(with_reducible refine (gB.calls a1 t107 _ A5.out).mono ?_);rintro e w' ⟨rfl,⟨nd,rfl⟩⟩;(try exact ⟨rfl,_,zN⟩))|(go_at_call 164;(with_reducible refine (dL.calls k (IntKind.u64.wrap (Int.tdiv pV t107)) false akZ _ A11.out).mono ?_);rintro e w' ⟨rfl,⟨nd,rfl⟩⟩;(try exact ⟨rfl,_,zN⟩))))
    go_ret;exact ⟨zT,zW⟩
def jq.f (a0 a1 a2 a3:Int):Option (Bool):=if a0>=0 then (if a0 < 3 then (if a1>=1 then (if a1<=65536 then (if a2>=1 then (if a2<=65536 then (if a3>=0 then (some (decide (a3 < a2))) else (some false)) else (some false)) else (some false)) else (some false)) else (some false)) else (some false)) else (some false)
theorem jq.calls (a0 a1 a2 a3:Int) (r:Bool) (w:World) (h:jq.f a0 a1 a2 a3=some r) :
  Calls Tryz.prog 151 #[.int .i64 a0,.int .i64 a1,.int .i64 a2,.int .i64 a3] w fun e w'=>e = .returned (.bool r)/\dG w w':=by
 have H:=h;clear h;unfold jq.f at H;by_cases c5:a0>=0
 ·rw [if_pos c5] at H;have iy:=decide_eq_true c5;clear c5;by_cases c6:a0 < 3
  ·rw [if_pos c6] at H;have iF:=decide_eq_true c6;clear c6;by_cases c7:a1>=1
   ·rw [if_pos c7] at H;have jk:=decide_eq_true c7;clear c7;by_cases c8:a1<=65536
    ·rw [if_pos c8] at H;have vS:=decide_eq_true c8;clear c8;by_cases c9:a2>=1
     ·rw [if_pos c9] at H;have qH:=decide_eq_true c9;clear c9;by_cases c10:a2<=65536
      ·rw [if_pos c10] at H;have pX:=decide_eq_true c10;clear c10;by_cases c11:a3>=0
       ·rw [if_pos c11] at H;have iV:=decide_eq_true c11;clear c11;obtain rfl:=Option.some.inj H;go_enter Tryz.func151,Tryz.ntmps151;go_wp2;go_ret;exact ⟨zT,zW⟩
       ·rw [if_neg c11] at H;have iV:=decide_eq_false c11;clear c11;obtain rfl:=Option.some.inj H;go_enter Tryz.func151,Tryz.ntmps151;go_wp2;go_ret;exact ⟨zT,zW⟩
      ·rw [if_neg c10] at H;have pX:=decide_eq_false c10;clear c10;obtain rfl:=Option.some.inj H;go_enter Tryz.func151,Tryz.ntmps151;go_wp2;go_ret;exact ⟨zT,zW⟩
     ·rw [if_neg c9] at H;have qH:=decide_eq_false c9;clear c9;obtain rfl:=Option.some.inj H;go_enter Tryz.func151,Tryz.ntmps151;go_wp2;go_ret;exact ⟨zT,zW⟩
    ·rw [if_neg c8] at H;have vS:=decide_eq_false c8;clear c8;obtain rfl:=Option.some.inj H;go_enter Tryz.func151,Tryz.ntmps151;go_wp2;go_ret;exact ⟨zT,zW⟩
   ·rw [if_neg c7] at H;have jk:=decide_eq_false c7;clear c7;obtain rfl:=Option.some.inj H;go_enter Tryz.func151,Tryz.ntmps151;go_wp2;go_ret;exact ⟨zT,zW⟩
  ·rw [if_neg c6] at H;have iF:=decide_eq_false c6;clear c6;obtain rfl:=Option.some.inj H;go_enter Tryz.func151,Tryz.ntmps151;go_wp2;go_ret;exact ⟨zT,zW⟩
 ·rw [if_neg c5] at H;have iy:=decide_eq_false c5;clear c5;obtain rfl:=Option.some.inj H;go_enter Tryz.func151,Tryz.ntmps151;go_wp2;go_ret;exact ⟨zT,zW⟩
def gW.f (k:Nat) (a0 a1:Int):Option (Int):=(dA.f k (wrap64 (-a0)) a1).bind fun aqk=>(some (wrap64 (-aqk)))
theorem gW.mono:∀ a0 a1 k,LeO (gW.f k a0 a1) (gW.f (k+1) a0 a1):=by
 intro a0 a1 k;unfold gW.f;repeat' (with_reducible first|exact dA.mono _ _ _|exact zM|refine LeO.ite ?_ ?_|refine LeO.bind ?_ (fun _ => ?_))
theorem gW.calls (k:Nat) (a0 a1 r:Int) (w:World) (h:gW.f k a0 a1=some r) :
  Calls Tryz.prog 152 #[.int .i64 a0,.int .i64 a1] w fun e w'=>e = .returned (.int .i64 r)/\dG w w':=by
 have H:=h;clear h;unfold gW.f at H;replace H:=zO H;obtain ⟨aqk,A3,H⟩:=H;try dsimp only at H
 obtain rfl:=Option.some.inj H;go_enter Tryz.func152,Tryz.ntmps152;go_wp2_with (first|((with_reducible refine ay (f:=133) rfl ?_);refine aH (some 8) rfl rfl Tryz.func133 (by kernel_rfl) rfl #[.int .i64 (wrap64 (-a0)),.int .i64 a1] rfl zL ?_;(with_reducible refine (dA.calls k (wrap64 (-a0)) a1 aqk _ A3.out).mono ?_);rintro e w' ⟨rfl,⟨nd,rfl⟩⟩;refine ⟨_,rfl,?_⟩));go_ret;exact ⟨zT,zW⟩
def jK.f (k:Nat) (a1 a2 a3:Int):Option (Int × Int):=(jq.f 1 a1 a2 a3).bind fun aql=>(if aql=true then ((dA.f k (wrap64 (a3*a1)) a2).bind fun anJ=>((gW.f k (wrap64 ((wrap64 (a3+1))*a1)) a2).bind fun anK=>((dA.f k (wrap64 ((wrap64 ((wrap64 ((wrap64 ((wrap64 (2*a3))+1))*a1)) - a2)) - (wrap64 (4*(mx a1 a2))))) (wrap64 (2*a2))).bind fun adI=>((gW.f k (wrap64 ((wrap64 ((wrap64 ((wrap64 ((wrap64 (2*a3))+1))*a1)) - a2))+(wrap64 (4*(mx a1 a2))))) (wrap64 (2*a2))).bind fun t116=>(some (wrap64 (adI+1),wrap64 (t116 - (wrap64 (adI+1))))))))) else (some (0,0)))
theorem jK.mono:∀ a1 a2 a3 k,LeO (jK.f k a1 a2 a3) (jK.f (k+1) a1 a2 a3):=by
 intro a1 a2 a3 k;unfold jK.f;repeat' (with_reducible first|exact dA.mono _ _ _|exact gW.mono _ _ _|exact zM|refine LeO.ite ?_ ?_|refine LeO.bind ?_ (fun _ => ?_))
theorem jK.calls (k:Nat) (a1 a2 a3 r1 r2:Int) (w:World) (hG:GL w) (h:jK.f k a1 a2 a3=some (r1,r2)) :
  Calls Tryz.prog 128 #[.int .i64 1,.int .i64 a1,.int .i64 a2,.int .i64 a3] w fun e w'=>e = .returned (.tuple #[.int .i64 r1,.int .i64 r2])/\Below w.heap.size w w':=by
 have HB:=aj.mk (Below.refl w.heap.size w);have H:=h;clear h;unfold jK.f at H;obtain ⟨⟨abk,abl,abm,abn,abo,abp⟩,⟨abq,abr,abt,abu,abv,abw,abx⟩⟩:=hG;replace H:=zO H;obtain ⟨aql,A5,H⟩:=H;try dsimp only at H
 by_cases c6:aql=true
 ·subst c6;rw [if_pos rfl] at H;(try dsimp only at H);replace H:=zO H;obtain ⟨anJ,A7,H⟩:=H;try dsimp only at H
  replace H:=zO H;obtain ⟨anK,A8,H⟩:=H;try dsimp only at H
  obtain ⟨ji9,nN⟩:∃ j_:Int,(mx a1 a2)=j_:=⟨_,rfl⟩;replace H:((dA.f k (wrap64 ((wrap64 ((wrap64 ((wrap64 ((wrap64 (2*a3))+1))*a1)) - a2)) - (wrap64 (4*(ji9))))) (wrap64 (2*a2))).bind fun adI=>((gW.f k (wrap64 ((wrap64 ((wrap64 ((wrap64 ((wrap64 (2*a3))+1))*a1)) - a2))+(wrap64 (4*(ji9))))) (wrap64 (2*a2))).bind fun t116=>(some (wrap64 (adI+1),wrap64 (t116 - (wrap64 (adI+1)))))))=some (r1,r2):=by first|(rw [nN] at H;exact H)|(simp only [nN] at H ⊢;exact H)
  (try rw [nN] at A5)
  (try rw [nN] at A7)
  (try rw [nN] at A8)
  have anL:(if a1 < a2 then a2 else a1)=ji9:=nN;replace H:=zO H;obtain ⟨adI,A10,H⟩:=H;try dsimp only at H
  replace H:=zO H;obtain ⟨t116,A11,H⟩:=H;try dsimp only at H
  simp only [Option.some.injEq,Prod.mk.injEq] at H;obtain ⟨rfl,rfl⟩:=H;go_enter Tryz.func128,Tryz.ntmps128;go_wp2_with (first|(go_at_call 151;(with_reducible refine (jq.calls 1 a1 a2 a3 true _ A5.out).mono ?_);rintro e w' ⟨rfl,⟨nd,rfl⟩⟩;(try exact ⟨rfl,_,zN⟩))|(go_at_call 133;(with_reducible refine (dA.calls k (wrap64 (a3*a1)) a2 anJ _ A7.out).mono ?_);rintro e w' ⟨rfl,⟨nd,rfl⟩⟩;(try exact ⟨rfl,_,zN⟩))|(go_at_call 152;(with_reducible refine (gW.calls k (wrap64 ((wrap64 (a3+1))*a1)) a2 anK _ A8.out).mono ?_);rintro e w' ⟨rfl,⟨nd,rfl⟩⟩;(try exact ⟨rfl,_,zN⟩))|(go_at_call 133;(with_reducible refine (dA.calls k (wrap64 ((wrap64 ((wrap64 ((wrap64 ((wrap64 (2*a3))+1))*a1)) - a2)) - (wrap64 (4*(ji9))))) (wrap64 (2*a2)) adI _ A10.out).mono ?_);rintro e w' ⟨rfl,⟨nd,rfl⟩⟩;(try exact ⟨rfl,_,zN⟩))|(go_at_call 152;(with_reducible refine (gW.calls k (wrap64 ((wrap64 ((wrap64 ((wrap64 ((wrap64 (2*a3))+1))*a1)) - a2))+(wrap64 (4*(ji9))))) (wrap64 (2*a2)) t116 _ A11.out).mono ?_);rintro e w' ⟨rfl,⟨nd,rfl⟩⟩;(try exact ⟨rfl,_,zN⟩)));repeat (go_quiet (first|(go_at_call 151;(with_reducible refine (jq.calls 1 a1 a2 a3 true _ A5.out).mono ?_);rintro e w' ⟨rfl,⟨nd,rfl⟩⟩;(try exact ⟨rfl,_,zN⟩))|(go_at_call 133;(with_reducible refine (dA.calls k (wrap64 (a3*a1)) a2 anJ _ A7.out).mono ?_);rintro e w' ⟨rfl,⟨nd,rfl⟩⟩;(try exact ⟨rfl,_,zN⟩))|(go_at_call 152;(with_reducible refine (gW.calls k (wrap64 ((wrap64 (a3+1))*a1)) a2 anK _ A8.out).mono ?_);rintro e w' ⟨rfl,⟨nd,rfl⟩⟩;(try exact ⟨rfl,_,zN⟩))|(go_at_call 133;(with_reducible refine (dA.calls k (wrap64 ((wrap64 ((wrap64 ((wrap64 ((wrap64 (2*a3))+1))*a1)) - a2)) - (wrap64 (4*(ji9))))) (wrap64 (2*a2)) adI _ A10.out).mono ?_);rintro e w' ⟨rfl,⟨nd,rfl⟩⟩;(try exact ⟨rfl,_,zN⟩))|(go_at_call 152;(with_reducible refine (gW.calls k (wrap64 ((wrap64 ((wrap64 ((wrap64 ((wrap64 (2*a3))+1))*a1)) - a2))+(wrap64 (4*(ji9))))) (wrap64 (2*a2)) t116 _ A11.out).mono ?_);rintro e w' ⟨rfl,⟨nd,rfl⟩⟩;(try exact ⟨rfl,_,zN⟩)));try go_wp2_with (first|(go_at_call 151;(with_reducible refine (jq.calls 1 a1 a2 a3 true _ A5.out).mono ?_);rintro e w' ⟨rfl,⟨nd,rfl⟩⟩;(try exact ⟨rfl,_,zN⟩))|(go_at_call 133;(with_reducible refine (dA.calls k (wrap64 (a3*a1)) a2 anJ _ A7.out).mono ?_);rintro e w' ⟨rfl,⟨nd,rfl⟩⟩;(try exact ⟨rfl,_,zN⟩))|(go_at_call 152;(with_reducible refine (gW.calls k (wrap64 ((wrap64 (a3+1))*a1)) a2 anK _ A8.out).mono ?_);rintro e w' ⟨rfl,⟨nd,rfl⟩⟩;(try exact ⟨rfl,_,zN⟩))|(go_at_call 133;(with_reducible refine (dA.calls k (wrap64 ((wrap64 ((wrap64 ((wrap64 ((wrap64 (2*a3))+1))*a1)) - a2)) - (wrap64 (4*(ji9))))) (wrap64 (2*a2)) adI _ A10.out).mono ?_);rintro e w' ⟨rfl,⟨nd,rfl⟩⟩;(try exact ⟨rfl,_,zN⟩))|(go_at_call 152;(with_reducible refine (gW.calls k (wrap64 ((wrap64 ((wrap64 ((wrap64 ((wrap64 (2*a3))+1))*a1)) - a2))+(wrap64 (4*(ji9))))) (wrap64 (2*a2)) t116 _ A11.out).mono ?_);rintro e w' ⟨rfl,⟨nd,rfl⟩⟩;(try exact ⟨rfl,_,zN⟩))))
  go_ret2;exact ⟨by first|rfl|(simp [bJ,bK] <;> rfl)|(simp only [<- nN];first|rfl|(simp [bJ,bK] <;> rfl))|(simp [*,bJ,bK] <;> rfl),zB⟩
 ·replace c6:=Bool.eq_false_iff.mpr c6;subst c6;rw [if_neg (show ¬ (false=true) by decide)] at H;(try dsimp only at H);simp only [Option.some.injEq,Prod.mk.injEq] at H;obtain ⟨rfl,rfl⟩:=H;go_enter Tryz.func128,Tryz.ntmps128;go_wp2_with (first|(go_at_call 151;(with_reducible refine (jq.calls 1 a1 a2 a3 false _ A5.out).mono ?_);rintro e w' ⟨rfl,⟨nd,rfl⟩⟩;(try exact ⟨rfl,_,zN⟩)));repeat (go_quiet (first|(go_at_call 151;(with_reducible refine (jq.calls 1 a1 a2 a3 false _ A5.out).mono ?_);rintro e w' ⟨rfl,⟨nd,rfl⟩⟩;(try exact ⟨rfl,_,zN⟩)));try go_wp2_with (first|(go_at_call 151;(with_reducible refine (jq.calls 1 a1 a2 a3 false _ A5.out).mono ?_);rintro e w' ⟨rfl,⟨nd,rfl⟩⟩;(try exact ⟨rfl,_,zN⟩))))
  go_ret2;exact ⟨zS,zB⟩
def jL.f (k:Nat) (a1 a2 a3:Int):Option (Int × Int):=(jq.f 2 a1 a2 a3).bind fun t117=>(if t117=true then ((dA.f k (wrap64 (a3*a1)) a2).bind fun anM=>((gW.f k (wrap64 ((wrap64 (a3+1))*a1)) a2).bind fun t119=>((dA.f k (wrap64 ((wrap64 ((wrap64 ((wrap64 ((wrap64 (2*a3))+1))*a1)) - a2)) - (wrap64 (6*(mx a1 a2))))) (wrap64 (2*a2))).bind fun adJ=>((gW.f k (wrap64 ((wrap64 ((wrap64 ((wrap64 ((wrap64 (2*a3))+1))*a1)) - a2))+(wrap64 (6*(mx a1 a2))))) (wrap64 (2*a2))).bind fun agD=>(some (wrap64 (adJ+1),wrap64 (agD - (wrap64 (adJ+1))))))))) else (some (0,0)))
theorem jL.mono:∀ a1 a2 a3 k,LeO (jL.f k a1 a2 a3) (jL.f (k+1) a1 a2 a3):=by
 intro a1 a2 a3 k;unfold jL.f;repeat' (with_reducible first|exact dA.mono _ _ _|exact gW.mono _ _ _|exact zM|refine LeO.ite ?_ ?_|refine LeO.bind ?_ (fun _ => ?_))
theorem jL.calls (k:Nat) (a1 a2 a3 r1 r2:Int) (w:World) (hG:GL w) (h:jL.f k a1 a2 a3=some (r1,r2)) :
  Calls Tryz.prog 128 #[.int .i64 2,.int .i64 a1,.int .i64 a2,.int .i64 a3] w fun e w'=>e = .returned (.tuple #[.int .i64 r1,.int .i64 r2])/\Below w.heap.size w w':=by
 have HB:=aj.mk (Below.refl w.heap.size w);have H:=h;clear h;unfold jL.f at H;obtain ⟨⟨abk,abl,abm,abn,abo,abp⟩,⟨abq,abr,abt,abu,abv,abw,abx⟩⟩:=hG;replace H:=zO H;obtain ⟨t117,A5,H⟩:=H;try dsimp only at H
 by_cases c6:t117=true
 ·subst c6;rw [if_pos rfl] at H;(try dsimp only at H);replace H:=zO H;obtain ⟨anM,A7,H⟩:=H;try dsimp only at H
  replace H:=zO H;obtain ⟨t119,A8,H⟩:=H;try dsimp only at H
  obtain ⟨ji9,nN⟩:∃ j_:Int,(mx a1 a2)=j_:=⟨_,rfl⟩;replace H:((dA.f k (wrap64 ((wrap64 ((wrap64 ((wrap64 ((wrap64 (2*a3))+1))*a1)) - a2)) - (wrap64 (6*(ji9))))) (wrap64 (2*a2))).bind fun adJ=>((gW.f k (wrap64 ((wrap64 ((wrap64 ((wrap64 ((wrap64 (2*a3))+1))*a1)) - a2))+(wrap64 (6*(ji9))))) (wrap64 (2*a2))).bind fun agD=>(some (wrap64 (adJ+1),wrap64 (agD - (wrap64 (adJ+1)))))))=some (r1,r2):=by first|(rw [nN] at H;exact H)|(simp only [nN] at H ⊢;exact H)
  (try rw [nN] at A5)
  (try rw [nN] at A7)
  (try rw [nN] at A8)
  have anL:(if a1 < a2 then a2 else a1)=ji9:=nN;replace H:=zO H;obtain ⟨adJ,A10,H⟩:=H;try dsimp only at H
  replace H:=zO H;obtain ⟨agD,A11,H⟩:=H;try dsimp only at H
  simp only [Option.some.injEq,Prod.mk.injEq] at H;obtain ⟨rfl,rfl⟩:=H;go_enter Tryz.func128,Tryz.ntmps128;go_wp2_with (first|(go_at_call 151;(with_reducible refine (jq.calls 2 a1 a2 a3 true _ A5.out).mono ?_);rintro e w' ⟨rfl,⟨nd,rfl⟩⟩;(try exact ⟨rfl,_,zN⟩))|(go_at_call 133;(with_reducible refine (dA.calls k (wrap64 (a3*a1)) a2 anM _ A7.out).mono ?_);rintro e w' ⟨rfl,⟨nd,rfl⟩⟩;(try exact ⟨rfl,_,zN⟩))|(go_at_call 152;(with_reducible refine (gW.calls k (wrap64 ((wrap64 (a3+1))*a1)) a2 t119 _ A8.out).mono ?_);rintro e w' ⟨rfl,⟨nd,rfl⟩⟩;(try exact ⟨rfl,_,zN⟩))|(go_at_call 133;(with_reducible refine (dA.calls k (wrap64 ((wrap64 ((wrap64 ((wrap64 ((wrap64 (2*a3))+1))*a1)) - a2)) - (wrap64 (6*(ji9))))) (wrap64 (2*a2)) adJ _ A10.out).mono ?_);rintro e w' ⟨rfl,⟨nd,rfl⟩⟩;(try exact ⟨rfl,_,zN⟩))|(go_at_call 152;(with_reducible refine (gW.calls k (wrap64 ((wrap64 ((wrap64 ((wrap64 ((wrap64 (2*a3))+1))*a1)) - a2))+(wrap64 (6*(ji9))))) (wrap64 (2*a2)) agD _ A11.out).mono ?_);rintro e w' ⟨rfl,⟨nd,rfl⟩⟩;(try exact ⟨rfl,_,zN⟩)));repeat (go_quiet (first|(go_at_call 151;(with_reducible refine (jq.calls 2 a1 a2 a3 true _ A5.out).mono ?_);rintro e w' ⟨rfl,⟨nd,rfl⟩⟩;(try exact ⟨rfl,_,zN⟩))|(go_at_call 133;(with_reducible refine (dA.calls k (wrap64 (a3*a1)) a2 anM _ A7.out).mono ?_);rintro e w' ⟨rfl,⟨nd,rfl⟩⟩;(try exact ⟨rfl,_,zN⟩))|(go_at_call 152;(with_reducible refine (gW.calls k (wrap64 ((wrap64 (a3+1))*a1)) a2 t119 _ A8.out).mono ?_);rintro e w' ⟨rfl,⟨nd,rfl⟩⟩;(try exact ⟨rfl,_,zN⟩))|(go_at_call 133;(with_reducible refine (dA.calls k (wrap64 ((wrap64 ((wrap64 ((wrap64 ((wrap64 (2*a3))+1))*a1)) - a2)) - (wrap64 (6*(ji9))))) (wrap64 (2*a2)) adJ _ A10.out).mono ?_);rintro e w' ⟨rfl,⟨nd,rfl⟩⟩;(try exact ⟨rfl,_,zN⟩))|(go_at_call 152;(with_reducible refine (gW.calls k (wrap64 ((wrap64 ((wrap64 ((wrap64 ((wrap64 (2*a3))+1))*a1)) - a2))+(wrap64 (6*(ji9))))) (wrap64 (2*a2)) agD _ A11.out).mono ?_);rintro e w' ⟨rfl,⟨nd,rfl⟩⟩;(try exact ⟨rfl,_,zN⟩)));try go_wp2_with (first|(go_at_call 151;(with_reducible refine (jq.calls 2 a1 a2 a3 true _ A5.out).mono ?_);rintro e w' ⟨rfl,⟨nd,rfl⟩⟩;(try exact ⟨rfl,_,zN⟩))|(go_at_call 133;(with_reducible refine (dA.calls k (wrap64 (a3*a1)) a2 anM _ A7.out).mono ?_);rintro e w' ⟨rfl,⟨nd,rfl⟩⟩;(try exact ⟨rfl,_,zN⟩))|(go_at_call 152;(with_reducible refine (gW.calls k (wrap64 ((wrap64 (a3+1))*a1)) a2 t119 _ A8.out).mono ?_);rintro e w' ⟨rfl,⟨nd,rfl⟩⟩;(try exact ⟨rfl,_,zN⟩))|(go_at_call 133;(with_reducible refine (dA.calls k (wrap64 ((wrap64 ((wrap64 ((wrap64 ((wrap64 (2*a3))+1))*a1)) - a2)) - (wrap64 (6*(ji9))))) (wrap64 (2*a2)) adJ _ A10.out).mono ?_);rintro e w' ⟨rfl,⟨nd,rfl⟩⟩;(try exact ⟨rfl,_,zN⟩))|(go_at_call 152;(with_reducible refine (gW.calls k (wrap64 ((wrap64 ((wrap64 ((wrap64 ((wrap64 (2*a3))+1))*a1)) - a2))+(wrap64 (6*(ji9))))) (wrap64 (2*a2)) agD _ A11.out).mono ?_);rintro e w' ⟨rfl,⟨nd,rfl⟩⟩;(try exact ⟨rfl,_,zN⟩))))
  go_ret2;exact ⟨by first|rfl|(simp [bJ,bK] <;> rfl)|(simp only [<- nN];first|rfl|(simp [bJ,bK] <;> rfl))|(simp [*,bJ,bK] <;> rfl),zB⟩
 ·replace c6:=Bool.eq_false_iff.mpr c6;subst c6;rw [if_neg (show ¬ (false=true) by decide)] at H;(try dsimp only at H);simp only [Option.some.injEq,Prod.mk.injEq] at H;obtain ⟨rfl,rfl⟩:=H;go_enter Tryz.func128,Tryz.ntmps128;go_wp2_with (first|(go_at_call 151;(with_reducible refine (jq.calls 2 a1 a2 a3 false _ A5.out).mono ?_);rintro e w' ⟨rfl,⟨nd,rfl⟩⟩;(try exact ⟨rfl,_,zN⟩)));repeat (go_quiet (first|(go_at_call 151;(with_reducible refine (jq.calls 2 a1 a2 a3 false _ A5.out).mono ?_);rintro e w' ⟨rfl,⟨nd,rfl⟩⟩;(try exact ⟨rfl,_,zN⟩)));try go_wp2_with (first|(go_at_call 151;(with_reducible refine (jq.calls 2 a1 a2 a3 false _ A5.out).mono ?_);rintro e w' ⟨rfl,⟨nd,rfl⟩⟩;(try exact ⟨rfl,_,zN⟩))))
  go_ret2;exact ⟨zS,zB⟩
def jM.f (k:Nat) (a0 a1 a2 a3:Int):Option (Int × Int):=(jq.f a0 a1 a2 a3).bind fun aqm=>(if aqm=true then ((dA.f k (wrap64 (a3*a1)) a2).bind fun aiI=>((gW.f k (wrap64 ((wrap64 (a3+1))*a1)) a2).bind fun t124=>(if a0=0 then (some (aiI,wrap64 (t124 - aiI))) else (none)))) else (some (0,0)))
theorem jM.mono:∀ a0 a1 a2 a3 k,LeO (jM.f k a0 a1 a2 a3) (jM.f (k+1) a0 a1 a2 a3):=by
 intro a0 a1 a2 a3 k;unfold jM.f;repeat' (with_reducible first|exact dA.mono _ _ _|exact gW.mono _ _ _|exact zM|refine LeO.ite ?_ ?_|refine LeO.bind ?_ (fun _ => ?_))
theorem jM.calls (k:Nat) (a0 a1 a2 a3 r1 r2:Int) (w:World) (hG:GL w) (h:jM.f k a0 a1 a2 a3=some (r1,r2)) :
  Calls Tryz.prog 128 #[.int .i64 a0,.int .i64 a1,.int .i64 a2,.int .i64 a3] w fun e w'=>e = .returned (.tuple #[.int .i64 r1,.int .i64 r2])/\Below w.heap.size w w':=by
 have HB:=aj.mk (Below.refl w.heap.size w);have H:=h;clear h;unfold jM.f at H;obtain ⟨⟨abk,abl,abm,abn,abo,abp⟩,⟨abq,abr,abt,abu,abv,abw,abx⟩⟩:=hG;replace H:=zO H;obtain ⟨aqm,A5,H⟩:=H;try dsimp only at H
 by_cases c6:aqm=true
 ·subst c6;rw [if_pos rfl] at H;(try dsimp only at H);replace H:=zO H;obtain ⟨aiI,A7,H⟩:=H;try dsimp only at H
  replace H:=zO H;obtain ⟨t124,A8,H⟩:=H;try dsimp only at H
  by_cases c9:a0=0
  ·rw [if_pos c9] at H;have qH:(a0 == 0)=true:=beq_iff_eq.mpr c9;have ab5:(a0 != 0)=false:=bne_eq_false_iff_eq.mpr c9;clear c9;simp only [Option.some.injEq,Prod.mk.injEq] at H;obtain ⟨rfl,rfl⟩:=H;go_enter Tryz.func128,Tryz.ntmps128;go_wp2_with (first|(go_at_call 151;(with_reducible refine (jq.calls a0 a1 a2 a3 true _ A5.out).mono ?_);rintro e w' ⟨rfl,⟨nd,rfl⟩⟩;(try exact ⟨rfl,_,zN⟩))|(go_at_call 133;(with_reducible refine (dA.calls k (wrap64 (a3*a1)) a2 aiI _ A7.out).mono ?_);rintro e w' ⟨rfl,⟨nd,rfl⟩⟩;(try exact ⟨rfl,_,zN⟩))|(go_at_call 152;(with_reducible refine (gW.calls k (wrap64 ((wrap64 (a3+1))*a1)) a2 t124 _ A8.out).mono ?_);rintro e w' ⟨rfl,⟨nd,rfl⟩⟩;(try exact ⟨rfl,_,zN⟩)));repeat (go_quiet (first|(go_at_call 151;(with_reducible refine (jq.calls a0 a1 a2 a3 true _ A5.out).mono ?_);rintro e w' ⟨rfl,⟨nd,rfl⟩⟩;(try exact ⟨rfl,_,zN⟩))|(go_at_call 133;(with_reducible refine (dA.calls k (wrap64 (a3*a1)) a2 aiI _ A7.out).mono ?_);rintro e w' ⟨rfl,⟨nd,rfl⟩⟩;(try exact ⟨rfl,_,zN⟩))|(go_at_call 152;(with_reducible refine (gW.calls k (wrap64 ((wrap64 (a3+1))*a1)) a2 t124 _ A8.out).mono ?_);rintro e w' ⟨rfl,⟨nd,rfl⟩⟩;(try exact ⟨rfl,_,zN⟩)));try go_wp2_with (first|(go_at_call 151;(with_reducible refine (jq.calls a0 a1 a2 a3 true _ A5.out).mono ?_);rintro e w' ⟨rfl,⟨nd,rfl⟩⟩;(try exact ⟨rfl,_,zN⟩))|(go_at_call 133;(with_reducible refine (dA.calls k (wrap64 (a3*a1)) a2 aiI _ A7.out).mono ?_);rintro e w' ⟨rfl,⟨nd,rfl⟩⟩;(try exact ⟨rfl,_,zN⟩))|(go_at_call 152;(with_reducible refine (gW.calls k (wrap64 ((wrap64 (a3+1))*a1)) a2 t124 _ A8.out).mono ?_);rintro e w' ⟨rfl,⟨nd,rfl⟩⟩;(try exact ⟨rfl,_,zN⟩))))
   go_ret2;exact ⟨zS,zB⟩
  ·rw [if_neg c9] at H;exact absurd H (by simp)
 ·replace c6:=Bool.eq_false_iff.mpr c6;subst c6;rw [if_neg (show ¬ (false=true) by decide)] at H;(try dsimp only at H);simp only [Option.some.injEq,Prod.mk.injEq] at H;obtain ⟨rfl,rfl⟩:=H;go_enter Tryz.func128,Tryz.ntmps128;go_wp2_with (first|(go_at_call 151;(with_reducible refine (jq.calls a0 a1 a2 a3 false _ A5.out).mono ?_);rintro e w' ⟨rfl,⟨nd,rfl⟩⟩;(try exact ⟨rfl,_,zN⟩)));repeat (go_quiet (first|(go_at_call 151;(with_reducible refine (jq.calls a0 a1 a2 a3 false _ A5.out).mono ?_);rintro e w' ⟨rfl,⟨nd,rfl⟩⟩;(try exact ⟨rfl,_,zN⟩)));try go_wp2_with (first|(go_at_call 151;(with_reducible refine (jq.calls a0 a1 a2 a3 false _ A5.out).mono ?_);rintro e w' ⟨rfl,⟨nd,rfl⟩⟩;(try exact ⟨rfl,_,zN⟩))))
  go_ret2;exact ⟨zS,zB⟩
def lJ.f (k:Nat) (a0 a1 a2 a3:Int):Option (Int × Int):=if a0=1 then jK.f k a1 a2 a3 else if a0=2 then jL.f k a1 a2 a3 else jM.f k a0 a1 a2 a3
theorem lJ.mono:∀ a0 a1 a2 a3 k,LeO (lJ.f k a0 a1 a2 a3) (lJ.f (k+1) a0 a1 a2 a3):=by
 intro a0 a1 a2 a3 k;unfold lJ.f;exact LeO.ite (jK.mono _ _ _ _) (LeO.ite (jL.mono _ _ _ _) (jM.mono _ _ _ _ _))
theorem lJ.calls (k:Nat) (a0 a1 a2 a3 r1 r2:Int) (w:World) (hG:GL w) (h:lJ.f k a0 a1 a2 a3=some (r1,r2)) :
  Calls Tryz.prog 128 #[.int .i64 a0,.int .i64 a1,.int .i64 a2,.int .i64 a3] w fun e w'=>e = .returned (.tuple #[.int .i64 r1,.int .i64 r2])/\Below w.heap.size w w':=by
 unfold lJ.f at h;by_cases c1:a0=1
 ·subst c1;exact jK.calls k a1 a2 a3 r1 r2 w hG (by rw [if_pos rfl] at h;exact h)
 ·rw [if_neg c1] at h;by_cases c2:a0=2
  ·subst c2;exact jL.calls k a1 a2 a3 r1 r2 w hG (by rw [if_pos rfl] at h;exact h)
  ·rw [if_neg c2] at h;exact jM.calls k a0 a1 a2 a3 r1 r2 w hG h
def oD.f (a0:Int):Option (Int):=if a0 < 0 then (some (IntKind.u64.wrap (-(IntKind.u64.wrap (a0))))) else (some (IntKind.u64.wrap (a0)))
theorem oD.calls (a0 r:Int) (w:World) (h:oD.f a0=some r) :
  Calls Tryz.prog 155 #[.int .i64 a0] w fun e w'=>e = .returned (.int .u64 r)/\dG w w':=by
 have H:=h;clear h;unfold oD.f at H;by_cases c2:a0 < 0
 ·rw [if_pos c2] at H;have nK:=decide_eq_true c2;clear c2;obtain rfl:=Option.some.inj H;go_enter Tryz.func155,Tryz.ntmps155;go_wp2;go_ret;exact ⟨zT,zW⟩
 ·rw [if_neg c2] at H;have nK:=decide_eq_false c2;clear c2;obtain rfl:=Option.some.inj H;go_enter Tryz.func155,Tryz.ntmps155;go_wp2;go_ret;exact ⟨zT,zW⟩
def bits_Mul64.f (a0 a1:Int):Option (Int × Int):=if 0<=a0/\a0 < 18446744073709551616/\0<=a1/\a1 < 18446744073709551616 then some (a0*a1 / 18446744073709551616,a0*a1 % 18446744073709551616) else none
theorem bits_Mul64.calls (a0 a1 r1 r2:Int) (w:World) (h:bits_Mul64.f a0 a1=some (r1,r2)) :
  Calls Tryz.prog 178 #[.int .u64 a0,.int .u64 a1] w fun e w'=>e = .returned (.tuple #[.int .u64 r1,.int .u64 r2])/\dG w w':=by
 unfold bits_Mul64.f at h;by_cases c:0<=a0/\a0 < 18446744073709551616/\0<=a1/\a1 < 18446744073709551616
 ·rw [if_pos c] at h;obtain ⟨h0,h1,h2,h3⟩:=c;obtain ⟨rfl,rfl⟩:=Prod.mk.inj (Option.some.inj h);obtain ⟨x,rfl⟩:=Int.eq_ofNat_of_zero_le h0;obtain ⟨y,rfl⟩:=Int.eq_ofNat_of_zero_le h2;exact (Tryz.bits_Mul64 x y (by omega) (by omega) w).mono fun e w' ⟨he,hw⟩=>⟨by rw [he];congr 4,by rw [hw];exact dG.refl _⟩
 ·rw [if_neg c] at h;exact absurd h (by simp)
def kR.f (a0 a1:Int):Option (Int × Int × Bool):=(oD.f a0).bind fun ak0=>((oD.f a1).bind fun ak1=>((bits_Mul64.f ak0 ak1).bind fun asU=>(some (asU.1,asU.2,((decide (a0 < 0)) != (decide (a1 < 0)))))))
theorem kR.calls (a0 a1 r1 r2:Int) (r3:Bool) (w:World) (h:kR.f a0 a1=some (r1,r2,r3)) :
  Calls Tryz.prog 154 #[.int .i64 a0,.int .i64 a1] w fun e w'=>e = .returned (.tuple #[.int .u64 r1,.int .u64 r2,.bool r3])/\dG w w':=by
 have H:=h;clear h;unfold kR.f at H;replace H:=zO H;obtain ⟨ak0,A3,H⟩:=H;try dsimp only at H
 replace H:=zO H;obtain ⟨ak1,A4,H⟩:=H;try dsimp only at H
 replace H:=zO H;obtain ⟨⟨t127,ayF⟩,A5,H⟩:=H;try dsimp only at H
 simp only [Option.some.injEq,Prod.mk.injEq] at H;obtain ⟨rfl,rfl,rfl⟩:=H;go_enter Tryz.func154,Tryz.ntmps154;go_wp2_with (first|((with_reducible refine ay (f:=155) rfl ?_);refine aH (some 9) rfl rfl Tryz.func155 (by kernel_rfl) rfl #[.int .i64 a0] rfl zL ?_;(with_reducible refine (oD.calls a0 ak0 _ A3.out).mono ?_);rintro e w' ⟨rfl,⟨nd,rfl⟩⟩;refine ⟨_,rfl,?_⟩)|((with_reducible refine ay (f:=155) rfl ?_);refine aH (some 11) rfl rfl Tryz.func155 (by kernel_rfl) rfl #[.int .i64 a1] rfl zL ?_;(with_reducible refine (oD.calls a1 ak1 _ A4.out).mono ?_);rintro e w' ⟨rfl,⟨nd,rfl⟩⟩;refine ⟨_,rfl,?_⟩)|((with_reducible refine ay (f:=178) rfl ?_);refine aH (some 12) rfl rfl Tryz.func178 (by kernel_rfl) rfl #[.int .u64 ak0,.int .u64 ak1] rfl zL ?_;(with_reducible refine (bits_Mul64.calls ak0 ak1 t127 ayF _ A5.out).mono ?_);rintro e w' ⟨rfl,⟨nd,rfl⟩⟩;refine ⟨_,rfl,?_⟩));go_ret3;exact ⟨zT,zW⟩
def dB.j0:Nat->Int->Int->Bool->Bool->Option (Int)
 | 0,_,_,_,_=>none
 | k+1,x0,x1,x2,x7=>if x7=true then (some (-9223372036854775808)) else (if x2=true then (some (wrap64 (IntKind.u64.wrap (-x1)))) else (if x0 > 0 then (some 9223372036854775807) else (if x1 > 9223372036854775807 then (some 9223372036854775807) else (some (wrap64 (x1))))))
def dB.f (k:Nat) (a0 a1:Int) (a2:Bool):Option (Int):=if a2=true then (if a0 > 0 then (dB.j0 k a0 a1 a2 true) else (dB.j0 k a0 a1 a2 (decide (a1 > 9223372036854775808)))) else (dB.j0 k a0 a1 a2 false)
theorem dB.jg:∀ k,(∀ y0 y1 y2 y3,LeO (dB.j0 k y0 y1 y2 y3) (dB.j0 (k+1) y0 y1 y2 y3))
 | 0=>fun _ _ _ _ r h=>by simp [dB.j0] at h
 | k+1=>by
  have ih0:=dB.jg k
  ·intro y0 y1 y2 y3;unfold dB.j0;repeat' (with_reducible first|exact ih0 _ _ _ _|exact zM|refine LeO.ite ?_ ?_|refine LeO.bind ?_ (fun _ => ?_))
theorem dB.mono:∀ a0 a1 a2 k,LeO (dB.f k a0 a1 a2) (dB.f (k+1) a0 a1 a2):=by
 intro a0 a1 a2 k;have ih0:=dB.jg k;unfold dB.f;repeat' (with_reducible first|exact ih0 _ _ _ _|exact zM|refine LeO.ite ?_ ?_|refine LeO.bind ?_ (fun _ => ?_))
theorem dB.calls (k:Nat) (a0 a1:Int) (a2:Bool) (r:Int) (w:World) (h:dB.f k a0 a1 a2=some r) :
  Calls Tryz.prog 156 #[.int .u64 a0,.int .u64 a1,.bool a2] w fun e w'=>e = .returned (.int .i64 r)/\dG w w':=by
 have H:=h;clear h;unfold dB.f at H;have HC4:=aj.mk H;clear H;go_enter Tryz.func156,Tryz.ntmps156;go_upto_region 1 with (fail);go_cut [7] (fun v7 wc=>∃ (kq:Nat) (aae:Bool),v7 = .bool aae/\aj (dB.j0 kq a0 a1 a2 aae=some r)/\aj (kq<=k)/\dG w wc)
 case first =>
  have H:=HC4.out;clear HC4;by_cases c5:a2=true
  ·subst c5;rw [if_pos rfl] at H;(try dsimp only at H);by_cases c6:a0 > 0
   ·rw [if_pos c6] at H;have iF:=decide_eq_true c6;clear c6
    (first|rw [iF]|(simp only [cZ,dD];rw [iF])|skip)
    have H':=aj.mk H;clear H;go_wp2;go_meet
    case rel=>exact ⟨_,(true),zT,H',⟨by first|omega|exact Nat.le_refl _⟩,zW⟩
   ·rw [if_neg c6] at H;have iF:=decide_eq_false c6;clear c6
    (first|rw [iF]|(simp only [cZ,dD];rw [iF])|skip)
    have H':=aj.mk H;clear H;go_wp2;go_meet
    case rel=>exact ⟨_,(decide (a1 > 9223372036854775808)),zT,H',⟨by first|omega|exact Nat.le_refl _⟩,zW⟩
  ·replace c5:=Bool.eq_false_iff.mpr c5;subst c5;rw [if_neg (show ¬ (false=true) by decide)] at H;(try dsimp only at H);have H':=aj.mk H;clear H;go_wp2;go_meet
   case rel=>exact ⟨_,(false),zT,H',⟨by first|omega|exact Nat.le_refl _⟩,zW⟩
 case rest =>
  clear HC4;obtain ⟨kq,aae,rfl,HA,HJ3,⟨mc3,rfl⟩⟩:=hcut;cases kq with
  | zero=>exact absurd HA.out (by simp [dB.j0])
  | succ kj3 =>
   have H:=HA.out;clear HA;simp only [dB.j0] at H;by_cases c7:aae=true
   ·subst c7;rw [if_pos rfl] at H;(try dsimp only at H);obtain rfl:=Option.some.inj H;go_wp2;go_ret;exact ⟨zT,zW⟩
   ·replace c7:=Bool.eq_false_iff.mpr c7;subst c7;rw [if_neg (show ¬ (false=true) by decide)] at H;(try dsimp only at H);by_cases c8:a2=true
    ·subst c8;rw [if_pos rfl] at H;(try dsimp only at H);obtain rfl:=Option.some.inj H;go_wp2;go_ret;exact ⟨zT,zW⟩
    ·replace c8:=Bool.eq_false_iff.mpr c8;subst c8;rw [if_neg (show ¬ (false=true) by decide)] at H;(try dsimp only at H);by_cases c9:a0 > 0
     ·rw [if_pos c9] at H;have qH:=decide_eq_true c9;clear c9;obtain rfl:=Option.some.inj H;go_wp2;go_ret;exact ⟨zT,zW⟩
     ·rw [if_neg c9] at H;have qH:=decide_eq_false c9;clear c9;by_cases c10:a1 > 9223372036854775807
      ·rw [if_pos c10] at H;have pX:=decide_eq_true c10;clear c10;obtain rfl:=Option.some.inj H;go_wp2;go_ret;exact ⟨zT,zW⟩
      ·rw [if_neg c10] at H;have pX:=decide_eq_false c10;clear c10;obtain rfl:=Option.some.inj H;go_wp2;go_ret;exact ⟨zT,zW⟩
def bits_LeadingZeros64.f (a0:Int):Option (Int):=if 0<=a0 then (if a0<=18446744073709551615 then (some (64 - (Lib.bitLen a0.toNat:Int))) else (none)) else (none)
theorem bits_LeadingZeros64.calls (a0 r:Int) (w:World) (h:bits_LeadingZeros64.f a0=some r) :
  Calls Tryz.prog 179 #[.int .u64 a0] w fun e w'=>e = .returned (.int .i64 r)/\dG w w':=by
 unfold bits_LeadingZeros64.f at h;by_cases h0:0<=a0
 ·rw [if_pos h0] at h;by_cases h1:a0<=18446744073709551615
  ·rw [if_pos h1] at h;obtain rfl:=Option.some.inj h;exact (Tryz.bits_LeadingZeros64 a0 w h0 h1).mono fun e w' ⟨he,hw⟩=>⟨he,by rw [hw];exact dG.refl _⟩
  ·rw [if_neg h1] at h;exact absurd h (by simp)
 ·rw [if_neg h0] at h;exact absurd h (by simp)
end Go.Proofs.YtpondkggmcmpfaaGreatDoor.QA
