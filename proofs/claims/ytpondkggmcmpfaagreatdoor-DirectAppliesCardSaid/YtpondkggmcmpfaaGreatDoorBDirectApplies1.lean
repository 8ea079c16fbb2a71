/- Joined by wip/tools/bundle.py out of: TZip TExt TGlob Shelf WTab WFour WFootNe WAt WEqStruct WRepsOne WInv WInvWords WGuard QAx0 QAx1 QAx2 QAx3 QAx4 QAx5. -/
import Derived.Test.YtpondkggmcmpfaaGreatDoorBDirectApplies0
import Derived.Test.YtpondkggmcmpfaaGreatDoorProg
import Derived.Shelf.Bits.Mul64
import Derived.Shelf.SlSortCmp.Insertion1
set_option maxHeartbeats 8000000
set_option maxRecDepth 100000
namespace Go.Proofs.YtpondkggmcmpfaaGreatDoor.T
open Go.RowKit Go.Proofs.YtpondkggmcmpfaaGreatDoorW.PrintWords Go.Proofs.YtpondkggmcmpfaaGreatDoorW.PrintLast Go.Proofs.YtpondkggmcmpfaaGreatDoorW.PrintMore
theorem zB {P:Prop} (h:P:=by repeat (first|(with_reducible first|exact HB.out|apply aK|apply aJ|apply bC|refine uJ ?_ (aj.out (by assumption)))|exact HB.out)):P:=h
theorem zD {A B:Prop} (a:A) (h:A->B:=by intro h_;(with_reducible repeat (first|refine ama ?_ _|refine jP ?_|refine jM ?_ _));exact h_):B:=h a
theorem zK {w0 w1:World} {g:Nat} {o:Obj} (a:aj (w0.heap[g]? = some o)) (h:w0.heap[g]? = some o->w1.heap[g]? = some o:=by intro h_;(repeat (first|(with_reducible first|refine ama ?_ _|refine jP ?_|refine jM ?_ _)|((with_reducible refine jV ?_ (aj.out ?_) _);rotate_left;assumption)));exact h_):w1.heap[g]? = some o:=h a.out
theorem zL {P:Prop} (h:P:=by (try simp only [List.map_toArray,List.map_cons,List.map_nil]);first|done|rfl|(simp only [List.length_drop,List.length_take];rfl)):P:=h
theorem zS {P:Prop} (h:P:=by first|rfl|(simp [bJ,bK] <;> rfl)|(simp [*,bJ,bK] <;> rfl)):P:=h
theorem zT {P:Prop} (h:P:=by first|rfl|(simp;done)|(simp [*];done)):P:=h
theorem zW {P:Prop} (h:P:=by repeat (first|exact dA.refl _|apply dA.step)):P:=h
theorem zN {P:Prop} (h:P:=by first|exact World.drewN_drewN _ _ _|exact Eq.trans (World.drewN_drewN _ _ _) (congrArg (World.drewN _) (Nat.add_assoc _ _ _))):P:=h
theorem zM {P:Prop} (h:P:=by first|exact LeO.refl _|exact LeO.none _):P:=h
theorem zR {P:Prop} (h:P:=by rfl):P:=h
theorem zG {P:Prop} (h:P:=by first|(go_simp;done)|(go_simp;rfl)):P:=h
theorem zg {w W:World} {g:Nat} (hg:g=W.heap.size) (h:Below w.heap.size w W):w.heap.size<=g:=by rw [hg];exact bW h
theorem zl {W:World} {g a:Nat} {o:Obj} (hg:g=W.heap.size) (h:W.heap[a]? = some o):a≠g:=by rw [hg];exact Nat.ne_of_lt (bI h)
theorem zr {W:World} {g a:Nat} {o:Obj} (hg:g=W.heap.size) (h:W.heap[a]? = some o):g≠a:=by rw [hg];exact Nat.ne_of_gt (bI h)
theorem zO {α β:Type} {x:Option α} {f:α->Option β} {r:β} (h:x.bind f=some r):∃ a,aj (x=some a)/\f a=some r:=by
 obtain ⟨a,h1,h2⟩:=Option.bind_eq_some_iff.mp h;exact ⟨a,⟨h1⟩,h2⟩
theorem zA2 {P0 P1:Prop} (h0:P0) (h1:P1):aj P0/\aj P1:=⟨⟨h0⟩,⟨h1⟩⟩
theorem zA3 {P0 P1 P2:Prop} (h0:P0) (h1:P1) (h2:P2):aj P0/\aj P1/\aj P2:=⟨⟨h0⟩,⟨h1⟩,⟨h2⟩⟩
theorem zA4 {P0 P1 P2 P3:Prop} (h0:P0) (h1:P1) (h2:P2) (h3:P3):aj P0/\aj P1/\aj P2/\aj P3:=⟨⟨h0⟩,⟨h1⟩,⟨h2⟩,⟨h3⟩⟩
theorem zA5 {P0 P1 P2 P3 P4:Prop} (h0:P0) (h1:P1) (h2:P2) (h3:P3) (h4:P4):aj P0/\aj P1/\aj P2/\aj P3/\aj P4:=⟨⟨h0⟩,⟨h1⟩,⟨h2⟩,⟨h3⟩,⟨h4⟩⟩
theorem zA6 {P0 P1 P2 P3 P4 P5:Prop} (h0:P0) (h1:P1) (h2:P2) (h3:P3) (h4:P4) (h5:P5):aj P0/\aj P1/\aj P2/\aj P3/\aj P4/\aj P5:=⟨⟨h0⟩,⟨h1⟩,⟨h2⟩,⟨h3⟩,⟨h4⟩,⟨h5⟩⟩
theorem zA7 {P0 P1 P2 P3 P4 P5 P6:Prop} (h0:P0) (h1:P1) (h2:P2) (h3:P3) (h4:P4) (h5:P5) (h6:P6):aj P0/\aj P1/\aj P2/\aj P3/\aj P4/\aj P5/\aj P6:=⟨⟨h0⟩,⟨h1⟩,⟨h2⟩,⟨h3⟩,⟨h4⟩,⟨h5⟩,⟨h6⟩⟩
theorem afn {P0 P1 P2 P3 P4 P5 P6 P7 P8 P9:Prop} (h0:P0) (h1:P1) (h2:P2) (h3:P3) (h4:P4) (h5:P5) (h6:P6) (h7:P7) (h8:P8) (h9:P9):aj P0/\aj P1/\aj P2/\aj P3/\aj P4/\aj P5/\aj P6/\aj P7/\aj P8/\aj P9:=⟨⟨h0⟩,⟨h1⟩,⟨h2⟩,⟨h3⟩,⟨h4⟩,⟨h5⟩,⟨h6⟩,⟨h7⟩,⟨h8⟩,⟨h9⟩⟩
theorem agt {P0 P1 P2 P3 P4 P5 P6 P7 P8 P9 P10 P11 P12:Prop} (h0:P0) (h1:P1) (h2:P2) (h3:P3) (h4:P4) (h5:P5) (h6:P6) (h7:P7) (h8:P8) (h9:P9) (h10:P10) (h11:P11) (h12:P12):aj P0/\aj P1/\aj P2/\aj P3/\aj P4/\aj P5/\aj P6/\aj P7/\aj P8/\aj P9/\aj P10/\aj P11/\aj P12:=⟨⟨h0⟩,⟨h1⟩,⟨h2⟩,⟨h3⟩,⟨h4⟩,⟨h5⟩,⟨h6⟩,⟨h7⟩,⟨h8⟩,⟨h9⟩,⟨h10⟩,⟨h11⟩,⟨h12⟩⟩
theorem zC2 {w:World} {g t:Nat} {v0 v1:Value} (h:w.heap[g]? = some (.cells #[v0,v1] t (0,0))):w.cell? ⟨g,0,none⟩=some v0/\w.cell? ⟨g,1,none⟩=some v1:=⟨(au h 0).trans rfl,(au h 1).trans rfl⟩
theorem zC5 {w:World} {g t:Nat} {v0 v1 v2 v3 v4:Value} (h:w.heap[g]? = some (.cells #[v0,v1,v2,v3,v4] t (0,0))):w.cell? ⟨g,0,none⟩=some v0/\w.cell? ⟨g,1,none⟩=some v1/\w.cell? ⟨g,2,none⟩=some v2/\w.cell? ⟨g,3,none⟩=some v3/\w.cell? ⟨g,4,none⟩=some v4:=⟨(au h 0).trans rfl,(au h 1).trans rfl,(au h 2).trans rfl,(au h 3).trans rfl,(au h 4).trans rfl⟩
theorem zC9 {w:World} {g t:Nat} {v0 v1 v2 v3 v4 v5 v6 v7 v8:Value} (h:w.heap[g]? = some (.cells #[v0,v1,v2,v3,v4,v5,v6,v7,v8] t (0,0))):w.cell? ⟨g,0,none⟩=some v0/\w.cell? ⟨g,1,none⟩=some v1/\w.cell? ⟨g,2,none⟩=some v2/\w.cell? ⟨g,3,none⟩=some v3/\w.cell? ⟨g,4,none⟩=some v4/\w.cell? ⟨g,5,none⟩=some v5/\w.cell? ⟨g,6,none⟩=some v6/\w.cell? ⟨g,7,none⟩=some v7/\w.cell? ⟨g,8,none⟩=some v8:=⟨(au h 0).trans rfl,(au h 1).trans rfl,(au h 2).trans rfl,(au h 3).trans rfl,(au h 4).trans rfl,(au h 5).trans rfl,(au h 6).trans rfl,(au h 7).trans rfl,(au h 8).trans rfl⟩
theorem zF2 {w:World} {g t:Nat} {v0 v1:Value} (h:w.heap[g]? = some (.cells #[v0,v1] t (0,0))):w.frozen? ⟨g,0,none⟩=false/\w.frozen? ⟨g,1,none⟩=false:=⟨aI h 0,aI h 1⟩
theorem zF5 {w:World} {g t:Nat} {v0 v1 v2 v3 v4:Value} (h:w.heap[g]? = some (.cells #[v0,v1,v2,v3,v4] t (0,0))):w.frozen? ⟨g,0,none⟩=false/\w.frozen? ⟨g,1,none⟩=false/\w.frozen? ⟨g,2,none⟩=false/\w.frozen? ⟨g,3,none⟩=false/\w.frozen? ⟨g,4,none⟩=false:=⟨aI h 0,aI h 1,aI h 2,aI h 3,aI h 4⟩
theorem zF9 {w:World} {g t:Nat} {v0 v1 v2 v3 v4 v5 v6 v7 v8:Value} (h:w.heap[g]? = some (.cells #[v0,v1,v2,v3,v4,v5,v6,v7,v8] t (0,0))):w.frozen? ⟨g,0,none⟩=false/\w.frozen? ⟨g,1,none⟩=false/\w.frozen? ⟨g,2,none⟩=false/\w.frozen? ⟨g,3,none⟩=false/\w.frozen? ⟨g,4,none⟩=false/\w.frozen? ⟨g,5,none⟩=false/\w.frozen? ⟨g,6,none⟩=false/\w.frozen? ⟨g,7,none⟩=false/\w.frozen? ⟨g,8,none⟩=false:=⟨aI h 0,aI h 1,aI h 2,aI h 3,aI h 4,aI h 5,aI h 6,aI h 7,aI h 8⟩
end Go.Proofs.YtpondkggmcmpfaaGreatDoor.T
namespace Go.Proofs.YtpondkggmcmpfaaGreatDoor.T
def rM (x y c:Int):Int:=(x.toNat+y.toNat+c.toNat:Nat) % 18446744073709551616
def rO (x y c:Int):Int:=(x.toNat+y.toNat+c.toNat:Nat) / 18446744073709551616
theorem dV (x y c:Int) (hc:c<=1) (w:World) :
   (callFunc 158 #[.int .u64 x,.int .u64 y,.int .u64 c]).run Tryz.prog w = .ok (.value (.tuple #[.int .u64 (rM x y c),.int .u64 (rO x y c)])) w:=by
 have key:∀ k:Nat,k<=1->(add64Entry #[.int .u64 x,.int .u64 y,.int .u64 (k:Int)]).run Tryz.prog w =
     .ok (Extern.MathBitsCarry.pair ((x.toNat+y.toNat+k) % Extern.MathBitsCarry.m64) ((x.toNat+y.toNat+k) / Extern.MathBitsCarry.m64)) w:=by
   intro k hk;have:k=0\/k=1:=(by omega);rcases this with rfl|rfl <;> rfl
 have neg:∀ k:Nat,(add64Entry #[.int .u64 x,.int .u64 y,.int .u64 (-(k:Int) - 1)]).run Tryz.prog w =
     .ok (Extern.MathBitsCarry.pair ((x.toNat+y.toNat+0) % Extern.MathBitsCarry.m64) ((x.toNat+y.toNat+0) / Extern.MathBitsCarry.m64)) w:=by
   intro k;have e : -(k:Int) - 1=Int.negSucc k:=(by omega);rw [e];rfl
 have run:(add64Entry #[.int .u64 x,.int .u64 y,.int .u64 c]).run Tryz.prog w =
     .ok (Extern.MathBitsCarry.pair ((x.toNat+y.toNat+c.toNat) % Extern.MathBitsCarry.m64) ((x.toNat+y.toNat+c.toNat) / Extern.MathBitsCarry.m64)) w:=by
   by_cases h:0<=c
   . obtain ⟨k,rfl⟩:=Int.eq_ofNat_of_zero_le h;rw [key k (by omega)];simp
   . obtain ⟨k,hk⟩:∃ k:Nat,c = -(k:Int) - 1:=⟨(-c - 1).toNat,by omega⟩;rw [hk,neg k,show (-(k:Int) - 1).toNat=0 from by omega]
 rw [run_callFunc_extern Tryz.func158 (by kernel_rfl) (by kernel_rfl) (by kernel_rfl) (e:=add64Entry) (by kernel_rfl),run];simp only [Result.andThen,Extern.MathBitsCarry.pair,Extern.MathBitsCarry.m64,rM,rO];congr 5 <;> simp
end Go.Proofs.YtpondkggmcmpfaaGreatDoor.T
namespace Go.Proofs.YtpondkggmcmpfaaGreatDoor.T
open Go.RowKit
def GL (w:World):Prop:=(w.cell? ⟨1,0,none⟩=some (.string (⟨#[98,111,120]⟩:ByteArray))/\w.cell? ⟨1,1,none⟩=some (.int .i64 0)/\w.cell? ⟨1,2,none⟩=some (.string (⟨#[99,117,98,105,99]⟩:ByteArray))/\w.cell? ⟨1,3,none⟩=some (.int .i64 2)/\w.cell? ⟨1,4,none⟩=some (.string (⟨#[108,97,110,99,122,111,115]⟩:ByteArray))/\w.cell? ⟨1,5,none⟩=some (.int .i64 3))/\(∃ (a:Addr) (c:Nat),3<=c/\w.cell? ⟨0,0,none⟩=some (.slice (some a) 3 c)/\w.cell? a=some (.string (⟨#[99,108,97,109,112]⟩:ByteArray))/\w.cell? ⟨a.block,a.off+1,none⟩=some (.string (⟨#[109,105,114,114,111,114]⟩:ByteArray))/\w.cell? ⟨a.block,a.off+2,none⟩=some (.string (⟨#[119,114,97,112]⟩:ByteArray)))
theorem cell_below {w w':World} {p:Addr} {v:Value} (h:w.cell? p=some v) (hb:Below w.heap.size w w'):w'.cell? p=some v:=(hb.cell (World.block_lt_of_cell? w _ h)).trans h
theorem GL.below {w w':World} (h:GL w) (hb:Below w.heap.size w w'):GL w':=by
 obtain ⟨⟨acN,acO,acP,acQ,acR,acS⟩,⟨acT,acU,acV,acW,acX,acY,acZ⟩⟩:=h;exact ⟨⟨cell_below acN hb,cell_below acO hb,cell_below acP hb,cell_below acQ hb,cell_below acR hb,cell_below acS hb⟩,⟨acT,acU,acV,cell_below acW hb,cell_below acX hb,cell_below acY hb,cell_below acZ hb⟩⟩
end Go.Proofs.YtpondkggmcmpfaaGreatDoor.T
namespace Go.Proofs
open Go.Shelf
def Tryz.lays134_ren:Go.Shelf.Ren:=⟨fun|134=>179|129=>190|n=>n,fun|53=>177|3=>3|4=>4|46=>196|5=>5|9=>9|n=>n,fun|n=>n⟩
theorem Tryz.lays134:Go.Proofs.Lays.n134 Tryz.prog Tryz.lays134_ren:={
  mixed:=by kernel_rfl
  f129:=Tryz.func190.trans (congrArg some (by kernel_rfl))
  f134:=Tryz.func179.trans (congrArg some (by kernel_rfl))
  t3:=Tryz.underlying3
  a3:=Tryz.isAgg3
  z3:=Tryz.sizeOf3
  v3:=Tryz.zeroValue3
  t4:=Tryz.underlying4
  a4:=Tryz.isAgg4
  z4:=Tryz.sizeOf4
  v4:=Tryz.zeroValue4
  t5:=Tryz.underlying5
  a5:=Tryz.isAgg5
  z5:=Tryz.sizeOf5
  v5:=Tryz.zeroValue5
  t9:=Tryz.underlying9
  a9:=Tryz.isAgg9
  z9:=Tryz.sizeOf9
  v9:=Tryz.zeroValue9
  t46:=Tryz.underlying196
  a46:=Tryz.isAgg196
  z46:=Tryz.sizeOf196
  v46:=Tryz.zeroValue196
  t53:=Tryz.underlying177
  a53:=Tryz.isAgg177
  z53:=Tryz.sizeOf177
  v53:=Tryz.zeroValue177 }
theorem Tryz.bits_LeadingZeros64 (x:Int) (w:World) (h0:0<=x) (h1:x<=18446744073709551615) :
   Calls Tryz.prog 179 #[.int .u64 x] w fun e w'=>e = .returned (.int .i64 (64 - (Lib.bitLen x.toNat:Int)))/\w'=w:=Any.bits_LeadingZeros64 Tryz.lays134 x w h0 h1
def Tryz.lays264_ren:Go.Shelf.Ren:=⟨fun|264=>178|n=>n,fun|53=>177|46=>196|n=>n,fun|n=>n⟩
theorem Tryz.lays264:Go.Proofs.Lays.n264 Tryz.prog Tryz.lays264_ren:={
  mixed:=by kernel_rfl
  f264:=Tryz.func178.trans (congrArg some (by kernel_rfl))
  t46:=Tryz.underlying196
  a46:=Tryz.isAgg196
  z46:=Tryz.sizeOf196
  v46:=Tryz.zeroValue196
  t53:=Tryz.underlying177
  a53:=Tryz.isAgg177
  z53:=Tryz.sizeOf177
  v53:=Tryz.zeroValue177 }
open Go.RowKit Go.Lib in
theorem Tryz.bits_Mul64 (x y:Nat) (hx:x < 18446744073709551616) (hy:y < 18446744073709551616) (w:World) :
   Calls Tryz.prog 178 #[.int .u64 x,.int .u64 y] w fun e w'=>e = .returned (.tuple #[.int .u64 ((x*y / 18446744073709551616:Nat):Int),.int .u64 ((x*y % 18446744073709551616:Nat):Int)])/\w'=w:=Any.bits_Mul64 Tryz.lays264 x y hx hy w
def Tryz.lays212_ren:Go.Shelf.Ren:=⟨fun|212=>173|263=>187|264=>178|n=>n,fun|46=>196|51=>229|146=>230|53=>177|148=>208|n=>n,fun|n=>n⟩
theorem Tryz.lays212:Go.Proofs.Lays.n212 Tryz.prog Tryz.lays212_ren:={
  mixed:=by kernel_rfl
  f212:=Tryz.func173.trans (congrArg some (by kernel_rfl))
  f263:=Tryz.func187.trans (congrArg some (by kernel_rfl))
  f264:=Tryz.func178.trans (congrArg some (by kernel_rfl))
  t46:=Tryz.underlying196
  a46:=Tryz.isAgg196
  z46:=Tryz.sizeOf196
  v46:=Tryz.zeroValue196
  t51:=Tryz.underlying229
  a51:=Tryz.isAgg229
  z51:=Tryz.sizeOf229
  v51:=Tryz.zeroValue229
  t53:=Tryz.underlying177
  a53:=Tryz.isAgg177
  z53:=Tryz.sizeOf177
  v53:=Tryz.zeroValue177
  t146:=Tryz.underlying230
  a146:=Tryz.isAgg230
  z146:=Tryz.sizeOf230
  v146:=Tryz.zeroValue230
  t148:=Tryz.underlying208
  a148:=Tryz.isAgg208
  z148:=Tryz.sizeOf208
  v148:=Tryz.zeroValue208 }
open Go.RowKit Go.Lib in
theorem Tryz.bits_Mul (x y:Nat) (hx:x < 18446744073709551616) (hy:y < 18446744073709551616) (w:World) :
   Calls Tryz.prog 173 #[.int .u64 x,.int .u64 y] w fun e w'=>e = .returned (.tuple #[.int .u64 ((x*y / 18446744073709551616:Nat):Int),.int .u64 ((x*y % 18446744073709551616:Nat):Int)])/\w'=w:=Any.bits_Mul Tryz.lays212 x y hx hy w
end Go.Proofs
namespace Go.Proofs.YtpondkggmcmpfaaGreatDoorW.PrintLast
open Go.Proofs.YtpondkggmcmpfaaGreatDoorW.PrintWords (aj)
def ads (md:Region.Mode) (o:Oper):List Nat:=(o.after.toList.filter (fun e=>Region.binds md e)).map (fun e=>e.on)
def ak5 (md:Region.Mode) (ops:Array Oper) (i:Nat) (oi:Oper):List Nat:=(List.range ops.size).filter fun j => !(j == i) && match ops[j]? with
  | some oj => !(oj.after.any (fun e=>Region.binds md e && e.on == i) || oi.apart ops oj)
  | none=>false
def uz (md:Region.Mode) (ops:Array Oper):Bool × List (List Nat × List Nat):=(Region.noSelect ops,(List.range ops.size).map fun i=>match ops[i]? with
  | some o=>(ads md o,ak5 md ops i o)
  | none=>([],[]))
def aa0 (T:List (List Nat × List Nat)) (l:List Bool) (i:Nat):Bool := !l.getD i true && match T[i]? with
  | some r=>r.1.all (fun j=>l.getD j false)
  | none=>false
def agu (T:List (List Nat × List Nat)) (l:List Bool):List Nat:=(List.range T.length).filter (aa0 T l)
def ajD (T:List (List Nat × List Nat)) (l:List Bool) (i:Nat):Bool:=match T[i]? with
  | some r=>r.2.all (fun j=>l.getD j true)
  | none=>false
def ahN (T:List (List Nat × List Nat)) (l:List Bool):Bool:=(List.range T.length).all fun j => !l.getD j false || match T[j]? with
  | some r=>r.1.all (fun k=>l.getD k false)
  | none=>true
def ae3 (T:List (List Nat × List Nat)) (i:Nat):Nat->Nat->Bool
  | 0,_=>false
  | fuel+1,d=>match T[d]? with
    | some r=>r.1.any fun j=>j == i || ae3 T i fuel j
    | none=>false
def lastT (T:List (List Nat × List Nat)) (l:List Bool) (ds:List Nat) (i:Nat):Bool:=ds.all fun d=>l.getD d true || ae3 T i T.length d
section
variable {md:Region.Mode} {ops:Array Oper} {T:Bool × List (List Nat × List Nat)} {l l' li lj lk:Array Bool} {ds:List Nat} {i j k:Nat}
theorem gd (l:Array Bool) (j:Nat) (b:Bool):l.getD j b=l.toList.getD j b:=by simp [Array.getD_eq_getD_getElem?,List.getD_eq_getElem?_getD]
theorem amc (o:Oper) (p:Nat->Bool):o.after.all (fun e => !Region.binds md e || p e.on)=(ads md o).all p:=by
 unfold ads;rw [<- Array.all_toList];induction o.after.toList with
 | nil=>rfl
 | cons e r ih =>
   rw [List.all_cons,ih,List.filter_cons];cases h:Region.binds md e <;> simp
theorem asP (o:Oper) (p:Nat->Bool):o.after.any (fun e=>Region.binds md e && p e.on)=(ads md o).any p:=by
 unfold ads;rw [<- Array.any_toList];induction o.after.toList with
 | nil=>rfl
 | cons e r ih =>
   rw [List.any_cons,ih,List.filter_cons];cases h:Region.binds md e <;> simp
theorem acr:(uz md ops).2.length=ops.size:=by simp [uz]
theorem aee {o:Oper} (h:ops[i]? = some o):(uz md ops).2[i]? = some (ads md o,ak5 md ops i o):=by
 have hi:=(Array.getElem?_eq_some_iff.1 h).1;unfold uz;rw [List.getElem?_map,List.getElem?_range hi,Option.map_some,h]
theorem aef (h:ops[i]? = none):(uz md ops).2[i]? = none:=by
 have hi:ops.size<=i:=Array.getElem?_eq_none_iff.1 h;exact List.getElem?_eq_none (by rw [acr];exact hi)
theorem aqM:aa0 (uz md ops).2 l.toList i=(!l.getD i true && ((ops[i]?).map (·.after.all fun e => !Region.binds md e || l.getD e.on false)).getD false):=by
 unfold aa0;rw [gd];cases h:ops[i]? with
 | none=>rw [aef h];rfl
 | some o =>
   rw [aee h];simp only [Option.map_some,Option.getD_some];rw [<- amc];simp only [gd]
theorem ready_eq:Region.ready md ops l=agu (uz md ops).2 l.toList:=by
 unfold Region.ready agu;rw [acr];refine List.filter_congr (fun i _ => ?_);rw [aqM]
theorem free_eq:Region.free md ops l i=ajD (uz md ops).2 l.toList i:=by
 unfold Region.free ajD;cases h:ops[i]? with
 | none=>rw [aef h]
 | some oi =>
   rw [aee h];simp only [ak5];rw [List.all_filter];congr 1
   funext j;rw [gd];cases hj:ops[j]? with
   | none=>cases (j == i) <;> cases (l.toList.getD j true) <;> simp
   | some oj =>
     cases (j == i) <;> cases (l.toList.getD j true) <;> cases (oj.after.any (fun e=>Region.binds md e && e.on == i) || oi.apart ops oj) <;> simp_all
theorem asQ:Region.ae0 md ops l=ahN (uz md ops).2 l.toList:=by
 unfold Region.ae0 ahN;rw [acr];congr 1
 funext j;rw [gd];cases h:ops[j]? with
 | none=>rw [aef h]
 | some o =>
   rw [aee h];simp only;rw [<- amc];simp only [gd]
theorem reach_eq:∀ (fuel d:Nat),Region.yj md ops i fuel d=ae3 (uz md ops).2 i fuel d
  | 0,_=>rfl
  | fuel+1,d=>by
    unfold Region.yj ae3;cases h:ops[d]? with
    | none=>rw [aef h]
    | some o =>
      rw [aee h];simp only;rw [<- asP];congr 1
      funext e;rw [reach_eq fuel]
theorem axN:Region.lastB md ops l ds i=lastT (uz md ops).2 l.toList ds i:=by
 unfold Region.lastB lastT;rw [acr];congr 1
 funext d;rw [gd,reach_eq]
theorem ait (h:aa0 T.2 l.toList i=true) (hT:uz md ops=T):(Region.ready md ops l).contains i=true:=by
 subst hT;rw [ready_eq];unfold agu;rw [List.contains_iff_mem,List.mem_filter,List.mem_range];refine ⟨?_,h⟩;unfold aa0 at h;rw [Bool.and_eq_true] at h;cases hq:(uz md ops).2[i]? with
 | none=>rw [hq] at h;simp at h
 | some r=>exact (List.getElem?_eq_some_iff.1 hq).1
theorem anQ (h:(l.toList.set i true == l'.toList)=true):(l.setIfInBounds i true == l')=true:=by
 rw [beq_iff_eq] at h ⊢;apply Array.ext';rw [Array.toList_setIfInBounds];exact h
def ayG (T:Bool × List (List Nat × List Nat)) (l l':List Bool) (i:Nat):Bool:=T.1 && ajD T.2 l i && aa0 T.2 l i && (l.set i true == l')
theorem yt (hT:uz md ops=T) (h:ayG T l.toList l'.toList i=true):aqF md ops l l' i=true:=by
 simp only [ayG,Bool.and_eq_true] at h;obtain ⟨⟨⟨h1,h2⟩,h3⟩,h4⟩:=h;have h5:=ait h3 hT;have h6:=anQ h4;subst hT;simp only [aqF,Bool.and_eq_true];exact ⟨⟨⟨h1,by rw [free_eq];exact h2⟩,h5⟩,h6⟩
def aqN (T:Bool × List (List Nat × List Nat)) (ds:List Nat) (l l':List Bool) (i:Nat):Bool:=T.1 && ajD T.2 l i && aa0 T.2 l i && ahN T.2 l && lastT T.2 l ds i && (l.set i true == l')
theorem axO (hT:uz md ops=T) (h:aqN T ds l.toList l'.toList i=true):takeB md ops ds l l' i=true:=by
 simp only [aqN,Bool.and_eq_true] at h;obtain ⟨⟨⟨⟨⟨h1,h2⟩,h3⟩,h4⟩,h5⟩,h6⟩:=h;have h7:=ait h3 hT;have h8:=anQ h6;subst hT;simp only [takeB,Bool.and_eq_true];exact ⟨⟨⟨⟨⟨h1,by rw [free_eq];exact h2⟩,h7⟩,by rw [asQ];exact h4⟩,by rw [axN];exact h5⟩,h8⟩
theorem adD (hT:uz md ops=T) (h:(agu T.2 l.toList == [i] && l.toList.set i true == l'.toList)=true):ae1 md ops l l' i=true:=by
 simp only [Bool.and_eq_true] at h;obtain ⟨h1,h2⟩:=h;subst hT;simp only [ae1,Bool.and_eq_true];exact ⟨by rw [ready_eq];exact h1,anQ h2⟩
theorem apY (hT:uz md ops=T) (h:(agu T.2 l.toList == [])=true):(Region.ready md ops l == [])=true:=by
 subst hT;rw [ready_eq];exact h
def upM (B:List Nat) (d:Nat):List Nat->Nat
  | []=>0
  | n :: r=>(2 ^ n ||| (if n < d then B.getD n 0 else 0)) ||| upM B d r
def adt (T:List (List Nat × List Nat)) (B:List Nat):Bool:=(List.range T.length).all fun d=>match T[d]? with
  | some r=>(B.getD d 0 ||| upM B d r.1) == upM B d r.1
  | none=>false
theorem apZ {B:List Nat} {d i:Nat}:∀ {ns:List Nat},(upM B d ns).testBit i=true->∃ n ∈ ns,n=i\/(n < d/\(B.getD n 0).testBit i=true)
  | [],h=>by simp [upM] at h
  | n :: r,h=>by
    unfold upM at h;rw [Nat.testBit_or,Nat.testBit_or,Bool.or_eq_true,Bool.or_eq_true] at h;rcases h with (h|h)|h
    . rw [Nat.testBit_two_pow] at h;exact ⟨n,List.mem_cons_self,.inl (by simpa using h)⟩
    . by_cases hn:n < d
      . rw [if_pos hn] at h;exact ⟨n,List.mem_cons_self,.inr ⟨hn,h⟩⟩
      . rw [if_neg hn] at h;simp at h
    . obtain ⟨m,hm,h2⟩:=apZ h;exact ⟨m,List.mem_cons_of_mem _ hm,h2⟩
theorem amd {T:List (List Nat × List Nat)} {B:List Nat} (hB:adt T B=true):∀ (fuel d:Nat),d < fuel->d < T.length->(B.getD d 0).testBit i=true->ae3 T i fuel d=true
  | 0,d,h,_,_=>by omega
  | fuel+1,d,h,hd,hb=>by
    have h1:=List.all_eq_true.1 hB d (List.mem_range.2 hd);cases hr:T[d]? with
    | none=>rw [hr] at h1;simp at h1
    | some r =>
      rw [hr] at h1;simp only [beq_iff_eq] at h1;have h2:(upM B d r.1).testBit i=true:=(by rw [<- h1,Nat.testBit_or,hb,Bool.true_or]);obtain ⟨n,hn,h3⟩:=apZ h2;unfold ae3;rw [hr];simp only;rw [List.any_eq_true];refine ⟨n,hn,?_⟩;rcases h3 with rfl|⟨h4,h5⟩
      . simp
      . rw [amd hB fuel n (by omega) (by omega) h5,Bool.or_true]
def awF (T:List (List Nat × List Nat)) (B:List Nat) (l:List Bool) (ds:List Nat) (i:Nat):Bool:=ds.all fun d=>l.getD d true || (decide (d < T.length) && (B.getD d 0).testBit i)
def awG (T:Bool × List (List Nat × List Nat)) (B:List Nat) (ds:List Nat) (l l':List Bool) (i:Nat):Bool:=T.1 && ajD T.2 l i && aa0 T.2 l i && ahN T.2 l && awF T.2 B l ds i && (l.set i true == l')
theorem adE {B:List Nat} (hT:uz md ops=T) (hB:adt T.2 B=true) (h:awG T B ds l.toList l'.toList i=true):takeB md ops ds l l' i=true:=by
 refine axO hT ?_;simp only [awG,aqN,Bool.and_eq_true] at h ⊢;obtain ⟨⟨⟨⟨⟨h1,h2⟩,h3⟩,h4⟩,h5⟩,h6⟩:=h;refine ⟨⟨⟨⟨⟨h1,h2⟩,h3⟩,h4⟩,?_⟩,h6⟩;unfold awF at h5;unfold lastT;rw [List.all_eq_true] at h5 ⊢;intro d hd;have h7:=h5 d hd;rw [Bool.or_eq_true,Bool.and_eq_true,decide_eq_true_eq] at h7;rcases h7 with h7|⟨h8,h9⟩
 . rw [h7,Bool.true_or]
 . rw [amd hB _ d h8 h8 h9,Bool.or_true]
theorem ame {P:Program} {Q:Exit->Act->World->Prop} {S:World->Prop} {n:Nat} {a:Act} {w:World} {B:List Nat} (hT:uz md ops=T) (hB:adt T.2 B=true) (h:aj (uz md ops=T)->aj (adt T.2 B=true)->iR P md ops Q S ds n l a w):iR P md ops Q S ds n l a w:=h ⟨hT⟩ ⟨hB⟩
end
def acs:Code->Nat->Option (Array Oper)
  | .region id ops _,k=>if id == k then some ops else none
  | .seq a b,k=>match acs a k with
    | some o=>some o
    | none=>acs b k
  | .cond _ a b,k=>match acs a k with
    | some o=>some o
    | none=>acs b k
  | .block _ c,k=>acs c k
  | .loop c,k=>acs c k
  | .scope c,k=>acs c k
  | .rangeFunc _ _ a b,k=>match acs a k with
    | some o=>some o
    | none=>acs b k
  | _,_=>none
def opsOf (f:Func) (k:Nat):Array Oper:=((f.body.bind fun c=>acs c k)).getD #[]
end Go.Proofs.YtpondkggmcmpfaaGreatDoorW.PrintLast
namespace Go.Proofs.YtpondkggmcmpfaaGreatDoorW.PrintLast
section
variable {P:Program} {ops:Array Oper} {Q:Exit->Act->World->Prop} {md:Region.Mode} {S:World->Prop} {ds:List Nat} {T:Bool × List (List Nat × List Nat)}
end
end Go.Proofs.YtpondkggmcmpfaaGreatDoorW.PrintLast
namespace Go.Proofs.YtpondkggmcmpfaaGreatDoorW.PrintWords
open Go.RowKit
namespace Kd
section
variable {α:Type} {d:Kd α} {W:World} {g n:Nat} {S ok:Nat->Prop} {A:Option Addr} {ad:Addr} {xs:List α}
end
end Kd
end Go.Proofs.YtpondkggmcmpfaaGreatDoorW.PrintWords
namespace Go.Proofs.YtpondkggmcmpfaaGreatDoorW.PrintWords
open Go.RowKit
section
variable {w w' u:World} {m B g:Nat} {o:Obj} {row:Option Nat} {S:Nat->Prop} {a:Addr} {v:Value}
end
namespace Kd
section
variable {α:Type} {d:Kd α} {e base n m:Nat} {ok:Nat->Prop} {w w':World} {v:Value} {A:Option Addr} {xs:List α}
end
end Kd
end Go.Proofs.YtpondkggmcmpfaaGreatDoorW.PrintWords
namespace Go.Proofs.YtpondkggmcmpfaaGreatDoorW.PrintWords
open Go.RowKit
section
variable {P:Program} {d:Nat} {xs ys:Array Value} {f:Field} {fs:List Field} {a b:Value} {r s:Bool} {w:World}
end
end Go.Proofs.YtpondkggmcmpfaaGreatDoorW.PrintWords
namespace Go.Proofs.YtpondkggmcmpfaaGreatDoorW.PrintWords
theorem jX.one {α:Type} {R:α->List Value->Prop} {ps:List α} {cs:List Value} {p:α} {v:Value} (hp:R p [v]) (h:jX R 1 ps cs):jX R 1 (p :: ps) (v :: cs):=by
 refine ⟨by simp [h.1],fun j q hq => ?_⟩;cases j with
 | zero =>
   simp only [List.getElem?_cons_zero,Option.some.injEq] at hq;subst hq;simpa using hp
 | succ j =>
   simp only [List.getElem?_cons_succ] at hq;have h1:=h.2 j q hq;simpa [Nat.mul_one] using h1
end Go.Proofs.YtpondkggmcmpfaaGreatDoorW.PrintWords
namespace Go.Proofs.YtpondkggmcmpfaaGreatDoorW.PrintLast
section
variable {P:Program} {ops:Array Oper} {Q:Exit->Act->World->Prop} {md:Region.Mode} {T:Bool × List (List Nat × List Nat)} {B:List Nat} {O:List Nat} {b:Nat->Bool} {i j n:Nat}
end
end Go.Proofs.YtpondkggmcmpfaaGreatDoorW.PrintLast
namespace Go.Proofs.YtpondkggmcmpfaaGreatDoorW.PrintWords
open Go.RowKit
end Go.Proofs.YtpondkggmcmpfaaGreatDoorW.PrintWords
namespace Go.Proofs.YtpondkggmcmpfaaGreatDoorW.PrintLast
section
variable {ops:Array Oper} {a:Act} {o og:Oper} {g:Nat} {t:Tmp} {u:Bool}
end
end Go.Proofs.YtpondkggmcmpfaaGreatDoorW.PrintLast
namespace Go.Proofs.YtpondkggmcmpfaaGreatDoorW.PrintWords
open Go.RowKit
section
variable {P:Program} {ops:Array Oper} {rest:List Oper} {o:Oper} {a:Act} {Q:Exit->Act->World->Prop} {W:World}
theorem lV (hw:Region.wanted o (yielded ops a.tmps)=true) (h:wpList P ops Q ({ o with guard:=none } :: rest) a W):wpList P ops Q (o :: rest) a W:=by
 have h1:Region.wanted { o with guard:=none } (yielded ops a.tmps)=true:=rfl;unfold wpList at h ⊢;rw [if_pos h1] at h;rw [if_pos hw];exact h
end
end Go.Proofs.YtpondkggmcmpfaaGreatDoorW.PrintWords
namespace Go.Proofs.YtpondkggmcmpfaaGreatDoor.QA
open Go.Proofs.YtpondkggmcmpfaaGreatDoor.T
open Go.RowKit Go.Proofs.YtpondkggmcmpfaaGreatDoorW.PrintWords Go.Proofs.YtpondkggmcmpfaaGreatDoorW.PrintLast Go.Proofs.YtpondkggmcmpfaaGreatDoorW.PrintMore
attribute [local go_sem] dV dN dO fA fB
set_option linter.unusedVariables false
set_option linter.unusedSimpArgs false
def ayH:Option Int->Value
 | none => .nilIface
 | some c => .iface 0 (.int .i64 c)
theorem bJ:ayH none = .nilIface:=rfl
theorem bK (c:Int):ayH (some c) = .iface 0 (.int .i64 c):=rfl
theorem yM:(Tryz.prog.info? 2).map (fun i=>(i.zero,i.size,i.bytes))=some (some (.int .i64 0),1,8):=by kernel_rfl
theorem ayI:(Tryz.prog.info? 79).map (fun i=>(i.zero,i.size,i.bytes))=some (some (.int .u16 0),1,2):=by kernel_rfl
theorem axP:(Tryz.prog.info? 138).map (fun i=>(i.zero,i.size,i.bytes))=some (some (.agg #[(.int .i64 0),(.slice none 0 0)]),2,32):=by kernel_rfl
structure S71 where
 f0:Int
 f1:(List Int)
def z71:S71:=⟨(0:Int),([]:List Int)⟩
def k71:Kd S71:=Kd.iso (Kd.pair (Kd.int .i64) (Kd.slice 2 (Kd.int .i64))) (fun x:S71=>(x.f0,x.f1))
theorem atP {w:World} {x:S71} {cs:List Value} (h:k71.K w x cs):∃ A1 c1,cs=[.int .i64 x.f0,.slice A1 x.f1.length c1]/\x.f1.length<=c1/\(Kd.int .i64).C w A1 x.f1.length x.f1:=by
 obtain ⟨_,_,rfl,rfl,⟨A1,c1,rfl,l1,g1⟩⟩:=h;exact ⟨A1,c1,rfl,l1,g1⟩
theorem axQ (w:World) (base:Nat) (ok:Nat->Prop) (x:S71) {v1:Value} (g1:(Kd.int .i64).R 2 w base ok v1 x.f1):k71.M w base ok x [.int .i64 x.f0,v1]:=⟨[.int .i64 x.f0],[v1],rfl,rfl,⟨v1,rfl,g1⟩⟩
def dI (xs:List S71) (i:Int):S71:=xs.getD i.toNat z71
theorem anR {w:World} {A:Option Addr} {n:Nat} {xs:List S71} (h:Kd.C k71 w A n xs) (i:Int) (h0:0<=i) (h1:i < n):∃ ad A1 c1,A=some ad/\w.cell? (ad.add (i.toNat*2))=some (.int .i64 (dI xs i).f0)/\w.cell? ⟨(ad.add (i.toNat*2)).block,(ad.add (i.toNat*2)).off+1,none⟩=some (.slice A1 (dI xs i).f1.length c1)/\(dI xs i).f1.length<=c1/\(Kd.int .i64).C w A1 (dI xs i).f1.length (dI xs i).f1:=by
 obtain ⟨ad,c,e,_,hK,hc0⟩:=Kd.ahM h z71 i h0 h1;have hc:∀ j u,c[j]? = some u->w.cell? (ad.add (i.toNat*2+j))=some u:=hc0;obtain ⟨A1,c1,rfl,l1,g1⟩:=atP hK;exact ⟨ad,A1,c1,e,hc 0 _ rfl,by rw [<- jA _ _ 1 (by omega)];exact hc 1 _ rfl,l1,g1⟩
structure S47 where
 f0:Int
 f1:Int
 f2:Int
 f3:Int
 f4:(List Int)
 f5:(List Int)
 f6:Int
 f7:Int
 f8:Int
def z47:S47:=⟨(0:Int),(0:Int),(0:Int),(0:Int),([]:List Int),([]:List Int),(0:Int),(0:Int),(0:Int)⟩
def k47:Kd S47:=Kd.iso (Kd.pair (Kd.int .i64) (Kd.pair (Kd.int .i64) (Kd.pair (Kd.int .i64) (Kd.pair (Kd.int .i64) (Kd.pair (Kd.slice 2 (Kd.int .i64)) (Kd.pair (Kd.slice 2 (Kd.int .i64)) (Kd.pair (Kd.int .i64) (Kd.pair (Kd.int .i64) (Kd.int .i64))))))))) (fun x:S47=>(x.f0,x.f1,x.f2,x.f3,x.f4,x.f5,x.f6,x.f7,x.f8))
theorem anS {w:World} {x:S47} {cs:List Value} (h:k47.K w x cs):∃ A4 c4 A5 c5,cs=[.int .i64 x.f0,.int .i64 x.f1,.int .i64 x.f2,.int .i64 x.f3,.slice A4 x.f4.length c4,.slice A5 x.f5.length c5,.int .i64 x.f6,.int .i64 x.f7,.int .i64 x.f8]/\x.f4.length<=c4/\(Kd.int .i64).C w A4 x.f4.length x.f4/\x.f5.length<=c5/\(Kd.int .i64).C w A5 x.f5.length x.f5:=by
 obtain ⟨_,_,rfl,rfl,⟨_,_,rfl,rfl,⟨_,_,rfl,rfl,⟨_,_,rfl,rfl,⟨_,_,rfl,⟨A4,c4,rfl,l4,g4⟩,⟨_,_,rfl,⟨A5,c5,rfl,l5,g5⟩,⟨_,_,rfl,rfl,⟨_,_,rfl,rfl,rfl⟩⟩⟩⟩⟩⟩⟩⟩:=h;exact ⟨A4,c4,A5,c5,rfl,l4,g4,l5,g5⟩
theorem asR (w:World) (x:S47) {A4:Option Addr} {c4:Nat} (l4:x.f4.length<=c4) (g4:(Kd.int .i64).C w A4 x.f4.length x.f4) {A5:Option Addr} {c5:Nat} (l5:x.f5.length<=c5) (g5:(Kd.int .i64).C w A5 x.f5.length x.f5):k47.K w x [.int .i64 x.f0,.int .i64 x.f1,.int .i64 x.f2,.int .i64 x.f3,.slice A4 x.f4.length c4,.slice A5 x.f5.length c5,.int .i64 x.f6,.int .i64 x.f7,.int .i64 x.f8]:=⟨[.int .i64 x.f0],[.int .i64 x.f1,.int .i64 x.f2,.int .i64 x.f3,.slice A4 x.f4.length c4,.slice A5 x.f5.length c5,.int .i64 x.f6,.int .i64 x.f7,.int .i64 x.f8],rfl,rfl,⟨[.int .i64 x.f1],[.int .i64 x.f2,.int .i64 x.f3,.slice A4 x.f4.length c4,.slice A5 x.f5.length c5,.int .i64 x.f6,.int .i64 x.f7,.int .i64 x.f8],rfl,rfl,⟨[.int .i64 x.f2],[.int .i64 x.f3,.slice A4 x.f4.length c4,.slice A5 x.f5.length c5,.int .i64 x.f6,.int .i64 x.f7,.int .i64 x.f8],rfl,rfl,⟨[.int .i64 x.f3],[.slice A4 x.f4.length c4,.slice A5 x.f5.length c5,.int .i64 x.f6,.int .i64 x.f7,.int .i64 x.f8],rfl,rfl,⟨[.slice A4 x.f4.length c4],[.slice A5 x.f5.length c5,.int .i64 x.f6,.int .i64 x.f7,.int .i64 x.f8],rfl,⟨A4,c4,rfl,l4,g4⟩,⟨[.slice A5 x.f5.length c5],[.int .i64 x.f6,.int .i64 x.f7,.int .i64 x.f8],rfl,⟨A5,c5,rfl,l5,g5⟩,⟨[.int .i64 x.f6],[.int .i64 x.f7,.int .i64 x.f8],rfl,rfl,⟨[.int .i64 x.f7],[.int .i64 x.f8],rfl,rfl,rfl⟩⟩⟩⟩⟩⟩⟩⟩
def fG (xs:List S47) (i:Int):S47:=xs.getD i.toNat z47
theorem anT {w:World} {A:Option Addr} {n:Nat} {xs:List S47} (h:Kd.C k47 w A n xs) (i:Int) (h0:0<=i) (h1:i < n):∃ ad A4 c4 A5 c5,A=some ad/\w.cell? (ad.add (i.toNat*9))=some (.int .i64 (fG xs i).f0)/\w.cell? ⟨(ad.add (i.toNat*9)).block,(ad.add (i.toNat*9)).off+1,none⟩=some (.int .i64 (fG xs i).f1)/\w.cell? ⟨(ad.add (i.toNat*9)).block,(ad.add (i.toNat*9)).off+2,none⟩=some (.int .i64 (fG xs i).f2)/\w.cell? ⟨(ad.add (i.toNat*9)).block,(ad.add (i.toNat*9)).off+3,none⟩=some (.int .i64 (fG xs i).f3)/\w.cell? ⟨(ad.add (i.toNat*9)).block,(ad.add (i.toNat*9)).off+4,none⟩=some (.slice A4 (fG xs i).f4.length c4)/\w.cell? ⟨(ad.add (i.toNat*9)).block,(ad.add (i.toNat*9)).off+5,none⟩=some (.slice A5 (fG xs i).f5.length c5)/\w.cell? ⟨(ad.add (i.toNat*9)).block,(ad.add (i.toNat*9)).off+6,none⟩=some (.int .i64 (fG xs i).f6)/\w.cell? ⟨(ad.add (i.toNat*9)).block,(ad.add (i.toNat*9)).off+7,none⟩=some (.int .i64 (fG xs i).f7)/\w.cell? ⟨(ad.add (i.toNat*9)).block,(ad.add (i.toNat*9)).off+8,none⟩=some (.int .i64 (fG xs i).f8)/\(fG xs i).f4.length<=c4/\(Kd.int .i64).C w A4 (fG xs i).f4.length (fG xs i).f4/\(fG xs i).f5.length<=c5/\(Kd.int .i64).C w A5 (fG xs i).f5.length (fG xs i).f5:=by
 obtain ⟨ad,c,e,_,hK,hc0⟩:=Kd.ahM h z47 i h0 h1;have hc:∀ j u,c[j]? = some u->w.cell? (ad.add (i.toNat*9+j))=some u:=hc0;obtain ⟨A4,c4,A5,c5,rfl,l4,g4,l5,g5⟩:=anS hK;exact ⟨ad,A4,c4,A5,c5,e,hc 0 _ rfl,by rw [<- jA _ _ 1 (by omega)];exact hc 1 _ rfl,by rw [<- jA _ _ 2 (by omega)];exact hc 2 _ rfl,by rw [<- jA _ _ 3 (by omega)];exact hc 3 _ rfl,by rw [<- jA _ _ 4 (by omega)];exact hc 4 _ rfl,by rw [<- jA _ _ 5 (by omega)];exact hc 5 _ rfl,by rw [<- jA _ _ 6 (by omega)];exact hc 6 _ rfl,by rw [<- jA _ _ 7 (by omega)];exact hc 7 _ rfl,by rw [<- jA _ _ 8 (by omega)];exact hc 8 _ rfl,l4,g4,l5,g5⟩
structure jr where
 f0:Int
 f1:(List Int)
def z138:jr:=⟨(0:Int),([]:List Int)⟩
def tV:Kd jr:=Kd.iso (Kd.pair (Kd.int .i64) (Kd.slice 2 (Kd.int .i64))) (fun x:jr=>(x.f0,x.f1))
theorem asT {w:World} {x:jr} {cs:List Value} (h:tV.K w x cs):∃ A1 c1,cs=[.int .i64 x.f0,.slice A1 x.f1.length c1]/\x.f1.length<=c1/\(Kd.int .i64).C w A1 x.f1.length x.f1:=by
 obtain ⟨_,_,rfl,rfl,⟨A1,c1,rfl,l1,g1⟩⟩:=h;exact ⟨A1,c1,rfl,l1,g1⟩
theorem anU (w:World) (base:Nat) (ok:Nat->Prop) (x:jr) {v1:Value} (g1:(Kd.int .i64).R 2 w base ok v1 x.f1):tV.M w base ok x [.int .i64 x.f0,v1]:=⟨[.int .i64 x.f0],[v1],rfl,rfl,⟨v1,rfl,g1⟩⟩
def iQ (xs:List jr) (i:Int):jr:=xs.getD i.toNat z138
theorem zZ {w:World} {A:Option Addr} {n:Nat} {xs:List jr} (h:Kd.C tV w A n xs) (i:Int) (h0:0<=i) (h1:i < n):∃ ad A1 c1,A=some ad/\w.cell? (ad.add (i.toNat*2))=some (.int .i64 (iQ xs i).f0)/\w.cell? ⟨(ad.add (i.toNat*2)).block,(ad.add (i.toNat*2)).off+1,none⟩=some (.slice A1 (iQ xs i).f1.length c1)/\(iQ xs i).f1.length<=c1/\(Kd.int .i64).C w A1 (iQ xs i).f1.length (iQ xs i).f1:=by
 obtain ⟨ad,c,e,_,hK,hc0⟩:=Kd.ahM h z138 i h0 h1;have hc:∀ j u,c[j]? = some u->w.cell? (ad.add (i.toNat*2+j))=some u:=hc0;obtain ⟨A1,c1,rfl,l1,g1⟩:=asT hK;exact ⟨ad,A1,c1,e,hc 0 _ rfl,by rw [<- jA _ _ 1 (by omega)];exact hc 1 _ rfl,l1,g1⟩
structure afo where
 f0:Int
 f1:Int
 f2:Int
 f3:Int
 f4:(List Int)
 f5:(List Int)
 f6:Int
 f7:Int
 f8:Int
def ayJ:afo:=⟨(0:Int),(0:Int),(0:Int),(0:Int),([]:List Int),([]:List Int),(0:Int),(0:Int),(0:Int)⟩
def adF:Kd afo:=Kd.iso (Kd.pair (Kd.int .i64) (Kd.pair (Kd.int .i64) (Kd.pair (Kd.int .i64) (Kd.pair (Kd.int .i64) (Kd.pair (Kd.slice 2 (Kd.int .i64)) (Kd.pair (Kd.slice 2 (Kd.int .i64)) (Kd.pair (Kd.int .i64) (Kd.pair (Kd.int .i64) (Kd.int .i64))))))))) (fun x:afo=>(x.f0,x.f1,x.f2,x.f3,x.f4,x.f5,x.f6,x.f7,x.f8))
theorem asU {w:World} {x:afo} {cs:List Value} (h:adF.K w x cs):∃ A4 c4 A5 c5,cs=[.int .i64 x.f0,.int .i64 x.f1,.int .i64 x.f2,.int .i64 x.f3,.slice A4 x.f4.length c4,.slice A5 x.f5.length c5,.int .i64 x.f6,.int .i64 x.f7,.int .i64 x.f8]/\x.f4.length<=c4/\(Kd.int .i64).C w A4 x.f4.length x.f4/\x.f5.length<=c5/\(Kd.int .i64).C w A5 x.f5.length x.f5:=by
 obtain ⟨_,_,rfl,rfl,⟨_,_,rfl,rfl,⟨_,_,rfl,rfl,⟨_,_,rfl,rfl,⟨_,_,rfl,⟨A4,c4,rfl,l4,g4⟩,⟨_,_,rfl,⟨A5,c5,rfl,l5,g5⟩,⟨_,_,rfl,rfl,⟨_,_,rfl,rfl,rfl⟩⟩⟩⟩⟩⟩⟩⟩:=h;exact ⟨A4,c4,A5,c5,rfl,l4,g4,l5,g5⟩
theorem axR (w:World) (x:afo) {A4:Option Addr} {c4:Nat} (l4:x.f4.length<=c4) (g4:(Kd.int .i64).C w A4 x.f4.length x.f4) {A5:Option Addr} {c5:Nat} (l5:x.f5.length<=c5) (g5:(Kd.int .i64).C w A5 x.f5.length x.f5):adF.K w x [.int .i64 x.f0,.int .i64 x.f1,.int .i64 x.f2,.int .i64 x.f3,.slice A4 x.f4.length c4,.slice A5 x.f5.length c5,.int .i64 x.f6,.int .i64 x.f7,.int .i64 x.f8]:=⟨[.int .i64 x.f0],[.int .i64 x.f1,.int .i64 x.f2,.int .i64 x.f3,.slice A4 x.f4.length c4,.slice A5 x.f5.length c5,.int .i64 x.f6,.int .i64 x.f7,.int .i64 x.f8],rfl,rfl,⟨[.int .i64 x.f1],[.int .i64 x.f2,.int .i64 x.f3,.slice A4 x.f4.length c4,.slice A5 x.f5.length c5,.int .i64 x.f6,.int .i64 x.f7,.int .i64 x.f8],rfl,rfl,⟨[.int .i64 x.f2],[.int .i64 x.f3,.slice A4 x.f4.length c4,.slice A5 x.f5.length c5,.int .i64 x.f6,.int .i64 x.f7,.int .i64 x.f8],rfl,rfl,⟨[.int .i64 x.f3],[.slice A4 x.f4.length c4,.slice A5 x.f5.length c5,.int .i64 x.f6,.int .i64 x.f7,.int .i64 x.f8],rfl,rfl,⟨[.slice A4 x.f4.length c4],[.slice A5 x.f5.length c5,.int .i64 x.f6,.int .i64 x.f7,.int .i64 x.f8],rfl,⟨A4,c4,rfl,l4,g4⟩,⟨[.slice A5 x.f5.length c5],[.int .i64 x.f6,.int .i64 x.f7,.int .i64 x.f8],rfl,⟨A5,c5,rfl,l5,g5⟩,⟨[.int .i64 x.f6],[.int .i64 x.f7,.int .i64 x.f8],rfl,rfl,⟨[.int .i64 x.f7],[.int .i64 x.f8],rfl,rfl,rfl⟩⟩⟩⟩⟩⟩⟩⟩
def pF (xs:List afo) (i:Int):afo:=xs.getD i.toNat ayJ
theorem axS {w:World} {A:Option Addr} {n:Nat} {xs:List afo} (h:Kd.C adF w A n xs) (i:Int) (h0:0<=i) (h1:i < n):∃ ad A4 c4 A5 c5,A=some ad/\w.cell? (ad.add (i.toNat*9))=some (.int .i64 (pF xs i).f0)/\w.cell? ⟨(ad.add (i.toNat*9)).block,(ad.add (i.toNat*9)).off+1,none⟩=some (.int .i64 (pF xs i).f1)/\w.cell? ⟨(ad.add (i.toNat*9)).block,(ad.add (i.toNat*9)).off+2,none⟩=some (.int .i64 (pF xs i).f2)/\w.cell? ⟨(ad.add (i.toNat*9)).block,(ad.add (i.toNat*9)).off+3,none⟩=some (.int .i64 (pF xs i).f3)/\w.cell? ⟨(ad.add (i.toNat*9)).block,(ad.add (i.toNat*9)).off+4,none⟩=some (.slice A4 (pF xs i).f4.length c4)/\w.cell? ⟨(ad.add (i.toNat*9)).block,(ad.add (i.toNat*9)).off+5,none⟩=some (.slice A5 (pF xs i).f5.length c5)/\w.cell? ⟨(ad.add (i.toNat*9)).block,(ad.add (i.toNat*9)).off+6,none⟩=some (.int .i64 (pF xs i).f6)/\w.cell? ⟨(ad.add (i.toNat*9)).block,(ad.add (i.toNat*9)).off+7,none⟩=some (.int .i64 (pF xs i).f7)/\w.cell? ⟨(ad.add (i.toNat*9)).block,(ad.add (i.toNat*9)).off+8,none⟩=some (.int .i64 (pF xs i).f8)/\(pF xs i).f4.length<=c4/\(Kd.int .i64).C w A4 (pF xs i).f4.length (pF xs i).f4/\(pF xs i).f5.length<=c5/\(Kd.int .i64).C w A5 (pF xs i).f5.length (pF xs i).f5:=by
 obtain ⟨ad,c,e,_,hK,hc0⟩:=Kd.ahM h ayJ i h0 h1;have hc:∀ j u,c[j]? = some u->w.cell? (ad.add (i.toNat*9+j))=some u:=hc0;obtain ⟨A4,c4,A5,c5,rfl,l4,g4,l5,g5⟩:=asU hK;exact ⟨ad,A4,c4,A5,c5,e,hc 0 _ rfl,by rw [<- jA _ _ 1 (by omega)];exact hc 1 _ rfl,by rw [<- jA _ _ 2 (by omega)];exact hc 2 _ rfl,by rw [<- jA _ _ 3 (by omega)];exact hc 3 _ rfl,by rw [<- jA _ _ 4 (by omega)];exact hc 4 _ rfl,by rw [<- jA _ _ 5 (by omega)];exact hc 5 _ rfl,by rw [<- jA _ _ 6 (by omega)];exact hc 6 _ rfl,by rw [<- jA _ _ 7 (by omega)];exact hc 7 _ rfl,by rw [<- jA _ _ 8 (by omega)];exact hc 8 _ rfl,l4,g4,l5,g5⟩
def yN.f:Option (ByteArray):=some (⟨#[99,108,97,109,112]⟩:ByteArray)
theorem yN.calls (r:ByteArray) (w:World) (hG:GL w) (h:yN.f=some r) :
  Calls Tryz.prog 77 #[.int .i64 0] w fun e w'=>e = .returned (.string r)/\dA w w':=by
 have H:(some (⟨#[99,108,97,109,112]⟩:ByteArray))=some r:=h;clear h;obtain ⟨⟨acN,acO,acP,acQ,acR,acS⟩,⟨acT,acU,acV,acW,acX,acY,acZ⟩⟩:=hG;obtain rfl:=Option.some.inj H;go_enter Tryz.func77,Tryz.ntmps77;go_wp2;go_ret;exact ⟨zT,zW⟩
def yO.f:Option (ByteArray):=some (⟨#[109,105,114,114,111,114]⟩:ByteArray)
theorem yO.calls (r:ByteArray) (w:World) (hG:GL w) (h:yO.f=some r) :
  Calls Tryz.prog 77 #[.int .i64 1] w fun e w'=>e = .returned (.string r)/\dA w w':=by
 have H:(some (⟨#[109,105,114,114,111,114]⟩:ByteArray))=some r:=h;clear h;obtain ⟨⟨acN,acO,acP,acQ,acR,acS⟩,⟨acT,acU,acV,acW,acX,acY,acZ⟩⟩:=hG;obtain rfl:=Option.some.inj H;go_enter Tryz.func77,Tryz.ntmps77;go_wp2;go_ret;exact ⟨zT,zW⟩
def yP.f:Option (ByteArray):=some (⟨#[119,114,97,112]⟩:ByteArray)
theorem yP.calls (r:ByteArray) (w:World) (hG:GL w) (h:yP.f=some r) :
  Calls Tryz.prog 77 #[.int .i64 2] w fun e w'=>e = .returned (.string r)/\dA w w':=by
 have H:(some (⟨#[119,114,97,112]⟩:ByteArray))=some r:=h;clear h;obtain ⟨⟨acN,acO,acP,acQ,acR,acS⟩,⟨acT,acU,acV,acW,acX,acY,acZ⟩⟩:=hG;obtain rfl:=Option.some.inj H;go_enter Tryz.func77,Tryz.ntmps77;go_wp2;go_ret;exact ⟨zT,zW⟩
def sD.f (a0:Int):Option (ByteArray):=if a0 < 0 then (some (⟨#[]⟩:ByteArray)) else (if a0>=3 then (some (⟨#[]⟩:ByteArray)) else (none))
theorem sD.calls (a0:Int) (r:ByteArray) (w:World) (hG:GL w) (h:sD.f a0=some r) :
  Calls Tryz.prog 77 #[.int .i64 a0] w fun e w'=>e = .returned (.string r)/\dA w w':=by
 have H:=h;clear h;unfold sD.f at H;obtain ⟨⟨acN,acO,acP,acQ,acR,acS⟩,⟨acT,acU,acV,acW,acX,acY,acZ⟩⟩:=hG;by_cases c2:a0 < 0
 ·rw [if_pos c2] at H;have oM:=decide_eq_true c2;clear c2;obtain rfl:=Option.some.inj H;go_enter Tryz.func77,Tryz.ntmps77;go_wp2;go_ret;exact ⟨zT,zW⟩
 ·rw [if_neg c2] at H;have oM:=decide_eq_false c2;clear c2;by_cases c3:a0>=3
  ·rw [if_pos c3] at H;have fU:=decide_eq_true c3;clear c3;obtain rfl:=Option.some.inj H;go_enter Tryz.func77,Tryz.ntmps77;go_wp2;go_ret;exact ⟨zT,zW⟩
  ·rw [if_neg c3] at H;exact absurd H (by simp)
def oN.f (a0:Int):Option (ByteArray):=if a0=0 then yN.f else if a0=1 then yO.f else if a0=2 then yP.f else sD.f a0
theorem oN.calls (a0:Int) (r:ByteArray) (w:World) (hG:GL w) (h:oN.f a0=some r) :
  Calls Tryz.prog 77 #[.int .i64 a0] w fun e w'=>e = .returned (.string r)/\dA w w':=by
 unfold oN.f at h;by_cases c0:a0=0
 ·subst c0;exact yN.calls r w hG (by rw [if_pos rfl] at h;exact h)
 ·rw [if_neg c0] at h;by_cases c1:a0=1
  ·subst c1;exact yO.calls r w hG (by rw [if_pos rfl] at h;exact h)
  ·rw [if_neg c1] at h;by_cases c2:a0=2
   ·subst c2;exact yP.calls r w hG (by rw [if_pos rfl] at h;exact h)
   ·rw [if_neg c2] at h;exact sD.calls a0 r w hG h
def ku.f (a0:Int):Option (Bool):=if a0>=1 then (some (decide (a0<=65536))) else (some false)
theorem ku.calls (a0:Int) (r:Bool) (w:World) (h:ku.f a0=some r) :
  Calls Tryz.prog 86 #[.int .i64 a0] w fun e w'=>e = .returned (.bool r)/\dA w w':=by
 have H:=h;clear h;unfold ku.f at H;by_cases c2:a0>=1
 ·rw [if_pos c2] at H;have oM:=decide_eq_true c2;clear c2;obtain rfl:=Option.some.inj H;go_enter Tryz.func86,Tryz.ntmps86;go_wp2;go_ret;exact ⟨zT,zW⟩
 ·rw [if_neg c2] at H;have oM:=decide_eq_false c2;clear c2;obtain rfl:=Option.some.inj H;go_enter Tryz.func86,Tryz.ntmps86;go_wp2;go_ret;exact ⟨zT,zW⟩
def abv.f:Option (ByteArray):=some (⟨#[98,111,120]⟩:ByteArray)
theorem abv.calls (r:ByteArray) (w:World) (hG:GL w) (h:abv.f=some r) :
  Calls Tryz.prog 104 #[.int .i64 0] w fun e w'=>e = .returned (.string r)/\dA w w':=by
 have H:(some (⟨#[98,111,120]⟩:ByteArray))=some r:=h;clear h;obtain ⟨⟨acN,acO,acP,acQ,acR,acS⟩,⟨acT,acU,acV,acW,acX,acY,acZ⟩⟩:=hG;obtain rfl:=Option.some.inj H;go_enter Tryz.func104,Tryz.ntmps104;go_wp2;go_ret;exact ⟨zT,zW⟩
def abw.f:Option (ByteArray):=some (⟨#[99,117,98,105,99]⟩:ByteArray)
theorem abw.calls (r:ByteArray) (w:World) (hG:GL w) (h:abw.f=some r) :
  Calls Tryz.prog 104 #[.int .i64 1] w fun e w'=>e = .returned (.string r)/\dA w w':=by
 have H:(some (⟨#[99,117,98,105,99]⟩:ByteArray))=some r:=h;clear h;obtain ⟨⟨acN,acO,acP,acQ,acR,acS⟩,⟨acT,acU,acV,acW,acX,acY,acZ⟩⟩:=hG;obtain rfl:=Option.some.inj H;go_enter Tryz.func104,Tryz.ntmps104;go_wp2;go_ret;exact ⟨zT,zW⟩
def abx.f:Option (ByteArray):=some (⟨#[108,97,110,99,122,111,115]⟩:ByteArray)
theorem abx.calls (r:ByteArray) (w:World) (hG:GL w) (h:abx.f=some r) :
  Calls Tryz.prog 104 #[.int .i64 2] w fun e w'=>e = .returned (.string r)/\dA w w':=by
 have H:(some (⟨#[108,97,110,99,122,111,115]⟩:ByteArray))=some r:=h;clear h;obtain ⟨⟨acN,acO,acP,acQ,acR,acS⟩,⟨acT,acU,acV,acW,acX,acY,acZ⟩⟩:=hG;obtain rfl:=Option.some.inj H;go_enter Tryz.func104,Tryz.ntmps104;go_wp2;go_ret;exact ⟨zT,zW⟩
def wM.f (a0:Int):Option (ByteArray):=if a0 < 0 then (some (⟨#[]⟩:ByteArray)) else (if a0>=3 then (some (⟨#[]⟩:ByteArray)) else (none))
theorem wM.calls (a0:Int) (r:ByteArray) (w:World) (hG:GL w) (h:wM.f a0=some r) :
  Calls Tryz.prog 104 #[.int .i64 a0] w fun e w'=>e = .returned (.string r)/\dA w w':=by
 have H:=h;clear h;unfold wM.f at H;obtain ⟨⟨acN,acO,acP,acQ,acR,acS⟩,⟨acT,acU,acV,acW,acX,acY,acZ⟩⟩:=hG;by_cases c2:a0 < 0
 ·rw [if_pos c2] at H;have oM:=decide_eq_true c2;clear c2;obtain rfl:=Option.some.inj H;go_enter Tryz.func104,Tryz.ntmps104;go_wp2;go_ret;exact ⟨zT,zW⟩
 ·rw [if_neg c2] at H;have oM:=decide_eq_false c2;clear c2;by_cases c3:a0>=3
  ·rw [if_pos c3] at H;have fU:=decide_eq_true c3;clear c3;obtain rfl:=Option.some.inj H;go_enter Tryz.func104,Tryz.ntmps104;go_wp2;go_ret;exact ⟨zT,zW⟩
  ·rw [if_neg c3] at H;exact absurd H (by simp)
def vT.f (a0:Int):Option (ByteArray):=if a0=0 then abv.f else if a0=1 then abw.f else if a0=2 then abx.f else wM.f a0
theorem vT.calls (a0:Int) (r:ByteArray) (w:World) (hG:GL w) (h:vT.f a0=some r) :
  Calls Tryz.prog 104 #[.int .i64 a0] w fun e w'=>e = .returned (.string r)/\dA w w':=by
 unfold vT.f at h;by_cases c0:a0=0
 ·subst c0;exact abv.calls r w hG (by rw [if_pos rfl] at h;exact h)
 ·rw [if_neg c0] at h;by_cases c1:a0=1
  ·subst c1;exact abw.calls r w hG (by rw [if_pos rfl] at h;exact h)
  ·rw [if_neg c1] at h;by_cases c2:a0=2
   ·subst c2;exact abx.calls r w hG (by rw [if_pos rfl] at h;exact h)
   ·rw [if_neg c2] at h;exact wM.calls a0 r w hG h
def kS.j0:Nat->Bool->Int->Int->Int->Int->List Int->List Int->Int->Int->Int->Option (Bool)
 | 0,_,_,_,_,_,_,_,_,_,_=>none
 | k+1,x16,axT,aEu,aEv,aEw,aEx,aEy,axU,axV,axW=>if x16=true then (some false) else (if axT=3 then ((ku.f axV).bind fun atQ=>(if atQ=true then ((ku.f axW).bind fun atS=>(if atS=true then ((vT.f axU).bind fun t105=>(some (t105.toList != ([]:List UInt8)))) else (some false))) else (some false))) else (some true))
def kS.f (k:Nat) (aU bf bY dB:Int) (bZ jJ:List Int) (lY lD lN:Int):Option (Bool):=if aU < 0 then (kS.j0 k true aU bf bY dB bZ jJ lY lD lN) else (if aU>=4 then (kS.j0 k true aU bf bY dB bZ jJ lY lD lN) else ((oN.f bf).bind fun aqO=>(kS.j0 k (aqO.toList == ([]:List UInt8)) aU bf bY dB bZ jJ lY lD lN)))
theorem kS.calls (k:Nat) (aU bf bY dB:Int) (iF:Option Addr) (iG:Nat) (bZ:List Int) (qc:Option Addr) (qg:Nat) (jJ:List Int) (lY lD lN:Int) (r:Bool) (w:World) (oG:Kd.C (Kd.int .i64) w iF bZ.length bZ) (oH:bZ.length<=iG) (aby:Kd.C (Kd.int .i64) w qc jJ.length jJ) (abz:jJ.length<=qg) (hG:GL w) (h:kS.f k aU bf bY dB bZ jJ lY lD lN=some r) :
  Calls Tryz.prog 85 #[.agg #[.int .i64 aU,.int .i64 bf,.int .i64 bY,.int .i64 dB,.slice iF bZ.length iG,.slice qc jJ.length qg,.int .i64 lY,.int .i64 lD,.int .i64 lN]] w fun e w'=>e = .returned (.bool r)/\Below w.heap.size w w':=by
 have ayK:=Tryz.underlying47;have um:=aj.mk oG;have uK:=aj.mk oH;clear oG oH;have am1:=aj.mk aby
 have am2:=aj.mk abz;clear aby abz;have HB:=aj.mk (Below.refl w.heap.size w);have H:=h;clear h;unfold kS.f at H;have HC2:=aj.mk H;clear H;go_enter Tryz.func85,Tryz.ntmps85;go_upto_region 1 with (first|((with_reducible refine aZ (N:=1) rfl ?_);refine aX zR (N:=1) zR (cs := #[.int .i64 aU,.int .i64 bf,.int .i64 bY,.int .i64 dB,.slice iF bZ.length iG,.slice qc jJ.length qg,.int .i64 lY,.int .i64 lD,.int .i64 lN]) (t:=47) zG ?_;intro aAg hg w3 hbox hb;obtain ⟨HB,uo,aF3,awH⟩:=zA4 (ak zB hb) hbox (zg hg zB) (zg hg zB);clear hb hbox hg))
 (try simp only [Act.put,List.setIfInBounds_toArray,List.set_cons_zero,List.set_cons_succ])
 go_cut [16] (fun v16 wc=>∃ (kq:Nat) (aaG:Bool),v16 = .bool aaG/\aj (kS.j0 kq aaG aU bf bY dB bZ jJ lY lD lN=some r)/\aj (kq<=k)/\aj (wc.heap[aAg]? = some (.cells #[.int .i64 aU,.int .i64 bf,.int .i64 bY,.int .i64 dB,(.slice iF bZ.length iG),(.slice qc jJ.length qg),.int .i64 lY,.int .i64 lD,.int .i64 lN] 47 (0,0)))/\aj (Below w.heap.size w wc))
 case first =>
  have H:=HC2.out;clear HC2;by_cases c4:aU < 0
  ·rw [if_pos c4] at H;have fH:=decide_eq_true c4;clear c4
   (first|rw [fH]|(simp only [bP,bU];rw [fH])|skip)
   have H':=aj.mk H;clear H;obtain ⟨_,_,_,_,_,_,_,_,_⟩:=zC9 uo.out;obtain ⟨_,_,_,_,_,_,_,_,_⟩:=zF9 uo.out;go_wp2;go_meet
   case rel=>exact ⟨_,(true),zT,H',⟨by first|omega|exact Nat.le_refl _⟩,⟨zK uo⟩,⟨zB⟩⟩
  ·rw [if_neg c4] at H;have fH:=decide_eq_false c4;clear c4
   (first|rw [fH]|(simp only [bP,bU];rw [fH])|skip)
   by_cases c6:aU>=4
   ·rw [if_pos c6] at H;have gI:=decide_eq_true c6;clear c6;have H':=aj.mk H;clear H;obtain ⟨_,_,_,_,_,_,_,_,_⟩:=zC9 uo.out;obtain ⟨_,_,_,_,_,_,_,_,_⟩:=zF9 uo.out;go_wp2;go_meet
    case rel=>exact ⟨_,(true),zT,H',⟨by first|omega|exact Nat.le_refl _⟩,⟨zK uo⟩,⟨zB⟩⟩
   ·rw [if_neg c6] at H;have gI:=decide_eq_false c6;clear c6;replace H:=zO H;obtain ⟨aqO,A8,H⟩:=H;try dsimp only at H
    have H':=aj.mk H;clear H;obtain ⟨_,_,_,_,_,_,_,_,_⟩:=zC9 uo.out;obtain ⟨_,_,_,_,_,_,_,_,_⟩:=zF9 uo.out;go_wp2_with (first|(go_at_call 77;(with_reducible refine (oN.calls bf aqO _ (by exact GL.below hG (by repeat (first|(with_reducible first|exact HB.out|apply aK|apply aJ|apply bC|refine uJ ?_ awH.out)|exact HB.out|exact Below.refl _ _))) A8.out).mono ?_);rintro e w' ⟨rfl,⟨nd,rfl⟩⟩));go_meet
    case rel=>exact ⟨_,((aqO.toList == ([]:List UInt8))),zT,H',⟨by first|omega|exact Nat.le_refl _⟩,⟨zK uo⟩,⟨zB⟩⟩
 case rest =>
  clear HC2;obtain ⟨kq,aaG,rfl,HA,HJ1,uo,HB⟩:=hcut;cases kq with
  | zero=>exact absurd HA.out (by simp [kS.j0])
  | succ kj1 =>
   have H:=HA.out;clear HA;simp only [kS.j0] at H;by_cases c10:aaG=true
   ·subst c10;rw [if_pos rfl] at H;(try dsimp only at H);obtain rfl:=Option.some.inj H;go_wp2;go_ret;exact ⟨by first|rfl|(simp [bJ,bK] <;> rfl)|(simp [*,bJ,bK] <;> rfl)|(simp;cases t105.toList <;> rfl),zB⟩
   ·replace c10:=Bool.eq_false_iff.mpr c10;subst c10;rw [if_neg (show ¬ (false=true) by decide)] at H;(try dsimp only at H);by_cases c11:aU=3
    ·rw [if_pos c11] at H;have jy:(aU == 3)=true:=beq_iff_eq.mpr c11;have aac:(aU != 3)=false:=bne_eq_false_iff_eq.mpr c11;clear c11;replace H:=zO H;obtain ⟨atQ,A12,H⟩:=H;try dsimp only at H
     by_cases c13:atQ=true
     ·subst c13;rw [if_pos rfl] at H;(try dsimp only at H);replace H:=zO H;obtain ⟨atS,A14,H⟩:=H;try dsimp only at H
      by_cases c15:atS=true
      ·subst c15;rw [if_pos rfl] at H;(try dsimp only at H);replace H:=zO H;obtain ⟨t105,A16,H⟩:=H;try dsimp only at H
       obtain rfl:=Option.some.inj H;obtain ⟨_,_,_,_,_,_,_,_,_⟩:=zC9 uo.out;obtain ⟨_,_,_,_,_,_,_,_,_⟩:=zF9 uo.out;go_wp2_with (first|(go_at_call 86;(with_reducible refine (ku.calls lD true _ A12.out).mono ?_);rintro e w' ⟨rfl,⟨nd,rfl⟩⟩)|(go_at_call 86;(with_reducible refine (ku.calls lN true _ A14.out).mono ?_);rintro e w' ⟨rfl,⟨nd,rfl⟩⟩)|(go_at_call 104;(with_reducible refine (vT.calls lY t105 _ (by exact GL.below hG (by repeat (first|(with_reducible first|exact HB.out|apply aK|apply aJ|apply bC|refine uJ ?_ awH.out)|exact HB.out|exact Below.refl _ _))) A16.out).mono ?_);rintro e w' ⟨rfl,⟨nd,rfl⟩⟩));go_ret;exact ⟨by first|rfl|(simp [bJ,bK] <;> rfl)|(simp [*,bJ,bK] <;> rfl)|(simp;cases t105.toList <;> rfl),zB⟩
      ·replace c15:=Bool.eq_false_iff.mpr c15;subst c15;rw [if_neg (show ¬ (false=true) by decide)] at H;(try dsimp only at H);obtain rfl:=Option.some.inj H;obtain ⟨_,_,_,_,_,_,_,_,_⟩:=zC9 uo.out;obtain ⟨_,_,_,_,_,_,_,_,_⟩:=zF9 uo.out;go_wp2_with (first|(go_at_call 86;(with_reducible refine (ku.calls lD true _ A12.out).mono ?_);rintro e w' ⟨rfl,⟨nd,rfl⟩⟩)|(go_at_call 86;(with_reducible refine (ku.calls lN false _ A14.out).mono ?_);rintro e w' ⟨rfl,⟨nd,rfl⟩⟩));go_ret;exact ⟨by first|rfl|(simp [bJ,bK] <;> rfl)|(simp [*,bJ,bK] <;> rfl)|(simp;cases t105.toList <;> rfl),zB⟩
     ·replace c13:=Bool.eq_false_iff.mpr c13;subst c13;rw [if_neg (show ¬ (false=true) by decide)] at H;(try dsimp only at H);obtain rfl:=Option.some.inj H;obtain ⟨_,_,_,_,_,_,_,_,_⟩:=zC9 uo.out;obtain ⟨_,_,_,_,_,_,_,_,_⟩:=zF9 uo.out;go_wp2_with (first|(go_at_call 86;(with_reducible refine (ku.calls lD false _ A12.out).mono ?_);rintro e w' ⟨rfl,⟨nd,rfl⟩⟩));go_ret;exact ⟨by first|rfl|(simp [bJ,bK] <;> rfl)|(simp [*,bJ,bK] <;> rfl)|(simp;cases t105.toList <;> rfl),zB⟩
    ·rw [if_neg c11] at H;have jy:(aU == 3)=false:=beq_eq_false_iff_ne.mpr c11;have aac:(aU != 3)=true:=bne_iff_ne.mpr c11;obtain rfl:=Option.some.inj H;obtain ⟨_,_,_,_,_,_,_,_,_⟩:=zC9 uo.out;obtain ⟨_,_,_,_,_,_,_,_,_⟩:=zF9 uo.out;go_wp2;go_ret;exact ⟨by first|rfl|(simp [bJ,bK] <;> rfl)|(simp [*,bJ,bK] <;> rfl)|(simp;cases t105.toList <;> rfl),zB⟩
def gX.f (a0:Int):Option (Int):=if a0 < 0 then (some (IntKind.u64.wrap (-(IntKind.u64.wrap (a0))))) else (some (IntKind.u64.wrap (a0)))
theorem gX.calls (a0 r:Int) (w:World) (h:gX.f a0=some r) :
  Calls Tryz.prog 163 #[.int .i64 a0] w fun e w'=>e = .returned (.int .u64 r)/\dA w w':=by
 have H:=h;clear h;unfold gX.f at H;by_cases c2:a0 < 0
 ·rw [if_pos c2] at H;have oM:=decide_eq_true c2;clear c2;obtain rfl:=Option.some.inj H;go_enter Tryz.func163,Tryz.ntmps163;go_wp2;go_ret;exact ⟨zT,zW⟩
 ·rw [if_neg c2] at H;have oM:=decide_eq_false c2;clear c2;obtain rfl:=Option.some.inj H;go_enter Tryz.func163,Tryz.ntmps163;go_wp2;go_ret;exact ⟨zT,zW⟩
def dR.j0:Nat->Int->Bool->Bool->Option (Int)
 | 0,_,_,_=>none
 | k+1,x0,x1,x5=>if x5=true then (some (-9223372036854775808)) else (if x1=true then (some (wrap64 (-(wrap64 (x0))))) else (if x0 > 9223372036854775807 then (some 9223372036854775807) else (some (wrap64 (x0)))))
def dR.f (k:Nat) (a0:Int) (a1:Bool):Option (Int):=if a1=true then (dR.j0 k a0 a1 (decide (a0>=9223372036854775808))) else (dR.j0 k a0 a1 false)
theorem dR.jH:∀ k,(∀ y0 y1 y2,LeO (dR.j0 k y0 y1 y2) (dR.j0 (k+1) y0 y1 y2))
 | 0=>fun _ _ _ r h=>by simp [dR.j0] at h
 | k+1=>by
  have ih0:=dR.jH k
  ·intro y0 y1 y2;unfold dR.j0;repeat' (with_reducible first|exact ih0 _ _ _|exact zM|refine LeO.ite ?_ ?_|refine LeO.bind ?_ (fun _ => ?_))
theorem dR.mono:∀ a0 a1 k,LeO (dR.f k a0 a1) (dR.f (k+1) a0 a1):=by
 intro a0 a1 k;have ih0:=dR.jH k;unfold dR.f;repeat' (with_reducible first|exact ih0 _ _ _|exact zM|refine LeO.ite ?_ ?_|refine LeO.bind ?_ (fun _ => ?_))
theorem dR.calls (k:Nat) (a0:Int) (a1:Bool) (r:Int) (w:World) (h:dR.f k a0 a1=some r) :
  Calls Tryz.prog 164 #[.int .u64 a0,.bool a1] w fun e w'=>e = .returned (.int .i64 r)/\dA w w':=by
 have H:=h;clear h;unfold dR.f at H;have HC3:=aj.mk H;clear H;go_enter Tryz.func164,Tryz.ntmps164;go_upto_region 1 with (fail);go_cut [5] (fun v5 wc=>∃ (kq:Nat) (ou:Bool),v5 = .bool ou/\aj (dR.j0 kq a0 a1 ou=some r)/\aj (kq<=k)/\dA w wc)
 case first =>
  have H:=HC3.out;clear HC3;by_cases c4:a1=true
  ·subst c4;rw [if_pos rfl] at H;(try dsimp only at H);have H':=aj.mk H;clear H;go_wp2;go_meet
   case rel=>exact ⟨_,(decide (a0>=9223372036854775808)),zT,H',⟨by first|omega|exact Nat.le_refl _⟩,zW⟩
  ·replace c4:=Bool.eq_false_iff.mpr c4;subst c4;rw [if_neg (show ¬ (false=true) by decide)] at H;(try dsimp only at H);have H':=aj.mk H;clear H;go_wp2;go_meet
   case rel=>exact ⟨_,(false),zT,H',⟨by first|omega|exact Nat.le_refl _⟩,zW⟩
 case rest =>
  clear HC3;obtain ⟨kq,ou,rfl,HA,HJ2,⟨mc2,rfl⟩⟩:=hcut;cases kq with
  | zero=>exact absurd HA.out (by simp [dR.j0])
  | succ kj2 =>
   have H:=HA.out;clear HA;simp only [dR.j0] at H;by_cases c5:ou=true
   ·subst c5;rw [if_pos rfl] at H;(try dsimp only at H);obtain rfl:=Option.some.inj H;go_wp2;go_ret;exact ⟨zT,zW⟩
   ·replace c5:=Bool.eq_false_iff.mpr c5;subst c5;rw [if_neg (show ¬ (false=true) by decide)] at H;(try dsimp only at H);by_cases c6:a1=true
    ·subst c6;rw [if_pos rfl] at H;(try dsimp only at H);obtain rfl:=Option.some.inj H;go_wp2;go_ret;exact ⟨zT,zW⟩
    ·replace c6:=Bool.eq_false_iff.mpr c6;subst c6;rw [if_neg (show ¬ (false=true) by decide)] at H;(try dsimp only at H);by_cases c7:a0 > 9223372036854775807
     ·rw [if_pos c7] at H;have jw:=decide_eq_true c7;clear c7;obtain rfl:=Option.some.inj H;go_wp2;go_ret;exact ⟨zT,zW⟩
     ·rw [if_neg c7] at H;have jw:=decide_eq_false c7;clear c7;obtain rfl:=Option.some.inj H;go_wp2;go_ret;exact ⟨zT,zW⟩
def dF.f (k:Nat) (a0 a1:Int):Option (Int):=if a1=0 then (some 0) else ((gX.f a0).bind fun qM=>((gX.f a1).bind fun t107=>(if t107=0 then (none) else (if ((decide (a0 < 0)) != (decide (a1 < 0)))=true then (if (Int.tmod qM t107)=0 then ((dR.f k (IntKind.u64.wrap (Int.tdiv qM t107)) true).bind fun anV=>(some anV)) else ((dR.f k (IntKind.u64.wrap ((IntKind.u64.wrap (Int.tdiv qM t107))+1)) true).bind fun t109=>(some t109))) else ((dR.f k (IntKind.u64.wrap (Int.tdiv qM t107)) false).bind fun anW=>(some anW))))))
theorem dF.mono:∀ a0 a1 k,LeO (dF.f k a0 a1) (dF.f (k+1) a0 a1):=by
 intro a0 a1 k;unfold dF.f;repeat' (with_reducible first|exact dR.mono _ _ _|exact zM|refine LeO.ite ?_ ?_|refine LeO.bind ?_ (fun _ => ?_))
theorem dF.calls (k:Nat) (a0 a1 r:Int) (w:World) (h:dF.f k a0 a1=some r) :
  Calls Tryz.prog 133 #[.int .i64 a0,.int .i64 a1] w fun e w'=>e = .returned (.int .i64 r)/\dA w w':=by
 have H:=h;clear h;unfold dF.f at H;by_cases c3:a1=0
 ·rw [if_pos c3] at H;have fU:(a1 == 0)=true:=beq_iff_eq.mpr c3;have wO:(a1 != 0)=false:=bne_eq_false_iff_eq.mpr c3;clear c3;obtain rfl:=Option.some.inj H;go_enter Tryz.func133,Tryz.ntmps133;go_wp2;repeat (go_quiet (fail);try go_wp2)
  go_ret;exact ⟨zT,zW⟩
 ·rw [if_neg c3] at H;have fU:(a1 == 0)=false:=beq_eq_false_iff_ne.mpr c3;have wO:(a1 != 0)=true:=bne_iff_ne.mpr c3;replace H:=zO H;obtain ⟨qM,A4,H⟩:=H;try dsimp only at H
  replace H:=zO H;obtain ⟨t107,A5,H⟩:=H;try dsimp only at H
  by_cases c6:t107=0
  ·rw [if_pos c6] at H;exact absurd H (by simp)
  ·rw [if_neg c6] at H;have gI:(t107 == 0)=false:=beq_eq_false_iff_ne.mpr c6;have vU:(t107 != 0)=true:=bne_iff_ne.mpr c6;by_cases c7:((decide (a0 < 0)) != (decide (a1 < 0)))=true
   ·rw [if_pos c7] at H;have jw:((decide (a0 < 0)) != (decide (a1 < 0)))=true:=c7
    (try (have abY:decide ((decide (a0 < 0))=(decide (a1 < 0)))=false:=by simpa using c7))
    (try (have aCS:((decide (a0 < 0)) == (decide (a1 < 0)))=false:=by simpa using c7))
    (try (have aIz:¬ ((decide (a0 < 0))=(decide (a1 < 0))):=by simpa using c7))
    clear c7;by_cases c8:(Int.tmod qM t107)=0
    ·rw [if_pos c8] at H;have qj:((Int.tmod qM t107) == 0)=true:=beq_iff_eq.mpr c8;have abZ:((Int.tmod qM t107) != 0)=false:=bne_eq_false_iff_eq.mpr c8;clear c8;replace H:=zO H;obtain ⟨anV,A9,H⟩:=H;try dsimp only at H
     obtain rfl:=Option.some.inj H;go_enter Tryz.func133,Tryz.ntmps133;go_wp2_with (first|(go_at_call 163;(with_reducible refine (gX.calls a0 qM _ A4.out).mono ?_);rintro e w' ⟨rfl,⟨nd,rfl⟩⟩;(try exact ⟨rfl,_,zN⟩))|(go_at_call 163;(with_reducible refine (gX.calls a1 t107 _ A5.out).mono ?_);rintro e w' ⟨rfl,⟨nd,rfl⟩⟩;(try exact ⟨rfl,_,zN⟩))|(go_at_call 164;(with_reducible refine (dR.calls k (IntKind.u64.wrap (Int.tdiv qM t107)) true anV _ A9.out).mono ?_);rintro e w' ⟨rfl,⟨nd,rfl⟩⟩;(try exact ⟨rfl,_,zN⟩)));repeat (go_quiet (first|(go_at_call 163;(with_reducible refine (gX.calls a0 qM _ A4.out).mono ?_);rintro e w' ⟨rfl,⟨nd,rfl⟩⟩;(try exact ⟨rfl,_,zN⟩))|(go_at_call 163;(with_reducible refine (gX.calls a1 t107 _ A5.out).mono ?_);rintro e w' ⟨rfl,⟨nd,rfl⟩⟩;(try exact ⟨rfl,_,zN⟩))|(go_at_call 164;(with_reducible refine (dR.calls k (IntKind.u64.wrap (Int.tdiv qM t107)) true anV _ A9.out).mono ?_);rintro e w' ⟨rfl,⟨nd,rfl⟩⟩;(try exact ⟨rfl,_,zN⟩)));try go_wp2_with (first|(go_at_call 163;(with_reducible refine (gX.calls a0 qM _ A4.out).mono ?_);rintro e w' ⟨rfl,⟨nd,rfl⟩⟩;(try exact ⟨rfl,_,zN⟩))|(go_at_call 163;(with_reducible refine (gX.calls a1 t107 _ A5.out).mono ?_);rintro e w' ⟨rfl,⟨nd,rfl⟩⟩;(try exact ⟨rfl,_,zN⟩))|(go_at_call 164;(with_reducible refine (dR.calls k (IntKind.u64.wrap (Int.tdiv qM t107)) true anV _ A9.out).mono ?_);rintro e w' ⟨rfl,⟨nd,rfl⟩⟩;(try exact ⟨rfl,_,zN⟩))))
     go_ret;exact ⟨zT,zW⟩
    ·rw [if_neg c8] at H;have qj:((Int.tmod qM t107) == 0)=false:=beq_eq_false_iff_ne.mpr c8;have abZ:((Int.tmod qM t107) != 0)=true:=bne_iff_ne.mpr c8;replace H:=zO H;obtain ⟨t109,A10,H⟩:=H;try dsimp only at H
     obtain rfl:=Option.some.inj H;go_enter Tryz.func133,Tryz.ntmps133;go_wp2_with (first|(go_at_call 163;(with_reducible refine (gX.calls a0 qM _ A4.out).mono ?_);rintro e w' ⟨rfl,⟨nd,rfl⟩⟩;(try exact ⟨rfl,_,zN⟩))|(go_at_call 163;(with_reducible refine (gX.calls a1 t107 _ A5.out).mono ?_);rintro e w' ⟨rfl,⟨nd,rfl⟩⟩;(try exact ⟨rfl,_,zN⟩))|(go_at_call 164;(with_reducible refine (dR.calls k (IntKind.u64.wrap ((IntKind.u64.wrap (Int.tdiv qM t107))+1)) true t109 _ A10.out).mono ?_);rintro e w' ⟨rfl,⟨nd,rfl⟩⟩;(try exact ⟨rfl,_,zN⟩)));repeat (go_quiet (first|(go_at_call 163;(with_reducible refine (gX.calls a0 qM _ A4.out).mono ?_);rintro e w' ⟨rfl,⟨nd,rfl⟩⟩;(try exact ⟨rfl,_,zN⟩))|(go_at_call 163;(with_reducible refine (gX.calls a1 t107 _ A5.out).mono ?_);rintro e w' ⟨rfl,⟨nd,rfl⟩⟩;(try exact ⟨rfl,_,zN⟩))|(go_at_call 164;(with_reducible refine (dR.calls k (IntKind.u64.wrap ((IntKind.u64.wrap (Int.tdiv qM t107))+1)) true t109 _ A10.out).mono ?_);rintro e w' ⟨rfl,⟨nd,rfl⟩⟩;(try exact ⟨rfl,_,zN⟩)));try go_wp2_with (first|(go_at_call 163;(with_reducible refine (gX.calls a0 qM _ A4.out).mono ?_);rintro e w' ⟨rfl,⟨nd,rfl⟩⟩;(try exact ⟨rfl,_,zN⟩))|(go_at_call 163;(with_reducible refine (gX.calls a1 t107 _ A5.out).mono ?_);rintro e w' ⟨rfl,⟨nd,rfl⟩⟩;(try exact ⟨rfl,_,zN⟩))|(go_at_call 164;(with_reducible refine (dR.calls k (IntKind.u64.wrap ((IntKind.u64.wrap (Int.tdiv qM t107))+1)) true t109 _ A10.out).mono ?_);rintro e w' ⟨rfl,⟨nd,rfl⟩⟩;(try exact ⟨rfl,_,zN⟩))))
     go_ret;exact ⟨zT,zW⟩
   ·rw [if_neg c7] at H;have jw:((decide (a0 < 0)) != (decide (a1 < 0)))=false:=by simpa using c7
    (try (have abY:decide ((decide (a0 < 0))=(decide (a1 < 0)))=true:=by simpa using c7))
    (try (have aCS:((decide (a0 < 0)) == (decide (a1 < 0)))=true:=by simpa using c7))
    clear c7;replace H:=zO H;obtain ⟨anW,A11,H⟩:=H;try dsimp only at H
    obtain rfl:=Option.some.inj H;go_enter Tryz.func133,Tryz.ntmps133;go_wp2_with (first|(go_at_call 163;(with_reducible refine (gX.calls a0 qM _ A4.out).mono ?_);rintro e w' ⟨rfl,⟨nd,rfl⟩⟩;(try exact ⟨rfl,_,zN⟩))|(go_at_call 163;(with_reducible refine (gX.calls a1 t107 _ A5.out).mono ?_);rintro e w' ⟨rfl,⟨nd,rfl⟩⟩;(try exact ⟨rfl,_,zN⟩))|(go_at_call 164;(with_reducible refine (dR.calls k (IntKind.u64.wrap (Int.tdiv qM t107)) false anW _ A11.out).mono ?_);rintro e w' ⟨rfl,⟨nd,rfl⟩⟩;(try exact ⟨rfl,_,zN⟩)));repeat (go_quiet (first|(go_at_call 163;(with_reducible refine (gX.calls a0 qM _ A4.out).mono ?_);rintro e w' ⟨rfl,⟨nd,rfl⟩⟩;(try exact ⟨rfl,_,zN⟩))|(go_at_call 163;(with_reducible refine (gX.calls a1 t107 _ A5.out).mono ?_);rintro e w' ⟨rfl,⟨nd,rfl⟩⟩;(try exact ⟨rfl,_,zN⟩))|(go_at_call 164;(with_reducible refine (dR.calls k (IntKind.u64.wrap (Int.tdiv qM t107)) false anW _ A11.out).mono ?_);rintro e w' ⟨rfl,⟨nd,rfl⟩⟩;(try exact ⟨rfl,_,zN⟩)));try go_wp2_with (first|(go_at_call 163;(with_reducible refine (gX.calls a0 qM _ A4.out).mono ?_);rintro e w' ⟨rfl,⟨nd,rfl⟩⟩;(try exact ⟨rfl,_,zN⟩))|(go_at_call 163;(with_reducible refine (gX.calls a1 t107 _ A5.out).mono ?_);rintro e w' ⟨rfl,⟨nd,rfl⟩⟩;(try exact ⟨rfl,_,zN⟩))|(go_at_call 164;(with_reducible refine (dR.calls k (IntKind.u64.wrap (Int.tdiv qM t107)) false anW _ A11.out).mono ?_);rintro e w' ⟨rfl,⟨nd,rfl⟩⟩;(try exact ⟨rfl,_,zN⟩))))
    go_ret;exact ⟨zT,zW⟩
def jO.f (a0 a1 a2 a3:Int):Option (Bool):=if a0>=0 then (if a0 < 3 then (if a1>=1 then (if a1<=65536 then (if a2>=1 then (if a2<=65536 then (if a3>=0 then (some (decide (a3 < a2))) else (some false)) else (some false)) else (some false)) else (some false)) else (some false)) else (some false)) else (some false)
theorem jO.calls (a0 a1 a2 a3:Int) (r:Bool) (w:World) (h:jO.f a0 a1 a2 a3=some r) :
  Calls Tryz.prog 151 #[.int .i64 a0,.int .i64 a1,.int .i64 a2,.int .i64 a3] w fun e w'=>e = .returned (.bool r)/\dA w w':=by
 have H:=h;clear h;unfold jO.f at H;by_cases c5:a0>=0
 ·rw [if_pos c5] at H;have gJ:=decide_eq_true c5;clear c5;by_cases c6:a0 < 3
  ·rw [if_pos c6] at H;have gI:=decide_eq_true c6;clear c6;by_cases c7:a1>=1
   ·rw [if_pos c7] at H;have jw:=decide_eq_true c7;clear c7;by_cases c8:a1<=65536
    ·rw [if_pos c8] at H;have qj:=decide_eq_true c8;clear c8;by_cases c9:a2>=1
     ·rw [if_pos c9] at H;have o8:=decide_eq_true c9;clear c9;by_cases c10:a2<=65536
      ·rw [if_pos c10] at H;have l9:=decide_eq_true c10;clear c10;by_cases c11:a3>=0
       ·rw [if_pos c11] at H;have jy:=decide_eq_true c11;clear c11;obtain rfl:=Option.some.inj H;go_enter Tryz.func151,Tryz.ntmps151;go_wp2;go_ret;exact ⟨zT,zW⟩
       ·rw [if_neg c11] at H;have jy:=decide_eq_false c11;clear c11;obtain rfl:=Option.some.inj H;go_enter Tryz.func151,Tryz.ntmps151;go_wp2;go_ret;exact ⟨zT,zW⟩
      ·rw [if_neg c10] at H;have l9:=decide_eq_false c10;clear c10;obtain rfl:=Option.some.inj H;go_enter Tryz.func151,Tryz.ntmps151;go_wp2;go_ret;exact ⟨zT,zW⟩
     ·rw [if_neg c9] at H;have o8:=decide_eq_false c9;clear c9;obtain rfl:=Option.some.inj H;go_enter Tryz.func151,Tryz.ntmps151;go_wp2;go_ret;exact ⟨zT,zW⟩
    ·rw [if_neg c8] at H;have qj:=decide_eq_false c8;clear c8;obtain rfl:=Option.some.inj H;go_enter Tryz.func151,Tryz.ntmps151;go_wp2;go_ret;exact ⟨zT,zW⟩
   ·rw [if_neg c7] at H;have jw:=decide_eq_false c7;clear c7;obtain rfl:=Option.some.inj H;go_enter Tryz.func151,Tryz.ntmps151;go_wp2;go_ret;exact ⟨zT,zW⟩
  ·rw [if_neg c6] at H;have gI:=decide_eq_false c6;clear c6;obtain rfl:=Option.some.inj H;go_enter Tryz.func151,Tryz.ntmps151;go_wp2;go_ret;exact ⟨zT,zW⟩
 ·rw [if_neg c5] at H;have gJ:=decide_eq_false c5;clear c5;obtain rfl:=Option.some.inj H;go_enter Tryz.func151,Tryz.ntmps151;go_wp2;go_ret;exact ⟨zT,zW⟩
def iK.f (k:Nat) (a0 a1:Int):Option (Int):=(dF.f k (wrap64 (-a0)) a1).bind fun atT=>(some (wrap64 (-atT)))
theorem iK.mono:∀ a0 a1 k,LeO (iK.f k a0 a1) (iK.f (k+1) a0 a1):=by
 intro a0 a1 k;unfold iK.f;repeat' (with_reducible first|exact dF.mono _ _ _|exact zM|refine LeO.ite ?_ ?_|refine LeO.bind ?_ (fun _ => ?_))
theorem iK.calls (k:Nat) (a0 a1 r:Int) (w:World) (h:iK.f k a0 a1=some r) :
  Calls Tryz.prog 152 #[.int .i64 a0,.int .i64 a1] w fun e w'=>e = .returned (.int .i64 r)/\dA w w':=by
 have H:=h;clear h;unfold iK.f at H;replace H:=zO H;obtain ⟨atT,A3,H⟩:=H;try dsimp only at H
 obtain rfl:=Option.some.inj H;go_enter Tryz.func152,Tryz.ntmps152;go_wp2_with (first|((with_reducible refine ay (f:=133) rfl ?_);refine aH (some 8) rfl rfl Tryz.func133 (by kernel_rfl) rfl #[.int .i64 (wrap64 (-a0)),.int .i64 a1] rfl zL ?_;(with_reducible refine (dF.calls k (wrap64 (-a0)) a1 atT _ A3.out).mono ?_);rintro e w' ⟨rfl,⟨nd,rfl⟩⟩;refine ⟨_,rfl,?_⟩));go_ret;exact ⟨zT,zW⟩
def kN.f (k:Nat) (a1 a2 a3:Int):Option (Int × Int):=(jO.f 1 a1 a2 a3).bind fun atU=>(if atU=true then ((dF.f k (wrap64 (a3*a1)) a2).bind fun aqP=>((iK.f k (wrap64 ((wrap64 (a3+1))*a1)) a2).bind fun aqQ=>((dF.f k (wrap64 ((wrap64 ((wrap64 ((wrap64 ((wrap64 (2*a3))+1))*a1)) - a2)) - (wrap64 (4*(mx a1 a2))))) (wrap64 (2*a2))).bind fun afp=>((iK.f k (wrap64 ((wrap64 ((wrap64 ((wrap64 ((wrap64 (2*a3))+1))*a1)) - a2))+(wrap64 (4*(mx a1 a2))))) (wrap64 (2*a2))).bind fun t116=>(some (wrap64 (afp+1),wrap64 (t116 - (wrap64 (afp+1))))))))) else (some (0,0)))
theorem kN.mono:∀ a1 a2 a3 k,LeO (kN.f k a1 a2 a3) (kN.f (k+1) a1 a2 a3):=by
 intro a1 a2 a3 k;unfold kN.f;repeat' (with_reducible first|exact dF.mono _ _ _|exact iK.mono _ _ _|exact zM|refine LeO.ite ?_ ?_|refine LeO.bind ?_ (fun _ => ?_))
theorem kN.calls (k:Nat) (a1 a2 a3 r1 r2:Int) (w:World) (hG:GL w) (h:kN.f k a1 a2 a3=some (r1,r2)) :
  Calls Tryz.prog 128 #[.int .i64 1,.int .i64 a1,.int .i64 a2,.int .i64 a3] w fun e w'=>e = .returned (.tuple #[.int .i64 r1,.int .i64 r2])/\Below w.heap.size w w':=by
 have HB:=aj.mk (Below.refl w.heap.size w);have H:=h;clear h;unfold kN.f at H;obtain ⟨⟨acN,acO,acP,acQ,acR,acS⟩,⟨acT,acU,acV,acW,acX,acY,acZ⟩⟩:=hG;replace H:=zO H;obtain ⟨atU,A5,H⟩:=H;try dsimp only at H
 by_cases c6:atU=true
 ·subst c6;rw [if_pos rfl] at H;(try dsimp only at H);replace H:=zO H;obtain ⟨aqP,A7,H⟩:=H;try dsimp only at H
  replace H:=zO H;obtain ⟨aqQ,A8,H⟩:=H;try dsimp only at H
  obtain ⟨ji9,oO⟩:∃ j_:Int,(mx a1 a2)=j_:=⟨_,rfl⟩;replace H:((dF.f k (wrap64 ((wrap64 ((wrap64 ((wrap64 ((wrap64 (2*a3))+1))*a1)) - a2)) - (wrap64 (4*(ji9))))) (wrap64 (2*a2))).bind fun afp=>((iK.f k (wrap64 ((wrap64 ((wrap64 ((wrap64 ((wrap64 (2*a3))+1))*a1)) - a2))+(wrap64 (4*(ji9))))) (wrap64 (2*a2))).bind fun t116=>(some (wrap64 (afp+1),wrap64 (t116 - (wrap64 (afp+1)))))))=some (r1,r2):=by first|(rw [oO] at H;exact H)|(simp only [oO] at H ⊢;exact H)
  (try rw [oO] at A5)
  (try rw [oO] at A7)
  (try rw [oO] at A8)
  have aqR:(if a1 < a2 then a2 else a1)=ji9:=oO;replace H:=zO H;obtain ⟨afp,A10,H⟩:=H;try dsimp only at H
  replace H:=zO H;obtain ⟨t116,A11,H⟩:=H;try dsimp only at H
  simp only [Option.some.injEq,Prod.mk.injEq] at H;obtain ⟨rfl,rfl⟩:=H;go_enter Tryz.func128,Tryz.ntmps128;go_wp2_with (first|(go_at_call 151;(with_reducible refine (jO.calls 1 a1 a2 a3 true _ A5.out).mono ?_);rintro e w' ⟨rfl,⟨nd,rfl⟩⟩;(try exact ⟨rfl,_,zN⟩))|(go_at_call 133;(with_reducible refine (dF.calls k (wrap64 (a3*a1)) a2 aqP _ A7.out).mono ?_);rintro e w' ⟨rfl,⟨nd,rfl⟩⟩;(try exact ⟨rfl,_,zN⟩))|(go_at_call 152;(with_reducible refine (iK.calls k (wrap64 ((wrap64 (a3+1))*a1)) a2 aqQ _ A8.out).mono ?_);rintro e w' ⟨rfl,⟨nd,rfl⟩⟩;(try exact ⟨rfl,_,zN⟩))|(go_at_call 133;(with_reducible refine (dF.calls k (wrap64 ((wrap64 ((wrap64 ((wrap64 ((wrap64 (2*a3))+1))*a1)) - a2)) - (wrap64 (4*(ji9))))) (wrap64 (2*a2)) afp _ A10.out).mono ?_);rintro e w' ⟨rfl,⟨nd,rfl⟩⟩;(try exact ⟨rfl,_,zN⟩))|(go_at_call 152;(with_reducible refine (iK.calls k (wrap64 ((wrap64 ((wrap64 ((wrap64 ((wrap64 (2*a3))+1))*a1)) - a2))+(wrap64 (4*(ji9))))) (wrap64 (2*a2)) t116 _ A11.out).mono ?_);rintro e w' ⟨rfl,⟨nd,rfl⟩⟩;(try exact ⟨rfl,_,zN⟩)));repeat (go_quiet (first|(go_at_call 151;(with_reducible refine (jO.calls 1 a1 a2 a3 true _ A5.out).mono ?_);rintro e w' ⟨rfl,⟨nd,rfl⟩⟩;(try exact ⟨rfl,_,zN⟩))|(go_at_call 133;(with_reducible refine (dF.calls k (wrap64 (a3*a1)) a2 aqP _ A7.out).mono ?_);rintro e w' ⟨rfl,⟨nd,rfl⟩⟩;(try exact ⟨rfl,_,zN⟩))|(go_at_call 152;(with_reducible refine (iK.calls k (wrap64 ((wrap64 (a3+1))*a1)) a2 aqQ _ A8.out).mono ?_);rintro e w' ⟨rfl,⟨nd,rfl⟩⟩;(try exact ⟨rfl,_,zN⟩))|(go_at_call 133;(with_reducible refine (dF.calls k (wrap64 ((wrap64 ((wrap64 ((wrap64 ((wrap64 (2*a3))+1))*a1)) - a2)) - (wrap64 (4*(ji9))))) (wrap64 (2*a2)) afp _ A10.out).mono ?_);rintro e w' ⟨rfl,⟨nd,rfl⟩⟩;(try exact ⟨rfl,_,zN⟩))|(go_at_call 152;(with_reducible refine (iK.calls k (wrap64 ((wrap64 ((wrap64 ((wrap64 ((wrap64 (2*a3))+1))*a1)) - a2))+(wrap64 (4*(ji9))))) (wrap64 (2*a2)) t116 _ A11.out).mono ?_);rintro e w' ⟨rfl,⟨nd,rfl⟩⟩;(try exact ⟨rfl,_,zN⟩)));try go_wp2_with (first|(go_at_call 151;(with_reducible refine (jO.calls 1 a1 a2 a3 true _ A5.out).mono ?_);rintro e w' ⟨rfl,⟨nd,rfl⟩⟩;(try exact ⟨rfl,_,zN⟩))|(go_at_call 133;(with_reducible refine (dF.calls k (wrap64 (a3*a1)) a2 aqP _ A7.out).mono ?_);rintro e w' ⟨rfl,⟨nd,rfl⟩⟩;(try exact ⟨rfl,_,zN⟩))|(go_at_call 152;(with_reducible refine (iK.calls k (wrap64 ((wrap64 (a3+1))*a1)) a2 aqQ _ A8.out).mono ?_);rintro e w' ⟨rfl,⟨nd,rfl⟩⟩;(try exact ⟨rfl,_,zN⟩))|(go_at_call 133;(with_reducible refine (dF.calls k (wrap64 ((wrap64 ((wrap64 ((wrap64 ((wrap64 (2*a3))+1))*a1)) - a2)) - (wrap64 (4*(ji9))))) (wrap64 (2*a2)) afp _ A10.out).mono ?_);rintro e w' ⟨rfl,⟨nd,rfl⟩⟩;(try exact ⟨rfl,_,zN⟩))|(go_at_call 152;(with_reducible refine (iK.calls k (wrap64 ((wrap64 ((wrap64 ((wrap64 ((wrap64 (2*a3))+1))*a1)) - a2))+(wrap64 (4*(ji9))))) (wrap64 (2*a2)) t116 _ A11.out).mono ?_);rintro e w' ⟨rfl,⟨nd,rfl⟩⟩;(try exact ⟨rfl,_,zN⟩))))
  go_ret2;exact ⟨by first|rfl|(simp [bJ,bK] <;> rfl)|(simp only [<- oO];first|rfl|(simp [bJ,bK] <;> rfl))|(simp [*,bJ,bK] <;> rfl),zB⟩
 ·replace c6:=Bool.eq_false_iff.mpr c6;subst c6;rw [if_neg (show ¬ (false=true) by decide)] at H;(try dsimp only at H);simp only [Option.some.injEq,Prod.mk.injEq] at H;obtain ⟨rfl,rfl⟩:=H;go_enter Tryz.func128,Tryz.ntmps128;go_wp2_with (first|(go_at_call 151;(with_reducible refine (jO.calls 1 a1 a2 a3 false _ A5.out).mono ?_);rintro e w' ⟨rfl,⟨nd,rfl⟩⟩;(try exact ⟨rfl,_,zN⟩)));repeat (go_quiet (first|(go_at_call 151;(with_reducible refine (jO.calls 1 a1 a2 a3 false _ A5.out).mono ?_);rintro e w' ⟨rfl,⟨nd,rfl⟩⟩;(try exact ⟨rfl,_,zN⟩)));try go_wp2_with (first|(go_at_call 151;(with_reducible refine (jO.calls 1 a1 a2 a3 false _ A5.out).mono ?_);rintro e w' ⟨rfl,⟨nd,rfl⟩⟩;(try exact ⟨rfl,_,zN⟩))))
  go_ret2;exact ⟨zS,zB⟩
def kP.f (k:Nat) (a1 a2 a3:Int):Option (Int × Int):=(jO.f 2 a1 a2 a3).bind fun t117=>(if t117=true then ((dF.f k (wrap64 (a3*a1)) a2).bind fun aqS=>((iK.f k (wrap64 ((wrap64 (a3+1))*a1)) a2).bind fun t119=>((dF.f k (wrap64 ((wrap64 ((wrap64 ((wrap64 ((wrap64 (2*a3))+1))*a1)) - a2)) - (wrap64 (6*(mx a1 a2))))) (wrap64 (2*a2))).bind fun afq=>((iK.f k (wrap64 ((wrap64 ((wrap64 ((wrap64 ((wrap64 (2*a3))+1))*a1)) - a2))+(wrap64 (6*(mx a1 a2))))) (wrap64 (2*a2))).bind fun aiE=>(some (wrap64 (afq+1),wrap64 (aiE - (wrap64 (afq+1))))))))) else (some (0,0)))
theorem kP.mono:∀ a1 a2 a3 k,LeO (kP.f k a1 a2 a3) (kP.f (k+1) a1 a2 a3):=by
 intro a1 a2 a3 k;unfold kP.f;repeat' (with_reducible first|exact dF.mono _ _ _|exact iK.mono _ _ _|exact zM|refine LeO.ite ?_ ?_|refine LeO.bind ?_ (fun _ => ?_))
theorem kP.calls (k:Nat) (a1 a2 a3 r1 r2:Int) (w:World) (hG:GL w) (h:kP.f k a1 a2 a3=some (r1,r2)) :
  Calls Tryz.prog 128 #[.int .i64 2,.int .i64 a1,.int .i64 a2,.int .i64 a3] w fun e w'=>e = .returned (.tuple #[.int .i64 r1,.int .i64 r2])/\Below w.heap.size w w':=by
 have HB:=aj.mk (Below.refl w.heap.size w);have H:=h;clear h;unfold kP.f at H;obtain ⟨⟨acN,acO,acP,acQ,acR,acS⟩,⟨acT,acU,acV,acW,acX,acY,acZ⟩⟩:=hG;replace H:=zO H;obtain ⟨t117,A5,H⟩:=H;try dsimp only at H
 by_cases c6:t117=true
 ·subst c6;rw [if_pos rfl] at H;(try dsimp only at H);replace H:=zO H;obtain ⟨aqS,A7,H⟩:=H;try dsimp only at H
  replace H:=zO H;obtain ⟨t119,A8,H⟩:=H;try dsimp only at H
  obtain ⟨ji9,oO⟩:∃ j_:Int,(mx a1 a2)=j_:=⟨_,rfl⟩;replace H:((dF.f k (wrap64 ((wrap64 ((wrap64 ((wrap64 ((wrap64 (2*a3))+1))*a1)) - a2)) - (wrap64 (6*(ji9))))) (wrap64 (2*a2))).bind fun afq=>((iK.f k (wrap64 ((wrap64 ((wrap64 ((wrap64 ((wrap64 (2*a3))+1))*a1)) - a2))+(wrap64 (6*(ji9))))) (wrap64 (2*a2))).bind fun aiE=>(some (wrap64 (afq+1),wrap64 (aiE - (wrap64 (afq+1)))))))=some (r1,r2):=by first|(rw [oO] at H;exact H)|(simp only [oO] at H ⊢;exact H)
  (try rw [oO] at A5)
  (try rw [oO] at A7)
  (try rw [oO] at A8)
  have aqR:(if a1 < a2 then a2 else a1)=ji9:=oO;replace H:=zO H;obtain ⟨afq,A10,H⟩:=H;try dsimp only at H
  replace H:=zO H;obtain ⟨aiE,A11,H⟩:=H;try dsimp only at H
  simp only [Option.some.injEq,Prod.mk.injEq] at H;obtain ⟨rfl,rfl⟩:=H;go_enter Tryz.func128,Tryz.ntmps128;go_wp2_with (first|(go_at_call 151;(with_reducible refine (jO.calls 2 a1 a2 a3 true _ A5.out).mono ?_);rintro e w' ⟨rfl,⟨nd,rfl⟩⟩;(try exact ⟨rfl,_,zN⟩))|(go_at_call 133;(with_reducible refine (dF.calls k (wrap64 (a3*a1)) a2 aqS _ A7.out).mono ?_);rintro e w' ⟨rfl,⟨nd,rfl⟩⟩;(try exact ⟨rfl,_,zN⟩))|(go_at_call 152;(with_reducible refine (iK.calls k (wrap64 ((wrap64 (a3+1))*a1)) a2 t119 _ A8.out).mono ?_);rintro e w' ⟨rfl,⟨nd,rfl⟩⟩;(try exact ⟨rfl,_,zN⟩))|(go_at_call 133;(with_reducible refine (dF.calls k (wrap64 ((wrap64 ((wrap64 ((wrap64 ((wrap64 (2*a3))+1))*a1)) - a2)) - (wrap64 (6*(ji9))))) (wrap64 (2*a2)) afq _ A10.out).mono ?_);rintro e w' ⟨rfl,⟨nd,rfl⟩⟩;(try exact ⟨rfl,_,zN⟩))|(go_at_call 152;(with_reducible refine (iK.calls k (wrap64 ((wrap64 ((wrap64 ((wrap64 ((wrap64 (2*a3))+1))*a1)) - a2))+(wrap64 (6*(ji9))))) (wrap64 (2*a2)) aiE _ A11.out).mono ?_);rintro e w' ⟨rfl,⟨nd,rfl⟩⟩;(try exact ⟨rfl,_,zN⟩)));repeat (go_quiet (first|(go_at_call 151;(with_reducible refine (jO.calls 2 a1 a2 a3 true _ A5.out).mono ?_);rintro e w' ⟨rfl,⟨nd,rfl⟩⟩;(try exact ⟨rfl,_,zN⟩))|(go_at_call 133;(with_reducible refine (dF.calls k (wrap64 (a3*a1)) a2 aqS _ A7.out).mono ?_);rintro e w' ⟨rfl,⟨nd,rfl⟩⟩;(try exact ⟨rfl,_,zN⟩))|(go_at_call 152;(with_reducible refine (iK.calls k (wrap64 ((wrap64 (a3+1))*a1)) a2 t119 _ A8.out).mono ?_);rintro e w' ⟨rfl,⟨nd,rfl⟩⟩;(try exact ⟨rfl,_,zN⟩))|(go_at_call 133;(with_reducible refine (dF.calls k (wrap64 ((wrap64 ((wrap64 ((wrap64 ((wrap64 (2*a3))+1))*a1)) - a2)) - (wrap64 (6*(ji9))))) (wrap64 (2*a2)) afq _ A10.out).mono ?_);rintro e w' ⟨rfl,⟨nd,rfl⟩⟩;(try exact ⟨rfl,_,zN⟩))|(go_at_call 152;(with_reducible refine (iK.calls k (wrap64 ((wrap64 ((wrap64 ((wrap64 ((wrap64 (2*a3))+1))*a1)) - a2))+(wrap64 (6*(ji9))))) (wrap64 (2*a2)) aiE _ A11.out).mono ?_);rintro e w' ⟨rfl,⟨nd,rfl⟩⟩;(try exact ⟨rfl,_,zN⟩)));try go_wp2_with (first|(go_at_call 151;(with_reducible refine (jO.calls 2 a1 a2 a3 true _ A5.out).mono ?_);rintro e w' ⟨rfl,⟨nd,rfl⟩⟩;(try exact ⟨rfl,_,zN⟩))|(go_at_call 133;(with_reducible refine (dF.calls k (wrap64 (a3*a1)) a2 aqS _ A7.out).mono ?_);rintro e w' ⟨rfl,⟨nd,rfl⟩⟩;(try exact ⟨rfl,_,zN⟩))|(go_at_call 152;(with_reducible refine (iK.calls k (wrap64 ((wrap64 (a3+1))*a1)) a2 t119 _ A8.out).mono ?_);rintro e w' ⟨rfl,⟨nd,rfl⟩⟩;(try exact ⟨rfl,_,zN⟩))|(go_at_call 133;(with_reducible refine (dF.calls k (wrap64 ((wrap64 ((wrap64 ((wrap64 ((wrap64 (2*a3))+1))*a1)) - a2)) - (wrap64 (6*(ji9))))) (wrap64 (2*a2)) afq _ A10.out).mono ?_);rintro e w' ⟨rfl,⟨nd,rfl⟩⟩;(try exact ⟨rfl,_,zN⟩))|(go_at_call 152;(with_reducible refine (iK.calls k (wrap64 ((wrap64 ((wrap64 ((wrap64 ((wrap64 (2*a3))+1))*a1)) - a2))+(wrap64 (6*(ji9))))) (wrap64 (2*a2)) aiE _ A11.out).mono ?_);rintro e w' ⟨rfl,⟨nd,rfl⟩⟩;(try exact ⟨rfl,_,zN⟩))))
  go_ret2;exact ⟨by first|rfl|(simp [bJ,bK] <;> rfl)|(simp only [<- oO];first|rfl|(simp [bJ,bK] <;> rfl))|(simp [*,bJ,bK] <;> rfl),zB⟩
 ·replace c6:=Bool.eq_false_iff.mpr c6;subst c6;rw [if_neg (show ¬ (false=true) by decide)] at H;(try dsimp only at H);simp only [Option.some.injEq,Prod.mk.injEq] at H;obtain ⟨rfl,rfl⟩:=H;go_enter Tryz.func128,Tryz.ntmps128;go_wp2_with (first|(go_at_call 151;(with_reducible refine (jO.calls 2 a1 a2 a3 false _ A5.out).mono ?_);rintro e w' ⟨rfl,⟨nd,rfl⟩⟩;(try exact ⟨rfl,_,zN⟩)));repeat (go_quiet (first|(go_at_call 151;(with_reducible refine (jO.calls 2 a1 a2 a3 false _ A5.out).mono ?_);rintro e w' ⟨rfl,⟨nd,rfl⟩⟩;(try exact ⟨rfl,_,zN⟩)));try go_wp2_with (first|(go_at_call 151;(with_reducible refine (jO.calls 2 a1 a2 a3 false _ A5.out).mono ?_);rintro e w' ⟨rfl,⟨nd,rfl⟩⟩;(try exact ⟨rfl,_,zN⟩))))
  go_ret2;exact ⟨zS,zB⟩
def kQ.f (k:Nat) (a0 a1 a2 a3:Int):Option (Int × Int):=(jO.f a0 a1 a2 a3).bind fun atW=>(if atW=true then ((dF.f k (wrap64 (a3*a1)) a2).bind fun ak6=>((iK.f k (wrap64 ((wrap64 (a3+1))*a1)) a2).bind fun t124=>(if a0=0 then (some (ak6,wrap64 (t124 - ak6))) else (none)))) else (some (0,0)))
theorem kQ.mono:∀ a0 a1 a2 a3 k,LeO (kQ.f k a0 a1 a2 a3) (kQ.f (k+1) a0 a1 a2 a3):=by
 intro a0 a1 a2 a3 k;unfold kQ.f;repeat' (with_reducible first|exact dF.mono _ _ _|exact iK.mono _ _ _|exact zM|refine LeO.ite ?_ ?_|refine LeO.bind ?_ (fun _ => ?_))
theorem kQ.calls (k:Nat) (a0 a1 a2 a3 r1 r2:Int) (w:World) (hG:GL w) (h:kQ.f k a0 a1 a2 a3=some (r1,r2)) :
  Calls Tryz.prog 128 #[.int .i64 a0,.int .i64 a1,.int .i64 a2,.int .i64 a3] w fun e w'=>e = .returned (.tuple #[.int .i64 r1,.int .i64 r2])/\Below w.heap.size w w':=by
 have HB:=aj.mk (Below.refl w.heap.size w);have H:=h;clear h;unfold kQ.f at H;obtain ⟨⟨acN,acO,acP,acQ,acR,acS⟩,⟨acT,acU,acV,acW,acX,acY,acZ⟩⟩:=hG;replace H:=zO H;obtain ⟨atW,A5,H⟩:=H;try dsimp only at H
 by_cases c6:atW=true
 ·subst c6;rw [if_pos rfl] at H;(try dsimp only at H);replace H:=zO H;obtain ⟨ak6,A7,H⟩:=H;try dsimp only at H
  replace H:=zO H;obtain ⟨t124,A8,H⟩:=H;try dsimp only at H
  by_cases c9:a0=0
  ·rw [if_pos c9] at H;have o8:(a0 == 0)=true:=beq_iff_eq.mpr c9;have adG:(a0 != 0)=false:=bne_eq_false_iff_eq.mpr c9;clear c9;simp only [Option.some.injEq,Prod.mk.injEq] at H;obtain ⟨rfl,rfl⟩:=H;go_enter Tryz.func128,Tryz.ntmps128;go_wp2_with (first|(go_at_call 151;(with_reducible refine (jO.calls a0 a1 a2 a3 true _ A5.out).mono ?_);rintro e w' ⟨rfl,⟨nd,rfl⟩⟩;(try exact ⟨rfl,_,zN⟩))|(go_at_call 133;(with_reducible refine (dF.calls k (wrap64 (a3*a1)) a2 ak6 _ A7.out).mono ?_);rintro e w' ⟨rfl,⟨nd,rfl⟩⟩;(try exact ⟨rfl,_,zN⟩))|(go_at_call 152;(with_reducible refine (iK.calls k (wrap64 ((wrap64 (a3+1))*a1)) a2 t124 _ A8.out).mono ?_);rintro e w' ⟨rfl,⟨nd,rfl⟩⟩;(try exact ⟨rfl,_,zN⟩)));repeat (go_quiet (first|(go_at_call 151;(with_reducible refine (jO.calls a0 a1 a2 a3 true _ A5.out).mono ?_);rintro e w' ⟨rfl,⟨nd,rfl⟩⟩;(try exact ⟨rfl,_,zN⟩))|(go_at_call 133;(with_reducible refine (dF.calls k (wrap64 (a3*a1)) a2 ak6 _ A7.out).mono ?_);rintro e w' ⟨rfl,⟨nd,rfl⟩⟩;(try exact ⟨rfl,_,zN⟩))|(go_at_call 152;(with_reducible refine (iK.calls k (wrap64 ((wrap64 (a3+1))*a1)) a2 t124 _ A8.out).mono ?_);rintro e w' ⟨rfl,⟨nd,rfl⟩⟩;(try exact ⟨rfl,_,zN⟩)));try go_wp2_with (first|(go_at_call 151;(with_reducible refine (jO.calls a0 a1 a2 a3 true _ A5.out).mono ?_);rintro e w' ⟨rfl,⟨nd,rfl⟩⟩;(try exact ⟨rfl,_,zN⟩))|(go_at_call 133;(with_reducible refine (dF.calls k (wrap64 (a3*a1)) a2 ak6 _ A7.out).mono ?_);rintro e w' ⟨rfl,⟨nd,rfl⟩⟩;(try exact ⟨rfl,_,zN⟩))|(go_at_call 152;(with_reducible refine (iK.calls k (wrap64 ((wrap64 (a3+1))*a1)) a2 t124 _ A8.out).mono ?_);rintro e w' ⟨rfl,⟨nd,rfl⟩⟩;(try exact ⟨rfl,_,zN⟩))))
   go_ret2;exact ⟨zS,zB⟩
  ·rw [if_neg c9] at H;exact absurd H (by simp)
 ·replace c6:=Bool.eq_false_iff.mpr c6;subst c6;rw [if_neg (show ¬ (false=true) by decide)] at H;(try dsimp only at H);simp only [Option.some.injEq,Prod.mk.injEq] at H;obtain ⟨rfl,rfl⟩:=H;go_enter Tryz.func128,Tryz.ntmps128;go_wp2_with (first|(go_at_call 151;(with_reducible refine (jO.calls a0 a1 a2 a3 false _ A5.out).mono ?_);rintro e w' ⟨rfl,⟨nd,rfl⟩⟩;(try exact ⟨rfl,_,zN⟩)));repeat (go_quiet (first|(go_at_call 151;(with_reducible refine (jO.calls a0 a1 a2 a3 false _ A5.out).mono ?_);rintro e w' ⟨rfl,⟨nd,rfl⟩⟩;(try exact ⟨rfl,_,zN⟩)));try go_wp2_with (first|(go_at_call 151;(with_reducible refine (jO.calls a0 a1 a2 a3 false _ A5.out).mono ?_);rintro e w' ⟨rfl,⟨nd,rfl⟩⟩;(try exact ⟨rfl,_,zN⟩))))
  go_ret2;exact ⟨zS,zB⟩
def mO.f (k:Nat) (a0 a1 a2 a3:Int):Option (Int × Int):=if a0=1 then kN.f k a1 a2 a3 else if a0=2 then kP.f k a1 a2 a3 else kQ.f k a0 a1 a2 a3
theorem mO.mono:∀ a0 a1 a2 a3 k,LeO (mO.f k a0 a1 a2 a3) (mO.f (k+1) a0 a1 a2 a3):=by
 intro a0 a1 a2 a3 k;unfold mO.f;exact LeO.ite (kN.mono _ _ _ _) (LeO.ite (kP.mono _ _ _ _) (kQ.mono _ _ _ _ _))
theorem mO.calls (k:Nat) (a0 a1 a2 a3 r1 r2:Int) (w:World) (hG:GL w) (h:mO.f k a0 a1 a2 a3=some (r1,r2)) :
  Calls Tryz.prog 128 #[.int .i64 a0,.int .i64 a1,.int .i64 a2,.int .i64 a3] w fun e w'=>e = .returned (.tuple #[.int .i64 r1,.int .i64 r2])/\Below w.heap.size w w':=by
 unfold mO.f at h;by_cases c1:a0=1
 ·subst c1;exact kN.calls k a1 a2 a3 r1 r2 w hG (by rw [if_pos rfl] at h;exact h)
 ·rw [if_neg c1] at h;by_cases c2:a0=2
  ·subst c2;exact kP.calls k a1 a2 a3 r1 r2 w hG (by rw [if_pos rfl] at h;exact h)
  ·rw [if_neg c2] at h;exact kQ.calls k a0 a1 a2 a3 r1 r2 w hG h
def pG.f (a0:Int):Option (Int):=if a0 < 0 then (some (IntKind.u64.wrap (-(IntKind.u64.wrap (a0))))) else (some (IntKind.u64.wrap (a0)))
theorem pG.calls (a0 r:Int) (w:World) (h:pG.f a0=some r) :
  Calls Tryz.prog 155 #[.int .i64 a0] w fun e w'=>e = .returned (.int .u64 r)/\dA w w':=by
 have H:=h;clear h;unfold pG.f at H;by_cases c2:a0 < 0
 ·rw [if_pos c2] at H;have oM:=decide_eq_true c2;clear c2;obtain rfl:=Option.some.inj H;go_enter Tryz.func155,Tryz.ntmps155;go_wp2;go_ret;exact ⟨zT,zW⟩
 ·rw [if_neg c2] at H;have oM:=decide_eq_false c2;clear c2;obtain rfl:=Option.some.inj H;go_enter Tryz.func155,Tryz.ntmps155;go_wp2;go_ret;exact ⟨zT,zW⟩
def bits_Mul64.f (a0 a1:Int):Option (Int × Int):=if 0<=a0/\a0 < 18446744073709551616/\0<=a1/\a1 < 18446744073709551616 then some (a0*a1 / 18446744073709551616,a0*a1 % 18446744073709551616) else none
theorem bits_Mul64.calls (a0 a1 r1 r2:Int) (w:World) (h:bits_Mul64.f a0 a1=some (r1,r2)) :
  Calls Tryz.prog 178 #[.int .u64 a0,.int .u64 a1] w fun e w'=>e = .returned (.tuple #[.int .u64 r1,.int .u64 r2])/\dA w w':=by
 unfold bits_Mul64.f at h;by_cases c:0<=a0/\a0 < 18446744073709551616/\0<=a1/\a1 < 18446744073709551616
 ·rw [if_pos c] at h;obtain ⟨h0,h1,h2,h3⟩:=c;obtain ⟨rfl,rfl⟩:=Prod.mk.inj (Option.some.inj h);obtain ⟨x,rfl⟩:=Int.eq_ofNat_of_zero_le h0;obtain ⟨y,rfl⟩:=Int.eq_ofNat_of_zero_le h2;exact (Tryz.bits_Mul64 x y (by omega) (by omega) w).mono fun e w' ⟨he,hw⟩=>⟨by rw [he];congr 4,by rw [hw];exact dA.refl _⟩
 ·rw [if_neg c] at h;exact absurd h (by simp)
def lQ.f (a0 a1:Int):Option (Int × Int × Bool):=(pG.f a0).bind fun anX=>((pG.f a1).bind fun anY=>((bits_Mul64.f anX anY).bind fun awI=>(some (awI.1,awI.2,((decide (a0 < 0)) != (decide (a1 < 0)))))))
theorem lQ.calls (a0 a1 r1 r2:Int) (r3:Bool) (w:World) (h:lQ.f a0 a1=some (r1,r2,r3)) :
  Calls Tryz.prog 154 #[.int .i64 a0,.int .i64 a1] w fun e w'=>e = .returned (.tuple #[.int .u64 r1,.int .u64 r2,.bool r3])/\dA w w':=by
 have H:=h;clear h;unfold lQ.f at H;replace H:=zO H;obtain ⟨anX,A3,H⟩:=H;try dsimp only at H
 replace H:=zO H;obtain ⟨anY,A4,H⟩:=H;try dsimp only at H
 replace H:=zO H;obtain ⟨⟨t127,aCT⟩,A5,H⟩:=H;try dsimp only at H
 simp only [Option.some.injEq,Prod.mk.injEq] at H;obtain ⟨rfl,rfl,rfl⟩:=H;go_enter Tryz.func154,Tryz.ntmps154;go_wp2_with (first|((with_reducible refine ay (f:=155) rfl ?_);refine aH (some 9) rfl rfl Tryz.func155 (by kernel_rfl) rfl #[.int .i64 a0] rfl zL ?_;(with_reducible refine (pG.calls a0 anX _ A3.out).mono ?_);rintro e w' ⟨rfl,⟨nd,rfl⟩⟩;refine ⟨_,rfl,?_⟩)|((with_reducible refine ay (f:=155) rfl ?_);refine aH (some 11) rfl rfl Tryz.func155 (by kernel_rfl) rfl #[.int .i64 a1] rfl zL ?_;(with_reducible refine (pG.calls a1 anY _ A4.out).mono ?_);rintro e w' ⟨rfl,⟨nd,rfl⟩⟩;refine ⟨_,rfl,?_⟩)|((with_reducible refine ay (f:=178) rfl ?_);refine aH (some 12) rfl rfl Tryz.func178 (by kernel_rfl) rfl #[.int .u64 anX,.int .u64 anY] rfl zL ?_;(with_reducible refine (bits_Mul64.calls anX anY t127 aCT _ A5.out).mono ?_);rintro e w' ⟨rfl,⟨nd,rfl⟩⟩;refine ⟨_,rfl,?_⟩));go_ret3;exact ⟨zT,zW⟩
def dG.j0:Nat->Int->Int->Bool->Bool->Option (Int)
 | 0,_,_,_,_=>none
 | k+1,x0,x1,x2,x7=>if x7=true then (some (-9223372036854775808)) else (if x2=true then (some (wrap64 (IntKind.u64.wrap (-x1)))) else (if x0 > 0 then (some 9223372036854775807) else (if x1 > 9223372036854775807 then (some 9223372036854775807) else (some (wrap64 (x1))))))
def dG.f (k:Nat) (a0 a1:Int) (a2:Bool):Option (Int):=if a2=true then (if a0 > 0 then (dG.j0 k a0 a1 a2 true) else (dG.j0 k a0 a1 a2 (decide (a1 > 9223372036854775808)))) else (dG.j0 k a0 a1 a2 false)
theorem dG.jH:∀ k,(∀ y0 y1 y2 y3,LeO (dG.j0 k y0 y1 y2 y3) (dG.j0 (k+1) y0 y1 y2 y3))
 | 0=>fun _ _ _ _ r h=>by simp [dG.j0] at h
 | k+1=>by
  have ih0:=dG.jH k
  ·intro y0 y1 y2 y3;unfold dG.j0;repeat' (with_reducible first|exact ih0 _ _ _ _|exact zM|refine LeO.ite ?_ ?_|refine LeO.bind ?_ (fun _ => ?_))
theorem dG.mono:∀ a0 a1 a2 k,LeO (dG.f k a0 a1 a2) (dG.f (k+1) a0 a1 a2):=by
 intro a0 a1 a2 k;have ih0:=dG.jH k;unfold dG.f;repeat' (with_reducible first|exact ih0 _ _ _ _|exact zM|refine LeO.ite ?_ ?_|refine LeO.bind ?_ (fun _ => ?_))
theorem dG.calls (k:Nat) (a0 a1:Int) (a2:Bool) (r:Int) (w:World) (h:dG.f k a0 a1 a2=some r) :
  Calls Tryz.prog 156 #[.int .u64 a0,.int .u64 a1,.bool a2] w fun e w'=>e = .returned (.int .i64 r)/\dA w w':=by
 have H:=h;clear h;unfold dG.f at H;have HC4:=aj.mk H;clear H;go_enter Tryz.func156,Tryz.ntmps156;go_upto_region 1 with (fail);go_cut [7] (fun v7 wc=>∃ (kq:Nat) (vV:Bool),v7 = .bool vV/\aj (dG.j0 kq a0 a1 a2 vV=some r)/\aj (kq<=k)/\dA w wc)
 case first =>
  have H:=HC4.out;clear HC4;by_cases c5:a2=true
  ·subst c5;rw [if_pos rfl] at H;(try dsimp only at H);by_cases c6:a0 > 0
   ·rw [if_pos c6] at H;have gI:=decide_eq_true c6;clear c6
    (first|rw [gI]|(simp only [bP,bU];rw [gI])|skip)
    have H':=aj.mk H;clear H;go_wp2;go_meet
    case rel=>exact ⟨_,(true),zT,H',⟨by first|omega|exact Nat.le_refl _⟩,zW⟩
   ·rw [if_neg c6] at H;have gI:=decide_eq_false c6;clear c6
    (first|rw [gI]|(simp only [bP,bU];rw [gI])|skip)
    have H':=aj.mk H;clear H;go_wp2;go_meet
    case rel=>exact ⟨_,(decide (a1 > 9223372036854775808)),zT,H',⟨by first|omega|exact Nat.le_refl _⟩,zW⟩
  ·replace c5:=Bool.eq_false_iff.mpr c5;subst c5;rw [if_neg (show ¬ (false=true) by decide)] at H;(try dsimp only at H);have H':=aj.mk H;clear H;go_wp2;go_meet
   case rel=>exact ⟨_,(false),zT,H',⟨by first|omega|exact Nat.le_refl _⟩,zW⟩
 case rest =>
  clear HC4;obtain ⟨kq,vV,rfl,HA,HJ3,⟨mc3,rfl⟩⟩:=hcut;cases kq with
  | zero=>exact absurd HA.out (by simp [dG.j0])
  | succ kj3 =>
   have H:=HA.out;clear HA;simp only [dG.j0] at H;by_cases c7:vV=true
   ·subst c7;rw [if_pos rfl] at H;(try dsimp only at H);obtain rfl:=Option.some.inj H;go_wp2;go_ret;exact ⟨zT,zW⟩
   ·replace c7:=Bool.eq_false_iff.mpr c7;subst c7;rw [if_neg (show ¬ (false=true) by decide)] at H;(try dsimp only at H);by_cases c8:a2=true
    ·subst c8;rw [if_pos rfl] at H;(try dsimp only at H);obtain rfl:=Option.some.inj H;go_wp2;go_ret;exact ⟨zT,zW⟩
    ·replace c8:=Bool.eq_false_iff.mpr c8;subst c8;rw [if_neg (show ¬ (false=true) by decide)] at H;(try dsimp only at H);by_cases c9:a0 > 0
     ·rw [if_pos c9] at H;have o8:=decide_eq_true c9;clear c9;obtain rfl:=Option.some.inj H;go_wp2;go_ret;exact ⟨zT,zW⟩
     ·rw [if_neg c9] at H;have o8:=decide_eq_false c9;clear c9;by_cases c10:a1 > 9223372036854775807
      ·rw [if_pos c10] at H;have l9:=decide_eq_true c10;clear c10;obtain rfl:=Option.some.inj H;go_wp2;go_ret;exact ⟨zT,zW⟩
      ·rw [if_neg c10] at H;have l9:=decide_eq_false c10;clear c10;obtain rfl:=Option.some.inj H;go_wp2;go_ret;exact ⟨zT,zW⟩
def bits_LeadingZeros64.f (a0:Int):Option (Int):=if 0<=a0 then (if a0<=18446744073709551615 then (some (64 - (Lib.bitLen a0.toNat:Int))) else (none)) else (none)
theorem bits_LeadingZeros64.calls (a0 r:Int) (w:World) (h:bits_LeadingZeros64.f a0=some r) :
  Calls Tryz.prog 179 #[.int .u64 a0] w fun e w'=>e = .returned (.int .i64 r)/\dA w w':=by
 unfold bits_LeadingZeros64.f at h;by_cases h0:0<=a0
 ·rw [if_pos h0] at h;by_cases h1:a0<=18446744073709551615
  ·rw [if_pos h1] at h;obtain rfl:=Option.some.inj h;exact (Tryz.bits_LeadingZeros64 a0 w h0 h1).mono fun e w' ⟨he,hw⟩=>⟨he,by rw [hw];exact dA.refl _⟩
  ·rw [if_neg h1] at h;exact absurd h (by simp)
 ·rw [if_neg h0] at h;exact absurd h (by simp)
end Go.Proofs.YtpondkggmcmpfaaGreatDoor.QA
