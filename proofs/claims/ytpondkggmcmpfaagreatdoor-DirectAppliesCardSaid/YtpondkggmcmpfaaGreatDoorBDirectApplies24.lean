/- Joined by wip/tools/bundle.py out of: QAx53 TLaid WSized. -/
import Derived.Test.YtpondkggmcmpfaaGreatDoorBDirectApplies15
import Derived.Test.YtpondkggmcmpfaaGreatDoorRows
import Derived.ProofKit
import Derived.OpenShut
import Derived.LaidMore
import Derived.Lay
import Derived.SizedLaws
set_option maxHeartbeats 8000000
set_option maxRecDepth 100000
namespace Go.Proofs.YtpondkggmcmpfaaGreatDoor.QA
open Go.Proofs.YtpondkggmcmpfaaGreatDoor.T
open Go.RowKit Go.Proofs.YtpondkggmcmpfaaGreatDoorW.PrintWords Go.Proofs.YtpondkggmcmpfaaGreatDoorW.PrintLast Go.Proofs.YtpondkggmcmpfaaGreatDoorW.PrintMore
attribute [local go_sem] dV dN dO fA fB
set_option linter.unusedVariables false
set_option linter.unusedSimpArgs false
def jf.l0:Nat->List Int->List Int->Int->Int->Option (Bool)
 | 0,_,_,_,_=>none
 | k+1,x0,x1,x12,x13=>if x13 < x12 then (if 0<=x13 then (if x13 < (x0.length:Int) then (if x13 < (x1.length:Int) then (if (rd x0 x13)=(rd x1 x13) then (jf.l0 k x0 x1 x12 (wrap64 (x13+1))) else (some false)) else (none)) else (none)) else (none)) else (some true)
def jf.f (k:Nat) (l0 l1:List Int):Option (Bool):=if (l0.length:Int)=(l1.length:Int) then (jf.l0 k l0 l1 (l0.length:Int) 0) else (some false)
theorem jf.calls (k:Nat) (A0:Option Addr) (c0:Nat) (l0:List Int) (A1:Option Addr) (c1:Nat) (l1:List Int) (r:Bool) (w:World) (hr0:Kd.C (Kd.int .u16) w A0 l0.length l0) (hc0:l0.length<=c0) (hr1:Kd.C (Kd.int .u16) w A1 l1.length l1) (hc1:l1.length<=c1) (h:jf.f k l0 l1=some r) :
  Calls Tryz.prog 76 #[.slice A0 l0.length c0,.slice A1 l1.length c1] w fun e w'=>e = .returned (.bool r)/\dA w w':=by
 have HR0:=aj.mk hr0;have HC0:=aj.mk hc0;clear hr0 hc0;have HR1:=aj.mk hr1;have HC1:=aj.mk hc1;clear hr1 hc1;have H:=h;clear h;unfold jf.f at H;by_cases c3:(l0.length:Int)=(l1.length:Int)
 ·rw [if_pos c3] at H;have fU:((l0.length:Int) == (l1.length:Int))=true:=beq_iff_eq.mpr c3;have wO:((l0.length:Int) != (l1.length:Int))=false:=bne_eq_false_iff_eq.mpr c3;have avW:(l0.length == l1.length)=true:=(by first|simpa using c3|(simp at c3 ⊢;omega));clear c3;have H':=aj.mk H;clear H;go_enter Tryz.func76,Tryz.ntmps76;go_wp2;repeat (go_quiet (fail);try go_wp2)
  go_loopg [13] k (fun kq v13 w'=>∃ (iw:Int),v13 = .int .i64 iw/\aj (jf.l0 kq l0 l1 (l0.length:Int) iw=some r)/\aj (kq<=k)/\dA w w')
  case atStart=>exact ⟨(0),zT,H',⟨Nat.le_refl _⟩,zW⟩
  case round =>
   clear H';obtain ⟨iw,rfl,HA,HK1,⟨m1,rfl⟩⟩:=hrel;cases gk with
   | zero=>exact absurd HA.out (by simp [jf.l0])
   | succ k1 =>
    have H:=HA.out;clear HA;simp only [jf.l0] at H;by_cases c4:iw < (l0.length:Int)
    ·rw [if_pos c4] at H;have fH:=decide_eq_true c4;clear c4;by_cases c5:0<=iw
     ·rw [if_pos c5] at H;have gJ:=decide_eq_true c5;clear c5;by_cases c6:iw < (l0.length:Int)
      ·rw [if_pos c6] at H;have gI:=decide_eq_true c6;clear c6;by_cases c7:iw < (l1.length:Int)
       ·rw [if_pos c7] at H;have jw:=decide_eq_true c7;clear c7;by_cases c8:(rd l0 iw)=(rd l1 iw)
        ·rw [if_pos c8] at H;have qj:((rd l0 iw) == (rd l1 iw))=true:=beq_iff_eq.mpr c8;have abZ:((rd l0 iw) != (rd l1 iw))=false:=bne_eq_false_iff_eq.mpr c8;clear c8;have H':=aj.mk H;clear H;have aje:0<=(iw:Int):=of_decide_eq_true (by first|(with_reducible assumption)|assumption);have ajf:iw < (l0.length:Int):=of_decide_eq_true (by first|(with_reducible assumption)|assumption);obtain ⟨aCt,avX,ayl⟩:=Kd.iZ HR0.out iw aje ajf;cases avX;replace aje:=eq_true aje;replace ajf:=eq_true ajf;have ajg:0<=(iw:Int):=of_decide_eq_true (by first|(with_reducible assumption)|assumption);have ajh:iw < (l1.length:Int):=of_decide_eq_true (by first|(with_reducible assumption)|assumption);obtain ⟨aCu,avY,aym⟩:=Kd.iZ HR1.out iw ajg ajh;cases avY;replace ajg:=eq_true ajg;replace ajh:=eq_true ajh;go_wp2;repeat (go_quiet (fail);try go_wp2)
         go_roundg k1
         case measure=>have:=HK1.out;omega
         case rel=>exact ⟨(wrap64 (iw+1)),zT,H',⟨by have:=HK1.out;omega⟩,zW⟩
        ·rw [if_neg c8] at H;have qj:((rd l0 iw) == (rd l1 iw))=false:=beq_eq_false_iff_ne.mpr c8;have abZ:((rd l0 iw) != (rd l1 iw))=true:=bne_iff_ne.mpr c8;obtain rfl:=Option.some.inj H;have aje:0<=(iw:Int):=of_decide_eq_true (by first|(with_reducible assumption)|assumption);have ajf:iw < (l0.length:Int):=of_decide_eq_true (by first|(with_reducible assumption)|assumption);obtain ⟨aCt,avX,ayl⟩:=Kd.iZ HR0.out iw aje ajf;cases avX;replace aje:=eq_true aje;replace ajf:=eq_true ajf;have ajg:0<=(iw:Int):=of_decide_eq_true (by first|(with_reducible assumption)|assumption);have ajh:iw < (l1.length:Int):=of_decide_eq_true (by first|(with_reducible assumption)|assumption);obtain ⟨aCu,avY,aym⟩:=Kd.iZ HR1.out iw ajg ajh;cases avY;replace ajg:=eq_true ajg;replace ajh:=eq_true ajh;go_wp2;repeat (go_quiet (fail);try go_wp2)
         go_ret;exact ⟨zT,zW⟩
       ·rw [if_neg c7] at H;exact absurd H (by simp)
      ·rw [if_neg c6] at H;exact absurd H (by simp)
     ·rw [if_neg c5] at H;exact absurd H (by simp)
    ·rw [if_neg c4] at H;have fH:=decide_eq_false c4;clear c4;obtain rfl:=Option.some.inj H;go_wp2;repeat (go_quiet (fail);try go_wp2)
     go_ret;exact ⟨zT,zW⟩
 ·rw [if_neg c3] at H;have fU:((l0.length:Int) == (l1.length:Int))=false:=beq_eq_false_iff_ne.mpr c3;have wO:((l0.length:Int) != (l1.length:Int))=true:=bne_iff_ne.mpr c3;have avW:(l0.length == l1.length)=false:=(by first|simpa using c3|(simp at c3 ⊢;omega));obtain rfl:=Option.some.inj H;go_enter Tryz.func76,Tryz.ntmps76;go_wp2;repeat (go_quiet (fail);try go_wp2)
  go_ret;exact ⟨zT,zW⟩
def oD.f (k:Nat) (aU bf bY dB:Int) (bZ:List Int) (jL kM kY kZ:Int) (acn:List Int):Option (Bool):=if aU=jL then (if bf=kM then (if bY=kY then (if dB=kZ then ((jf.f k bZ acn).bind fun avZ=>(some avZ)) else (some false)) else (some false)) else (some false)) else (some false)
theorem oD.calls (k:Nat) (aU bf bY dB:Int) (iF:Option Addr) (iG:Nat) (bZ:List Int) (jL kM kY kZ:Int) (aji:Option Addr) (ajj:Nat) (acn:List Int) (r:Bool) (w:World) (oG:Kd.C (Kd.int .u16) w iF bZ.length bZ) (oH:bZ.length<=iG) (axz:Kd.C (Kd.int .u16) w aji acn.length acn) (axA:acn.length<=ajj) (h:oD.f k aU bf bY dB bZ jL kM kY kZ acn=some r) :
  Calls Tryz.prog 38 #[.agg #[.int .i64 aU,.int .i64 bf,.int .i64 bY,.int .i64 dB,.slice iF bZ.length iG],.agg #[.int .i64 jL,.int .i64 kM,.int .i64 kY,.int .i64 kZ,.slice aji acn.length ajj]] w fun e w'=>e = .returned (.bool r)/\Below w.heap.size w w':=by
 have ar2:=Tryz.underlying88;have um:=aj.mk oG;have uK:=aj.mk oH;clear oG oH;have aCv:=aj.mk axz;have aCw:=aj.mk axA;clear axz axA;have HB:=aj.mk (Below.refl w.heap.size w);have H:=h;clear h;unfold oD.f at H;by_cases c3:aU=jL
 ·rw [if_pos c3] at H;have fU:(aU == jL)=true:=beq_iff_eq.mpr c3;have wO:(aU != jL)=false:=bne_eq_false_iff_eq.mpr c3;clear c3;by_cases c4:bf=kM
  ·rw [if_pos c4] at H;have fH:(bf == kM)=true:=beq_iff_eq.mpr c4;have aaS:(bf != kM)=false:=bne_eq_false_iff_eq.mpr c4;clear c4;by_cases c5:bY=kY
   ·rw [if_pos c5] at H;have gJ:(bY == kY)=true:=beq_iff_eq.mpr c5;have ab8:(bY != kY)=false:=bne_eq_false_iff_eq.mpr c5;clear c5;by_cases c6:dB=kZ
    ·rw [if_pos c6] at H;have gI:(dB == kZ)=true:=beq_iff_eq.mpr c6;have vU:(dB != kZ)=false:=bne_eq_false_iff_eq.mpr c6;clear c6;replace H:=zO H;obtain ⟨avZ,A7,H⟩:=H;try dsimp only at H
     obtain rfl:=Option.some.inj H;go_enter Tryz.func38,Tryz.ntmps38;go_wp2_with (first|((with_reducible refine aZ (N:=2) rfl ?_);refine aX zR (N:=2) zR (cs := #[.int .i64 aU,.int .i64 bf,.int .i64 bY,.int .i64 dB,.slice iF bZ.length iG]) (t:=88) zG ?_;intro anA hg w8 hbox hb;obtain ⟨HB,lq,anB,anC⟩:=zA4 (ak zB hb) hbox (zg hg zB) (zg hg zB);clear hb hbox hg)|((with_reducible refine aZ (N:=3) rfl ?_);refine aX zR (N:=3) zR (cs := #[.int .i64 jL,.int .i64 kM,.int .i64 kY,.int .i64 kZ,.slice aji acn.length ajj]) (t:=88) zG ?_;intro anD hg w9 hbox hb;obtain ⟨lq,HB,yX,anE,anF,vI,vJ⟩:=zA7 (aA (zK lq) hb) (ak zB hb) hbox (zg hg zB) (zg hg zB) (zl hg (zK lq)) (zr hg (zK lq));clear hb hbox hg;have ajP:=vI.out;have ajQ:=vJ.out;obtain ⟨_,_,_,_,_⟩:=zC5 lq.out;obtain ⟨_,_,_,_,_⟩:=zF5 lq.out;obtain ⟨_,_,_,_,_⟩:=zC5 yX.out;obtain ⟨_,_,_,_,_⟩:=zF5 yX.out)|(go_at_call 76;(with_reducible refine (jf.calls k _ _ bZ _ _ acn avZ _ ?iD ?iE ?adi ?adk A7.out).mono ?_);(case iD=>repeat (first|exact (Kd.bD um.out HB.out)|(with_reducible refine Kd.iU ?_ _)|(with_reducible refine Kd.jh ?_ _)|(with_reducible refine Kd.jI ?_)));(case iE=>exact uK.out);(case adi=>repeat (first|exact (Kd.bD aCv.out HB.out)|(with_reducible refine Kd.iU ?_ _)|(with_reducible refine Kd.jh ?_ _)|(with_reducible refine Kd.jI ?_)));(case adk=>exact aCw.out);rintro e w' ⟨rfl,⟨nd,rfl⟩⟩));go_ret;exact ⟨zS,zB⟩
    ·rw [if_neg c6] at H;have gI:(dB == kZ)=false:=beq_eq_false_iff_ne.mpr c6;have vU:(dB != kZ)=true:=bne_iff_ne.mpr c6;obtain rfl:=Option.some.inj H;go_enter Tryz.func38,Tryz.ntmps38;go_wp2_with (first|((with_reducible refine aZ (N:=2) rfl ?_);refine aX zR (N:=2) zR (cs := #[.int .i64 aU,.int .i64 bf,.int .i64 bY,.int .i64 dB,.slice iF bZ.length iG]) (t:=88) zG ?_;intro anA hg w13 hbox hb;obtain ⟨HB,lq,anB,anC⟩:=zA4 (ak zB hb) hbox (zg hg zB) (zg hg zB);clear hb hbox hg)|((with_reducible refine aZ (N:=3) rfl ?_);refine aX zR (N:=3) zR (cs := #[.int .i64 jL,.int .i64 kM,.int .i64 kY,.int .i64 kZ,.slice aji acn.length ajj]) (t:=88) zG ?_;intro anD hg w14 hbox hb;obtain ⟨lq,HB,yX,anE,anF,vI,vJ⟩:=zA7 (aA (zK lq) hb) (ak zB hb) hbox (zg hg zB) (zg hg zB) (zl hg (zK lq)) (zr hg (zK lq));clear hb hbox hg;have awO:=vI.out;have awP:=vJ.out;obtain ⟨_,_,_,_,_⟩:=zC5 lq.out;obtain ⟨_,_,_,_,_⟩:=zF5 lq.out;obtain ⟨_,_,_,_,_⟩:=zC5 yX.out;obtain ⟨_,_,_,_,_⟩:=zF5 yX.out));go_ret;exact ⟨zS,zB⟩
   ·rw [if_neg c5] at H;have gJ:(bY == kY)=false:=beq_eq_false_iff_ne.mpr c5;have ab8:(bY != kY)=true:=bne_iff_ne.mpr c5;obtain rfl:=Option.some.inj H;go_enter Tryz.func38,Tryz.ntmps38;go_wp2_with (first|((with_reducible refine aZ (N:=2) rfl ?_);refine aX zR (N:=2) zR (cs := #[.int .i64 aU,.int .i64 bf,.int .i64 bY,.int .i64 dB,.slice iF bZ.length iG]) (t:=88) zG ?_;intro anA hg w18 hbox hb;obtain ⟨HB,lq,anB,anC⟩:=zA4 (ak zB hb) hbox (zg hg zB) (zg hg zB);clear hb hbox hg)|((with_reducible refine aZ (N:=3) rfl ?_);refine aX zR (N:=3) zR (cs := #[.int .i64 jL,.int .i64 kM,.int .i64 kY,.int .i64 kZ,.slice aji acn.length ajj]) (t:=88) zG ?_;intro anD hg w19 hbox hb;obtain ⟨lq,HB,yX,anE,anF,vI,vJ⟩:=zA7 (aA (zK lq) hb) (ak zB hb) hbox (zg hg zB) (zg hg zB) (zl hg (zK lq)) (zr hg (zK lq));clear hb hbox hg;have arC:=vI.out;have arD:=vJ.out;obtain ⟨_,_,_,_,_⟩:=zC5 lq.out;obtain ⟨_,_,_,_,_⟩:=zF5 lq.out;obtain ⟨_,_,_,_,_⟩:=zC5 yX.out;obtain ⟨_,_,_,_,_⟩:=zF5 yX.out));go_ret;exact ⟨zS,zB⟩
  ·rw [if_neg c4] at H;have fH:(bf == kM)=false:=beq_eq_false_iff_ne.mpr c4;have aaS:(bf != kM)=true:=bne_iff_ne.mpr c4;obtain rfl:=Option.some.inj H;go_enter Tryz.func38,Tryz.ntmps38;go_wp2_with (first|((with_reducible refine aZ (N:=2) rfl ?_);refine aX zR (N:=2) zR (cs := #[.int .i64 aU,.int .i64 bf,.int .i64 bY,.int .i64 dB,.slice iF bZ.length iG]) (t:=88) zG ?_;intro anA hg w23 hbox hb;obtain ⟨HB,lq,anB,anC⟩:=zA4 (ak zB hb) hbox (zg hg zB) (zg hg zB);clear hb hbox hg)|((with_reducible refine aZ (N:=3) rfl ?_);refine aX zR (N:=3) zR (cs := #[.int .i64 jL,.int .i64 kM,.int .i64 kY,.int .i64 kZ,.slice aji acn.length ajj]) (t:=88) zG ?_;intro anD hg w24 hbox hb;obtain ⟨lq,HB,yX,anE,anF,vI,vJ⟩:=zA7 (aA (zK lq) hb) (ak zB hb) hbox (zg hg zB) (zg hg zB) (zl hg (zK lq)) (zr hg (zK lq));clear hb hbox hg;have arf:=vI.out;have arh:=vJ.out;obtain ⟨_,_,_,_,_⟩:=zC5 lq.out;obtain ⟨_,_,_,_,_⟩:=zF5 lq.out;obtain ⟨_,_,_,_,_⟩:=zC5 yX.out;obtain ⟨_,_,_,_,_⟩:=zF5 yX.out));go_ret;exact ⟨zS,zB⟩
 ·rw [if_neg c3] at H;have fU:(aU == jL)=false:=beq_eq_false_iff_ne.mpr c3;have wO:(aU != jL)=true:=bne_iff_ne.mpr c3;obtain rfl:=Option.some.inj H;go_enter Tryz.func38,Tryz.ntmps38;go_wp2_with (first|((with_reducible refine aZ (N:=2) rfl ?_);refine aX zR (N:=2) zR (cs := #[.int .i64 aU,.int .i64 bf,.int .i64 bY,.int .i64 dB,.slice iF bZ.length iG]) (t:=88) zG ?_;intro anA hg w28 hbox hb;obtain ⟨HB,lq,anB,anC⟩:=zA4 (ak zB hb) hbox (zg hg zB) (zg hg zB);clear hb hbox hg)|((with_reducible refine aZ (N:=3) rfl ?_);refine aX zR (N:=3) zR (cs := #[.int .i64 jL,.int .i64 kM,.int .i64 kY,.int .i64 kZ,.slice aji acn.length ajj]) (t:=88) zG ?_;intro anD hg w29 hbox hb;obtain ⟨lq,HB,yX,anE,anF,vI,vJ⟩:=zA7 (aA (zK lq) hb) (ak zB hb) hbox (zg hg zB) (zg hg zB) (zl hg (zK lq)) (zr hg (zK lq));clear hb hbox hg;have am8:=vI.out;have am9:=vJ.out;obtain ⟨_,_,_,_,_⟩:=zC5 lq.out;obtain ⟨_,_,_,_,_⟩:=zF5 lq.out;obtain ⟨_,_,_,_,_⟩:=zC5 yX.out;obtain ⟨_,_,_,_,_⟩:=zF5 yX.out));go_ret;exact ⟨zS,zB⟩
end Go.Proofs.YtpondkggmcmpfaaGreatDoor.QA
namespace Go.Proofs.YtpondkggmcmpfaaGreatDoor.T
open Go.ChangeShapes Go.WideShapes Go.ChangeAt Go.RowKit
theorem atx:Tryz.prog.globalNamed "smalto/raw.kinds"=some 1:=by kernel_rfl
theorem azU:(Tryz.prog.globals[1]?).map (·.type)=some 188:=by kernel_rfl
theorem cell_of {cs:List Value} {a b i:Nat} {v:Value} {ws:List Value} (hi:i < b) (h:((cs.drop a).take b)=ws) (hv:ws[i]? = some v):cs[a+i]? = some v:=by
 rw [<- h] at hv;rw [List.getElem?_take,if_pos hi,List.getElem?_drop] at hv;exact hv
theorem str_eq {s:ByteArray} {l:List UInt8} (h:s.data.toList=l):s=⟨l.toArray⟩:=by
 cases s with|mk d=>simp only at h;rw [<- h]
theorem afV {W:World} {m:Nat} {cs:List Value} {s:List UInt8} {n:Int} {x:DataW Unit × List MemPlace}
    (h:DataW.trod (fun _=>()) Tryz.prog W 0 (fun _=>true) false m 187 cs=some x) (hx:x.1 = .agg [.lit (.string s),.lit (.int .i64 n)]) :
    cs[0]? = some (.string ⟨s.toArray⟩)/\cs[1]? = some (.int .i64 n):=by
  obtain ⟨y0,y1,k,rfl,hl,h0,h1⟩:=trod_struct2 Tryz.underlying187 h;simp only [DataW.agg.injEq,List.cons.injEq,and_true] at hx;obtain ⟨z,e0,e1,_⟩:=DataW.trod_string Tryz.underlying9 h0;obtain ⟨q,f0,f1,_⟩:=DataW.trod_int Tryz.underlying2 h1;rw [e1,f1] at hx;simp only [DataW.lit.injEq,Lit.string.injEq,Lit.int.injEq,true_and] at hx;obtain ⟨hs,rfl⟩:=hx;rw [str_eq hs] at e0;constructor
  . simpa using cell_of (i:=0) (of_decide_eq_true (by kernel_rfl)) e0 rfl
  . simpa using cell_of (i:=0) (of_decide_eq_true (by kernel_rfl)) f0 rfl
theorem apS {W:World} {fuel:Nat} {cs:Array Value} {x:DataW Unit × List MemPlace} (hv:W.var? Tryz.prog "smalto/raw.kinds"=some cs)
    (h:DataW.trod (fun _=>()) Tryz.prog W 0 (fun _=>true) false fuel 188 cs.toList=some x) (hx:x.1=Rows.laid_smalto_raw_kinds):W.cell? ⟨1,0,none⟩=some (.string (⟨#[98,111,120]⟩:ByteArray))/\W.cell? ⟨1,1,none⟩=some (.int .i64 0)/\W.cell? ⟨1,2,none⟩=some (.string (⟨#[99,117,98,105,99]⟩:ByteArray))/\W.cell? ⟨1,3,none⟩=some (.int .i64 2)/\W.cell? ⟨1,4,none⟩=some (.string (⟨#[108,97,110,99,122,111,115]⟩:ByteArray))/\W.cell? ⟨1,5,none⟩=some (.int .i64 3):=by
  obtain ⟨xs,m,_,rfl,hl,hlen,hel⟩:=DataW.trod_array Tryz.underlying188 h;have c2:Tryz.prog.cellsOf 187=2:=(by kernel_rfl);match xs,hlen with
  | [x0,x1,x2],_ =>
    have hx':=hx;simp only [Rows.laid_smalto_raw_kinds,List.map_cons,List.map_nil,DataW.agg.injEq,List.cons.injEq,and_true] at hx';obtain ⟨k0,k1,k2⟩:=hx';have g0:=afV (hel 0 (by decide)) k0;have g1:=afV (hel 1 (by decide)) k1;have g2:=afV (hel 2 (by decide)) k2;rw [c2] at g0 g1 g2;simp only [List.getElem?_take,List.getElem?_drop] at g0 g1 g2;simp at g0 g1 g2;simp only [World.var?_cell atx hv];exact ⟨g0.1,g0.2,g1.1,g1.2,g2.1,g2.2⟩
theorem aty:Tryz.prog.globalNamed "smalto/border.names"=some 0:=by kernel_rfl
theorem azV:(Tryz.prog.globals[0]?).map (·.type)=some 162:=by kernel_rfl
theorem ajk {W:World} {v:Value} {n:Nat} {q:List MemPlace} {s:List UInt8} (h:DataW.trod (fun _=>()) Tryz.prog W 0 (fun _=>true) false n 9 [v]=some (.lit (.string s),q)):v = .string ⟨s.toArray⟩:=by
 obtain ⟨z,e0,e1,_⟩:=DataW.trod_string Tryz.underlying9 h;simp only [Prod.mk.injEq,DataW.lit.injEq,Lit.string.injEq] at e1;rw [str_eq e1.1.symm] at e0;simpa using e0
theorem apT {W:World} {fuel:Nat} {cs:Array Value} {x:DataW Unit × List MemPlace} (hv:W.var? Tryz.prog "smalto/border.names"=some cs)
    (h:DataW.trod (fun _=>()) Tryz.prog W 0 (fun _=>true) false fuel 162 cs.toList=some x) (hx:x.1=Rows.laid_smalto_border_names) :
    ∃ (a:Addr) (c:Nat),3<=c/\W.cell? ⟨0,0,none⟩=some (.slice (some a) 3 c)/\W.cell? a=some (.string (⟨#[99,108,97,109,112]⟩:ByteArray))/\W.cell? ⟨a.block,a.off+1,none⟩=some (.string (⟨#[109,105,114,114,111,114]⟩:ByteArray))/\W.cell? ⟨a.block,a.off+2,none⟩=some (.string (⟨#[119,114,97,112]⟩:ByteArray)):=by
  obtain ⟨d,p⟩:=x;simp only at hx;subst hx;obtain ⟨a,cap,e,hl,hc⟩:=open_row Tryz.underlying162 (show Tryz.prog.cellsOf 9=1 by kernel_rfl) h;obtain ⟨v0,n0,q0,c0,t0⟩:=hc 0 _ rfl;obtain ⟨v1,n1,q1,c1,t1⟩:=hc 1 _ rfl;obtain ⟨v2,n2,q2,c2,t2⟩:=hc 2 _ rfl;rw [ajk t0] at c0;rw [ajk t1] at c1;rw [ajk t2] at c2;have e0:a.add 0=a:=(by cases a;rfl);rw [e0] at c0;have ec:cs[0]? = some (.slice (some a) 3 cap):=by
    have:=congrArg (fun l=>l[0]?) e;simpa using this
  exact ⟨a,cap,hl,by rw [World.var?_cell aty hv];exact ec,c0,c1,c2⟩
theorem aqE {W:World} (h:laidMetH Tryz.prog [("smalto/border.names",Rows.laid_smalto_border_names),("smalto/raw.kinds",Rows.laid_smalto_raw_kinds)] W):GL W:=by
 rw [MakeChecks.laidMetH_plain _ _ _ (by kernel_rfl)] at h;obtain ⟨ps,⟨g,t,cs,fuel,p,q,hg,ht,hv,hd,⟨g2,t2,cs2,fuel2,p2,q2,hg2,ht2,hv2,hd2,_,_⟩,_⟩,_,_⟩:=h;obtain rfl:=Option.some.inj (aty.symm.trans hg);obtain rfl:=Option.some.inj (azV.symm.trans ht);obtain rfl:=Option.some.inj (atx.symm.trans hg2);obtain rfl:=Option.some.inj (azU.symm.trans ht2);exact ⟨apS hv2 hd2 rfl,apT hv hd rfl⟩
theorem anH (os:Os) (args:Array Value):laidMetH Tryz.prog [("smalto/border.names",Rows.laid_smalto_border_names),("smalto/raw.kinds",Rows.laid_smalto_raw_kinds)] ((World.laidAll Tryz.prog os [("smalto/border.names",Rows.laid_smalto_border_names),("smalto/raw.kinds",Rows.laid_smalto_raw_kinds)]).forCall (fun _ _=>0) ⟨#[],args,[]⟩).memory:=by
 rw [MakeChecks.laidMetH_plain _ _ _ (by kernel_rfl)];exact laidMet_laidAll _ (by kernel_rfl) (by kernel_rfl)
end Go.Proofs.YtpondkggmcmpfaaGreatDoor.T
namespace Go.Proofs.YtpondkggmcmpfaaGreatDoorW.PrintWords
open Go.ChangeShapes Go.WideShapes
end Go.Proofs.YtpondkggmcmpfaaGreatDoorW.PrintWords
