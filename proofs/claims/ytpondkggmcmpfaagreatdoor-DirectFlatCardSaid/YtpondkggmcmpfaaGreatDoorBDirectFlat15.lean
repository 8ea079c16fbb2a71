/- Joined by wip/tools/bundle.py out of: QAx41 QAx43 QAx48 QAx49 QAx50 TLaid WSized. -/
import Derived.Test.YtpondkggmcmpfaaGreatDoorBDirectFlat14
import Derived.Test.YtpondkggmcmpfaaGreatDoorRows
import Derived.ProofKit
import Derived.OpenShut
import Derived.LaidMore
import Derived.Lay
import Derived.SizedLaws
set_option maxHeartbeats 8000000
set_option maxRecDepth 100000
namespace Go.Proofs.YtpondkggmcmpfaaGreatDoor.QA
open Go.Proofs.YtpondkggmcmpfaaGreatDoor.T
open Go.RowKit Go.Proofs.YtpondkggmcmpfaaGreatDoorW.PrintWords Go.Proofs.YtpondkggmcmpfaaGreatDoorW.PrintLast Go.Proofs.YtpondkggmcmpfaaGreatDoorW.PrintMore
attribute [local go_sem] dV dN dO eP fA
set_option linter.unusedVariables false
set_option linter.unusedSimpArgs false
mutual
def dQ.j0:Nat->Int->Bool->Option (List Int × Int)
 | 0,_,_=>none
 | k+1,x0,x10=>if x10=true then (some (([]:List Int),7)) else (dQ.l0 k ([]:List Int) (wrap64 ((wrap64 (2*x0))+1)) 0)
def dQ.l0:Nat->List Int->Int->Int->Option (List Int × Int)
 | 0,_,_,_=>none
 | k+1,x4,x13,x14=>if x14 < x13 then (if x4.length < 17592186044416 then (dQ.l0 k (x4 ++ [1]) x13 (wrap64 (x14+1))) else (none)) else ((bP.f k x4).bind fun atu=>(some (atu.1,atu.2)))
end
def dQ.f (k:Nat) (a0:Int):Option (List Int × Int):=if a0 < 0 then (dQ.j0 k a0 true) else (dQ.j0 k a0 (decide (a0 > 511)))
theorem dQ.calls (k:Nat) (a0:Int) (r1:List Int) (r2:Int) (w:World) (h:dQ.f k a0=some (r1,r2)) :
  Calls Tryz.prog 95 #[.int .i64 a0] w fun e w'=>∃ v0_:Value,e = .returned (.tuple #[v0_,.int .i64 r2])/\Kd.R (Kd.int .i64) 2 w' w.heap.size (fun _=>True) v0_ r1/\Below w.heap.size w w':=by
 have HB:=aj.mk (Below.refl w.heap.size w);have H:=h;clear h;unfold dQ.f at H;have HC2:=aj.mk H;clear H;go_enter Tryz.func95,Tryz.ntmps95;go_upto_region 1 with (fail);go_cut [10] (fun v10 wc=>∃ (kq:Nat) (wZ:Bool),v10 = .bool wZ/\aj (dQ.j0 kq a0 wZ=some (r1,r2))/\aj (kq<=k)/\aj (Below w.heap.size w wc))
 case first =>
  have H:=HC2.out;clear HC2;by_cases c3:a0 < 0
  ·rw [if_pos c3] at H;have gI:=decide_eq_true c3;clear c3
   (first|rw [gI]|(simp only [cZ,dD];rw [gI])|skip)
   have H':=aj.mk H;clear H;go_wp2;go_meet
   case rel=>exact ⟨_,(true),zT,H',⟨by first|omega|exact Nat.le_refl _⟩,⟨zB⟩⟩
  ·rw [if_neg c3] at H;have gI:=decide_eq_false c3;clear c3
   (first|rw [gI]|(simp only [cZ,dD];rw [gI])|skip)
   have H':=aj.mk H;clear H;go_wp2;go_meet
   case rel=>exact ⟨_,(decide (a0 > 511)),zT,H',⟨by first|omega|exact Nat.le_refl _⟩,⟨zB⟩⟩
 case rest =>
  clear HC2;obtain ⟨kq,wZ,rfl,HA,HJ1,HB⟩:=hcut;cases kq with
  | zero=>exact absurd HA.out (by simp [dQ.j0])
  | succ kj1 =>
   have H:=HA.out;clear HA;simp only [dQ.j0] at H;by_cases c4:wZ=true
   ·subst c4;rw [if_pos rfl] at H;(try dsimp only at H);simp only [Option.some.injEq,Prod.mk.injEq] at H;obtain ⟨rfl,rfl⟩:=H;go_wp2;go_ret2;exact ⟨_,zS,by first|exact Kd.jY _ _ _ _ _|exact Kd.qB _ _ _ _ _|exact Kd.oL _ _ _ _ _|exact Kd.qC _ _ _ _ _|exact Kd.pW _ _ _ _ _,zB⟩
   ·replace c4:=Bool.eq_false_iff.mpr c4;subst c4;rw [if_neg (show ¬ (false=true) by decide)] at H;(try dsimp only at H);have H':=aj.mk H;clear H;go_wp2;go_loopg [4,14] kj1 (fun kq v4 v14 w'=>∃ (wM:List Int) (aal:Int),v14 = .int .i64 aal/\aj (dQ.l0 kq wM (wrap64 ((wrap64 (2*a0))+1)) aal=some (r1,r2))/\aj (kq<=kj1)/\aj (Kd.R (Kd.int .i64) 2 w' w.heap.size (fun _=>True) v4 wM)/\aj (Below w.heap.size w w'))
    case atStart=>exact ⟨(([]:List Int)),(0),zT,H',⟨Nat.le_refl _⟩,⟨by first|exact Kd.jY _ _ _ _ _|exact Kd.qB _ _ _ _ _|exact Kd.oL _ _ _ _ _|exact Kd.qC _ _ _ _ _|exact Kd.pW _ _ _ _ _⟩,⟨zB⟩⟩
    case round =>
     clear H';obtain ⟨wM,aal,rfl,HA,HK2,ag2,HB⟩:=hrel;cases gk with
     | zero=>exact absurd HA.out (by simp [dQ.l0])
     | succ k2 =>
      have H:=HA.out;clear HA;simp only [dQ.l0] at H;by_cases c5:aal < (wrap64 ((wrap64 (2*a0))+1))
      ·rw [if_pos c5] at H;have iy:=decide_eq_true c5;clear c5;by_cases c6:wM.length < 17592186044416
       ·rw [if_pos c6] at H;have azf:=aj.mk c6;clear c6;obtain ⟨avM,ah4⟩:∃ y_:List Int,y_=(wM ++ [1]):=⟨_,rfl⟩;replace H:(dQ.l0 k2 avM (wrap64 ((wrap64 (2*a0))+1)) (wrap64 (aal+1)))=some (r1,r2):=(by first|(rw [ah4];with_reducible exact H)|(have H2_:=(Option.bind_some _ _).symm.trans H;rw [ah4];with_reducible exact H2_)|(have H2_:=(Option.bind_some _ _).symm.trans H;with_reducible exact H2_)|with_reducible exact H|(rw [ah4];exact H)|exact H);have ayd:=aj.mk ah4;clear ah4;have H':=aj.mk H;clear H;go_wp2_with (first|((with_reducible refine jQ (b := .append) (xs := #[.tmp 16,.tmp 17]) rfl ?_);at_builtin;refine Kd.kW (Kd.int .i64) (w0:=w) w.heap.size rfl (.tmp 16) (.tmp 17) 44 2 (.int .i64 0) 8 rfl Tryz.underlying44 wQ rfl (by decide) (by omega) u4 wM 1 [.int .i64 1] (fun _=>True) (fun _=>False) rfl rfl ?aP (fun _ hk=>hk.elim) ?aF ?aO ?aB ?aS ?aL ?_;(case aP=>exact rfl);(case aB=>exact zB);(case aF=>exact (fun _ _=>trivial));(case aO=>exact (by (with_reducible repeat (first|apply Kd.aK|apply Kd.aQ|apply Kd.aW));exact ag2.out));(case aS=>exact (bT zB));(case aL=>have:=azf.out;omega);intro aEy w7 ho hb hg hat;rw [<- ayd.out] at ho;obtain ⟨HB,aye⟩:=zA2 hb ho;clear ho hb hg hat));go_roundg k2
        case measure=>have:=HJ1.out;have:=HK2.out;omega
        case rel=>exact ⟨(avM),(wrap64 (aal+1)),zT,H',⟨by have:=HJ1.out;have:=HK2.out;omega⟩,⟨by (with_reducible repeat (first|apply Kd.aK|apply Kd.aQ|apply Kd.aW));exact aye.out⟩,⟨zB⟩⟩
       ·rw [if_neg c6] at H;exact absurd H (by simp)
      ·rw [if_neg c5] at H;have iy:=decide_eq_false c5;clear c5;replace H:=zO H;obtain ⟨⟨azg,azh⟩,A8,H⟩:=H;try dsimp only at H
       simp only [Option.some.injEq,Prod.mk.injEq] at H;obtain ⟨rfl,rfl⟩:=H;obtain ⟨Ao9,co9,eo9⟩:=Kd.gq ag2.out;subst eo9;go_wp2_with (first|((with_reducible refine ay (f:=96) rfl ?_);refine aH (some 21) rfl rfl Tryz.func96 (by kernel_rfl) rfl #[.slice Ao9 wM.length co9] rfl zL ?_;(with_reducible refine (bP.calls k2 _ _ wM azg azh _ ?iW ?iY A8.out).mono ?_);(case iW=>repeat (first|exact (Kd.dH ag2.out).2.2|(with_reducible refine Kd.jo ?_ _)|(with_reducible refine Kd.jO ?_ _)|(with_reducible refine Kd.lq ?_)));(case iY=>exact (Kd.dH ag2.out).2.1);rintro e w10 ⟨aEz,rfl,ho0,hb⟩;refine ⟨_,rfl,?_⟩;obtain ⟨ag2,ayf,HB⟩:=zA3 (Kd.iQ (by (with_reducible repeat (first|apply Kd.aK|apply Kd.aQ|apply Kd.aW));exact ag2.out) (Kd.jw ho0) hb) (Kd.fQ (Kd.ku ho0 (Kd.lS (by (with_reducible repeat (first|apply Kd.aK|apply Kd.aQ|apply Kd.aW));exact ag2.out))) (bT zB)) (ak zB hb);(try clear hb);(try clear ho0)));go_ret2;exact ⟨_,zS,by (with_reducible repeat (first|apply Kd.aK|apply Kd.aQ|apply Kd.aW));exact Kd.dU ayf.out (fun _ hk=>trivial),zB⟩
def qw.f (bn bV kS kT:Int) (je jh:List Int) (lg kC kQ a1 a2:Int):Option (Int × Int):=if bn=3 then (some (kC,kQ)) else (some (a1,a2))
theorem qw.calls (bn bV kS kT:Int) (nU:Option Addr) (nV:Nat) (je:List Int) (oO:Option Addr) (oP:Nat) (jh:List Int) (lg kC kQ a1 a2 r1 r2:Int) (w:World) (zY:Kd.C (Kd.int .i64) w nU je.length je) (zZ:je.length<=nV) (aac:Kd.C (Kd.int .i64) w oO jh.length jh) (aad:jh.length<=oP) (h:qw.f bn bV kS kT je jh lg kC kQ a1 a2=some (r1,r2)) :
  Calls Tryz.prog 58 #[.agg #[.int .i64 bn,.int .i64 bV,.int .i64 kS,.int .i64 kT,.slice nU je.length nV,.slice oO jh.length oP,.int .i64 lg,.int .i64 kC,.int .i64 kQ],.int .i64 a1,.int .i64 a2] w fun e w'=>e = .returned (.tuple #[.int .i64 r1,.int .i64 r2])/\Below w.heap.size w w':=by
 have aDC:=Tryz.underlying111;have ahu:=aj.mk zY;have ahv:=aj.mk zZ;clear zY zZ;have akq:=aj.mk aac;have akr:=aj.mk aad;clear aac aad;have HB:=aj.mk (Below.refl w.heap.size w);have H:=h;clear h;unfold qw.f at H;by_cases c4:bn=3
 ·rw [if_pos c4] at H;have fG:(bn == 3)=true:=beq_iff_eq.mpr c4;have aaJ:(bn != 3)=false:=bne_eq_false_iff_eq.mpr c4;clear c4;simp only [Option.some.injEq,Prod.mk.injEq] at H;obtain ⟨rfl,rfl⟩:=H;go_enter Tryz.func58,Tryz.ntmps58;go_wp2_with (first|((with_reducible refine bG (N:=3) rfl ?_);refine bI zR (N:=3) zR (cs := #[.int .i64 bn,.int .i64 bV,.int .i64 kS,.int .i64 kT,.slice nU je.length nV,.slice oO jh.length oP,.int .i64 lg,.int .i64 kC,.int .i64 kQ]) (t:=111) zG ?_;intro ah5 hg w5 hbox hb;obtain ⟨HB,uj,ah6,ah7⟩:=zA4 (ak zB hb) hbox (zg hg zB) (zg hg zB);clear hb hbox hg;obtain ⟨_,_,_,_,_,_,_,_,_⟩:=zC9 uj.out;obtain ⟨_,_,_,_,_,_,_,_,_⟩:=zF9 uj.out));repeat (go_quiet (first|((with_reducible refine bG (N:=3) rfl ?_);refine bI zR (N:=3) zR (cs := #[.int .i64 bn,.int .i64 bV,.int .i64 kS,.int .i64 kT,.slice nU je.length nV,.slice oO jh.length oP,.int .i64 lg,.int .i64 kC,.int .i64 kQ]) (t:=111) zG ?_;intro ah5 hg w5 hbox hb;obtain ⟨HB,uj,ah6,ah7⟩:=zA4 (ak zB hb) hbox (zg hg zB) (zg hg zB);clear hb hbox hg;obtain ⟨_,_,_,_,_,_,_,_,_⟩:=zC9 uj.out;obtain ⟨_,_,_,_,_,_,_,_,_⟩:=zF9 uj.out));try go_wp2_with (first|((with_reducible refine bG (N:=3) rfl ?_);refine bI zR (N:=3) zR (cs := #[.int .i64 bn,.int .i64 bV,.int .i64 kS,.int .i64 kT,.slice nU je.length nV,.slice oO jh.length oP,.int .i64 lg,.int .i64 kC,.int .i64 kQ]) (t:=111) zG ?_;intro ah5 hg w5 hbox hb;obtain ⟨HB,uj,ah6,ah7⟩:=zA4 (ak zB hb) hbox (zg hg zB) (zg hg zB);clear hb hbox hg;obtain ⟨_,_,_,_,_,_,_,_,_⟩:=zC9 uj.out;obtain ⟨_,_,_,_,_,_,_,_,_⟩:=zF9 uj.out)))
  go_ret2;exact ⟨zS,zB⟩
 ·rw [if_neg c4] at H;have fG:(bn == 3)=false:=beq_eq_false_iff_ne.mpr c4;have aaJ:(bn != 3)=true:=bne_iff_ne.mpr c4;simp only [Option.some.injEq,Prod.mk.injEq] at H;obtain ⟨rfl,rfl⟩:=H;go_enter Tryz.func58,Tryz.ntmps58;go_wp2_with (first|((with_reducible refine bG (N:=3) rfl ?_);refine bI zR (N:=3) zR (cs := #[.int .i64 bn,.int .i64 bV,.int .i64 kS,.int .i64 kT,.slice nU je.length nV,.slice oO jh.length oP,.int .i64 lg,.int .i64 kC,.int .i64 kQ]) (t:=111) zG ?_;intro ah5 hg w7 hbox hb;obtain ⟨HB,uj,ah6,ah7⟩:=zA4 (ak zB hb) hbox (zg hg zB) (zg hg zB);clear hb hbox hg;obtain ⟨_,_,_,_,_,_,_,_,_⟩:=zC9 uj.out;obtain ⟨_,_,_,_,_,_,_,_,_⟩:=zF9 uj.out));repeat (go_quiet (first|((with_reducible refine bG (N:=3) rfl ?_);refine bI zR (N:=3) zR (cs := #[.int .i64 bn,.int .i64 bV,.int .i64 kS,.int .i64 kT,.slice nU je.length nV,.slice oO jh.length oP,.int .i64 lg,.int .i64 kC,.int .i64 kQ]) (t:=111) zG ?_;intro ah5 hg w7 hbox hb;obtain ⟨HB,uj,ah6,ah7⟩:=zA4 (ak zB hb) hbox (zg hg zB) (zg hg zB);clear hb hbox hg;obtain ⟨_,_,_,_,_,_,_,_,_⟩:=zC9 uj.out;obtain ⟨_,_,_,_,_,_,_,_,_⟩:=zF9 uj.out));try go_wp2_with (first|((with_reducible refine bG (N:=3) rfl ?_);refine bI zR (N:=3) zR (cs := #[.int .i64 bn,.int .i64 bV,.int .i64 kS,.int .i64 kT,.slice nU je.length nV,.slice oO jh.length oP,.int .i64 lg,.int .i64 kC,.int .i64 kQ]) (t:=111) zG ?_;intro ah5 hg w7 hbox hb;obtain ⟨HB,uj,ah6,ah7⟩:=zA4 (ak zB hb) hbox (zg hg zB) (zg hg zB);clear hb hbox hg;obtain ⟨_,_,_,_,_,_,_,_,_⟩:=zC9 uj.out;obtain ⟨_,_,_,_,_,_,_,_,_⟩:=zF9 uj.out)))
  go_ret2;exact ⟨zS,zB⟩
end Go.Proofs.YtpondkggmcmpfaaGreatDoor.QA
namespace Go.Proofs.YtpondkggmcmpfaaGreatDoor.T
open Go.ChangeShapes Go.WideShapes Go.ChangeAt Go.RowKit
theorem apT:Tryz.prog.globalNamed "smalto/raw.kinds"=some 1:=by kernel_rfl
theorem avN:(Tryz.prog.globals[1]?).map (·.type)=some 188:=by kernel_rfl
theorem cell_of {cs:List Value} {a b i:Nat} {v:Value} {ws:List Value} (hi:i < b) (h:((cs.drop a).take b)=ws) (hv:ws[i]? = some v):cs[a+i]? = some v:=by
 rw [<- h] at hv;rw [List.getElem?_take,if_pos hi,List.getElem?_drop] at hv;exact hv
theorem str_eq {s:ByteArray} {l:List UInt8} (h:s.data.toList=l):s=⟨l.toArray⟩:=by
 cases s with|mk d=>simp only at h;rw [<- h]
theorem ad8 {W:World} {m:Nat} {cs:List Value} {s:List UInt8} {n:Int} {x:DataW Unit × List MemPlace}
    (h:DataW.trod (fun _=>()) Tryz.prog W 0 (fun _=>true) false m 187 cs=some x) (hx:x.1 = .agg [.lit (.string s),.lit (.int .i64 n)]) :
    cs[0]? = some (.string ⟨s.toArray⟩)/\cs[1]? = some (.int .i64 n):=by
  obtain ⟨y0,y1,k,rfl,hl,h0,h1⟩:=trod_struct2 Tryz.underlying187 h;simp only [DataW.agg.injEq,List.cons.injEq,and_true] at hx;obtain ⟨z,e0,e1,_⟩:=DataW.trod_string Tryz.underlying9 h0;obtain ⟨q,f0,f1,_⟩:=DataW.trod_int Tryz.underlying2 h1;rw [e1,f1] at hx;simp only [DataW.lit.injEq,Lit.string.injEq,Lit.int.injEq,true_and] at hx;obtain ⟨hs,rfl⟩:=hx;rw [str_eq hs] at e0;constructor
  . simpa using cell_of (i:=0) (of_decide_eq_true (by kernel_rfl)) e0 rfl
  . simpa using cell_of (i:=0) (of_decide_eq_true (by kernel_rfl)) f0 rfl
theorem amK {W:World} {fuel:Nat} {cs:Array Value} {x:DataW Unit × List MemPlace} (hv:W.var? Tryz.prog "smalto/raw.kinds"=some cs)
    (h:DataW.trod (fun _=>()) Tryz.prog W 0 (fun _=>true) false fuel 188 cs.toList=some x) (hx:x.1=Rows.laid_smalto_raw_kinds):W.cell? ⟨1,0,none⟩=some (.string (⟨#[98,111,120]⟩:ByteArray))/\W.cell? ⟨1,1,none⟩=some (.int .i64 0)/\W.cell? ⟨1,2,none⟩=some (.string (⟨#[99,117,98,105,99]⟩:ByteArray))/\W.cell? ⟨1,3,none⟩=some (.int .i64 2)/\W.cell? ⟨1,4,none⟩=some (.string (⟨#[108,97,110,99,122,111,115]⟩:ByteArray))/\W.cell? ⟨1,5,none⟩=some (.int .i64 3):=by
  obtain ⟨xs,m,_,rfl,hl,hlen,hel⟩:=DataW.trod_array Tryz.underlying188 h;have c2:Tryz.prog.cellsOf 187=2:=(by kernel_rfl);match xs,hlen with
  | [x0,x1,x2],_ =>
    have hx':=hx;simp only [Rows.laid_smalto_raw_kinds,List.map_cons,List.map_nil,DataW.agg.injEq,List.cons.injEq,and_true] at hx';obtain ⟨k0,k1,k2⟩:=hx';have g0:=ad8 (hel 0 (by decide)) k0;have g1:=ad8 (hel 1 (by decide)) k1;have g2:=ad8 (hel 2 (by decide)) k2;rw [c2] at g0 g1 g2;simp only [List.getElem?_take,List.getElem?_drop] at g0 g1 g2;simp at g0 g1 g2;simp only [World.var?_cell apT hv];exact ⟨g0.1,g0.2,g1.1,g1.2,g2.1,g2.2⟩
theorem apU:Tryz.prog.globalNamed "smalto/border.names"=some 0:=by kernel_rfl
theorem avO:(Tryz.prog.globals[0]?).map (·.type)=some 162:=by kernel_rfl
theorem ag3 {W:World} {v:Value} {n:Nat} {q:List MemPlace} {s:List UInt8} (h:DataW.trod (fun _=>()) Tryz.prog W 0 (fun _=>true) false n 9 [v]=some (.lit (.string s),q)):v = .string ⟨s.toArray⟩:=by
 obtain ⟨z,e0,e1,_⟩:=DataW.trod_string Tryz.underlying9 h;simp only [Prod.mk.injEq,DataW.lit.injEq,Lit.string.injEq] at e1;rw [str_eq e1.1.symm] at e0;simpa using e0
theorem amL {W:World} {fuel:Nat} {cs:Array Value} {x:DataW Unit × List MemPlace} (hv:W.var? Tryz.prog "smalto/border.names"=some cs)
    (h:DataW.trod (fun _=>()) Tryz.prog W 0 (fun _=>true) false fuel 162 cs.toList=some x) (hx:x.1=Rows.laid_smalto_border_names) :
    ∃ (a:Addr) (c:Nat),3<=c/\W.cell? ⟨0,0,none⟩=some (.slice (some a) 3 c)/\W.cell? a=some (.string (⟨#[99,108,97,109,112]⟩:ByteArray))/\W.cell? ⟨a.block,a.off+1,none⟩=some (.string (⟨#[109,105,114,114,111,114]⟩:ByteArray))/\W.cell? ⟨a.block,a.off+2,none⟩=some (.string (⟨#[119,114,97,112]⟩:ByteArray)):=by
  obtain ⟨d,p⟩:=x;simp only at hx;subst hx;obtain ⟨a,cap,e,hl,hc⟩:=open_row Tryz.underlying162 (show Tryz.prog.cellsOf 9=1 by kernel_rfl) h;obtain ⟨v0,n0,q0,c0,t0⟩:=hc 0 _ rfl;obtain ⟨v1,n1,q1,c1,t1⟩:=hc 1 _ rfl;obtain ⟨v2,n2,q2,c2,t2⟩:=hc 2 _ rfl;rw [ag3 t0] at c0;rw [ag3 t1] at c1;rw [ag3 t2] at c2;have e0:a.add 0=a:=(by cases a;rfl);rw [e0] at c0;have ec:cs[0]? = some (.slice (some a) 3 cap):=by
    have:=congrArg (fun l=>l[0]?) e;simpa using this
  exact ⟨a,cap,hl,by rw [World.var?_cell apU hv];exact ec,c0,c1,c2⟩
theorem anz {W:World} (h:laidMetH Tryz.prog [("smalto/border.names",Rows.laid_smalto_border_names),("smalto/raw.kinds",Rows.laid_smalto_raw_kinds)] W):GL W:=by
 rw [MakeChecks.laidMetH_plain _ _ _ (by kernel_rfl)] at h;obtain ⟨ps,⟨g,t,cs,fuel,p,q,hg,ht,hv,hd,⟨g2,t2,cs2,fuel2,p2,q2,hg2,ht2,hv2,hd2,_,_⟩,_⟩,_,_⟩:=h;obtain rfl:=Option.some.inj (apU.symm.trans hg);obtain rfl:=Option.some.inj (avO.symm.trans ht);obtain rfl:=Option.some.inj (apT.symm.trans hg2);obtain rfl:=Option.some.inj (avN.symm.trans ht2);exact ⟨amK hv2 hd2 rfl,amL hv hd rfl⟩
theorem akN (os:Os) (args:Array Value):laidMetH Tryz.prog [("smalto/border.names",Rows.laid_smalto_border_names),("smalto/raw.kinds",Rows.laid_smalto_raw_kinds)] ((World.laidAll Tryz.prog os [("smalto/border.names",Rows.laid_smalto_border_names),("smalto/raw.kinds",Rows.laid_smalto_raw_kinds)]).forCall (fun _ _=>0) ⟨#[],args,[]⟩).memory:=by
 rw [MakeChecks.laidMetH_plain _ _ _ (by kernel_rfl)];exact laidMet_laidAll _ (by kernel_rfl) (by kernel_rfl)
end Go.Proofs.YtpondkggmcmpfaaGreatDoor.T
namespace Go.Proofs.YtpondkggmcmpfaaGreatDoorW.PrintWords
open Go.ChangeShapes Go.WideShapes
end Go.Proofs.YtpondkggmcmpfaaGreatDoorW.PrintWords
