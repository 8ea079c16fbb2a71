/- Joined by wip/tools/bundle.py out of: QAx41 QAx43 TLaid WSized. -/
import Derived.Test.YtpondkggmcmpfaaGreatDoorBDirectNever0
import Derived.Test.YtpondkggmcmpfaaGreatDoorBDirectNever1
import Derived.Test.YtpondkggmcmpfaaGreatDoorBDirectNever14
import Derived.Test.YtpondkggmcmpfaaGreatDoorRows
import Derived.ProofKit
import Derived.OpenShut
import Derived.LaidMore
import Derived.Lay
import Derived.ChangeSame
import Derived.SizedLaws
import Derived.ChangeSlices
namespace Go.Proofs.YtpondkggmcmpfaaGreatDoor.QA
open Go.Proofs.YtpondkggmcmpfaaGreatDoor.T
open Go.RowKit Go.Proofs.YtpondkggmcmpfaaGreatDoorW.PrintWords Go.Proofs.YtpondkggmcmpfaaGreatDoorW.PrintLast Go.Proofs.YtpondkggmcmpfaaGreatDoorW.PrintMore
attribute [local go_sem] dV dP dQ fC fD
set_option linter.unusedVariables false
set_option linter.unusedSimpArgs false
mutual
def dL.j0:Nat→Int→Bool→Option (List Int × Int)
 | 0,_,_=>none
 | k+1,x0,x10=>if x10=true then (some (([]:List Int),7)) else (dL.l0 k ([]:List Int) (wrap64 ((wrap64 (2*x0))+1)) 0)
def dL.l0:Nat→List Int→Int→Int→Option (List Int × Int)
 | 0,_,_,_=>none
 | k+1,x4,x13,x14=>if x14 < x13 then (if x4.length < 17592186044416 then (dL.l0 k (x4 ++ [1]) x13 (wrap64 (x14+1))) else (none)) else ((bM.f k x4).bind fun asW=>(some (asW.1,asW.2)))
end
def dL.f (k:Nat) (a0:Int):Option (List Int × Int):=if a0 < 0 then (dL.j0 k a0 true) else (dL.j0 k a0 (decide (a0 > 511)))
set_option maxHeartbeats 8000000 in
set_option maxRecDepth 100000 in
theorem dL.calls (k:Nat) (a0:Int) (r1:List Int) (r2:Int) (w:World) (h:dL.f k a0=some (r1,r2)) :
  Calls Tryz.prog 95 #[.int .i64 a0] w fun e w'=>∃ v0_:Value,e = .returned (.tuple #[v0_,.int .i64 r2])∧Kd.R (Kd.int .i64) 2 w' w.heap.size (fun _=>True) v0_ r1∧Below w.heap.size w w':=by
 have HB:=aj.mk (Below.refl w.heap.size w)
 have H:=h
 clear h
 unfold dL.f at H
 have HC2:=aj.mk H
 clear H
 go_enter Tryz.func95,Tryz.ntmps95
 go_upto_region 1 with (fail)
 go_cut [10] (fun v10 wc=>∃ (kq:Nat) (wR:Bool),v10 = .bool wR∧aj (dL.j0 kq a0 wR=some (r1,r2))∧aj (kq≤k)∧aj (Below w.heap.size w wc))
 case first =>
  have H:=HC2.out
  clear HC2
  by_cases c3:a0 < 0
  ·rw [if_pos c3] at H
   have fQ:=decide_eq_true c3
   clear c3
   (first|rw [fQ]|(simp only [bY,dw];rw [fQ])|skip)
   have H':=aj.mk H
   clear H
   go_wp2
   go_meet
   case rel=>exact ⟨_,(true),zT,H',⟨by first|omega|exact Nat.le_refl _⟩,⟨zB⟩⟩
  ·rw [if_neg c3] at H
   have fQ:=decide_eq_false c3
   clear c3
   (first|rw [fQ]|(simp only [bY,dw];rw [fQ])|skip)
   have H':=aj.mk H
   clear H
   go_wp2
   go_meet
   case rel=>exact ⟨_,(decide (a0 > 511)),zT,H',⟨by first|omega|exact Nat.le_refl _⟩,⟨zB⟩⟩
 case rest =>
  clear HC2
  obtain ⟨kq,wR,rfl,HA,HJ1,HB⟩:=hcut
  cases kq with
  | zero=>exact absurd HA.out (by simp [dL.j0])
  | succ kj1 =>
   have H:=HA.out
   clear HA
   simp only [dL.j0] at H
   by_cases c4:wR=true
   ·subst c4
    rw [if_pos rfl] at H;try dsimp only at H
    simp only [Option.some.injEq,Prod.mk.injEq] at H
    obtain ⟨rfl,rfl⟩:=H
    go_wp2
    go_ret2
    exact ⟨_,zS,by first|exact Kd.jW _ _ _ _ _|exact Kd.qj _ _ _ _ _|exact Kd.oH _ _ _ _ _|exact Kd.qm _ _ _ _ _|exact Kd.pJ _ _ _ _ _,zB⟩
   ·replace c4:=Bool.eq_false_iff.mpr c4
    subst c4
    rw [if_neg (show ¬ (false=true) by decide)] at H;try dsimp only at H
    have H':=aj.mk H
    clear H
    go_wp2
    go_loopg [4,14] kj1 (fun kq v4 v14 w'=>∃ (wH:List Int) (aaf:Int),v14 = .int .i64 aaf∧aj (dL.l0 kq wH (wrap64 ((wrap64 (2*a0))+1)) aaf=some (r1,r2))∧aj (kq≤kj1)∧aj (Kd.R (Kd.int .i64) 2 w' w.heap.size (fun _=>True) v4 wH)∧aj (Below w.heap.size w w'))
    case atStart=>exact ⟨(([]:List Int)),(0),zT,H',⟨Nat.le_refl _⟩,⟨by first|exact Kd.jW _ _ _ _ _|exact Kd.qj _ _ _ _ _|exact Kd.oH _ _ _ _ _|exact Kd.qm _ _ _ _ _|exact Kd.pJ _ _ _ _ _⟩,⟨zB⟩⟩
    case round =>
     clear H'
     obtain ⟨wH,aaf,rfl,HA,HK2,agQ,HB⟩:=hrel
     cases gk with
     | zero=>exact absurd HA.out (by simp [dL.l0])
     | succ k2 =>
      have H:=HA.out
      clear HA
      simp only [dL.l0] at H
      by_cases c5:aaf < (wrap64 ((wrap64 (2*a0))+1))
      ·rw [if_pos c5] at H
       have gQ:=decide_eq_true c5
       clear c5
       by_cases c6:wH.length < 17592186044416
       ·rw [if_pos c6] at H
        have ay5:=aj.mk c6
        clear c6
        obtain ⟨avm,ahP⟩:∃ y_:List Int,y_=(wH ++ [1]):=⟨_,rfl⟩
        replace H:(dL.l0 k2 avm (wrap64 ((wrap64 (2*a0))+1)) (wrap64 (aaf+1)))=some (r1,r2):=by first|(rw [ahP];with_reducible exact H)|(have H2_:=(Option.bind_some _ _).symm.trans H;rw [ahP];with_reducible exact H2_)|(have H2_:=(Option.bind_some _ _).symm.trans H;with_reducible exact H2_)|with_reducible exact H|(rw [ahP];exact H)|exact H
        have awZ:=aj.mk ahP
        clear ahP
        have H':=aj.mk H
        clear H
        go_wp2_with (first|((with_reducible refine jP (b := .append) (xs := #[.tmp 16,.tmp 17]) rfl ?_);at_builtin;refine Kd.kS (Kd.int .i64) (w0:=w) w.heap.size rfl (.tmp 16) (.tmp 17) 44 2 (.int .i64 0) 8 rfl Tryz.underlying44 wK rfl (by decide) (by omega) u4 wH 1 [.int .i64 1] (fun _=>True) (fun _=>False) rfl rfl ?aP (fun _ hk=>hk.elim) ?aF ?aO ?aB ?aS ?aL ?_;(case aP=>exact rfl);(case aB=>exact zB);(case aF=>exact (fun _ _=>trivial));(case aO=>exact (by (with_reducible repeat (first|apply Kd.aK|apply Kd.aQ|apply Kd.aW));exact agQ.out));(case aS=>exact (bP zB));(case aL=>have:=ay5.out;omega);intro aEe w7 ho hb hg hat;rw [← awZ.out] at ho;obtain ⟨HB,aw0⟩:=zA2 hb ho;clear ho hb hg hat))
        go_roundg k2
        case measure=>have:=HJ1.out;have:=HK2.out;omega
        case rel=>exact ⟨(avm),(wrap64 (aaf+1)),zT,H',⟨by have:=HJ1.out;have:=HK2.out;omega⟩,⟨by (with_reducible repeat (first|apply Kd.aK|apply Kd.aQ|apply Kd.aW));exact aw0.out⟩,⟨zB⟩⟩
       ·rw [if_neg c6] at H
        exact absurd H (by simp)
      ·rw [if_neg c5] at H
       have gQ:=decide_eq_false c5
       clear c5
       replace H:=zO H
       obtain ⟨⟨ay6,ay7⟩,A8,H⟩:=H
       try dsimp only at H
       simp only [Option.some.injEq,Prod.mk.injEq] at H
       obtain ⟨rfl,rfl⟩:=H
       obtain ⟨Ao9,co9,eo9⟩:=Kd.fZ agQ.out
       subst eo9
       go_wp2_with (first|((with_reducible refine ay (f:=96) rfl ?_);refine aH (some 21) rfl rfl Tryz.func96 (by kernel_rfl) rfl #[.slice Ao9 wH.length co9] rfl zL ?_;(with_reducible refine (bM.calls k2 _ _ wH ay6 ay7 _ ?iR ?iT A8.out).mono ?_);(case iR=>repeat (first|exact (Kd.dB agQ.out).2.2|(with_reducible refine Kd.jk ?_ _)|(with_reducible refine Kd.jM ?_ _)|(with_reducible refine Kd.kY ?_)));(case iT=>exact (Kd.dB agQ.out).2.1);rintro e w10 ⟨aEf,rfl,ho0,hb⟩;refine ⟨_,rfl,?_⟩;obtain ⟨agQ,aw1,HB⟩:=zA3 (Kd.iL (by (with_reducible repeat (first|apply Kd.aK|apply Kd.aQ|apply Kd.aW));exact agQ.out) (Kd.jq ho0) hb) (Kd.fV (Kd.jX ho0 (Kd.lK (by (with_reducible repeat (first|apply Kd.aK|apply Kd.aQ|apply Kd.aW));exact agQ.out))) (bP zB)) (ak zB hb);(try clear hb);(try clear ho0)))
       go_ret2
       exact ⟨_,zS,by (with_reducible repeat (first|apply Kd.aK|apply Kd.aQ|apply Kd.aW));exact Kd.dO aw1.out (fun _ hk=>trivial),zB⟩
def pY.f (bn bT kM kN:Int) (iY je:List Int) (kX jY kK a1 a2:Int):Option (Int × Int):=if bn=3 then (some (jY,kK)) else (some (a1,a2))
set_option maxHeartbeats 8000000 in
set_option maxRecDepth 100000 in
theorem pY.calls (bn bT kM kN:Int) (nP:Option Addr) (nR:Nat) (iY:List Int) (oK:Option Addr) (oL:Nat) (je:List Int) (kX jY kK a1 a2 r1 r2:Int) (w:World) (zH:Kd.C (Kd.int .i64) w nP iY.length iY) (zI:iY.length≤nR) (zJ:Kd.C (Kd.int .i64) w oK je.length je) (zQ:je.length≤oL) (h:pY.f bn bT kM kN iY je kX jY kK a1 a2=some (r1,r2)) :
  Calls Tryz.prog 58 #[.agg #[.int .i64 bn,.int .i64 bT,.int .i64 kM,.int .i64 kN,.slice nP iY.length nR,.slice oK je.length oL,.int .i64 kX,.int .i64 jY,.int .i64 kK],.int .i64 a1,.int .i64 a2] w fun e w'=>e = .returned (.tuple #[.int .i64 r1,.int .i64 r2])∧Below w.heap.size w w':=by
 have aCz:=Tryz.underlying111
 have ahh:=aj.mk zH
 have ahi:=aj.mk zI
 clear zH zI
 have akd:=aj.mk zJ
 have ake:=aj.mk zQ
 clear zJ zQ
 have HB:=aj.mk (Below.refl w.heap.size w)
 have H:=h
 clear h
 unfold pY.f at H
 by_cases c4:bn=3
 ·rw [if_pos c4] at H
  have fB:(bn == 3)=true:=beq_iff_eq.mpr c4
  have aaI:(bn != 3)=false:=bne_eq_false_iff_eq.mpr c4
  clear c4
  simp only [Option.some.injEq,Prod.mk.injEq] at H
  obtain ⟨rfl,rfl⟩:=H
  go_enter Tryz.func58,Tryz.ntmps58
  go_wp2_with (first|((with_reducible refine bF (N:=3) rfl ?_);refine bG zR (N:=3) zR (cs := #[.int .i64 bn,.int .i64 bT,.int .i64 kM,.int .i64 kN,.slice nP iY.length nR,.slice oK je.length oL,.int .i64 kX,.int .i64 jY,.int .i64 kK]) (t:=111) zG ?_;intro ahQ hg w5 hbox hb;obtain ⟨HB,tq,ahR,ahS⟩:=zA4 (ak zB hb) hbox (zg hg zB) (zg hg zB);clear hb hbox hg;obtain ⟨_,_,_,_,_,_,_,_,_⟩:=zC9 tq.out;obtain ⟨_,_,_,_,_,_,_,_,_⟩:=zF9 tq.out))
  repeat (go_quiet (first|((with_reducible refine bF (N:=3) rfl ?_);refine bG zR (N:=3) zR (cs := #[.int .i64 bn,.int .i64 bT,.int .i64 kM,.int .i64 kN,.slice nP iY.length nR,.slice oK je.length oL,.int .i64 kX,.int .i64 jY,.int .i64 kK]) (t:=111) zG ?_;intro ahQ hg w5 hbox hb;obtain ⟨HB,tq,ahR,ahS⟩:=zA4 (ak zB hb) hbox (zg hg zB) (zg hg zB);clear hb hbox hg;obtain ⟨_,_,_,_,_,_,_,_,_⟩:=zC9 tq.out;obtain ⟨_,_,_,_,_,_,_,_,_⟩:=zF9 tq.out));try go_wp2_with (first|((with_reducible refine bF (N:=3) rfl ?_);refine bG zR (N:=3) zR (cs := #[.int .i64 bn,.int .i64 bT,.int .i64 kM,.int .i64 kN,.slice nP iY.length nR,.slice oK je.length oL,.int .i64 kX,.int .i64 jY,.int .i64 kK]) (t:=111) zG ?_;intro ahQ hg w5 hbox hb;obtain ⟨HB,tq,ahR,ahS⟩:=zA4 (ak zB hb) hbox (zg hg zB) (zg hg zB);clear hb hbox hg;obtain ⟨_,_,_,_,_,_,_,_,_⟩:=zC9 tq.out;obtain ⟨_,_,_,_,_,_,_,_,_⟩:=zF9 tq.out)))
  go_ret2
  exact ⟨zS,zB⟩
 ·rw [if_neg c4] at H
  have fB:(bn == 3)=false:=beq_eq_false_iff_ne.mpr c4
  have aaI:(bn != 3)=true:=bne_iff_ne.mpr c4
  simp only [Option.some.injEq,Prod.mk.injEq] at H
  obtain ⟨rfl,rfl⟩:=H
  go_enter Tryz.func58,Tryz.ntmps58
  go_wp2_with (first|((with_reducible refine bF (N:=3) rfl ?_);refine bG zR (N:=3) zR (cs := #[.int .i64 bn,.int .i64 bT,.int .i64 kM,.int .i64 kN,.slice nP iY.length nR,.slice oK je.length oL,.int .i64 kX,.int .i64 jY,.int .i64 kK]) (t:=111) zG ?_;intro ahQ hg w7 hbox hb;obtain ⟨HB,tq,ahR,ahS⟩:=zA4 (ak zB hb) hbox (zg hg zB) (zg hg zB);clear hb hbox hg;obtain ⟨_,_,_,_,_,_,_,_,_⟩:=zC9 tq.out;obtain ⟨_,_,_,_,_,_,_,_,_⟩:=zF9 tq.out))
  repeat (go_quiet (first|((with_reducible refine bF (N:=3) rfl ?_);refine bG zR (N:=3) zR (cs := #[.int .i64 bn,.int .i64 bT,.int .i64 kM,.int .i64 kN,.slice nP iY.length nR,.slice oK je.length oL,.int .i64 kX,.int .i64 jY,.int .i64 kK]) (t:=111) zG ?_;intro ahQ hg w7 hbox hb;obtain ⟨HB,tq,ahR,ahS⟩:=zA4 (ak zB hb) hbox (zg hg zB) (zg hg zB);clear hb hbox hg;obtain ⟨_,_,_,_,_,_,_,_,_⟩:=zC9 tq.out;obtain ⟨_,_,_,_,_,_,_,_,_⟩:=zF9 tq.out));try go_wp2_with (first|((with_reducible refine bF (N:=3) rfl ?_);refine bG zR (N:=3) zR (cs := #[.int .i64 bn,.int .i64 bT,.int .i64 kM,.int .i64 kN,.slice nP iY.length nR,.slice oK je.length oL,.int .i64 kX,.int .i64 jY,.int .i64 kK]) (t:=111) zG ?_;intro ahQ hg w7 hbox hb;obtain ⟨HB,tq,ahR,ahS⟩:=zA4 (ak zB hb) hbox (zg hg zB) (zg hg zB);clear hb hbox hg;obtain ⟨_,_,_,_,_,_,_,_,_⟩:=zC9 tq.out;obtain ⟨_,_,_,_,_,_,_,_,_⟩:=zF9 tq.out)))
  go_ret2
  exact ⟨zS,zB⟩
end Go.Proofs.YtpondkggmcmpfaaGreatDoor.QA
namespace Go.Proofs.YtpondkggmcmpfaaGreatDoor.QA
open Go.Proofs.YtpondkggmcmpfaaGreatDoor.T
open Go.RowKit Go.Proofs.YtpondkggmcmpfaaGreatDoorW.PrintWords Go.Proofs.YtpondkggmcmpfaaGreatDoorW.PrintLast Go.Proofs.YtpondkggmcmpfaaGreatDoorW.PrintMore
attribute [local go_sem] dV dP dQ fC fD
set_option linter.unusedVariables false
set_option linter.unusedSimpArgs false
end Go.Proofs.YtpondkggmcmpfaaGreatDoor.QA
namespace Go.Proofs.YtpondkggmcmpfaaGreatDoor.T
open Go.ChangeShapes Go.WideShapes Go.ChangeAt Go.RowKit
theorem apA:Tryz.prog.globalNamed "smalto/raw.kinds"=some 1:=by kernel_rfl
theorem avn:(Tryz.prog.globals[1]?).map (·.type)=some 188:=by kernel_rfl
theorem cell_of {cs:List Value} {a b i:Nat} {v:Value} {ws:List Value} (hi:i < b) (h:((cs.drop a).take b)=ws) (hv:ws[i]? = some v):cs[a+i]? = some v:=by
  rw [← h] at hv
  rw [List.getElem?_take,if_pos hi,List.getElem?_drop] at hv
  exact hv
theorem str_eq {s:ByteArray} {l:List UInt8} (h:s.data.toList=l):s=⟨l.toArray⟩:=by
  cases s with|mk d=>simp only at h;rw [← h]
theorem adX {W:World} {m:Nat} {cs:List Value} {s:List UInt8} {n:Int} {x:DataW Unit × List MemPlace}
    (h:DataW.trod (fun _=>()) Tryz.prog W 0 (fun _=>true) false m 187 cs=some x) (hx:x.1 = .agg [.lit (.string s),.lit (.int .i64 n)]) :
    cs[0]? = some (.string ⟨s.toArray⟩)∧cs[1]? = some (.int .i64 n):=by
  obtain ⟨y0,y1,k,rfl,hl,h0,h1⟩:=trod_struct2 Tryz.underlying187 h
  simp only [DataW.agg.injEq,List.cons.injEq,and_true] at hx
  obtain ⟨z,e0,e1,_⟩:=DataW.trod_string Tryz.underlying9 h0
  obtain ⟨q,f0,f1,_⟩:=DataW.trod_int Tryz.underlying2 h1
  rw [e1,f1] at hx
  simp only [DataW.lit.injEq,Lit.string.injEq,Lit.int.injEq,true_and] at hx
  obtain ⟨hs,rfl⟩:=hx
  rw [str_eq hs] at e0
  constructor
  · simpa using cell_of (i:=0) (of_decide_eq_true (by kernel_rfl)) e0 rfl
  · simpa using cell_of (i:=0) (of_decide_eq_true (by kernel_rfl)) f0 rfl
set_option maxRecDepth 100000 in
theorem amv {W:World} {fuel:Nat} {cs:Array Value} {x:DataW Unit × List MemPlace} (hv:W.var? Tryz.prog "smalto/raw.kinds"=some cs)
    (h:DataW.trod (fun _=>()) Tryz.prog W 0 (fun _=>true) false fuel 188 cs.toList=some x) (hx:x.1=Rows.laid_smalto_raw_kinds):W.cell? ⟨1,0,none⟩=some (.string (⟨#[98,111,120]⟩:ByteArray))∧W.cell? ⟨1,1,none⟩=some (.int .i64 0)∧W.cell? ⟨1,2,none⟩=some (.string (⟨#[99,117,98,105,99]⟩:ByteArray))∧W.cell? ⟨1,3,none⟩=some (.int .i64 2)∧W.cell? ⟨1,4,none⟩=some (.string (⟨#[108,97,110,99,122,111,115]⟩:ByteArray))∧W.cell? ⟨1,5,none⟩=some (.int .i64 3):=by
  obtain ⟨xs,m,_,rfl,hl,hlen,hel⟩:=DataW.trod_array Tryz.underlying188 h
  have c2:Tryz.prog.cellsOf 187=2:=by kernel_rfl
  match xs,hlen with
  | [x0,x1,x2],_ =>
    have hx':=hx
    simp only [Rows.laid_smalto_raw_kinds,List.map_cons,List.map_nil,DataW.agg.injEq,List.cons.injEq,and_true] at hx'
    obtain ⟨k0,k1,k2⟩:=hx'
    have g0:=adX (hel 0 (by decide)) k0
    have g1:=adX (hel 1 (by decide)) k1
    have g2:=adX (hel 2 (by decide)) k2
    rw [c2] at g0 g1 g2
    simp only [List.getElem?_take,List.getElem?_drop] at g0 g1 g2
    simp at g0 g1 g2
    simp only [World.var?_cell apA hv]
    exact ⟨g0.1,g0.2,g1.1,g1.2,g2.1,g2.2⟩
theorem apB:Tryz.prog.globalNamed "smalto/border.names"=some 0:=by kernel_rfl
theorem avo:(Tryz.prog.globals[0]?).map (·.type)=some 162:=by kernel_rfl
theorem agR {W:World} {v:Value} {n:Nat} {q:List MemPlace} {s:List UInt8} (h:DataW.trod (fun _=>()) Tryz.prog W 0 (fun _=>true) false n 9 [v]=some (.lit (.string s),q)):v = .string ⟨s.toArray⟩:=by
  obtain ⟨z,e0,e1,_⟩:=DataW.trod_string Tryz.underlying9 h
  simp only [Prod.mk.injEq,DataW.lit.injEq,Lit.string.injEq] at e1
  rw [str_eq e1.1.symm] at e0
  simpa using e0
theorem amw {W:World} {fuel:Nat} {cs:Array Value} {x:DataW Unit × List MemPlace} (hv:W.var? Tryz.prog "smalto/border.names"=some cs)
    (h:DataW.trod (fun _=>()) Tryz.prog W 0 (fun _=>true) false fuel 162 cs.toList=some x) (hx:x.1=Rows.laid_smalto_border_names) :
    ∃ (a:Addr) (c:Nat),3≤c∧W.cell? ⟨0,0,none⟩=some (.slice (some a) 3 c)∧W.cell? a=some (.string (⟨#[99,108,97,109,112]⟩:ByteArray))∧W.cell? ⟨a.block,a.off+1,none⟩=some (.string (⟨#[109,105,114,114,111,114]⟩:ByteArray))∧W.cell? ⟨a.block,a.off+2,none⟩=some (.string (⟨#[119,114,97,112]⟩:ByteArray)):=by
  obtain ⟨d,p⟩:=x
  simp only at hx
  subst hx
  obtain ⟨a,cap,e,hl,hc⟩:=open_row Tryz.underlying162 (show Tryz.prog.cellsOf 9=1 by kernel_rfl) h
  obtain ⟨v0,n0,q0,c0,t0⟩:=hc 0 _ rfl
  obtain ⟨v1,n1,q1,c1,t1⟩:=hc 1 _ rfl
  obtain ⟨v2,n2,q2,c2,t2⟩:=hc 2 _ rfl
  rw [agR t0] at c0
  rw [agR t1] at c1
  rw [agR t2] at c2
  have e0:a.add 0=a:=by cases a;rfl
  rw [e0] at c0
  have ec:cs[0]? = some (.slice (some a) 3 cap):=by
    have:=congrArg (fun l=>l[0]?) e
    simpa using this
  exact ⟨a,cap,hl,by rw [World.var?_cell apB hv];exact ec,c0,c1,c2⟩
theorem anb {W:World} (h:laidMetH Tryz.prog [("smalto/border.names",Rows.laid_smalto_border_names),("smalto/raw.kinds",Rows.laid_smalto_raw_kinds)] W):GL W:=by
  rw [MakeChecks.laidMetH_plain _ _ _ (by kernel_rfl)] at h
  obtain ⟨ps,⟨g,t,cs,fuel,p,q,hg,ht,hv,hd,⟨g2,t2,cs2,fuel2,p2,q2,hg2,ht2,hv2,hd2,_,_⟩,_⟩,_,_⟩:=h
  obtain rfl:=Option.some.inj (apB.symm.trans hg)
  obtain rfl:=Option.some.inj (avo.symm.trans ht)
  obtain rfl:=Option.some.inj (apA.symm.trans hg2)
  obtain rfl:=Option.some.inj (avn.symm.trans ht2)
  exact ⟨amv hv2 hd2 rfl,amw hv hd rfl⟩
theorem aky (os:Os) (args:Array Value):laidMetH Tryz.prog [("smalto/border.names",Rows.laid_smalto_border_names),("smalto/raw.kinds",Rows.laid_smalto_raw_kinds)] ((World.laidAll Tryz.prog os [("smalto/border.names",Rows.laid_smalto_border_names),("smalto/raw.kinds",Rows.laid_smalto_raw_kinds)]).forCall (fun _ _=>0) ⟨#[],args,[]⟩).memory:=by
  rw [MakeChecks.laidMetH_plain _ _ _ (by kernel_rfl)]
  exact laidMet_laidAll _ (by kernel_rfl) (by kernel_rfl)
end Go.Proofs.YtpondkggmcmpfaaGreatDoor.T
namespace Go.Proofs.YtpondkggmcmpfaaGreatDoorW.PrintWords
open Go.ChangeShapes Go.WideShapes
end Go.Proofs.YtpondkggmcmpfaaGreatDoorW.PrintWords
