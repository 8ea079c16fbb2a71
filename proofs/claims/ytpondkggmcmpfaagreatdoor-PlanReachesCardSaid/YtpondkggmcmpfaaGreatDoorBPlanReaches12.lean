/- Joined by wip/tools/bundle.py out of: QAx24 QAx25 QAx26 QAx27 QAx28 QAx29. -/
import Derived.Test.YtpondkggmcmpfaaGreatDoorBPlanReaches0
import Derived.Test.YtpondkggmcmpfaaGreatDoorBPlanReaches1
import Derived.Test.YtpondkggmcmpfaaGreatDoorBPlanReaches7
namespace Go.Proofs.YtpondkggmcmpfaaGreatDoor.QA
open Go.Proofs.YtpondkggmcmpfaaGreatDoor.T
open Go.RowKit Go.Proofs.YtpondkggmcmpfaaGreatDoorW.PrintWords Go.Proofs.YtpondkggmcmpfaaGreatDoorW.PrintLast Go.Proofs.YtpondkggmcmpfaaGreatDoorW.PrintMore
attribute [local go_sem] dV dQ dR eP eX
set_option linter.unusedVariables false
set_option linter.unusedSimpArgs false
def jQ.f (bJ dB kP nK:Int):Option (Int × Int):=if dB < nK then (some (IntKind.u64.wrap ((IntKind.u64.wrap (bJ - kP)) - 1),IntKind.u64.wrap (dB - nK))) else (some (IntKind.u64.wrap (bJ - kP),IntKind.u64.wrap (dB - nK)))
set_option maxHeartbeats 8000000 in
set_option maxRecDepth 100000 in
theorem jQ.calls (bJ dB kP nK r1 r2:Int) (w:World) (h:jQ.f bJ dB kP nK=some (r1,r2)) :
  Calls Tryz.prog 122 #[.agg #[.int .u64 bJ,.int .u64 dB],.agg #[.int .u64 kP,.int .u64 nK]] w fun e w'=>e = .returned (.agg #[.int .u64 r1,.int .u64 r2])∧Below w.heap.size w w':=by
 have xB:=Tryz.underlying179
 have HB:=aj.mk (Below.refl w.heap.size w)
 have H:=h
 clear h
 unfold jQ.f at H
 by_cases c3:dB < nK
 ·rw [if_pos c3] at H
  have fO:=decide_eq_true c3
  clear c3
  simp only [Option.some.injEq,Prod.mk.injEq] at H
  obtain ⟨rfl,rfl⟩:=H
  go_enter Tryz.func122,Tryz.ntmps122
  go_wp2_with (first|((with_reducible refine bM (N:=2) rfl ?_);refine bU zR (N:=2) zR (cs := #[.int .u64 bJ,.int .u64 dB]) (t:=179) zG ?_;intro ata hg w4 hbox hb;obtain ⟨HB,jR,atb,atc⟩:=zA4 (ak zB hb) hbox (zg hg zB) (zg hg zB);clear hb hbox hg)|((with_reducible refine bM (N:=3) rfl ?_);refine bU zR (N:=3) zR (cs := #[.int .u64 kP,.int .u64 nK]) (t:=179) zG ?_;intro atd hg w5 hbox hb;obtain ⟨jR,HB,mG,ate,atf,adI,adJ⟩:=zA7 (ay (zK jR) hb) (ak zB hb) hbox (zg hg zB) (zg hg zB) (zl hg (zK jR)) (zr hg (zK jR));clear hb hbox hg)|((with_reducible refine bM (N:=4) rfl ?_);refine bU zR (N:=4) zR (cs := #[.int .u64 0,.int .u64 0]) (t:=179) zG ?_;intro al3 hg w6 hbox hb;obtain ⟨jR,mG,HB,uw,atg,ath,adK,adL,adM,adN⟩:=adA (ay (zK jR) hb) (ay (zK mG) hb) (ak zB hb) hbox (zg hg zB) (zg hg zB) (zl hg (zK jR)) (zr hg (zK jR)) (zl hg (zK mG)) (zr hg (zK mG));clear hb hbox hg;have ar0:=adI.out;have ar1:=adJ.out;have ar2:=adK.out;have ar4:=adL.out;obtain ⟨_,_⟩:=zC2 jR.out;obtain ⟨_,_⟩:=zF2 jR.out;have ati:=adM.out;have atj:=adN.out;obtain ⟨_,_⟩:=zC2 mG.out;obtain ⟨_,_⟩:=zF2 mG.out)|((with_reducible refine bM (N:=5) rfl ?_);refine bU zR (N:=5) zR (cs := #[.int .u64 0,.int .u64 0]) (t:=179) zG ?_;intro atl hg w12 hbox hb;obtain ⟨jR,mG,uw,HB,agn,atm,atn,adO,adP,adQ,adR,tX,adS⟩:=afh (ay (zK jR) hb) (ay (zK mG) hb) (ay (zK uw) hb) (ak zB hb) hbox (zg hg zB) (zg hg zB) (zl hg (zK jR)) (zr hg (zK jR)) (zl hg (zK mG)) (zr hg (zK mG)) (zl hg (zK uw)) (zr hg (zK uw));clear hb hbox hg;have al4:=adP.out;have al5:=adO.out;have aqe:=adR.out;have aqf:=adQ.out;have ato:=adS.out;have atp:=tX.out;obtain ⟨_,_⟩:=zC2 agn.out;obtain ⟨_,_⟩:=zF2 agn.out;obtain ⟨_,_⟩:=zC2 jR.out;obtain ⟨_,_⟩:=zF2 jR.out;obtain ⟨_,_⟩:=zC2 mG.out;obtain ⟨_,_⟩:=zF2 mG.out;obtain ⟨_,_⟩:=zC2 uw.out;obtain ⟨_,_⟩:=zF2 uw.out))
  refine bodyPost_ret (results_cell_row rfl _ _ al3 179 #[.int .u64 (IntKind.u64.wrap ((IntKind.u64.wrap (bJ - kP)) - 1)),.int .u64 (IntKind.u64.wrap (dB - nK))] (0,0) _ rfl (by refine zD ?_;refine aY (cs := #[.int .u64 (IntKind.u64.wrap ((IntKind.u64.wrap (bJ - kP)) - 1)),.int .u64 0]) ?_ 1 _ rfl;refine zD ?_;refine aY (cs := #[.int .u64 0,.int .u64 0]) ?_ 0 _ rfl;refine zD ?_;refine iH ?_ tX.out _;refine zD ?_;refine iH ?_ tX.out _;refine zD ?_;refine iH ?_ tX.out _;refine zD ?_;exact uw.out) Tryz.underlying179 rfl (by kernel_rfl)) rfl ?_
  exact ⟨zS,zB⟩
 ·rw [if_neg c3] at H
  have fO:=decide_eq_false c3
  clear c3
  simp only [Option.some.injEq,Prod.mk.injEq] at H
  obtain ⟨rfl,rfl⟩:=H
  go_enter Tryz.func122,Tryz.ntmps122
  go_wp2_with (first|((with_reducible refine bM (N:=2) rfl ?_);refine bU zR (N:=2) zR (cs := #[.int .u64 bJ,.int .u64 dB]) (t:=179) zG ?_;intro ata hg w20 hbox hb;obtain ⟨HB,jR,atb,atc⟩:=zA4 (ak zB hb) hbox (zg hg zB) (zg hg zB);clear hb hbox hg)|((with_reducible refine bM (N:=3) rfl ?_);refine bU zR (N:=3) zR (cs := #[.int .u64 kP,.int .u64 nK]) (t:=179) zG ?_;intro atd hg w21 hbox hb;obtain ⟨jR,HB,mG,ate,atf,adI,adJ⟩:=zA7 (ay (zK jR) hb) (ak zB hb) hbox (zg hg zB) (zg hg zB) (zl hg (zK jR)) (zr hg (zK jR));clear hb hbox hg)|((with_reducible refine bM (N:=4) rfl ?_);refine bU zR (N:=4) zR (cs := #[.int .u64 0,.int .u64 0]) (t:=179) zG ?_;intro al3 hg w22 hbox hb;obtain ⟨jR,mG,HB,uw,atg,ath,adK,adL,adM,adN⟩:=adA (ay (zK jR) hb) (ay (zK mG) hb) (ak zB hb) hbox (zg hg zB) (zg hg zB) (zl hg (zK jR)) (zr hg (zK jR)) (zl hg (zK mG)) (zr hg (zK mG));clear hb hbox hg;have al6:=adI.out;have al7:=adJ.out;have ax6:=adK.out;have ax7:=adL.out;obtain ⟨_,_⟩:=zC2 jR.out;obtain ⟨_,_⟩:=zF2 jR.out;have atq:=adM.out;have atr:=adN.out;obtain ⟨_,_⟩:=zC2 mG.out;obtain ⟨_,_⟩:=zF2 mG.out)|((with_reducible refine bM (N:=5) rfl ?_);refine bU zR (N:=5) zR (cs := #[.int .u64 0,.int .u64 0]) (t:=179) zG ?_;intro atl hg w28 hbox hb;obtain ⟨jR,mG,uw,HB,agn,atm,atn,adO,adP,adQ,adR,tX,adS⟩:=afh (ay (zK jR) hb) (ay (zK mG) hb) (ay (zK uw) hb) (ak zB hb) hbox (zg hg zB) (zg hg zB) (zl hg (zK jR)) (zr hg (zK jR)) (zl hg (zK mG)) (zr hg (zK mG)) (zl hg (zK uw)) (zr hg (zK uw));clear hb hbox hg;have al8:=adP.out;have al9:=adO.out;have aqg:=adR.out;have aqh:=adQ.out;have ax8:=adS.out;have ax9:=tX.out;obtain ⟨_,_⟩:=zC2 agn.out;obtain ⟨_,_⟩:=zF2 agn.out;obtain ⟨_,_⟩:=zC2 jR.out;obtain ⟨_,_⟩:=zF2 jR.out;obtain ⟨_,_⟩:=zC2 mG.out;obtain ⟨_,_⟩:=zF2 mG.out;obtain ⟨_,_⟩:=zC2 uw.out;obtain ⟨_,_⟩:=zF2 uw.out))
  refine bodyPost_ret (results_cell_row rfl _ _ al3 179 #[.int .u64 (IntKind.u64.wrap (bJ - kP)),.int .u64 (IntKind.u64.wrap (dB - nK))] (0,0) _ rfl (by refine zD ?_;refine aY (cs := #[.int .u64 (IntKind.u64.wrap (bJ - kP)),.int .u64 0]) ?_ 1 _ rfl;refine zD ?_;refine aY (cs := #[.int .u64 0,.int .u64 0]) ?_ 0 _ rfl;refine zD ?_;refine iH ?_ tX.out _;refine zD ?_;refine iH ?_ tX.out _;refine zD ?_;exact uw.out) Tryz.underlying179 rfl (by kernel_rfl)) rfl ?_
  exact ⟨zS,zB⟩
end Go.Proofs.YtpondkggmcmpfaaGreatDoor.QA
namespace Go.Proofs.YtpondkggmcmpfaaGreatDoor.QA
open Go.Proofs.YtpondkggmcmpfaaGreatDoor.T
open Go.RowKit Go.Proofs.YtpondkggmcmpfaaGreatDoorW.PrintWords Go.Proofs.YtpondkggmcmpfaaGreatDoorW.PrintLast Go.Proofs.YtpondkggmcmpfaaGreatDoorW.PrintMore
attribute [local go_sem] dV dQ dR eP eX
set_option linter.unusedVariables false
set_option linter.unusedSimpArgs false
def fA.l0:Nat→Int→Int→Int→Int→Int→Int→Int→Int→Option (Int × Int × Int)
 | 0,_,_,_,_,_,_,_,_=>none
 | k+1,x1,x8,ahm,ahn,ale,alf,arj,alg=>if x8≥0 then ((fD.f ahm ahn x8).bind fun adT=>((dI.f arj alg adT).bind fun aeM=>((dI.f ale alf 0).bind fun aiP=>((gZ.f aeM.1 aeM.2 0 x1).bind fun aos=>(if aos=true then (fA.l0 k x1 (wrap64 (x8 - 1)) ahm ahn aiP.1 aiP.2 aeM.1 aeM.2) else ((jQ.f aeM.1 aeM.2 0 x1).bind fun aqi=>(fA.l0 k x1 (wrap64 (x8 - 1)) ahm ahn aiP.1 (IntKind.u64.wrap (aiP.2+1)) aqi.1 aqi.2))))))) else (some (ale,alf,alg))
def fA.f (k:Nat) (bJ dB a1:Int):Option (Int × Int × Int):=if a1=0 then (some (0,0,0)) else (fA.l0 k a1 127 bJ dB 0 0 0 0)
set_option maxHeartbeats 8000000 in
set_option maxRecDepth 100000 in
theorem fA.calls (k:Nat) (bJ dB a1 r1 r2 r3:Int) (w:World) (h:fA.f k bJ dB a1=some (r1,r2,r3)) :
  Calls Tryz.prog 172 #[.agg #[.int .u64 bJ,.int .u64 dB],.int .u64 a1] w fun e w'=>e = .returned (.tuple #[.agg #[.int .u64 r1,.int .u64 r2],.int .u64 r3])∧Below w.heap.size w w':=by
 have xB:=Tryz.underlying179
 have HB:=aj.mk (Below.refl w.heap.size w)
 have H:=h
 clear h
 unfold fA.f at H
 by_cases c3:a1=0
 ·rw [if_pos c3] at H
  have fO:(a1 == 0)=true:=beq_iff_eq.mpr c3
  have wO:(a1 != 0)=false:=bne_eq_false_iff_eq.mpr c3
  clear c3
  simp only [Option.some.injEq,Prod.mk.injEq] at H
  obtain ⟨rfl,rfl,rfl⟩:=H
  go_enter Tryz.func172,Tryz.ntmps172
  go_wp2_with (first|((with_reducible refine bM (N:=2) rfl ?_);refine bU zR (N:=2) zR (cs := #[.int .u64 bJ,.int .u64 dB]) (t:=179) zG ?_;intro aeN hg w4 hbox hb;obtain ⟨HB,eF,att,atu⟩:=zA4 (ak zB hb) hbox (zg hg zB) (zg hg zB);clear hb hbox hg)|((with_reducible refine bM (N:=4) rfl ?_);refine bU zR (N:=4) zR (cs := #[.int .u64 0,.int .u64 0]) (t:=179) zG ?_;intro vN hg w5 hbox hb;obtain ⟨eF,HB,gK,atv,atw,abI,abJ⟩:=zA7 (ay (zK eF) hb) (ak zB hb) hbox (zg hg zB) (zg hg zB) (zl hg (zK eF)) (zr hg (zK eF));clear hb hbox hg)|((with_reducible refine bM (N:=6) rfl ?_);refine bU zR (N:=6) zR (cs := #[.int .u64 0,.int .u64 0]) (t:=179) zG ?_;intro rZ hg w6 hbox hb;obtain ⟨eF,gK,HB,gy,atx,aty,aap,aaq,wu,oU⟩:=adA (ay (zK eF) hb) (ay (zK gK) hb) (ak zB hb) hbox (zg hg zB) (zg hg zB) (zl hg (zK eF)) (zr hg (zK eF)) (zl hg (zK gK)) (zr hg (zK gK));clear hb hbox hg;have ar0:=aaq.out;have ar1:=aap.out;have ar2:=oU.out;have ar4:=wu.out;obtain ⟨_,_⟩:=zC2 gy.out;obtain ⟨_,_⟩:=zF2 gy.out)|((with_reducible refine bM (N:=7) rfl ?_);refine bU zR (N:=7) zR (cs := #[.int .u64 0,.int .u64 0]) (t:=179) zG ?_;intro qH hg w10 hbox hb;obtain ⟨eF,gK,gy,HB,fB,atz,atA,ru,rC,mZ,kX,oV,qc⟩:=afh (ay (zK eF) hb) (ay (zK gK) hb) (ay (g:=rZ) (o := .cells #[.int .u64 0,.int .u64 0] 179 (0,0)) (by refine zD ?_;refine aY (cs := #[.int .u64 0,.int .u64 0]) ?_ 1 _ rfl;refine zD ?_;refine aY (cs := #[.int .u64 0,.int .u64 0]) ?_ 0 _ rfl;refine zD ?_;exact gy.out) hb) (ak zB hb) hbox (zg hg zB) (zg hg zB) (zl hg (zK eF)) (zr hg (zK eF)) (zl hg (zK gK)) (zr hg (zK gK)) ((by rw [hg];exact Nat.ne_of_lt (dJ (g:=rZ) (o := .cells #[.int .u64 0,.int .u64 0] 179 (0,0)) (by refine zD ?_;refine aY (cs := #[.int .u64 0,.int .u64 0]) ?_ 1 _ rfl;refine zD ?_;refine aY (cs := #[.int .u64 0,.int .u64 0]) ?_ 0 _ rfl;refine zD ?_;exact gy.out)):rZ≠qH)) ((by rw [hg];exact Nat.ne_of_gt (dJ (g:=rZ) (o := .cells #[.int .u64 0,.int .u64 0] 179 (0,0)) (by refine zD ?_;refine aY (cs := #[.int .u64 0,.int .u64 0]) ?_ 1 _ rfl;refine zD ?_;refine aY (cs := #[.int .u64 0,.int .u64 0]) ?_ 0 _ rfl;refine zD ?_;exact gy.out)):qH≠rZ));clear hb hbox hg;have atB:=rC.out;have atC:=ru.out;have atD:=kX.out;have atE:=mZ.out;have al4:=qc.out;have al5:=oV.out;obtain ⟨_,_⟩:=zC2 fB.out;obtain ⟨_,_⟩:=zF2 fB.out;obtain ⟨_,_⟩:=zC2 gy.out;obtain ⟨_,_⟩:=zF2 gy.out;have atF:=abJ.out;have atG:=abI.out;obtain ⟨_,_⟩:=zC2 gK.out;obtain ⟨_,_⟩:=zF2 gK.out))
  refine bodyPost_ret (af5 rfl _ _ vN 179 #[.int .u64 0,.int .u64 0] (0,0) _ rfl (by refine zD ?_;refine aY (cs := #[.int .u64 0,.int .u64 0]) ?_ 1 _ rfl;refine zD ?_;refine aY (cs := #[.int .u64 0,.int .u64 0]) ?_ 0 _ rfl;refine zD ?_;refine iH ?_ mZ.out _;refine zD ?_;refine iH ?_ mZ.out _;refine zD ?_;exact gK.out) Tryz.underlying179 rfl (by kernel_rfl)) rfl ?_
  exact ⟨zS,zB⟩
 ·rw [if_neg c3] at H
  have fO:(a1 == 0)=false:=beq_eq_false_iff_ne.mpr c3
  have wO:(a1 != 0)=true:=bne_iff_ne.mpr c3
  have H':=aj.mk H
  clear H
  go_enter Tryz.func172,Tryz.ntmps172
  go_wp2_with (first|((with_reducible refine bM (N:=2) rfl ?_);refine bU zR (N:=2) zR (cs := #[.int .u64 bJ,.int .u64 dB]) (t:=179) zG ?_;intro aeN hg w18 hbox hb;obtain ⟨HB,eF,att,atu⟩:=zA4 (ak zB hb) hbox (zg hg zB) (zg hg zB);clear hb hbox hg)|((with_reducible refine bM (N:=4) rfl ?_);refine bU zR (N:=4) zR (cs := #[.int .u64 0,.int .u64 0]) (t:=179) zG ?_;intro vN hg w19 hbox hb;obtain ⟨eF,HB,gK,atv,atw,abI,abJ⟩:=zA7 (ay (zK eF) hb) (ak zB hb) hbox (zg hg zB) (zg hg zB) (zl hg (zK eF)) (zr hg (zK eF));clear hb hbox hg)|((with_reducible refine bM (N:=6) rfl ?_);refine bU zR (N:=6) zR (cs := #[.int .u64 0,.int .u64 0]) (t:=179) zG ?_;intro rZ hg w20 hbox hb;obtain ⟨eF,gK,HB,gy,atx,aty,aap,aaq,wu,oU⟩:=adA (ay (zK eF) hb) (ay (zK gK) hb) (ak zB hb) hbox (zg hg zB) (zg hg zB) (zl hg (zK eF)) (zr hg (zK eF)) (zl hg (zK gK)) (zr hg (zK gK));clear hb hbox hg;have aya:=aaq.out;have ayb:=aap.out;have aqj:=oU.out;have aqk:=wu.out;obtain ⟨_,_⟩:=zC2 gy.out;obtain ⟨_,_⟩:=zF2 gy.out)|((with_reducible refine bM (N:=7) rfl ?_);refine bU zR (N:=7) zR (cs := #[.int .u64 0,.int .u64 0]) (t:=179) zG ?_;intro qH hg w24 hbox hb;obtain ⟨eF,gK,gy,HB,fB,atz,atA,ru,rC,mZ,kX,oV,qc⟩:=afh (ay (zK eF) hb) (ay (zK gK) hb) (ay (g:=rZ) (o := .cells #[.int .u64 0,.int .u64 0] 179 (0,0)) (by refine zD ?_;refine aY (cs := #[.int .u64 0,.int .u64 0]) ?_ 1 _ rfl;refine zD ?_;refine aY (cs := #[.int .u64 0,.int .u64 0]) ?_ 0 _ rfl;refine zD ?_;exact gy.out) hb) (ak zB hb) hbox (zg hg zB) (zg hg zB) (zl hg (zK eF)) (zr hg (zK eF)) (zl hg (zK gK)) (zr hg (zK gK)) ((by rw [hg];exact Nat.ne_of_lt (dJ (g:=rZ) (o := .cells #[.int .u64 0,.int .u64 0] 179 (0,0)) (by refine zD ?_;refine aY (cs := #[.int .u64 0,.int .u64 0]) ?_ 1 _ rfl;refine zD ?_;refine aY (cs := #[.int .u64 0,.int .u64 0]) ?_ 0 _ rfl;refine zD ?_;exact gy.out)):rZ≠qH)) ((by rw [hg];exact Nat.ne_of_gt (dJ (g:=rZ) (o := .cells #[.int .u64 0,.int .u64 0] 179 (0,0)) (by refine zD ?_;refine aY (cs := #[.int .u64 0,.int .u64 0]) ?_ 1 _ rfl;refine zD ?_;refine aY (cs := #[.int .u64 0,.int .u64 0]) ?_ 0 _ rfl;refine zD ?_;exact gy.out)):qH≠rZ));clear hb hbox hg;have atH:=rC.out;have atI:=ru.out;have atq:=kX.out;have atr:=mZ.out;have ayc:=qc.out;have ayd:=oV.out;obtain ⟨_,_⟩:=zC2 fB.out;obtain ⟨_,_⟩:=zF2 fB.out))
  go_loopg [8] k (fun kq v8 w'=>∃ (gY:Int) (nV:Int) (ni:Int) (lW:Int) (kJ:Int),v8 = .int .i64 gY∧aj (fA.l0 kq a1 gY bJ dB nV ni lW kJ=some (r1,r2,r3))∧aj (kq≤k)∧aj (w'.heap[aeN]? = some (.cells #[.int .u64 bJ,.int .u64 dB] 179 (0,0)))∧aj (w'.heap[vN]? = some (.cells #[.int .u64 0,.int .u64 0] 179 (0,0)))∧aj (w'.heap[rZ]? = some (.cells #[.int .u64 nV,.int .u64 ni] 179 (0,0)))∧aj (w'.heap[qH]? = some (.cells #[.int .u64 lW,.int .u64 kJ] 179 (0,0)))∧aj (Below w.heap.size w w'))
  case atStart=>exact ⟨(127),(0),(0),(0),(0),zT,H',⟨Nat.le_refl _⟩,⟨zK eF⟩,⟨zK gK⟩,⟨zK gy⟩,⟨by refine zD ?_;refine aY (cs := #[.int .u64 0,.int .u64 0]) ?_ 1 _ rfl;refine zD ?_;refine aY (cs := #[.int .u64 0,.int .u64 0]) ?_ 0 _ rfl;refine zD ?_;exact fB.out⟩,⟨zB⟩⟩
  case round =>
   clear H'
   obtain ⟨gY,nV,ni,lW,kJ,rfl,HA,HK1,eF,gK,gy,fB,HB⟩:=hrel
   cases gk with
   | zero=>exact absurd HA.out (by simp [fA.l0])
   | succ k1 =>
    have H:=HA.out
    clear HA
    simp only [fA.l0] at H
    by_cases c29:gY≥0
    ·rw [if_pos c29] at H
     have ama:=decide_eq_true c29
     clear c29
     replace H:=zO H
     obtain ⟨adT,A30,H⟩:=H
     try dsimp only at H
     replace H:=zO H
     obtain ⟨⟨yG,zu⟩,A31,H⟩:=H
     try dsimp only at H
     replace H:=zO H
     obtain ⟨⟨acV,afv⟩,A32,H⟩:=H
     try dsimp only at H
     replace H:=zO H
     obtain ⟨aos,A33,H⟩:=H
     try dsimp only at H
     by_cases c34:aos=true
     ·subst c34
      rw [if_pos rfl] at H;try dsimp only at H
      have H':=aj.mk H
      clear H
      try go_wp2
      obtain ⟨eF,gK,gy,fB,HB⟩:=zA5 (jq eF.out) (jq gK.out) (jq gy.out) (jq fB.out) (bg HB.out)
      refine acn (n:=6) (S:=fun w'=>w'.cell? ⟨qH,0,none⟩=some (.int .u64 lW)∧w'.cell? ⟨qH,1,none⟩=some (.int .u64 kJ)∧w'.cell? ⟨aeN,0,none⟩=some (.int .u64 bJ)∧w'.cell? ⟨aeN,1,none⟩=some (.int .u64 dB)) (ds:=[5]) #[false,false,false,false,false,false] (by kernel_rfl) rfl rfl ⟨(au fB.out 0).trans rfl,(au fB.out 1).trans rfl,(au eF.out 0).trans rfl,(au eF.out 1).trans rfl⟩ (fun hHeld => ?_)
      generalize wr.drew=w35 at eF gK gy fB HB hHeld ⊢
      refine xq (i:=2) (N:=some 20) (v := ?_) (a' := ?_) #[false,false,true,false,false,false] rfl rfl (by kernel_rfl) (fun _ _ _ h=>h) (Or.inl ⟨by rfl,?_⟩) ?_ ?_
      rotate_left
      ·intro w'
       go_simp
       with_reducible rfl
      rotate_left
      ·simp only [Act.put,List.setIfInBounds_toArray,List.set_cons_zero,List.set_cons_succ,bZ,dA]
       rfl
      refine yx (i:=0) (N:=some 18) (v := ?_) (a' := ?_) #[true,false,true,false,false,false] rfl rfl (by kernel_rfl) (fun _ _ _ h=>h) (Or.inl ⟨by rfl,?_⟩) hHeld ?_ ?_
      rotate_left
      ·rintro w' ⟨s0,s1,s2,s3⟩
       go_simp
       with_reducible rfl
      rotate_left
      ·simp only [Act.put,List.setIfInBounds_toArray,List.set_cons_zero,List.set_cons_succ,bZ,dA]
       rfl
      refine yx (i:=1) (N:=some 19) (v := ?_) (a' := ?_) #[true,true,true,false,false,false] rfl rfl (by kernel_rfl) (fun _ _ _ h=>h) (Or.inl ⟨by rfl,?_⟩) hHeld ?_ ?_
      rotate_left
      ·rintro w' ⟨s0,s1,s2,s3⟩
       go_simp
       with_reducible rfl
      rotate_left
      ·simp only [Act.put,List.setIfInBounds_toArray,List.set_cons_zero,List.set_cons_succ,bZ,dA]
       rfl
      refine aa9 (i:=3) (N:=some 21) #[true,true,true,true,false,false] rfl rfl (by kernel_rfl) (by decide) (fun K hK => ?_)
      refine zV Tryz.func121 (by kernel_rfl) rfl #[.agg #[.int .u64 bJ,.int .u64 dB],.int .i64 gY] (by rfl) rfl rfl zL ?_
      with_reducible refine (fD.calls bJ dB gY adT _ A30.out).mono ?_
      rintro e w36 ⟨rfl,hb⟩
      refine ⟨_,rfl,?_⟩
      obtain ⟨eF,gK,gy,fB,HB⟩:=zA5 (ay (zK eF) hb) (ay (zK gK) hb) (ay (zK gy) hb) (ay (zK fB) hb) (ak zB hb)
      (try clear hb)
      (try clear hb2)
      (try clear hk)
      (try clear hi)
      refine hK.out _ _ ⟨(au fB.out 0).trans rfl,(au fB.out 1).trans rfl,(au eF.out 0).trans rfl,(au eF.out 1).trans rfl⟩ (fun hHeld => ?_)
      clear hK K
      refine zU (a' := ?_) ?_ ?_
      rotate_left
      ·show Act.put _ (some 21) _=_
       simp only [Act.put,List.setIfInBounds_toArray,List.set_cons_zero,List.set_cons_succ,bZ,dA]
       rfl
      refine aa9 (i:=4) (N:=some 22) #[true,true,true,true,true,false] rfl rfl (by kernel_rfl) (by decide) (fun K hK => ?_)
      refine zV Tryz.func119 (by kernel_rfl) rfl #[.agg #[.int .u64 lW,.int .u64 kJ],.int .u64 adT] (by rfl) rfl rfl zL ?_
      with_reducible refine (dI.calls lW kJ adT yG zu _ A31.out).mono ?_
      rintro e w37 ⟨rfl,hb⟩
      refine ⟨_,rfl,?_⟩
      obtain ⟨eF,gK,gy,fB,HB⟩:=zA5 (ay (zK eF) hb) (ay (zK gK) hb) (ay (zK gy) hb) (ay (zK fB) hb) (ak zB hb)
      (try clear hb)
      (try clear hb2)
      (try clear hk)
      (try clear hi)
      refine hK.out _ _ ⟨(au fB.out 0).trans rfl,(au fB.out 1).trans rfl,(au eF.out 0).trans rfl,(au eF.out 1).trans rfl⟩ (fun hHeld => ?_)
      clear hK K
      refine zU (a' := ?_) ?_ ?_
      rotate_left
      ·show Act.put _ (some 22) _=_
       simp only [Act.put,List.setIfInBounds_toArray,List.set_cons_zero,List.set_cons_succ,bZ,dA]
       rfl
      refine aiM (i:=5) (N:=none) #[true,true,true,true,true,true] rfl rfl (by kernel_rfl) (by decide) (fun K hK => ?_)
      have aAy:w37.cell? ⟨qH,0,none⟩=some (.int .u64 lW):=(au fB.out 0).trans rfl
      have aye:=aN fB.out 0
      have awM:=ru.out
      have awN:=mZ.out
      have awO:=oV.out
      have awP:=rC.out
      have awQ:=kX.out
      have awR:=qc.out
      have aAz:w37.cell? ⟨qH,1,none⟩=some (.int .u64 kJ):=(au fB.out 1).trans rfl
      have ayf:=aN fB.out 1
      have awS:=ru.out
      have awT:=mZ.out
      have awU:=oV.out
      have awV:=rC.out
      have awW:=kX.out
      have awX:=qc.out
      refine af4 (w1 := ?_) (by rfl) rfl ?_ ?_
      rotate_left
      ·go_simp
       rfl
      refine hK.out _ _ ?_
      clear hK K
      refine aeD (by kernel_rfl) ?_
      have aql:=aaq.out
      have aqm:=aap.out
      have atJ:=oU.out
      have atK:=wu.out
      have ayg:=oV.out
      have ayh:=qc.out
      obtain ⟨_,_⟩:=zC2 gy.out
      obtain ⟨_,_⟩:=zF2 gy.out
      try go_wp2_with (first|((with_reducible refine aA (f:=119) rfl ?_);refine aH (some 24) rfl rfl Tryz.func119 (by kernel_rfl) rfl #[.agg #[.int .u64 nV,.int .u64 ni],.int .u64 0] rfl zL ?_;(with_reducible refine (dI.calls nV ni 0 acV afv _ A32.out).mono ?_);rintro e w44 ⟨rfl,hb⟩;refine ⟨_,rfl,?_⟩;obtain ⟨eF,gK,gy,fB,HB⟩:=zA5 (ay (zK eF) hb) (ay (zK gK) hb) (ay (zK gy) hb) (ay (g:=qH) (o := .cells #[.int .u64 yG,.int .u64 zu] 179 (0,0)) (by refine zD ?_;refine aY (cs := #[.int .u64 yG,.int .u64 kJ]) ?_ 1 _ rfl;refine zD ?_;refine aY (cs := #[.int .u64 lW,.int .u64 kJ]) ?_ 0 _ rfl;refine zD ?_;exact fB.out) hb) (ak zB hb);(try clear hb);obtain ⟨_,_⟩:=zC2 gy.out;obtain ⟨_,_⟩:=zF2 gy.out;have aqn:=rC.out;have aqo:=ru.out;have atL:=kX.out;have atM:=mZ.out;obtain ⟨_,_⟩:=zC2 fB.out;obtain ⟨_,_⟩:=zF2 fB.out)|((with_reducible refine aA (f:=123) rfl ?_);refine aH (some 28) rfl rfl Tryz.func123 (by kernel_rfl) rfl #[.agg #[.int .u64 yG,.int .u64 zu],.agg #[.int .u64 0,.int .u64 a1]] rfl zL ?_;(with_reducible refine (gZ.calls yG zu 0 a1 true _ A33.out).mono ?_);rintro e w49 ⟨rfl,hb⟩;refine ⟨_,rfl,?_⟩;obtain ⟨eF,gK,gy,fB,HB⟩:=zA5 (ay (zK eF) hb) (ay (zK gK) hb) (ay (g:=rZ) (o := .cells #[.int .u64 acV,.int .u64 afv] 179 (0,0)) (by refine zD ?_;refine aY (cs := #[.int .u64 acV,.int .u64 ni]) ?_ 1 _ rfl;refine zD ?_;refine aY (cs := #[.int .u64 nV,.int .u64 ni]) ?_ 0 _ rfl;refine zD ?_;exact gy.out) hb) (ay (zK fB) hb) (ak zB hb);(try clear hb)))
      go_roundg k1
      case measure=>have:=HK1.out;omega
      case rel=>exact ⟨(wrap64 (gY - 1)),(acV),(afv),(yG),(zu),zT,H',⟨by have:=HK1.out;omega⟩,⟨zK eF⟩,⟨zK gK⟩,⟨zK gy⟩,⟨zK fB⟩,⟨zB⟩⟩
     ·replace c34:=Bool.eq_false_iff.mpr c34
      subst c34
      rw [if_neg (show ¬ (false=true) by decide)] at H;try dsimp only at H
      replace H:=zO H
      obtain ⟨⟨aot,ar5⟩,A50,H⟩:=H
      try dsimp only at H
      have H':=aj.mk H
      clear H
      try go_wp2
      obtain ⟨eF,gK,gy,fB,HB⟩:=zA5 (jq eF.out) (jq gK.out) (jq gy.out) (jq fB.out) (bg HB.out)
      refine acn (n:=6) (S:=fun w'=>w'.cell? ⟨qH,0,none⟩=some (.int .u64 lW)∧w'.cell? ⟨qH,1,none⟩=some (.int .u64 kJ)∧w'.cell? ⟨aeN,0,none⟩=some (.int .u64 bJ)∧w'.cell? ⟨aeN,1,none⟩=some (.int .u64 dB)) (ds:=[5]) #[false,false,false,false,false,false] (by kernel_rfl) rfl rfl ⟨(au fB.out 0).trans rfl,(au fB.out 1).trans rfl,(au eF.out 0).trans rfl,(au eF.out 1).trans rfl⟩ (fun hHeld => ?_)
      generalize wr.drew=w51 at eF gK gy fB HB hHeld ⊢
      refine xq (i:=2) (N:=some 20) (v := ?_) (a' := ?_) #[false,false,true,false,false,false] rfl rfl (by kernel_rfl) (fun _ _ _ h=>h) (Or.inl ⟨by rfl,?_⟩) ?_ ?_
      rotate_left
      ·intro w'
       go_simp
       with_reducible rfl
      rotate_left
      ·simp only [Act.put,List.setIfInBounds_toArray,List.set_cons_zero,List.set_cons_succ,bZ,dA]
       rfl
      refine yx (i:=0) (N:=some 18) (v := ?_) (a' := ?_) #[true,false,true,false,false,false] rfl rfl (by kernel_rfl) (fun _ _ _ h=>h) (Or.inl ⟨by rfl,?_⟩) hHeld ?_ ?_
      rotate_left
      ·rintro w' ⟨s0,s1,s2,s3⟩
       go_simp
       with_reducible rfl
      rotate_left
      ·simp only [Act.put,List.setIfInBounds_toArray,List.set_cons_zero,List.set_cons_succ,bZ,dA]
       rfl
      refine yx (i:=1) (N:=some 19) (v := ?_) (a' := ?_) #[true,true,true,false,false,false] rfl rfl (by kernel_rfl) (fun _ _ _ h=>h) (Or.inl ⟨by rfl,?_⟩) hHeld ?_ ?_
      rotate_left
      ·rintro w' ⟨s0,s1,s2,s3⟩
       go_simp
       with_reducible rfl
      rotate_left
      ·simp only [Act.put,List.setIfInBounds_toArray,List.set_cons_zero,List.set_cons_succ,bZ,dA]
       rfl
      refine aa9 (i:=3) (N:=some 21) #[true,true,true,true,false,false] rfl rfl (by kernel_rfl) (by decide) (fun K hK => ?_)
      refine zV Tryz.func121 (by kernel_rfl) rfl #[.agg #[.int .u64 bJ,.int .u64 dB],.int .i64 gY] (by rfl) rfl rfl zL ?_
      with_reducible refine (fD.calls bJ dB gY adT _ A30.out).mono ?_
      rintro e w52 ⟨rfl,hb⟩
      refine ⟨_,rfl,?_⟩
      obtain ⟨eF,gK,gy,fB,HB⟩:=zA5 (ay (zK eF) hb) (ay (zK gK) hb) (ay (zK gy) hb) (ay (zK fB) hb) (ak zB hb)
      (try clear hb)
      (try clear hb2)
      (try clear hk)
      (try clear hi)
      refine hK.out _ _ ⟨(au fB.out 0).trans rfl,(au fB.out 1).trans rfl,(au eF.out 0).trans rfl,(au eF.out 1).trans rfl⟩ (fun hHeld => ?_)
      clear hK K
      refine zU (a' := ?_) ?_ ?_
      rotate_left
      ·show Act.put _ (some 21) _=_
       simp only [Act.put,List.setIfInBounds_toArray,List.set_cons_zero,List.set_cons_succ,bZ,dA]
       rfl
      refine aa9 (i:=4) (N:=some 22) #[true,true,true,true,true,false] rfl rfl (by kernel_rfl) (by decide) (fun K hK => ?_)
      refine zV Tryz.func119 (by kernel_rfl) rfl #[.agg #[.int .u64 lW,.int .u64 kJ],.int .u64 adT] (by rfl) rfl rfl zL ?_
      with_reducible refine (dI.calls lW kJ adT yG zu _ A31.out).mono ?_
      rintro e w53 ⟨rfl,hb⟩
      refine ⟨_,rfl,?_⟩
      obtain ⟨eF,gK,gy,fB,HB⟩:=zA5 (ay (zK eF) hb) (ay (zK gK) hb) (ay (zK gy) hb) (ay (zK fB) hb) (ak zB hb)
      (try clear hb)
      (try clear hb2)
      (try clear hk)
      (try clear hi)
      refine hK.out _ _ ⟨(au fB.out 0).trans rfl,(au fB.out 1).trans rfl,(au eF.out 0).trans rfl,(au eF.out 1).trans rfl⟩ (fun hHeld => ?_)
      clear hK K
      refine zU (a' := ?_) ?_ ?_
      rotate_left
      ·show Act.put _ (some 22) _=_
       simp only [Act.put,List.setIfInBounds_toArray,List.set_cons_zero,List.set_cons_succ,bZ,dA]
       rfl
      refine aiM (i:=5) (N:=none) #[true,true,true,true,true,true] rfl rfl (by kernel_rfl) (by decide) (fun K hK => ?_)
      have aAA:w53.cell? ⟨qH,0,none⟩=some (.int .u64 lW):=(au fB.out 0).trans rfl
      have ayi:=aN fB.out 0
      have awY:=ru.out
      have awZ:=mZ.out
      have aw0:=oV.out
      have aw1:=rC.out
      have aw2:=kX.out
      have aw3:=qc.out
      have aAB:w53.cell? ⟨qH,1,none⟩=some (.int .u64 kJ):=(au fB.out 1).trans rfl
      have ayj:=aN fB.out 1
      have aw4:=ru.out
      have aw5:=mZ.out
      have aw6:=oV.out
      have aw7:=rC.out
      have aw8:=kX.out
      have aw9:=qc.out
      refine af4 (w1 := ?_) (by rfl) rfl ?_ ?_
      rotate_left
      ·go_simp
       rfl
      refine hK.out _ _ ?_
      clear hK K
      refine aeD (by kernel_rfl) ?_
      have ayk:=aaq.out
      have ayl:=aap.out
      have aym:=oU.out
      have ayn:=wu.out
      have atN:=oV.out
      have atO:=qc.out
      obtain ⟨_,_⟩:=zC2 gy.out
      obtain ⟨_,_⟩:=zF2 gy.out
      try go_wp2_with (first|((with_reducible refine aA (f:=119) rfl ?_);refine aH (some 24) rfl rfl Tryz.func119 (by kernel_rfl) rfl #[.agg #[.int .u64 nV,.int .u64 ni],.int .u64 0] rfl zL ?_;(with_reducible refine (dI.calls nV ni 0 acV afv _ A32.out).mono ?_);rintro e w60 ⟨rfl,hb⟩;refine ⟨_,rfl,?_⟩;obtain ⟨eF,gK,gy,fB,HB⟩:=zA5 (ay (zK eF) hb) (ay (zK gK) hb) (ay (zK gy) hb) (ay (g:=qH) (o := .cells #[.int .u64 yG,.int .u64 zu] 179 (0,0)) (by refine zD ?_;refine aY (cs := #[.int .u64 yG,.int .u64 kJ]) ?_ 1 _ rfl;refine zD ?_;refine aY (cs := #[.int .u64 lW,.int .u64 kJ]) ?_ 0 _ rfl;refine zD ?_;exact fB.out) hb) (ak zB hb);(try clear hb);obtain ⟨_,_⟩:=zC2 gy.out;obtain ⟨_,_⟩:=zF2 gy.out;have atP:=rC.out;have atQ:=ru.out;have atS:=kX.out;have atT:=mZ.out;obtain ⟨_,_⟩:=zC2 fB.out;obtain ⟨_,_⟩:=zF2 fB.out)|((with_reducible refine aA (f:=123) rfl ?_);refine aH (some 28) rfl rfl Tryz.func123 (by kernel_rfl) rfl #[.agg #[.int .u64 yG,.int .u64 zu],.agg #[.int .u64 0,.int .u64 a1]] rfl zL ?_;(with_reducible refine (gZ.calls yG zu 0 a1 false _ A33.out).mono ?_);rintro e w65 ⟨rfl,hb⟩;refine ⟨_,rfl,?_⟩;obtain ⟨eF,gK,gy,fB,HB⟩:=zA5 (ay (zK eF) hb) (ay (zK gK) hb) (ay (g:=rZ) (o := .cells #[.int .u64 acV,.int .u64 afv] 179 (0,0)) (by refine zD ?_;refine aY (cs := #[.int .u64 acV,.int .u64 ni]) ?_ 1 _ rfl;refine zD ?_;refine aY (cs := #[.int .u64 nV,.int .u64 ni]) ?_ 0 _ rfl;refine zD ?_;exact gy.out) hb) (ay (zK fB) hb) (ak zB hb);(try clear hb);obtain ⟨_,_⟩:=zC2 fB.out;obtain ⟨_,_⟩:=zF2 fB.out)|((with_reducible refine aA (f:=122) rfl ?_);refine aH (some 33) rfl rfl Tryz.func122 (by kernel_rfl) rfl #[.agg #[.int .u64 yG,.int .u64 zu],.agg #[.int .u64 0,.int .u64 a1]] rfl zL ?_;(with_reducible refine (jQ.calls yG zu 0 a1 aot ar5 _ A50.out).mono ?_);rintro e w67 ⟨rfl,hb⟩;refine ⟨_,rfl,?_⟩;obtain ⟨eF,gK,gy,fB,HB⟩:=zA5 (ay (zK eF) hb) (ay (zK gK) hb) (ay (zK gy) hb) (ay (zK fB) hb) (ak zB hb);(try clear hb);obtain ⟨_,_⟩:=zC2 fB.out;obtain ⟨_,_⟩:=zF2 fB.out;obtain ⟨_,_⟩:=zC2 gy.out;obtain ⟨_,_⟩:=zF2 gy.out))
      go_roundg k1
      case measure=>have:=HK1.out;omega
      case rel=>exact ⟨(wrap64 (gY - 1)),(acV),(IntKind.u64.wrap (afv+1)),(aot),(ar5),zT,H',⟨by have:=HK1.out;omega⟩,⟨zK eF⟩,⟨zK gK⟩,⟨by refine zD ?_;refine aY (cs := #[.int .u64 acV,.int .u64 afv]) ?_ 1 _ rfl;refine zD ?_;refine iH ?_ oV.out _;refine zD ?_;refine iH ?_ oV.out _;refine zD ?_;exact gy.out⟩,⟨by refine zD ?_;refine iH ?_ qc.out _;refine zD ?_;refine aY (cs := #[.int .u64 aot,.int .u64 zu]) ?_ 1 _ rfl;refine zD ?_;refine aY (cs := #[.int .u64 yG,.int .u64 zu]) ?_ 0 _ rfl;refine zD ?_;exact fB.out⟩,⟨zB⟩⟩
    ·rw [if_neg c29] at H
     have ama:=decide_eq_false c29
     clear c29
     simp only [Option.some.injEq,Prod.mk.injEq] at H
     obtain ⟨rfl,rfl,rfl⟩:=H
     try go_wp2
     obtain ⟨eF,gK,gy,fB,HB⟩:=zA5 (jq eF.out) (jq gK.out) (jq gy.out) (jq fB.out) (bg HB.out)
     refine acn (n:=5) (S:=fun w'=>w'.cell? ⟨rZ,0,none⟩=some (.int .u64 nV)∧w'.cell? ⟨rZ,1,none⟩=some (.int .u64 ni)∧w'.cell? ⟨qH,0,none⟩=some (.int .u64 lW)∧w'.cell? ⟨qH,1,none⟩=some (.int .u64 kJ)) (ds:=[]) #[false,false,false,false,false] (by kernel_rfl) rfl rfl ⟨(au gy.out 0).trans rfl,(au gy.out 1).trans rfl,(au fB.out 0).trans rfl,(au fB.out 1).trans rfl⟩ (fun hHeld => ?_)
     generalize wr.drew=w70 at eF gK gy fB HB hHeld ⊢
     refine xq (i:=1) (N:=some 39) (v := ?_) (a' := ?_) #[false,true,false,false,false] rfl rfl (by kernel_rfl) (fun _ _ _ h=>h) (Or.inl ⟨by rfl,?_⟩) ?_ ?_
     rotate_left
     ·intro w'
      go_simp
      with_reducible rfl
     rotate_left
     ·simp only [Act.put,List.setIfInBounds_toArray,List.set_cons_zero,List.set_cons_succ,bZ,dA]
      rfl
     refine yx (i:=0) (N:=some 38) (v := ?_) (a' := ?_) #[true,true,false,false,false] rfl rfl (by kernel_rfl) (fun _ _ _ h=>h) (Or.inl ⟨by rfl,?_⟩) hHeld ?_ ?_
     rotate_left
     ·rintro w' ⟨s0,s1,s2,s3⟩
      go_simp
      with_reducible rfl
     rotate_left
     ·simp only [Act.put,List.setIfInBounds_toArray,List.set_cons_zero,List.set_cons_succ,bZ,dA]
      rfl
     refine yx (i:=2) (N:=some 40) (v := ?_) (a' := ?_) #[true,true,true,false,false] rfl rfl (by kernel_rfl) (fun _ _ _ h=>h) (Or.inl ⟨by rfl,?_⟩) hHeld ?_ ?_
     rotate_left
     ·rintro w' ⟨s0,s1,s2,s3⟩
      go_simp
      with_reducible rfl
     rotate_left
     ·simp only [Act.put,List.setIfInBounds_toArray,List.set_cons_zero,List.set_cons_succ,bZ,dA]
      rfl
     refine aa9 (i:=3) (N:=none) #[true,true,true,true,false] rfl rfl (by kernel_rfl) (by decide) (fun K hK => ?_)
     have aAC:w70.cell? ⟨vN,0,none⟩=some (.int .u64 0):=(au gK.out 0).trans rfl
     have ayo:=aN gK.out 0
     have axa:=abI.out
     have axb:=oU.out
     have axc:=kX.out
     have axd:=abJ.out
     have axe:=wu.out
     have axf:=mZ.out
     have aAD:w70.cell? ⟨vN,1,none⟩=some (.int .u64 0):=(au gK.out 1).trans rfl
     have ayp:=aN gK.out 1
     have axg:=abI.out
     have axh:=oU.out
     have axi:=kX.out
     have axj:=abJ.out
     have axk:=wu.out
     have axl:=mZ.out
     refine af4 (w1 := ?_) (by rfl) rfl ?_ ?_
     rotate_left
     ·go_simp
      rfl
     refine hK.out _ _ ⟨((cell_far (p:=⟨vN,_,none⟩) oU.out _).trans (((cell_far (p:=⟨vN,_,none⟩) oU.out _).trans (hHeld.1)))),((cell_far (p:=⟨vN,_,none⟩) oU.out _).trans (((cell_far (p:=⟨vN,_,none⟩) oU.out _).trans (hHeld.2.1)))),((cell_far (p:=⟨vN,_,none⟩) kX.out _).trans (((cell_far (p:=⟨vN,_,none⟩) kX.out _).trans (hHeld.2.2.1)))),((cell_far (p:=⟨vN,_,none⟩) kX.out _).trans (((cell_far (p:=⟨vN,_,none⟩) kX.out _).trans (hHeld.2.2.2))))⟩ (fun hHeld => ?_)
     clear hK K
     refine xq (i:=4) (N:=some 5) (v := ?_) (a' := ?_) #[true,true,true,true,true] rfl rfl (by kernel_rfl) (fun _ _ _ h=>h) (Or.inl ⟨by rfl,?_⟩) ?_ ?_
     rotate_left
     ·intro w'
      go_simp
      with_reducible rfl
     rotate_left
     ·simp only [Act.put,List.setIfInBounds_toArray,List.set_cons_zero,List.set_cons_succ,bZ,dA]
      rfl
     refine aeD (by kernel_rfl) ?_
     try go_wp2
     refine bodyPost_ret (af5 rfl _ _ vN 179 #[.int .u64 nV,.int .u64 ni] (0,0) _ rfl (by refine zD ?_;refine aY (cs := #[.int .u64 nV,.int .u64 0]) ?_ 1 _ rfl;refine zD ?_;refine aY (cs := #[.int .u64 0,.int .u64 0]) ?_ 0 _ rfl;refine zD ?_;exact gK.out) Tryz.underlying179 rfl (by kernel_rfl)) rfl ?_
     exact ⟨zS,zB⟩
end Go.Proofs.YtpondkggmcmpfaaGreatDoor.QA
namespace Go.Proofs.YtpondkggmcmpfaaGreatDoor.QA
open Go.Proofs.YtpondkggmcmpfaaGreatDoor.T
open Go.RowKit Go.Proofs.YtpondkggmcmpfaaGreatDoorW.PrintWords Go.Proofs.YtpondkggmcmpfaaGreatDoorW.PrintLast Go.Proofs.YtpondkggmcmpfaaGreatDoorW.PrintMore
attribute [local go_sem] dV dQ dR eP eX
set_option linter.unusedVariables false
set_option linter.unusedSimpArgs false
def gQ.j0:Nat→Bool→Bool→Int→Int→Option (Int)
 | 0,_,_,_,_=>none
 | k+1,x2,x10,alh,ali=>if x10=true then ((gI.f alh ali 0 1).bind fun aqp=>((bP.f k aqp.1 aqp.2 x2).bind fun aou=>(some aou))) else ((bP.f k alh ali x2).bind fun aov=>(some aov))
def gQ.f (k:Nat) (bJ dB a1:Int) (a2:Bool):Option (Int):=(fA.f k bJ dB a1).bind fun agp=>((dI.f 0 agp.2.2 0).bind fun aiQ=>((gZ.f aiQ.1 aiQ.2 0 a1).bind fun amb=>(if a2=true then ((gZ.f 0 a1 aiQ.1 aiQ.2).bind fun amc=>(gQ.j0 k a2 amc agp.1 agp.2.1)) else (gQ.j0 k a2 (!amb) agp.1 agp.2.1))))
set_option maxHeartbeats 8000000 in
set_option maxRecDepth 100000 in
theorem gQ.calls (k:Nat) (bJ dB a1:Int) (a2:Bool) (r:Int) (w:World) (h:gQ.f k bJ dB a1 a2=some r) :
  Calls Tryz.prog 149 #[.agg #[.int .u64 bJ,.int .u64 dB],.int .u64 a1,.bool a2] w fun e w'=>e = .returned (.int .i64 r)∧Below w.heap.size w w':=by
 have xB:=Tryz.underlying179
 have HB:=aj.mk (Below.refl w.heap.size w)
 have H:=h
 clear h
 unfold gQ.f at H
 replace H:=zO H
 obtain ⟨⟨ab6,ab7,aow⟩,A4,H⟩:=H
 try dsimp only at H
 replace H:=zO H
 obtain ⟨⟨adU,afw⟩,A5,H⟩:=H
 try dsimp only at H
 replace H:=zO H
 obtain ⟨amb,A6,H⟩:=H
 try dsimp only at H
 have HC7:=aj.mk H
 clear H
 go_enter Tryz.func149,Tryz.ntmps149
 go_upto_if 25 with (first|((with_reducible refine bM (N:=3) rfl ?_);refine bU zR (N:=3) zR (cs := #[.int .u64 bJ,.int .u64 dB]) (t:=179) zG ?_;intro atU hg w8 hbox hb;obtain ⟨HB,lG,ayq,ayr⟩:=zA4 (ak zB hb) hbox (zg hg zB) (zg hg zB);clear hb hbox hg;obtain ⟨_,_⟩:=zC2 lG.out;obtain ⟨_,_⟩:=zF2 lG.out)|((with_reducible refine aA (f:=172) rfl ?_);refine aH (some 14) rfl rfl Tryz.func172 (by kernel_rfl) rfl #[.agg #[.int .u64 bJ,.int .u64 dB],.int .u64 a1] rfl zL ?_;(with_reducible refine (fA.calls k bJ dB a1 ab6 ab7 aow _ A4.out).mono ?_);rintro e w10 ⟨rfl,hb⟩;refine ⟨_,rfl,?_⟩;obtain ⟨lG,HB⟩:=zA2 (ay (zK lG) hb) (ak zB hb);(try clear hb))|((with_reducible refine bM (N:=7) rfl ?_);refine bU zR (N:=7) zR (cs := #[.int .u64 0,.int .u64 0]) (t:=179) zG ?_;intro amd hg w11 hbox hb;obtain ⟨lG,HB,lH,ays,ayt,adV,adW⟩:=zA7 (ay (zK lG) hb) (ak zB hb) hbox (zg hg zB) (zg hg zB) (zl hg (zK lG)) (zr hg (zK lG));clear hb hbox hg;have atD:=adW.out;have atE:=adV.out;obtain ⟨_,_⟩:=zC2 lH.out;obtain ⟨_,_⟩:=zF2 lH.out)|((with_reducible refine aA (f:=119) rfl ?_);refine aH (some 19) rfl rfl Tryz.func119 (by kernel_rfl) rfl #[.agg #[.int .u64 0,.int .u64 aow],.int .u64 0] rfl zL ?_;(with_reducible refine (dI.calls 0 aow 0 adU afw _ A5.out).mono ?_);rintro e w14 ⟨rfl,hb⟩;refine ⟨_,rfl,?_⟩;obtain ⟨lG,lH,HB⟩:=zA3 (ay (zK lG) hb) (ay (g:=amd) (o := .cells #[.int .u64 ab6,.int .u64 ab7] 179 (0,0)) (by refine zD ?_;refine aY (cs := #[.int .u64 ab6,.int .u64 0]) ?_ 1 _ rfl;refine zD ?_;refine aY (cs := #[.int .u64 0,.int .u64 0]) ?_ 0 _ rfl;refine zD ?_;exact lH.out) hb) (ak zB hb);(try clear hb))|((with_reducible refine bM (N:=9) rfl ?_);refine bU zR (N:=9) zR (cs := #[.int .u64 0,.int .u64 0]) (t:=179) zG ?_;intro aqr hg w15 hbox hb;obtain ⟨lG,lH,HB,rD,ayu,ayv,aib,aic,abK,abL⟩:=adA (ay (zK lG) hb) (ay (zK lH) hb) (ak zB hb) hbox (zg hg zB) (zg hg zB) (zl hg (zK lG)) (zr hg (zK lG)) (zl hg (zK lH)) (zr hg (zK lH));clear hb hbox hg;have atF:=aic.out;have atG:=aib.out;have atV:=abL.out;have atW:=abK.out;obtain ⟨_,_⟩:=zC2 rD.out;obtain ⟨_,_⟩:=zF2 rD.out)|((with_reducible refine aA (f:=123) rfl ?_);refine aH (some 23) rfl rfl Tryz.func123 (by kernel_rfl) rfl #[.agg #[.int .u64 adU,.int .u64 afw],.agg #[.int .u64 0,.int .u64 a1]] rfl zL ?_;(with_reducible refine (gZ.calls adU afw 0 a1 amb _ A6.out).mono ?_);rintro e w19 ⟨rfl,hb⟩;refine ⟨_,rfl,?_⟩;obtain ⟨lG,lH,rD,HB⟩:=zA4 (ay (zK lG) hb) (ay (zK lH) hb) (ay (g:=aqr) (o := .cells #[.int .u64 adU,.int .u64 afw] 179 (0,0)) (by refine zD ?_;refine aY (cs := #[.int .u64 adU,.int .u64 0]) ?_ 1 _ rfl;refine zD ?_;refine aY (cs := #[.int .u64 0,.int .u64 0]) ?_ 0 _ rfl;refine zD ?_;exact rD.out) hb) (ak zB hb);(try clear hb)))
 (try simp only [Act.put,List.setIfInBounds_toArray,List.set_cons_zero,List.set_cons_succ])
 go_cut [10] (fun v10 wc=>∃ (kq:Nat) (aiR:Bool),v10 = .bool aiR∧aj (gQ.j0 kq a2 aiR ab6 ab7=some r)∧aj (kq≤k)∧aj (wc.heap[atU]? = some (.cells #[.int .u64 bJ,.int .u64 dB] 179 (0,0)))∧aj (wc.heap[amd]? = some (.cells #[.int .u64 ab6,.int .u64 ab7] 179 (0,0)))∧aj (wc.heap[aqr]? = some (.cells #[.int .u64 adU,.int .u64 afw] 179 (0,0)))∧aj (Below w.heap.size w wc))
 case first =>
  have H:=HC7.out
  clear HC7
  by_cases c20:a2=true
  ·subst c20
   rw [if_pos rfl] at H;try dsimp only at H
   replace H:=zO H
   obtain ⟨amc,A21,H⟩:=H
   try dsimp only at H
   have H':=aj.mk H
   clear H
   have aqj:=aic.out
   have aqk:=aib.out
   have al6:=abL.out
   have al7:=abK.out
   obtain ⟨_,_⟩:=zC2 rD.out
   obtain ⟨_,_⟩:=zF2 rD.out
   go_wp2_with (first|((with_reducible refine aA (f:=123) rfl ?_);refine aH (some 29) rfl rfl Tryz.func123 (by kernel_rfl) rfl #[.agg #[.int .u64 0,.int .u64 a1],.agg #[.int .u64 adU,.int .u64 afw]] rfl zL ?_;(with_reducible refine (gZ.calls 0 a1 adU afw amc _ A21.out).mono ?_);rintro e w25 ⟨rfl,hb⟩;refine ⟨_,rfl,?_⟩;obtain ⟨lG,lH,rD,HB⟩:=zA4 (ay (zK lG) hb) (ay (zK lH) hb) (ay (zK rD) hb) (ak zB hb);(try clear hb)))
   go_meet
   case rel=>exact ⟨_,(amc),zT,H',⟨by first|omega|exact Nat.le_refl _⟩,⟨zK lG⟩,⟨zK lH⟩,⟨zK rD⟩,⟨zB⟩⟩
  ·replace c20:=Bool.eq_false_iff.mpr c20
   subst c20
   rw [if_neg (show ¬ (false=true) by decide)] at H;try dsimp only at H
   have H':=aj.mk H
   clear H
   go_wp2
   go_meet
   case rel=>exact ⟨_,(!amb),zT,H',⟨by first|omega|exact Nat.le_refl _⟩,⟨zK lG⟩,⟨zK lH⟩,⟨zK rD⟩,⟨zB⟩⟩
 case rest =>
  clear HC7
  obtain ⟨kq,aiR,rfl,HA,HJ6,lG,lH,rD,HB⟩:=hcut
  cases kq with
  | zero=>exact absurd HA.out (by simp [gQ.j0])
  | succ kj6 =>
   have H:=HA.out
   clear HA
   simp only [gQ.j0] at H
   by_cases c26:aiR=true
   ·subst c26
    rw [if_pos rfl] at H;try dsimp only at H
    replace H:=zO H
    obtain ⟨⟨ajG,ame⟩,A27,H⟩:=H
    try dsimp only at H
    replace H:=zO H
    obtain ⟨aou,A28,H⟩:=H
    try dsimp only at H
    obtain rfl:=Option.some.inj H
    have al8:=adW.out
    have al9:=adV.out
    have aqg:=abK.out
    have aqh:=abL.out
    obtain ⟨_,_⟩:=zC2 lH.out
    obtain ⟨_,_⟩:=zF2 lH.out
    go_wp2_with (first|((with_reducible refine aA (f:=124) rfl ?_);refine aH (some 33) rfl rfl Tryz.func124 (by kernel_rfl) rfl #[.agg #[.int .u64 ab6,.int .u64 ab7],.agg #[.int .u64 0,.int .u64 1]] rfl zL ?_;(with_reducible refine (gI.calls ab6 ab7 0 1 ajG ame _ A27.out).mono ?_);rintro e w32 ⟨rfl,hb⟩;refine ⟨_,rfl,?_⟩;obtain ⟨lG,lH,rD,HB⟩:=zA4 (ay (zK lG) hb) (ay (zK lH) hb) (ay (zK rD) hb) (ak zB hb);(try clear hb);obtain ⟨_,_⟩:=zC2 lH.out;obtain ⟨_,_⟩:=zF2 lH.out)|((with_reducible refine aA (f:=125) rfl ?_);refine aH (some 36) rfl rfl Tryz.func125 (by kernel_rfl) rfl #[.agg #[.int .u64 ajG,.int .u64 ame],.bool a2] rfl zL ?_;(with_reducible refine (bP.calls kj6 ajG ame a2 aou _ A28.out).mono ?_);rintro e w34 ⟨rfl,hb⟩;refine ⟨_,rfl,?_⟩;obtain ⟨lG,lH,rD,HB⟩:=zA4 (ay (zK lG) hb) (ay (g:=amd) (o := .cells #[.int .u64 ajG,.int .u64 ame] 179 (0,0)) (by refine zD ?_;refine aY (cs := #[.int .u64 ajG,.int .u64 ab7]) ?_ 1 _ rfl;refine zD ?_;refine aY (cs := #[.int .u64 ab6,.int .u64 ab7]) ?_ 0 _ rfl;refine zD ?_;exact lH.out) hb) (ay (zK rD) hb) (ak zB hb);(try clear hb)))
    go_ret
    exact ⟨zS,zB⟩
   ·replace c26:=Bool.eq_false_iff.mpr c26
    subst c26
    rw [if_neg (show ¬ (false=true) by decide)] at H;try dsimp only at H
    replace H:=zO H
    obtain ⟨aov,A35,H⟩:=H
    try dsimp only at H
    obtain rfl:=Option.some.inj H
    have ayw:=adW.out
    have ayx:=adV.out
    have ayy:=abK.out
    have ayz:=abL.out
    obtain ⟨_,_⟩:=zC2 lH.out
    obtain ⟨_,_⟩:=zF2 lH.out
    go_wp2_with (first|((with_reducible refine aA (f:=125) rfl ?_);refine aH (some 36) rfl rfl Tryz.func125 (by kernel_rfl) rfl #[.agg #[.int .u64 ab6,.int .u64 ab7],.bool a2] rfl zL ?_;(with_reducible refine (bP.calls kj6 ab6 ab7 a2 aov _ A35.out).mono ?_);rintro e w39 ⟨rfl,hb⟩;refine ⟨_,rfl,?_⟩;obtain ⟨lG,lH,rD,HB⟩:=zA4 (ay (zK lG) hb) (ay (zK lH) hb) (ay (zK rD) hb) (ak zB hb);(try clear hb)))
    go_ret
    exact ⟨zS,zB⟩
def aX.f (k:Nat) (a0 a1 a2:Int):Option (Int):=if a2=0 then (some 0) else ((dL.f a0).bind fun ajH=>((dL.f a1).bind fun ajI=>((dO.f k ajH ajI).bind fun aqs=>((dL.f a2).bind fun ajJ=>((gQ.f k aqs.1 aqs.2 ajJ (((decide (a0 < 0)) != (decide (a1 < 0))) != (decide (a2 < 0)))).bind fun aox=>(some aox))))))
def aX.T5:Bool × List (List Nat × List Nat):=(true,[([],[]),([],[]),([1],[1]),([],[]),([],[]),([4],[4]),([3,5],[3,5]),([0,2,6,2],[0,2,6]),([7,7,0,1,2,3,4,5,6,7],[7])])
def aX.B5:List Nat:=[0,0,2,0,0,16,56,127,255]
theorem aX.avs:rV .any (opsOf Tryz.f118 5)=aX.T5:=by kernel_rfl
theorem aX.atX:acs aX.T5.2 aX.B5=true:=by kernel_rfl
set_option maxHeartbeats 8000000 in
set_option maxRecDepth 100000 in
theorem aX.calls (k:Nat) (a0 a1 a2 r:Int) (w:World) (h:aX.f k a0 a1 a2=some r) :
  Calls Tryz.prog 118 #[.int .i64 a0,.int .i64 a1,.int .i64 a2] w fun e w'=>e = .returned (.int .i64 r)∧Below w.heap.size w w':=by
 have xB:=Tryz.underlying179
 have HB:=aj.mk (Below.refl w.heap.size w)
 have H:=h
 clear h
 unfold aX.f at H
 by_cases c4:a2=0
 ·rw [if_pos c4] at H
  have fU:(a2 == 0)=true:=beq_iff_eq.mpr c4
  have acK:(a2 != 0)=false:=bne_eq_false_iff_eq.mpr c4
  clear c4
  obtain rfl:=Option.some.inj H
  go_enter Tryz.func118,Tryz.ntmps118
  go_wp2
  go_ret
  exact ⟨zS,zB⟩
 ·rw [if_neg c4] at H
  have fU:(a2 == 0)=false:=beq_eq_false_iff_ne.mpr c4
  have acK:(a2 != 0)=true:=bne_iff_ne.mpr c4
  replace H:=zO H
  obtain ⟨ajH,A5,H⟩:=H
  try dsimp only at H
  replace H:=zO H
  obtain ⟨ajI,A6,H⟩:=H
  try dsimp only at H
  replace H:=zO H
  obtain ⟨⟨acW,adX⟩,A7,H⟩:=H
  try dsimp only at H
  replace H:=zO H
  obtain ⟨ajJ,A8,H⟩:=H
  try dsimp only at H
  replace H:=zO H
  obtain ⟨aox,A9,H⟩:=H
  try dsimp only at H
  obtain rfl:=Option.some.inj H
  go_enter Tryz.func118,Tryz.ntmps118
  try go_wp2_with (first|((with_reducible refine aA (f:=120) rfl ?_);refine aH (some 12) rfl rfl Tryz.func120 (by kernel_rfl) rfl #[.int .i64 a0] rfl zL ?_;(with_reducible refine (dL.calls a0 ajH _ A5.out).mono ?_);rintro e w' ⟨rfl,⟨nd,rfl⟩⟩;refine ⟨_,rfl,?_⟩)|((with_reducible refine aA (f:=120) rfl ?_);refine aH (some 14) rfl rfl Tryz.func120 (by kernel_rfl) rfl #[.int .i64 a1] rfl zL ?_;(with_reducible refine (dL.calls a1 ajI _ A6.out).mono ?_);rintro e w' ⟨rfl,⟨nd,rfl⟩⟩;refine ⟨_,rfl,?_⟩)|((with_reducible refine aA (f:=148) rfl ?_);refine aH (some 15) rfl rfl Tryz.func148 (by kernel_rfl) rfl #[.int .u64 ajH,.int .u64 ajI] rfl zL ?_;(with_reducible refine (dO.calls k ajH ajI acW adX _ A7.out).mono ?_);rintro e w10 ⟨rfl,hb⟩;refine ⟨_,rfl,?_⟩;replace HB:=aj.mk (ak zB hb);(try clear hb))|((with_reducible refine bM (N:=7) rfl ?_);refine bU zR (N:=7) zR (cs := #[.int .u64 0,.int .u64 0]) (t:=179) zG ?_;intro aaW hg w11 hbox hb;obtain ⟨HB,su,ayA,ayB⟩:=zA4 (ak zB hb) hbox (zg hg zB) (zg hg zB);clear hb hbox hg;obtain ⟨_,_⟩:=zC2 su.out;obtain ⟨_,_⟩:=zF2 su.out))
  have n0_:aj (((w11.setCell ⟨aaW,0,none⟩ (.int .u64 acW)).setCell ⟨aaW,1,none⟩ (.int .u64 adX)).heap[aaW]? = some (.cells #[.int .u64 acW,.int .u64 adX] 179 (0,0))):=⟨by refine zD ?_;refine aY (cs := #[.int .u64 acW,.int .u64 0]) ?_ 1 _ rfl;refine zD ?_;refine aY (cs := #[.int .u64 0,.int .u64 0]) ?_ 0 _ rfl;refine zD ?_;exact su.out⟩
  have n1_:aj (Below w.heap.size w ((w11.setCell ⟨aaW,0,none⟩ (.int .u64 acW)).setCell ⟨aaW,1,none⟩ (.int .u64 adX))):=⟨zB⟩
  (try clear su)
  (try clear HB)
  generalize ((w11.setCell ⟨aaW,0,none⟩ (.int .u64 acW)).setCell ⟨aaW,1,none⟩ (.int .u64 adX))=w13 at n0_ n1_ ⊢
  have su:=n0_
  have HB:=n1_
  clear n0_ n1_
  obtain ⟨su,HB⟩:=zA2 (jq su.out) (bg HB.out)
  refine acn (n:=9) (S:=fun w'=>w'.cell? ⟨aaW,0,none⟩=some (.int .u64 acW)∧w'.cell? ⟨aaW,1,none⟩=some (.int .u64 adX)) (ds:=[]) #[false,false,false,false,false,false,false,false,false] (by kernel_rfl) rfl rfl ⟨(au su.out 0).trans rfl,(au su.out 1).trans rfl⟩ (fun hHeld => ?_);refine anr aX.avs aX.atX (fun HT_ HW_ => ?_)
  generalize w13.drew=w14 at su HB hHeld ⊢
  refine xq (i:=1) (N:=some 22) (v := ?_) (a' := ?_) #[false,true,false,false,false,false,false,false,false] rfl rfl (acr HT_.out (by kernel_rfl)) (fun _ _ _ h=>h) (Or.inl ⟨by rfl,?_⟩) ?_ ?_
  rotate_left
  ·intro w'
   go_simp
   with_reducible rfl
  rotate_left
  ·simp only [Act.put,List.setIfInBounds_toArray,List.set_cons_zero,List.set_cons_succ,bZ,dA]
   rfl
  refine xq (i:=3) (N:=some 24) (v := ?_) (a' := ?_) #[false,true,false,true,false,false,false,false,false] rfl rfl (acr HT_.out (by kernel_rfl)) (fun _ _ _ h=>h) (Or.inl ⟨by rfl,?_⟩) ?_ ?_
  rotate_left
  ·intro w'
   go_simp
   with_reducible rfl
  rotate_left
  ·simp only [Act.put,List.setIfInBounds_toArray,List.set_cons_zero,List.set_cons_succ,bZ,dA]
   rfl
  refine xq (i:=4) (N:=some 25) (v := ?_) (a' := ?_) #[false,true,false,true,true,false,false,false,false] rfl rfl (acr HT_.out (by kernel_rfl)) (fun _ _ _ h=>h) (Or.inl ⟨by rfl,?_⟩) ?_ ?_
  rotate_left
  ·intro w'
   go_simp
   with_reducible rfl
  rotate_left
  ·simp only [Act.put,List.setIfInBounds_toArray,List.set_cons_zero,List.set_cons_succ,bZ,dA]
   rfl
  refine xq (i:=5) (N:=some 26) (v := ?_) (a' := ?_) #[false,true,false,true,true,true,false,false,false] rfl rfl (acr HT_.out (by kernel_rfl)) (fun _ _ _ h=>h) (Or.inl ⟨by rfl,?_⟩) ?_ ?_
  rotate_left
  ·intro w'
   go_simp
   with_reducible rfl
  rotate_left
  ·simp only [Act.put,List.setIfInBounds_toArray,List.set_cons_zero,List.set_cons_succ,bZ,dA]
   rfl
  refine xq (i:=6) (N:=some 27) (v := ?_) (a' := ?_) #[false,true,false,true,true,true,true,false,false] rfl rfl (acr HT_.out (by kernel_rfl)) (fun _ _ _ h=>h) (Or.inl ⟨by rfl,?_⟩) ?_ ?_
  rotate_left
  ·intro w'
   go_simp
   with_reducible rfl
  rotate_left
  ·simp only [Act.put,List.setIfInBounds_toArray,List.set_cons_zero,List.set_cons_succ,bZ,dA]
   rfl
  refine yx (i:=0) (N:=some 21) (v := ?_) (a' := ?_) #[true,true,false,true,true,true,true,false,false] rfl rfl (an3 HT_.out HW_.out (by kernel_rfl)) (fun _ _ _ h=>h) (Or.inl ⟨by rfl,?_⟩) hHeld ?_ ?_
  rotate_left
  ·rintro w' ⟨s0,s1⟩
   go_simp
   with_reducible rfl
  rotate_left
  ·simp only [Act.put,List.setIfInBounds_toArray,List.set_cons_zero,List.set_cons_succ,bZ,dA]
   rfl
  refine aa9 (i:=2) (N:=some 23) #[true,true,true,true,true,true,true,false,false] rfl rfl (anq HT_.out (by kernel_rfl)) (by decide) (fun K hK => ?_)
  refine zV Tryz.func120 (by kernel_rfl) rfl #[.int .i64 a2] (by rfl) rfl rfl zL ?_
  with_reducible refine (dL.calls a2 ajJ _ A8.out).mono ?_
  rintro e w' ⟨rfl,⟨nd,rfl⟩⟩
  refine ⟨_,rfl,?_⟩
  refine hK.out _ _ ⟨(au su.out 0).trans rfl,(au su.out 1).trans rfl⟩ (fun hHeld => ?_)
  clear hK K
  refine zU (a' := ?_) ?_ ?_
  rotate_left
  ·show Act.put _ (some 23) _=_
   simp only [Act.put,List.setIfInBounds_toArray,List.set_cons_zero,List.set_cons_succ,bZ,dA]
   rfl
  refine aa9 (i:=7) (N:=some 28) #[true,true,true,true,true,true,true,true,false] rfl rfl (anq HT_.out (by kernel_rfl)) (by decide) (fun K hK => ?_)
  refine zV Tryz.func149 (by kernel_rfl) rfl #[.agg #[.int .u64 acW,.int .u64 adX],.int .u64 ajJ,.bool (((decide (a0 < 0)) != (decide (a1 < 0))) != (decide (a2 < 0)))] (by rfl) rfl rfl zL ?_
  with_reducible refine (gQ.calls k acW adX ajJ (((decide (a0 < 0)) != (decide (a1 < 0))) != (decide (a2 < 0))) aox _ A9.out).mono ?_
  rintro e w15 ⟨rfl,hb⟩
  refine ⟨_,rfl,?_⟩
  obtain ⟨su,HB⟩:=zA2 (ay (zK su) hb) (ak zB hb)
  (try clear hb)
  (try clear hb2)
  (try clear hk)
  (try clear hi)
  refine hK.out _ _ ⟨(au su.out 0).trans rfl,(au su.out 1).trans rfl⟩ (fun hHeld => ?_)
  clear hK K
  refine zU (a' := ?_) ?_ ?_
  rotate_left
  ·show Act.put _ (some 28) _=_
   simp only [Act.put,List.setIfInBounds_toArray,List.set_cons_zero,List.set_cons_succ,bZ,dA]
   rfl
  refine xq (i:=8) (N:=some 6) (v := ?_) (a' := ?_) #[true,true,true,true,true,true,true,true,true] rfl rfl (acr HT_.out (by kernel_rfl)) (fun _ _ _ h=>h) (Or.inl ⟨by rfl,?_⟩) ?_ ?_
  rotate_left
  ·intro w'
   go_simp
   with_reducible rfl
  rotate_left
  ·simp only [Act.put,List.setIfInBounds_toArray,List.set_cons_zero,List.set_cons_succ,bZ,dA]
   rfl
  refine aeD (aq0 HT_.out (by kernel_rfl)) ?_
  try go_wp2
  go_ret
  exact ⟨zS,zB⟩
end Go.Proofs.YtpondkggmcmpfaaGreatDoor.QA
namespace Go.Proofs.YtpondkggmcmpfaaGreatDoor.QA
open Go.Proofs.YtpondkggmcmpfaaGreatDoor.T
open Go.RowKit Go.Proofs.YtpondkggmcmpfaaGreatDoorW.PrintWords Go.Proofs.YtpondkggmcmpfaaGreatDoorW.PrintLast Go.Proofs.YtpondkggmcmpfaaGreatDoorW.PrintMore
attribute [local go_sem] dV dQ dR eP eX
set_option linter.unusedVariables false
set_option linter.unusedSimpArgs false
mutual
def bI.j0:Nat→Int→Int→Bool→Option (Int)
 | 0,_,_,_=>none
 | k+1,x0,x1,x14=>if x14=true then (some 0) else (if x0≥(wrap64 (2*x1)) then (bI.j1 k x0 x1 true) else (bI.j1 k x0 x1 (decide (x0≤(wrap64 ((-2)*x1))))))
def bI.j1:Nat→Int→Int→Bool→Option (Int)
 | 0,_,_,_=>none
 | k+1,x0,x1,x24=>if x24=true then (some 0) else (if x0 < 0 then (bI.j2 k (wrap64 (-x0)) x1) else (bI.j2 k x0 x1))
def bI.j2:Nat→Int→Int→Option (Int)
 | 0,_,_=>none
 | k+1,x0,x1=>if x0 < x1 then ((aX.f k (wrap64 ((wrap64 ((wrap64 (3*(wrap64 ((wrap64 (x0*x0))*x0)))) - (wrap64 ((wrap64 (5*(wrap64 (x0*x0))))*x1))))+(wrap64 (2*(wrap64 ((wrap64 (x1*x1))*x1)))))) 1073741824 (wrap64 (2*(wrap64 ((wrap64 (x1*x1))*x1))))).bind fun aoy=>(some aoy)) else ((aX.f k (wrap64 ((wrap64 ((wrap64 ((wrap64 ((wrap64 (5*(wrap64 (x0*x0))))*x1)) - (wrap64 ((wrap64 (x0*x0))*x0)))) - (wrap64 ((wrap64 (8*x0))*(wrap64 (x1*x1))))))+(wrap64 (4*(wrap64 ((wrap64 (x1*x1))*x1)))))) 1073741824 (wrap64 (2*(wrap64 ((wrap64 (x1*x1))*x1))))).bind fun aoz=>(some aoz))
end
def bI.f (k:Nat) (a0 a1:Int):Option (Int):=if a1 < 1 then (bI.j0 k a0 a1 true) else (bI.j0 k a0 a1 (decide (a1 > 262144)))
set_option maxHeartbeats 8000000 in
set_option maxRecDepth 100000 in
theorem bI.calls (k:Nat) (a0 a1 r:Int) (w:World) (h:bI.f k a0 a1=some r) :
  Calls Tryz.prog 170 #[.int .i64 a0,.int .i64 a1] w fun e w'=>e = .returned (.int .i64 r)∧Below w.heap.size w w':=by
 have HB:=aj.mk (Below.refl w.heap.size w)
 have H:=h
 clear h
 unfold bI.f at H
 have HC3:=aj.mk H
 clear H
 go_enter Tryz.func170,Tryz.ntmps170
 go_upto_region 1 with (fail)
 go_cut [14] (fun v14 wc=>∃ (kq:Nat) (yH:Bool),v14 = .bool yH∧aj (bI.j0 kq a0 a1 yH=some r)∧aj (kq≤k)∧aj (Below w.heap.size w wc))
 case first =>
  have H:=HC3.out
  clear HC3
  by_cases c4:a1 < 1
  ·rw [if_pos c4] at H
   have fU:=decide_eq_true c4
   clear c4
   (first|rw [fU]|(simp only [bZ,dA];rw [fU])|skip)
   have H':=aj.mk H
   clear H
   go_wp2
   go_meet
   case rel=>exact ⟨_,(true),zT,H',⟨by first|omega|exact Nat.le_refl _⟩,⟨zB⟩⟩
  ·rw [if_neg c4] at H
   have fU:=decide_eq_false c4
   clear c4
   (first|rw [fU]|(simp only [bZ,dA];rw [fU])|skip)
   have H':=aj.mk H
   clear H
   go_wp2
   go_meet
   case rel=>exact ⟨_,(decide (a1 > 262144)),zT,H',⟨by first|omega|exact Nat.le_refl _⟩,⟨zB⟩⟩
 case rest =>
  clear HC3
  obtain ⟨kq,yH,rfl,HA,HJ2,HB⟩:=hcut
  cases kq with
  | zero=>exact absurd HA.out (by simp [bI.j0])
  | succ kj2 =>
   have H:=HA.out
   clear HA
   simp only [bI.j0] at H
   by_cases c5:yH=true
   ·subst c5
    rw [if_pos rfl] at H;try dsimp only at H
    obtain rfl:=Option.some.inj H
    go_wp2
    go_ret
    exact ⟨zS,zB⟩
   ·replace c5:=Bool.eq_false_iff.mpr c5
    subst c5
    rw [if_neg (show ¬ (false=true) by decide)] at H;try dsimp only at H
    have HC6:=aj.mk H
    clear H
    go_upto_region 3 with (fail)
    go_cut [24] (fun v24 wc=>∃ (kq:Nat) (aiS:Bool),v24 = .bool aiS∧aj (bI.j1 kq a0 a1 aiS=some r)∧aj (kq≤kj2)∧aj (Below w.heap.size w wc))
    case first =>
     have H:=HC6.out
     clear HC6
     by_cases c7:a0≥(wrap64 (2*a1))
     ·rw [if_pos c7] at H
      have jr:=decide_eq_true c7
      clear c7
      (first|rw [jr]|(simp only [bZ,dA];rw [jr])|skip)
      have H':=aj.mk H
      clear H
      go_wp2
      go_meet
      case rel=>exact ⟨_,(true),zT,H',⟨by have:=HJ2.out;first|omega|exact Nat.le_refl _⟩,⟨zB⟩⟩
     ·rw [if_neg c7] at H
      have jr:=decide_eq_false c7
      clear c7
      (first|rw [jr]|(simp only [bZ,dA];rw [jr])|skip)
      have H':=aj.mk H
      clear H
      go_wp2
      go_meet
      case rel=>exact ⟨_,(decide (a0≤(wrap64 ((-2)*a1)))),zT,H',⟨by have:=HJ2.out;first|omega|exact Nat.le_refl _⟩,⟨zB⟩⟩
    case rest =>
     clear HC6
     obtain ⟨kq,aiS,rfl,HA,HJ5,HB⟩:=hcut
     cases kq with
     | zero=>exact absurd HA.out (by simp [bI.j1])
     | succ kj5 =>
      have H:=HA.out
      clear HA
      simp only [bI.j1] at H
      by_cases c8:aiS=true
      ·subst c8
       rw [if_pos rfl] at H;try dsimp only at H
       obtain rfl:=Option.some.inj H
       go_wp2
       go_ret
       exact ⟨zS,zB⟩
      ·replace c8:=Bool.eq_false_iff.mpr c8
       subst c8
       rw [if_neg (show ¬ (false=true) by decide)] at H;try dsimp only at H
       have HC9:=aj.mk H
       clear H
       go_upto_if 26 with (fail)
       go_cut [0] (fun v0 wc=>∃ (kq:Nat) (oW:Int),v0 = .int .i64 oW∧aj (bI.j2 kq oW a1=some r)∧aj (kq≤kj5)∧aj (Below w.heap.size w wc))
       case first =>
        have H:=HC9.out
        clear HC9
        by_cases c10:a0 < 0
        ·rw [if_pos c10] at H
         have pR:=decide_eq_true c10
         clear c10
         (first|rw [pR]|(simp only [bZ,dA];rw [pR])|skip)
         have H':=aj.mk H
         clear H
         go_wp2
         go_meet
         case rel=>exact ⟨_,(wrap64 (-a0)),zT,H',⟨by have:=HJ2.out;have:=HJ5.out;first|omega|exact Nat.le_refl _⟩,⟨zB⟩⟩
        ·rw [if_neg c10] at H
         have pR:=decide_eq_false c10
         clear c10
         (first|rw [pR]|(simp only [bZ,dA];rw [pR])|skip)
         have H':=aj.mk H
         clear H
         go_wp2
         go_meet
         case rel=>exact ⟨_,(a0),zT,H',⟨by have:=HJ2.out;have:=HJ5.out;first|omega|exact Nat.le_refl _⟩,⟨zB⟩⟩
       case rest =>
        clear HC9
        obtain ⟨kq,oW,rfl,HA,HJ8,HB⟩:=hcut
        cases kq with
        | zero=>exact absurd HA.out (by simp [bI.j2])
        | succ kj8 =>
         have H:=HA.out
         clear HA
         simp only [bI.j2] at H
         by_cases c11:oW < a1
         ·rw [if_pos c11] at H
          have iO:=decide_eq_true c11
          clear c11
          replace H:=zO H
          obtain ⟨aoy,A12,H⟩:=H
          try dsimp only at H
          obtain rfl:=Option.some.inj H
          go_wp2_with (first|((with_reducible refine aA (f:=118) rfl ?_);refine aH (some 56) rfl rfl Tryz.func118 (by kernel_rfl) rfl #[.int .i64 (wrap64 ((wrap64 ((wrap64 (3*(wrap64 ((wrap64 (oW*oW))*oW)))) - (wrap64 ((wrap64 (5*(wrap64 (oW*oW))))*a1))))+(wrap64 (2*(wrap64 ((wrap64 (a1*a1))*a1)))))),.int .i64 1073741824,.int .i64 (wrap64 (2*(wrap64 ((wrap64 (a1*a1))*a1))))] rfl zL ?_;(with_reducible refine (aX.calls kj8 (wrap64 ((wrap64 ((wrap64 (3*(wrap64 ((wrap64 (oW*oW))*oW)))) - (wrap64 ((wrap64 (5*(wrap64 (oW*oW))))*a1))))+(wrap64 (2*(wrap64 ((wrap64 (a1*a1))*a1)))))) 1073741824 (wrap64 (2*(wrap64 ((wrap64 (a1*a1))*a1)))) aoy _ A12.out).mono ?_);rintro e w13 ⟨rfl,hb⟩;refine ⟨_,rfl,?_⟩;replace HB:=aj.mk (ak zB hb);(try clear hb)))
          go_ret
          exact ⟨zS,zB⟩
         ·rw [if_neg c11] at H
          have iO:=decide_eq_false c11
          clear c11
          replace H:=zO H
          obtain ⟨aoz,A14,H⟩:=H
          try dsimp only at H
          obtain rfl:=Option.some.inj H
          go_wp2_with (first|((with_reducible refine aA (f:=118) rfl ?_);refine aH (some 73) rfl rfl Tryz.func118 (by kernel_rfl) rfl #[.int .i64 (wrap64 ((wrap64 ((wrap64 ((wrap64 ((wrap64 (5*(wrap64 (oW*oW))))*a1)) - (wrap64 ((wrap64 (oW*oW))*oW)))) - (wrap64 ((wrap64 (8*oW))*(wrap64 (a1*a1))))))+(wrap64 (4*(wrap64 ((wrap64 (a1*a1))*a1)))))),.int .i64 1073741824,.int .i64 (wrap64 (2*(wrap64 ((wrap64 (a1*a1))*a1))))] rfl zL ?_;(with_reducible refine (aX.calls kj8 (wrap64 ((wrap64 ((wrap64 ((wrap64 ((wrap64 (5*(wrap64 (oW*oW))))*a1)) - (wrap64 ((wrap64 (oW*oW))*oW)))) - (wrap64 ((wrap64 (8*oW))*(wrap64 (a1*a1))))))+(wrap64 (4*(wrap64 ((wrap64 (a1*a1))*a1)))))) 1073741824 (wrap64 (2*(wrap64 ((wrap64 (a1*a1))*a1)))) aoz _ A14.out).mono ?_);rintro e w15 ⟨rfl,hb⟩;refine ⟨_,rfl,?_⟩;replace HB:=aj.mk (ak zB hb);(try clear hb)))
          go_ret
          exact ⟨zS,zB⟩
end Go.Proofs.YtpondkggmcmpfaaGreatDoor.QA
namespace Go.Proofs.YtpondkggmcmpfaaGreatDoor.QA
open Go.Proofs.YtpondkggmcmpfaaGreatDoor.T
open Go.RowKit Go.Proofs.YtpondkggmcmpfaaGreatDoorW.PrintWords Go.Proofs.YtpondkggmcmpfaaGreatDoorW.PrintLast Go.Proofs.YtpondkggmcmpfaaGreatDoorW.PrintMore
attribute [local go_sem] dV dQ dR eP eX
set_option linter.unusedVariables false
set_option linter.unusedSimpArgs false
mutual
def aJ.l0:Nat→Int→Int→Int→Int→Int→Int→Option (Int)
 | 0,_,_,_,_,_,_=>none
 | k+1,x0,x1,x20,x21,qj,qm=>if x21 < x20 then ((dI.f qj qm 0).bind fun aqt=>(aJ.l0 k x0 x1 x20 (wrap64 (x21+1)) aqt.1 aqt.2)) else ((dL.f x0).bind fun rX=>(aJ.l1 k x0 x1 127 qj qm 0 rX 0 0))
def aJ.l1:Nat→Int→Int→Int→Int→Int→Int→Int→Int→Int→Option (Int)
 | 0,_,_,_,_,_,_,_,_,_=>none
 | k+1,x0,x1,x8,qj,qm,sZ,tq,qo,qp=>if x8≥x1 then ((fD.f sZ tq x8).bind fun ajK=>((dI.f qo qp ajK).bind fun aqu=>(aJ.l1 k x0 x1 (wrap64 (x8 - 1)) qj qm sZ tq aqu.1 aqu.2))) else (aJ.l2 k x0 x1 qj qm sZ tq qo qp sZ tq)
def aJ.l2:Nat→Int→Int→Int→Int→Int→Int→Int→Int→Int→Int→Option (Int)
 | 0,_,_,_,_,_,_,_,_,_,_=>none
 | k+1,x0,x10,qj,qm,sZ,tq,qo,qp,zx,zy=>if x10 < 128 then ((fD.f sZ tq x10).bind fun acX=>(if acX=1 then (aJ.l3 k x0 x10 x10 0 qj qm sZ tq qo qp zx zy 0 1) else (aJ.l2 k x0 (wrap64 (x10+1)) qj qm sZ tq qo qp zx zy))) else ((gZ.f zx zy qj qm).bind fun amf=>(if x0 < 0 then ((gZ.f qj qm zx zy).bind fun amg=>(aJ.j4 k x0 amg qo qp)) else (aJ.j4 k x0 (!amf) qo qp)))
def aJ.l3:Nat→Int→Int→Int→Int→Int→Int→Int→Int→Int→Int→Int→Int→Int→Int→Option (Int)
 | 0,_,_,_,_,_,_,_,_,_,_,_,_,_,_=>none
 | k+1,x0,x10,x51,x52,qj,qm,sZ,tq,qo,qp,zx,zy,alj,alk=>if x52 < x51 then ((dI.f alj alk 0).bind fun aqv=>(aJ.l3 k x0 x10 x51 (wrap64 (x52+1)) qj qm sZ tq qo qp zx zy aqv.1 aqv.2)) else ((jQ.f zx zy alj alk).bind fun aqw=>(aJ.l2 k x0 (wrap64 (x10+1)) qj qm sZ tq qo qp aqw.1 aqw.2))
def aJ.j4:Nat→Int→Bool→Int→Int→Option (Int)
 | 0,_,_,_,_=>none
 | k+1,x0,x12,qo,qp=>if x12=true then ((gI.f qo qp 0 1).bind fun aqx=>((bP.f k aqx.1 aqx.2 (decide (x0 < 0))).bind fun aoA=>(some aoA))) else ((bP.f k qo qp (decide (x0 < 0))).bind fun aoB=>(some aoB))
end
def aJ.f (k:Nat) (a0 a1:Int):Option (Int):=if a1 < 1 then (some a0) else (if a1 > 64 then (some 0) else (aJ.l0 k a0 a1 (wrap64 (a1 - 1)) 0 0 1))
set_option maxHeartbeats 8000000 in
set_option maxRecDepth 100000 in
theorem aJ.calls (k:Nat) (a0 a1 r:Int) (w:World) (h:aJ.f k a0 a1=some r) :
  Calls Tryz.prog 101 #[.int .i64 a0,.int .i64 a1] w fun e w'=>e = .returned (.int .i64 r)∧Below w.heap.size w w':=by
 have xB:=Tryz.underlying179
 have HB:=aj.mk (Below.refl w.heap.size w)
 have H:=h
 clear h
 unfold aJ.f at H
 by_cases c3:a1 < 1
 ·rw [if_pos c3] at H
  have fO:=decide_eq_true c3
  clear c3
  obtain rfl:=Option.some.inj H
  go_enter Tryz.func101,Tryz.ntmps101
  go_wp2
  go_ret
  exact ⟨zS,zB⟩
 ·rw [if_neg c3] at H
  have fO:=decide_eq_false c3
  clear c3
  by_cases c4:a1 > 64
  ·rw [if_pos c4] at H
   have fU:=decide_eq_true c4
   clear c4
   obtain rfl:=Option.some.inj H
   go_enter Tryz.func101,Tryz.ntmps101
   go_wp2
   go_ret
   exact ⟨zS,zB⟩
  ·rw [if_neg c4] at H
   have fU:=decide_eq_false c4
   clear c4
   have H':=aj.mk H
   clear H
   go_enter Tryz.func101,Tryz.ntmps101
   go_wp2_with (first|((with_reducible refine bM (N:=5) rfl ?_);refine bU zR (N:=5) zR (cs := #[.int .u64 0,.int .u64 0]) (t:=179) zG ?_;intro aeO hg w5 hbox hb;obtain ⟨HB,dU,ayC,ayD⟩:=zA4 (ak zB hb) hbox (zg hg zB) (zg hg zB);clear hb hbox hg;obtain ⟨_,_⟩:=zC2 dU.out;obtain ⟨_,_⟩:=zF2 dU.out))
   go_loopg [21] k (fun kq v21 w'=>∃ (vO:Int) (jP:Int) (jG:Int),v21 = .int .i64 vO∧aj (aJ.l0 kq a0 a1 (wrap64 (a1 - 1)) vO jP jG=some r)∧aj (kq≤k)∧aj (w'.heap[aeO]? = some (.cells #[.int .u64 jP,.int .u64 jG] 179 (0,0)))∧aj (Below w.heap.size w w'))
   case atStart=>exact ⟨(0),(0),(1),zT,H',⟨Nat.le_refl _⟩,⟨by refine zD ?_;refine aY (cs := #[.int .u64 0,.int .u64 0]) ?_ 1 _ rfl;refine zD ?_;refine aY (cs := #[.int .u64 0,.int .u64 0]) ?_ 0 _ rfl;refine zD ?_;exact dU.out⟩,⟨zB⟩⟩
   case round =>
    clear H'
    obtain ⟨vO,jP,jG,rfl,HA,HK1,dU,HB⟩:=hrel
    cases gk with
    | zero=>exact absurd HA.out (by simp [aJ.l0])
    | succ k1 =>
     have H:=HA.out
     clear HA
     simp only [aJ.l0] at H
     by_cases c7:vO < (wrap64 (a1 - 1))
     ·rw [if_pos c7] at H
      have jr:=decide_eq_true c7
      clear c7
      replace H:=zO H
      obtain ⟨⟨aoC,ar6⟩,A8,H⟩:=H
      try dsimp only at H
      have H':=aj.mk H
      clear H
      obtain ⟨_,_⟩:=zC2 dU.out
      obtain ⟨_,_⟩:=zF2 dU.out
      go_wp2_with (first|((with_reducible refine aA (f:=119) rfl ?_);refine aH (some 24) rfl rfl Tryz.func119 (by kernel_rfl) rfl #[.agg #[.int .u64 jP,.int .u64 jG],.int .u64 0] rfl zL ?_;(with_reducible refine (dI.calls jP jG 0 aoC ar6 _ A8.out).mono ?_);rintro e w10 ⟨rfl,hb⟩;refine ⟨_,rfl,?_⟩;obtain ⟨dU,HB⟩:=zA2 (ay (zK dU) hb) (ak zB hb);(try clear hb);obtain ⟨_,_⟩:=zC2 dU.out;obtain ⟨_,_⟩:=zF2 dU.out))
      go_roundg k1
      case measure=>have:=HK1.out;omega
      case rel=>exact ⟨(wrap64 (vO+1)),(aoC),(ar6),zT,H',⟨by have:=HK1.out;omega⟩,⟨by refine zD ?_;refine aY (cs := #[.int .u64 aoC,.int .u64 jG]) ?_ 1 _ rfl;refine zD ?_;refine aY (cs := #[.int .u64 jP,.int .u64 jG]) ?_ 0 _ rfl;refine zD ?_;exact dU.out⟩,⟨zB⟩⟩
     ·rw [if_neg c7] at H
      have jr:=decide_eq_false c7
      clear c7
      replace H:=zO H
      obtain ⟨rX,A12,H⟩:=H
      try dsimp only at H
      have H':=aj.mk H
      clear H
      go_wp2_with (first|((with_reducible refine aA (f:=120) rfl ?_);refine aH (some 27) rfl rfl Tryz.func120 (by kernel_rfl) rfl #[.int .i64 a0] rfl zL ?_;(with_reducible refine (dL.calls a0 rX _ A12.out).mono ?_);rintro e w' ⟨rfl,⟨nd,rfl⟩⟩;refine ⟨_,rfl,?_⟩;(try (rw [nM wr];generalize hq_:World.drewN wr _=wr;have n0_:aj (wr.heap[aeO]? = some (.cells #[.int .u64 jP,.int .u64 jG] 179 (0,0))):=⟨by rw [← hq_];exact (zK dU)⟩;have n1_:aj (Below w.heap.size w wr):=⟨by rw [← hq_];exact zB⟩;clear dU HB hq_;have dU:=n0_;have HB:=n1_;clear n0_ n1_)))|((with_reducible refine bM (N:=6) rfl ?_);refine bU zR (N:=6) zR (cs := #[.int .u64 0,.int .u64 0]) (t:=179) zG ?_;intro yI hg w13 hbox hb;obtain ⟨dU,HB,fE,ayE,ayF,xW,xX⟩:=zA7 (ay (zK dU) hb) (ak zB hb) hbox (zg hg zB) (zg hg zB) (zl hg (zK dU)) (zr hg (zK dU));clear hb hbox hg;have aqe:=xX.out;have aqf:=xW.out;obtain ⟨_,_⟩:=zC2 fE.out;obtain ⟨_,_⟩:=zF2 fE.out)|((with_reducible refine bM (N:=7) rfl ?_);refine bU zR (N:=7) zR (cs := #[.int .u64 0,.int .u64 0]) (t:=179) zG ?_;intro yJ hg w16 hbox hb;obtain ⟨dU,fE,HB,fF,ayG,ayH,wB,wC,tY,tZ⟩:=adA (ay (zK dU) hb) (ay (g:=yI) (o := .cells #[.int .u64 0,.int .u64 rX] 179 (0,0)) (by refine zD ?_;refine aY (cs := #[.int .u64 0,.int .u64 0]) ?_ 1 _ rfl;refine zD ?_;refine aY (cs := #[.int .u64 0,.int .u64 0]) ?_ 0 _ rfl;refine zD ?_;exact fE.out) hb) (ak zB hb) hbox (zg hg zB) (zg hg zB) (zl hg (zK dU)) (zr hg (zK dU)) ((by rw [hg];exact Nat.ne_of_lt (dJ (g:=yI) (o := .cells #[.int .u64 0,.int .u64 rX] 179 (0,0)) (by refine zD ?_;refine aY (cs := #[.int .u64 0,.int .u64 0]) ?_ 1 _ rfl;refine zD ?_;refine aY (cs := #[.int .u64 0,.int .u64 0]) ?_ 0 _ rfl;refine zD ?_;exact fE.out)):yI≠yJ)) ((by rw [hg];exact Nat.ne_of_gt (dJ (g:=yI) (o := .cells #[.int .u64 0,.int .u64 rX] 179 (0,0)) (by refine zD ?_;refine aY (cs := #[.int .u64 0,.int .u64 0]) ?_ 1 _ rfl;refine zD ?_;refine aY (cs := #[.int .u64 0,.int .u64 0]) ?_ 0 _ rfl;refine zD ?_;exact fE.out)):yJ≠yI));clear hb hbox hg;have atV:=wC.out;have atW:=wB.out;have ayI:=tZ.out;have ayJ:=tY.out;obtain ⟨_,_⟩:=zC2 fF.out;obtain ⟨_,_⟩:=zF2 fF.out))
      try simp only [Act.put,List.setIfInBounds_toArray,List.set_cons_succ,List.set_cons_zero]
      go_loopg [8] k1 (fun kq v8 w'=>∃ (kQ:Int) (jH:Int) (jd:Int),v8 = .int .i64 kQ∧aj (aJ.l1 kq a0 a1 kQ jP jG 0 rX jH jd=some r)∧aj (kq≤k1)∧aj (w'.heap[aeO]? = some (.cells #[.int .u64 jP,.int .u64 jG] 179 (0,0)))∧aj (w'.heap[yI]? = some (.cells #[.int .u64 0,.int .u64 rX] 179 (0,0)))∧aj (w'.heap[yJ]? = some (.cells #[.int .u64 jH,.int .u64 jd] 179 (0,0)))∧aj (Below w.heap.size w w'))
      case atStart=>exact ⟨(127),(0),(0),zT,H',⟨Nat.le_refl _⟩,⟨zK dU⟩,⟨zK fE⟩,⟨by refine zD ?_;refine aY (cs := #[.int .u64 0,.int .u64 0]) ?_ 1 _ rfl;refine zD ?_;refine aY (cs := #[.int .u64 0,.int .u64 0]) ?_ 0 _ rfl;refine zD ?_;exact fF.out⟩,⟨zB⟩⟩
      case round =>
       clear H'
       obtain ⟨kQ,jH,jd,rfl,HA,HK2,dU,fE,fF,HB⟩:=hrel
       cases gk with
       | zero=>exact absurd HA.out (by simp [aJ.l1])
       | succ k2 =>
        have H:=HA.out
        clear HA
        simp only [aJ.l1] at H
        by_cases c20:kQ≥a1
        ·rw [if_pos c20] at H
         have atY:=decide_eq_true c20
         clear c20
         replace H:=zO H
         obtain ⟨ajK,A21,H⟩:=H
         try dsimp only at H
         replace H:=zO H
         obtain ⟨⟨aoD,ar7⟩,A22,H⟩:=H
         try dsimp only at H
         have H':=aj.mk H
         clear H
         try go_wp2
         obtain ⟨dU,fE,fF,HB⟩:=zA4 (jq dU.out) (jq fE.out) (jq fF.out) (bg HB.out)
         refine acn (n:=6) (S:=fun w'=>w'.cell? ⟨yJ,0,none⟩=some (.int .u64 jH)∧w'.cell? ⟨yJ,1,none⟩=some (.int .u64 jd)∧w'.cell? ⟨yI,0,none⟩=some (.int .u64 0)∧w'.cell? ⟨yI,1,none⟩=some (.int .u64 rX)) (ds:=[5]) #[false,false,false,false,false,false] (by kernel_rfl) rfl rfl ⟨(au fF.out 0).trans rfl,(au fF.out 1).trans rfl,(au fE.out 0).trans rfl,(au fE.out 1).trans rfl⟩ (fun hHeld => ?_)
         generalize wr.drew=w23 at dU fE fF HB hHeld ⊢
         refine xq (i:=2) (N:=some 37) (v := ?_) (a' := ?_) #[false,false,true,false,false,false] rfl rfl (by kernel_rfl) (fun _ _ _ h=>h) (Or.inl ⟨by rfl,?_⟩) ?_ ?_
         rotate_left
         ·intro w'
          go_simp
          with_reducible rfl
         rotate_left
         ·simp only [Act.put,List.setIfInBounds_toArray,List.set_cons_zero,List.set_cons_succ,bZ,dA]
          rfl
         refine yx (i:=0) (N:=some 35) (v := ?_) (a' := ?_) #[true,false,true,false,false,false] rfl rfl (by kernel_rfl) (fun _ _ _ h=>h) (Or.inl ⟨by rfl,?_⟩) hHeld ?_ ?_
         rotate_left
         ·rintro w' ⟨s0,s1,s2,s3⟩
          go_simp
          with_reducible rfl
         rotate_left
         ·simp only [Act.put,List.setIfInBounds_toArray,List.set_cons_zero,List.set_cons_succ,bZ,dA]
          rfl
         refine yx (i:=1) (N:=some 36) (v := ?_) (a' := ?_) #[true,true,true,false,false,false] rfl rfl (by kernel_rfl) (fun _ _ _ h=>h) (Or.inl ⟨by rfl,?_⟩) hHeld ?_ ?_
         rotate_left
         ·rintro w' ⟨s0,s1,s2,s3⟩
          go_simp
          with_reducible rfl
         rotate_left
         ·simp only [Act.put,List.setIfInBounds_toArray,List.set_cons_zero,List.set_cons_succ,bZ,dA]
          rfl
         refine aa9 (i:=3) (N:=some 38) #[true,true,true,true,false,false] rfl rfl (by kernel_rfl) (by decide) (fun K hK => ?_)
         refine zV Tryz.func121 (by kernel_rfl) rfl #[.agg #[.int .u64 0,.int .u64 rX],.int .i64 kQ] (by rfl) rfl rfl zL ?_
         with_reducible refine (fD.calls 0 rX kQ ajK _ A21.out).mono ?_
         rintro e w24 ⟨rfl,hb⟩
         refine ⟨_,rfl,?_⟩
         obtain ⟨dU,fE,fF,HB⟩:=zA4 (ay (zK dU) hb) (ay (zK fE) hb) (ay (zK fF) hb) (ak zB hb)
         (try clear hb)
         (try clear hb2)
         (try clear hk)
         (try clear hi)
         refine hK.out _ _ ⟨(au fF.out 0).trans rfl,(au fF.out 1).trans rfl,(au fE.out 0).trans rfl,(au fE.out 1).trans rfl⟩ (fun hHeld => ?_)
         clear hK K
         refine zU (a' := ?_) ?_ ?_
         rotate_left
         ·show Act.put _ (some 38) _=_
          simp only [Act.put,List.setIfInBounds_toArray,List.set_cons_zero,List.set_cons_succ,bZ,dA]
          rfl
         refine aa9 (i:=4) (N:=some 39) #[true,true,true,true,true,false] rfl rfl (by kernel_rfl) (by decide) (fun K hK => ?_)
         refine zV Tryz.func119 (by kernel_rfl) rfl #[.agg #[.int .u64 jH,.int .u64 jd],.int .u64 ajK] (by rfl) rfl rfl zL ?_
         with_reducible refine (dI.calls jH jd ajK aoD ar7 _ A22.out).mono ?_
         rintro e w25 ⟨rfl,hb⟩
         refine ⟨_,rfl,?_⟩
         obtain ⟨dU,fE,fF,HB⟩:=zA4 (ay (zK dU) hb) (ay (zK fE) hb) (ay (zK fF) hb) (ak zB hb)
         (try clear hb)
         (try clear hb2)
         (try clear hk)
         (try clear hi)
         refine hK.out _ _ ⟨(au fF.out 0).trans rfl,(au fF.out 1).trans rfl,(au fE.out 0).trans rfl,(au fE.out 1).trans rfl⟩ (fun hHeld => ?_)
         clear hK K
         refine zU (a' := ?_) ?_ ?_
         rotate_left
         ·show Act.put _ (some 39) _=_
          simp only [Act.put,List.setIfInBounds_toArray,List.set_cons_zero,List.set_cons_succ,bZ,dA]
          rfl
         refine aiM (i:=5) (N:=none) #[true,true,true,true,true,true] rfl rfl (by kernel_rfl) (by decide) (fun K hK => ?_)
         have aAE:w25.cell? ⟨yJ,0,none⟩=some (.int .u64 jH):=(au fF.out 0).trans rfl
         have ayK:=aN fF.out 0
         have axn:=wB.out
         have axo:=tY.out
         have axp:=wC.out
         have axq:=tZ.out
         have aAF:w25.cell? ⟨yJ,1,none⟩=some (.int .u64 jd):=(au fF.out 1).trans rfl
         have ayL:=aN fF.out 1
         have axr:=wB.out
         have axt:=tY.out
         have axu:=wC.out
         have axv:=tZ.out
         refine af4 (w1 := ?_) (by rfl) rfl ?_ ?_
         rotate_left
         ·go_simp
          rfl
         refine hK.out _ _ ?_
         clear hK K
         refine aeD (by kernel_rfl) ?_
         try go_wp2
         go_roundg k2
         case measure=>have:=HK1.out;have:=HK2.out;omega
         case rel=>exact ⟨(wrap64 (kQ - 1)),(aoD),(ar7),zT,H',⟨by have:=HK1.out;have:=HK2.out;omega⟩,⟨zK dU⟩,⟨zK fE⟩,⟨by refine zD ?_;refine aY (cs := #[.int .u64 aoD,.int .u64 jd]) ?_ 1 _ rfl;refine zD ?_;refine aY (cs := #[.int .u64 jH,.int .u64 jd]) ?_ 0 _ rfl;refine zD ?_;exact fF.out⟩,⟨zB⟩⟩
        ·rw [if_neg c20] at H
         have atY:=decide_eq_false c20
         clear c20
         have H':=aj.mk H
         clear H
         have atZ:=xX.out
         have at1:=xW.out
         have al8:=tY.out
         have al9:=tZ.out
         obtain ⟨_,_⟩:=zC2 fE.out
         obtain ⟨_,_⟩:=zF2 fE.out
         go_wp2_with (first|((with_reducible refine bM (N:=9) rfl ?_);refine bU zR (N:=9) zR (cs := #[.int .u64 0,.int .u64 0]) (t:=179) zG ?_;intro amh hg w31 hbox hb;obtain ⟨dU,fE,fF,HB,iQ,ayM,ayN,abM,abN,xY,xZ,yc,yg⟩:=afh (ay (zK dU) hb) (ay (zK fE) hb) (ay (zK fF) hb) (ak zB hb) hbox (zg hg zB) (zg hg zB) (zl hg (zK dU)) (zr hg (zK dU)) (zl hg (zK fE)) (zr hg (zK fE)) (zl hg (zK fF)) (zr hg (zK fF));clear hb hbox hg;have ayO:=abN.out;have ayP:=abM.out;have at6:=xZ.out;have at7:=xY.out;have ayQ:=yg.out;have ayR:=yc.out;obtain ⟨_,_⟩:=zC2 iQ.out;obtain ⟨_,_⟩:=zF2 iQ.out))
         try simp only [Act.put,List.setIfInBounds_toArray,List.set_cons_succ,List.set_cons_zero]
         go_loopg [10] k2 (fun kq v10 w'=>∃ (mJ:Int) (lX:Int) (kY:Int),v10 = .int .i64 mJ∧aj (aJ.l2 kq a0 mJ jP jG 0 rX jH jd lX kY=some r)∧aj (kq≤k2)∧aj (w'.heap[aeO]? = some (.cells #[.int .u64 jP,.int .u64 jG] 179 (0,0)))∧aj (w'.heap[yI]? = some (.cells #[.int .u64 0,.int .u64 rX] 179 (0,0)))∧aj (w'.heap[yJ]? = some (.cells #[.int .u64 jH,.int .u64 jd] 179 (0,0)))∧aj (w'.heap[amh]? = some (.cells #[.int .u64 lX,.int .u64 kY] 179 (0,0)))∧aj (Below w.heap.size w w'))
         case atStart=>exact ⟨(a1),(0),(rX),zT,H',⟨Nat.le_refl _⟩,⟨zK dU⟩,⟨zK fE⟩,⟨zK fF⟩,⟨by refine zD ?_;refine aY (cs := #[.int .u64 0,.int .u64 0]) ?_ 1 _ rfl;refine zD ?_;refine aY (cs := #[.int .u64 0,.int .u64 0]) ?_ 0 _ rfl;refine zD ?_;exact iQ.out⟩,⟨zB⟩⟩
         case round =>
          clear H'
          obtain ⟨mJ,lX,kY,rfl,HA,HK3,dU,fE,fF,iQ,HB⟩:=hrel
          cases gk with
          | zero=>exact absurd HA.out (by simp [aJ.l2])
          | succ k3 =>
           have H:=HA.out
           clear HA
           simp only [aJ.l2] at H
           by_cases c36:mJ < 128
           ·rw [if_pos c36] at H
            have aua:=decide_eq_true c36
            clear c36
            replace H:=zO H
            obtain ⟨acX,A37,H⟩:=H
            try dsimp only at H
            by_cases c38:acX=1
            ·rw [if_pos c38] at H
             have acY:(acX == 1)=true:=beq_iff_eq.mpr c38
             have ami:(acX != 1)=false:=bne_eq_false_iff_eq.mpr c38
             clear c38
             have H':=aj.mk H
             clear H
             have ayS:=xX.out
             have ayT:=xW.out
             have aql:=tY.out
             have aqm:=tZ.out
             have atJ:=xY.out
             have atK:=xZ.out
             obtain ⟨_,_⟩:=zC2 fE.out
             obtain ⟨_,_⟩:=zF2 fE.out
             go_wp2_with (first|((with_reducible refine aA (f:=121) rfl ?_);refine aH (some 48) rfl rfl Tryz.func121 (by kernel_rfl) rfl #[.agg #[.int .u64 0,.int .u64 rX],.int .i64 mJ] rfl zL ?_;(with_reducible refine (fD.calls 0 rX mJ acX _ A37.out).mono ?_);rintro e w43 ⟨rfl,hb⟩;refine ⟨_,rfl,?_⟩;obtain ⟨dU,fE,fF,iQ,HB⟩:=zA5 (ay (zK dU) hb) (ay (zK fE) hb) (ay (zK fF) hb) (ay (zK iQ) hb) (ak zB hb);(try clear hb))|((with_reducible refine bM (N:=11) rfl ?_);refine bU zR (N:=11) zR (cs := #[.int .u64 0,.int .u64 0]) (t:=179) zG ?_;intro aub hg w44 hbox hb;have n0_:=aj.mk (ay (zK dU) hb);have n1_:=aj.mk (ay (zK fE) hb);have n2_:=aj.mk (ay (zK fF) hb);have n3_:=aj.mk (ay (zK iQ) hb);have n4_:=aj.mk (ak zB hb);have n5_:=aj.mk (hbox);have n6_:=aj.mk (zg hg zB);have n7_:=aj.mk (zg hg zB);have n8_:=aj.mk (zl hg (zK dU));have n9_:=aj.mk (zr hg (zK dU));have ar8:=aj.mk (zl hg (zK fE));have ar9:=aj.mk (zr hg (zK fE));have asa:=aj.mk (zl hg (zK fF));have asb:=aj.mk (zr hg (zK fF));have asc:=aj.mk (zl hg (zK iQ));have ase:=aj.mk (zr hg (zK iQ));clear dU;clear fE;clear fF;clear iQ;clear HB;have dU:=n0_;have fE:=n1_;have fF:=n2_;have iQ:=n3_;have HB:=n4_;have uy:=n5_;have ayU:=n6_;have ayV:=n7_;have adY:=n8_;have adZ:=n9_;have ad1:=ar8;have ad3:=ar9;have ad4:=asa;have ad5:=asb;have ad6:=asc;have ad7:=ase;clear n0_ n1_ n2_ n3_ n4_ n5_ n6_ n7_ n8_ n9_ ar8 ar9 asa asb asc ase;clear hb hbox hg;have ayW:=adZ.out;have ayX:=adY.out;have aqn:=ad3.out;have aqo:=ad1.out;have atL:=ad5.out;have atM:=ad4.out;have ayY:=ad7.out;have ayZ:=ad6.out;obtain ⟨_,_⟩:=zC2 uy.out;obtain ⟨_,_⟩:=zF2 uy.out))
             try simp only [Act.put,List.setIfInBounds_toArray,List.set_cons_succ,List.set_cons_zero]
             go_loopg [52] k3 (fun kq v52 w'=>∃ (agq:Int) (uf:Int) (rE:Int),v52 = .int .i64 agq∧aj (aJ.l3 kq a0 mJ mJ agq jP jG 0 rX jH jd lX kY uf rE=some r)∧aj (kq≤k3)∧aj (w'.heap[aeO]? = some (.cells #[.int .u64 jP,.int .u64 jG] 179 (0,0)))∧aj (w'.heap[yI]? = some (.cells #[.int .u64 0,.int .u64 rX] 179 (0,0)))∧aj (w'.heap[yJ]? = some (.cells #[.int .u64 jH,.int .u64 jd] 179 (0,0)))∧aj (w'.heap[amh]? = some (.cells #[.int .u64 lX,.int .u64 kY] 179 (0,0)))∧aj (w'.heap[aub]? = some (.cells #[.int .u64 uf,.int .u64 rE] 179 (0,0)))∧aj (Below w.heap.size w w'))
             case atStart=>exact ⟨(0),(0),(1),zT,H',⟨Nat.le_refl _⟩,⟨zK dU⟩,⟨zK fE⟩,⟨zK fF⟩,⟨zK iQ⟩,⟨by refine zD ?_;refine aY (cs := #[.int .u64 0,.int .u64 0]) ?_ 1 _ rfl;refine zD ?_;refine aY (cs := #[.int .u64 0,.int .u64 0]) ?_ 0 _ rfl;refine zD ?_;exact uy.out⟩,⟨zB⟩⟩
             case round =>
              clear H'
              obtain ⟨agq,uf,rE,rfl,HA,HK4,dU,fE,fF,iQ,uy,HB⟩:=hrel
              cases gk with
              | zero=>exact absurd HA.out (by simp [aJ.l3])
              | succ k4 =>
               have H:=HA.out
               clear HA
               simp only [aJ.l3] at H
               by_cases c50:agq < mJ
               ·rw [if_pos c50] at H
                have auc:=decide_eq_true c50
                clear c50
                replace H:=zO H
                obtain ⟨⟨aoE,asf⟩,A51,H⟩:=H
                try dsimp only at H
                have H':=aj.mk H
                clear H
                have aud:=adZ.out
                have aue:=adY.out
                have ay0:=ad3.out
                have ay1:=ad1.out
                have ay2:=ad5.out
                have ay3:=ad4.out
                have ay4:=ad7.out
                have ay5:=ad6.out
                obtain ⟨_,_⟩:=zC2 uy.out
                obtain ⟨_,_⟩:=zF2 uy.out
                go_wp2_with (first|((with_reducible refine aA (f:=119) rfl ?_);refine aH (some 55) rfl rfl Tryz.func119 (by kernel_rfl) rfl #[.agg #[.int .u64 uf,.int .u64 rE],.int .u64 0] rfl zL ?_;(with_reducible refine (dI.calls uf rE 0 aoE asf _ A51.out).mono ?_);rintro e w57 ⟨rfl,hb⟩;refine ⟨_,rfl,?_⟩;obtain ⟨dU,fE,fF,iQ,uy,HB⟩:=zA6 (ay (zK dU) hb) (ay (zK fE) hb) (ay (zK fF) hb) (ay (zK iQ) hb) (ay (zK uy) hb) (ak zB hb);(try clear hb);obtain ⟨_,_⟩:=zC2 uy.out;obtain ⟨_,_⟩:=zF2 uy.out))
                go_roundg k4
                case measure=>have:=HK1.out;have:=HK2.out;have:=HK3.out;have:=HK4.out;omega
                case rel=>exact ⟨(wrap64 (agq+1)),(aoE),(asf),zT,H',⟨by have:=HK1.out;have:=HK2.out;have:=HK3.out;have:=HK4.out;omega⟩,⟨zK dU⟩,⟨zK fE⟩,⟨zK fF⟩,⟨zK iQ⟩,⟨by refine zD ?_;refine aY (cs := #[.int .u64 aoE,.int .u64 rE]) ?_ 1 _ rfl;refine zD ?_;refine aY (cs := #[.int .u64 uf,.int .u64 rE]) ?_ 0 _ rfl;refine zD ?_;exact uy.out⟩,⟨zB⟩⟩
               ·rw [if_neg c50] at H
                have auc:=decide_eq_false c50
                clear c50
                replace H:=zO H
                obtain ⟨⟨aoF,asg⟩,A59,H⟩:=H
                try dsimp only at H
                have H':=aj.mk H
                clear H
                have ay6:=abN.out
                have ay7:=abM.out
                have ay8:=xZ.out
                have ay9:=xY.out
                have atP:=yg.out
                have atQ:=yc.out
                have atS:=ad6.out
                have atT:=ad7.out
                obtain ⟨_,_⟩:=zC2 iQ.out
                obtain ⟨_,_⟩:=zF2 iQ.out
                have aza:=adZ.out
                have azb:=adY.out
                have azc:=ad3.out
                have azd:=ad1.out
                have aze:=ad5.out
                have azf:=ad4.out
                obtain ⟨_,_⟩:=zC2 uy.out
                obtain ⟨_,_⟩:=zF2 uy.out
                go_wp2_with (first|((with_reducible refine aA (f:=122) rfl ?_);refine aH (some 59) rfl rfl Tryz.func122 (by kernel_rfl) rfl #[.agg #[.int .u64 lX,.int .u64 kY],.agg #[.int .u64 uf,.int .u64 rE]] rfl zL ?_;(with_reducible refine (jQ.calls lX kY uf rE aoF asg _ A59.out).mono ?_);rintro e w69 ⟨rfl,hb⟩;refine ⟨_,rfl,?_⟩;obtain ⟨dU,fE,fF,iQ,uy,HB⟩:=zA6 (ay (zK dU) hb) (ay (zK fE) hb) (ay (zK fF) hb) (ay (zK iQ) hb) (ay (zK uy) hb) (ak zB hb);(try clear hb);obtain ⟨_,_⟩:=zC2 iQ.out;obtain ⟨_,_⟩:=zF2 iQ.out))
                go_roundg k4
                case measure=>have:=HK1.out;have:=HK2.out;have:=HK3.out;have:=HK4.out;omega
                case rel=>exact ⟨(wrap64 (mJ+1)),(aoF),(asg),zT,H',⟨by have:=HK1.out;have:=HK2.out;have:=HK3.out;have:=HK4.out;omega⟩,⟨zK dU⟩,⟨zK fE⟩,⟨zK fF⟩,⟨by refine zD ?_;refine aY (cs := #[.int .u64 aoF,.int .u64 kY]) ?_ 1 _ rfl;refine zD ?_;refine aY (cs := #[.int .u64 lX,.int .u64 kY]) ?_ 0 _ rfl;refine zD ?_;exact iQ.out⟩,⟨zB⟩⟩
            ·rw [if_neg c38] at H
             have acY:(acX == 1)=false:=beq_eq_false_iff_ne.mpr c38
             have ami:(acX != 1)=true:=bne_iff_ne.mpr c38
             have H':=aj.mk H
             clear H
             have azg:=xX.out
             have azh:=xW.out
             have azi:=tY.out
             have azj:=tZ.out
             have azk:=xY.out
             have azl:=xZ.out
             obtain ⟨_,_⟩:=zC2 fE.out
             obtain ⟨_,_⟩:=zF2 fE.out
             go_wp2_with (first|((with_reducible refine aA (f:=121) rfl ?_);refine aH (some 48) rfl rfl Tryz.func121 (by kernel_rfl) rfl #[.agg #[.int .u64 0,.int .u64 rX],.int .i64 mJ] rfl zL ?_;(with_reducible refine (fD.calls 0 rX mJ acX _ A37.out).mono ?_);rintro e w75 ⟨rfl,hb⟩;refine ⟨_,rfl,?_⟩;obtain ⟨dU,fE,fF,iQ,HB⟩:=zA5 (ay (zK dU) hb) (ay (zK fE) hb) (ay (zK fF) hb) (ay (zK iQ) hb) (ak zB hb);(try clear hb)))
             go_roundg k3
             case measure=>have:=HK1.out;have:=HK2.out;have:=HK3.out;omega
             case rel=>exact ⟨(wrap64 (mJ+1)),(lX),(kY),zT,H',⟨by have:=HK1.out;have:=HK2.out;have:=HK3.out;omega⟩,⟨zK dU⟩,⟨zK fE⟩,⟨zK fF⟩,⟨zK iQ⟩,⟨zB⟩⟩
           ·rw [if_neg c36] at H
            have aua:=decide_eq_false c36
            clear c36
            replace H:=zO H
            obtain ⟨amf,A76,H⟩:=H
            try dsimp only at H
            have aoG:=aj.mk H
            clear H
            have azm:=abN.out
            have azn:=abM.out
            have azo:=xZ.out
            have azp:=xY.out
            have azq:=yg.out
            have azr:=yc.out
            obtain ⟨_,_⟩:=zC2 iQ.out
            obtain ⟨_,_⟩:=zF2 iQ.out
            have azs:=xW.out
            have azt:=xX.out
            have azu:=wB.out
            have azv:=wC.out
            obtain ⟨_,_⟩:=zC2 dU.out
            obtain ⟨_,_⟩:=zF2 dU.out
            go_upto_if 65 with (first|((with_reducible refine aA (f:=123) rfl ?_);refine aH (some 62) rfl rfl Tryz.func123 (by kernel_rfl) rfl #[.agg #[.int .u64 lX,.int .u64 kY],.agg #[.int .u64 jP,.int .u64 jG]] rfl zL ?_;(with_reducible refine (gZ.calls lX kY jP jG amf _ A76.out).mono ?_);rintro e w85 ⟨rfl,hb⟩;refine ⟨_,rfl,?_⟩;obtain ⟨dU,fE,fF,iQ,HB⟩:=zA5 (ay (zK dU) hb) (ay (zK fE) hb) (ay (zK fF) hb) (ay (zK iQ) hb) (ak zB hb);(try clear hb)))
            (try simp only [Act.put,List.setIfInBounds_toArray,List.set_cons_zero,List.set_cons_succ])
            go_cut [12] (fun v12 wc=>∃ (kq:Nat) (agr:Bool),v12 = .bool agr∧aj (aJ.j4 kq a0 agr jH jd=some r)∧aj (kq≤k3)∧aj (wc.heap[aeO]? = some (.cells #[.int .u64 jP,.int .u64 jG] 179 (0,0)))∧aj (wc.heap[yI]? = some (.cells #[.int .u64 0,.int .u64 rX] 179 (0,0)))∧aj (wc.heap[yJ]? = some (.cells #[.int .u64 jH,.int .u64 jd] 179 (0,0)))∧aj (wc.heap[amh]? = some (.cells #[.int .u64 lX,.int .u64 kY] 179 (0,0)))∧aj (Below w.heap.size w wc))
            case first =>
             have H:=aoG.out
             clear aoG
             by_cases c86:a0 < 0
             ·rw [if_pos c86] at H
              have ags:=decide_eq_true c86
              clear c86
              (first|rw [ags]|(simp only [bZ,dA];rw [ags])|skip)
              replace H:=zO H
              obtain ⟨amg,A87,H⟩:=H
              try dsimp only at H
              have H':=aj.mk H
              clear H
              have azw:=xW.out
              have azx:=xX.out
              have azy:=wB.out
              have azz:=wC.out
              have azA:=abM.out
              have azB:=abN.out
              obtain ⟨_,_⟩:=zC2 dU.out
              obtain ⟨_,_⟩:=zF2 dU.out
              have azC:=xZ.out
              have azD:=xY.out
              have azE:=yg.out
              have azF:=yc.out
              obtain ⟨_,_⟩:=zC2 iQ.out
              obtain ⟨_,_⟩:=zF2 iQ.out
              go_wp2_with (first|((with_reducible refine aA (f:=123) rfl ?_);refine aH (some 68) rfl rfl Tryz.func123 (by kernel_rfl) rfl #[.agg #[.int .u64 jP,.int .u64 jG],.agg #[.int .u64 lX,.int .u64 kY]] rfl zL ?_;(with_reducible refine (gZ.calls jP jG lX kY amg _ A87.out).mono ?_);rintro e w95 ⟨rfl,hb⟩;refine ⟨_,rfl,?_⟩;obtain ⟨dU,fE,fF,iQ,HB⟩:=zA5 (ay (zK dU) hb) (ay (zK fE) hb) (ay (zK fF) hb) (ay (zK iQ) hb) (ak zB hb);(try clear hb)))
              go_meet
              case rel=>exact ⟨_,(amg),zT,H',⟨by have:=HK1.out;have:=HK2.out;have:=HK3.out;first|omega|exact Nat.le_refl _⟩,⟨zK dU⟩,⟨zK fE⟩,⟨zK fF⟩,⟨zK iQ⟩,⟨zB⟩⟩
             ·rw [if_neg c86] at H
              have ags:=decide_eq_false c86
              clear c86
              (first|rw [ags]|(simp only [bZ,dA];rw [ags])|skip)
              have H':=aj.mk H
              clear H
              go_wp2
              go_meet
              case rel=>exact ⟨_,(!amf),zT,H',⟨by have:=HK1.out;have:=HK2.out;have:=HK3.out;first|omega|exact Nat.le_refl _⟩,⟨zK dU⟩,⟨zK fE⟩,⟨zK fF⟩,⟨zK iQ⟩,⟨zB⟩⟩
            case rest =>
             clear aoG
             obtain ⟨kq,agr,rfl,HA,aAG,dU,fE,fF,iQ,HB⟩:=hcut
             cases kq with
             | zero=>exact absurd HA.out (by simp [aJ.j4])
             | succ ash =>
              have H:=HA.out
              clear HA
              simp only [aJ.j4] at H
              by_cases c96:agr=true
              ·subst c96
               rw [if_pos rfl] at H;try dsimp only at H
               replace H:=zO H
               obtain ⟨⟨ajL,amj⟩,A97,H⟩:=H
               try dsimp only at H
               replace H:=zO H
               obtain ⟨aoA,A98,H⟩:=H
               try dsimp only at H
               obtain rfl:=Option.some.inj H
               have azG:=wC.out
               have azH:=wB.out
               have axD:=tZ.out
               have axE:=tY.out
               have axF:=yc.out
               have axG:=yg.out
               obtain ⟨_,_⟩:=zC2 fF.out
               obtain ⟨_,_⟩:=zF2 fF.out
               go_wp2_with (first|((with_reducible refine aA (f:=124) rfl ?_);refine aH (some 72) rfl rfl Tryz.func124 (by kernel_rfl) rfl #[.agg #[.int .u64 jH,.int .u64 jd],.agg #[.int .u64 0,.int .u64 1]] rfl zL ?_;(with_reducible refine (gI.calls jH jd 0 1 ajL amj _ A97.out).mono ?_);rintro e aAH ⟨rfl,hb⟩;refine ⟨_,rfl,?_⟩;obtain ⟨dU,fE,fF,iQ,HB⟩:=zA5 (ay (zK dU) hb) (ay (zK fE) hb) (ay (zK fF) hb) (ay (zK iQ) hb) (ak zB hb);(try clear hb);obtain ⟨_,_⟩:=zC2 fF.out;obtain ⟨_,_⟩:=zF2 fF.out)|((with_reducible refine aA (f:=125) rfl ?_);refine aH (some 76) rfl rfl Tryz.func125 (by kernel_rfl) rfl #[.agg #[.int .u64 ajL,.int .u64 amj],.bool (decide (a0 < 0))] rfl zL ?_;(with_reducible refine (bP.calls ash ajL amj (decide (a0 < 0)) aoA _ A98.out).mono ?_);rintro e aAI ⟨rfl,hb⟩;refine ⟨_,rfl,?_⟩;obtain ⟨dU,fE,fF,iQ,HB⟩:=zA5 (ay (zK dU) hb) (ay (zK fE) hb) (ay (g:=yJ) (o := .cells #[.int .u64 ajL,.int .u64 amj] 179 (0,0)) (by refine zD ?_;refine aY (cs := #[.int .u64 ajL,.int .u64 jd]) ?_ 1 _ rfl;refine zD ?_;refine aY (cs := #[.int .u64 jH,.int .u64 jd]) ?_ 0 _ rfl;refine zD ?_;exact fF.out) hb) (ay (zK iQ) hb) (ak zB hb);(try clear hb)))
               go_ret
               exact ⟨zS,zB⟩
              ·replace c96:=Bool.eq_false_iff.mpr c96
               subst c96
               rw [if_neg (show ¬ (false=true) by decide)] at H;try dsimp only at H
               replace H:=zO H
               obtain ⟨aoB,avt,H⟩:=H
               try dsimp only at H
               obtain rfl:=Option.some.inj H
               have axH:=wC.out
               have axI:=wB.out
               have axJ:=tZ.out
               have axK:=tY.out
               have axL:=yc.out
               have axM:=yg.out
               obtain ⟨_,_⟩:=zC2 fF.out
               obtain ⟨_,_⟩:=zF2 fF.out
               go_wp2_with (first|((with_reducible refine aA (f:=125) rfl ?_);refine aH (some 76) rfl rfl Tryz.func125 (by kernel_rfl) rfl #[.agg #[.int .u64 jH,.int .u64 jd],.bool (decide (a0 < 0))] rfl zL ?_;(with_reducible refine (bP.calls ash jH jd (decide (a0 < 0)) aoB _ avt.out).mono ?_);rintro e aAJ ⟨rfl,hb⟩;refine ⟨_,rfl,?_⟩;obtain ⟨dU,fE,fF,iQ,HB⟩:=zA5 (ay (zK dU) hb) (ay (zK fE) hb) (ay (zK fF) hb) (ay (zK iQ) hb) (ak zB hb);(try clear hb)))
               go_ret
               exact ⟨zS,zB⟩
end Go.Proofs.YtpondkggmcmpfaaGreatDoor.QA
namespace Go.Proofs.YtpondkggmcmpfaaGreatDoor.QA
open Go.Proofs.YtpondkggmcmpfaaGreatDoor.T
open Go.RowKit Go.Proofs.YtpondkggmcmpfaaGreatDoorW.PrintWords Go.Proofs.YtpondkggmcmpfaaGreatDoorW.PrintLast Go.Proofs.YtpondkggmcmpfaaGreatDoorW.PrintMore
attribute [local go_sem] dV dQ dR eP eX
set_option linter.unusedVariables false
set_option linter.unusedSimpArgs false
def kM.f (a0 a1:Int):Option (Bool):=if a1 < 1 then (some false) else (if a1 > 1048576 then (some false) else (if a0≤(wrap64 (4*a1)) then (some (decide (a0≥(wrap64 ((-4)*a1))))) else (some false)))
set_option maxHeartbeats 8000000 in
set_option maxRecDepth 100000 in
theorem kM.calls (a0 a1:Int) (r:Bool) (w:World) (h:kM.f a0 a1=some r) :
  Calls Tryz.prog 184 #[.int .i64 a0,.int .i64 a1] w fun e w'=>e = .returned (.bool r)∧dw w w':=by
 have H:=h
 clear h
 unfold kM.f at H
 by_cases c3:a1 < 1
 ·rw [if_pos c3] at H
  have fO:=decide_eq_true c3
  clear c3
  obtain rfl:=Option.some.inj H
  go_enter Tryz.func184,Tryz.ntmps184
  go_wp2
  go_ret
  exact ⟨zT,zW⟩
 ·rw [if_neg c3] at H
  have fO:=decide_eq_false c3
  clear c3
  by_cases c4:a1 > 1048576
  ·rw [if_pos c4] at H
   have fU:=decide_eq_true c4
   clear c4
   obtain rfl:=Option.some.inj H
   go_enter Tryz.func184,Tryz.ntmps184
   go_wp2
   go_ret
   exact ⟨zT,zW⟩
  ·rw [if_neg c4] at H
   have fU:=decide_eq_false c4
   clear c4
   by_cases c5:a0≤(wrap64 (4*a1))
   ·rw [if_pos c5] at H
    have iL:=decide_eq_true c5
    clear c5
    obtain rfl:=Option.some.inj H
    go_enter Tryz.func184,Tryz.ntmps184
    go_wp2
    go_ret
    exact ⟨zT,zW⟩
   ·rw [if_neg c5] at H
    have iL:=decide_eq_false c5
    clear c5
    obtain rfl:=Option.some.inj H
    go_enter Tryz.func184,Tryz.ntmps184
    go_wp2
    go_ret
    exact ⟨zT,zW⟩
end Go.Proofs.YtpondkggmcmpfaaGreatDoor.QA
