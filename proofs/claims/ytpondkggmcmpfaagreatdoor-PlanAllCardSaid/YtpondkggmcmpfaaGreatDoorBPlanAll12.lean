/- Joined by wip/tools/bundle.py out of: QAx24 QAx25 QAx26 QAx27 QAx28 QAx29. -/
import Derived.Test.YtpondkggmcmpfaaGreatDoorBPlanAll0
import Derived.Test.YtpondkggmcmpfaaGreatDoorBPlanAll1
import Derived.Test.YtpondkggmcmpfaaGreatDoorBPlanAll7
namespace Go.Proofs.YtpondkggmcmpfaaGreatDoor.QA
open Go.Proofs.YtpondkggmcmpfaaGreatDoor.T
open Go.RowKit Go.Proofs.YtpondkggmcmpfaaGreatDoorW.PrintWords Go.Proofs.YtpondkggmcmpfaaGreatDoorW.PrintLast Go.Proofs.YtpondkggmcmpfaaGreatDoorW.PrintMore
attribute [local go_sem] eP dV dW fM fO
set_option linter.unusedVariables false
set_option linter.unusedSimpArgs false
def jP.f (bJ dA kN nM:Int):Option (Int × Int):=if dA < nM then (some (IntKind.u64.wrap ((IntKind.u64.wrap (bJ - kN)) - 1),IntKind.u64.wrap (dA - nM))) else (some (IntKind.u64.wrap (bJ - kN),IntKind.u64.wrap (dA - nM)))
set_option maxHeartbeats 8000000 in
set_option maxRecDepth 100000 in
theorem jP.calls (bJ dA kN nM r1 r2:Int) (w:World) (h:jP.f bJ dA kN nM=some (r1,r2)) :
  Calls Tryz.prog 122 #[.agg #[.int .u64 bJ,.int .u64 dA],.agg #[.int .u64 kN,.int .u64 nM]] w fun e w'=>e = .returned (.agg #[.int .u64 r1,.int .u64 r2])∧Below w.heap.size w w':=by
 have xq:=Tryz.underlying179
 have HB:=aj.mk (Below.refl w.heap.size w)
 have H:=h
 clear h
 unfold jP.f at H
 by_cases c3:dA < nM
 ·rw [if_pos c3] at H
  have fK:=decide_eq_true c3
  clear c3
  simp only [Option.some.injEq,Prod.mk.injEq] at H
  obtain ⟨rfl,rfl⟩:=H
  go_enter Tryz.func122,Tryz.ntmps122
  go_wp2_with (first|((with_reducible refine bK (N:=2) rfl ?_);refine bT zR (N:=2) zR (cs := #[.int .u64 bJ,.int .u64 dA]) (t:=179) zG ?_;intro as1 hg w4 hbox hb;obtain ⟨HB,jQ,as2,as3⟩:=zA4 (ak zB hb) hbox (zg hg zB) (zg hg zB);clear hb hbox hg)|((with_reducible refine bK (N:=3) rfl ?_);refine bT zR (N:=3) zR (cs := #[.int .u64 kN,.int .u64 nM]) (t:=179) zG ?_;intro as4 hg w5 hbox hb;obtain ⟨jQ,HB,mG,as5,as6,adF,adG⟩:=zA7 (ay (zK jQ) hb) (ak zB hb) hbox (zg hg zB) (zg hg zB) (zl hg (zK jQ)) (zr hg (zK jQ));clear hb hbox hg)|((with_reducible refine bK (N:=4) rfl ?_);refine bT zR (N:=4) zR (cs := #[.int .u64 0,.int .u64 0]) (t:=179) zG ?_;intro alV hg w6 hbox hb;obtain ⟨jQ,mG,HB,uo,as7,as8,adH,adI,adJ,adK⟩:=adx (ay (zK jQ) hb) (ay (zK mG) hb) (ak zB hb) hbox (zg hg zB) (zg hg zB) (zl hg (zK jQ)) (zr hg (zK jQ)) (zl hg (zK mG)) (zr hg (zK mG));clear hb hbox hg;have arU:=adF.out;have arV:=adG.out;have arW:=adH.out;have arX:=adI.out;obtain ⟨_,_⟩:=zC2 jQ.out;obtain ⟨_,_⟩:=zF2 jQ.out;have as9:=adJ.out;have ata:=adK.out;obtain ⟨_,_⟩:=zC2 mG.out;obtain ⟨_,_⟩:=zF2 mG.out)|((with_reducible refine bK (N:=5) rfl ?_);refine bT zR (N:=5) zR (cs := #[.int .u64 0,.int .u64 0]) (t:=179) zG ?_;intro atb hg w12 hbox hb;obtain ⟨jQ,mG,uo,HB,agj,atc,atd,adL,adM,adN,adO,tV,adP⟩:=afc (ay (zK jQ) hb) (ay (zK mG) hb) (ay (zK uo) hb) (ak zB hb) hbox (zg hg zB) (zg hg zB) (zl hg (zK jQ)) (zr hg (zK jQ)) (zl hg (zK mG)) (zr hg (zK mG)) (zl hg (zK uo)) (zr hg (zK uo));clear hb hbox hg;have alW:=adM.out;have alX:=adL.out;have ap8:=adO.out;have ap9:=adN.out;have ate:=adP.out;have atf:=tV.out;obtain ⟨_,_⟩:=zC2 agj.out;obtain ⟨_,_⟩:=zF2 agj.out;obtain ⟨_,_⟩:=zC2 jQ.out;obtain ⟨_,_⟩:=zF2 jQ.out;obtain ⟨_,_⟩:=zC2 mG.out;obtain ⟨_,_⟩:=zF2 mG.out;obtain ⟨_,_⟩:=zC2 uo.out;obtain ⟨_,_⟩:=zF2 uo.out))
  refine bodyPost_ret (results_cell_row rfl _ _ alV 179 #[.int .u64 (IntKind.u64.wrap ((IntKind.u64.wrap (bJ - kN)) - 1)),.int .u64 (IntKind.u64.wrap (dA - nM))] (0,0) _ rfl (by refine zD ?_;refine aY (cs := #[.int .u64 (IntKind.u64.wrap ((IntKind.u64.wrap (bJ - kN)) - 1)),.int .u64 0]) ?_ 1 _ rfl;refine zD ?_;refine aY (cs := #[.int .u64 0,.int .u64 0]) ?_ 0 _ rfl;refine zD ?_;refine iF ?_ tV.out _;refine zD ?_;refine iF ?_ tV.out _;refine zD ?_;refine iF ?_ tV.out _;refine zD ?_;exact uo.out) Tryz.underlying179 rfl (by kernel_rfl)) rfl ?_
  exact ⟨zS,zB⟩
 ·rw [if_neg c3] at H
  have fK:=decide_eq_false c3
  clear c3
  simp only [Option.some.injEq,Prod.mk.injEq] at H
  obtain ⟨rfl,rfl⟩:=H
  go_enter Tryz.func122,Tryz.ntmps122
  go_wp2_with (first|((with_reducible refine bK (N:=2) rfl ?_);refine bT zR (N:=2) zR (cs := #[.int .u64 bJ,.int .u64 dA]) (t:=179) zG ?_;intro as1 hg w20 hbox hb;obtain ⟨HB,jQ,as2,as3⟩:=zA4 (ak zB hb) hbox (zg hg zB) (zg hg zB);clear hb hbox hg)|((with_reducible refine bK (N:=3) rfl ?_);refine bT zR (N:=3) zR (cs := #[.int .u64 kN,.int .u64 nM]) (t:=179) zG ?_;intro as4 hg w21 hbox hb;obtain ⟨jQ,HB,mG,as5,as6,adF,adG⟩:=zA7 (ay (zK jQ) hb) (ak zB hb) hbox (zg hg zB) (zg hg zB) (zl hg (zK jQ)) (zr hg (zK jQ));clear hb hbox hg)|((with_reducible refine bK (N:=4) rfl ?_);refine bT zR (N:=4) zR (cs := #[.int .u64 0,.int .u64 0]) (t:=179) zG ?_;intro alV hg w22 hbox hb;obtain ⟨jQ,mG,HB,uo,as7,as8,adH,adI,adJ,adK⟩:=adx (ay (zK jQ) hb) (ay (zK mG) hb) (ak zB hb) hbox (zg hg zB) (zg hg zB) (zl hg (zK jQ)) (zr hg (zK jQ)) (zl hg (zK mG)) (zr hg (zK mG));clear hb hbox hg;have alY:=adF.out;have alZ:=adG.out;have axU:=adH.out;have axV:=adI.out;obtain ⟨_,_⟩:=zC2 jQ.out;obtain ⟨_,_⟩:=zF2 jQ.out;have atg:=adJ.out;have ath:=adK.out;obtain ⟨_,_⟩:=zC2 mG.out;obtain ⟨_,_⟩:=zF2 mG.out)|((with_reducible refine bK (N:=5) rfl ?_);refine bT zR (N:=5) zR (cs := #[.int .u64 0,.int .u64 0]) (t:=179) zG ?_;intro atb hg w28 hbox hb;obtain ⟨jQ,mG,uo,HB,agj,atc,atd,adL,adM,adN,adO,tV,adP⟩:=afc (ay (zK jQ) hb) (ay (zK mG) hb) (ay (zK uo) hb) (ak zB hb) hbox (zg hg zB) (zg hg zB) (zl hg (zK jQ)) (zr hg (zK jQ)) (zl hg (zK mG)) (zr hg (zK mG)) (zl hg (zK uo)) (zr hg (zK uo));clear hb hbox hg;have al0:=adM.out;have al2:=adL.out;have aqa:=adO.out;have aqb:=adN.out;have axW:=adP.out;have axX:=tV.out;obtain ⟨_,_⟩:=zC2 agj.out;obtain ⟨_,_⟩:=zF2 agj.out;obtain ⟨_,_⟩:=zC2 jQ.out;obtain ⟨_,_⟩:=zF2 jQ.out;obtain ⟨_,_⟩:=zC2 mG.out;obtain ⟨_,_⟩:=zF2 mG.out;obtain ⟨_,_⟩:=zC2 uo.out;obtain ⟨_,_⟩:=zF2 uo.out))
  refine bodyPost_ret (results_cell_row rfl _ _ alV 179 #[.int .u64 (IntKind.u64.wrap (bJ - kN)),.int .u64 (IntKind.u64.wrap (dA - nM))] (0,0) _ rfl (by refine zD ?_;refine aY (cs := #[.int .u64 (IntKind.u64.wrap (bJ - kN)),.int .u64 0]) ?_ 1 _ rfl;refine zD ?_;refine aY (cs := #[.int .u64 0,.int .u64 0]) ?_ 0 _ rfl;refine zD ?_;refine iF ?_ tV.out _;refine zD ?_;refine iF ?_ tV.out _;refine zD ?_;exact uo.out) Tryz.underlying179 rfl (by kernel_rfl)) rfl ?_
  exact ⟨zS,zB⟩
end Go.Proofs.YtpondkggmcmpfaaGreatDoor.QA
namespace Go.Proofs.YtpondkggmcmpfaaGreatDoor.QA
open Go.Proofs.YtpondkggmcmpfaaGreatDoor.T
open Go.RowKit Go.Proofs.YtpondkggmcmpfaaGreatDoorW.PrintWords Go.Proofs.YtpondkggmcmpfaaGreatDoorW.PrintLast Go.Proofs.YtpondkggmcmpfaaGreatDoorW.PrintMore
attribute [local go_sem] eP dV dW fM fO
set_option linter.unusedVariables false
set_option linter.unusedSimpArgs false
def eX.l0:Nat→Int→Int→Int→Int→Int→Int→Int→Int→Option (Int × Int × Int)
 | 0,_,_,_,_,_,_,_,_=>none
 | k+1,x1,x8,ahh,ahi,ak6,ak7,ara,ak8=>if x8≥0 then ((fB.f ahh ahi x8).bind fun adQ=>((dH.f ara ak8 adQ).bind fun aeI=>((dH.f ak6 ak7 0).bind fun aiK=>((gX.f aeI.1 aeI.2 0 x1).bind fun aom=>(if aom=true then (eX.l0 k x1 (wrap64 (x8 - 1)) ahh ahi aiK.1 aiK.2 aeI.1 aeI.2) else ((jP.f aeI.1 aeI.2 0 x1).bind fun aqc=>(eX.l0 k x1 (wrap64 (x8 - 1)) ahh ahi aiK.1 (IntKind.u64.wrap (aiK.2+1)) aqc.1 aqc.2))))))) else (some (ak6,ak7,ak8))
def eX.f (k:Nat) (bJ dA a1:Int):Option (Int × Int × Int):=if a1=0 then (some (0,0,0)) else (eX.l0 k a1 127 bJ dA 0 0 0 0)
set_option maxHeartbeats 8000000 in
set_option maxRecDepth 100000 in
theorem eX.calls (k:Nat) (bJ dA a1 r1 r2 r3:Int) (w:World) (h:eX.f k bJ dA a1=some (r1,r2,r3)) :
  Calls Tryz.prog 172 #[.agg #[.int .u64 bJ,.int .u64 dA],.int .u64 a1] w fun e w'=>e = .returned (.tuple #[.agg #[.int .u64 r1,.int .u64 r2],.int .u64 r3])∧Below w.heap.size w w':=by
 have xq:=Tryz.underlying179
 have HB:=aj.mk (Below.refl w.heap.size w)
 have H:=h
 clear h
 unfold eX.f at H
 by_cases c3:a1=0
 ·rw [if_pos c3] at H
  have fK:(a1 == 0)=true:=beq_iff_eq.mpr c3
  have wJ:(a1 != 0)=false:=bne_eq_false_iff_eq.mpr c3
  clear c3
  simp only [Option.some.injEq,Prod.mk.injEq] at H
  obtain ⟨rfl,rfl,rfl⟩:=H
  go_enter Tryz.func172,Tryz.ntmps172
  go_wp2_with (first|((with_reducible refine bK (N:=2) rfl ?_);refine bT zR (N:=2) zR (cs := #[.int .u64 bJ,.int .u64 dA]) (t:=179) zG ?_;intro aeJ hg w4 hbox hb;obtain ⟨HB,eF,ati,atj⟩:=zA4 (ak zB hb) hbox (zg hg zB) (zg hg zB);clear hb hbox hg)|((with_reducible refine bK (N:=4) rfl ?_);refine bT zR (N:=4) zR (cs := #[.int .u64 0,.int .u64 0]) (t:=179) zG ?_;intro vI hg w5 hbox hb;obtain ⟨eF,HB,gJ,atl,atm,abG,abH⟩:=zA7 (ay (zK eF) hb) (ak zB hb) hbox (zg hg zB) (zg hg zB) (zl hg (zK eF)) (zr hg (zK eF));clear hb hbox hg)|((with_reducible refine bK (N:=6) rfl ?_);refine bT zR (N:=6) zR (cs := #[.int .u64 0,.int .u64 0]) (t:=179) zG ?_;intro rW hg w6 hbox hb;obtain ⟨eF,gJ,HB,fZ,atn,ato,aao,aap,vY,oU⟩:=adx (ay (zK eF) hb) (ay (zK gJ) hb) (ak zB hb) hbox (zg hg zB) (zg hg zB) (zl hg (zK eF)) (zr hg (zK eF)) (zl hg (zK gJ)) (zr hg (zK gJ));clear hb hbox hg;have arU:=aap.out;have arV:=aao.out;have arW:=oU.out;have arX:=vY.out;obtain ⟨_,_⟩:=zC2 fZ.out;obtain ⟨_,_⟩:=zF2 fZ.out)|((with_reducible refine bK (N:=7) rfl ?_);refine bT zR (N:=7) zR (cs := #[.int .u64 0,.int .u64 0]) (t:=179) zG ?_;intro qF hg w10 hbox hb;obtain ⟨eF,gJ,fZ,HB,eY,atp,atq,qY,qZ,ni,kW,oV,qc⟩:=afc (ay (zK eF) hb) (ay (zK gJ) hb) (ay (g:=rW) (o := .cells #[.int .u64 0,.int .u64 0] 179 (0,0)) (by refine zD ?_;refine aY (cs := #[.int .u64 0,.int .u64 0]) ?_ 1 _ rfl;refine zD ?_;refine aY (cs := #[.int .u64 0,.int .u64 0]) ?_ 0 _ rfl;refine zD ?_;exact fZ.out) hb) (ak zB hb) hbox (zg hg zB) (zg hg zB) (zl hg (zK eF)) (zr hg (zK eF)) (zl hg (zK gJ)) (zr hg (zK gJ)) ((by rw [hg];exact Nat.ne_of_lt (dI (g:=rW) (o := .cells #[.int .u64 0,.int .u64 0] 179 (0,0)) (by refine zD ?_;refine aY (cs := #[.int .u64 0,.int .u64 0]) ?_ 1 _ rfl;refine zD ?_;refine aY (cs := #[.int .u64 0,.int .u64 0]) ?_ 0 _ rfl;refine zD ?_;exact fZ.out)):rW≠qF)) ((by rw [hg];exact Nat.ne_of_gt (dI (g:=rW) (o := .cells #[.int .u64 0,.int .u64 0] 179 (0,0)) (by refine zD ?_;refine aY (cs := #[.int .u64 0,.int .u64 0]) ?_ 1 _ rfl;refine zD ?_;refine aY (cs := #[.int .u64 0,.int .u64 0]) ?_ 0 _ rfl;refine zD ?_;exact fZ.out)):qF≠rW));clear hb hbox hg;have atr:=qZ.out;have att:=qY.out;have atu:=kW.out;have atv:=ni.out;have alW:=qc.out;have alX:=oV.out;obtain ⟨_,_⟩:=zC2 eY.out;obtain ⟨_,_⟩:=zF2 eY.out;obtain ⟨_,_⟩:=zC2 fZ.out;obtain ⟨_,_⟩:=zF2 fZ.out;have atw:=abH.out;have atx:=abG.out;obtain ⟨_,_⟩:=zC2 gJ.out;obtain ⟨_,_⟩:=zF2 gJ.out))
  refine bodyPost_ret (afY rfl _ _ vI 179 #[.int .u64 0,.int .u64 0] (0,0) _ rfl (by refine zD ?_;refine aY (cs := #[.int .u64 0,.int .u64 0]) ?_ 1 _ rfl;refine zD ?_;refine aY (cs := #[.int .u64 0,.int .u64 0]) ?_ 0 _ rfl;refine zD ?_;refine iF ?_ ni.out _;refine zD ?_;refine iF ?_ ni.out _;refine zD ?_;exact gJ.out) Tryz.underlying179 rfl (by kernel_rfl)) rfl ?_
  exact ⟨zS,zB⟩
 ·rw [if_neg c3] at H
  have fK:(a1 == 0)=false:=beq_eq_false_iff_ne.mpr c3
  have wJ:(a1 != 0)=true:=bne_iff_ne.mpr c3
  have H':=aj.mk H
  clear H
  go_enter Tryz.func172,Tryz.ntmps172
  go_wp2_with (first|((with_reducible refine bK (N:=2) rfl ?_);refine bT zR (N:=2) zR (cs := #[.int .u64 bJ,.int .u64 dA]) (t:=179) zG ?_;intro aeJ hg w18 hbox hb;obtain ⟨HB,eF,ati,atj⟩:=zA4 (ak zB hb) hbox (zg hg zB) (zg hg zB);clear hb hbox hg)|((with_reducible refine bK (N:=4) rfl ?_);refine bT zR (N:=4) zR (cs := #[.int .u64 0,.int .u64 0]) (t:=179) zG ?_;intro vI hg w19 hbox hb;obtain ⟨eF,HB,gJ,atl,atm,abG,abH⟩:=zA7 (ay (zK eF) hb) (ak zB hb) hbox (zg hg zB) (zg hg zB) (zl hg (zK eF)) (zr hg (zK eF));clear hb hbox hg)|((with_reducible refine bK (N:=6) rfl ?_);refine bT zR (N:=6) zR (cs := #[.int .u64 0,.int .u64 0]) (t:=179) zG ?_;intro rW hg w20 hbox hb;obtain ⟨eF,gJ,HB,fZ,atn,ato,aao,aap,vY,oU⟩:=adx (ay (zK eF) hb) (ay (zK gJ) hb) (ak zB hb) hbox (zg hg zB) (zg hg zB) (zl hg (zK eF)) (zr hg (zK eF)) (zl hg (zK gJ)) (zr hg (zK gJ));clear hb hbox hg;have axY:=aap.out;have axZ:=aao.out;have aqd:=oU.out;have aqe:=vY.out;obtain ⟨_,_⟩:=zC2 fZ.out;obtain ⟨_,_⟩:=zF2 fZ.out)|((with_reducible refine bK (N:=7) rfl ?_);refine bT zR (N:=7) zR (cs := #[.int .u64 0,.int .u64 0]) (t:=179) zG ?_;intro qF hg w24 hbox hb;obtain ⟨eF,gJ,fZ,HB,eY,atp,atq,qY,qZ,ni,kW,oV,qc⟩:=afc (ay (zK eF) hb) (ay (zK gJ) hb) (ay (g:=rW) (o := .cells #[.int .u64 0,.int .u64 0] 179 (0,0)) (by refine zD ?_;refine aY (cs := #[.int .u64 0,.int .u64 0]) ?_ 1 _ rfl;refine zD ?_;refine aY (cs := #[.int .u64 0,.int .u64 0]) ?_ 0 _ rfl;refine zD ?_;exact fZ.out) hb) (ak zB hb) hbox (zg hg zB) (zg hg zB) (zl hg (zK eF)) (zr hg (zK eF)) (zl hg (zK gJ)) (zr hg (zK gJ)) ((by rw [hg];exact Nat.ne_of_lt (dI (g:=rW) (o := .cells #[.int .u64 0,.int .u64 0] 179 (0,0)) (by refine zD ?_;refine aY (cs := #[.int .u64 0,.int .u64 0]) ?_ 1 _ rfl;refine zD ?_;refine aY (cs := #[.int .u64 0,.int .u64 0]) ?_ 0 _ rfl;refine zD ?_;exact fZ.out)):rW≠qF)) ((by rw [hg];exact Nat.ne_of_gt (dI (g:=rW) (o := .cells #[.int .u64 0,.int .u64 0] 179 (0,0)) (by refine zD ?_;refine aY (cs := #[.int .u64 0,.int .u64 0]) ?_ 1 _ rfl;refine zD ?_;refine aY (cs := #[.int .u64 0,.int .u64 0]) ?_ 0 _ rfl;refine zD ?_;exact fZ.out)):qF≠rW));clear hb hbox hg;have aty:=qZ.out;have atz:=qY.out;have atg:=kW.out;have ath:=ni.out;have ax0:=qc.out;have ax1:=oV.out;obtain ⟨_,_⟩:=zC2 eY.out;obtain ⟨_,_⟩:=zF2 eY.out))
  go_loopg [8] k (fun kq v8 w'=>∃ (gW:Int) (nX:Int) (nC:Int) (lW:Int) (kH:Int),v8 = .int .i64 gW∧aj (eX.l0 kq a1 gW bJ dA nX nC lW kH=some (r1,r2,r3))∧aj (kq≤k)∧aj (w'.heap[aeJ]? = some (.cells #[.int .u64 bJ,.int .u64 dA] 179 (0,0)))∧aj (w'.heap[vI]? = some (.cells #[.int .u64 0,.int .u64 0] 179 (0,0)))∧aj (w'.heap[rW]? = some (.cells #[.int .u64 nX,.int .u64 nC] 179 (0,0)))∧aj (w'.heap[qF]? = some (.cells #[.int .u64 lW,.int .u64 kH] 179 (0,0)))∧aj (Below w.heap.size w w'))
  case atStart=>exact ⟨(127),(0),(0),(0),(0),zT,H',⟨Nat.le_refl _⟩,⟨zK eF⟩,⟨zK gJ⟩,⟨zK fZ⟩,⟨by refine zD ?_;refine aY (cs := #[.int .u64 0,.int .u64 0]) ?_ 1 _ rfl;refine zD ?_;refine aY (cs := #[.int .u64 0,.int .u64 0]) ?_ 0 _ rfl;refine zD ?_;exact eY.out⟩,⟨zB⟩⟩
  case round =>
   clear H'
   obtain ⟨gW,nX,nC,lW,kH,rfl,HA,HK1,eF,gJ,fZ,eY,HB⟩:=hrel
   cases gk with
   | zero=>exact absurd HA.out (by simp [eX.l0])
   | succ k1 =>
    have H:=HA.out
    clear HA
    simp only [eX.l0] at H
    by_cases c29:gW≥0
    ·rw [if_pos c29] at H
     have al3:=decide_eq_true c29
     clear c29
     replace H:=zO H
     obtain ⟨adQ,A30,H⟩:=H
     try dsimp only at H
     replace H:=zO H
     obtain ⟨⟨yG,zu⟩,A31,H⟩:=H
     try dsimp only at H
     replace H:=zO H
     obtain ⟨⟨acT,afq⟩,A32,H⟩:=H
     try dsimp only at H
     replace H:=zO H
     obtain ⟨aom,A33,H⟩:=H
     try dsimp only at H
     by_cases c34:aom=true
     ·subst c34
      rw [if_pos rfl] at H;try dsimp only at H
      have H':=aj.mk H
      clear H
      try go_wp2
      obtain ⟨eF,gJ,fZ,eY,HB⟩:=zA5 (jo eF.out) (jo gJ.out) (jo fZ.out) (jo eY.out) (bg HB.out)
      refine aci (n:=6) (S:=fun w'=>w'.cell? ⟨qF,0,none⟩=some (.int .u64 lW)∧w'.cell? ⟨qF,1,none⟩=some (.int .u64 kH)∧w'.cell? ⟨aeJ,0,none⟩=some (.int .u64 bJ)∧w'.cell? ⟨aeJ,1,none⟩=some (.int .u64 dA)) (ds:=[5]) #[false,false,false,false,false,false] (by kernel_rfl) rfl rfl ⟨(au eY.out 0).trans rfl,(au eY.out 1).trans rfl,(au eF.out 0).trans rfl,(au eF.out 1).trans rfl⟩ (fun hHeld => ?_)
      generalize wr.drew=w35 at eF gJ fZ eY HB hHeld ⊢
      refine xg (i:=2) (N:=some 20) (v := ?_) (a' := ?_) #[false,false,true,false,false,false] rfl rfl (by kernel_rfl) (fun _ _ _ h=>h) (Or.inl ⟨by rfl,?_⟩) ?_ ?_
      rotate_left
      ·intro w'
       go_simp
       with_reducible rfl
      rotate_left
      ·simp only [Act.put,List.setIfInBounds_toArray,List.set_cons_zero,List.set_cons_succ,bW,dh]
       rfl
      refine yu (i:=0) (N:=some 18) (v := ?_) (a' := ?_) #[true,false,true,false,false,false] rfl rfl (by kernel_rfl) (fun _ _ _ h=>h) (Or.inl ⟨by rfl,?_⟩) hHeld ?_ ?_
      rotate_left
      ·rintro w' ⟨s0,s1,s2,s3⟩
       go_simp
       with_reducible rfl
      rotate_left
      ·simp only [Act.put,List.setIfInBounds_toArray,List.set_cons_zero,List.set_cons_succ,bW,dh]
       rfl
      refine yu (i:=1) (N:=some 19) (v := ?_) (a' := ?_) #[true,true,true,false,false,false] rfl rfl (by kernel_rfl) (fun _ _ _ h=>h) (Or.inl ⟨by rfl,?_⟩) hHeld ?_ ?_
      rotate_left
      ·rintro w' ⟨s0,s1,s2,s3⟩
       go_simp
       with_reducible rfl
      rotate_left
      ·simp only [Act.put,List.setIfInBounds_toArray,List.set_cons_zero,List.set_cons_succ,bW,dh]
       rfl
      refine aa7 (i:=3) (N:=some 21) #[true,true,true,true,false,false] rfl rfl (by kernel_rfl) (by decide) (fun K hK => ?_)
      refine zU Tryz.func121 (by kernel_rfl) rfl #[.agg #[.int .u64 bJ,.int .u64 dA],.int .i64 gW] (by rfl) rfl rfl zL ?_
      with_reducible refine (fB.calls bJ dA gW adQ _ A30.out).mono ?_
      rintro e w36 ⟨rfl,hb⟩
      refine ⟨_,rfl,?_⟩
      obtain ⟨eF,gJ,fZ,eY,HB⟩:=zA5 (ay (zK eF) hb) (ay (zK gJ) hb) (ay (zK fZ) hb) (ay (zK eY) hb) (ak zB hb)
      (try clear hb)
      (try clear hb2)
      (try clear hk)
      (try clear hi)
      refine hK.out _ _ ⟨(au eY.out 0).trans rfl,(au eY.out 1).trans rfl,(au eF.out 0).trans rfl,(au eF.out 1).trans rfl⟩ (fun hHeld => ?_)
      clear hK K
      refine zQ (a' := ?_) ?_ ?_
      rotate_left
      ·show Act.put _ (some 21) _=_
       simp only [Act.put,List.setIfInBounds_toArray,List.set_cons_zero,List.set_cons_succ,bW,dh]
       rfl
      refine aa7 (i:=4) (N:=some 22) #[true,true,true,true,true,false] rfl rfl (by kernel_rfl) (by decide) (fun K hK => ?_)
      refine zU Tryz.func119 (by kernel_rfl) rfl #[.agg #[.int .u64 lW,.int .u64 kH],.int .u64 adQ] (by rfl) rfl rfl zL ?_
      with_reducible refine (dH.calls lW kH adQ yG zu _ A31.out).mono ?_
      rintro e w37 ⟨rfl,hb⟩
      refine ⟨_,rfl,?_⟩
      obtain ⟨eF,gJ,fZ,eY,HB⟩:=zA5 (ay (zK eF) hb) (ay (zK gJ) hb) (ay (zK fZ) hb) (ay (zK eY) hb) (ak zB hb)
      (try clear hb)
      (try clear hb2)
      (try clear hk)
      (try clear hi)
      refine hK.out _ _ ⟨(au eY.out 0).trans rfl,(au eY.out 1).trans rfl,(au eF.out 0).trans rfl,(au eF.out 1).trans rfl⟩ (fun hHeld => ?_)
      clear hK K
      refine zQ (a' := ?_) ?_ ?_
      rotate_left
      ·show Act.put _ (some 22) _=_
       simp only [Act.put,List.setIfInBounds_toArray,List.set_cons_zero,List.set_cons_succ,bW,dh]
       rfl
      refine aiH (i:=5) (N:=none) #[true,true,true,true,true,true] rfl rfl (by kernel_rfl) (by decide) (fun K hK => ?_)
      have aAm:w37.cell? ⟨qF,0,none⟩=some (.int .u64 lW):=(au eY.out 0).trans rfl
      have ax2:=aN eY.out 0
      have awy:=qY.out
      have awz:=ni.out
      have awC:=oV.out
      have awD:=qZ.out
      have awE:=kW.out
      have awF:=qc.out
      have aAn:w37.cell? ⟨qF,1,none⟩=some (.int .u64 kH):=(au eY.out 1).trans rfl
      have ax3:=aN eY.out 1
      have awG:=qY.out
      have awH:=ni.out
      have awI:=oV.out
      have awJ:=qZ.out
      have awK:=kW.out
      have awL:=qc.out
      refine afX (w1 := ?_) (by rfl) rfl ?_ ?_
      rotate_left
      ·go_simp
       rfl
      refine hK.out _ _ ?_
      clear hK K
      refine aeA (by kernel_rfl) ?_
      have aqf:=aap.out
      have aqg:=aao.out
      have atA:=oU.out
      have atB:=vY.out
      have ax4:=oV.out
      have ax5:=qc.out
      obtain ⟨_,_⟩:=zC2 fZ.out
      obtain ⟨_,_⟩:=zF2 fZ.out
      try go_wp2_with (first|((with_reducible refine aA (f:=119) rfl ?_);refine aH (some 24) rfl rfl Tryz.func119 (by kernel_rfl) rfl #[.agg #[.int .u64 nX,.int .u64 nC],.int .u64 0] rfl zL ?_;(with_reducible refine (dH.calls nX nC 0 acT afq _ A32.out).mono ?_);rintro e w44 ⟨rfl,hb⟩;refine ⟨_,rfl,?_⟩;obtain ⟨eF,gJ,fZ,eY,HB⟩:=zA5 (ay (zK eF) hb) (ay (zK gJ) hb) (ay (zK fZ) hb) (ay (g:=qF) (o := .cells #[.int .u64 yG,.int .u64 zu] 179 (0,0)) (by refine zD ?_;refine aY (cs := #[.int .u64 yG,.int .u64 kH]) ?_ 1 _ rfl;refine zD ?_;refine aY (cs := #[.int .u64 lW,.int .u64 kH]) ?_ 0 _ rfl;refine zD ?_;exact eY.out) hb) (ak zB hb);(try clear hb);obtain ⟨_,_⟩:=zC2 fZ.out;obtain ⟨_,_⟩:=zF2 fZ.out;have aqh:=qZ.out;have aqi:=qY.out;have atC:=kW.out;have atD:=ni.out;obtain ⟨_,_⟩:=zC2 eY.out;obtain ⟨_,_⟩:=zF2 eY.out)|((with_reducible refine aA (f:=123) rfl ?_);refine aH (some 28) rfl rfl Tryz.func123 (by kernel_rfl) rfl #[.agg #[.int .u64 yG,.int .u64 zu],.agg #[.int .u64 0,.int .u64 a1]] rfl zL ?_;(with_reducible refine (gX.calls yG zu 0 a1 true _ A33.out).mono ?_);rintro e w49 ⟨rfl,hb⟩;refine ⟨_,rfl,?_⟩;obtain ⟨eF,gJ,fZ,eY,HB⟩:=zA5 (ay (zK eF) hb) (ay (zK gJ) hb) (ay (g:=rW) (o := .cells #[.int .u64 acT,.int .u64 afq] 179 (0,0)) (by refine zD ?_;refine aY (cs := #[.int .u64 acT,.int .u64 nC]) ?_ 1 _ rfl;refine zD ?_;refine aY (cs := #[.int .u64 nX,.int .u64 nC]) ?_ 0 _ rfl;refine zD ?_;exact fZ.out) hb) (ay (zK eY) hb) (ak zB hb);(try clear hb)))
      go_roundg k1
      case measure=>have:=HK1.out;omega
      case rel=>exact ⟨(wrap64 (gW - 1)),(acT),(afq),(yG),(zu),zT,H',⟨by have:=HK1.out;omega⟩,⟨zK eF⟩,⟨zK gJ⟩,⟨zK fZ⟩,⟨zK eY⟩,⟨zB⟩⟩
     ·replace c34:=Bool.eq_false_iff.mpr c34
      subst c34
      rw [if_neg (show ¬ (false=true) by decide)] at H;try dsimp only at H
      replace H:=zO H
      obtain ⟨⟨aon,arY⟩,A50,H⟩:=H
      try dsimp only at H
      have H':=aj.mk H
      clear H
      try go_wp2
      obtain ⟨eF,gJ,fZ,eY,HB⟩:=zA5 (jo eF.out) (jo gJ.out) (jo fZ.out) (jo eY.out) (bg HB.out)
      refine aci (n:=6) (S:=fun w'=>w'.cell? ⟨qF,0,none⟩=some (.int .u64 lW)∧w'.cell? ⟨qF,1,none⟩=some (.int .u64 kH)∧w'.cell? ⟨aeJ,0,none⟩=some (.int .u64 bJ)∧w'.cell? ⟨aeJ,1,none⟩=some (.int .u64 dA)) (ds:=[5]) #[false,false,false,false,false,false] (by kernel_rfl) rfl rfl ⟨(au eY.out 0).trans rfl,(au eY.out 1).trans rfl,(au eF.out 0).trans rfl,(au eF.out 1).trans rfl⟩ (fun hHeld => ?_)
      generalize wr.drew=w51 at eF gJ fZ eY HB hHeld ⊢
      refine xg (i:=2) (N:=some 20) (v := ?_) (a' := ?_) #[false,false,true,false,false,false] rfl rfl (by kernel_rfl) (fun _ _ _ h=>h) (Or.inl ⟨by rfl,?_⟩) ?_ ?_
      rotate_left
      ·intro w'
       go_simp
       with_reducible rfl
      rotate_left
      ·simp only [Act.put,List.setIfInBounds_toArray,List.set_cons_zero,List.set_cons_succ,bW,dh]
       rfl
      refine yu (i:=0) (N:=some 18) (v := ?_) (a' := ?_) #[true,false,true,false,false,false] rfl rfl (by kernel_rfl) (fun _ _ _ h=>h) (Or.inl ⟨by rfl,?_⟩) hHeld ?_ ?_
      rotate_left
      ·rintro w' ⟨s0,s1,s2,s3⟩
       go_simp
       with_reducible rfl
      rotate_left
      ·simp only [Act.put,List.setIfInBounds_toArray,List.set_cons_zero,List.set_cons_succ,bW,dh]
       rfl
      refine yu (i:=1) (N:=some 19) (v := ?_) (a' := ?_) #[true,true,true,false,false,false] rfl rfl (by kernel_rfl) (fun _ _ _ h=>h) (Or.inl ⟨by rfl,?_⟩) hHeld ?_ ?_
      rotate_left
      ·rintro w' ⟨s0,s1,s2,s3⟩
       go_simp
       with_reducible rfl
      rotate_left
      ·simp only [Act.put,List.setIfInBounds_toArray,List.set_cons_zero,List.set_cons_succ,bW,dh]
       rfl
      refine aa7 (i:=3) (N:=some 21) #[true,true,true,true,false,false] rfl rfl (by kernel_rfl) (by decide) (fun K hK => ?_)
      refine zU Tryz.func121 (by kernel_rfl) rfl #[.agg #[.int .u64 bJ,.int .u64 dA],.int .i64 gW] (by rfl) rfl rfl zL ?_
      with_reducible refine (fB.calls bJ dA gW adQ _ A30.out).mono ?_
      rintro e w52 ⟨rfl,hb⟩
      refine ⟨_,rfl,?_⟩
      obtain ⟨eF,gJ,fZ,eY,HB⟩:=zA5 (ay (zK eF) hb) (ay (zK gJ) hb) (ay (zK fZ) hb) (ay (zK eY) hb) (ak zB hb)
      (try clear hb)
      (try clear hb2)
      (try clear hk)
      (try clear hi)
      refine hK.out _ _ ⟨(au eY.out 0).trans rfl,(au eY.out 1).trans rfl,(au eF.out 0).trans rfl,(au eF.out 1).trans rfl⟩ (fun hHeld => ?_)
      clear hK K
      refine zQ (a' := ?_) ?_ ?_
      rotate_left
      ·show Act.put _ (some 21) _=_
       simp only [Act.put,List.setIfInBounds_toArray,List.set_cons_zero,List.set_cons_succ,bW,dh]
       rfl
      refine aa7 (i:=4) (N:=some 22) #[true,true,true,true,true,false] rfl rfl (by kernel_rfl) (by decide) (fun K hK => ?_)
      refine zU Tryz.func119 (by kernel_rfl) rfl #[.agg #[.int .u64 lW,.int .u64 kH],.int .u64 adQ] (by rfl) rfl rfl zL ?_
      with_reducible refine (dH.calls lW kH adQ yG zu _ A31.out).mono ?_
      rintro e w53 ⟨rfl,hb⟩
      refine ⟨_,rfl,?_⟩
      obtain ⟨eF,gJ,fZ,eY,HB⟩:=zA5 (ay (zK eF) hb) (ay (zK gJ) hb) (ay (zK fZ) hb) (ay (zK eY) hb) (ak zB hb)
      (try clear hb)
      (try clear hb2)
      (try clear hk)
      (try clear hi)
      refine hK.out _ _ ⟨(au eY.out 0).trans rfl,(au eY.out 1).trans rfl,(au eF.out 0).trans rfl,(au eF.out 1).trans rfl⟩ (fun hHeld => ?_)
      clear hK K
      refine zQ (a' := ?_) ?_ ?_
      rotate_left
      ·show Act.put _ (some 22) _=_
       simp only [Act.put,List.setIfInBounds_toArray,List.set_cons_zero,List.set_cons_succ,bW,dh]
       rfl
      refine aiH (i:=5) (N:=none) #[true,true,true,true,true,true] rfl rfl (by kernel_rfl) (by decide) (fun K hK => ?_)
      have aAo:w53.cell? ⟨qF,0,none⟩=some (.int .u64 lW):=(au eY.out 0).trans rfl
      have ax6:=aN eY.out 0
      have awM:=qY.out
      have awN:=ni.out
      have awO:=oV.out
      have awP:=qZ.out
      have awQ:=kW.out
      have awR:=qc.out
      have aAp:w53.cell? ⟨qF,1,none⟩=some (.int .u64 kH):=(au eY.out 1).trans rfl
      have ax7:=aN eY.out 1
      have awS:=qY.out
      have awT:=ni.out
      have awU:=oV.out
      have awV:=qZ.out
      have awW:=kW.out
      have awX:=qc.out
      refine afX (w1 := ?_) (by rfl) rfl ?_ ?_
      rotate_left
      ·go_simp
       rfl
      refine hK.out _ _ ?_
      clear hK K
      refine aeA (by kernel_rfl) ?_
      have ax8:=aap.out
      have ax9:=aao.out
      have aya:=oU.out
      have ayb:=vY.out
      have atE:=oV.out
      have atF:=qc.out
      obtain ⟨_,_⟩:=zC2 fZ.out
      obtain ⟨_,_⟩:=zF2 fZ.out
      try go_wp2_with (first|((with_reducible refine aA (f:=119) rfl ?_);refine aH (some 24) rfl rfl Tryz.func119 (by kernel_rfl) rfl #[.agg #[.int .u64 nX,.int .u64 nC],.int .u64 0] rfl zL ?_;(with_reducible refine (dH.calls nX nC 0 acT afq _ A32.out).mono ?_);rintro e w60 ⟨rfl,hb⟩;refine ⟨_,rfl,?_⟩;obtain ⟨eF,gJ,fZ,eY,HB⟩:=zA5 (ay (zK eF) hb) (ay (zK gJ) hb) (ay (zK fZ) hb) (ay (g:=qF) (o := .cells #[.int .u64 yG,.int .u64 zu] 179 (0,0)) (by refine zD ?_;refine aY (cs := #[.int .u64 yG,.int .u64 kH]) ?_ 1 _ rfl;refine zD ?_;refine aY (cs := #[.int .u64 lW,.int .u64 kH]) ?_ 0 _ rfl;refine zD ?_;exact eY.out) hb) (ak zB hb);(try clear hb);obtain ⟨_,_⟩:=zC2 fZ.out;obtain ⟨_,_⟩:=zF2 fZ.out;have atG:=qZ.out;have atH:=qY.out;have atI:=kW.out;have atJ:=ni.out;obtain ⟨_,_⟩:=zC2 eY.out;obtain ⟨_,_⟩:=zF2 eY.out)|((with_reducible refine aA (f:=123) rfl ?_);refine aH (some 28) rfl rfl Tryz.func123 (by kernel_rfl) rfl #[.agg #[.int .u64 yG,.int .u64 zu],.agg #[.int .u64 0,.int .u64 a1]] rfl zL ?_;(with_reducible refine (gX.calls yG zu 0 a1 false _ A33.out).mono ?_);rintro e w65 ⟨rfl,hb⟩;refine ⟨_,rfl,?_⟩;obtain ⟨eF,gJ,fZ,eY,HB⟩:=zA5 (ay (zK eF) hb) (ay (zK gJ) hb) (ay (g:=rW) (o := .cells #[.int .u64 acT,.int .u64 afq] 179 (0,0)) (by refine zD ?_;refine aY (cs := #[.int .u64 acT,.int .u64 nC]) ?_ 1 _ rfl;refine zD ?_;refine aY (cs := #[.int .u64 nX,.int .u64 nC]) ?_ 0 _ rfl;refine zD ?_;exact fZ.out) hb) (ay (zK eY) hb) (ak zB hb);(try clear hb);obtain ⟨_,_⟩:=zC2 eY.out;obtain ⟨_,_⟩:=zF2 eY.out)|((with_reducible refine aA (f:=122) rfl ?_);refine aH (some 33) rfl rfl Tryz.func122 (by kernel_rfl) rfl #[.agg #[.int .u64 yG,.int .u64 zu],.agg #[.int .u64 0,.int .u64 a1]] rfl zL ?_;(with_reducible refine (jP.calls yG zu 0 a1 aon arY _ A50.out).mono ?_);rintro e w67 ⟨rfl,hb⟩;refine ⟨_,rfl,?_⟩;obtain ⟨eF,gJ,fZ,eY,HB⟩:=zA5 (ay (zK eF) hb) (ay (zK gJ) hb) (ay (zK fZ) hb) (ay (zK eY) hb) (ak zB hb);(try clear hb);obtain ⟨_,_⟩:=zC2 eY.out;obtain ⟨_,_⟩:=zF2 eY.out;obtain ⟨_,_⟩:=zC2 fZ.out;obtain ⟨_,_⟩:=zF2 fZ.out))
      go_roundg k1
      case measure=>have:=HK1.out;omega
      case rel=>exact ⟨(wrap64 (gW - 1)),(acT),(IntKind.u64.wrap (afq+1)),(aon),(arY),zT,H',⟨by have:=HK1.out;omega⟩,⟨zK eF⟩,⟨zK gJ⟩,⟨by refine zD ?_;refine aY (cs := #[.int .u64 acT,.int .u64 afq]) ?_ 1 _ rfl;refine zD ?_;refine iF ?_ oV.out _;refine zD ?_;refine iF ?_ oV.out _;refine zD ?_;exact fZ.out⟩,⟨by refine zD ?_;refine iF ?_ qc.out _;refine zD ?_;refine aY (cs := #[.int .u64 aon,.int .u64 zu]) ?_ 1 _ rfl;refine zD ?_;refine aY (cs := #[.int .u64 yG,.int .u64 zu]) ?_ 0 _ rfl;refine zD ?_;exact eY.out⟩,⟨zB⟩⟩
    ·rw [if_neg c29] at H
     have al3:=decide_eq_false c29
     clear c29
     simp only [Option.some.injEq,Prod.mk.injEq] at H
     obtain ⟨rfl,rfl,rfl⟩:=H
     try go_wp2
     obtain ⟨eF,gJ,fZ,eY,HB⟩:=zA5 (jo eF.out) (jo gJ.out) (jo fZ.out) (jo eY.out) (bg HB.out)
     refine aci (n:=5) (S:=fun w'=>w'.cell? ⟨rW,0,none⟩=some (.int .u64 nX)∧w'.cell? ⟨rW,1,none⟩=some (.int .u64 nC)∧w'.cell? ⟨qF,0,none⟩=some (.int .u64 lW)∧w'.cell? ⟨qF,1,none⟩=some (.int .u64 kH)) (ds:=[]) #[false,false,false,false,false] (by kernel_rfl) rfl rfl ⟨(au fZ.out 0).trans rfl,(au fZ.out 1).trans rfl,(au eY.out 0).trans rfl,(au eY.out 1).trans rfl⟩ (fun hHeld => ?_)
     generalize wr.drew=w70 at eF gJ fZ eY HB hHeld ⊢
     refine xg (i:=1) (N:=some 39) (v := ?_) (a' := ?_) #[false,true,false,false,false] rfl rfl (by kernel_rfl) (fun _ _ _ h=>h) (Or.inl ⟨by rfl,?_⟩) ?_ ?_
     rotate_left
     ·intro w'
      go_simp
      with_reducible rfl
     rotate_left
     ·simp only [Act.put,List.setIfInBounds_toArray,List.set_cons_zero,List.set_cons_succ,bW,dh]
      rfl
     refine yu (i:=0) (N:=some 38) (v := ?_) (a' := ?_) #[true,true,false,false,false] rfl rfl (by kernel_rfl) (fun _ _ _ h=>h) (Or.inl ⟨by rfl,?_⟩) hHeld ?_ ?_
     rotate_left
     ·rintro w' ⟨s0,s1,s2,s3⟩
      go_simp
      with_reducible rfl
     rotate_left
     ·simp only [Act.put,List.setIfInBounds_toArray,List.set_cons_zero,List.set_cons_succ,bW,dh]
      rfl
     refine yu (i:=2) (N:=some 40) (v := ?_) (a' := ?_) #[true,true,true,false,false] rfl rfl (by kernel_rfl) (fun _ _ _ h=>h) (Or.inl ⟨by rfl,?_⟩) hHeld ?_ ?_
     rotate_left
     ·rintro w' ⟨s0,s1,s2,s3⟩
      go_simp
      with_reducible rfl
     rotate_left
     ·simp only [Act.put,List.setIfInBounds_toArray,List.set_cons_zero,List.set_cons_succ,bW,dh]
      rfl
     refine aa7 (i:=3) (N:=none) #[true,true,true,true,false] rfl rfl (by kernel_rfl) (by decide) (fun K hK => ?_)
     have aAq:w70.cell? ⟨vI,0,none⟩=some (.int .u64 0):=(au gJ.out 0).trans rfl
     have ayc:=aN gJ.out 0
     have awY:=abG.out
     have awZ:=oU.out
     have aw0:=kW.out
     have aw1:=abH.out
     have aw2:=vY.out
     have aw3:=ni.out
     have aAr:w70.cell? ⟨vI,1,none⟩=some (.int .u64 0):=(au gJ.out 1).trans rfl
     have ayd:=aN gJ.out 1
     have aw4:=abG.out
     have aw5:=oU.out
     have aw6:=kW.out
     have aw7:=abH.out
     have aw8:=vY.out
     have aw9:=ni.out
     refine afX (w1 := ?_) (by rfl) rfl ?_ ?_
     rotate_left
     ·go_simp
      rfl
     refine hK.out _ _ ⟨((cell_far (p:=⟨vI,_,none⟩) oU.out _).trans (((cell_far (p:=⟨vI,_,none⟩) oU.out _).trans (hHeld.1)))),((cell_far (p:=⟨vI,_,none⟩) oU.out _).trans (((cell_far (p:=⟨vI,_,none⟩) oU.out _).trans (hHeld.2.1)))),((cell_far (p:=⟨vI,_,none⟩) kW.out _).trans (((cell_far (p:=⟨vI,_,none⟩) kW.out _).trans (hHeld.2.2.1)))),((cell_far (p:=⟨vI,_,none⟩) kW.out _).trans (((cell_far (p:=⟨vI,_,none⟩) kW.out _).trans (hHeld.2.2.2))))⟩ (fun hHeld => ?_)
     clear hK K
     refine xg (i:=4) (N:=some 5) (v := ?_) (a' := ?_) #[true,true,true,true,true] rfl rfl (by kernel_rfl) (fun _ _ _ h=>h) (Or.inl ⟨by rfl,?_⟩) ?_ ?_
     rotate_left
     ·intro w'
      go_simp
      with_reducible rfl
     rotate_left
     ·simp only [Act.put,List.setIfInBounds_toArray,List.set_cons_zero,List.set_cons_succ,bW,dh]
      rfl
     refine aeA (by kernel_rfl) ?_
     try go_wp2
     refine bodyPost_ret (afY rfl _ _ vI 179 #[.int .u64 nX,.int .u64 nC] (0,0) _ rfl (by refine zD ?_;refine aY (cs := #[.int .u64 nX,.int .u64 0]) ?_ 1 _ rfl;refine zD ?_;refine aY (cs := #[.int .u64 0,.int .u64 0]) ?_ 0 _ rfl;refine zD ?_;exact gJ.out) Tryz.underlying179 rfl (by kernel_rfl)) rfl ?_
     exact ⟨zS,zB⟩
end Go.Proofs.YtpondkggmcmpfaaGreatDoor.QA
namespace Go.Proofs.YtpondkggmcmpfaaGreatDoor.QA
open Go.Proofs.YtpondkggmcmpfaaGreatDoor.T
open Go.RowKit Go.Proofs.YtpondkggmcmpfaaGreatDoorW.PrintWords Go.Proofs.YtpondkggmcmpfaaGreatDoorW.PrintLast Go.Proofs.YtpondkggmcmpfaaGreatDoorW.PrintMore
attribute [local go_sem] eP dV dW fM fO
set_option linter.unusedVariables false
set_option linter.unusedSimpArgs false
def gK.j0:Nat→Bool→Bool→Int→Int→Option (Int)
 | 0,_,_,_,_=>none
 | k+1,x2,x10,ak9,ala=>if x10=true then ((gG.f ak9 ala 0 1).bind fun aqj=>((bM.f k aqj.1 aqj.2 x2).bind fun aoo=>(some aoo))) else ((bM.f k ak9 ala x2).bind fun aop=>(some aop))
def gK.f (k:Nat) (bJ dA a1:Int) (a2:Bool):Option (Int):=(eX.f k bJ dA a1).bind fun agk=>((dH.f 0 agk.2.2 0).bind fun aiL=>((gX.f aiL.1 aiL.2 0 a1).bind fun al4=>(if a2=true then ((gX.f 0 a1 aiL.1 aiL.2).bind fun al5=>(gK.j0 k a2 al5 agk.1 agk.2.1)) else (gK.j0 k a2 (!al4) agk.1 agk.2.1))))
set_option maxHeartbeats 8000000 in
set_option maxRecDepth 100000 in
theorem gK.calls (k:Nat) (bJ dA a1:Int) (a2:Bool) (r:Int) (w:World) (h:gK.f k bJ dA a1 a2=some r) :
  Calls Tryz.prog 149 #[.agg #[.int .u64 bJ,.int .u64 dA],.int .u64 a1,.bool a2] w fun e w'=>e = .returned (.int .i64 r)∧Below w.heap.size w w':=by
 have xq:=Tryz.underlying179
 have HB:=aj.mk (Below.refl w.heap.size w)
 have H:=h
 clear h
 unfold gK.f at H
 replace H:=zO H
 obtain ⟨⟨ab4,ab5,aoq⟩,A4,H⟩:=H
 try dsimp only at H
 replace H:=zO H
 obtain ⟨⟨adR,afr⟩,A5,H⟩:=H
 try dsimp only at H
 replace H:=zO H
 obtain ⟨al4,A6,H⟩:=H
 try dsimp only at H
 have HC7:=aj.mk H
 clear H
 go_enter Tryz.func149,Tryz.ntmps149
 go_upto_if 25 with (first|((with_reducible refine bK (N:=3) rfl ?_);refine bT zR (N:=3) zR (cs := #[.int .u64 bJ,.int .u64 dA]) (t:=179) zG ?_;intro atK hg w8 hbox hb;obtain ⟨HB,lF,aye,ayf⟩:=zA4 (ak zB hb) hbox (zg hg zB) (zg hg zB);clear hb hbox hg;obtain ⟨_,_⟩:=zC2 lF.out;obtain ⟨_,_⟩:=zF2 lF.out)|((with_reducible refine aA (f:=172) rfl ?_);refine aH (some 14) rfl rfl Tryz.func172 (by kernel_rfl) rfl #[.agg #[.int .u64 bJ,.int .u64 dA],.int .u64 a1] rfl zL ?_;(with_reducible refine (eX.calls k bJ dA a1 ab4 ab5 aoq _ A4.out).mono ?_);rintro e w10 ⟨rfl,hb⟩;refine ⟨_,rfl,?_⟩;obtain ⟨lF,HB⟩:=zA2 (ay (zK lF) hb) (ak zB hb);(try clear hb))|((with_reducible refine bK (N:=7) rfl ?_);refine bT zR (N:=7) zR (cs := #[.int .u64 0,.int .u64 0]) (t:=179) zG ?_;intro al6 hg w11 hbox hb;obtain ⟨lF,HB,lG,ayg,ayh,adS,adT⟩:=zA7 (ay (zK lF) hb) (ak zB hb) hbox (zg hg zB) (zg hg zB) (zl hg (zK lF)) (zr hg (zK lF));clear hb hbox hg;have atu:=adT.out;have atv:=adS.out;obtain ⟨_,_⟩:=zC2 lG.out;obtain ⟨_,_⟩:=zF2 lG.out)|((with_reducible refine aA (f:=119) rfl ?_);refine aH (some 19) rfl rfl Tryz.func119 (by kernel_rfl) rfl #[.agg #[.int .u64 0,.int .u64 aoq],.int .u64 0] rfl zL ?_;(with_reducible refine (dH.calls 0 aoq 0 adR afr _ A5.out).mono ?_);rintro e w14 ⟨rfl,hb⟩;refine ⟨_,rfl,?_⟩;obtain ⟨lF,lG,HB⟩:=zA3 (ay (zK lF) hb) (ay (g:=al6) (o := .cells #[.int .u64 ab4,.int .u64 ab5] 179 (0,0)) (by refine zD ?_;refine aY (cs := #[.int .u64 ab4,.int .u64 0]) ?_ 1 _ rfl;refine zD ?_;refine aY (cs := #[.int .u64 0,.int .u64 0]) ?_ 0 _ rfl;refine zD ?_;exact lG.out) hb) (ak zB hb);(try clear hb))|((with_reducible refine bK (N:=9) rfl ?_);refine bT zR (N:=9) zR (cs := #[.int .u64 0,.int .u64 0]) (t:=179) zG ?_;intro aqk hg w15 hbox hb;obtain ⟨lF,lG,HB,ru,ayi,ayj,ah6,ah7,abI,abJ⟩:=adx (ay (zK lF) hb) (ay (zK lG) hb) (ak zB hb) hbox (zg hg zB) (zg hg zB) (zl hg (zK lF)) (zr hg (zK lF)) (zl hg (zK lG)) (zr hg (zK lG));clear hb hbox hg;have atw:=ah7.out;have atx:=ah6.out;have atL:=abJ.out;have atM:=abI.out;obtain ⟨_,_⟩:=zC2 ru.out;obtain ⟨_,_⟩:=zF2 ru.out)|((with_reducible refine aA (f:=123) rfl ?_);refine aH (some 23) rfl rfl Tryz.func123 (by kernel_rfl) rfl #[.agg #[.int .u64 adR,.int .u64 afr],.agg #[.int .u64 0,.int .u64 a1]] rfl zL ?_;(with_reducible refine (gX.calls adR afr 0 a1 al4 _ A6.out).mono ?_);rintro e w19 ⟨rfl,hb⟩;refine ⟨_,rfl,?_⟩;obtain ⟨lF,lG,ru,HB⟩:=zA4 (ay (zK lF) hb) (ay (zK lG) hb) (ay (g:=aqk) (o := .cells #[.int .u64 adR,.int .u64 afr] 179 (0,0)) (by refine zD ?_;refine aY (cs := #[.int .u64 adR,.int .u64 0]) ?_ 1 _ rfl;refine zD ?_;refine aY (cs := #[.int .u64 0,.int .u64 0]) ?_ 0 _ rfl;refine zD ?_;exact ru.out) hb) (ak zB hb);(try clear hb)))
 (try simp only [Act.put,List.setIfInBounds_toArray,List.set_cons_zero,List.set_cons_succ])
 go_cut [10] (fun v10 wc=>∃ (kq:Nat) (aiM:Bool),v10 = .bool aiM∧aj (gK.j0 kq a2 aiM ab4 ab5=some r)∧aj (kq≤k)∧aj (wc.heap[atK]? = some (.cells #[.int .u64 bJ,.int .u64 dA] 179 (0,0)))∧aj (wc.heap[al6]? = some (.cells #[.int .u64 ab4,.int .u64 ab5] 179 (0,0)))∧aj (wc.heap[aqk]? = some (.cells #[.int .u64 adR,.int .u64 afr] 179 (0,0)))∧aj (Below w.heap.size w wc))
 case first =>
  have H:=HC7.out
  clear HC7
  by_cases c20:a2=true
  ·subst c20
   rw [if_pos rfl] at H;try dsimp only at H
   replace H:=zO H
   obtain ⟨al5,A21,H⟩:=H
   try dsimp only at H
   have H':=aj.mk H
   clear H
   have aqd:=ah7.out
   have aqe:=ah6.out
   have alY:=abJ.out
   have alZ:=abI.out
   obtain ⟨_,_⟩:=zC2 ru.out
   obtain ⟨_,_⟩:=zF2 ru.out
   go_wp2_with (first|((with_reducible refine aA (f:=123) rfl ?_);refine aH (some 29) rfl rfl Tryz.func123 (by kernel_rfl) rfl #[.agg #[.int .u64 0,.int .u64 a1],.agg #[.int .u64 adR,.int .u64 afr]] rfl zL ?_;(with_reducible refine (gX.calls 0 a1 adR afr al5 _ A21.out).mono ?_);rintro e w25 ⟨rfl,hb⟩;refine ⟨_,rfl,?_⟩;obtain ⟨lF,lG,ru,HB⟩:=zA4 (ay (zK lF) hb) (ay (zK lG) hb) (ay (zK ru) hb) (ak zB hb);(try clear hb)))
   go_meet
   case rel=>exact ⟨_,(al5),zT,H',⟨by first|omega|exact Nat.le_refl _⟩,⟨zK lF⟩,⟨zK lG⟩,⟨zK ru⟩,⟨zB⟩⟩
  ·replace c20:=Bool.eq_false_iff.mpr c20
   subst c20
   rw [if_neg (show ¬ (false=true) by decide)] at H;try dsimp only at H
   have H':=aj.mk H
   clear H
   go_wp2
   go_meet
   case rel=>exact ⟨_,(!al4),zT,H',⟨by first|omega|exact Nat.le_refl _⟩,⟨zK lF⟩,⟨zK lG⟩,⟨zK ru⟩,⟨zB⟩⟩
 case rest =>
  clear HC7
  obtain ⟨kq,aiM,rfl,HA,HJ6,lF,lG,ru,HB⟩:=hcut
  cases kq with
  | zero=>exact absurd HA.out (by simp [gK.j0])
  | succ kj6 =>
   have H:=HA.out
   clear HA
   simp only [gK.j0] at H
   by_cases c26:aiM=true
   ·subst c26
    rw [if_pos rfl] at H;try dsimp only at H
    replace H:=zO H
    obtain ⟨⟨ajB,al7⟩,A27,H⟩:=H
    try dsimp only at H
    replace H:=zO H
    obtain ⟨aoo,A28,H⟩:=H
    try dsimp only at H
    obtain rfl:=Option.some.inj H
    have al0:=adT.out
    have al2:=adS.out
    have aqa:=abI.out
    have aqb:=abJ.out
    obtain ⟨_,_⟩:=zC2 lG.out
    obtain ⟨_,_⟩:=zF2 lG.out
    go_wp2_with (first|((with_reducible refine aA (f:=124) rfl ?_);refine aH (some 33) rfl rfl Tryz.func124 (by kernel_rfl) rfl #[.agg #[.int .u64 ab4,.int .u64 ab5],.agg #[.int .u64 0,.int .u64 1]] rfl zL ?_;(with_reducible refine (gG.calls ab4 ab5 0 1 ajB al7 _ A27.out).mono ?_);rintro e w32 ⟨rfl,hb⟩;refine ⟨_,rfl,?_⟩;obtain ⟨lF,lG,ru,HB⟩:=zA4 (ay (zK lF) hb) (ay (zK lG) hb) (ay (zK ru) hb) (ak zB hb);(try clear hb);obtain ⟨_,_⟩:=zC2 lG.out;obtain ⟨_,_⟩:=zF2 lG.out)|((with_reducible refine aA (f:=125) rfl ?_);refine aH (some 36) rfl rfl Tryz.func125 (by kernel_rfl) rfl #[.agg #[.int .u64 ajB,.int .u64 al7],.bool a2] rfl zL ?_;(with_reducible refine (bM.calls kj6 ajB al7 a2 aoo _ A28.out).mono ?_);rintro e w34 ⟨rfl,hb⟩;refine ⟨_,rfl,?_⟩;obtain ⟨lF,lG,ru,HB⟩:=zA4 (ay (zK lF) hb) (ay (g:=al6) (o := .cells #[.int .u64 ajB,.int .u64 al7] 179 (0,0)) (by refine zD ?_;refine aY (cs := #[.int .u64 ajB,.int .u64 ab5]) ?_ 1 _ rfl;refine zD ?_;refine aY (cs := #[.int .u64 ab4,.int .u64 ab5]) ?_ 0 _ rfl;refine zD ?_;exact lG.out) hb) (ay (zK ru) hb) (ak zB hb);(try clear hb)))
    go_ret
    exact ⟨zS,zB⟩
   ·replace c26:=Bool.eq_false_iff.mpr c26
    subst c26
    rw [if_neg (show ¬ (false=true) by decide)] at H;try dsimp only at H
    replace H:=zO H
    obtain ⟨aop,A35,H⟩:=H
    try dsimp only at H
    obtain rfl:=Option.some.inj H
    have ayk:=adT.out
    have ayl:=adS.out
    have aym:=abI.out
    have ayn:=abJ.out
    obtain ⟨_,_⟩:=zC2 lG.out
    obtain ⟨_,_⟩:=zF2 lG.out
    go_wp2_with (first|((with_reducible refine aA (f:=125) rfl ?_);refine aH (some 36) rfl rfl Tryz.func125 (by kernel_rfl) rfl #[.agg #[.int .u64 ab4,.int .u64 ab5],.bool a2] rfl zL ?_;(with_reducible refine (bM.calls kj6 ab4 ab5 a2 aop _ A35.out).mono ?_);rintro e w39 ⟨rfl,hb⟩;refine ⟨_,rfl,?_⟩;obtain ⟨lF,lG,ru,HB⟩:=zA4 (ay (zK lF) hb) (ay (zK lG) hb) (ay (zK ru) hb) (ak zB hb);(try clear hb)))
    go_ret
    exact ⟨zS,zB⟩
def aX.f (k:Nat) (a0 a1 a2:Int):Option (Int):=if a2=0 then (some 0) else ((dL.f a0).bind fun ajC=>((dL.f a1).bind fun ajD=>((dP.f k ajC ajD).bind fun aql=>((dL.f a2).bind fun ajE=>((gK.f k aql.1 aql.2 ajE (((decide (a0 < 0)) != (decide (a1 < 0))) != (decide (a2 < 0)))).bind fun aor=>(some aor))))))
def aX.T5:Bool × List (List Nat × List Nat):=(true,[([],[]),([],[]),([1],[1]),([],[]),([],[]),([4],[4]),([3,5],[3,5]),([0,2,6,2],[0,2,6]),([7,7,0,1,2,3,4,5,6,7],[7])])
def aX.B5:List Nat:=[0,0,2,0,0,16,56,127,255]
theorem aX.avj:rP .any (opsOf Tryz.f118 5)=aX.T5:=by kernel_rfl
theorem aX.atN:acp aX.T5.2 aX.B5=true:=by kernel_rfl
set_option maxHeartbeats 8000000 in
set_option maxRecDepth 100000 in
theorem aX.calls (k:Nat) (a0 a1 a2 r:Int) (w:World) (h:aX.f k a0 a1 a2=some r) :
  Calls Tryz.prog 118 #[.int .i64 a0,.int .i64 a1,.int .i64 a2] w fun e w'=>e = .returned (.int .i64 r)∧Below w.heap.size w w':=by
 have xq:=Tryz.underlying179
 have HB:=aj.mk (Below.refl w.heap.size w)
 have H:=h
 clear h
 unfold aX.f at H
 by_cases c4:a2=0
 ·rw [if_pos c4] at H
  have fQ:(a2 == 0)=true:=beq_iff_eq.mpr c4
  have acJ:(a2 != 0)=false:=bne_eq_false_iff_eq.mpr c4
  clear c4
  obtain rfl:=Option.some.inj H
  go_enter Tryz.func118,Tryz.ntmps118
  go_wp2
  go_ret
  exact ⟨zS,zB⟩
 ·rw [if_neg c4] at H
  have fQ:(a2 == 0)=false:=beq_eq_false_iff_ne.mpr c4
  have acJ:(a2 != 0)=true:=bne_iff_ne.mpr c4
  replace H:=zO H
  obtain ⟨ajC,A5,H⟩:=H
  try dsimp only at H
  replace H:=zO H
  obtain ⟨ajD,A6,H⟩:=H
  try dsimp only at H
  replace H:=zO H
  obtain ⟨⟨acU,adU⟩,A7,H⟩:=H
  try dsimp only at H
  replace H:=zO H
  obtain ⟨ajE,A8,H⟩:=H
  try dsimp only at H
  replace H:=zO H
  obtain ⟨aor,A9,H⟩:=H
  try dsimp only at H
  obtain rfl:=Option.some.inj H
  go_enter Tryz.func118,Tryz.ntmps118
  try go_wp2_with (first|((with_reducible refine aA (f:=120) rfl ?_);refine aH (some 12) rfl rfl Tryz.func120 (by kernel_rfl) rfl #[.int .i64 a0] rfl zL ?_;(with_reducible refine (dL.calls a0 ajC _ A5.out).mono ?_);rintro e w' ⟨rfl,⟨nd,rfl⟩⟩;refine ⟨_,rfl,?_⟩)|((with_reducible refine aA (f:=120) rfl ?_);refine aH (some 14) rfl rfl Tryz.func120 (by kernel_rfl) rfl #[.int .i64 a1] rfl zL ?_;(with_reducible refine (dL.calls a1 ajD _ A6.out).mono ?_);rintro e w' ⟨rfl,⟨nd,rfl⟩⟩;refine ⟨_,rfl,?_⟩)|((with_reducible refine aA (f:=148) rfl ?_);refine aH (some 15) rfl rfl Tryz.func148 (by kernel_rfl) rfl #[.int .u64 ajC,.int .u64 ajD] rfl zL ?_;(with_reducible refine (dP.calls k ajC ajD acU adU _ A7.out).mono ?_);rintro e w10 ⟨rfl,hb⟩;refine ⟨_,rfl,?_⟩;replace HB:=aj.mk (ak zB hb);(try clear hb))|((with_reducible refine bK (N:=7) rfl ?_);refine bT zR (N:=7) zR (cs := #[.int .u64 0,.int .u64 0]) (t:=179) zG ?_;intro aaV hg w11 hbox hb;obtain ⟨HB,rX,ayo,ayp⟩:=zA4 (ak zB hb) hbox (zg hg zB) (zg hg zB);clear hb hbox hg;obtain ⟨_,_⟩:=zC2 rX.out;obtain ⟨_,_⟩:=zF2 rX.out))
  have n0_:aj (((w11.setCell ⟨aaV,0,none⟩ (.int .u64 acU)).setCell ⟨aaV,1,none⟩ (.int .u64 adU)).heap[aaV]? = some (.cells #[.int .u64 acU,.int .u64 adU] 179 (0,0))):=⟨by refine zD ?_;refine aY (cs := #[.int .u64 acU,.int .u64 0]) ?_ 1 _ rfl;refine zD ?_;refine aY (cs := #[.int .u64 0,.int .u64 0]) ?_ 0 _ rfl;refine zD ?_;exact rX.out⟩
  have n1_:aj (Below w.heap.size w ((w11.setCell ⟨aaV,0,none⟩ (.int .u64 acU)).setCell ⟨aaV,1,none⟩ (.int .u64 adU))):=⟨zB⟩
  (try clear rX)
  (try clear HB)
  generalize ((w11.setCell ⟨aaV,0,none⟩ (.int .u64 acU)).setCell ⟨aaV,1,none⟩ (.int .u64 adU))=w13 at n0_ n1_ ⊢
  have rX:=n0_
  have HB:=n1_
  clear n0_ n1_
  obtain ⟨rX,HB⟩:=zA2 (jo rX.out) (bg HB.out)
  refine aci (n:=9) (S:=fun w'=>w'.cell? ⟨aaV,0,none⟩=some (.int .u64 acU)∧w'.cell? ⟨aaV,1,none⟩=some (.int .u64 adU)) (ds:=[]) #[false,false,false,false,false,false,false,false,false] (by kernel_rfl) rfl rfl ⟨(au rX.out 0).trans rfl,(au rX.out 1).trans rfl⟩ (fun hHeld => ?_);refine ank aX.avj aX.atN (fun HT_ HW_ => ?_)
  generalize w13.drew=w14 at rX HB hHeld ⊢
  refine xg (i:=1) (N:=some 22) (v := ?_) (a' := ?_) #[false,true,false,false,false,false,false,false,false] rfl rfl (aco HT_.out (by kernel_rfl)) (fun _ _ _ h=>h) (Or.inl ⟨by rfl,?_⟩) ?_ ?_
  rotate_left
  ·intro w'
   go_simp
   with_reducible rfl
  rotate_left
  ·simp only [Act.put,List.setIfInBounds_toArray,List.set_cons_zero,List.set_cons_succ,bW,dh]
   rfl
  refine xg (i:=3) (N:=some 24) (v := ?_) (a' := ?_) #[false,true,false,true,false,false,false,false,false] rfl rfl (aco HT_.out (by kernel_rfl)) (fun _ _ _ h=>h) (Or.inl ⟨by rfl,?_⟩) ?_ ?_
  rotate_left
  ·intro w'
   go_simp
   with_reducible rfl
  rotate_left
  ·simp only [Act.put,List.setIfInBounds_toArray,List.set_cons_zero,List.set_cons_succ,bW,dh]
   rfl
  refine xg (i:=4) (N:=some 25) (v := ?_) (a' := ?_) #[false,true,false,true,true,false,false,false,false] rfl rfl (aco HT_.out (by kernel_rfl)) (fun _ _ _ h=>h) (Or.inl ⟨by rfl,?_⟩) ?_ ?_
  rotate_left
  ·intro w'
   go_simp
   with_reducible rfl
  rotate_left
  ·simp only [Act.put,List.setIfInBounds_toArray,List.set_cons_zero,List.set_cons_succ,bW,dh]
   rfl
  refine xg (i:=5) (N:=some 26) (v := ?_) (a' := ?_) #[false,true,false,true,true,true,false,false,false] rfl rfl (aco HT_.out (by kernel_rfl)) (fun _ _ _ h=>h) (Or.inl ⟨by rfl,?_⟩) ?_ ?_
  rotate_left
  ·intro w'
   go_simp
   with_reducible rfl
  rotate_left
  ·simp only [Act.put,List.setIfInBounds_toArray,List.set_cons_zero,List.set_cons_succ,bW,dh]
   rfl
  refine xg (i:=6) (N:=some 27) (v := ?_) (a' := ?_) #[false,true,false,true,true,true,true,false,false] rfl rfl (aco HT_.out (by kernel_rfl)) (fun _ _ _ h=>h) (Or.inl ⟨by rfl,?_⟩) ?_ ?_
  rotate_left
  ·intro w'
   go_simp
   with_reducible rfl
  rotate_left
  ·simp only [Act.put,List.setIfInBounds_toArray,List.set_cons_zero,List.set_cons_succ,bW,dh]
   rfl
  refine yu (i:=0) (N:=some 21) (v := ?_) (a' := ?_) #[true,true,false,true,true,true,true,false,false] rfl rfl (anX HT_.out HW_.out (by kernel_rfl)) (fun _ _ _ h=>h) (Or.inl ⟨by rfl,?_⟩) hHeld ?_ ?_
  rotate_left
  ·rintro w' ⟨s0,s1⟩
   go_simp
   with_reducible rfl
  rotate_left
  ·simp only [Act.put,List.setIfInBounds_toArray,List.set_cons_zero,List.set_cons_succ,bW,dh]
   rfl
  refine aa7 (i:=2) (N:=some 23) #[true,true,true,true,true,true,true,false,false] rfl rfl (anj HT_.out (by kernel_rfl)) (by decide) (fun K hK => ?_)
  refine zU Tryz.func120 (by kernel_rfl) rfl #[.int .i64 a2] (by rfl) rfl rfl zL ?_
  with_reducible refine (dL.calls a2 ajE _ A8.out).mono ?_
  rintro e w' ⟨rfl,⟨nd,rfl⟩⟩
  refine ⟨_,rfl,?_⟩
  refine hK.out _ _ ⟨(au rX.out 0).trans rfl,(au rX.out 1).trans rfl⟩ (fun hHeld => ?_)
  clear hK K
  refine zQ (a' := ?_) ?_ ?_
  rotate_left
  ·show Act.put _ (some 23) _=_
   simp only [Act.put,List.setIfInBounds_toArray,List.set_cons_zero,List.set_cons_succ,bW,dh]
   rfl
  refine aa7 (i:=7) (N:=some 28) #[true,true,true,true,true,true,true,true,false] rfl rfl (anj HT_.out (by kernel_rfl)) (by decide) (fun K hK => ?_)
  refine zU Tryz.func149 (by kernel_rfl) rfl #[.agg #[.int .u64 acU,.int .u64 adU],.int .u64 ajE,.bool (((decide (a0 < 0)) != (decide (a1 < 0))) != (decide (a2 < 0)))] (by rfl) rfl rfl zL ?_
  with_reducible refine (gK.calls k acU adU ajE (((decide (a0 < 0)) != (decide (a1 < 0))) != (decide (a2 < 0))) aor _ A9.out).mono ?_
  rintro e w15 ⟨rfl,hb⟩
  refine ⟨_,rfl,?_⟩
  obtain ⟨rX,HB⟩:=zA2 (ay (zK rX) hb) (ak zB hb)
  (try clear hb)
  (try clear hb2)
  (try clear hk)
  (try clear hi)
  refine hK.out _ _ ⟨(au rX.out 0).trans rfl,(au rX.out 1).trans rfl⟩ (fun hHeld => ?_)
  clear hK K
  refine zQ (a' := ?_) ?_ ?_
  rotate_left
  ·show Act.put _ (some 28) _=_
   simp only [Act.put,List.setIfInBounds_toArray,List.set_cons_zero,List.set_cons_succ,bW,dh]
   rfl
  refine xg (i:=8) (N:=some 6) (v := ?_) (a' := ?_) #[true,true,true,true,true,true,true,true,true] rfl rfl (aco HT_.out (by kernel_rfl)) (fun _ _ _ h=>h) (Or.inl ⟨by rfl,?_⟩) ?_ ?_
  rotate_left
  ·intro w'
   go_simp
   with_reducible rfl
  rotate_left
  ·simp only [Act.put,List.setIfInBounds_toArray,List.set_cons_zero,List.set_cons_succ,bW,dh]
   rfl
  refine aeA (aqU HT_.out (by kernel_rfl)) ?_
  try go_wp2
  go_ret
  exact ⟨zS,zB⟩
end Go.Proofs.YtpondkggmcmpfaaGreatDoor.QA
namespace Go.Proofs.YtpondkggmcmpfaaGreatDoor.QA
open Go.Proofs.YtpondkggmcmpfaaGreatDoor.T
open Go.RowKit Go.Proofs.YtpondkggmcmpfaaGreatDoorW.PrintWords Go.Proofs.YtpondkggmcmpfaaGreatDoorW.PrintLast Go.Proofs.YtpondkggmcmpfaaGreatDoorW.PrintMore
attribute [local go_sem] eP dV dW fM fO
set_option linter.unusedVariables false
set_option linter.unusedSimpArgs false
mutual
def bI.j0:Nat→Int→Int→Bool→Option (Int)
 | 0,_,_,_=>none
 | k+1,x0,x1,x14=>if x14=true then (some 0) else (if x0≥(wrap64 (2*x1)) then (bI.j1 k x0 x1 true) else (bI.j1 k x0 x1 (decide (x0≤(wrap64 ((-2)*x1))))))
def bI.j1:Nat→Int→Int→Bool→Option (Int)
 | 0,_,_,_=>none
 | k+1,x0,x1,x24=>if x24=true then (some 0) else (if x0 < 0 then (bI.j2 k (wrap64 (-x0)) x1) else (bI.j2 k x0 x1))
def bI.j2:Nat→Int→Int→Option (Int)
 | 0,_,_=>none
 | k+1,x0,x1=>if x0 < x1 then ((aX.f k (wrap64 ((wrap64 ((wrap64 (3*(wrap64 ((wrap64 (x0*x0))*x0)))) - (wrap64 ((wrap64 (5*(wrap64 (x0*x0))))*x1))))+(wrap64 (2*(wrap64 ((wrap64 (x1*x1))*x1)))))) 1073741824 (wrap64 (2*(wrap64 ((wrap64 (x1*x1))*x1))))).bind fun aos=>(some aos)) else ((aX.f k (wrap64 ((wrap64 ((wrap64 ((wrap64 ((wrap64 (5*(wrap64 (x0*x0))))*x1)) - (wrap64 ((wrap64 (x0*x0))*x0)))) - (wrap64 ((wrap64 (8*x0))*(wrap64 (x1*x1))))))+(wrap64 (4*(wrap64 ((wrap64 (x1*x1))*x1)))))) 1073741824 (wrap64 (2*(wrap64 ((wrap64 (x1*x1))*x1))))).bind fun aot=>(some aot))
end
def bI.f (k:Nat) (a0 a1:Int):Option (Int):=if a1 < 1 then (bI.j0 k a0 a1 true) else (bI.j0 k a0 a1 (decide (a1 > 262144)))
set_option maxHeartbeats 8000000 in
set_option maxRecDepth 100000 in
theorem bI.calls (k:Nat) (a0 a1 r:Int) (w:World) (h:bI.f k a0 a1=some r) :
  Calls Tryz.prog 170 #[.int .i64 a0,.int .i64 a1] w fun e w'=>e = .returned (.int .i64 r)∧Below w.heap.size w w':=by
 have HB:=aj.mk (Below.refl w.heap.size w)
 have H:=h
 clear h
 unfold bI.f at H
 have HC3:=aj.mk H
 clear H
 go_enter Tryz.func170,Tryz.ntmps170
 go_upto_region 1 with (fail)
 go_cut [14] (fun v14 wc=>∃ (kq:Nat) (yH:Bool),v14 = .bool yH∧aj (bI.j0 kq a0 a1 yH=some r)∧aj (kq≤k)∧aj (Below w.heap.size w wc))
 case first =>
  have H:=HC3.out
  clear HC3
  by_cases c4:a1 < 1
  ·rw [if_pos c4] at H
   have fQ:=decide_eq_true c4
   clear c4
   (first|rw [fQ]|(simp only [bW,dh];rw [fQ])|skip)
   have H':=aj.mk H
   clear H
   go_wp2
   go_meet
   case rel=>exact ⟨_,(true),zT,H',⟨by first|omega|exact Nat.le_refl _⟩,⟨zB⟩⟩
  ·rw [if_neg c4] at H
   have fQ:=decide_eq_false c4
   clear c4
   (first|rw [fQ]|(simp only [bW,dh];rw [fQ])|skip)
   have H':=aj.mk H
   clear H
   go_wp2
   go_meet
   case rel=>exact ⟨_,(decide (a1 > 262144)),zT,H',⟨by first|omega|exact Nat.le_refl _⟩,⟨zB⟩⟩
 case rest =>
  clear HC3
  obtain ⟨kq,yH,rfl,HA,HJ2,HB⟩:=hcut
  cases kq with
  | zero=>exact absurd HA.out (by simp [bI.j0])
  | succ kj2 =>
   have H:=HA.out
   clear HA
   simp only [bI.j0] at H
   by_cases c5:yH=true
   ·subst c5
    rw [if_pos rfl] at H;try dsimp only at H
    obtain rfl:=Option.some.inj H
    go_wp2
    go_ret
    exact ⟨zS,zB⟩
   ·replace c5:=Bool.eq_false_iff.mpr c5
    subst c5
    rw [if_neg (show ¬ (false=true) by decide)] at H;try dsimp only at H
    have HC6:=aj.mk H
    clear H
    go_upto_region 3 with (fail)
    go_cut [24] (fun v24 wc=>∃ (kq:Nat) (aiN:Bool),v24 = .bool aiN∧aj (bI.j1 kq a0 a1 aiN=some r)∧aj (kq≤kj2)∧aj (Below w.heap.size w wc))
    case first =>
     have H:=HC6.out
     clear HC6
     by_cases c7:a0≥(wrap64 (2*a1))
     ·rw [if_pos c7] at H
      have jq:=decide_eq_true c7
      clear c7
      (first|rw [jq]|(simp only [bW,dh];rw [jq])|skip)
      have H':=aj.mk H
      clear H
      go_wp2
      go_meet
      case rel=>exact ⟨_,(true),zT,H',⟨by have:=HJ2.out;first|omega|exact Nat.le_refl _⟩,⟨zB⟩⟩
     ·rw [if_neg c7] at H
      have jq:=decide_eq_false c7
      clear c7
      (first|rw [jq]|(simp only [bW,dh];rw [jq])|skip)
      have H':=aj.mk H
      clear H
      go_wp2
      go_meet
      case rel=>exact ⟨_,(decide (a0≤(wrap64 ((-2)*a1)))),zT,H',⟨by have:=HJ2.out;first|omega|exact Nat.le_refl _⟩,⟨zB⟩⟩
    case rest =>
     clear HC6
     obtain ⟨kq,aiN,rfl,HA,HJ5,HB⟩:=hcut
     cases kq with
     | zero=>exact absurd HA.out (by simp [bI.j1])
     | succ kj5 =>
      have H:=HA.out
      clear HA
      simp only [bI.j1] at H
      by_cases c8:aiN=true
      ·subst c8
       rw [if_pos rfl] at H;try dsimp only at H
       obtain rfl:=Option.some.inj H
       go_wp2
       go_ret
       exact ⟨zS,zB⟩
      ·replace c8:=Bool.eq_false_iff.mpr c8
       subst c8
       rw [if_neg (show ¬ (false=true) by decide)] at H;try dsimp only at H
       have HC9:=aj.mk H
       clear H
       go_upto_if 26 with (fail)
       go_cut [0] (fun v0 wc=>∃ (kq:Nat) (oW:Int),v0 = .int .i64 oW∧aj (bI.j2 kq oW a1=some r)∧aj (kq≤kj5)∧aj (Below w.heap.size w wc))
       case first =>
        have H:=HC9.out
        clear HC9
        by_cases c10:a0 < 0
        ·rw [if_pos c10] at H
         have pO:=decide_eq_true c10
         clear c10
         (first|rw [pO]|(simp only [bW,dh];rw [pO])|skip)
         have H':=aj.mk H
         clear H
         go_wp2
         go_meet
         case rel=>exact ⟨_,(wrap64 (-a0)),zT,H',⟨by have:=HJ2.out;have:=HJ5.out;first|omega|exact Nat.le_refl _⟩,⟨zB⟩⟩
        ·rw [if_neg c10] at H
         have pO:=decide_eq_false c10
         clear c10
         (first|rw [pO]|(simp only [bW,dh];rw [pO])|skip)
         have H':=aj.mk H
         clear H
         go_wp2
         go_meet
         case rel=>exact ⟨_,(a0),zT,H',⟨by have:=HJ2.out;have:=HJ5.out;first|omega|exact Nat.le_refl _⟩,⟨zB⟩⟩
       case rest =>
        clear HC9
        obtain ⟨kq,oW,rfl,HA,HJ8,HB⟩:=hcut
        cases kq with
        | zero=>exact absurd HA.out (by simp [bI.j2])
        | succ kj8 =>
         have H:=HA.out
         clear HA
         simp only [bI.j2] at H
         by_cases c11:oW < a1
         ·rw [if_pos c11] at H
          have iL:=decide_eq_true c11
          clear c11
          replace H:=zO H
          obtain ⟨aos,A12,H⟩:=H
          try dsimp only at H
          obtain rfl:=Option.some.inj H
          go_wp2_with (first|((with_reducible refine aA (f:=118) rfl ?_);refine aH (some 56) rfl rfl Tryz.func118 (by kernel_rfl) rfl #[.int .i64 (wrap64 ((wrap64 ((wrap64 (3*(wrap64 ((wrap64 (oW*oW))*oW)))) - (wrap64 ((wrap64 (5*(wrap64 (oW*oW))))*a1))))+(wrap64 (2*(wrap64 ((wrap64 (a1*a1))*a1)))))),.int .i64 1073741824,.int .i64 (wrap64 (2*(wrap64 ((wrap64 (a1*a1))*a1))))] rfl zL ?_;(with_reducible refine (aX.calls kj8 (wrap64 ((wrap64 ((wrap64 (3*(wrap64 ((wrap64 (oW*oW))*oW)))) - (wrap64 ((wrap64 (5*(wrap64 (oW*oW))))*a1))))+(wrap64 (2*(wrap64 ((wrap64 (a1*a1))*a1)))))) 1073741824 (wrap64 (2*(wrap64 ((wrap64 (a1*a1))*a1)))) aos _ A12.out).mono ?_);rintro e w13 ⟨rfl,hb⟩;refine ⟨_,rfl,?_⟩;replace HB:=aj.mk (ak zB hb);(try clear hb)))
          go_ret
          exact ⟨zS,zB⟩
         ·rw [if_neg c11] at H
          have iL:=decide_eq_false c11
          clear c11
          replace H:=zO H
          obtain ⟨aot,A14,H⟩:=H
          try dsimp only at H
          obtain rfl:=Option.some.inj H
          go_wp2_with (first|((with_reducible refine aA (f:=118) rfl ?_);refine aH (some 73) rfl rfl Tryz.func118 (by kernel_rfl) rfl #[.int .i64 (wrap64 ((wrap64 ((wrap64 ((wrap64 ((wrap64 (5*(wrap64 (oW*oW))))*a1)) - (wrap64 ((wrap64 (oW*oW))*oW)))) - (wrap64 ((wrap64 (8*oW))*(wrap64 (a1*a1))))))+(wrap64 (4*(wrap64 ((wrap64 (a1*a1))*a1)))))),.int .i64 1073741824,.int .i64 (wrap64 (2*(wrap64 ((wrap64 (a1*a1))*a1))))] rfl zL ?_;(with_reducible refine (aX.calls kj8 (wrap64 ((wrap64 ((wrap64 ((wrap64 ((wrap64 (5*(wrap64 (oW*oW))))*a1)) - (wrap64 ((wrap64 (oW*oW))*oW)))) - (wrap64 ((wrap64 (8*oW))*(wrap64 (a1*a1))))))+(wrap64 (4*(wrap64 ((wrap64 (a1*a1))*a1)))))) 1073741824 (wrap64 (2*(wrap64 ((wrap64 (a1*a1))*a1)))) aot _ A14.out).mono ?_);rintro e w15 ⟨rfl,hb⟩;refine ⟨_,rfl,?_⟩;replace HB:=aj.mk (ak zB hb);(try clear hb)))
          go_ret
          exact ⟨zS,zB⟩
end Go.Proofs.YtpondkggmcmpfaaGreatDoor.QA
namespace Go.Proofs.YtpondkggmcmpfaaGreatDoor.QA
open Go.Proofs.YtpondkggmcmpfaaGreatDoor.T
open Go.RowKit Go.Proofs.YtpondkggmcmpfaaGreatDoorW.PrintWords Go.Proofs.YtpondkggmcmpfaaGreatDoorW.PrintLast Go.Proofs.YtpondkggmcmpfaaGreatDoorW.PrintMore
attribute [local go_sem] eP dV dW fM fO
set_option linter.unusedVariables false
set_option linter.unusedSimpArgs false
mutual
def aJ.l0:Nat→Int→Int→Int→Int→Int→Int→Option (Int)
 | 0,_,_,_,_,_,_=>none
 | k+1,x0,x1,x20,x21,qj,qm=>if x21 < x20 then ((dH.f qj qm 0).bind fun aqm=>(aJ.l0 k x0 x1 x20 (wrap64 (x21+1)) aqm.1 aqm.2)) else ((dL.f x0).bind fun rU=>(aJ.l1 k x0 x1 127 qj qm 0 rU 0 0))
def aJ.l1:Nat→Int→Int→Int→Int→Int→Int→Int→Int→Int→Option (Int)
 | 0,_,_,_,_,_,_,_,_,_=>none
 | k+1,x0,x1,x8,qj,qm,sV,sZ,qo,qp=>if x8≥x1 then ((fB.f sV sZ x8).bind fun ajF=>((dH.f qo qp ajF).bind fun aqn=>(aJ.l1 k x0 x1 (wrap64 (x8 - 1)) qj qm sV sZ aqn.1 aqn.2))) else (aJ.l2 k x0 x1 qj qm sV sZ qo qp sV sZ)
def aJ.l2:Nat→Int→Int→Int→Int→Int→Int→Int→Int→Int→Int→Option (Int)
 | 0,_,_,_,_,_,_,_,_,_,_=>none
 | k+1,x0,x10,qj,qm,sV,sZ,qo,qp,zx,zy=>if x10 < 128 then ((fB.f sV sZ x10).bind fun acV=>(if acV=1 then (aJ.l3 k x0 x10 x10 0 qj qm sV sZ qo qp zx zy 0 1) else (aJ.l2 k x0 (wrap64 (x10+1)) qj qm sV sZ qo qp zx zy))) else ((gX.f zx zy qj qm).bind fun al8=>(if x0 < 0 then ((gX.f qj qm zx zy).bind fun al9=>(aJ.j4 k x0 al9 qo qp)) else (aJ.j4 k x0 (!al8) qo qp)))
def aJ.l3:Nat→Int→Int→Int→Int→Int→Int→Int→Int→Int→Int→Int→Int→Int→Int→Option (Int)
 | 0,_,_,_,_,_,_,_,_,_,_,_,_,_,_=>none
 | k+1,x0,x10,x51,x52,qj,qm,sV,sZ,qo,qp,zx,zy,alb,alc=>if x52 < x51 then ((dH.f alb alc 0).bind fun aqo=>(aJ.l3 k x0 x10 x51 (wrap64 (x52+1)) qj qm sV sZ qo qp zx zy aqo.1 aqo.2)) else ((jP.f zx zy alb alc).bind fun aqp=>(aJ.l2 k x0 (wrap64 (x10+1)) qj qm sV sZ qo qp aqp.1 aqp.2))
def aJ.j4:Nat→Int→Bool→Int→Int→Option (Int)
 | 0,_,_,_,_=>none
 | k+1,x0,x12,qo,qp=>if x12=true then ((gG.f qo qp 0 1).bind fun aqr=>((bM.f k aqr.1 aqr.2 (decide (x0 < 0))).bind fun aou=>(some aou))) else ((bM.f k qo qp (decide (x0 < 0))).bind fun aov=>(some aov))
end
def aJ.f (k:Nat) (a0 a1:Int):Option (Int):=if a1 < 1 then (some a0) else (if a1 > 64 then (some 0) else (aJ.l0 k a0 a1 (wrap64 (a1 - 1)) 0 0 1))
set_option maxHeartbeats 8000000 in
set_option maxRecDepth 100000 in
theorem aJ.calls (k:Nat) (a0 a1 r:Int) (w:World) (h:aJ.f k a0 a1=some r) :
  Calls Tryz.prog 101 #[.int .i64 a0,.int .i64 a1] w fun e w'=>e = .returned (.int .i64 r)∧Below w.heap.size w w':=by
 have xq:=Tryz.underlying179
 have HB:=aj.mk (Below.refl w.heap.size w)
 have H:=h
 clear h
 unfold aJ.f at H
 by_cases c3:a1 < 1
 ·rw [if_pos c3] at H
  have fK:=decide_eq_true c3
  clear c3
  obtain rfl:=Option.some.inj H
  go_enter Tryz.func101,Tryz.ntmps101
  go_wp2
  go_ret
  exact ⟨zS,zB⟩
 ·rw [if_neg c3] at H
  have fK:=decide_eq_false c3
  clear c3
  by_cases c4:a1 > 64
  ·rw [if_pos c4] at H
   have fQ:=decide_eq_true c4
   clear c4
   obtain rfl:=Option.some.inj H
   go_enter Tryz.func101,Tryz.ntmps101
   go_wp2
   go_ret
   exact ⟨zS,zB⟩
  ·rw [if_neg c4] at H
   have fQ:=decide_eq_false c4
   clear c4
   have H':=aj.mk H
   clear H
   go_enter Tryz.func101,Tryz.ntmps101
   go_wp2_with (first|((with_reducible refine bK (N:=5) rfl ?_);refine bT zR (N:=5) zR (cs := #[.int .u64 0,.int .u64 0]) (t:=179) zG ?_;intro aeK hg w5 hbox hb;obtain ⟨HB,dS,ayq,ayr⟩:=zA4 (ak zB hb) hbox (zg hg zB) (zg hg zB);clear hb hbox hg;obtain ⟨_,_⟩:=zC2 dS.out;obtain ⟨_,_⟩:=zF2 dS.out))
   go_loopg [21] k (fun kq v21 w'=>∃ (vJ:Int) (jO:Int) (jF:Int),v21 = .int .i64 vJ∧aj (aJ.l0 kq a0 a1 (wrap64 (a1 - 1)) vJ jO jF=some r)∧aj (kq≤k)∧aj (w'.heap[aeK]? = some (.cells #[.int .u64 jO,.int .u64 jF] 179 (0,0)))∧aj (Below w.heap.size w w'))
   case atStart=>exact ⟨(0),(0),(1),zT,H',⟨Nat.le_refl _⟩,⟨by refine zD ?_;refine aY (cs := #[.int .u64 0,.int .u64 0]) ?_ 1 _ rfl;refine zD ?_;refine aY (cs := #[.int .u64 0,.int .u64 0]) ?_ 0 _ rfl;refine zD ?_;exact dS.out⟩,⟨zB⟩⟩
   case round =>
    clear H'
    obtain ⟨vJ,jO,jF,rfl,HA,HK1,dS,HB⟩:=hrel
    cases gk with
    | zero=>exact absurd HA.out (by simp [aJ.l0])
    | succ k1 =>
     have H:=HA.out
     clear HA
     simp only [aJ.l0] at H
     by_cases c7:vJ < (wrap64 (a1 - 1))
     ·rw [if_pos c7] at H
      have jq:=decide_eq_true c7
      clear c7
      replace H:=zO H
      obtain ⟨⟨aow,arZ⟩,A8,H⟩:=H
      try dsimp only at H
      have H':=aj.mk H
      clear H
      obtain ⟨_,_⟩:=zC2 dS.out
      obtain ⟨_,_⟩:=zF2 dS.out
      go_wp2_with (first|((with_reducible refine aA (f:=119) rfl ?_);refine aH (some 24) rfl rfl Tryz.func119 (by kernel_rfl) rfl #[.agg #[.int .u64 jO,.int .u64 jF],.int .u64 0] rfl zL ?_;(with_reducible refine (dH.calls jO jF 0 aow arZ _ A8.out).mono ?_);rintro e w10 ⟨rfl,hb⟩;refine ⟨_,rfl,?_⟩;obtain ⟨dS,HB⟩:=zA2 (ay (zK dS) hb) (ak zB hb);(try clear hb);obtain ⟨_,_⟩:=zC2 dS.out;obtain ⟨_,_⟩:=zF2 dS.out))
      go_roundg k1
      case measure=>have:=HK1.out;omega
      case rel=>exact ⟨(wrap64 (vJ+1)),(aow),(arZ),zT,H',⟨by have:=HK1.out;omega⟩,⟨by refine zD ?_;refine aY (cs := #[.int .u64 aow,.int .u64 jF]) ?_ 1 _ rfl;refine zD ?_;refine aY (cs := #[.int .u64 jO,.int .u64 jF]) ?_ 0 _ rfl;refine zD ?_;exact dS.out⟩,⟨zB⟩⟩
     ·rw [if_neg c7] at H
      have jq:=decide_eq_false c7
      clear c7
      replace H:=zO H
      obtain ⟨rU,A12,H⟩:=H
      try dsimp only at H
      have H':=aj.mk H
      clear H
      go_wp2_with (first|((with_reducible refine aA (f:=120) rfl ?_);refine aH (some 27) rfl rfl Tryz.func120 (by kernel_rfl) rfl #[.int .i64 a0] rfl zL ?_;(with_reducible refine (dL.calls a0 rU _ A12.out).mono ?_);rintro e w' ⟨rfl,⟨nd,rfl⟩⟩;refine ⟨_,rfl,?_⟩;(try (rw [nN wr];generalize hq_:World.drewN wr _=wr;have n0_:aj (wr.heap[aeK]? = some (.cells #[.int .u64 jO,.int .u64 jF] 179 (0,0))):=⟨by rw [← hq_];exact (zK dS)⟩;have n1_:aj (Below w.heap.size w wr):=⟨by rw [← hq_];exact zB⟩;clear dS HB hq_;have dS:=n0_;have HB:=n1_;clear n0_ n1_)))|((with_reducible refine bK (N:=6) rfl ?_);refine bT zR (N:=6) zR (cs := #[.int .u64 0,.int .u64 0]) (t:=179) zG ?_;intro yI hg w13 hbox hb;obtain ⟨dS,HB,fC,ays,ayt,xR,xU⟩:=zA7 (ay (zK dS) hb) (ak zB hb) hbox (zg hg zB) (zg hg zB) (zl hg (zK dS)) (zr hg (zK dS));clear hb hbox hg;have ap8:=xU.out;have ap9:=xR.out;obtain ⟨_,_⟩:=zC2 fC.out;obtain ⟨_,_⟩:=zF2 fC.out)|((with_reducible refine bK (N:=7) rfl ?_);refine bT zR (N:=7) zR (cs := #[.int .u64 0,.int .u64 0]) (t:=179) zG ?_;intro yJ hg w16 hbox hb;obtain ⟨dS,fC,HB,fD,ayu,ayv,vZ,wo,tX,tY⟩:=adx (ay (zK dS) hb) (ay (g:=yI) (o := .cells #[.int .u64 0,.int .u64 rU] 179 (0,0)) (by refine zD ?_;refine aY (cs := #[.int .u64 0,.int .u64 0]) ?_ 1 _ rfl;refine zD ?_;refine aY (cs := #[.int .u64 0,.int .u64 0]) ?_ 0 _ rfl;refine zD ?_;exact fC.out) hb) (ak zB hb) hbox (zg hg zB) (zg hg zB) (zl hg (zK dS)) (zr hg (zK dS)) ((by rw [hg];exact Nat.ne_of_lt (dI (g:=yI) (o := .cells #[.int .u64 0,.int .u64 rU] 179 (0,0)) (by refine zD ?_;refine aY (cs := #[.int .u64 0,.int .u64 0]) ?_ 1 _ rfl;refine zD ?_;refine aY (cs := #[.int .u64 0,.int .u64 0]) ?_ 0 _ rfl;refine zD ?_;exact fC.out)):yI≠yJ)) ((by rw [hg];exact Nat.ne_of_gt (dI (g:=yI) (o := .cells #[.int .u64 0,.int .u64 rU] 179 (0,0)) (by refine zD ?_;refine aY (cs := #[.int .u64 0,.int .u64 0]) ?_ 1 _ rfl;refine zD ?_;refine aY (cs := #[.int .u64 0,.int .u64 0]) ?_ 0 _ rfl;refine zD ?_;exact fC.out)):yJ≠yI));clear hb hbox hg;have atL:=wo.out;have atM:=vZ.out;have ayw:=tY.out;have ayx:=tX.out;obtain ⟨_,_⟩:=zC2 fD.out;obtain ⟨_,_⟩:=zF2 fD.out))
      try simp only [Act.put,List.setIfInBounds_toArray,List.set_cons_succ,List.set_cons_zero]
      go_loopg [8] k1 (fun kq v8 w'=>∃ (kP:Int) (jG:Int) (jc:Int),v8 = .int .i64 kP∧aj (aJ.l1 kq a0 a1 kP jO jF 0 rU jG jc=some r)∧aj (kq≤k1)∧aj (w'.heap[aeK]? = some (.cells #[.int .u64 jO,.int .u64 jF] 179 (0,0)))∧aj (w'.heap[yI]? = some (.cells #[.int .u64 0,.int .u64 rU] 179 (0,0)))∧aj (w'.heap[yJ]? = some (.cells #[.int .u64 jG,.int .u64 jc] 179 (0,0)))∧aj (Below w.heap.size w w'))
      case atStart=>exact ⟨(127),(0),(0),zT,H',⟨Nat.le_refl _⟩,⟨zK dS⟩,⟨zK fC⟩,⟨by refine zD ?_;refine aY (cs := #[.int .u64 0,.int .u64 0]) ?_ 1 _ rfl;refine zD ?_;refine aY (cs := #[.int .u64 0,.int .u64 0]) ?_ 0 _ rfl;refine zD ?_;exact fD.out⟩,⟨zB⟩⟩
      case round =>
       clear H'
       obtain ⟨kP,jG,jc,rfl,HA,HK2,dS,fC,fD,HB⟩:=hrel
       cases gk with
       | zero=>exact absurd HA.out (by simp [aJ.l1])
       | succ k2 =>
        have H:=HA.out
        clear HA
        simp only [aJ.l1] at H
        by_cases c20:kP≥a1
        ·rw [if_pos c20] at H
         have atO:=decide_eq_true c20
         clear c20
         replace H:=zO H
         obtain ⟨ajF,A21,H⟩:=H
         try dsimp only at H
         replace H:=zO H
         obtain ⟨⟨aox,ar0⟩,A22,H⟩:=H
         try dsimp only at H
         have H':=aj.mk H
         clear H
         try go_wp2
         obtain ⟨dS,fC,fD,HB⟩:=zA4 (jo dS.out) (jo fC.out) (jo fD.out) (bg HB.out)
         refine aci (n:=6) (S:=fun w'=>w'.cell? ⟨yJ,0,none⟩=some (.int .u64 jG)∧w'.cell? ⟨yJ,1,none⟩=some (.int .u64 jc)∧w'.cell? ⟨yI,0,none⟩=some (.int .u64 0)∧w'.cell? ⟨yI,1,none⟩=some (.int .u64 rU)) (ds:=[5]) #[false,false,false,false,false,false] (by kernel_rfl) rfl rfl ⟨(au fD.out 0).trans rfl,(au fD.out 1).trans rfl,(au fC.out 0).trans rfl,(au fC.out 1).trans rfl⟩ (fun hHeld => ?_)
         generalize wr.drew=w23 at dS fC fD HB hHeld ⊢
         refine xg (i:=2) (N:=some 37) (v := ?_) (a' := ?_) #[false,false,true,false,false,false] rfl rfl (by kernel_rfl) (fun _ _ _ h=>h) (Or.inl ⟨by rfl,?_⟩) ?_ ?_
         rotate_left
         ·intro w'
          go_simp
          with_reducible rfl
         rotate_left
         ·simp only [Act.put,List.setIfInBounds_toArray,List.set_cons_zero,List.set_cons_succ,bW,dh]
          rfl
         refine yu (i:=0) (N:=some 35) (v := ?_) (a' := ?_) #[true,false,true,false,false,false] rfl rfl (by kernel_rfl) (fun _ _ _ h=>h) (Or.inl ⟨by rfl,?_⟩) hHeld ?_ ?_
         rotate_left
         ·rintro w' ⟨s0,s1,s2,s3⟩
          go_simp
          with_reducible rfl
         rotate_left
         ·simp only [Act.put,List.setIfInBounds_toArray,List.set_cons_zero,List.set_cons_succ,bW,dh]
          rfl
         refine yu (i:=1) (N:=some 36) (v := ?_) (a' := ?_) #[true,true,true,false,false,false] rfl rfl (by kernel_rfl) (fun _ _ _ h=>h) (Or.inl ⟨by rfl,?_⟩) hHeld ?_ ?_
         rotate_left
         ·rintro w' ⟨s0,s1,s2,s3⟩
          go_simp
          with_reducible rfl
         rotate_left
         ·simp only [Act.put,List.setIfInBounds_toArray,List.set_cons_zero,List.set_cons_succ,bW,dh]
          rfl
         refine aa7 (i:=3) (N:=some 38) #[true,true,true,true,false,false] rfl rfl (by kernel_rfl) (by decide) (fun K hK => ?_)
         refine zU Tryz.func121 (by kernel_rfl) rfl #[.agg #[.int .u64 0,.int .u64 rU],.int .i64 kP] (by rfl) rfl rfl zL ?_
         with_reducible refine (fB.calls 0 rU kP ajF _ A21.out).mono ?_
         rintro e w24 ⟨rfl,hb⟩
         refine ⟨_,rfl,?_⟩
         obtain ⟨dS,fC,fD,HB⟩:=zA4 (ay (zK dS) hb) (ay (zK fC) hb) (ay (zK fD) hb) (ak zB hb)
         (try clear hb)
         (try clear hb2)
         (try clear hk)
         (try clear hi)
         refine hK.out _ _ ⟨(au fD.out 0).trans rfl,(au fD.out 1).trans rfl,(au fC.out 0).trans rfl,(au fC.out 1).trans rfl⟩ (fun hHeld => ?_)
         clear hK K
         refine zQ (a' := ?_) ?_ ?_
         rotate_left
         ·show Act.put _ (some 38) _=_
          simp only [Act.put,List.setIfInBounds_toArray,List.set_cons_zero,List.set_cons_succ,bW,dh]
          rfl
         refine aa7 (i:=4) (N:=some 39) #[true,true,true,true,true,false] rfl rfl (by kernel_rfl) (by decide) (fun K hK => ?_)
         refine zU Tryz.func119 (by kernel_rfl) rfl #[.agg #[.int .u64 jG,.int .u64 jc],.int .u64 ajF] (by rfl) rfl rfl zL ?_
         with_reducible refine (dH.calls jG jc ajF aox ar0 _ A22.out).mono ?_
         rintro e w25 ⟨rfl,hb⟩
         refine ⟨_,rfl,?_⟩
         obtain ⟨dS,fC,fD,HB⟩:=zA4 (ay (zK dS) hb) (ay (zK fC) hb) (ay (zK fD) hb) (ak zB hb)
         (try clear hb)
         (try clear hb2)
         (try clear hk)
         (try clear hi)
         refine hK.out _ _ ⟨(au fD.out 0).trans rfl,(au fD.out 1).trans rfl,(au fC.out 0).trans rfl,(au fC.out 1).trans rfl⟩ (fun hHeld => ?_)
         clear hK K
         refine zQ (a' := ?_) ?_ ?_
         rotate_left
         ·show Act.put _ (some 39) _=_
          simp only [Act.put,List.setIfInBounds_toArray,List.set_cons_zero,List.set_cons_succ,bW,dh]
          rfl
         refine aiH (i:=5) (N:=none) #[true,true,true,true,true,true] rfl rfl (by kernel_rfl) (by decide) (fun K hK => ?_)
         have aAs:w25.cell? ⟨yJ,0,none⟩=some (.int .u64 jG):=(au fD.out 0).trans rfl
         have ayy:=aN fD.out 0
         have axa:=vZ.out
         have axb:=tX.out
         have axc:=wo.out
         have axd:=tY.out
         have aAt:w25.cell? ⟨yJ,1,none⟩=some (.int .u64 jc):=(au fD.out 1).trans rfl
         have ayz:=aN fD.out 1
         have axe:=vZ.out
         have axf:=tX.out
         have axg:=wo.out
         have axh:=tY.out
         refine afX (w1 := ?_) (by rfl) rfl ?_ ?_
         rotate_left
         ·go_simp
          rfl
         refine hK.out _ _ ?_
         clear hK K
         refine aeA (by kernel_rfl) ?_
         try go_wp2
         go_roundg k2
         case measure=>have:=HK1.out;have:=HK2.out;omega
         case rel=>exact ⟨(wrap64 (kP - 1)),(aox),(ar0),zT,H',⟨by have:=HK1.out;have:=HK2.out;omega⟩,⟨zK dS⟩,⟨zK fC⟩,⟨by refine zD ?_;refine aY (cs := #[.int .u64 aox,.int .u64 jc]) ?_ 1 _ rfl;refine zD ?_;refine aY (cs := #[.int .u64 jG,.int .u64 jc]) ?_ 0 _ rfl;refine zD ?_;exact fD.out⟩,⟨zB⟩⟩
        ·rw [if_neg c20] at H
         have atO:=decide_eq_false c20
         clear c20
         have H':=aj.mk H
         clear H
         have atP:=xU.out
         have atQ:=xR.out
         have al0:=tX.out
         have al2:=tY.out
         obtain ⟨_,_⟩:=zC2 fC.out
         obtain ⟨_,_⟩:=zF2 fC.out
         go_wp2_with (first|((with_reducible refine bK (N:=9) rfl ?_);refine bT zR (N:=9) zR (cs := #[.int .u64 0,.int .u64 0]) (t:=179) zG ?_;intro ama hg w31 hbox hb;obtain ⟨dS,fC,fD,HB,iO,ayA,ayB,abK,abL,xW,xX,xY,xZ⟩:=afc (ay (zK dS) hb) (ay (zK fC) hb) (ay (zK fD) hb) (ak zB hb) hbox (zg hg zB) (zg hg zB) (zl hg (zK dS)) (zr hg (zK dS)) (zl hg (zK fC)) (zr hg (zK fC)) (zl hg (zK fD)) (zr hg (zK fD));clear hb hbox hg;have ayC:=abL.out;have ayD:=abK.out;have atS:=xX.out;have atT:=xW.out;have ayE:=xZ.out;have ayF:=xY.out;obtain ⟨_,_⟩:=zC2 iO.out;obtain ⟨_,_⟩:=zF2 iO.out))
         try simp only [Act.put,List.setIfInBounds_toArray,List.set_cons_succ,List.set_cons_zero]
         go_loopg [10] k2 (fun kq v10 w'=>∃ (mJ:Int) (lX:Int) (kX:Int),v10 = .int .i64 mJ∧aj (aJ.l2 kq a0 mJ jO jF 0 rU jG jc lX kX=some r)∧aj (kq≤k2)∧aj (w'.heap[aeK]? = some (.cells #[.int .u64 jO,.int .u64 jF] 179 (0,0)))∧aj (w'.heap[yI]? = some (.cells #[.int .u64 0,.int .u64 rU] 179 (0,0)))∧aj (w'.heap[yJ]? = some (.cells #[.int .u64 jG,.int .u64 jc] 179 (0,0)))∧aj (w'.heap[ama]? = some (.cells #[.int .u64 lX,.int .u64 kX] 179 (0,0)))∧aj (Below w.heap.size w w'))
         case atStart=>exact ⟨(a1),(0),(rU),zT,H',⟨Nat.le_refl _⟩,⟨zK dS⟩,⟨zK fC⟩,⟨zK fD⟩,⟨by refine zD ?_;refine aY (cs := #[.int .u64 0,.int .u64 0]) ?_ 1 _ rfl;refine zD ?_;refine aY (cs := #[.int .u64 0,.int .u64 0]) ?_ 0 _ rfl;refine zD ?_;exact iO.out⟩,⟨zB⟩⟩
         case round =>
          clear H'
          obtain ⟨mJ,lX,kX,rfl,HA,HK3,dS,fC,fD,iO,HB⟩:=hrel
          cases gk with
          | zero=>exact absurd HA.out (by simp [aJ.l2])
          | succ k3 =>
           have H:=HA.out
           clear HA
           simp only [aJ.l2] at H
           by_cases c36:mJ < 128
           ·rw [if_pos c36] at H
            have atU:=decide_eq_true c36
            clear c36
            replace H:=zO H
            obtain ⟨acV,A37,H⟩:=H
            try dsimp only at H
            by_cases c38:acV=1
            ·rw [if_pos c38] at H
             have acW:(acV == 1)=true:=beq_iff_eq.mpr c38
             have amb:(acV != 1)=false:=bne_eq_false_iff_eq.mpr c38
             clear c38
             have H':=aj.mk H
             clear H
             have ayG:=xU.out
             have ayH:=xR.out
             have aqf:=tX.out
             have aqg:=tY.out
             have atA:=xW.out
             have atB:=xX.out
             obtain ⟨_,_⟩:=zC2 fC.out
             obtain ⟨_,_⟩:=zF2 fC.out
             go_wp2_with (first|((with_reducible refine aA (f:=121) rfl ?_);refine aH (some 48) rfl rfl Tryz.func121 (by kernel_rfl) rfl #[.agg #[.int .u64 0,.int .u64 rU],.int .i64 mJ] rfl zL ?_;(with_reducible refine (fB.calls 0 rU mJ acV _ A37.out).mono ?_);rintro e w43 ⟨rfl,hb⟩;refine ⟨_,rfl,?_⟩;obtain ⟨dS,fC,fD,iO,HB⟩:=zA5 (ay (zK dS) hb) (ay (zK fC) hb) (ay (zK fD) hb) (ay (zK iO) hb) (ak zB hb);(try clear hb))|((with_reducible refine bK (N:=11) rfl ?_);refine bT zR (N:=11) zR (cs := #[.int .u64 0,.int .u64 0]) (t:=179) zG ?_;intro atV hg w44 hbox hb;have n0_:=aj.mk (ay (zK dS) hb);have n1_:=aj.mk (ay (zK fC) hb);have n2_:=aj.mk (ay (zK fD) hb);have n3_:=aj.mk (ay (zK iO) hb);have n4_:=aj.mk (ak zB hb);have n5_:=aj.mk (hbox);have n6_:=aj.mk (zg hg zB);have n7_:=aj.mk (zg hg zB);have n8_:=aj.mk (zl hg (zK dS));have n9_:=aj.mk (zr hg (zK dS));have ar1:=aj.mk (zl hg (zK fC));have ar2:=aj.mk (zr hg (zK fC));have ar4:=aj.mk (zl hg (zK fD));have ar5:=aj.mk (zr hg (zK fD));have ar6:=aj.mk (zl hg (zK iO));have ar7:=aj.mk (zr hg (zK iO));clear dS;clear fC;clear fD;clear iO;clear HB;have dS:=n0_;have fC:=n1_;have fD:=n2_;have iO:=n3_;have HB:=n4_;have uw:=n5_;have ayI:=n6_;have ayJ:=n7_;have adV:=n8_;have adW:=n9_;have adX:=ar1;have adY:=ar2;have adZ:=ar4;have ad1:=ar5;have ad3:=ar6;have ad4:=ar7;clear n0_ n1_ n2_ n3_ n4_ n5_ n6_ n7_ n8_ n9_ ar1 ar2 ar4 ar5 ar6 ar7;clear hb hbox hg;have ayK:=adW.out;have ayL:=adV.out;have aqh:=adY.out;have aqi:=adX.out;have atC:=ad1.out;have atD:=adZ.out;have ayM:=ad4.out;have ayN:=ad3.out;obtain ⟨_,_⟩:=zC2 uw.out;obtain ⟨_,_⟩:=zF2 uw.out))
             try simp only [Act.put,List.setIfInBounds_toArray,List.set_cons_succ,List.set_cons_zero]
             go_loopg [52] k3 (fun kq v52 w'=>∃ (agl:Int) (tZ:Int) (rC:Int),v52 = .int .i64 agl∧aj (aJ.l3 kq a0 mJ mJ agl jO jF 0 rU jG jc lX kX tZ rC=some r)∧aj (kq≤k3)∧aj (w'.heap[aeK]? = some (.cells #[.int .u64 jO,.int .u64 jF] 179 (0,0)))∧aj (w'.heap[yI]? = some (.cells #[.int .u64 0,.int .u64 rU] 179 (0,0)))∧aj (w'.heap[yJ]? = some (.cells #[.int .u64 jG,.int .u64 jc] 179 (0,0)))∧aj (w'.heap[ama]? = some (.cells #[.int .u64 lX,.int .u64 kX] 179 (0,0)))∧aj (w'.heap[atV]? = some (.cells #[.int .u64 tZ,.int .u64 rC] 179 (0,0)))∧aj (Below w.heap.size w w'))
             case atStart=>exact ⟨(0),(0),(1),zT,H',⟨Nat.le_refl _⟩,⟨zK dS⟩,⟨zK fC⟩,⟨zK fD⟩,⟨zK iO⟩,⟨by refine zD ?_;refine aY (cs := #[.int .u64 0,.int .u64 0]) ?_ 1 _ rfl;refine zD ?_;refine aY (cs := #[.int .u64 0,.int .u64 0]) ?_ 0 _ rfl;refine zD ?_;exact uw.out⟩,⟨zB⟩⟩
             case round =>
              clear H'
              obtain ⟨agl,tZ,rC,rfl,HA,HK4,dS,fC,fD,iO,uw,HB⟩:=hrel
              cases gk with
              | zero=>exact absurd HA.out (by simp [aJ.l3])
              | succ k4 =>
               have H:=HA.out
               clear HA
               simp only [aJ.l3] at H
               by_cases c50:agl < mJ
               ·rw [if_pos c50] at H
                have atW:=decide_eq_true c50
                clear c50
                replace H:=zO H
                obtain ⟨⟨aoy,ar8⟩,A51,H⟩:=H
                try dsimp only at H
                have H':=aj.mk H
                clear H
                have atX:=adW.out
                have atY:=adV.out
                have ayO:=adY.out
                have ayP:=adX.out
                have ayQ:=ad1.out
                have ayR:=adZ.out
                have ayS:=ad4.out
                have ayT:=ad3.out
                obtain ⟨_,_⟩:=zC2 uw.out
                obtain ⟨_,_⟩:=zF2 uw.out
                go_wp2_with (first|((with_reducible refine aA (f:=119) rfl ?_);refine aH (some 55) rfl rfl Tryz.func119 (by kernel_rfl) rfl #[.agg #[.int .u64 tZ,.int .u64 rC],.int .u64 0] rfl zL ?_;(with_reducible refine (dH.calls tZ rC 0 aoy ar8 _ A51.out).mono ?_);rintro e w57 ⟨rfl,hb⟩;refine ⟨_,rfl,?_⟩;obtain ⟨dS,fC,fD,iO,uw,HB⟩:=zA6 (ay (zK dS) hb) (ay (zK fC) hb) (ay (zK fD) hb) (ay (zK iO) hb) (ay (zK uw) hb) (ak zB hb);(try clear hb);obtain ⟨_,_⟩:=zC2 uw.out;obtain ⟨_,_⟩:=zF2 uw.out))
                go_roundg k4
                case measure=>have:=HK1.out;have:=HK2.out;have:=HK3.out;have:=HK4.out;omega
                case rel=>exact ⟨(wrap64 (agl+1)),(aoy),(ar8),zT,H',⟨by have:=HK1.out;have:=HK2.out;have:=HK3.out;have:=HK4.out;omega⟩,⟨zK dS⟩,⟨zK fC⟩,⟨zK fD⟩,⟨zK iO⟩,⟨by refine zD ?_;refine aY (cs := #[.int .u64 aoy,.int .u64 rC]) ?_ 1 _ rfl;refine zD ?_;refine aY (cs := #[.int .u64 tZ,.int .u64 rC]) ?_ 0 _ rfl;refine zD ?_;exact uw.out⟩,⟨zB⟩⟩
               ·rw [if_neg c50] at H
                have atW:=decide_eq_false c50
                clear c50
                replace H:=zO H
                obtain ⟨⟨aoz,ar9⟩,A59,H⟩:=H
                try dsimp only at H
                have H':=aj.mk H
                clear H
                have ayU:=abL.out
                have ayV:=abK.out
                have ayW:=xX.out
                have ayX:=xW.out
                have atG:=xZ.out
                have atH:=xY.out
                have atI:=ad3.out
                have atJ:=ad4.out
                obtain ⟨_,_⟩:=zC2 iO.out
                obtain ⟨_,_⟩:=zF2 iO.out
                have ayY:=adW.out
                have ayZ:=adV.out
                have ay0:=adY.out
                have ay1:=adX.out
                have ay2:=ad1.out
                have ay3:=adZ.out
                obtain ⟨_,_⟩:=zC2 uw.out
                obtain ⟨_,_⟩:=zF2 uw.out
                go_wp2_with (first|((with_reducible refine aA (f:=122) rfl ?_);refine aH (some 59) rfl rfl Tryz.func122 (by kernel_rfl) rfl #[.agg #[.int .u64 lX,.int .u64 kX],.agg #[.int .u64 tZ,.int .u64 rC]] rfl zL ?_;(with_reducible refine (jP.calls lX kX tZ rC aoz ar9 _ A59.out).mono ?_);rintro e w69 ⟨rfl,hb⟩;refine ⟨_,rfl,?_⟩;obtain ⟨dS,fC,fD,iO,uw,HB⟩:=zA6 (ay (zK dS) hb) (ay (zK fC) hb) (ay (zK fD) hb) (ay (zK iO) hb) (ay (zK uw) hb) (ak zB hb);(try clear hb);obtain ⟨_,_⟩:=zC2 iO.out;obtain ⟨_,_⟩:=zF2 iO.out))
                go_roundg k4
                case measure=>have:=HK1.out;have:=HK2.out;have:=HK3.out;have:=HK4.out;omega
                case rel=>exact ⟨(wrap64 (mJ+1)),(aoz),(ar9),zT,H',⟨by have:=HK1.out;have:=HK2.out;have:=HK3.out;have:=HK4.out;omega⟩,⟨zK dS⟩,⟨zK fC⟩,⟨zK fD⟩,⟨by refine zD ?_;refine aY (cs := #[.int .u64 aoz,.int .u64 kX]) ?_ 1 _ rfl;refine zD ?_;refine aY (cs := #[.int .u64 lX,.int .u64 kX]) ?_ 0 _ rfl;refine zD ?_;exact iO.out⟩,⟨zB⟩⟩
            ·rw [if_neg c38] at H
             have acW:(acV == 1)=false:=beq_eq_false_iff_ne.mpr c38
             have amb:(acV != 1)=true:=bne_iff_ne.mpr c38
             have H':=aj.mk H
             clear H
             have ay4:=xU.out
             have ay5:=xR.out
             have ay6:=tX.out
             have ay7:=tY.out
             have ay8:=xW.out
             have ay9:=xX.out
             obtain ⟨_,_⟩:=zC2 fC.out
             obtain ⟨_,_⟩:=zF2 fC.out
             go_wp2_with (first|((with_reducible refine aA (f:=121) rfl ?_);refine aH (some 48) rfl rfl Tryz.func121 (by kernel_rfl) rfl #[.agg #[.int .u64 0,.int .u64 rU],.int .i64 mJ] rfl zL ?_;(with_reducible refine (fB.calls 0 rU mJ acV _ A37.out).mono ?_);rintro e w75 ⟨rfl,hb⟩;refine ⟨_,rfl,?_⟩;obtain ⟨dS,fC,fD,iO,HB⟩:=zA5 (ay (zK dS) hb) (ay (zK fC) hb) (ay (zK fD) hb) (ay (zK iO) hb) (ak zB hb);(try clear hb)))
             go_roundg k3
             case measure=>have:=HK1.out;have:=HK2.out;have:=HK3.out;omega
             case rel=>exact ⟨(wrap64 (mJ+1)),(lX),(kX),zT,H',⟨by have:=HK1.out;have:=HK2.out;have:=HK3.out;omega⟩,⟨zK dS⟩,⟨zK fC⟩,⟨zK fD⟩,⟨zK iO⟩,⟨zB⟩⟩
           ·rw [if_neg c36] at H
            have atU:=decide_eq_false c36
            clear c36
            replace H:=zO H
            obtain ⟨al8,A76,H⟩:=H
            try dsimp only at H
            have aoA:=aj.mk H
            clear H
            have aza:=abL.out
            have azb:=abK.out
            have azc:=xX.out
            have azd:=xW.out
            have aze:=xZ.out
            have azf:=xY.out
            obtain ⟨_,_⟩:=zC2 iO.out
            obtain ⟨_,_⟩:=zF2 iO.out
            have azg:=xR.out
            have azh:=xU.out
            have azi:=vZ.out
            have azj:=wo.out
            obtain ⟨_,_⟩:=zC2 dS.out
            obtain ⟨_,_⟩:=zF2 dS.out
            go_upto_if 65 with (first|((with_reducible refine aA (f:=123) rfl ?_);refine aH (some 62) rfl rfl Tryz.func123 (by kernel_rfl) rfl #[.agg #[.int .u64 lX,.int .u64 kX],.agg #[.int .u64 jO,.int .u64 jF]] rfl zL ?_;(with_reducible refine (gX.calls lX kX jO jF al8 _ A76.out).mono ?_);rintro e w85 ⟨rfl,hb⟩;refine ⟨_,rfl,?_⟩;obtain ⟨dS,fC,fD,iO,HB⟩:=zA5 (ay (zK dS) hb) (ay (zK fC) hb) (ay (zK fD) hb) (ay (zK iO) hb) (ak zB hb);(try clear hb)))
            (try simp only [Act.put,List.setIfInBounds_toArray,List.set_cons_zero,List.set_cons_succ])
            go_cut [12] (fun v12 wc=>∃ (kq:Nat) (agm:Bool),v12 = .bool agm∧aj (aJ.j4 kq a0 agm jG jc=some r)∧aj (kq≤k3)∧aj (wc.heap[aeK]? = some (.cells #[.int .u64 jO,.int .u64 jF] 179 (0,0)))∧aj (wc.heap[yI]? = some (.cells #[.int .u64 0,.int .u64 rU] 179 (0,0)))∧aj (wc.heap[yJ]? = some (.cells #[.int .u64 jG,.int .u64 jc] 179 (0,0)))∧aj (wc.heap[ama]? = some (.cells #[.int .u64 lX,.int .u64 kX] 179 (0,0)))∧aj (Below w.heap.size w wc))
            case first =>
             have H:=aoA.out
             clear aoA
             by_cases c86:a0 < 0
             ·rw [if_pos c86] at H
              have agn:=decide_eq_true c86
              clear c86
              (first|rw [agn]|(simp only [bW,dh];rw [agn])|skip)
              replace H:=zO H
              obtain ⟨al9,A87,H⟩:=H
              try dsimp only at H
              have H':=aj.mk H
              clear H
              have azk:=xR.out
              have azl:=xU.out
              have azm:=vZ.out
              have azn:=wo.out
              have azo:=abK.out
              have azp:=abL.out
              obtain ⟨_,_⟩:=zC2 dS.out
              obtain ⟨_,_⟩:=zF2 dS.out
              have azq:=xX.out
              have azr:=xW.out
              have azs:=xZ.out
              have azt:=xY.out
              obtain ⟨_,_⟩:=zC2 iO.out
              obtain ⟨_,_⟩:=zF2 iO.out
              go_wp2_with (first|((with_reducible refine aA (f:=123) rfl ?_);refine aH (some 68) rfl rfl Tryz.func123 (by kernel_rfl) rfl #[.agg #[.int .u64 jO,.int .u64 jF],.agg #[.int .u64 lX,.int .u64 kX]] rfl zL ?_;(with_reducible refine (gX.calls jO jF lX kX al9 _ A87.out).mono ?_);rintro e w95 ⟨rfl,hb⟩;refine ⟨_,rfl,?_⟩;obtain ⟨dS,fC,fD,iO,HB⟩:=zA5 (ay (zK dS) hb) (ay (zK fC) hb) (ay (zK fD) hb) (ay (zK iO) hb) (ak zB hb);(try clear hb)))
              go_meet
              case rel=>exact ⟨_,(al9),zT,H',⟨by have:=HK1.out;have:=HK2.out;have:=HK3.out;first|omega|exact Nat.le_refl _⟩,⟨zK dS⟩,⟨zK fC⟩,⟨zK fD⟩,⟨zK iO⟩,⟨zB⟩⟩
             ·rw [if_neg c86] at H
              have agn:=decide_eq_false c86
              clear c86
              (first|rw [agn]|(simp only [bW,dh];rw [agn])|skip)
              have H':=aj.mk H
              clear H
              go_wp2
              go_meet
              case rel=>exact ⟨_,(!al8),zT,H',⟨by have:=HK1.out;have:=HK2.out;have:=HK3.out;first|omega|exact Nat.le_refl _⟩,⟨zK dS⟩,⟨zK fC⟩,⟨zK fD⟩,⟨zK iO⟩,⟨zB⟩⟩
            case rest =>
             clear aoA
             obtain ⟨kq,agm,rfl,HA,aAu,dS,fC,fD,iO,HB⟩:=hcut
             cases kq with
             | zero=>exact absurd HA.out (by simp [aJ.j4])
             | succ asa =>
              have H:=HA.out
              clear HA
              simp only [aJ.j4] at H
              by_cases c96:agm=true
              ·subst c96
               rw [if_pos rfl] at H;try dsimp only at H
               replace H:=zO H
               obtain ⟨⟨ajG,amc⟩,A97,H⟩:=H
               try dsimp only at H
               replace H:=zO H
               obtain ⟨aou,A98,H⟩:=H
               try dsimp only at H
               obtain rfl:=Option.some.inj H
               have azu:=wo.out
               have azv:=vZ.out
               have axq:=tY.out
               have axr:=tX.out
               have axt:=xY.out
               have axu:=xZ.out
               obtain ⟨_,_⟩:=zC2 fD.out
               obtain ⟨_,_⟩:=zF2 fD.out
               go_wp2_with (first|((with_reducible refine aA (f:=124) rfl ?_);refine aH (some 72) rfl rfl Tryz.func124 (by kernel_rfl) rfl #[.agg #[.int .u64 jG,.int .u64 jc],.agg #[.int .u64 0,.int .u64 1]] rfl zL ?_;(with_reducible refine (gG.calls jG jc 0 1 ajG amc _ A97.out).mono ?_);rintro e aAv ⟨rfl,hb⟩;refine ⟨_,rfl,?_⟩;obtain ⟨dS,fC,fD,iO,HB⟩:=zA5 (ay (zK dS) hb) (ay (zK fC) hb) (ay (zK fD) hb) (ay (zK iO) hb) (ak zB hb);(try clear hb);obtain ⟨_,_⟩:=zC2 fD.out;obtain ⟨_,_⟩:=zF2 fD.out)|((with_reducible refine aA (f:=125) rfl ?_);refine aH (some 76) rfl rfl Tryz.func125 (by kernel_rfl) rfl #[.agg #[.int .u64 ajG,.int .u64 amc],.bool (decide (a0 < 0))] rfl zL ?_;(with_reducible refine (bM.calls asa ajG amc (decide (a0 < 0)) aou _ A98.out).mono ?_);rintro e aAw ⟨rfl,hb⟩;refine ⟨_,rfl,?_⟩;obtain ⟨dS,fC,fD,iO,HB⟩:=zA5 (ay (zK dS) hb) (ay (zK fC) hb) (ay (g:=yJ) (o := .cells #[.int .u64 ajG,.int .u64 amc] 179 (0,0)) (by refine zD ?_;refine aY (cs := #[.int .u64 ajG,.int .u64 jc]) ?_ 1 _ rfl;refine zD ?_;refine aY (cs := #[.int .u64 jG,.int .u64 jc]) ?_ 0 _ rfl;refine zD ?_;exact fD.out) hb) (ay (zK iO) hb) (ak zB hb);(try clear hb)))
               go_ret
               exact ⟨zS,zB⟩
              ·replace c96:=Bool.eq_false_iff.mpr c96
               subst c96
               rw [if_neg (show ¬ (false=true) by decide)] at H;try dsimp only at H
               replace H:=zO H
               obtain ⟨aov,avk,H⟩:=H
               try dsimp only at H
               obtain rfl:=Option.some.inj H
               have axv:=wo.out
               have axw:=vZ.out
               have axx:=tY.out
               have axy:=tX.out
               have axz:=xY.out
               have axA:=xZ.out
               obtain ⟨_,_⟩:=zC2 fD.out
               obtain ⟨_,_⟩:=zF2 fD.out
               go_wp2_with (first|((with_reducible refine aA (f:=125) rfl ?_);refine aH (some 76) rfl rfl Tryz.func125 (by kernel_rfl) rfl #[.agg #[.int .u64 jG,.int .u64 jc],.bool (decide (a0 < 0))] rfl zL ?_;(with_reducible refine (bM.calls asa jG jc (decide (a0 < 0)) aov _ avk.out).mono ?_);rintro e aAx ⟨rfl,hb⟩;refine ⟨_,rfl,?_⟩;obtain ⟨dS,fC,fD,iO,HB⟩:=zA5 (ay (zK dS) hb) (ay (zK fC) hb) (ay (zK fD) hb) (ay (zK iO) hb) (ak zB hb);(try clear hb)))
               go_ret
               exact ⟨zS,zB⟩
end Go.Proofs.YtpondkggmcmpfaaGreatDoor.QA
namespace Go.Proofs.YtpondkggmcmpfaaGreatDoor.QA
open Go.Proofs.YtpondkggmcmpfaaGreatDoor.T
open Go.RowKit Go.Proofs.YtpondkggmcmpfaaGreatDoorW.PrintWords Go.Proofs.YtpondkggmcmpfaaGreatDoorW.PrintLast Go.Proofs.YtpondkggmcmpfaaGreatDoorW.PrintMore
attribute [local go_sem] eP dV dW fM fO
set_option linter.unusedVariables false
set_option linter.unusedSimpArgs false
def kL.f (a0 a1:Int):Option (Bool):=if a1 < 1 then (some false) else (if a1 > 1048576 then (some false) else (if a0≤(wrap64 (4*a1)) then (some (decide (a0≥(wrap64 ((-4)*a1))))) else (some false)))
set_option maxHeartbeats 8000000 in
set_option maxRecDepth 100000 in
theorem kL.calls (a0 a1:Int) (r:Bool) (w:World) (h:kL.f a0 a1=some r) :
  Calls Tryz.prog 184 #[.int .i64 a0,.int .i64 a1] w fun e w'=>e = .returned (.bool r)∧dw w w':=by
 have H:=h
 clear h
 unfold kL.f at H
 by_cases c3:a1 < 1
 ·rw [if_pos c3] at H
  have fK:=decide_eq_true c3
  clear c3
  obtain rfl:=Option.some.inj H
  go_enter Tryz.func184,Tryz.ntmps184
  go_wp2
  go_ret
  exact ⟨zT,zW⟩
 ·rw [if_neg c3] at H
  have fK:=decide_eq_false c3
  clear c3
  by_cases c4:a1 > 1048576
  ·rw [if_pos c4] at H
   have fQ:=decide_eq_true c4
   clear c4
   obtain rfl:=Option.some.inj H
   go_enter Tryz.func184,Tryz.ntmps184
   go_wp2
   go_ret
   exact ⟨zT,zW⟩
  ·rw [if_neg c4] at H
   have fQ:=decide_eq_false c4
   clear c4
   by_cases c5:a0≤(wrap64 (4*a1))
   ·rw [if_pos c5] at H
    have iJ:=decide_eq_true c5
    clear c5
    obtain rfl:=Option.some.inj H
    go_enter Tryz.func184,Tryz.ntmps184
    go_wp2
    go_ret
    exact ⟨zT,zW⟩
   ·rw [if_neg c5] at H
    have iJ:=decide_eq_false c5
    clear c5
    obtain rfl:=Option.some.inj H
    go_enter Tryz.func184,Tryz.ntmps184
    go_wp2
    go_ret
    exact ⟨zT,zW⟩
end Go.Proofs.YtpondkggmcmpfaaGreatDoor.QA
