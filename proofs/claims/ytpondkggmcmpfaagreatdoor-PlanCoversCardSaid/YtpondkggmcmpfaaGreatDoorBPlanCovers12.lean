/- Joined by wip/tools/bundle.py out of: QAx24 QAx25 QAx26 QAx27 QAx28 QAx29. -/
import Derived.Test.YtpondkggmcmpfaaGreatDoorBPlanCovers0
import Derived.Test.YtpondkggmcmpfaaGreatDoorBPlanCovers1
import Derived.Test.YtpondkggmcmpfaaGreatDoorBPlanCovers7
namespace Go.Proofs.YtpondkggmcmpfaaGreatDoor.QA
open Go.Proofs.YtpondkggmcmpfaaGreatDoor.T
open Go.RowKit Go.Proofs.YtpondkggmcmpfaaGreatDoorW.PrintWords Go.Proofs.YtpondkggmcmpfaaGreatDoorW.PrintLast Go.Proofs.YtpondkggmcmpfaaGreatDoorW.PrintMore
attribute [local go_sem] dY dS dU fA fB
set_option linter.unusedVariables false
set_option linter.unusedSimpArgs false
def jU.f (bJ dB kV nT:Int):Option (Int × Int):=if dB < nT then (some (IntKind.u64.wrap ((IntKind.u64.wrap (bJ - kV)) - 1),IntKind.u64.wrap (dB - nT))) else (some (IntKind.u64.wrap (bJ - kV),IntKind.u64.wrap (dB - nT)))
set_option maxHeartbeats 8000000 in
set_option maxRecDepth 100000 in
theorem jU.calls (bJ dB kV nT r1 r2:Int) (w:World) (h:jU.f bJ dB kV nT=some (r1,r2)) :
  Calls Tryz.prog 122 #[.agg #[.int .u64 bJ,.int .u64 dB],.agg #[.int .u64 kV,.int .u64 nT]] w fun e w'=>e = .returned (.agg #[.int .u64 r1,.int .u64 r2])∧Below w.heap.size w w':=by
 have xI:=Tryz.underlying179
 have HB:=aj.mk (Below.refl w.heap.size w)
 have H:=h
 clear h
 unfold jU.f at H
 by_cases c3:dB < nT
 ·rw [if_pos c3] at H
  have fQ:=decide_eq_true c3
  clear c3
  simp only [Option.some.injEq,Prod.mk.injEq] at H
  obtain ⟨rfl,rfl⟩:=H
  go_enter Tryz.func122,Tryz.ntmps122
  go_wp2_with (first|((with_reducible refine bK (N:=2) rfl ?_);refine bT zR (N:=2) zR (cs := #[.int .u64 bJ,.int .u64 dB]) (t:=179) zG ?_;intro atB hg w4 hbox hb;obtain ⟨HB,jV,atC,atD⟩:=zA4 (ak zB hb) hbox (zg hg zB) (zg hg zB);clear hb hbox hg)|((with_reducible refine bK (N:=3) rfl ?_);refine bT zR (N:=3) zR (cs := #[.int .u64 kV,.int .u64 nT]) (t:=179) zG ?_;intro atE hg w5 hbox hb;obtain ⟨jV,HB,mW,atF,atG,adQ,adR⟩:=zA7 (ay (zK jV) hb) (ak zB hb) hbox (zg hg zB) (zg hg zB) (zl hg (zK jV)) (zr hg (zK jV));clear hb hbox hg)|((with_reducible refine bK (N:=4) rfl ?_);refine bT zR (N:=4) zR (cs := #[.int .u64 0,.int .u64 0]) (t:=179) zG ?_;intro amf hg w6 hbox hb;obtain ⟨jV,mW,HB,uG,atH,atI,adS,adT,adU,adV⟩:=adI (ay (zK jV) hb) (ay (zK mW) hb) (ak zB hb) hbox (zg hg zB) (zg hg zB) (zl hg (zK jV)) (zr hg (zK jV)) (zl hg (zK mW)) (zr hg (zK mW));clear hb hbox hg;have asx:=adQ.out;have asy:=adR.out;have asz:=adS.out;have asA:=adT.out;obtain ⟨_,_⟩:=zC2 jV.out;obtain ⟨_,_⟩:=zF2 jV.out;have atJ:=adU.out;have atK:=adV.out;obtain ⟨_,_⟩:=zC2 mW.out;obtain ⟨_,_⟩:=zF2 mW.out)|((with_reducible refine bK (N:=5) rfl ?_);refine bT zR (N:=5) zR (cs := #[.int .u64 0,.int .u64 0]) (t:=179) zG ?_;intro atL hg w12 hbox hb;obtain ⟨jV,mW,uG,HB,agw,atM,atN,adW,adX,adY,adZ,uh,ad1⟩:=afq (ay (zK jV) hb) (ay (zK mW) hb) (ay (zK uG) hb) (ak zB hb) hbox (zg hg zB) (zg hg zB) (zl hg (zK jV)) (zr hg (zK jV)) (zl hg (zK mW)) (zr hg (zK mW)) (zl hg (zK uG)) (zr hg (zK uG));clear hb hbox hg;have amg:=adX.out;have amh:=adW.out;have aqE:=adZ.out;have aqF:=adY.out;have atO:=ad1.out;have atP:=uh.out;obtain ⟨_,_⟩:=zC2 agw.out;obtain ⟨_,_⟩:=zF2 agw.out;obtain ⟨_,_⟩:=zC2 jV.out;obtain ⟨_,_⟩:=zF2 jV.out;obtain ⟨_,_⟩:=zC2 mW.out;obtain ⟨_,_⟩:=zF2 mW.out;obtain ⟨_,_⟩:=zC2 uG.out;obtain ⟨_,_⟩:=zF2 uG.out))
  refine bodyPost_ret (results_cell_row rfl _ _ amf 179 #[.int .u64 (IntKind.u64.wrap ((IntKind.u64.wrap (bJ - kV)) - 1)),.int .u64 (IntKind.u64.wrap (dB - nT))] (0,0) _ rfl (by refine zD ?_;refine aY (cs := #[.int .u64 (IntKind.u64.wrap ((IntKind.u64.wrap (bJ - kV)) - 1)),.int .u64 0]) ?_ 1 _ rfl;refine zD ?_;refine aY (cs := #[.int .u64 0,.int .u64 0]) ?_ 0 _ rfl;refine zD ?_;refine iI ?_ uh.out _;refine zD ?_;refine iI ?_ uh.out _;refine zD ?_;refine iI ?_ uh.out _;refine zD ?_;exact uG.out) Tryz.underlying179 rfl (by kernel_rfl)) rfl ?_
  exact ⟨zS,zB⟩
 ·rw [if_neg c3] at H
  have fQ:=decide_eq_false c3
  clear c3
  simp only [Option.some.injEq,Prod.mk.injEq] at H
  obtain ⟨rfl,rfl⟩:=H
  go_enter Tryz.func122,Tryz.ntmps122
  go_wp2_with (first|((with_reducible refine bK (N:=2) rfl ?_);refine bT zR (N:=2) zR (cs := #[.int .u64 bJ,.int .u64 dB]) (t:=179) zG ?_;intro atB hg w20 hbox hb;obtain ⟨HB,jV,atC,atD⟩:=zA4 (ak zB hb) hbox (zg hg zB) (zg hg zB);clear hb hbox hg)|((with_reducible refine bK (N:=3) rfl ?_);refine bT zR (N:=3) zR (cs := #[.int .u64 kV,.int .u64 nT]) (t:=179) zG ?_;intro atE hg w21 hbox hb;obtain ⟨jV,HB,mW,atF,atG,adQ,adR⟩:=zA7 (ay (zK jV) hb) (ak zB hb) hbox (zg hg zB) (zg hg zB) (zl hg (zK jV)) (zr hg (zK jV));clear hb hbox hg)|((with_reducible refine bK (N:=4) rfl ?_);refine bT zR (N:=4) zR (cs := #[.int .u64 0,.int .u64 0]) (t:=179) zG ?_;intro amf hg w22 hbox hb;obtain ⟨jV,mW,HB,uG,atH,atI,adS,adT,adU,adV⟩:=adI (ay (zK jV) hb) (ay (zK mW) hb) (ak zB hb) hbox (zg hg zB) (zg hg zB) (zl hg (zK jV)) (zr hg (zK jV)) (zl hg (zK mW)) (zr hg (zK mW));clear hb hbox hg;have ami:=adQ.out;have amj:=adR.out;have ayr:=adS.out;have ays:=adT.out;obtain ⟨_,_⟩:=zC2 jV.out;obtain ⟨_,_⟩:=zF2 jV.out;have atQ:=adU.out;have atS:=adV.out;obtain ⟨_,_⟩:=zC2 mW.out;obtain ⟨_,_⟩:=zF2 mW.out)|((with_reducible refine bK (N:=5) rfl ?_);refine bT zR (N:=5) zR (cs := #[.int .u64 0,.int .u64 0]) (t:=179) zG ?_;intro atL hg w28 hbox hb;obtain ⟨jV,mW,uG,HB,agw,atM,atN,adW,adX,adY,adZ,uh,ad1⟩:=afq (ay (zK jV) hb) (ay (zK mW) hb) (ay (zK uG) hb) (ak zB hb) hbox (zg hg zB) (zg hg zB) (zl hg (zK jV)) (zr hg (zK jV)) (zl hg (zK mW)) (zr hg (zK mW)) (zl hg (zK uG)) (zr hg (zK uG));clear hb hbox hg;have amk:=adX.out;have aml:=adW.out;have aqG:=adZ.out;have aqH:=adY.out;have ayt:=ad1.out;have ayu:=uh.out;obtain ⟨_,_⟩:=zC2 agw.out;obtain ⟨_,_⟩:=zF2 agw.out;obtain ⟨_,_⟩:=zC2 jV.out;obtain ⟨_,_⟩:=zF2 jV.out;obtain ⟨_,_⟩:=zC2 mW.out;obtain ⟨_,_⟩:=zF2 mW.out;obtain ⟨_,_⟩:=zC2 uG.out;obtain ⟨_,_⟩:=zF2 uG.out))
  refine bodyPost_ret (results_cell_row rfl _ _ amf 179 #[.int .u64 (IntKind.u64.wrap (bJ - kV)),.int .u64 (IntKind.u64.wrap (dB - nT))] (0,0) _ rfl (by refine zD ?_;refine aY (cs := #[.int .u64 (IntKind.u64.wrap (bJ - kV)),.int .u64 0]) ?_ 1 _ rfl;refine zD ?_;refine aY (cs := #[.int .u64 0,.int .u64 0]) ?_ 0 _ rfl;refine zD ?_;refine iI ?_ uh.out _;refine zD ?_;refine iI ?_ uh.out _;refine zD ?_;exact uG.out) Tryz.underlying179 rfl (by kernel_rfl)) rfl ?_
  exact ⟨zS,zB⟩
end Go.Proofs.YtpondkggmcmpfaaGreatDoor.QA
namespace Go.Proofs.YtpondkggmcmpfaaGreatDoor.QA
open Go.Proofs.YtpondkggmcmpfaaGreatDoor.T
open Go.RowKit Go.Proofs.YtpondkggmcmpfaaGreatDoorW.PrintWords Go.Proofs.YtpondkggmcmpfaaGreatDoorW.PrintLast Go.Proofs.YtpondkggmcmpfaaGreatDoorW.PrintMore
attribute [local go_sem] dY dS dU fA fB
set_option linter.unusedVariables false
set_option linter.unusedSimpArgs false
def fC.l0:Nat→Int→Int→Int→Int→Int→Int→Int→Int→Option (Int × Int × Int)
 | 0,_,_,_,_,_,_,_,_=>none
 | k+1,x1,x8,ahu,ahv,alm,aln,arM,alo=>if x8≥0 then ((fF.f ahu ahv x8).bind fun ad3=>((dL.f arM alo ad3).bind fun aeV=>((dL.f alm aln 0).bind fun aiY=>((ig.f aeV.1 aeV.2 0 x1).bind fun aoN=>(if aoN=true then (fC.l0 k x1 (wrap64 (x8 - 1)) ahu ahv aiY.1 aiY.2 aeV.1 aeV.2) else ((jU.f aeV.1 aeV.2 0 x1).bind fun aqI=>(fC.l0 k x1 (wrap64 (x8 - 1)) ahu ahv aiY.1 (IntKind.u64.wrap (aiY.2+1)) aqI.1 aqI.2))))))) else (some (alm,aln,alo))
def fC.f (k:Nat) (bJ dB a1:Int):Option (Int × Int × Int):=if a1=0 then (some (0,0,0)) else (fC.l0 k a1 127 bJ dB 0 0 0 0)
set_option maxHeartbeats 8000000 in
set_option maxRecDepth 100000 in
theorem fC.calls (k:Nat) (bJ dB a1 r1 r2 r3:Int) (w:World) (h:fC.f k bJ dB a1=some (r1,r2,r3)) :
  Calls Tryz.prog 172 #[.agg #[.int .u64 bJ,.int .u64 dB],.int .u64 a1] w fun e w'=>e = .returned (.tuple #[.agg #[.int .u64 r1,.int .u64 r2],.int .u64 r3])∧Below w.heap.size w w':=by
 have xI:=Tryz.underlying179
 have HB:=aj.mk (Below.refl w.heap.size w)
 have H:=h
 clear h
 unfold fC.f at H
 by_cases c3:a1=0
 ·rw [if_pos c3] at H
  have fQ:(a1 == 0)=true:=beq_iff_eq.mpr c3
  have wS:(a1 != 0)=false:=bne_eq_false_iff_eq.mpr c3
  clear c3
  simp only [Option.some.injEq,Prod.mk.injEq] at H
  obtain ⟨rfl,rfl,rfl⟩:=H
  go_enter Tryz.func172,Tryz.ntmps172
  go_wp2_with (first|((with_reducible refine bK (N:=2) rfl ?_);refine bT zR (N:=2) zR (cs := #[.int .u64 bJ,.int .u64 dB]) (t:=179) zG ?_;intro aeW hg w4 hbox hb;obtain ⟨HB,eX,atT,atU⟩:=zA4 (ak zB hb) hbox (zg hg zB) (zg hg zB);clear hb hbox hg)|((with_reducible refine bK (N:=4) rfl ?_);refine bT zR (N:=4) zR (cs := #[.int .u64 0,.int .u64 0]) (t:=179) zG ?_;intro vT hg w5 hbox hb;obtain ⟨eX,HB,gQ,atV,atW,abP,abQ⟩:=zA7 (ay (zK eX) hb) (ak zB hb) hbox (zg hg zB) (zg hg zB) (zl hg (zK eX)) (zr hg (zK eX));clear hb hbox hg)|((with_reducible refine bK (N:=6) rfl ?_);refine bT zR (N:=6) zR (cs := #[.int .u64 0,.int .u64 0]) (t:=179) zG ?_;intro sJ hg w6 hbox hb;obtain ⟨eX,gQ,HB,gy,atX,atY,aav,aaw,wG,pz⟩:=adI (ay (zK eX) hb) (ay (zK gQ) hb) (ak zB hb) hbox (zg hg zB) (zg hg zB) (zl hg (zK eX)) (zr hg (zK eX)) (zl hg (zK gQ)) (zr hg (zK gQ));clear hb hbox hg;have asx:=aaw.out;have asy:=aav.out;have asz:=pz.out;have asA:=wG.out;obtain ⟨_,_⟩:=zC2 gy.out;obtain ⟨_,_⟩:=zF2 gy.out)|((with_reducible refine bK (N:=7) rfl ?_);refine bT zR (N:=7) zR (cs := #[.int .u64 0,.int .u64 0]) (t:=179) zG ?_;intro qL hg w10 hbox hb;obtain ⟨eX,gQ,gy,HB,fD,atZ,at1,rG,rH,nJ,lC,pF,qw⟩:=afq (ay (zK eX) hb) (ay (zK gQ) hb) (ay (g:=sJ) (o := .cells #[.int .u64 0,.int .u64 0] 179 (0,0)) (by refine zD ?_;refine aY (cs := #[.int .u64 0,.int .u64 0]) ?_ 1 _ rfl;refine zD ?_;refine aY (cs := #[.int .u64 0,.int .u64 0]) ?_ 0 _ rfl;refine zD ?_;exact gy.out) hb) (ak zB hb) hbox (zg hg zB) (zg hg zB) (zl hg (zK eX)) (zr hg (zK eX)) (zl hg (zK gQ)) (zr hg (zK gQ)) ((by rw [hg];exact Nat.ne_of_lt (dJ (g:=sJ) (o := .cells #[.int .u64 0,.int .u64 0] 179 (0,0)) (by refine zD ?_;refine aY (cs := #[.int .u64 0,.int .u64 0]) ?_ 1 _ rfl;refine zD ?_;refine aY (cs := #[.int .u64 0,.int .u64 0]) ?_ 0 _ rfl;refine zD ?_;exact gy.out)):sJ≠qL)) ((by rw [hg];exact Nat.ne_of_gt (dJ (g:=sJ) (o := .cells #[.int .u64 0,.int .u64 0] 179 (0,0)) (by refine zD ?_;refine aY (cs := #[.int .u64 0,.int .u64 0]) ?_ 1 _ rfl;refine zD ?_;refine aY (cs := #[.int .u64 0,.int .u64 0]) ?_ 0 _ rfl;refine zD ?_;exact gy.out)):qL≠sJ));clear hb hbox hg;have at6:=rH.out;have at7:=rG.out;have aua:=lC.out;have aub:=nJ.out;have amg:=qw.out;have amh:=pF.out;obtain ⟨_,_⟩:=zC2 fD.out;obtain ⟨_,_⟩:=zF2 fD.out;obtain ⟨_,_⟩:=zC2 gy.out;obtain ⟨_,_⟩:=zF2 gy.out;have auc:=abQ.out;have aud:=abP.out;obtain ⟨_,_⟩:=zC2 gQ.out;obtain ⟨_,_⟩:=zF2 gQ.out))
  refine bodyPost_ret (agd rfl _ _ vT 179 #[.int .u64 0,.int .u64 0] (0,0) _ rfl (by refine zD ?_;refine aY (cs := #[.int .u64 0,.int .u64 0]) ?_ 1 _ rfl;refine zD ?_;refine aY (cs := #[.int .u64 0,.int .u64 0]) ?_ 0 _ rfl;refine zD ?_;refine iI ?_ nJ.out _;refine zD ?_;refine iI ?_ nJ.out _;refine zD ?_;exact gQ.out) Tryz.underlying179 rfl (by kernel_rfl)) rfl ?_
  exact ⟨zS,zB⟩
 ·rw [if_neg c3] at H
  have fQ:(a1 == 0)=false:=beq_eq_false_iff_ne.mpr c3
  have wS:(a1 != 0)=true:=bne_iff_ne.mpr c3
  have H':=aj.mk H
  clear H
  go_enter Tryz.func172,Tryz.ntmps172
  go_wp2_with (first|((with_reducible refine bK (N:=2) rfl ?_);refine bT zR (N:=2) zR (cs := #[.int .u64 bJ,.int .u64 dB]) (t:=179) zG ?_;intro aeW hg w18 hbox hb;obtain ⟨HB,eX,atT,atU⟩:=zA4 (ak zB hb) hbox (zg hg zB) (zg hg zB);clear hb hbox hg)|((with_reducible refine bK (N:=4) rfl ?_);refine bT zR (N:=4) zR (cs := #[.int .u64 0,.int .u64 0]) (t:=179) zG ?_;intro vT hg w19 hbox hb;obtain ⟨eX,HB,gQ,atV,atW,abP,abQ⟩:=zA7 (ay (zK eX) hb) (ak zB hb) hbox (zg hg zB) (zg hg zB) (zl hg (zK eX)) (zr hg (zK eX));clear hb hbox hg)|((with_reducible refine bK (N:=6) rfl ?_);refine bT zR (N:=6) zR (cs := #[.int .u64 0,.int .u64 0]) (t:=179) zG ?_;intro sJ hg w20 hbox hb;obtain ⟨eX,gQ,HB,gy,atX,atY,aav,aaw,wG,pz⟩:=adI (ay (zK eX) hb) (ay (zK gQ) hb) (ak zB hb) hbox (zg hg zB) (zg hg zB) (zl hg (zK eX)) (zr hg (zK eX)) (zl hg (zK gQ)) (zr hg (zK gQ));clear hb hbox hg;have ayv:=aaw.out;have ayw:=aav.out;have aqJ:=pz.out;have aqK:=wG.out;obtain ⟨_,_⟩:=zC2 gy.out;obtain ⟨_,_⟩:=zF2 gy.out)|((with_reducible refine bK (N:=7) rfl ?_);refine bT zR (N:=7) zR (cs := #[.int .u64 0,.int .u64 0]) (t:=179) zG ?_;intro qL hg w24 hbox hb;obtain ⟨eX,gQ,gy,HB,fD,atZ,at1,rG,rH,nJ,lC,pF,qw⟩:=afq (ay (zK eX) hb) (ay (zK gQ) hb) (ay (g:=sJ) (o := .cells #[.int .u64 0,.int .u64 0] 179 (0,0)) (by refine zD ?_;refine aY (cs := #[.int .u64 0,.int .u64 0]) ?_ 1 _ rfl;refine zD ?_;refine aY (cs := #[.int .u64 0,.int .u64 0]) ?_ 0 _ rfl;refine zD ?_;exact gy.out) hb) (ak zB hb) hbox (zg hg zB) (zg hg zB) (zl hg (zK eX)) (zr hg (zK eX)) (zl hg (zK gQ)) (zr hg (zK gQ)) ((by rw [hg];exact Nat.ne_of_lt (dJ (g:=sJ) (o := .cells #[.int .u64 0,.int .u64 0] 179 (0,0)) (by refine zD ?_;refine aY (cs := #[.int .u64 0,.int .u64 0]) ?_ 1 _ rfl;refine zD ?_;refine aY (cs := #[.int .u64 0,.int .u64 0]) ?_ 0 _ rfl;refine zD ?_;exact gy.out)):sJ≠qL)) ((by rw [hg];exact Nat.ne_of_gt (dJ (g:=sJ) (o := .cells #[.int .u64 0,.int .u64 0] 179 (0,0)) (by refine zD ?_;refine aY (cs := #[.int .u64 0,.int .u64 0]) ?_ 1 _ rfl;refine zD ?_;refine aY (cs := #[.int .u64 0,.int .u64 0]) ?_ 0 _ rfl;refine zD ?_;exact gy.out)):qL≠sJ));clear hb hbox hg;have aue:=rH.out;have auf:=rG.out;have atQ:=lC.out;have atS:=nJ.out;have ayx:=qw.out;have ayy:=pF.out;obtain ⟨_,_⟩:=zC2 fD.out;obtain ⟨_,_⟩:=zF2 fD.out))
  go_loopg [8] k (fun kq v8 w'=>∃ (gZ:Int) (oD:Int) (nK:Int) (mg:Int) (kP:Int),v8 = .int .i64 gZ∧aj (fC.l0 kq a1 gZ bJ dB oD nK mg kP=some (r1,r2,r3))∧aj (kq≤k)∧aj (w'.heap[aeW]? = some (.cells #[.int .u64 bJ,.int .u64 dB] 179 (0,0)))∧aj (w'.heap[vT]? = some (.cells #[.int .u64 0,.int .u64 0] 179 (0,0)))∧aj (w'.heap[sJ]? = some (.cells #[.int .u64 oD,.int .u64 nK] 179 (0,0)))∧aj (w'.heap[qL]? = some (.cells #[.int .u64 mg,.int .u64 kP] 179 (0,0)))∧aj (Below w.heap.size w w'))
  case atStart=>exact ⟨(127),(0),(0),(0),(0),zT,H',⟨Nat.le_refl _⟩,⟨zK eX⟩,⟨zK gQ⟩,⟨zK gy⟩,⟨by refine zD ?_;refine aY (cs := #[.int .u64 0,.int .u64 0]) ?_ 1 _ rfl;refine zD ?_;refine aY (cs := #[.int .u64 0,.int .u64 0]) ?_ 0 _ rfl;refine zD ?_;exact fD.out⟩,⟨zB⟩⟩
  case round =>
   clear H'
   obtain ⟨gZ,oD,nK,mg,kP,rfl,HA,HK1,eX,gQ,gy,fD,HB⟩:=hrel
   cases gk with
   | zero=>exact absurd HA.out (by simp [fC.l0])
   | succ k1 =>
    have H:=HA.out
    clear HA
    simp only [fC.l0] at H
    by_cases c29:gZ≥0
    ·rw [if_pos c29] at H
     have amm:=decide_eq_true c29
     clear c29
     replace H:=zO H
     obtain ⟨ad3,A30,H⟩:=H
     try dsimp only at H
     replace H:=zO H
     obtain ⟨⟨yM,zH⟩,A31,H⟩:=H
     try dsimp only at H
     replace H:=zO H
     obtain ⟨⟨ac2,afE⟩,A32,H⟩:=H
     try dsimp only at H
     replace H:=zO H
     obtain ⟨aoN,A33,H⟩:=H
     try dsimp only at H
     by_cases c34:aoN=true
     ·subst c34
      rw [if_pos rfl] at H;try dsimp only at H
      have H':=aj.mk H
      clear H
      try go_wp2
      obtain ⟨eX,gQ,gy,fD,HB⟩:=zA5 (jv eX.out) (jv gQ.out) (jv gy.out) (jv fD.out) (bg HB.out)
      refine acw (n:=6) (S:=fun w'=>w'.cell? ⟨qL,0,none⟩=some (.int .u64 mg)∧w'.cell? ⟨qL,1,none⟩=some (.int .u64 kP)∧w'.cell? ⟨aeW,0,none⟩=some (.int .u64 bJ)∧w'.cell? ⟨aeW,1,none⟩=some (.int .u64 dB)) (ds:=[5]) #[false,false,false,false,false,false] (by kernel_rfl) rfl rfl ⟨(au fD.out 0).trans rfl,(au fD.out 1).trans rfl,(au eX.out 0).trans rfl,(au eX.out 1).trans rfl⟩ (fun hHeld => ?_)
      generalize wr.drew=w35 at eX gQ gy fD HB hHeld ⊢
      refine xG (i:=2) (N:=some 20) (v := ?_) (a' := ?_) #[false,false,true,false,false,false] rfl rfl (by kernel_rfl) (fun _ _ _ h=>h) (Or.inl ⟨by rfl,?_⟩) ?_ ?_
      rotate_left
      ·intro w'
       go_simp
       with_reducible rfl
      rotate_left
      ·simp only [Act.put,List.setIfInBounds_toArray,List.set_cons_zero,List.set_cons_succ,bW,dA]
       rfl
      refine yE (i:=0) (N:=some 18) (v := ?_) (a' := ?_) #[true,false,true,false,false,false] rfl rfl (by kernel_rfl) (fun _ _ _ h=>h) (Or.inl ⟨by rfl,?_⟩) hHeld ?_ ?_
      rotate_left
      ·rintro w' ⟨s0,s1,s2,s3⟩
       go_simp
       with_reducible rfl
      rotate_left
      ·simp only [Act.put,List.setIfInBounds_toArray,List.set_cons_zero,List.set_cons_succ,bW,dA]
       rfl
      refine yE (i:=1) (N:=some 19) (v := ?_) (a' := ?_) #[true,true,true,false,false,false] rfl rfl (by kernel_rfl) (fun _ _ _ h=>h) (Or.inl ⟨by rfl,?_⟩) hHeld ?_ ?_
      rotate_left
      ·rintro w' ⟨s0,s1,s2,s3⟩
       go_simp
       with_reducible rfl
      rotate_left
      ·simp only [Act.put,List.setIfInBounds_toArray,List.set_cons_zero,List.set_cons_succ,bW,dA]
       rfl
      refine abj (i:=3) (N:=some 21) #[true,true,true,true,false,false] rfl rfl (by kernel_rfl) (by decide) (fun K hK => ?_)
      refine aaf Tryz.func121 (by kernel_rfl) rfl #[.agg #[.int .u64 bJ,.int .u64 dB],.int .i64 gZ] (by rfl) rfl rfl zL ?_
      with_reducible refine (fF.calls bJ dB gZ ad3 _ A30.out).mono ?_
      rintro e w36 ⟨rfl,hb⟩
      refine ⟨_,rfl,?_⟩
      obtain ⟨eX,gQ,gy,fD,HB⟩:=zA5 (ay (zK eX) hb) (ay (zK gQ) hb) (ay (zK gy) hb) (ay (zK fD) hb) (ak zB hb)
      (try clear hb)
      (try clear hb2)
      (try clear hk)
      (try clear hi)
      refine hK.out _ _ ⟨(au fD.out 0).trans rfl,(au fD.out 1).trans rfl,(au eX.out 0).trans rfl,(au eX.out 1).trans rfl⟩ (fun hHeld => ?_)
      clear hK K
      refine aae (a' := ?_) ?_ ?_
      rotate_left
      ·show Act.put _ (some 21) _=_
       simp only [Act.put,List.setIfInBounds_toArray,List.set_cons_zero,List.set_cons_succ,bW,dA]
       rfl
      refine abj (i:=4) (N:=some 22) #[true,true,true,true,true,false] rfl rfl (by kernel_rfl) (by decide) (fun K hK => ?_)
      refine aaf Tryz.func119 (by kernel_rfl) rfl #[.agg #[.int .u64 mg,.int .u64 kP],.int .u64 ad3] (by rfl) rfl rfl zL ?_
      with_reducible refine (dL.calls mg kP ad3 yM zH _ A31.out).mono ?_
      rintro e w37 ⟨rfl,hb⟩
      refine ⟨_,rfl,?_⟩
      obtain ⟨eX,gQ,gy,fD,HB⟩:=zA5 (ay (zK eX) hb) (ay (zK gQ) hb) (ay (zK gy) hb) (ay (zK fD) hb) (ak zB hb)
      (try clear hb)
      (try clear hb2)
      (try clear hk)
      (try clear hi)
      refine hK.out _ _ ⟨(au fD.out 0).trans rfl,(au fD.out 1).trans rfl,(au eX.out 0).trans rfl,(au eX.out 1).trans rfl⟩ (fun hHeld => ?_)
      clear hK K
      refine aae (a' := ?_) ?_ ?_
      rotate_left
      ·show Act.put _ (some 22) _=_
       simp only [Act.put,List.setIfInBounds_toArray,List.set_cons_zero,List.set_cons_succ,bW,dA]
       rfl
      refine aiV (i:=5) (N:=none) #[true,true,true,true,true,true] rfl rfl (by kernel_rfl) (by decide) (fun K hK => ?_)
      have aAT:w37.cell? ⟨qL,0,none⟩=some (.int .u64 mg):=(au fD.out 0).trans rfl
      have ayz:=aN fD.out 0
      have aw7:=rG.out
      have aw8:=nJ.out
      have aw9:=pF.out
      have axa:=rH.out
      have axb:=lC.out
      have axc:=qw.out
      have aAU:w37.cell? ⟨qL,1,none⟩=some (.int .u64 kP):=(au fD.out 1).trans rfl
      have ayA:=aN fD.out 1
      have axd:=rG.out
      have axe:=nJ.out
      have axf:=pF.out
      have axg:=rH.out
      have axh:=lC.out
      have axi:=qw.out
      refine agc (w1 := ?_) (by rfl) rfl ?_ ?_
      rotate_left
      ·go_simp
       rfl
      refine hK.out _ _ ?_
      clear hK K
      refine aeN (by kernel_rfl) ?_
      have aqL:=aaw.out
      have aqM:=aav.out
      have aug:=pz.out
      have auh:=wG.out
      have ayB:=pF.out
      have ayC:=qw.out
      obtain ⟨_,_⟩:=zC2 gy.out
      obtain ⟨_,_⟩:=zF2 gy.out
      try go_wp2_with (first|((with_reducible refine aA (f:=119) rfl ?_);refine aH (some 24) rfl rfl Tryz.func119 (by kernel_rfl) rfl #[.agg #[.int .u64 oD,.int .u64 nK],.int .u64 0] rfl zL ?_;(with_reducible refine (dL.calls oD nK 0 ac2 afE _ A32.out).mono ?_);rintro e w44 ⟨rfl,hb⟩;refine ⟨_,rfl,?_⟩;obtain ⟨eX,gQ,gy,fD,HB⟩:=zA5 (ay (zK eX) hb) (ay (zK gQ) hb) (ay (zK gy) hb) (ay (g:=qL) (o := .cells #[.int .u64 yM,.int .u64 zH] 179 (0,0)) (by refine zD ?_;refine aY (cs := #[.int .u64 yM,.int .u64 kP]) ?_ 1 _ rfl;refine zD ?_;refine aY (cs := #[.int .u64 mg,.int .u64 kP]) ?_ 0 _ rfl;refine zD ?_;exact fD.out) hb) (ak zB hb);(try clear hb);obtain ⟨_,_⟩:=zC2 gy.out;obtain ⟨_,_⟩:=zF2 gy.out;have aqN:=rH.out;have aqO:=rG.out;have aui:=lC.out;have auj:=nJ.out;obtain ⟨_,_⟩:=zC2 fD.out;obtain ⟨_,_⟩:=zF2 fD.out)|((with_reducible refine aA (f:=123) rfl ?_);refine aH (some 28) rfl rfl Tryz.func123 (by kernel_rfl) rfl #[.agg #[.int .u64 yM,.int .u64 zH],.agg #[.int .u64 0,.int .u64 a1]] rfl zL ?_;(with_reducible refine (ig.calls yM zH 0 a1 true _ A33.out).mono ?_);rintro e w49 ⟨rfl,hb⟩;refine ⟨_,rfl,?_⟩;obtain ⟨eX,gQ,gy,fD,HB⟩:=zA5 (ay (zK eX) hb) (ay (zK gQ) hb) (ay (g:=sJ) (o := .cells #[.int .u64 ac2,.int .u64 afE] 179 (0,0)) (by refine zD ?_;refine aY (cs := #[.int .u64 ac2,.int .u64 nK]) ?_ 1 _ rfl;refine zD ?_;refine aY (cs := #[.int .u64 oD,.int .u64 nK]) ?_ 0 _ rfl;refine zD ?_;exact gy.out) hb) (ay (zK fD) hb) (ak zB hb);(try clear hb)))
      go_roundg k1
      case measure=>have:=HK1.out;omega
      case rel=>exact ⟨(wrap64 (gZ - 1)),(ac2),(afE),(yM),(zH),zT,H',⟨by have:=HK1.out;omega⟩,⟨zK eX⟩,⟨zK gQ⟩,⟨zK gy⟩,⟨zK fD⟩,⟨zB⟩⟩
     ·replace c34:=Bool.eq_false_iff.mpr c34
      subst c34
      rw [if_neg (show ¬ (false=true) by decide)] at H;try dsimp only at H
      replace H:=zO H
      obtain ⟨⟨aoO,asB⟩,A50,H⟩:=H
      try dsimp only at H
      have H':=aj.mk H
      clear H
      try go_wp2
      obtain ⟨eX,gQ,gy,fD,HB⟩:=zA5 (jv eX.out) (jv gQ.out) (jv gy.out) (jv fD.out) (bg HB.out)
      refine acw (n:=6) (S:=fun w'=>w'.cell? ⟨qL,0,none⟩=some (.int .u64 mg)∧w'.cell? ⟨qL,1,none⟩=some (.int .u64 kP)∧w'.cell? ⟨aeW,0,none⟩=some (.int .u64 bJ)∧w'.cell? ⟨aeW,1,none⟩=some (.int .u64 dB)) (ds:=[5]) #[false,false,false,false,false,false] (by kernel_rfl) rfl rfl ⟨(au fD.out 0).trans rfl,(au fD.out 1).trans rfl,(au eX.out 0).trans rfl,(au eX.out 1).trans rfl⟩ (fun hHeld => ?_)
      generalize wr.drew=w51 at eX gQ gy fD HB hHeld ⊢
      refine xG (i:=2) (N:=some 20) (v := ?_) (a' := ?_) #[false,false,true,false,false,false] rfl rfl (by kernel_rfl) (fun _ _ _ h=>h) (Or.inl ⟨by rfl,?_⟩) ?_ ?_
      rotate_left
      ·intro w'
       go_simp
       with_reducible rfl
      rotate_left
      ·simp only [Act.put,List.setIfInBounds_toArray,List.set_cons_zero,List.set_cons_succ,bW,dA]
       rfl
      refine yE (i:=0) (N:=some 18) (v := ?_) (a' := ?_) #[true,false,true,false,false,false] rfl rfl (by kernel_rfl) (fun _ _ _ h=>h) (Or.inl ⟨by rfl,?_⟩) hHeld ?_ ?_
      rotate_left
      ·rintro w' ⟨s0,s1,s2,s3⟩
       go_simp
       with_reducible rfl
      rotate_left
      ·simp only [Act.put,List.setIfInBounds_toArray,List.set_cons_zero,List.set_cons_succ,bW,dA]
       rfl
      refine yE (i:=1) (N:=some 19) (v := ?_) (a' := ?_) #[true,true,true,false,false,false] rfl rfl (by kernel_rfl) (fun _ _ _ h=>h) (Or.inl ⟨by rfl,?_⟩) hHeld ?_ ?_
      rotate_left
      ·rintro w' ⟨s0,s1,s2,s3⟩
       go_simp
       with_reducible rfl
      rotate_left
      ·simp only [Act.put,List.setIfInBounds_toArray,List.set_cons_zero,List.set_cons_succ,bW,dA]
       rfl
      refine abj (i:=3) (N:=some 21) #[true,true,true,true,false,false] rfl rfl (by kernel_rfl) (by decide) (fun K hK => ?_)
      refine aaf Tryz.func121 (by kernel_rfl) rfl #[.agg #[.int .u64 bJ,.int .u64 dB],.int .i64 gZ] (by rfl) rfl rfl zL ?_
      with_reducible refine (fF.calls bJ dB gZ ad3 _ A30.out).mono ?_
      rintro e w52 ⟨rfl,hb⟩
      refine ⟨_,rfl,?_⟩
      obtain ⟨eX,gQ,gy,fD,HB⟩:=zA5 (ay (zK eX) hb) (ay (zK gQ) hb) (ay (zK gy) hb) (ay (zK fD) hb) (ak zB hb)
      (try clear hb)
      (try clear hb2)
      (try clear hk)
      (try clear hi)
      refine hK.out _ _ ⟨(au fD.out 0).trans rfl,(au fD.out 1).trans rfl,(au eX.out 0).trans rfl,(au eX.out 1).trans rfl⟩ (fun hHeld => ?_)
      clear hK K
      refine aae (a' := ?_) ?_ ?_
      rotate_left
      ·show Act.put _ (some 21) _=_
       simp only [Act.put,List.setIfInBounds_toArray,List.set_cons_zero,List.set_cons_succ,bW,dA]
       rfl
      refine abj (i:=4) (N:=some 22) #[true,true,true,true,true,false] rfl rfl (by kernel_rfl) (by decide) (fun K hK => ?_)
      refine aaf Tryz.func119 (by kernel_rfl) rfl #[.agg #[.int .u64 mg,.int .u64 kP],.int .u64 ad3] (by rfl) rfl rfl zL ?_
      with_reducible refine (dL.calls mg kP ad3 yM zH _ A31.out).mono ?_
      rintro e w53 ⟨rfl,hb⟩
      refine ⟨_,rfl,?_⟩
      obtain ⟨eX,gQ,gy,fD,HB⟩:=zA5 (ay (zK eX) hb) (ay (zK gQ) hb) (ay (zK gy) hb) (ay (zK fD) hb) (ak zB hb)
      (try clear hb)
      (try clear hb2)
      (try clear hk)
      (try clear hi)
      refine hK.out _ _ ⟨(au fD.out 0).trans rfl,(au fD.out 1).trans rfl,(au eX.out 0).trans rfl,(au eX.out 1).trans rfl⟩ (fun hHeld => ?_)
      clear hK K
      refine aae (a' := ?_) ?_ ?_
      rotate_left
      ·show Act.put _ (some 22) _=_
       simp only [Act.put,List.setIfInBounds_toArray,List.set_cons_zero,List.set_cons_succ,bW,dA]
       rfl
      refine aiV (i:=5) (N:=none) #[true,true,true,true,true,true] rfl rfl (by kernel_rfl) (by decide) (fun K hK => ?_)
      have aAV:w53.cell? ⟨qL,0,none⟩=some (.int .u64 mg):=(au fD.out 0).trans rfl
      have ayD:=aN fD.out 0
      have axj:=rG.out
      have axk:=nJ.out
      have axl:=pF.out
      have axn:=rH.out
      have axo:=lC.out
      have axp:=qw.out
      have aAW:w53.cell? ⟨qL,1,none⟩=some (.int .u64 kP):=(au fD.out 1).trans rfl
      have ayE:=aN fD.out 1
      have axq:=rG.out
      have axr:=nJ.out
      have axt:=pF.out
      have axu:=rH.out
      have axv:=lC.out
      have axw:=qw.out
      refine agc (w1 := ?_) (by rfl) rfl ?_ ?_
      rotate_left
      ·go_simp
       rfl
      refine hK.out _ _ ?_
      clear hK K
      refine aeN (by kernel_rfl) ?_
      have ayF:=aaw.out
      have ayG:=aav.out
      have ayH:=pz.out
      have ayI:=wG.out
      have auk:=pF.out
      have aul:=qw.out
      obtain ⟨_,_⟩:=zC2 gy.out
      obtain ⟨_,_⟩:=zF2 gy.out
      try go_wp2_with (first|((with_reducible refine aA (f:=119) rfl ?_);refine aH (some 24) rfl rfl Tryz.func119 (by kernel_rfl) rfl #[.agg #[.int .u64 oD,.int .u64 nK],.int .u64 0] rfl zL ?_;(with_reducible refine (dL.calls oD nK 0 ac2 afE _ A32.out).mono ?_);rintro e w60 ⟨rfl,hb⟩;refine ⟨_,rfl,?_⟩;obtain ⟨eX,gQ,gy,fD,HB⟩:=zA5 (ay (zK eX) hb) (ay (zK gQ) hb) (ay (zK gy) hb) (ay (g:=qL) (o := .cells #[.int .u64 yM,.int .u64 zH] 179 (0,0)) (by refine zD ?_;refine aY (cs := #[.int .u64 yM,.int .u64 kP]) ?_ 1 _ rfl;refine zD ?_;refine aY (cs := #[.int .u64 mg,.int .u64 kP]) ?_ 0 _ rfl;refine zD ?_;exact fD.out) hb) (ak zB hb);(try clear hb);obtain ⟨_,_⟩:=zC2 gy.out;obtain ⟨_,_⟩:=zF2 gy.out;have aum:=rH.out;have aun:=rG.out;have auo:=lC.out;have aup:=nJ.out;obtain ⟨_,_⟩:=zC2 fD.out;obtain ⟨_,_⟩:=zF2 fD.out)|((with_reducible refine aA (f:=123) rfl ?_);refine aH (some 28) rfl rfl Tryz.func123 (by kernel_rfl) rfl #[.agg #[.int .u64 yM,.int .u64 zH],.agg #[.int .u64 0,.int .u64 a1]] rfl zL ?_;(with_reducible refine (ig.calls yM zH 0 a1 false _ A33.out).mono ?_);rintro e w65 ⟨rfl,hb⟩;refine ⟨_,rfl,?_⟩;obtain ⟨eX,gQ,gy,fD,HB⟩:=zA5 (ay (zK eX) hb) (ay (zK gQ) hb) (ay (g:=sJ) (o := .cells #[.int .u64 ac2,.int .u64 afE] 179 (0,0)) (by refine zD ?_;refine aY (cs := #[.int .u64 ac2,.int .u64 nK]) ?_ 1 _ rfl;refine zD ?_;refine aY (cs := #[.int .u64 oD,.int .u64 nK]) ?_ 0 _ rfl;refine zD ?_;exact gy.out) hb) (ay (zK fD) hb) (ak zB hb);(try clear hb);obtain ⟨_,_⟩:=zC2 fD.out;obtain ⟨_,_⟩:=zF2 fD.out)|((with_reducible refine aA (f:=122) rfl ?_);refine aH (some 33) rfl rfl Tryz.func122 (by kernel_rfl) rfl #[.agg #[.int .u64 yM,.int .u64 zH],.agg #[.int .u64 0,.int .u64 a1]] rfl zL ?_;(with_reducible refine (jU.calls yM zH 0 a1 aoO asB _ A50.out).mono ?_);rintro e w67 ⟨rfl,hb⟩;refine ⟨_,rfl,?_⟩;obtain ⟨eX,gQ,gy,fD,HB⟩:=zA5 (ay (zK eX) hb) (ay (zK gQ) hb) (ay (zK gy) hb) (ay (zK fD) hb) (ak zB hb);(try clear hb);obtain ⟨_,_⟩:=zC2 fD.out;obtain ⟨_,_⟩:=zF2 fD.out;obtain ⟨_,_⟩:=zC2 gy.out;obtain ⟨_,_⟩:=zF2 gy.out))
      go_roundg k1
      case measure=>have:=HK1.out;omega
      case rel=>exact ⟨(wrap64 (gZ - 1)),(ac2),(IntKind.u64.wrap (afE+1)),(aoO),(asB),zT,H',⟨by have:=HK1.out;omega⟩,⟨zK eX⟩,⟨zK gQ⟩,⟨by refine zD ?_;refine aY (cs := #[.int .u64 ac2,.int .u64 afE]) ?_ 1 _ rfl;refine zD ?_;refine iI ?_ pF.out _;refine zD ?_;refine iI ?_ pF.out _;refine zD ?_;exact gy.out⟩,⟨by refine zD ?_;refine iI ?_ qw.out _;refine zD ?_;refine aY (cs := #[.int .u64 aoO,.int .u64 zH]) ?_ 1 _ rfl;refine zD ?_;refine aY (cs := #[.int .u64 yM,.int .u64 zH]) ?_ 0 _ rfl;refine zD ?_;exact fD.out⟩,⟨zB⟩⟩
    ·rw [if_neg c29] at H
     have amm:=decide_eq_false c29
     clear c29
     simp only [Option.some.injEq,Prod.mk.injEq] at H
     obtain ⟨rfl,rfl,rfl⟩:=H
     try go_wp2
     obtain ⟨eX,gQ,gy,fD,HB⟩:=zA5 (jv eX.out) (jv gQ.out) (jv gy.out) (jv fD.out) (bg HB.out)
     refine acw (n:=5) (S:=fun w'=>w'.cell? ⟨sJ,0,none⟩=some (.int .u64 oD)∧w'.cell? ⟨sJ,1,none⟩=some (.int .u64 nK)∧w'.cell? ⟨qL,0,none⟩=some (.int .u64 mg)∧w'.cell? ⟨qL,1,none⟩=some (.int .u64 kP)) (ds:=[]) #[false,false,false,false,false] (by kernel_rfl) rfl rfl ⟨(au gy.out 0).trans rfl,(au gy.out 1).trans rfl,(au fD.out 0).trans rfl,(au fD.out 1).trans rfl⟩ (fun hHeld => ?_)
     generalize wr.drew=w70 at eX gQ gy fD HB hHeld ⊢
     refine xG (i:=1) (N:=some 39) (v := ?_) (a' := ?_) #[false,true,false,false,false] rfl rfl (by kernel_rfl) (fun _ _ _ h=>h) (Or.inl ⟨by rfl,?_⟩) ?_ ?_
     rotate_left
     ·intro w'
      go_simp
      with_reducible rfl
     rotate_left
     ·simp only [Act.put,List.setIfInBounds_toArray,List.set_cons_zero,List.set_cons_succ,bW,dA]
      rfl
     refine yE (i:=0) (N:=some 38) (v := ?_) (a' := ?_) #[true,true,false,false,false] rfl rfl (by kernel_rfl) (fun _ _ _ h=>h) (Or.inl ⟨by rfl,?_⟩) hHeld ?_ ?_
     rotate_left
     ·rintro w' ⟨s0,s1,s2,s3⟩
      go_simp
      with_reducible rfl
     rotate_left
     ·simp only [Act.put,List.setIfInBounds_toArray,List.set_cons_zero,List.set_cons_succ,bW,dA]
      rfl
     refine yE (i:=2) (N:=some 40) (v := ?_) (a' := ?_) #[true,true,true,false,false] rfl rfl (by kernel_rfl) (fun _ _ _ h=>h) (Or.inl ⟨by rfl,?_⟩) hHeld ?_ ?_
     rotate_left
     ·rintro w' ⟨s0,s1,s2,s3⟩
      go_simp
      with_reducible rfl
     rotate_left
     ·simp only [Act.put,List.setIfInBounds_toArray,List.set_cons_zero,List.set_cons_succ,bW,dA]
      rfl
     refine abj (i:=3) (N:=none) #[true,true,true,true,false] rfl rfl (by kernel_rfl) (by decide) (fun K hK => ?_)
     have aAX:w70.cell? ⟨vT,0,none⟩=some (.int .u64 0):=(au gQ.out 0).trans rfl
     have ayJ:=aN gQ.out 0
     have axx:=abP.out
     have axy:=pz.out
     have axz:=lC.out
     have axA:=abQ.out
     have axB:=wG.out
     have axC:=nJ.out
     have aAY:w70.cell? ⟨vT,1,none⟩=some (.int .u64 0):=(au gQ.out 1).trans rfl
     have ayK:=aN gQ.out 1
     have axD:=abP.out
     have axE:=pz.out
     have axF:=lC.out
     have axG:=abQ.out
     have axH:=wG.out
     have axI:=nJ.out
     refine agc (w1 := ?_) (by rfl) rfl ?_ ?_
     rotate_left
     ·go_simp
      rfl
     refine hK.out _ _ ⟨((cell_far (p:=⟨vT,_,none⟩) pz.out _).trans (((cell_far (p:=⟨vT,_,none⟩) pz.out _).trans (hHeld.1)))),((cell_far (p:=⟨vT,_,none⟩) pz.out _).trans (((cell_far (p:=⟨vT,_,none⟩) pz.out _).trans (hHeld.2.1)))),((cell_far (p:=⟨vT,_,none⟩) lC.out _).trans (((cell_far (p:=⟨vT,_,none⟩) lC.out _).trans (hHeld.2.2.1)))),((cell_far (p:=⟨vT,_,none⟩) lC.out _).trans (((cell_far (p:=⟨vT,_,none⟩) lC.out _).trans (hHeld.2.2.2))))⟩ (fun hHeld => ?_)
     clear hK K
     refine xG (i:=4) (N:=some 5) (v := ?_) (a' := ?_) #[true,true,true,true,true] rfl rfl (by kernel_rfl) (fun _ _ _ h=>h) (Or.inl ⟨by rfl,?_⟩) ?_ ?_
     rotate_left
     ·intro w'
      go_simp
      with_reducible rfl
     rotate_left
     ·simp only [Act.put,List.setIfInBounds_toArray,List.set_cons_zero,List.set_cons_succ,bW,dA]
      rfl
     refine aeN (by kernel_rfl) ?_
     try go_wp2
     refine bodyPost_ret (agd rfl _ _ vT 179 #[.int .u64 oD,.int .u64 nK] (0,0) _ rfl (by refine zD ?_;refine aY (cs := #[.int .u64 oD,.int .u64 0]) ?_ 1 _ rfl;refine zD ?_;refine aY (cs := #[.int .u64 0,.int .u64 0]) ?_ 0 _ rfl;refine zD ?_;exact gQ.out) Tryz.underlying179 rfl (by kernel_rfl)) rfl ?_
     exact ⟨zS,zB⟩
end Go.Proofs.YtpondkggmcmpfaaGreatDoor.QA
namespace Go.Proofs.YtpondkggmcmpfaaGreatDoor.QA
open Go.Proofs.YtpondkggmcmpfaaGreatDoor.T
open Go.RowKit Go.Proofs.YtpondkggmcmpfaaGreatDoorW.PrintWords Go.Proofs.YtpondkggmcmpfaaGreatDoorW.PrintLast Go.Proofs.YtpondkggmcmpfaaGreatDoorW.PrintMore
attribute [local go_sem] dY dS dU fA fB
set_option linter.unusedVariables false
set_option linter.unusedSimpArgs false
def gU.j0:Nat→Bool→Bool→Int→Int→Option (Int)
 | 0,_,_,_,_=>none
 | k+1,x2,x10,alp,alq=>if x10=true then ((gJ.f alp alq 0 1).bind fun aqP=>((bM.f k aqP.1 aqP.2 x2).bind fun aoP=>(some aoP))) else ((bM.f k alp alq x2).bind fun aoQ=>(some aoQ))
def gU.f (k:Nat) (bJ dB a1:Int) (a2:Bool):Option (Int):=(fC.f k bJ dB a1).bind fun agx=>((dL.f 0 agx.2.2 0).bind fun aiZ=>((ig.f aiZ.1 aiZ.2 0 a1).bind fun amn=>(if a2=true then ((ig.f 0 a1 aiZ.1 aiZ.2).bind fun amo=>(gU.j0 k a2 amo agx.1 agx.2.1)) else (gU.j0 k a2 (!amn) agx.1 agx.2.1))))
set_option maxHeartbeats 8000000 in
set_option maxRecDepth 100000 in
theorem gU.calls (k:Nat) (bJ dB a1:Int) (a2:Bool) (r:Int) (w:World) (h:gU.f k bJ dB a1 a2=some r) :
  Calls Tryz.prog 149 #[.agg #[.int .u64 bJ,.int .u64 dB],.int .u64 a1,.bool a2] w fun e w'=>e = .returned (.int .i64 r)∧Below w.heap.size w w':=by
 have xI:=Tryz.underlying179
 have HB:=aj.mk (Below.refl w.heap.size w)
 have H:=h
 clear h
 unfold gU.f at H
 replace H:=zO H
 obtain ⟨⟨acg,ach,aoR⟩,A4,H⟩:=H
 try dsimp only at H
 replace H:=zO H
 obtain ⟨⟨ad4,afF⟩,A5,H⟩:=H
 try dsimp only at H
 replace H:=zO H
 obtain ⟨amn,A6,H⟩:=H
 try dsimp only at H
 have HC7:=aj.mk H
 clear H
 go_enter Tryz.func149,Tryz.ntmps149
 go_upto_if 25 with (first|((with_reducible refine bK (N:=3) rfl ?_);refine bT zR (N:=3) zR (cs := #[.int .u64 bJ,.int .u64 dB]) (t:=179) zG ?_;intro auq hg w8 hbox hb;obtain ⟨HB,lM,ayL,ayM⟩:=zA4 (ak zB hb) hbox (zg hg zB) (zg hg zB);clear hb hbox hg;obtain ⟨_,_⟩:=zC2 lM.out;obtain ⟨_,_⟩:=zF2 lM.out)|((with_reducible refine aA (f:=172) rfl ?_);refine aH (some 14) rfl rfl Tryz.func172 (by kernel_rfl) rfl #[.agg #[.int .u64 bJ,.int .u64 dB],.int .u64 a1] rfl zL ?_;(with_reducible refine (fC.calls k bJ dB a1 acg ach aoR _ A4.out).mono ?_);rintro e w10 ⟨rfl,hb⟩;refine ⟨_,rfl,?_⟩;obtain ⟨lM,HB⟩:=zA2 (ay (zK lM) hb) (ak zB hb);(try clear hb))|((with_reducible refine bK (N:=7) rfl ?_);refine bT zR (N:=7) zR (cs := #[.int .u64 0,.int .u64 0]) (t:=179) zG ?_;intro amq hg w11 hbox hb;obtain ⟨lM,HB,lN,ayN,ayO,ad5,ad6⟩:=zA7 (ay (zK lM) hb) (ak zB hb) hbox (zg hg zB) (zg hg zB) (zl hg (zK lM)) (zr hg (zK lM));clear hb hbox hg;have aua:=ad6.out;have aub:=ad5.out;obtain ⟨_,_⟩:=zC2 lN.out;obtain ⟨_,_⟩:=zF2 lN.out)|((with_reducible refine aA (f:=119) rfl ?_);refine aH (some 19) rfl rfl Tryz.func119 (by kernel_rfl) rfl #[.agg #[.int .u64 0,.int .u64 aoR],.int .u64 0] rfl zL ?_;(with_reducible refine (dL.calls 0 aoR 0 ad4 afF _ A5.out).mono ?_);rintro e w14 ⟨rfl,hb⟩;refine ⟨_,rfl,?_⟩;obtain ⟨lM,lN,HB⟩:=zA3 (ay (zK lM) hb) (ay (g:=amq) (o := .cells #[.int .u64 acg,.int .u64 ach] 179 (0,0)) (by refine zD ?_;refine aY (cs := #[.int .u64 acg,.int .u64 0]) ?_ 1 _ rfl;refine zD ?_;refine aY (cs := #[.int .u64 0,.int .u64 0]) ?_ 0 _ rfl;refine zD ?_;exact lN.out) hb) (ak zB hb);(try clear hb))|((with_reducible refine bK (N:=9) rfl ?_);refine bT zR (N:=9) zR (cs := #[.int .u64 0,.int .u64 0]) (t:=179) zG ?_;intro aqQ hg w15 hbox hb;obtain ⟨lM,lN,HB,rJ,ayP,ayQ,aip,aiq,abR,abS⟩:=adI (ay (zK lM) hb) (ay (zK lN) hb) (ak zB hb) hbox (zg hg zB) (zg hg zB) (zl hg (zK lM)) (zr hg (zK lM)) (zl hg (zK lN)) (zr hg (zK lN));clear hb hbox hg;have auc:=aiq.out;have aud:=aip.out;have aur:=abS.out;have aus:=abR.out;obtain ⟨_,_⟩:=zC2 rJ.out;obtain ⟨_,_⟩:=zF2 rJ.out)|((with_reducible refine aA (f:=123) rfl ?_);refine aH (some 23) rfl rfl Tryz.func123 (by kernel_rfl) rfl #[.agg #[.int .u64 ad4,.int .u64 afF],.agg #[.int .u64 0,.int .u64 a1]] rfl zL ?_;(with_reducible refine (ig.calls ad4 afF 0 a1 amn _ A6.out).mono ?_);rintro e w19 ⟨rfl,hb⟩;refine ⟨_,rfl,?_⟩;obtain ⟨lM,lN,rJ,HB⟩:=zA4 (ay (zK lM) hb) (ay (zK lN) hb) (ay (g:=aqQ) (o := .cells #[.int .u64 ad4,.int .u64 afF] 179 (0,0)) (by refine zD ?_;refine aY (cs := #[.int .u64 ad4,.int .u64 0]) ?_ 1 _ rfl;refine zD ?_;refine aY (cs := #[.int .u64 0,.int .u64 0]) ?_ 0 _ rfl;refine zD ?_;exact rJ.out) hb) (ak zB hb);(try clear hb)))
 (try simp only [Act.put,List.setIfInBounds_toArray,List.set_cons_zero,List.set_cons_succ])
 go_cut [10] (fun v10 wc=>∃ (kq:Nat) (ai0:Bool),v10 = .bool ai0∧aj (gU.j0 kq a2 ai0 acg ach=some r)∧aj (kq≤k)∧aj (wc.heap[auq]? = some (.cells #[.int .u64 bJ,.int .u64 dB] 179 (0,0)))∧aj (wc.heap[amq]? = some (.cells #[.int .u64 acg,.int .u64 ach] 179 (0,0)))∧aj (wc.heap[aqQ]? = some (.cells #[.int .u64 ad4,.int .u64 afF] 179 (0,0)))∧aj (Below w.heap.size w wc))
 case first =>
  have H:=HC7.out
  clear HC7
  by_cases c20:a2=true
  ·subst c20
   rw [if_pos rfl] at H;try dsimp only at H
   replace H:=zO H
   obtain ⟨amo,A21,H⟩:=H
   try dsimp only at H
   have H':=aj.mk H
   clear H
   have aqJ:=aiq.out
   have aqK:=aip.out
   have ami:=abS.out
   have amj:=abR.out
   obtain ⟨_,_⟩:=zC2 rJ.out
   obtain ⟨_,_⟩:=zF2 rJ.out
   go_wp2_with (first|((with_reducible refine aA (f:=123) rfl ?_);refine aH (some 29) rfl rfl Tryz.func123 (by kernel_rfl) rfl #[.agg #[.int .u64 0,.int .u64 a1],.agg #[.int .u64 ad4,.int .u64 afF]] rfl zL ?_;(with_reducible refine (ig.calls 0 a1 ad4 afF amo _ A21.out).mono ?_);rintro e w25 ⟨rfl,hb⟩;refine ⟨_,rfl,?_⟩;obtain ⟨lM,lN,rJ,HB⟩:=zA4 (ay (zK lM) hb) (ay (zK lN) hb) (ay (zK rJ) hb) (ak zB hb);(try clear hb)))
   go_meet
   case rel=>exact ⟨_,(amo),zT,H',⟨by first|omega|exact Nat.le_refl _⟩,⟨zK lM⟩,⟨zK lN⟩,⟨zK rJ⟩,⟨zB⟩⟩
  ·replace c20:=Bool.eq_false_iff.mpr c20
   subst c20
   rw [if_neg (show ¬ (false=true) by decide)] at H;try dsimp only at H
   have H':=aj.mk H
   clear H
   go_wp2
   go_meet
   case rel=>exact ⟨_,(!amn),zT,H',⟨by first|omega|exact Nat.le_refl _⟩,⟨zK lM⟩,⟨zK lN⟩,⟨zK rJ⟩,⟨zB⟩⟩
 case rest =>
  clear HC7
  obtain ⟨kq,ai0,rfl,HA,HJ6,lM,lN,rJ,HB⟩:=hcut
  cases kq with
  | zero=>exact absurd HA.out (by simp [gU.j0])
  | succ kj6 =>
   have H:=HA.out
   clear HA
   simp only [gU.j0] at H
   by_cases c26:ai0=true
   ·subst c26
    rw [if_pos rfl] at H;try dsimp only at H
    replace H:=zO H
    obtain ⟨⟨ajP,amr⟩,A27,H⟩:=H
    try dsimp only at H
    replace H:=zO H
    obtain ⟨aoP,A28,H⟩:=H
    try dsimp only at H
    obtain rfl:=Option.some.inj H
    have amk:=ad6.out
    have aml:=ad5.out
    have aqG:=abR.out
    have aqH:=abS.out
    obtain ⟨_,_⟩:=zC2 lN.out
    obtain ⟨_,_⟩:=zF2 lN.out
    go_wp2_with (first|((with_reducible refine aA (f:=124) rfl ?_);refine aH (some 33) rfl rfl Tryz.func124 (by kernel_rfl) rfl #[.agg #[.int .u64 acg,.int .u64 ach],.agg #[.int .u64 0,.int .u64 1]] rfl zL ?_;(with_reducible refine (gJ.calls acg ach 0 1 ajP amr _ A27.out).mono ?_);rintro e w32 ⟨rfl,hb⟩;refine ⟨_,rfl,?_⟩;obtain ⟨lM,lN,rJ,HB⟩:=zA4 (ay (zK lM) hb) (ay (zK lN) hb) (ay (zK rJ) hb) (ak zB hb);(try clear hb);obtain ⟨_,_⟩:=zC2 lN.out;obtain ⟨_,_⟩:=zF2 lN.out)|((with_reducible refine aA (f:=125) rfl ?_);refine aH (some 36) rfl rfl Tryz.func125 (by kernel_rfl) rfl #[.agg #[.int .u64 ajP,.int .u64 amr],.bool a2] rfl zL ?_;(with_reducible refine (bM.calls kj6 ajP amr a2 aoP _ A28.out).mono ?_);rintro e w34 ⟨rfl,hb⟩;refine ⟨_,rfl,?_⟩;obtain ⟨lM,lN,rJ,HB⟩:=zA4 (ay (zK lM) hb) (ay (g:=amq) (o := .cells #[.int .u64 ajP,.int .u64 amr] 179 (0,0)) (by refine zD ?_;refine aY (cs := #[.int .u64 ajP,.int .u64 ach]) ?_ 1 _ rfl;refine zD ?_;refine aY (cs := #[.int .u64 acg,.int .u64 ach]) ?_ 0 _ rfl;refine zD ?_;exact lN.out) hb) (ay (zK rJ) hb) (ak zB hb);(try clear hb)))
    go_ret
    exact ⟨zS,zB⟩
   ·replace c26:=Bool.eq_false_iff.mpr c26
    subst c26
    rw [if_neg (show ¬ (false=true) by decide)] at H;try dsimp only at H
    replace H:=zO H
    obtain ⟨aoQ,A35,H⟩:=H
    try dsimp only at H
    obtain rfl:=Option.some.inj H
    have ayR:=ad6.out
    have ayS:=ad5.out
    have ayT:=abR.out
    have ayU:=abS.out
    obtain ⟨_,_⟩:=zC2 lN.out
    obtain ⟨_,_⟩:=zF2 lN.out
    go_wp2_with (first|((with_reducible refine aA (f:=125) rfl ?_);refine aH (some 36) rfl rfl Tryz.func125 (by kernel_rfl) rfl #[.agg #[.int .u64 acg,.int .u64 ach],.bool a2] rfl zL ?_;(with_reducible refine (bM.calls kj6 acg ach a2 aoQ _ A35.out).mono ?_);rintro e w39 ⟨rfl,hb⟩;refine ⟨_,rfl,?_⟩;obtain ⟨lM,lN,rJ,HB⟩:=zA4 (ay (zK lM) hb) (ay (zK lN) hb) (ay (zK rJ) hb) (ak zB hb);(try clear hb)))
    go_ret
    exact ⟨zS,zB⟩
def aX.f (k:Nat) (a0 a1 a2:Int):Option (Int):=if a2=0 then (some 0) else ((dN.f a0).bind fun ajQ=>((dN.f a1).bind fun ajR=>((dQ.f k ajQ ajR).bind fun aqR=>((dN.f a2).bind fun ajS=>((gU.f k aqR.1 aqR.2 ajS (((decide (a0 < 0)) != (decide (a1 < 0))) != (decide (a2 < 0)))).bind fun aoS=>(some aoS))))))
def aX.T5:Bool × List (List Nat × List Nat):=(true,[([],[]),([],[]),([1],[1]),([],[]),([],[]),([4],[4]),([3,5],[3,5]),([0,2,6,2],[0,2,6]),([7,7,0,1,2,3,4,5,6,7],[7])])
def aX.B5:List Nat:=[0,0,2,0,0,16,56,127,255]
theorem aX.avS:rZ .any (opsOf Tryz.f118 5)=aX.T5:=by kernel_rfl
theorem aX.aut:acB aX.T5.2 aX.B5=true:=by kernel_rfl
set_option maxHeartbeats 8000000 in
set_option maxRecDepth 100000 in
theorem aX.calls (k:Nat) (a0 a1 a2 r:Int) (w:World) (h:aX.f k a0 a1 a2=some r) :
  Calls Tryz.prog 118 #[.int .i64 a0,.int .i64 a1,.int .i64 a2] w fun e w'=>e = .returned (.int .i64 r)∧Below w.heap.size w w':=by
 have xI:=Tryz.underlying179
 have HB:=aj.mk (Below.refl w.heap.size w)
 have H:=h
 clear h
 unfold aX.f at H
 by_cases c4:a2=0
 ·rw [if_pos c4] at H
  have fV:(a2 == 0)=true:=beq_iff_eq.mpr c4
  have acS:(a2 != 0)=false:=bne_eq_false_iff_eq.mpr c4
  clear c4
  obtain rfl:=Option.some.inj H
  go_enter Tryz.func118,Tryz.ntmps118
  go_wp2
  go_ret
  exact ⟨zS,zB⟩
 ·rw [if_neg c4] at H
  have fV:(a2 == 0)=false:=beq_eq_false_iff_ne.mpr c4
  have acS:(a2 != 0)=true:=bne_iff_ne.mpr c4
  replace H:=zO H
  obtain ⟨ajQ,A5,H⟩:=H
  try dsimp only at H
  replace H:=zO H
  obtain ⟨ajR,A6,H⟩:=H
  try dsimp only at H
  replace H:=zO H
  obtain ⟨⟨ac3,ad7⟩,A7,H⟩:=H
  try dsimp only at H
  replace H:=zO H
  obtain ⟨ajS,A8,H⟩:=H
  try dsimp only at H
  replace H:=zO H
  obtain ⟨aoS,A9,H⟩:=H
  try dsimp only at H
  obtain rfl:=Option.some.inj H
  go_enter Tryz.func118,Tryz.ntmps118
  try go_wp2_with (first|((with_reducible refine aA (f:=120) rfl ?_);refine aH (some 12) rfl rfl Tryz.func120 (by kernel_rfl) rfl #[.int .i64 a0] rfl zL ?_;(with_reducible refine (dN.calls a0 ajQ _ A5.out).mono ?_);rintro e w' ⟨rfl,⟨nd,rfl⟩⟩;refine ⟨_,rfl,?_⟩)|((with_reducible refine aA (f:=120) rfl ?_);refine aH (some 14) rfl rfl Tryz.func120 (by kernel_rfl) rfl #[.int .i64 a1] rfl zL ?_;(with_reducible refine (dN.calls a1 ajR _ A6.out).mono ?_);rintro e w' ⟨rfl,⟨nd,rfl⟩⟩;refine ⟨_,rfl,?_⟩)|((with_reducible refine aA (f:=148) rfl ?_);refine aH (some 15) rfl rfl Tryz.func148 (by kernel_rfl) rfl #[.int .u64 ajQ,.int .u64 ajR] rfl zL ?_;(with_reducible refine (dQ.calls k ajQ ajR ac3 ad7 _ A7.out).mono ?_);rintro e w10 ⟨rfl,hb⟩;refine ⟨_,rfl,?_⟩;replace HB:=aj.mk (ak zB hb);(try clear hb))|((with_reducible refine bK (N:=7) rfl ?_);refine bT zR (N:=7) zR (cs := #[.int .u64 0,.int .u64 0]) (t:=179) zG ?_;intro aa3 hg w11 hbox hb;obtain ⟨HB,sK,ayV,ayW⟩:=zA4 (ak zB hb) hbox (zg hg zB) (zg hg zB);clear hb hbox hg;obtain ⟨_,_⟩:=zC2 sK.out;obtain ⟨_,_⟩:=zF2 sK.out))
  have n0_:aj (((w11.setCell ⟨aa3,0,none⟩ (.int .u64 ac3)).setCell ⟨aa3,1,none⟩ (.int .u64 ad7)).heap[aa3]? = some (.cells #[.int .u64 ac3,.int .u64 ad7] 179 (0,0))):=⟨by refine zD ?_;refine aY (cs := #[.int .u64 ac3,.int .u64 0]) ?_ 1 _ rfl;refine zD ?_;refine aY (cs := #[.int .u64 0,.int .u64 0]) ?_ 0 _ rfl;refine zD ?_;exact sK.out⟩
  have n1_:aj (Below w.heap.size w ((w11.setCell ⟨aa3,0,none⟩ (.int .u64 ac3)).setCell ⟨aa3,1,none⟩ (.int .u64 ad7))):=⟨zB⟩
  (try clear sK)
  (try clear HB)
  generalize ((w11.setCell ⟨aa3,0,none⟩ (.int .u64 ac3)).setCell ⟨aa3,1,none⟩ (.int .u64 ad7))=w13 at n0_ n1_ ⊢
  have sK:=n0_
  have HB:=n1_
  clear n0_ n1_
  obtain ⟨sK,HB⟩:=zA2 (jv sK.out) (bg HB.out)
  refine acw (n:=9) (S:=fun w'=>w'.cell? ⟨aa3,0,none⟩=some (.int .u64 ac3)∧w'.cell? ⟨aa3,1,none⟩=some (.int .u64 ad7)) (ds:=[]) #[false,false,false,false,false,false,false,false,false] (by kernel_rfl) rfl rfl ⟨(au sK.out 0).trans rfl,(au sK.out 1).trans rfl⟩ (fun hHeld => ?_);refine anI aX.avS aX.aut (fun HT_ HW_ => ?_)
  generalize w13.drew=w14 at sK HB hHeld ⊢
  refine xG (i:=1) (N:=some 22) (v := ?_) (a' := ?_) #[false,true,false,false,false,false,false,false,false] rfl rfl (acA HT_.out (by kernel_rfl)) (fun _ _ _ h=>h) (Or.inl ⟨by rfl,?_⟩) ?_ ?_
  rotate_left
  ·intro w'
   go_simp
   with_reducible rfl
  rotate_left
  ·simp only [Act.put,List.setIfInBounds_toArray,List.set_cons_zero,List.set_cons_succ,bW,dA]
   rfl
  refine xG (i:=3) (N:=some 24) (v := ?_) (a' := ?_) #[false,true,false,true,false,false,false,false,false] rfl rfl (acA HT_.out (by kernel_rfl)) (fun _ _ _ h=>h) (Or.inl ⟨by rfl,?_⟩) ?_ ?_
  rotate_left
  ·intro w'
   go_simp
   with_reducible rfl
  rotate_left
  ·simp only [Act.put,List.setIfInBounds_toArray,List.set_cons_zero,List.set_cons_succ,bW,dA]
   rfl
  refine xG (i:=4) (N:=some 25) (v := ?_) (a' := ?_) #[false,true,false,true,true,false,false,false,false] rfl rfl (acA HT_.out (by kernel_rfl)) (fun _ _ _ h=>h) (Or.inl ⟨by rfl,?_⟩) ?_ ?_
  rotate_left
  ·intro w'
   go_simp
   with_reducible rfl
  rotate_left
  ·simp only [Act.put,List.setIfInBounds_toArray,List.set_cons_zero,List.set_cons_succ,bW,dA]
   rfl
  refine xG (i:=5) (N:=some 26) (v := ?_) (a' := ?_) #[false,true,false,true,true,true,false,false,false] rfl rfl (acA HT_.out (by kernel_rfl)) (fun _ _ _ h=>h) (Or.inl ⟨by rfl,?_⟩) ?_ ?_
  rotate_left
  ·intro w'
   go_simp
   with_reducible rfl
  rotate_left
  ·simp only [Act.put,List.setIfInBounds_toArray,List.set_cons_zero,List.set_cons_succ,bW,dA]
   rfl
  refine xG (i:=6) (N:=some 27) (v := ?_) (a' := ?_) #[false,true,false,true,true,true,true,false,false] rfl rfl (acA HT_.out (by kernel_rfl)) (fun _ _ _ h=>h) (Or.inl ⟨by rfl,?_⟩) ?_ ?_
  rotate_left
  ·intro w'
   go_simp
   with_reducible rfl
  rotate_left
  ·simp only [Act.put,List.setIfInBounds_toArray,List.set_cons_zero,List.set_cons_succ,bW,dA]
   rfl
  refine yE (i:=0) (N:=some 21) (v := ?_) (a' := ?_) #[true,true,false,true,true,true,true,false,false] rfl rfl (aoo HT_.out HW_.out (by kernel_rfl)) (fun _ _ _ h=>h) (Or.inl ⟨by rfl,?_⟩) hHeld ?_ ?_
  rotate_left
  ·rintro w' ⟨s0,s1⟩
   go_simp
   with_reducible rfl
  rotate_left
  ·simp only [Act.put,List.setIfInBounds_toArray,List.set_cons_zero,List.set_cons_succ,bW,dA]
   rfl
  refine abj (i:=2) (N:=some 23) #[true,true,true,true,true,true,true,false,false] rfl rfl (anH HT_.out (by kernel_rfl)) (by decide) (fun K hK => ?_)
  refine aaf Tryz.func120 (by kernel_rfl) rfl #[.int .i64 a2] (by rfl) rfl rfl zL ?_
  with_reducible refine (dN.calls a2 ajS _ A8.out).mono ?_
  rintro e w' ⟨rfl,⟨nd,rfl⟩⟩
  refine ⟨_,rfl,?_⟩
  refine hK.out _ _ ⟨(au sK.out 0).trans rfl,(au sK.out 1).trans rfl⟩ (fun hHeld => ?_)
  clear hK K
  refine aae (a' := ?_) ?_ ?_
  rotate_left
  ·show Act.put _ (some 23) _=_
   simp only [Act.put,List.setIfInBounds_toArray,List.set_cons_zero,List.set_cons_succ,bW,dA]
   rfl
  refine abj (i:=7) (N:=some 28) #[true,true,true,true,true,true,true,true,false] rfl rfl (anH HT_.out (by kernel_rfl)) (by decide) (fun K hK => ?_)
  refine aaf Tryz.func149 (by kernel_rfl) rfl #[.agg #[.int .u64 ac3,.int .u64 ad7],.int .u64 ajS,.bool (((decide (a0 < 0)) != (decide (a1 < 0))) != (decide (a2 < 0)))] (by rfl) rfl rfl zL ?_
  with_reducible refine (gU.calls k ac3 ad7 ajS (((decide (a0 < 0)) != (decide (a1 < 0))) != (decide (a2 < 0))) aoS _ A9.out).mono ?_
  rintro e w15 ⟨rfl,hb⟩
  refine ⟨_,rfl,?_⟩
  obtain ⟨sK,HB⟩:=zA2 (ay (zK sK) hb) (ak zB hb)
  (try clear hb)
  (try clear hb2)
  (try clear hk)
  (try clear hi)
  refine hK.out _ _ ⟨(au sK.out 0).trans rfl,(au sK.out 1).trans rfl⟩ (fun hHeld => ?_)
  clear hK K
  refine aae (a' := ?_) ?_ ?_
  rotate_left
  ·show Act.put _ (some 28) _=_
   simp only [Act.put,List.setIfInBounds_toArray,List.set_cons_zero,List.set_cons_succ,bW,dA]
   rfl
  refine xG (i:=8) (N:=some 6) (v := ?_) (a' := ?_) #[true,true,true,true,true,true,true,true,true] rfl rfl (acA HT_.out (by kernel_rfl)) (fun _ _ _ h=>h) (Or.inl ⟨by rfl,?_⟩) ?_ ?_
  rotate_left
  ·intro w'
   go_simp
   with_reducible rfl
  rotate_left
  ·simp only [Act.put,List.setIfInBounds_toArray,List.set_cons_zero,List.set_cons_succ,bW,dA]
   rfl
  refine aeN (arv HT_.out (by kernel_rfl)) ?_
  try go_wp2
  go_ret
  exact ⟨zS,zB⟩
end Go.Proofs.YtpondkggmcmpfaaGreatDoor.QA
namespace Go.Proofs.YtpondkggmcmpfaaGreatDoor.QA
open Go.Proofs.YtpondkggmcmpfaaGreatDoor.T
open Go.RowKit Go.Proofs.YtpondkggmcmpfaaGreatDoorW.PrintWords Go.Proofs.YtpondkggmcmpfaaGreatDoorW.PrintLast Go.Proofs.YtpondkggmcmpfaaGreatDoorW.PrintMore
attribute [local go_sem] dY dS dU fA fB
set_option linter.unusedVariables false
set_option linter.unusedSimpArgs false
mutual
def bI.j0:Nat→Int→Int→Bool→Option (Int)
 | 0,_,_,_=>none
 | k+1,x0,x1,x14=>if x14=true then (some 0) else (if x0≥(wrap64 (2*x1)) then (bI.j1 k x0 x1 true) else (bI.j1 k x0 x1 (decide (x0≤(wrap64 ((-2)*x1))))))
def bI.j1:Nat→Int→Int→Bool→Option (Int)
 | 0,_,_,_=>none
 | k+1,x0,x1,x24=>if x24=true then (some 0) else (if x0 < 0 then (bI.j2 k (wrap64 (-x0)) x1) else (bI.j2 k x0 x1))
def bI.j2:Nat→Int→Int→Option (Int)
 | 0,_,_=>none
 | k+1,x0,x1=>if x0 < x1 then ((aX.f k (wrap64 ((wrap64 ((wrap64 (3*(wrap64 ((wrap64 (x0*x0))*x0)))) - (wrap64 ((wrap64 (5*(wrap64 (x0*x0))))*x1))))+(wrap64 (2*(wrap64 ((wrap64 (x1*x1))*x1)))))) 1073741824 (wrap64 (2*(wrap64 ((wrap64 (x1*x1))*x1))))).bind fun aoT=>(some aoT)) else ((aX.f k (wrap64 ((wrap64 ((wrap64 ((wrap64 ((wrap64 (5*(wrap64 (x0*x0))))*x1)) - (wrap64 ((wrap64 (x0*x0))*x0)))) - (wrap64 ((wrap64 (8*x0))*(wrap64 (x1*x1))))))+(wrap64 (4*(wrap64 ((wrap64 (x1*x1))*x1)))))) 1073741824 (wrap64 (2*(wrap64 ((wrap64 (x1*x1))*x1))))).bind fun aoU=>(some aoU))
end
def bI.f (k:Nat) (a0 a1:Int):Option (Int):=if a1 < 1 then (bI.j0 k a0 a1 true) else (bI.j0 k a0 a1 (decide (a1 > 262144)))
set_option maxHeartbeats 8000000 in
set_option maxRecDepth 100000 in
theorem bI.calls (k:Nat) (a0 a1 r:Int) (w:World) (h:bI.f k a0 a1=some r) :
  Calls Tryz.prog 170 #[.int .i64 a0,.int .i64 a1] w fun e w'=>e = .returned (.int .i64 r)∧Below w.heap.size w w':=by
 have HB:=aj.mk (Below.refl w.heap.size w)
 have H:=h
 clear h
 unfold bI.f at H
 have HC3:=aj.mk H
 clear H
 go_enter Tryz.func170,Tryz.ntmps170
 go_upto_region 1 with (fail)
 go_cut [14] (fun v14 wc=>∃ (kq:Nat) (yN:Bool),v14 = .bool yN∧aj (bI.j0 kq a0 a1 yN=some r)∧aj (kq≤k)∧aj (Below w.heap.size w wc))
 case first =>
  have H:=HC3.out
  clear HC3
  by_cases c4:a1 < 1
  ·rw [if_pos c4] at H
   have fV:=decide_eq_true c4
   clear c4
   (first|rw [fV]|(simp only [bW,dA];rw [fV])|skip)
   have H':=aj.mk H
   clear H
   go_wp2
   go_meet
   case rel=>exact ⟨_,(true),zT,H',⟨by first|omega|exact Nat.le_refl _⟩,⟨zB⟩⟩
  ·rw [if_neg c4] at H
   have fV:=decide_eq_false c4
   clear c4
   (first|rw [fV]|(simp only [bW,dA];rw [fV])|skip)
   have H':=aj.mk H
   clear H
   go_wp2
   go_meet
   case rel=>exact ⟨_,(decide (a1 > 262144)),zT,H',⟨by first|omega|exact Nat.le_refl _⟩,⟨zB⟩⟩
 case rest =>
  clear HC3
  obtain ⟨kq,yN,rfl,HA,HJ2,HB⟩:=hcut
  cases kq with
  | zero=>exact absurd HA.out (by simp [bI.j0])
  | succ kj2 =>
   have H:=HA.out
   clear HA
   simp only [bI.j0] at H
   by_cases c5:yN=true
   ·subst c5
    rw [if_pos rfl] at H;try dsimp only at H
    obtain rfl:=Option.some.inj H
    go_wp2
    go_ret
    exact ⟨zS,zB⟩
   ·replace c5:=Bool.eq_false_iff.mpr c5
    subst c5
    rw [if_neg (show ¬ (false=true) by decide)] at H;try dsimp only at H
    have HC6:=aj.mk H
    clear H
    go_upto_region 3 with (fail)
    go_cut [24] (fun v24 wc=>∃ (kq:Nat) (ai1:Bool),v24 = .bool ai1∧aj (bI.j1 kq a0 a1 ai1=some r)∧aj (kq≤kj2)∧aj (Below w.heap.size w wc))
    case first =>
     have H:=HC6.out
     clear HC6
     by_cases c7:a0≥(wrap64 (2*a1))
     ·rw [if_pos c7] at H
      have jw:=decide_eq_true c7
      clear c7
      (first|rw [jw]|(simp only [bW,dA];rw [jw])|skip)
      have H':=aj.mk H
      clear H
      go_wp2
      go_meet
      case rel=>exact ⟨_,(true),zT,H',⟨by have:=HJ2.out;first|omega|exact Nat.le_refl _⟩,⟨zB⟩⟩
     ·rw [if_neg c7] at H
      have jw:=decide_eq_false c7
      clear c7
      (first|rw [jw]|(simp only [bW,dA];rw [jw])|skip)
      have H':=aj.mk H
      clear H
      go_wp2
      go_meet
      case rel=>exact ⟨_,(decide (a0≤(wrap64 ((-2)*a1)))),zT,H',⟨by have:=HJ2.out;first|omega|exact Nat.le_refl _⟩,⟨zB⟩⟩
    case rest =>
     clear HC6
     obtain ⟨kq,ai1,rfl,HA,HJ5,HB⟩:=hcut
     cases kq with
     | zero=>exact absurd HA.out (by simp [bI.j1])
     | succ kj5 =>
      have H:=HA.out
      clear HA
      simp only [bI.j1] at H
      by_cases c8:ai1=true
      ·subst c8
       rw [if_pos rfl] at H;try dsimp only at H
       obtain rfl:=Option.some.inj H
       go_wp2
       go_ret
       exact ⟨zS,zB⟩
      ·replace c8:=Bool.eq_false_iff.mpr c8
       subst c8
       rw [if_neg (show ¬ (false=true) by decide)] at H;try dsimp only at H
       have HC9:=aj.mk H
       clear H
       go_upto_if 26 with (fail)
       go_cut [0] (fun v0 wc=>∃ (kq:Nat) (pG:Int),v0 = .int .i64 pG∧aj (bI.j2 kq pG a1=some r)∧aj (kq≤kj5)∧aj (Below w.heap.size w wc))
       case first =>
        have H:=HC9.out
        clear HC9
        by_cases c10:a0 < 0
        ·rw [if_pos c10] at H
         have qg:=decide_eq_true c10
         clear c10
         (first|rw [qg]|(simp only [bW,dA];rw [qg])|skip)
         have H':=aj.mk H
         clear H
         go_wp2
         go_meet
         case rel=>exact ⟨_,(wrap64 (-a0)),zT,H',⟨by have:=HJ2.out;have:=HJ5.out;first|omega|exact Nat.le_refl _⟩,⟨zB⟩⟩
        ·rw [if_neg c10] at H
         have qg:=decide_eq_false c10
         clear c10
         (first|rw [qg]|(simp only [bW,dA];rw [qg])|skip)
         have H':=aj.mk H
         clear H
         go_wp2
         go_meet
         case rel=>exact ⟨_,(a0),zT,H',⟨by have:=HJ2.out;have:=HJ5.out;first|omega|exact Nat.le_refl _⟩,⟨zB⟩⟩
       case rest =>
        clear HC9
        obtain ⟨kq,pG,rfl,HA,HJ8,HB⟩:=hcut
        cases kq with
        | zero=>exact absurd HA.out (by simp [bI.j2])
        | succ kj8 =>
         have H:=HA.out
         clear HA
         simp only [bI.j2] at H
         by_cases c11:pG < a1
         ·rw [if_pos c11] at H
          have iP:=decide_eq_true c11
          clear c11
          replace H:=zO H
          obtain ⟨aoT,A12,H⟩:=H
          try dsimp only at H
          obtain rfl:=Option.some.inj H
          go_wp2_with (first|((with_reducible refine aA (f:=118) rfl ?_);refine aH (some 56) rfl rfl Tryz.func118 (by kernel_rfl) rfl #[.int .i64 (wrap64 ((wrap64 ((wrap64 (3*(wrap64 ((wrap64 (pG*pG))*pG)))) - (wrap64 ((wrap64 (5*(wrap64 (pG*pG))))*a1))))+(wrap64 (2*(wrap64 ((wrap64 (a1*a1))*a1)))))),.int .i64 1073741824,.int .i64 (wrap64 (2*(wrap64 ((wrap64 (a1*a1))*a1))))] rfl zL ?_;(with_reducible refine (aX.calls kj8 (wrap64 ((wrap64 ((wrap64 (3*(wrap64 ((wrap64 (pG*pG))*pG)))) - (wrap64 ((wrap64 (5*(wrap64 (pG*pG))))*a1))))+(wrap64 (2*(wrap64 ((wrap64 (a1*a1))*a1)))))) 1073741824 (wrap64 (2*(wrap64 ((wrap64 (a1*a1))*a1)))) aoT _ A12.out).mono ?_);rintro e w13 ⟨rfl,hb⟩;refine ⟨_,rfl,?_⟩;replace HB:=aj.mk (ak zB hb);(try clear hb)))
          go_ret
          exact ⟨zS,zB⟩
         ·rw [if_neg c11] at H
          have iP:=decide_eq_false c11
          clear c11
          replace H:=zO H
          obtain ⟨aoU,A14,H⟩:=H
          try dsimp only at H
          obtain rfl:=Option.some.inj H
          go_wp2_with (first|((with_reducible refine aA (f:=118) rfl ?_);refine aH (some 73) rfl rfl Tryz.func118 (by kernel_rfl) rfl #[.int .i64 (wrap64 ((wrap64 ((wrap64 ((wrap64 ((wrap64 (5*(wrap64 (pG*pG))))*a1)) - (wrap64 ((wrap64 (pG*pG))*pG)))) - (wrap64 ((wrap64 (8*pG))*(wrap64 (a1*a1))))))+(wrap64 (4*(wrap64 ((wrap64 (a1*a1))*a1)))))),.int .i64 1073741824,.int .i64 (wrap64 (2*(wrap64 ((wrap64 (a1*a1))*a1))))] rfl zL ?_;(with_reducible refine (aX.calls kj8 (wrap64 ((wrap64 ((wrap64 ((wrap64 ((wrap64 (5*(wrap64 (pG*pG))))*a1)) - (wrap64 ((wrap64 (pG*pG))*pG)))) - (wrap64 ((wrap64 (8*pG))*(wrap64 (a1*a1))))))+(wrap64 (4*(wrap64 ((wrap64 (a1*a1))*a1)))))) 1073741824 (wrap64 (2*(wrap64 ((wrap64 (a1*a1))*a1)))) aoU _ A14.out).mono ?_);rintro e w15 ⟨rfl,hb⟩;refine ⟨_,rfl,?_⟩;replace HB:=aj.mk (ak zB hb);(try clear hb)))
          go_ret
          exact ⟨zS,zB⟩
end Go.Proofs.YtpondkggmcmpfaaGreatDoor.QA
namespace Go.Proofs.YtpondkggmcmpfaaGreatDoor.QA
open Go.Proofs.YtpondkggmcmpfaaGreatDoor.T
open Go.RowKit Go.Proofs.YtpondkggmcmpfaaGreatDoorW.PrintWords Go.Proofs.YtpondkggmcmpfaaGreatDoorW.PrintLast Go.Proofs.YtpondkggmcmpfaaGreatDoorW.PrintMore
attribute [local go_sem] dY dS dU fA fB
set_option linter.unusedVariables false
set_option linter.unusedSimpArgs false
mutual
def aJ.l0:Nat→Int→Int→Int→Int→Int→Int→Option (Int)
 | 0,_,_,_,_,_,_=>none
 | k+1,x0,x1,x20,x21,qA,qB=>if x21 < x20 then ((dL.f qA qB 0).bind fun aqS=>(aJ.l0 k x0 x1 x20 (wrap64 (x21+1)) aqS.1 aqS.2)) else ((dN.f x0).bind fun sD=>(aJ.l1 k x0 x1 127 qA qB 0 sD 0 0))
def aJ.l1:Nat→Int→Int→Int→Int→Int→Int→Int→Int→Int→Option (Int)
 | 0,_,_,_,_,_,_,_,_,_=>none
 | k+1,x0,x1,x8,qA,qB,tJ,tK,qC,qE=>if x8≥x1 then ((fF.f tJ tK x8).bind fun ajT=>((dL.f qC qE ajT).bind fun aqT=>(aJ.l1 k x0 x1 (wrap64 (x8 - 1)) qA qB tJ tK aqT.1 aqT.2))) else (aJ.l2 k x0 x1 qA qB tJ tK qC qE tJ tK)
def aJ.l2:Nat→Int→Int→Int→Int→Int→Int→Int→Int→Int→Int→Option (Int)
 | 0,_,_,_,_,_,_,_,_,_,_=>none
 | k+1,x0,x10,qA,qB,tJ,tK,qC,qE,zI,zJ=>if x10 < 128 then ((fF.f tJ tK x10).bind fun ac4=>(if ac4=1 then (aJ.l3 k x0 x10 x10 0 qA qB tJ tK qC qE zI zJ 0 1) else (aJ.l2 k x0 (wrap64 (x10+1)) qA qB tJ tK qC qE zI zJ))) else ((ig.f zI zJ qA qB).bind fun ams=>(if x0 < 0 then ((ig.f qA qB zI zJ).bind fun amu=>(aJ.j4 k x0 amu qC qE)) else (aJ.j4 k x0 (!ams) qC qE)))
def aJ.l3:Nat→Int→Int→Int→Int→Int→Int→Int→Int→Int→Int→Int→Int→Int→Int→Option (Int)
 | 0,_,_,_,_,_,_,_,_,_,_,_,_,_,_=>none
 | k+1,x0,x10,x51,x52,qA,qB,tJ,tK,qC,qE,zI,zJ,alr,als=>if x52 < x51 then ((dL.f alr als 0).bind fun aqU=>(aJ.l3 k x0 x10 x51 (wrap64 (x52+1)) qA qB tJ tK qC qE zI zJ aqU.1 aqU.2)) else ((jU.f zI zJ alr als).bind fun aqV=>(aJ.l2 k x0 (wrap64 (x10+1)) qA qB tJ tK qC qE aqV.1 aqV.2))
def aJ.j4:Nat→Int→Bool→Int→Int→Option (Int)
 | 0,_,_,_,_=>none
 | k+1,x0,x12,qC,qE=>if x12=true then ((gJ.f qC qE 0 1).bind fun aqW=>((bM.f k aqW.1 aqW.2 (decide (x0 < 0))).bind fun aoV=>(some aoV))) else ((bM.f k qC qE (decide (x0 < 0))).bind fun aoW=>(some aoW))
end
def aJ.f (k:Nat) (a0 a1:Int):Option (Int):=if a1 < 1 then (some a0) else (if a1 > 64 then (some 0) else (aJ.l0 k a0 a1 (wrap64 (a1 - 1)) 0 0 1))
set_option maxHeartbeats 8000000 in
set_option maxRecDepth 100000 in
theorem aJ.calls (k:Nat) (a0 a1 r:Int) (w:World) (h:aJ.f k a0 a1=some r) :
  Calls Tryz.prog 101 #[.int .i64 a0,.int .i64 a1] w fun e w'=>e = .returned (.int .i64 r)∧Below w.heap.size w w':=by
 have xI:=Tryz.underlying179
 have HB:=aj.mk (Below.refl w.heap.size w)
 have H:=h
 clear h
 unfold aJ.f at H
 by_cases c3:a1 < 1
 ·rw [if_pos c3] at H
  have fQ:=decide_eq_true c3
  clear c3
  obtain rfl:=Option.some.inj H
  go_enter Tryz.func101,Tryz.ntmps101
  go_wp2
  go_ret
  exact ⟨zS,zB⟩
 ·rw [if_neg c3] at H
  have fQ:=decide_eq_false c3
  clear c3
  by_cases c4:a1 > 64
  ·rw [if_pos c4] at H
   have fV:=decide_eq_true c4
   clear c4
   obtain rfl:=Option.some.inj H
   go_enter Tryz.func101,Tryz.ntmps101
   go_wp2
   go_ret
   exact ⟨zS,zB⟩
  ·rw [if_neg c4] at H
   have fV:=decide_eq_false c4
   clear c4
   have H':=aj.mk H
   clear H
   go_enter Tryz.func101,Tryz.ntmps101
   go_wp2_with (first|((with_reducible refine bK (N:=5) rfl ?_);refine bT zR (N:=5) zR (cs := #[.int .u64 0,.int .u64 0]) (t:=179) zG ?_;intro aeX hg w5 hbox hb;obtain ⟨HB,dX,ayX,ayY⟩:=zA4 (ak zB hb) hbox (zg hg zB) (zg hg zB);clear hb hbox hg;obtain ⟨_,_⟩:=zC2 dX.out;obtain ⟨_,_⟩:=zF2 dX.out))
   go_loopg [21] k (fun kq v21 w'=>∃ (vU:Int) (jT:Int) (jI:Int),v21 = .int .i64 vU∧aj (aJ.l0 kq a0 a1 (wrap64 (a1 - 1)) vU jT jI=some r)∧aj (kq≤k)∧aj (w'.heap[aeX]? = some (.cells #[.int .u64 jT,.int .u64 jI] 179 (0,0)))∧aj (Below w.heap.size w w'))
   case atStart=>exact ⟨(0),(0),(1),zT,H',⟨Nat.le_refl _⟩,⟨by refine zD ?_;refine aY (cs := #[.int .u64 0,.int .u64 0]) ?_ 1 _ rfl;refine zD ?_;refine aY (cs := #[.int .u64 0,.int .u64 0]) ?_ 0 _ rfl;refine zD ?_;exact dX.out⟩,⟨zB⟩⟩
   case round =>
    clear H'
    obtain ⟨vU,jT,jI,rfl,HA,HK1,dX,HB⟩:=hrel
    cases gk with
    | zero=>exact absurd HA.out (by simp [aJ.l0])
    | succ k1 =>
     have H:=HA.out
     clear HA
     simp only [aJ.l0] at H
     by_cases c7:vU < (wrap64 (a1 - 1))
     ·rw [if_pos c7] at H
      have jw:=decide_eq_true c7
      clear c7
      replace H:=zO H
      obtain ⟨⟨aoX,asC⟩,A8,H⟩:=H
      try dsimp only at H
      have H':=aj.mk H
      clear H
      obtain ⟨_,_⟩:=zC2 dX.out
      obtain ⟨_,_⟩:=zF2 dX.out
      go_wp2_with (first|((with_reducible refine aA (f:=119) rfl ?_);refine aH (some 24) rfl rfl Tryz.func119 (by kernel_rfl) rfl #[.agg #[.int .u64 jT,.int .u64 jI],.int .u64 0] rfl zL ?_;(with_reducible refine (dL.calls jT jI 0 aoX asC _ A8.out).mono ?_);rintro e w10 ⟨rfl,hb⟩;refine ⟨_,rfl,?_⟩;obtain ⟨dX,HB⟩:=zA2 (ay (zK dX) hb) (ak zB hb);(try clear hb);obtain ⟨_,_⟩:=zC2 dX.out;obtain ⟨_,_⟩:=zF2 dX.out))
      go_roundg k1
      case measure=>have:=HK1.out;omega
      case rel=>exact ⟨(wrap64 (vU+1)),(aoX),(asC),zT,H',⟨by have:=HK1.out;omega⟩,⟨by refine zD ?_;refine aY (cs := #[.int .u64 aoX,.int .u64 jI]) ?_ 1 _ rfl;refine zD ?_;refine aY (cs := #[.int .u64 jT,.int .u64 jI]) ?_ 0 _ rfl;refine zD ?_;exact dX.out⟩,⟨zB⟩⟩
     ·rw [if_neg c7] at H
      have jw:=decide_eq_false c7
      clear c7
      replace H:=zO H
      obtain ⟨sD,A12,H⟩:=H
      try dsimp only at H
      have H':=aj.mk H
      clear H
      go_wp2_with (first|((with_reducible refine aA (f:=120) rfl ?_);refine aH (some 27) rfl rfl Tryz.func120 (by kernel_rfl) rfl #[.int .i64 a0] rfl zL ?_;(with_reducible refine (dN.calls a0 sD _ A12.out).mono ?_);rintro e w' ⟨rfl,⟨nd,rfl⟩⟩;refine ⟨_,rfl,?_⟩;(try (rw [nU wr];generalize hq_:World.drewN wr _=wr;have n0_:aj (wr.heap[aeX]? = some (.cells #[.int .u64 jT,.int .u64 jI] 179 (0,0))):=⟨by rw [← hq_];exact (zK dX)⟩;have n1_:aj (Below w.heap.size w wr):=⟨by rw [← hq_];exact zB⟩;clear dX HB hq_;have dX:=n0_;have HB:=n1_;clear n0_ n1_)))|((with_reducible refine bK (N:=6) rfl ?_);refine bT zR (N:=6) zR (cs := #[.int .u64 0,.int .u64 0]) (t:=179) zG ?_;intro yO hg w13 hbox hb;obtain ⟨dX,HB,fG,ayZ,ay0,yg,yh⟩:=zA7 (ay (zK dX) hb) (ak zB hb) hbox (zg hg zB) (zg hg zB) (zl hg (zK dX)) (zr hg (zK dX));clear hb hbox hg;have aqE:=yh.out;have aqF:=yg.out;obtain ⟨_,_⟩:=zC2 fG.out;obtain ⟨_,_⟩:=zF2 fG.out)|((with_reducible refine bK (N:=7) rfl ?_);refine bT zR (N:=7) zR (cs := #[.int .u64 0,.int .u64 0]) (t:=179) zG ?_;intro yP hg w16 hbox hb;obtain ⟨dX,fG,HB,fH,ay1,ay2,wH,wI,uj,um⟩:=adI (ay (zK dX) hb) (ay (g:=yO) (o := .cells #[.int .u64 0,.int .u64 sD] 179 (0,0)) (by refine zD ?_;refine aY (cs := #[.int .u64 0,.int .u64 0]) ?_ 1 _ rfl;refine zD ?_;refine aY (cs := #[.int .u64 0,.int .u64 0]) ?_ 0 _ rfl;refine zD ?_;exact fG.out) hb) (ak zB hb) hbox (zg hg zB) (zg hg zB) (zl hg (zK dX)) (zr hg (zK dX)) ((by rw [hg];exact Nat.ne_of_lt (dJ (g:=yO) (o := .cells #[.int .u64 0,.int .u64 sD] 179 (0,0)) (by refine zD ?_;refine aY (cs := #[.int .u64 0,.int .u64 0]) ?_ 1 _ rfl;refine zD ?_;refine aY (cs := #[.int .u64 0,.int .u64 0]) ?_ 0 _ rfl;refine zD ?_;exact fG.out)):yO≠yP)) ((by rw [hg];exact Nat.ne_of_gt (dJ (g:=yO) (o := .cells #[.int .u64 0,.int .u64 sD] 179 (0,0)) (by refine zD ?_;refine aY (cs := #[.int .u64 0,.int .u64 0]) ?_ 1 _ rfl;refine zD ?_;refine aY (cs := #[.int .u64 0,.int .u64 0]) ?_ 0 _ rfl;refine zD ?_;exact fG.out)):yP≠yO));clear hb hbox hg;have aur:=wI.out;have aus:=wH.out;have ay3:=um.out;have ay4:=uj.out;obtain ⟨_,_⟩:=zC2 fH.out;obtain ⟨_,_⟩:=zF2 fH.out))
      try simp only [Act.put,List.setIfInBounds_toArray,List.set_cons_succ,List.set_cons_zero]
      go_loopg [8] k1 (fun kq v8 w'=>∃ (kW:Int) (jJ:Int) (jf:Int),v8 = .int .i64 kW∧aj (aJ.l1 kq a0 a1 kW jT jI 0 sD jJ jf=some r)∧aj (kq≤k1)∧aj (w'.heap[aeX]? = some (.cells #[.int .u64 jT,.int .u64 jI] 179 (0,0)))∧aj (w'.heap[yO]? = some (.cells #[.int .u64 0,.int .u64 sD] 179 (0,0)))∧aj (w'.heap[yP]? = some (.cells #[.int .u64 jJ,.int .u64 jf] 179 (0,0)))∧aj (Below w.heap.size w w'))
      case atStart=>exact ⟨(127),(0),(0),zT,H',⟨Nat.le_refl _⟩,⟨zK dX⟩,⟨zK fG⟩,⟨by refine zD ?_;refine aY (cs := #[.int .u64 0,.int .u64 0]) ?_ 1 _ rfl;refine zD ?_;refine aY (cs := #[.int .u64 0,.int .u64 0]) ?_ 0 _ rfl;refine zD ?_;exact fH.out⟩,⟨zB⟩⟩
      case round =>
       clear H'
       obtain ⟨kW,jJ,jf,rfl,HA,HK2,dX,fG,fH,HB⟩:=hrel
       cases gk with
       | zero=>exact absurd HA.out (by simp [aJ.l1])
       | succ k2 =>
        have H:=HA.out
        clear HA
        simp only [aJ.l1] at H
        by_cases c20:kW≥a1
        ·rw [if_pos c20] at H
         have auu:=decide_eq_true c20
         clear c20
         replace H:=zO H
         obtain ⟨ajT,A21,H⟩:=H
         try dsimp only at H
         replace H:=zO H
         obtain ⟨⟨aoY,asD⟩,A22,H⟩:=H
         try dsimp only at H
         have H':=aj.mk H
         clear H
         try go_wp2
         obtain ⟨dX,fG,fH,HB⟩:=zA4 (jv dX.out) (jv fG.out) (jv fH.out) (bg HB.out)
         refine acw (n:=6) (S:=fun w'=>w'.cell? ⟨yP,0,none⟩=some (.int .u64 jJ)∧w'.cell? ⟨yP,1,none⟩=some (.int .u64 jf)∧w'.cell? ⟨yO,0,none⟩=some (.int .u64 0)∧w'.cell? ⟨yO,1,none⟩=some (.int .u64 sD)) (ds:=[5]) #[false,false,false,false,false,false] (by kernel_rfl) rfl rfl ⟨(au fH.out 0).trans rfl,(au fH.out 1).trans rfl,(au fG.out 0).trans rfl,(au fG.out 1).trans rfl⟩ (fun hHeld => ?_)
         generalize wr.drew=w23 at dX fG fH HB hHeld ⊢
         refine xG (i:=2) (N:=some 37) (v := ?_) (a' := ?_) #[false,false,true,false,false,false] rfl rfl (by kernel_rfl) (fun _ _ _ h=>h) (Or.inl ⟨by rfl,?_⟩) ?_ ?_
         rotate_left
         ·intro w'
          go_simp
          with_reducible rfl
         rotate_left
         ·simp only [Act.put,List.setIfInBounds_toArray,List.set_cons_zero,List.set_cons_succ,bW,dA]
          rfl
         refine yE (i:=0) (N:=some 35) (v := ?_) (a' := ?_) #[true,false,true,false,false,false] rfl rfl (by kernel_rfl) (fun _ _ _ h=>h) (Or.inl ⟨by rfl,?_⟩) hHeld ?_ ?_
         rotate_left
         ·rintro w' ⟨s0,s1,s2,s3⟩
          go_simp
          with_reducible rfl
         rotate_left
         ·simp only [Act.put,List.setIfInBounds_toArray,List.set_cons_zero,List.set_cons_succ,bW,dA]
          rfl
         refine yE (i:=1) (N:=some 36) (v := ?_) (a' := ?_) #[true,true,true,false,false,false] rfl rfl (by kernel_rfl) (fun _ _ _ h=>h) (Or.inl ⟨by rfl,?_⟩) hHeld ?_ ?_
         rotate_left
         ·rintro w' ⟨s0,s1,s2,s3⟩
          go_simp
          with_reducible rfl
         rotate_left
         ·simp only [Act.put,List.setIfInBounds_toArray,List.set_cons_zero,List.set_cons_succ,bW,dA]
          rfl
         refine abj (i:=3) (N:=some 38) #[true,true,true,true,false,false] rfl rfl (by kernel_rfl) (by decide) (fun K hK => ?_)
         refine aaf Tryz.func121 (by kernel_rfl) rfl #[.agg #[.int .u64 0,.int .u64 sD],.int .i64 kW] (by rfl) rfl rfl zL ?_
         with_reducible refine (fF.calls 0 sD kW ajT _ A21.out).mono ?_
         rintro e w24 ⟨rfl,hb⟩
         refine ⟨_,rfl,?_⟩
         obtain ⟨dX,fG,fH,HB⟩:=zA4 (ay (zK dX) hb) (ay (zK fG) hb) (ay (zK fH) hb) (ak zB hb)
         (try clear hb)
         (try clear hb2)
         (try clear hk)
         (try clear hi)
         refine hK.out _ _ ⟨(au fH.out 0).trans rfl,(au fH.out 1).trans rfl,(au fG.out 0).trans rfl,(au fG.out 1).trans rfl⟩ (fun hHeld => ?_)
         clear hK K
         refine aae (a' := ?_) ?_ ?_
         rotate_left
         ·show Act.put _ (some 38) _=_
          simp only [Act.put,List.setIfInBounds_toArray,List.set_cons_zero,List.set_cons_succ,bW,dA]
          rfl
         refine abj (i:=4) (N:=some 39) #[true,true,true,true,true,false] rfl rfl (by kernel_rfl) (by decide) (fun K hK => ?_)
         refine aaf Tryz.func119 (by kernel_rfl) rfl #[.agg #[.int .u64 jJ,.int .u64 jf],.int .u64 ajT] (by rfl) rfl rfl zL ?_
         with_reducible refine (dL.calls jJ jf ajT aoY asD _ A22.out).mono ?_
         rintro e w25 ⟨rfl,hb⟩
         refine ⟨_,rfl,?_⟩
         obtain ⟨dX,fG,fH,HB⟩:=zA4 (ay (zK dX) hb) (ay (zK fG) hb) (ay (zK fH) hb) (ak zB hb)
         (try clear hb)
         (try clear hb2)
         (try clear hk)
         (try clear hi)
         refine hK.out _ _ ⟨(au fH.out 0).trans rfl,(au fH.out 1).trans rfl,(au fG.out 0).trans rfl,(au fG.out 1).trans rfl⟩ (fun hHeld => ?_)
         clear hK K
         refine aae (a' := ?_) ?_ ?_
         rotate_left
         ·show Act.put _ (some 39) _=_
          simp only [Act.put,List.setIfInBounds_toArray,List.set_cons_zero,List.set_cons_succ,bW,dA]
          rfl
         refine aiV (i:=5) (N:=none) #[true,true,true,true,true,true] rfl rfl (by kernel_rfl) (by decide) (fun K hK => ?_)
         have aAZ:w25.cell? ⟨yP,0,none⟩=some (.int .u64 jJ):=(au fH.out 0).trans rfl
         have ay5:=aN fH.out 0
         have axJ:=wH.out
         have axK:=uj.out
         have axL:=wI.out
         have axM:=um.out
         have aA0:w25.cell? ⟨yP,1,none⟩=some (.int .u64 jf):=(au fH.out 1).trans rfl
         have ay6:=aN fH.out 1
         have axN:=wH.out
         have axO:=uj.out
         have axP:=wI.out
         have axQ:=um.out
         refine agc (w1 := ?_) (by rfl) rfl ?_ ?_
         rotate_left
         ·go_simp
          rfl
         refine hK.out _ _ ?_
         clear hK K
         refine aeN (by kernel_rfl) ?_
         try go_wp2
         go_roundg k2
         case measure=>have:=HK1.out;have:=HK2.out;omega
         case rel=>exact ⟨(wrap64 (kW - 1)),(aoY),(asD),zT,H',⟨by have:=HK1.out;have:=HK2.out;omega⟩,⟨zK dX⟩,⟨zK fG⟩,⟨by refine zD ?_;refine aY (cs := #[.int .u64 aoY,.int .u64 jf]) ?_ 1 _ rfl;refine zD ?_;refine aY (cs := #[.int .u64 jJ,.int .u64 jf]) ?_ 0 _ rfl;refine zD ?_;exact fH.out⟩,⟨zB⟩⟩
        ·rw [if_neg c20] at H
         have auu:=decide_eq_false c20
         clear c20
         have H':=aj.mk H
         clear H
         have auv:=yh.out
         have auw:=yg.out
         have amk:=uj.out
         have aml:=um.out
         obtain ⟨_,_⟩:=zC2 fG.out
         obtain ⟨_,_⟩:=zF2 fG.out
         go_wp2_with (first|((with_reducible refine bK (N:=9) rfl ?_);refine bT zR (N:=9) zR (cs := #[.int .u64 0,.int .u64 0]) (t:=179) zG ?_;intro amv hg w31 hbox hb;obtain ⟨dX,fG,fH,HB,iR,ay7,ay8,abT,abU,yj,yt,yu,yx⟩:=afq (ay (zK dX) hb) (ay (zK fG) hb) (ay (zK fH) hb) (ak zB hb) hbox (zg hg zB) (zg hg zB) (zl hg (zK dX)) (zr hg (zK dX)) (zl hg (zK fG)) (zr hg (zK fG)) (zl hg (zK fH)) (zr hg (zK fH));clear hb hbox hg;have ay9:=abU.out;have aza:=abT.out;have auy:=yt.out;have auz:=yj.out;have azb:=yx.out;have azc:=yu.out;obtain ⟨_,_⟩:=zC2 iR.out;obtain ⟨_,_⟩:=zF2 iR.out))
         try simp only [Act.put,List.setIfInBounds_toArray,List.set_cons_succ,List.set_cons_zero]
         go_loopg [10] k2 (fun kq v10 w'=>∃ (mX:Int) (mD:Int) (lD:Int),v10 = .int .i64 mX∧aj (aJ.l2 kq a0 mX jT jI 0 sD jJ jf mD lD=some r)∧aj (kq≤k2)∧aj (w'.heap[aeX]? = some (.cells #[.int .u64 jT,.int .u64 jI] 179 (0,0)))∧aj (w'.heap[yO]? = some (.cells #[.int .u64 0,.int .u64 sD] 179 (0,0)))∧aj (w'.heap[yP]? = some (.cells #[.int .u64 jJ,.int .u64 jf] 179 (0,0)))∧aj (w'.heap[amv]? = some (.cells #[.int .u64 mD,.int .u64 lD] 179 (0,0)))∧aj (Below w.heap.size w w'))
         case atStart=>exact ⟨(a1),(0),(sD),zT,H',⟨Nat.le_refl _⟩,⟨zK dX⟩,⟨zK fG⟩,⟨zK fH⟩,⟨by refine zD ?_;refine aY (cs := #[.int .u64 0,.int .u64 0]) ?_ 1 _ rfl;refine zD ?_;refine aY (cs := #[.int .u64 0,.int .u64 0]) ?_ 0 _ rfl;refine zD ?_;exact iR.out⟩,⟨zB⟩⟩
         case round =>
          clear H'
          obtain ⟨mX,mD,lD,rfl,HA,HK3,dX,fG,fH,iR,HB⟩:=hrel
          cases gk with
          | zero=>exact absurd HA.out (by simp [aJ.l2])
          | succ k3 =>
           have H:=HA.out
           clear HA
           simp only [aJ.l2] at H
           by_cases c36:mX < 128
           ·rw [if_pos c36] at H
            have auA:=decide_eq_true c36
            clear c36
            replace H:=zO H
            obtain ⟨ac4,A37,H⟩:=H
            try dsimp only at H
            by_cases c38:ac4=1
            ·rw [if_pos c38] at H
             have ac5:(ac4 == 1)=true:=beq_iff_eq.mpr c38
             have amw:(ac4 != 1)=false:=bne_eq_false_iff_eq.mpr c38
             clear c38
             have H':=aj.mk H
             clear H
             have azd:=yh.out
             have aze:=yg.out
             have aqL:=uj.out
             have aqM:=um.out
             have aug:=yj.out
             have auh:=yt.out
             obtain ⟨_,_⟩:=zC2 fG.out
             obtain ⟨_,_⟩:=zF2 fG.out
             go_wp2_with (first|((with_reducible refine aA (f:=121) rfl ?_);refine aH (some 48) rfl rfl Tryz.func121 (by kernel_rfl) rfl #[.agg #[.int .u64 0,.int .u64 sD],.int .i64 mX] rfl zL ?_;(with_reducible refine (fF.calls 0 sD mX ac4 _ A37.out).mono ?_);rintro e w43 ⟨rfl,hb⟩;refine ⟨_,rfl,?_⟩;obtain ⟨dX,fG,fH,iR,HB⟩:=zA5 (ay (zK dX) hb) (ay (zK fG) hb) (ay (zK fH) hb) (ay (zK iR) hb) (ak zB hb);(try clear hb))|((with_reducible refine bK (N:=11) rfl ?_);refine bT zR (N:=11) zR (cs := #[.int .u64 0,.int .u64 0]) (t:=179) zG ?_;intro auB hg w44 hbox hb;have n0_:=aj.mk (ay (zK dX) hb);have n1_:=aj.mk (ay (zK fG) hb);have n2_:=aj.mk (ay (zK fH) hb);have n3_:=aj.mk (ay (zK iR) hb);have n4_:=aj.mk (ak zB hb);have n5_:=aj.mk (hbox);have n6_:=aj.mk (zg hg zB);have n7_:=aj.mk (zg hg zB);have n8_:=aj.mk (zl hg (zK dX));have n9_:=aj.mk (zr hg (zK dX));have asE:=aj.mk (zl hg (zK fG));have asF:=aj.mk (zr hg (zK fG));have asG:=aj.mk (zl hg (zK fH));have asH:=aj.mk (zr hg (zK fH));have asI:=aj.mk (zl hg (zK iR));have asJ:=aj.mk (zr hg (zK iR));clear dX;clear fG;clear fH;clear iR;clear HB;have dX:=n0_;have fG:=n1_;have fH:=n2_;have iR:=n3_;have HB:=n4_;have uH:=n5_;have azf:=n6_;have azg:=n7_;have ad8:=n8_;have ad9:=n9_;have aea:=asE;have aeb:=asF;have aec:=asG;have aed:=asH;have aee:=asI;have aef:=asJ;clear n0_ n1_ n2_ n3_ n4_ n5_ n6_ n7_ n8_ n9_ asE asF asG asH asI asJ;clear hb hbox hg;have azh:=ad9.out;have azi:=ad8.out;have aqN:=aeb.out;have aqO:=aea.out;have aui:=aed.out;have auj:=aec.out;have azj:=aef.out;have azk:=aee.out;obtain ⟨_,_⟩:=zC2 uH.out;obtain ⟨_,_⟩:=zF2 uH.out))
             try simp only [Act.put,List.setIfInBounds_toArray,List.set_cons_succ,List.set_cons_zero]
             go_loopg [52] k3 (fun kq v52 w'=>∃ (agy:Int) (uo:Int) (rM:Int),v52 = .int .i64 agy∧aj (aJ.l3 kq a0 mX mX agy jT jI 0 sD jJ jf mD lD uo rM=some r)∧aj (kq≤k3)∧aj (w'.heap[aeX]? = some (.cells #[.int .u64 jT,.int .u64 jI] 179 (0,0)))∧aj (w'.heap[yO]? = some (.cells #[.int .u64 0,.int .u64 sD] 179 (0,0)))∧aj (w'.heap[yP]? = some (.cells #[.int .u64 jJ,.int .u64 jf] 179 (0,0)))∧aj (w'.heap[amv]? = some (.cells #[.int .u64 mD,.int .u64 lD] 179 (0,0)))∧aj (w'.heap[auB]? = some (.cells #[.int .u64 uo,.int .u64 rM] 179 (0,0)))∧aj (Below w.heap.size w w'))
             case atStart=>exact ⟨(0),(0),(1),zT,H',⟨Nat.le_refl _⟩,⟨zK dX⟩,⟨zK fG⟩,⟨zK fH⟩,⟨zK iR⟩,⟨by refine zD ?_;refine aY (cs := #[.int .u64 0,.int .u64 0]) ?_ 1 _ rfl;refine zD ?_;refine aY (cs := #[.int .u64 0,.int .u64 0]) ?_ 0 _ rfl;refine zD ?_;exact uH.out⟩,⟨zB⟩⟩
             case round =>
              clear H'
              obtain ⟨agy,uo,rM,rfl,HA,HK4,dX,fG,fH,iR,uH,HB⟩:=hrel
              cases gk with
              | zero=>exact absurd HA.out (by simp [aJ.l3])
              | succ k4 =>
               have H:=HA.out
               clear HA
               simp only [aJ.l3] at H
               by_cases c50:agy < mX
               ·rw [if_pos c50] at H
                have auC:=decide_eq_true c50
                clear c50
                replace H:=zO H
                obtain ⟨⟨aoZ,asK⟩,A51,H⟩:=H
                try dsimp only at H
                have H':=aj.mk H
                clear H
                have auD:=ad9.out
                have auE:=ad8.out
                have azl:=aeb.out
                have azm:=aea.out
                have azn:=aed.out
                have azo:=aec.out
                have azp:=aef.out
                have azq:=aee.out
                obtain ⟨_,_⟩:=zC2 uH.out
                obtain ⟨_,_⟩:=zF2 uH.out
                go_wp2_with (first|((with_reducible refine aA (f:=119) rfl ?_);refine aH (some 55) rfl rfl Tryz.func119 (by kernel_rfl) rfl #[.agg #[.int .u64 uo,.int .u64 rM],.int .u64 0] rfl zL ?_;(with_reducible refine (dL.calls uo rM 0 aoZ asK _ A51.out).mono ?_);rintro e w57 ⟨rfl,hb⟩;refine ⟨_,rfl,?_⟩;obtain ⟨dX,fG,fH,iR,uH,HB⟩:=zA6 (ay (zK dX) hb) (ay (zK fG) hb) (ay (zK fH) hb) (ay (zK iR) hb) (ay (zK uH) hb) (ak zB hb);(try clear hb);obtain ⟨_,_⟩:=zC2 uH.out;obtain ⟨_,_⟩:=zF2 uH.out))
                go_roundg k4
                case measure=>have:=HK1.out;have:=HK2.out;have:=HK3.out;have:=HK4.out;omega
                case rel=>exact ⟨(wrap64 (agy+1)),(aoZ),(asK),zT,H',⟨by have:=HK1.out;have:=HK2.out;have:=HK3.out;have:=HK4.out;omega⟩,⟨zK dX⟩,⟨zK fG⟩,⟨zK fH⟩,⟨zK iR⟩,⟨by refine zD ?_;refine aY (cs := #[.int .u64 aoZ,.int .u64 rM]) ?_ 1 _ rfl;refine zD ?_;refine aY (cs := #[.int .u64 uo,.int .u64 rM]) ?_ 0 _ rfl;refine zD ?_;exact uH.out⟩,⟨zB⟩⟩
               ·rw [if_neg c50] at H
                have auC:=decide_eq_false c50
                clear c50
                replace H:=zO H
                obtain ⟨⟨ao0,asL⟩,A59,H⟩:=H
                try dsimp only at H
                have H':=aj.mk H
                clear H
                have azr:=abU.out
                have azs:=abT.out
                have azt:=yt.out
                have azu:=yj.out
                have aum:=yx.out
                have aun:=yu.out
                have auo:=aee.out
                have aup:=aef.out
                obtain ⟨_,_⟩:=zC2 iR.out
                obtain ⟨_,_⟩:=zF2 iR.out
                have azv:=ad9.out
                have azw:=ad8.out
                have azx:=aeb.out
                have azy:=aea.out
                have azz:=aed.out
                have azA:=aec.out
                obtain ⟨_,_⟩:=zC2 uH.out
                obtain ⟨_,_⟩:=zF2 uH.out
                go_wp2_with (first|((with_reducible refine aA (f:=122) rfl ?_);refine aH (some 59) rfl rfl Tryz.func122 (by kernel_rfl) rfl #[.agg #[.int .u64 mD,.int .u64 lD],.agg #[.int .u64 uo,.int .u64 rM]] rfl zL ?_;(with_reducible refine (jU.calls mD lD uo rM ao0 asL _ A59.out).mono ?_);rintro e w69 ⟨rfl,hb⟩;refine ⟨_,rfl,?_⟩;obtain ⟨dX,fG,fH,iR,uH,HB⟩:=zA6 (ay (zK dX) hb) (ay (zK fG) hb) (ay (zK fH) hb) (ay (zK iR) hb) (ay (zK uH) hb) (ak zB hb);(try clear hb);obtain ⟨_,_⟩:=zC2 iR.out;obtain ⟨_,_⟩:=zF2 iR.out))
                go_roundg k4
                case measure=>have:=HK1.out;have:=HK2.out;have:=HK3.out;have:=HK4.out;omega
                case rel=>exact ⟨(wrap64 (mX+1)),(ao0),(asL),zT,H',⟨by have:=HK1.out;have:=HK2.out;have:=HK3.out;have:=HK4.out;omega⟩,⟨zK dX⟩,⟨zK fG⟩,⟨zK fH⟩,⟨by refine zD ?_;refine aY (cs := #[.int .u64 ao0,.int .u64 lD]) ?_ 1 _ rfl;refine zD ?_;refine aY (cs := #[.int .u64 mD,.int .u64 lD]) ?_ 0 _ rfl;refine zD ?_;exact iR.out⟩,⟨zB⟩⟩
            ·rw [if_neg c38] at H
             have ac5:(ac4 == 1)=false:=beq_eq_false_iff_ne.mpr c38
             have amw:(ac4 != 1)=true:=bne_iff_ne.mpr c38
             have H':=aj.mk H
             clear H
             have azB:=yh.out
             have azC:=yg.out
             have azD:=uj.out
             have azE:=um.out
             have azF:=yj.out
             have azG:=yt.out
             obtain ⟨_,_⟩:=zC2 fG.out
             obtain ⟨_,_⟩:=zF2 fG.out
             go_wp2_with (first|((with_reducible refine aA (f:=121) rfl ?_);refine aH (some 48) rfl rfl Tryz.func121 (by kernel_rfl) rfl #[.agg #[.int .u64 0,.int .u64 sD],.int .i64 mX] rfl zL ?_;(with_reducible refine (fF.calls 0 sD mX ac4 _ A37.out).mono ?_);rintro e w75 ⟨rfl,hb⟩;refine ⟨_,rfl,?_⟩;obtain ⟨dX,fG,fH,iR,HB⟩:=zA5 (ay (zK dX) hb) (ay (zK fG) hb) (ay (zK fH) hb) (ay (zK iR) hb) (ak zB hb);(try clear hb)))
             go_roundg k3
             case measure=>have:=HK1.out;have:=HK2.out;have:=HK3.out;omega
             case rel=>exact ⟨(wrap64 (mX+1)),(mD),(lD),zT,H',⟨by have:=HK1.out;have:=HK2.out;have:=HK3.out;omega⟩,⟨zK dX⟩,⟨zK fG⟩,⟨zK fH⟩,⟨zK iR⟩,⟨zB⟩⟩
           ·rw [if_neg c36] at H
            have auA:=decide_eq_false c36
            clear c36
            replace H:=zO H
            obtain ⟨ams,A76,H⟩:=H
            try dsimp only at H
            have ao1:=aj.mk H
            clear H
            have azH:=abU.out
            have azI:=abT.out
            have azJ:=yt.out
            have azK:=yj.out
            have azL:=yx.out
            have azM:=yu.out
            obtain ⟨_,_⟩:=zC2 iR.out
            obtain ⟨_,_⟩:=zF2 iR.out
            have azN:=yg.out
            have azO:=yh.out
            have azP:=wH.out
            have azQ:=wI.out
            obtain ⟨_,_⟩:=zC2 dX.out
            obtain ⟨_,_⟩:=zF2 dX.out
            go_upto_if 65 with (first|((with_reducible refine aA (f:=123) rfl ?_);refine aH (some 62) rfl rfl Tryz.func123 (by kernel_rfl) rfl #[.agg #[.int .u64 mD,.int .u64 lD],.agg #[.int .u64 jT,.int .u64 jI]] rfl zL ?_;(with_reducible refine (ig.calls mD lD jT jI ams _ A76.out).mono ?_);rintro e w85 ⟨rfl,hb⟩;refine ⟨_,rfl,?_⟩;obtain ⟨dX,fG,fH,iR,HB⟩:=zA5 (ay (zK dX) hb) (ay (zK fG) hb) (ay (zK fH) hb) (ay (zK iR) hb) (ak zB hb);(try clear hb)))
            (try simp only [Act.put,List.setIfInBounds_toArray,List.set_cons_zero,List.set_cons_succ])
            go_cut [12] (fun v12 wc=>∃ (kq:Nat) (agz:Bool),v12 = .bool agz∧aj (aJ.j4 kq a0 agz jJ jf=some r)∧aj (kq≤k3)∧aj (wc.heap[aeX]? = some (.cells #[.int .u64 jT,.int .u64 jI] 179 (0,0)))∧aj (wc.heap[yO]? = some (.cells #[.int .u64 0,.int .u64 sD] 179 (0,0)))∧aj (wc.heap[yP]? = some (.cells #[.int .u64 jJ,.int .u64 jf] 179 (0,0)))∧aj (wc.heap[amv]? = some (.cells #[.int .u64 mD,.int .u64 lD] 179 (0,0)))∧aj (Below w.heap.size w wc))
            case first =>
             have H:=ao1.out
             clear ao1
             by_cases c86:a0 < 0
             ·rw [if_pos c86] at H
              have agA:=decide_eq_true c86
              clear c86
              (first|rw [agA]|(simp only [bW,dA];rw [agA])|skip)
              replace H:=zO H
              obtain ⟨amu,A87,H⟩:=H
              try dsimp only at H
              have H':=aj.mk H
              clear H
              have azR:=yg.out
              have azS:=yh.out
              have azT:=wH.out
              have azU:=wI.out
              have azV:=abT.out
              have azW:=abU.out
              obtain ⟨_,_⟩:=zC2 dX.out
              obtain ⟨_,_⟩:=zF2 dX.out
              have azX:=yt.out
              have azY:=yj.out
              have azZ:=yx.out
              have az0:=yu.out
              obtain ⟨_,_⟩:=zC2 iR.out
              obtain ⟨_,_⟩:=zF2 iR.out
              go_wp2_with (first|((with_reducible refine aA (f:=123) rfl ?_);refine aH (some 68) rfl rfl Tryz.func123 (by kernel_rfl) rfl #[.agg #[.int .u64 jT,.int .u64 jI],.agg #[.int .u64 mD,.int .u64 lD]] rfl zL ?_;(with_reducible refine (ig.calls jT jI mD lD amu _ A87.out).mono ?_);rintro e w95 ⟨rfl,hb⟩;refine ⟨_,rfl,?_⟩;obtain ⟨dX,fG,fH,iR,HB⟩:=zA5 (ay (zK dX) hb) (ay (zK fG) hb) (ay (zK fH) hb) (ay (zK iR) hb) (ak zB hb);(try clear hb)))
              go_meet
              case rel=>exact ⟨_,(amu),zT,H',⟨by have:=HK1.out;have:=HK2.out;have:=HK3.out;first|omega|exact Nat.le_refl _⟩,⟨zK dX⟩,⟨zK fG⟩,⟨zK fH⟩,⟨zK iR⟩,⟨zB⟩⟩
             ·rw [if_neg c86] at H
              have agA:=decide_eq_false c86
              clear c86
              (first|rw [agA]|(simp only [bW,dA];rw [agA])|skip)
              have H':=aj.mk H
              clear H
              go_wp2
              go_meet
              case rel=>exact ⟨_,(!ams),zT,H',⟨by have:=HK1.out;have:=HK2.out;have:=HK3.out;first|omega|exact Nat.le_refl _⟩,⟨zK dX⟩,⟨zK fG⟩,⟨zK fH⟩,⟨zK iR⟩,⟨zB⟩⟩
            case rest =>
             clear ao1
             obtain ⟨kq,agz,rfl,HA,aA1,dX,fG,fH,iR,HB⟩:=hcut
             cases kq with
             | zero=>exact absurd HA.out (by simp [aJ.j4])
             | succ asM =>
              have H:=HA.out
              clear HA
              simp only [aJ.j4] at H
              by_cases c96:agz=true
              ·subst c96
               rw [if_pos rfl] at H;try dsimp only at H
               replace H:=zO H
               obtain ⟨⟨ajU,amx⟩,A97,H⟩:=H
               try dsimp only at H
               replace H:=zO H
               obtain ⟨aoV,A98,H⟩:=H
               try dsimp only at H
               obtain rfl:=Option.some.inj H
               have az1:=wI.out
               have az2:=wH.out
               have axY:=um.out
               have axZ:=uj.out
               have ax0:=yu.out
               have ax1:=yx.out
               obtain ⟨_,_⟩:=zC2 fH.out
               obtain ⟨_,_⟩:=zF2 fH.out
               go_wp2_with (first|((with_reducible refine aA (f:=124) rfl ?_);refine aH (some 72) rfl rfl Tryz.func124 (by kernel_rfl) rfl #[.agg #[.int .u64 jJ,.int .u64 jf],.agg #[.int .u64 0,.int .u64 1]] rfl zL ?_;(with_reducible refine (gJ.calls jJ jf 0 1 ajU amx _ A97.out).mono ?_);rintro e aA2 ⟨rfl,hb⟩;refine ⟨_,rfl,?_⟩;obtain ⟨dX,fG,fH,iR,HB⟩:=zA5 (ay (zK dX) hb) (ay (zK fG) hb) (ay (zK fH) hb) (ay (zK iR) hb) (ak zB hb);(try clear hb);obtain ⟨_,_⟩:=zC2 fH.out;obtain ⟨_,_⟩:=zF2 fH.out)|((with_reducible refine aA (f:=125) rfl ?_);refine aH (some 76) rfl rfl Tryz.func125 (by kernel_rfl) rfl #[.agg #[.int .u64 ajU,.int .u64 amx],.bool (decide (a0 < 0))] rfl zL ?_;(with_reducible refine (bM.calls asM ajU amx (decide (a0 < 0)) aoV _ A98.out).mono ?_);rintro e aA3 ⟨rfl,hb⟩;refine ⟨_,rfl,?_⟩;obtain ⟨dX,fG,fH,iR,HB⟩:=zA5 (ay (zK dX) hb) (ay (zK fG) hb) (ay (g:=yP) (o := .cells #[.int .u64 ajU,.int .u64 amx] 179 (0,0)) (by refine zD ?_;refine aY (cs := #[.int .u64 ajU,.int .u64 jf]) ?_ 1 _ rfl;refine zD ?_;refine aY (cs := #[.int .u64 jJ,.int .u64 jf]) ?_ 0 _ rfl;refine zD ?_;exact fH.out) hb) (ay (zK iR) hb) (ak zB hb);(try clear hb)))
               go_ret
               exact ⟨zS,zB⟩
              ·replace c96:=Bool.eq_false_iff.mpr c96
               subst c96
               rw [if_neg (show ¬ (false=true) by decide)] at H;try dsimp only at H
               replace H:=zO H
               obtain ⟨aoW,avT,H⟩:=H
               try dsimp only at H
               obtain rfl:=Option.some.inj H
               have ax2:=wI.out
               have ax3:=wH.out
               have ax4:=um.out
               have ax5:=uj.out
               have ax6:=yu.out
               have ax7:=yx.out
               obtain ⟨_,_⟩:=zC2 fH.out
               obtain ⟨_,_⟩:=zF2 fH.out
               go_wp2_with (first|((with_reducible refine aA (f:=125) rfl ?_);refine aH (some 76) rfl rfl Tryz.func125 (by kernel_rfl) rfl #[.agg #[.int .u64 jJ,.int .u64 jf],.bool (decide (a0 < 0))] rfl zL ?_;(with_reducible refine (bM.calls asM jJ jf (decide (a0 < 0)) aoW _ avT.out).mono ?_);rintro e aA4 ⟨rfl,hb⟩;refine ⟨_,rfl,?_⟩;obtain ⟨dX,fG,fH,iR,HB⟩:=zA5 (ay (zK dX) hb) (ay (zK fG) hb) (ay (zK fH) hb) (ay (zK iR) hb) (ak zB hb);(try clear hb)))
               go_ret
               exact ⟨zS,zB⟩
end Go.Proofs.YtpondkggmcmpfaaGreatDoor.QA
namespace Go.Proofs.YtpondkggmcmpfaaGreatDoor.QA
open Go.Proofs.YtpondkggmcmpfaaGreatDoor.T
open Go.RowKit Go.Proofs.YtpondkggmcmpfaaGreatDoorW.PrintWords Go.Proofs.YtpondkggmcmpfaaGreatDoorW.PrintLast Go.Proofs.YtpondkggmcmpfaaGreatDoorW.PrintMore
attribute [local go_sem] dY dS dU fA fB
set_option linter.unusedVariables false
set_option linter.unusedSimpArgs false
def kS.f (a0 a1:Int):Option (Bool):=if a1 < 1 then (some false) else (if a1 > 1048576 then (some false) else (if a0≤(wrap64 (4*a1)) then (some (decide (a0≥(wrap64 ((-4)*a1))))) else (some false)))
set_option maxHeartbeats 8000000 in
set_option maxRecDepth 100000 in
theorem kS.calls (a0 a1:Int) (r:Bool) (w:World) (h:kS.f a0 a1=some r) :
  Calls Tryz.prog 184 #[.int .i64 a0,.int .i64 a1] w fun e w'=>e = .returned (.bool r)∧dw w w':=by
 have H:=h
 clear h
 unfold kS.f at H
 by_cases c3:a1 < 1
 ·rw [if_pos c3] at H
  have fQ:=decide_eq_true c3
  clear c3
  obtain rfl:=Option.some.inj H
  go_enter Tryz.func184,Tryz.ntmps184
  go_wp2
  go_ret
  exact ⟨zT,zW⟩
 ·rw [if_neg c3] at H
  have fQ:=decide_eq_false c3
  clear c3
  by_cases c4:a1 > 1048576
  ·rw [if_pos c4] at H
   have fV:=decide_eq_true c4
   clear c4
   obtain rfl:=Option.some.inj H
   go_enter Tryz.func184,Tryz.ntmps184
   go_wp2
   go_ret
   exact ⟨zT,zW⟩
  ·rw [if_neg c4] at H
   have fV:=decide_eq_false c4
   clear c4
   by_cases c5:a0≤(wrap64 (4*a1))
   ·rw [if_pos c5] at H
    have iM:=decide_eq_true c5
    clear c5
    obtain rfl:=Option.some.inj H
    go_enter Tryz.func184,Tryz.ntmps184
    go_wp2
    go_ret
    exact ⟨zT,zW⟩
   ·rw [if_neg c5] at H
    have iM:=decide_eq_false c5
    clear c5
    obtain rfl:=Option.some.inj H
    go_enter Tryz.func184,Tryz.ntmps184
    go_wp2
    go_ret
    exact ⟨zT,zW⟩
end Go.Proofs.YtpondkggmcmpfaaGreatDoor.QA
