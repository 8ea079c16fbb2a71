/- Joined by wip/tools/bundle.py out of: QAx24 QAx25 QAx26 QAx27 QAx28 QAx29. -/
import Derived.Test.YtpondkggmcmpfaaGreatDoorBPlanTiles0
import Derived.Test.YtpondkggmcmpfaaGreatDoorBPlanTiles1
import Derived.Test.YtpondkggmcmpfaaGreatDoorBPlanTiles7
namespace Go.Proofs.YtpondkggmcmpfaaGreatDoor.QA
open Go.Proofs.YtpondkggmcmpfaaGreatDoor.T
open Go.RowKit Go.Proofs.YtpondkggmcmpfaaGreatDoorW.PrintWords Go.Proofs.YtpondkggmcmpfaaGreatDoorW.PrintLast Go.Proofs.YtpondkggmcmpfaaGreatDoorW.PrintMore
attribute [local go_sem] eG dX dY fF fG
set_option linter.unusedVariables false
set_option linter.unusedSimpArgs false
def kJ.f (bH cO lJ oG:Int):Option (Int × Int):=if cO < oG then (some (IntKind.u64.wrap ((IntKind.u64.wrap (bH - lJ)) - 1),IntKind.u64.wrap (cO - oG))) else (some (IntKind.u64.wrap (bH - lJ),IntKind.u64.wrap (cO - oG)))
set_option maxHeartbeats 8000000 in
set_option maxRecDepth 100000 in
theorem kJ.calls (bH cO lJ oG r1 r2:Int) (w:World) (h:kJ.f bH cO lJ oG=some (r1,r2)) :
  Calls Tryz.prog 122 #[.agg #[.int .u64 bH,.int .u64 cO],.agg #[.int .u64 lJ,.int .u64 oG]] w fun e w'=>e = .returned (.agg #[.int .u64 r1,.int .u64 r2])∧Below w.heap.size w w':=by
 have yR:=Tryz.underlying179
 have HB:=aj.mk (Below.refl w.heap.size w)
 have H:=h
 clear h
 unfold kJ.f at H
 by_cases c3:cO < oG
 ·rw [if_pos c3] at H
  have gq:=decide_eq_true c3
  clear c3
  simp only [Option.some.injEq,Prod.mk.injEq] at H
  obtain ⟨rfl,rfl⟩:=H
  go_enter Tryz.func122,Tryz.ntmps122
  go_wp2_with (first|((with_reducible refine bK (N:=2) rfl ?_);refine bJ zR (N:=2) zR (cs := #[.int .u64 bH,.int .u64 cO]) (t:=179) zG ?_;intro avI hg w4 hbox hb;obtain ⟨HB,kK,avJ,avK⟩:=zA4 (ak zB hb) hbox (zg hg zB) (zg hg zB);clear hb hbox hg)|((with_reducible refine bK (N:=3) rfl ?_);refine bJ zR (N:=3) zR (cs := #[.int .u64 lJ,.int .u64 oG]) (t:=179) zG ?_;intro avL hg w5 hbox hb;obtain ⟨kK,HB,nP,avM,avN,aeI,aeJ⟩:=zA7 (ay (zK kK) hb) (ak zB hb) hbox (zg hg zB) (zg hg zB) (zl hg (zK kK)) (zr hg (zK kK));clear hb hbox hg)|((with_reducible refine bK (N:=4) rfl ?_);refine bJ zR (N:=4) zR (cs := #[.int .u64 0,.int .u64 0]) (t:=179) zG ?_;intro anJ hg w6 hbox hb;obtain ⟨kK,nP,HB,vU,avO,avP,aeK,aeL,aeM,aeN⟩:=aeA (ay (zK kK) hb) (ay (zK nP) hb) (ak zB hb) hbox (zg hg zB) (zg hg zB) (zl hg (zK kK)) (zr hg (zK kK)) (zl hg (zK nP)) (zr hg (zK nP));clear hb hbox hg;have auE:=aeI.out;have auF:=aeJ.out;have auG:=aeK.out;have auH:=aeL.out;obtain ⟨_,_⟩:=zC2 kK.out;obtain ⟨_,_⟩:=zF2 kK.out;have avQ:=aeM.out;have avR:=aeN.out;obtain ⟨_,_⟩:=zC2 nP.out;obtain ⟨_,_⟩:=zF2 nP.out)|((with_reducible refine bK (N:=5) rfl ?_);refine bJ zR (N:=5) zR (cs := #[.int .u64 0,.int .u64 0]) (t:=179) zG ?_;intro avS hg w12 hbox hb;obtain ⟨kK,nP,vU,HB,ahq,avT,avU,aeO,aeP,aeQ,aeR,vJ,aeS⟩:=agm (ay (zK kK) hb) (ay (zK nP) hb) (ay (zK vU) hb) (ak zB hb) hbox (zg hg zB) (zg hg zB) (zl hg (zK kK)) (zr hg (zK kK)) (zl hg (zK nP)) (zr hg (zK nP)) (zl hg (zK vU)) (zr hg (zK vU));clear hb hbox hg;have anK:=aeP.out;have anL:=aeO.out;have anM:=aeR.out;have anN:=aeQ.out;have avV:=aeS.out;have avW:=vJ.out;obtain ⟨_,_⟩:=zC2 ahq.out;obtain ⟨_,_⟩:=zF2 ahq.out;obtain ⟨_,_⟩:=zC2 kK.out;obtain ⟨_,_⟩:=zF2 kK.out;obtain ⟨_,_⟩:=zC2 nP.out;obtain ⟨_,_⟩:=zF2 nP.out;obtain ⟨_,_⟩:=zC2 vU.out;obtain ⟨_,_⟩:=zF2 vU.out))
  refine bodyPost_ret (results_cell_row rfl _ _ anJ 179 #[.int .u64 (IntKind.u64.wrap ((IntKind.u64.wrap (bH - lJ)) - 1)),.int .u64 (IntKind.u64.wrap (cO - oG))] (0,0) _ rfl (by refine zD ?_;refine aJ (cs := #[.int .u64 (IntKind.u64.wrap ((IntKind.u64.wrap (bH - lJ)) - 1)),.int .u64 0]) ?_ 1 _ rfl;refine zD ?_;refine aJ (cs := #[.int .u64 0,.int .u64 0]) ?_ 0 _ rfl;refine zD ?_;refine iW ?_ vJ.out _;refine zD ?_;refine iW ?_ vJ.out _;refine zD ?_;refine iW ?_ vJ.out _;refine zD ?_;exact vU.out) Tryz.underlying179 rfl (by kernel_rfl)) rfl ?_
  exact ⟨zS,zB⟩
 ·rw [if_neg c3] at H
  have gq:=decide_eq_false c3
  clear c3
  simp only [Option.some.injEq,Prod.mk.injEq] at H
  obtain ⟨rfl,rfl⟩:=H
  go_enter Tryz.func122,Tryz.ntmps122
  go_wp2_with (first|((with_reducible refine bK (N:=2) rfl ?_);refine bJ zR (N:=2) zR (cs := #[.int .u64 bH,.int .u64 cO]) (t:=179) zG ?_;intro avI hg w20 hbox hb;obtain ⟨HB,kK,avJ,avK⟩:=zA4 (ak zB hb) hbox (zg hg zB) (zg hg zB);clear hb hbox hg)|((with_reducible refine bK (N:=3) rfl ?_);refine bJ zR (N:=3) zR (cs := #[.int .u64 lJ,.int .u64 oG]) (t:=179) zG ?_;intro avL hg w21 hbox hb;obtain ⟨kK,HB,nP,avM,avN,aeI,aeJ⟩:=zA7 (ay (zK kK) hb) (ak zB hb) hbox (zg hg zB) (zg hg zB) (zl hg (zK kK)) (zr hg (zK kK));clear hb hbox hg)|((with_reducible refine bK (N:=4) rfl ?_);refine bJ zR (N:=4) zR (cs := #[.int .u64 0,.int .u64 0]) (t:=179) zG ?_;intro anJ hg w22 hbox hb;obtain ⟨kK,nP,HB,vU,avO,avP,aeK,aeL,aeM,aeN⟩:=aeA (ay (zK kK) hb) (ay (zK nP) hb) (ak zB hb) hbox (zg hg zB) (zg hg zB) (zl hg (zK kK)) (zr hg (zK kK)) (zl hg (zK nP)) (zr hg (zK nP));clear hb hbox hg;have anO:=aeI.out;have anP:=aeJ.out;have aAO:=aeK.out;have aAP:=aeL.out;obtain ⟨_,_⟩:=zC2 kK.out;obtain ⟨_,_⟩:=zF2 kK.out;have avX:=aeM.out;have avY:=aeN.out;obtain ⟨_,_⟩:=zC2 nP.out;obtain ⟨_,_⟩:=zF2 nP.out)|((with_reducible refine bK (N:=5) rfl ?_);refine bJ zR (N:=5) zR (cs := #[.int .u64 0,.int .u64 0]) (t:=179) zG ?_;intro avS hg w28 hbox hb;obtain ⟨kK,nP,vU,HB,ahq,avT,avU,aeO,aeP,aeQ,aeR,vJ,aeS⟩:=agm (ay (zK kK) hb) (ay (zK nP) hb) (ay (zK vU) hb) (ak zB hb) hbox (zg hg zB) (zg hg zB) (zl hg (zK kK)) (zr hg (zK kK)) (zl hg (zK nP)) (zr hg (zK nP)) (zl hg (zK vU)) (zr hg (zK vU));clear hb hbox hg;have anQ:=aeP.out;have anR:=aeO.out;have asB:=aeR.out;have asC:=aeQ.out;have aAQ:=aeS.out;have aAR:=vJ.out;obtain ⟨_,_⟩:=zC2 ahq.out;obtain ⟨_,_⟩:=zF2 ahq.out;obtain ⟨_,_⟩:=zC2 kK.out;obtain ⟨_,_⟩:=zF2 kK.out;obtain ⟨_,_⟩:=zC2 nP.out;obtain ⟨_,_⟩:=zF2 nP.out;obtain ⟨_,_⟩:=zC2 vU.out;obtain ⟨_,_⟩:=zF2 vU.out))
  refine bodyPost_ret (results_cell_row rfl _ _ anJ 179 #[.int .u64 (IntKind.u64.wrap (bH - lJ)),.int .u64 (IntKind.u64.wrap (cO - oG))] (0,0) _ rfl (by refine zD ?_;refine aJ (cs := #[.int .u64 (IntKind.u64.wrap (bH - lJ)),.int .u64 0]) ?_ 1 _ rfl;refine zD ?_;refine aJ (cs := #[.int .u64 0,.int .u64 0]) ?_ 0 _ rfl;refine zD ?_;refine iW ?_ vJ.out _;refine zD ?_;refine iW ?_ vJ.out _;refine zD ?_;exact vU.out) Tryz.underlying179 rfl (by kernel_rfl)) rfl ?_
  exact ⟨zS,zB⟩
end Go.Proofs.YtpondkggmcmpfaaGreatDoor.QA
namespace Go.Proofs.YtpondkggmcmpfaaGreatDoor.QA
open Go.Proofs.YtpondkggmcmpfaaGreatDoor.T
open Go.RowKit Go.Proofs.YtpondkggmcmpfaaGreatDoorW.PrintWords Go.Proofs.YtpondkggmcmpfaaGreatDoorW.PrintLast Go.Proofs.YtpondkggmcmpfaaGreatDoorW.PrintMore
attribute [local go_sem] eG dX dY fF fG
set_option linter.unusedVariables false
set_option linter.unusedSimpArgs false
def fH.l0:Nat→Int→Int→Int→Int→Int→Int→Int→Int→Option (Int × Int × Int)
 | 0,_,_,_,_,_,_,_,_=>none
 | k+1,x1,x8,aiC,aiD,amN,amO,atN,amP=>if x8≥0 then ((fO.f aiC aiD x8).bind fun aeT=>((dO.f atN amP aeT).bind fun afK=>((dO.f amN amO 0).bind fun aj9=>((iH.f afK.1 afK.2 0 x1).bind fun aqs=>(if aqs=true then (fH.l0 k x1 (wrap64 (x8 - 1)) aiC aiD aj9.1 aj9.2 afK.1 afK.2) else ((kJ.f afK.1 afK.2 0 x1).bind fun asD=>(fH.l0 k x1 (wrap64 (x8 - 1)) aiC aiD aj9.1 (IntKind.u64.wrap (aj9.2+1)) asD.1 asD.2))))))) else (some (amN,amO,amP))
def fH.f (k:Nat) (bH cO a1:Int):Option (Int × Int × Int):=if a1=0 then (some (0,0,0)) else (fH.l0 k a1 127 bH cO 0 0 0 0)
set_option maxHeartbeats 8000000 in
set_option maxRecDepth 100000 in
theorem fH.calls (k:Nat) (bH cO a1 r1 r2 r3:Int) (w:World) (h:fH.f k bH cO a1=some (r1,r2,r3)) :
  Calls Tryz.prog 172 #[.agg #[.int .u64 bH,.int .u64 cO],.int .u64 a1] w fun e w'=>e = .returned (.tuple #[.agg #[.int .u64 r1,.int .u64 r2],.int .u64 r3])∧Below w.heap.size w w':=by
 have yR:=Tryz.underlying179
 have HB:=aj.mk (Below.refl w.heap.size w)
 have H:=h
 clear h
 unfold fH.f at H
 by_cases c3:a1=0
 ·rw [if_pos c3] at H
  have gq:(a1 == 0)=true:=beq_iff_eq.mpr c3
  have yD:(a1 != 0)=false:=bne_eq_false_iff_eq.mpr c3
  clear c3
  simp only [Option.some.injEq,Prod.mk.injEq] at H
  obtain ⟨rfl,rfl,rfl⟩:=H
  go_enter Tryz.func172,Tryz.ntmps172
  go_wp2_with (first|((with_reducible refine bK (N:=2) rfl ?_);refine bJ zR (N:=2) zR (cs := #[.int .u64 bH,.int .u64 cO]) (t:=179) zG ?_;intro afL hg w4 hbox hb;obtain ⟨HB,fB,avZ,av1⟩:=zA4 (ak zB hb) hbox (zg hg zB) (zg hg zB);clear hb hbox hg)|((with_reducible refine bK (N:=4) rfl ?_);refine bJ zR (N:=4) zR (cs := #[.int .u64 0,.int .u64 0]) (t:=179) zG ?_;intro xu hg w5 hbox hb;obtain ⟨fB,HB,iy,av2,av3,acI,acJ⟩:=zA7 (ay (zK fB) hb) (ak zB hb) hbox (zg hg zB) (zg hg zB) (zl hg (zK fB)) (zr hg (zK fB));clear hb hbox hg)|((with_reducible refine bK (N:=6) rfl ?_);refine bJ zR (N:=6) zR (cs := #[.int .u64 0,.int .u64 0]) (t:=179) zG ?_;intro uJ hg w6 hbox hb;obtain ⟨fB,iy,HB,gY,av4,av5,aa9,abb,xR,qE⟩:=aeA (ay (zK fB) hb) (ay (zK iy) hb) (ak zB hb) hbox (zg hg zB) (zg hg zB) (zl hg (zK fB)) (zr hg (zK fB)) (zl hg (zK iy)) (zr hg (zK iy));clear hb hbox hg;have auE:=abb.out;have auF:=aa9.out;have auG:=qE.out;have auH:=xR.out;obtain ⟨_,_⟩:=zC2 gY.out;obtain ⟨_,_⟩:=zF2 gY.out)|((with_reducible refine bK (N:=7) rfl ?_);refine bJ zR (N:=7) zR (cs := #[.int .u64 0,.int .u64 0]) (t:=179) zG ?_;intro sK hg w10 hbox hb;obtain ⟨fB,iy,gY,HB,fJ,av6,av7,tY,tZ,nY,lU,qF,rH⟩:=agm (ay (zK fB) hb) (ay (zK iy) hb) (ay (g:=uJ) (o := .cells #[.int .u64 0,.int .u64 0] 179 (0,0)) (by refine zD ?_;refine aJ (cs := #[.int .u64 0,.int .u64 0]) ?_ 1 _ rfl;refine zD ?_;refine aJ (cs := #[.int .u64 0,.int .u64 0]) ?_ 0 _ rfl;refine zD ?_;exact gY.out) hb) (ak zB hb) hbox (zg hg zB) (zg hg zB) (zl hg (zK fB)) (zr hg (zK fB)) (zl hg (zK iy)) (zr hg (zK iy)) ((by rw [hg];exact Nat.ne_of_lt (dJ (g:=uJ) (o := .cells #[.int .u64 0,.int .u64 0] 179 (0,0)) (by refine zD ?_;refine aJ (cs := #[.int .u64 0,.int .u64 0]) ?_ 1 _ rfl;refine zD ?_;refine aJ (cs := #[.int .u64 0,.int .u64 0]) ?_ 0 _ rfl;refine zD ?_;exact gY.out)):uJ≠sK)) ((by rw [hg];exact Nat.ne_of_gt (dJ (g:=uJ) (o := .cells #[.int .u64 0,.int .u64 0] 179 (0,0)) (by refine zD ?_;refine aJ (cs := #[.int .u64 0,.int .u64 0]) ?_ 1 _ rfl;refine zD ?_;refine aJ (cs := #[.int .u64 0,.int .u64 0]) ?_ 0 _ rfl;refine zD ?_;exact gY.out)):sK≠uJ));clear hb hbox hg;have av8:=tZ.out;have av9:=tY.out;have awc:=lU.out;have awd:=nY.out;have anK:=rH.out;have anL:=qF.out;obtain ⟨_,_⟩:=zC2 fJ.out;obtain ⟨_,_⟩:=zF2 fJ.out;obtain ⟨_,_⟩:=zC2 gY.out;obtain ⟨_,_⟩:=zF2 gY.out;have awe:=acJ.out;have awf:=acI.out;obtain ⟨_,_⟩:=zC2 iy.out;obtain ⟨_,_⟩:=zF2 iy.out))
  refine bodyPost_ret (ag9 rfl _ _ xu 179 #[.int .u64 0,.int .u64 0] (0,0) _ rfl (by refine zD ?_;refine aJ (cs := #[.int .u64 0,.int .u64 0]) ?_ 1 _ rfl;refine zD ?_;refine aJ (cs := #[.int .u64 0,.int .u64 0]) ?_ 0 _ rfl;refine zD ?_;refine iW ?_ nY.out _;refine zD ?_;refine iW ?_ nY.out _;refine zD ?_;exact iy.out) Tryz.underlying179 rfl (by kernel_rfl)) rfl ?_
  exact ⟨zS,zB⟩
 ·rw [if_neg c3] at H
  have gq:(a1 == 0)=false:=beq_eq_false_iff_ne.mpr c3
  have yD:(a1 != 0)=true:=bne_iff_ne.mpr c3
  have H':=aj.mk H
  clear H
  go_enter Tryz.func172,Tryz.ntmps172
  go_wp2_with (first|((with_reducible refine bK (N:=2) rfl ?_);refine bJ zR (N:=2) zR (cs := #[.int .u64 bH,.int .u64 cO]) (t:=179) zG ?_;intro afL hg w18 hbox hb;obtain ⟨HB,fB,avZ,av1⟩:=zA4 (ak zB hb) hbox (zg hg zB) (zg hg zB);clear hb hbox hg)|((with_reducible refine bK (N:=4) rfl ?_);refine bJ zR (N:=4) zR (cs := #[.int .u64 0,.int .u64 0]) (t:=179) zG ?_;intro xu hg w19 hbox hb;obtain ⟨fB,HB,iy,av2,av3,acI,acJ⟩:=zA7 (ay (zK fB) hb) (ak zB hb) hbox (zg hg zB) (zg hg zB) (zl hg (zK fB)) (zr hg (zK fB));clear hb hbox hg)|((with_reducible refine bK (N:=6) rfl ?_);refine bJ zR (N:=6) zR (cs := #[.int .u64 0,.int .u64 0]) (t:=179) zG ?_;intro uJ hg w20 hbox hb;obtain ⟨fB,iy,HB,gY,av4,av5,aa9,abb,xR,qE⟩:=aeA (ay (zK fB) hb) (ay (zK iy) hb) (ak zB hb) hbox (zg hg zB) (zg hg zB) (zl hg (zK fB)) (zr hg (zK fB)) (zl hg (zK iy)) (zr hg (zK iy));clear hb hbox hg;have aAS:=abb.out;have aAT:=aa9.out;have asE:=qE.out;have asF:=xR.out;obtain ⟨_,_⟩:=zC2 gY.out;obtain ⟨_,_⟩:=zF2 gY.out)|((with_reducible refine bK (N:=7) rfl ?_);refine bJ zR (N:=7) zR (cs := #[.int .u64 0,.int .u64 0]) (t:=179) zG ?_;intro sK hg w24 hbox hb;obtain ⟨fB,iy,gY,HB,fJ,av6,av7,tY,tZ,nY,lU,qF,rH⟩:=agm (ay (zK fB) hb) (ay (zK iy) hb) (ay (g:=uJ) (o := .cells #[.int .u64 0,.int .u64 0] 179 (0,0)) (by refine zD ?_;refine aJ (cs := #[.int .u64 0,.int .u64 0]) ?_ 1 _ rfl;refine zD ?_;refine aJ (cs := #[.int .u64 0,.int .u64 0]) ?_ 0 _ rfl;refine zD ?_;exact gY.out) hb) (ak zB hb) hbox (zg hg zB) (zg hg zB) (zl hg (zK fB)) (zr hg (zK fB)) (zl hg (zK iy)) (zr hg (zK iy)) ((by rw [hg];exact Nat.ne_of_lt (dJ (g:=uJ) (o := .cells #[.int .u64 0,.int .u64 0] 179 (0,0)) (by refine zD ?_;refine aJ (cs := #[.int .u64 0,.int .u64 0]) ?_ 1 _ rfl;refine zD ?_;refine aJ (cs := #[.int .u64 0,.int .u64 0]) ?_ 0 _ rfl;refine zD ?_;exact gY.out)):uJ≠sK)) ((by rw [hg];exact Nat.ne_of_gt (dJ (g:=uJ) (o := .cells #[.int .u64 0,.int .u64 0] 179 (0,0)) (by refine zD ?_;refine aJ (cs := #[.int .u64 0,.int .u64 0]) ?_ 1 _ rfl;refine zD ?_;refine aJ (cs := #[.int .u64 0,.int .u64 0]) ?_ 0 _ rfl;refine zD ?_;exact gY.out)):sK≠uJ));clear hb hbox hg;have asG:=tZ.out;have asH:=tY.out;have avX:=lU.out;have avY:=nY.out;have aAU:=rH.out;have aAV:=qF.out;obtain ⟨_,_⟩:=zC2 fJ.out;obtain ⟨_,_⟩:=zF2 fJ.out))
  go_loopg [8] k (fun kq v8 w'=>∃ (bC:Int) (oV:Int) (nZ:Int) (mZ:Int) (lD:Int),v8 = .int .i64 bC∧aj (fH.l0 kq a1 bC bH cO oV nZ mZ lD=some (r1,r2,r3))∧aj (kq≤k)∧aj (w'.heap[afL]? = some (.cells #[.int .u64 bH,.int .u64 cO] 179 (0,0)))∧aj (w'.heap[xu]? = some (.cells #[.int .u64 0,.int .u64 0] 179 (0,0)))∧aj (w'.heap[uJ]? = some (.cells #[.int .u64 oV,.int .u64 nZ] 179 (0,0)))∧aj (w'.heap[sK]? = some (.cells #[.int .u64 mZ,.int .u64 lD] 179 (0,0)))∧aj (Below w.heap.size w w'))
  case atStart=>exact ⟨(127),(0),(0),(0),(0),zT,H',⟨Nat.le_refl _⟩,⟨zK fB⟩,⟨zK iy⟩,⟨zK gY⟩,⟨by refine zD ?_;refine aJ (cs := #[.int .u64 0,.int .u64 0]) ?_ 1 _ rfl;refine zD ?_;refine aJ (cs := #[.int .u64 0,.int .u64 0]) ?_ 0 _ rfl;refine zD ?_;exact fJ.out⟩,⟨zB⟩⟩
  case round =>
   clear H'
   obtain ⟨bC,oV,nZ,mZ,lD,rfl,HA,HK1,fB,iy,gY,fJ,HB⟩:=hrel
   cases gk with
   | zero=>exact absurd HA.out (by simp [fH.l0])
   | succ k1 =>
    have H:=HA.out
    clear HA
    simp only [fH.l0] at H
    by_cases c29:bC≥0
    ·rw [if_pos c29] at H
     have anS:=decide_eq_true c29
     clear c29
     replace H:=zO H
     obtain ⟨aeT,A30,H⟩:=H
     try dsimp only at H
     replace H:=zO H
     obtain ⟨⟨aai,aaH⟩,A31,H⟩:=H
     try dsimp only at H
     replace H:=zO H
     obtain ⟨⟨adX,agB⟩,A32,H⟩:=H
     try dsimp only at H
     replace H:=zO H
     obtain ⟨aqs,A33,H⟩:=H
     try dsimp only at H
     by_cases c34:aqs=true
     ·subst c34
      rw [if_pos rfl] at H;try dsimp only at H
      have H':=aj.mk H
      clear H
      try go_wp2
      obtain ⟨fB,iy,gY,fJ,HB⟩:=zA5 (jO fB.out) (jO iy.out) (jO gY.out) (jO fJ.out) (bf HB.out)
      refine adr (n:=6) (S:=fun w'=>w'.cell? ⟨sK,0,none⟩=some (.int .u64 mZ)∧w'.cell? ⟨sK,1,none⟩=some (.int .u64 lD)∧w'.cell? ⟨afL,0,none⟩=some (.int .u64 bH)∧w'.cell? ⟨afL,1,none⟩=some (.int .u64 cO)) (ds:=[5]) #[false,false,false,false,false,false] (by kernel_rfl) rfl rfl ⟨(au fJ.out 0).trans rfl,(au fJ.out 1).trans rfl,(au fB.out 0).trans rfl,(au fB.out 1).trans rfl⟩ (fun hHeld => ?_)
      generalize wr.drew=w35 at fB iy gY fJ HB hHeld ⊢
      refine yO (i:=2) (N:=some 20) (v := ?_) (a' := ?_) #[false,false,true,false,false,false] rfl rfl (by kernel_rfl) (fun _ _ _ h=>h) (Or.inl ⟨by rfl,?_⟩) ?_ ?_
      rotate_left
      ·intro w'
       go_simp
       with_reducible rfl
      rotate_left
      ·simp only [Act.put,List.setIfInBounds_toArray,List.set_cons_zero,List.set_cons_succ,cZ,dB]
       rfl
      refine zZ (i:=0) (N:=some 18) (v := ?_) (a' := ?_) #[true,false,true,false,false,false] rfl rfl (by kernel_rfl) (fun _ _ _ h=>h) (Or.inl ⟨by rfl,?_⟩) hHeld ?_ ?_
      rotate_left
      ·rintro w' ⟨s0,s1,s2,s3⟩
       go_simp
       with_reducible rfl
      rotate_left
      ·simp only [Act.put,List.setIfInBounds_toArray,List.set_cons_zero,List.set_cons_succ,cZ,dB]
       rfl
      refine zZ (i:=1) (N:=some 19) (v := ?_) (a' := ?_) #[true,true,true,false,false,false] rfl rfl (by kernel_rfl) (fun _ _ _ h=>h) (Or.inl ⟨by rfl,?_⟩) hHeld ?_ ?_
      rotate_left
      ·rintro w' ⟨s0,s1,s2,s3⟩
       go_simp
       with_reducible rfl
      rotate_left
      ·simp only [Act.put,List.setIfInBounds_toArray,List.set_cons_zero,List.set_cons_succ,cZ,dB]
       rfl
      refine ab1 (i:=3) (N:=some 21) #[true,true,true,true,false,false] rfl rfl (by kernel_rfl) (by decide) (fun K hK => ?_)
      refine aaT Tryz.func121 (by kernel_rfl) rfl #[.agg #[.int .u64 bH,.int .u64 cO],.int .i64 bC] (by rfl) rfl rfl zL ?_
      with_reducible refine (fO.calls bH cO bC aeT _ A30.out).mono ?_
      rintro e w36 ⟨rfl,hb⟩
      refine ⟨_,rfl,?_⟩
      obtain ⟨fB,iy,gY,fJ,HB⟩:=zA5 (ay (zK fB) hb) (ay (zK iy) hb) (ay (zK gY) hb) (ay (zK fJ) hb) (ak zB hb)
      (try clear hb)
      (try clear hb2)
      (try clear hk)
      (try clear hi)
      refine hK.out _ _ ⟨(au fJ.out 0).trans rfl,(au fJ.out 1).trans rfl,(au fB.out 0).trans rfl,(au fB.out 1).trans rfl⟩ (fun hHeld => ?_)
      clear hK K
      refine aaS (a' := ?_) ?_ ?_
      rotate_left
      ·show Act.put _ (some 21) _=_
       simp only [Act.put,List.setIfInBounds_toArray,List.set_cons_zero,List.set_cons_succ,cZ,dB]
       rfl
      refine ab1 (i:=4) (N:=some 22) #[true,true,true,true,true,false] rfl rfl (by kernel_rfl) (by decide) (fun K hK => ?_)
      refine aaT Tryz.func119 (by kernel_rfl) rfl #[.agg #[.int .u64 mZ,.int .u64 lD],.int .u64 aeT] (by rfl) rfl rfl zL ?_
      with_reducible refine (dO.calls mZ lD aeT aai aaH _ A31.out).mono ?_
      rintro e w37 ⟨rfl,hb⟩
      refine ⟨_,rfl,?_⟩
      obtain ⟨fB,iy,gY,fJ,HB⟩:=zA5 (ay (zK fB) hb) (ay (zK iy) hb) (ay (zK gY) hb) (ay (zK fJ) hb) (ak zB hb)
      (try clear hb)
      (try clear hb2)
      (try clear hk)
      (try clear hi)
      refine hK.out _ _ ⟨(au fJ.out 0).trans rfl,(au fJ.out 1).trans rfl,(au fB.out 0).trans rfl,(au fB.out 1).trans rfl⟩ (fun hHeld => ?_)
      clear hK K
      refine aaS (a' := ?_) ?_ ?_
      rotate_left
      ·show Act.put _ (some 22) _=_
       simp only [Act.put,List.setIfInBounds_toArray,List.set_cons_zero,List.set_cons_succ,cZ,dB]
       rfl
      refine aj3 (i:=5) (N:=none) #[true,true,true,true,true,true] rfl rfl (by kernel_rfl) (by decide) (fun K hK => ?_)
      have aDo:w37.cell? ⟨sK,0,none⟩=some (.int .u64 mZ):=(au fJ.out 0).trans rfl
      have aAW:=aH fJ.out 0
      have azq:=tY.out
      have azr:=nY.out
      have azs:=qF.out
      have azt:=tZ.out
      have azu:=lU.out
      have azv:=rH.out
      have aDp:w37.cell? ⟨sK,1,none⟩=some (.int .u64 lD):=(au fJ.out 1).trans rfl
      have aAX:=aH fJ.out 1
      have azw:=tY.out
      have azx:=nY.out
      have azy:=qF.out
      have azz:=tZ.out
      have azA:=lU.out
      have azB:=rH.out
      refine ag8 (w1 := ?_) (by rfl) rfl ?_ ?_
      rotate_left
      ·go_simp
       rfl
      refine hK.out _ _ ?_
      clear hK K
      refine afC (by kernel_rfl) ?_
      have asI:=abb.out
      have asJ:=aa9.out
      have awg:=qE.out
      have awh:=xR.out
      have aAY:=qF.out
      have aAZ:=rH.out
      obtain ⟨_,_⟩:=zC2 gY.out
      obtain ⟨_,_⟩:=zF2 gY.out
      try go_wp2_with (first|((with_reducible refine aA (f:=119) rfl ?_);refine aI (some 24) rfl rfl Tryz.func119 (by kernel_rfl) rfl #[.agg #[.int .u64 oV,.int .u64 nZ],.int .u64 0] rfl zL ?_;(with_reducible refine (dO.calls oV nZ 0 adX agB _ A32.out).mono ?_);rintro e w44 ⟨rfl,hb⟩;refine ⟨_,rfl,?_⟩;obtain ⟨fB,iy,gY,fJ,HB⟩:=zA5 (ay (zK fB) hb) (ay (zK iy) hb) (ay (zK gY) hb) (ay (g:=sK) (o := .cells #[.int .u64 aai,.int .u64 aaH] 179 (0,0)) (by refine zD ?_;refine aJ (cs := #[.int .u64 aai,.int .u64 lD]) ?_ 1 _ rfl;refine zD ?_;refine aJ (cs := #[.int .u64 mZ,.int .u64 lD]) ?_ 0 _ rfl;refine zD ?_;exact fJ.out) hb) (ak zB hb);(try clear hb);obtain ⟨_,_⟩:=zC2 gY.out;obtain ⟨_,_⟩:=zF2 gY.out;have asK:=tZ.out;have asL:=tY.out;have awi:=lU.out;have awj:=nY.out;obtain ⟨_,_⟩:=zC2 fJ.out;obtain ⟨_,_⟩:=zF2 fJ.out)|((with_reducible refine aA (f:=123) rfl ?_);refine aI (some 28) rfl rfl Tryz.func123 (by kernel_rfl) rfl #[.agg #[.int .u64 aai,.int .u64 aaH],.agg #[.int .u64 0,.int .u64 a1]] rfl zL ?_;(with_reducible refine (iH.calls aai aaH 0 a1 true _ A33.out).mono ?_);rintro e w49 ⟨rfl,hb⟩;refine ⟨_,rfl,?_⟩;obtain ⟨fB,iy,gY,fJ,HB⟩:=zA5 (ay (zK fB) hb) (ay (zK iy) hb) (ay (g:=uJ) (o := .cells #[.int .u64 adX,.int .u64 agB] 179 (0,0)) (by refine zD ?_;refine aJ (cs := #[.int .u64 adX,.int .u64 nZ]) ?_ 1 _ rfl;refine zD ?_;refine aJ (cs := #[.int .u64 oV,.int .u64 nZ]) ?_ 0 _ rfl;refine zD ?_;exact gY.out) hb) (ay (zK fJ) hb) (ak zB hb);(try clear hb)))
      go_roundg k1
      case measure=>have:=HK1.out;omega
      case rel=>exact ⟨(wrap64 (bC - 1)),(adX),(agB),(aai),(aaH),zT,H',⟨by have:=HK1.out;omega⟩,⟨zK fB⟩,⟨zK iy⟩,⟨zK gY⟩,⟨zK fJ⟩,⟨zB⟩⟩
     ·replace c34:=Bool.eq_false_iff.mpr c34
      subst c34
      rw [if_neg (show ¬ (false=true) by decide)] at H;try dsimp only at H
      replace H:=zO H
      obtain ⟨⟨aqt,auI⟩,A50,H⟩:=H
      try dsimp only at H
      have H':=aj.mk H
      clear H
      try go_wp2
      obtain ⟨fB,iy,gY,fJ,HB⟩:=zA5 (jO fB.out) (jO iy.out) (jO gY.out) (jO fJ.out) (bf HB.out)
      refine adr (n:=6) (S:=fun w'=>w'.cell? ⟨sK,0,none⟩=some (.int .u64 mZ)∧w'.cell? ⟨sK,1,none⟩=some (.int .u64 lD)∧w'.cell? ⟨afL,0,none⟩=some (.int .u64 bH)∧w'.cell? ⟨afL,1,none⟩=some (.int .u64 cO)) (ds:=[5]) #[false,false,false,false,false,false] (by kernel_rfl) rfl rfl ⟨(au fJ.out 0).trans rfl,(au fJ.out 1).trans rfl,(au fB.out 0).trans rfl,(au fB.out 1).trans rfl⟩ (fun hHeld => ?_)
      generalize wr.drew=w51 at fB iy gY fJ HB hHeld ⊢
      refine yO (i:=2) (N:=some 20) (v := ?_) (a' := ?_) #[false,false,true,false,false,false] rfl rfl (by kernel_rfl) (fun _ _ _ h=>h) (Or.inl ⟨by rfl,?_⟩) ?_ ?_
      rotate_left
      ·intro w'
       go_simp
       with_reducible rfl
      rotate_left
      ·simp only [Act.put,List.setIfInBounds_toArray,List.set_cons_zero,List.set_cons_succ,cZ,dB]
       rfl
      refine zZ (i:=0) (N:=some 18) (v := ?_) (a' := ?_) #[true,false,true,false,false,false] rfl rfl (by kernel_rfl) (fun _ _ _ h=>h) (Or.inl ⟨by rfl,?_⟩) hHeld ?_ ?_
      rotate_left
      ·rintro w' ⟨s0,s1,s2,s3⟩
       go_simp
       with_reducible rfl
      rotate_left
      ·simp only [Act.put,List.setIfInBounds_toArray,List.set_cons_zero,List.set_cons_succ,cZ,dB]
       rfl
      refine zZ (i:=1) (N:=some 19) (v := ?_) (a' := ?_) #[true,true,true,false,false,false] rfl rfl (by kernel_rfl) (fun _ _ _ h=>h) (Or.inl ⟨by rfl,?_⟩) hHeld ?_ ?_
      rotate_left
      ·rintro w' ⟨s0,s1,s2,s3⟩
       go_simp
       with_reducible rfl
      rotate_left
      ·simp only [Act.put,List.setIfInBounds_toArray,List.set_cons_zero,List.set_cons_succ,cZ,dB]
       rfl
      refine ab1 (i:=3) (N:=some 21) #[true,true,true,true,false,false] rfl rfl (by kernel_rfl) (by decide) (fun K hK => ?_)
      refine aaT Tryz.func121 (by kernel_rfl) rfl #[.agg #[.int .u64 bH,.int .u64 cO],.int .i64 bC] (by rfl) rfl rfl zL ?_
      with_reducible refine (fO.calls bH cO bC aeT _ A30.out).mono ?_
      rintro e w52 ⟨rfl,hb⟩
      refine ⟨_,rfl,?_⟩
      obtain ⟨fB,iy,gY,fJ,HB⟩:=zA5 (ay (zK fB) hb) (ay (zK iy) hb) (ay (zK gY) hb) (ay (zK fJ) hb) (ak zB hb)
      (try clear hb)
      (try clear hb2)
      (try clear hk)
      (try clear hi)
      refine hK.out _ _ ⟨(au fJ.out 0).trans rfl,(au fJ.out 1).trans rfl,(au fB.out 0).trans rfl,(au fB.out 1).trans rfl⟩ (fun hHeld => ?_)
      clear hK K
      refine aaS (a' := ?_) ?_ ?_
      rotate_left
      ·show Act.put _ (some 21) _=_
       simp only [Act.put,List.setIfInBounds_toArray,List.set_cons_zero,List.set_cons_succ,cZ,dB]
       rfl
      refine ab1 (i:=4) (N:=some 22) #[true,true,true,true,true,false] rfl rfl (by kernel_rfl) (by decide) (fun K hK => ?_)
      refine aaT Tryz.func119 (by kernel_rfl) rfl #[.agg #[.int .u64 mZ,.int .u64 lD],.int .u64 aeT] (by rfl) rfl rfl zL ?_
      with_reducible refine (dO.calls mZ lD aeT aai aaH _ A31.out).mono ?_
      rintro e w53 ⟨rfl,hb⟩
      refine ⟨_,rfl,?_⟩
      obtain ⟨fB,iy,gY,fJ,HB⟩:=zA5 (ay (zK fB) hb) (ay (zK iy) hb) (ay (zK gY) hb) (ay (zK fJ) hb) (ak zB hb)
      (try clear hb)
      (try clear hb2)
      (try clear hk)
      (try clear hi)
      refine hK.out _ _ ⟨(au fJ.out 0).trans rfl,(au fJ.out 1).trans rfl,(au fB.out 0).trans rfl,(au fB.out 1).trans rfl⟩ (fun hHeld => ?_)
      clear hK K
      refine aaS (a' := ?_) ?_ ?_
      rotate_left
      ·show Act.put _ (some 22) _=_
       simp only [Act.put,List.setIfInBounds_toArray,List.set_cons_zero,List.set_cons_succ,cZ,dB]
       rfl
      refine aj3 (i:=5) (N:=none) #[true,true,true,true,true,true] rfl rfl (by kernel_rfl) (by decide) (fun K hK => ?_)
      have aDq:w53.cell? ⟨sK,0,none⟩=some (.int .u64 mZ):=(au fJ.out 0).trans rfl
      have aA0:=aH fJ.out 0
      have azC:=tY.out
      have azD:=nY.out
      have azE:=qF.out
      have azF:=tZ.out
      have azG:=lU.out
      have azH:=rH.out
      have aDr:w53.cell? ⟨sK,1,none⟩=some (.int .u64 lD):=(au fJ.out 1).trans rfl
      have aA1:=aH fJ.out 1
      have azI:=tY.out
      have azJ:=nY.out
      have azK:=qF.out
      have azL:=tZ.out
      have azM:=lU.out
      have azN:=rH.out
      refine ag8 (w1 := ?_) (by rfl) rfl ?_ ?_
      rotate_left
      ·go_simp
       rfl
      refine hK.out _ _ ?_
      clear hK K
      refine afC (by kernel_rfl) ?_
      have aA2:=abb.out
      have aA3:=aa9.out
      have aA4:=qE.out
      have aA5:=xR.out
      have awk:=qF.out
      have awl:=rH.out
      obtain ⟨_,_⟩:=zC2 gY.out
      obtain ⟨_,_⟩:=zF2 gY.out
      try go_wp2_with (first|((with_reducible refine aA (f:=119) rfl ?_);refine aI (some 24) rfl rfl Tryz.func119 (by kernel_rfl) rfl #[.agg #[.int .u64 oV,.int .u64 nZ],.int .u64 0] rfl zL ?_;(with_reducible refine (dO.calls oV nZ 0 adX agB _ A32.out).mono ?_);rintro e w60 ⟨rfl,hb⟩;refine ⟨_,rfl,?_⟩;obtain ⟨fB,iy,gY,fJ,HB⟩:=zA5 (ay (zK fB) hb) (ay (zK iy) hb) (ay (zK gY) hb) (ay (g:=sK) (o := .cells #[.int .u64 aai,.int .u64 aaH] 179 (0,0)) (by refine zD ?_;refine aJ (cs := #[.int .u64 aai,.int .u64 lD]) ?_ 1 _ rfl;refine zD ?_;refine aJ (cs := #[.int .u64 mZ,.int .u64 lD]) ?_ 0 _ rfl;refine zD ?_;exact fJ.out) hb) (ak zB hb);(try clear hb);obtain ⟨_,_⟩:=zC2 gY.out;obtain ⟨_,_⟩:=zF2 gY.out;have awm:=tZ.out;have awn:=tY.out;have awo:=lU.out;have awp:=nY.out;obtain ⟨_,_⟩:=zC2 fJ.out;obtain ⟨_,_⟩:=zF2 fJ.out)|((with_reducible refine aA (f:=123) rfl ?_);refine aI (some 28) rfl rfl Tryz.func123 (by kernel_rfl) rfl #[.agg #[.int .u64 aai,.int .u64 aaH],.agg #[.int .u64 0,.int .u64 a1]] rfl zL ?_;(with_reducible refine (iH.calls aai aaH 0 a1 false _ A33.out).mono ?_);rintro e w65 ⟨rfl,hb⟩;refine ⟨_,rfl,?_⟩;obtain ⟨fB,iy,gY,fJ,HB⟩:=zA5 (ay (zK fB) hb) (ay (zK iy) hb) (ay (g:=uJ) (o := .cells #[.int .u64 adX,.int .u64 agB] 179 (0,0)) (by refine zD ?_;refine aJ (cs := #[.int .u64 adX,.int .u64 nZ]) ?_ 1 _ rfl;refine zD ?_;refine aJ (cs := #[.int .u64 oV,.int .u64 nZ]) ?_ 0 _ rfl;refine zD ?_;exact gY.out) hb) (ay (zK fJ) hb) (ak zB hb);(try clear hb);obtain ⟨_,_⟩:=zC2 fJ.out;obtain ⟨_,_⟩:=zF2 fJ.out)|((with_reducible refine aA (f:=122) rfl ?_);refine aI (some 33) rfl rfl Tryz.func122 (by kernel_rfl) rfl #[.agg #[.int .u64 aai,.int .u64 aaH],.agg #[.int .u64 0,.int .u64 a1]] rfl zL ?_;(with_reducible refine (kJ.calls aai aaH 0 a1 aqt auI _ A50.out).mono ?_);rintro e w67 ⟨rfl,hb⟩;refine ⟨_,rfl,?_⟩;obtain ⟨fB,iy,gY,fJ,HB⟩:=zA5 (ay (zK fB) hb) (ay (zK iy) hb) (ay (zK gY) hb) (ay (zK fJ) hb) (ak zB hb);(try clear hb);obtain ⟨_,_⟩:=zC2 fJ.out;obtain ⟨_,_⟩:=zF2 fJ.out;obtain ⟨_,_⟩:=zC2 gY.out;obtain ⟨_,_⟩:=zF2 gY.out))
      go_roundg k1
      case measure=>have:=HK1.out;omega
      case rel=>exact ⟨(wrap64 (bC - 1)),(adX),(IntKind.u64.wrap (agB+1)),(aqt),(auI),zT,H',⟨by have:=HK1.out;omega⟩,⟨zK fB⟩,⟨zK iy⟩,⟨by refine zD ?_;refine aJ (cs := #[.int .u64 adX,.int .u64 agB]) ?_ 1 _ rfl;refine zD ?_;refine iW ?_ qF.out _;refine zD ?_;refine iW ?_ qF.out _;refine zD ?_;exact gY.out⟩,⟨by refine zD ?_;refine iW ?_ rH.out _;refine zD ?_;refine aJ (cs := #[.int .u64 aqt,.int .u64 aaH]) ?_ 1 _ rfl;refine zD ?_;refine aJ (cs := #[.int .u64 aai,.int .u64 aaH]) ?_ 0 _ rfl;refine zD ?_;exact fJ.out⟩,⟨zB⟩⟩
    ·rw [if_neg c29] at H
     have anS:=decide_eq_false c29
     clear c29
     simp only [Option.some.injEq,Prod.mk.injEq] at H
     obtain ⟨rfl,rfl,rfl⟩:=H
     try go_wp2
     obtain ⟨fB,iy,gY,fJ,HB⟩:=zA5 (jO fB.out) (jO iy.out) (jO gY.out) (jO fJ.out) (bf HB.out)
     refine adr (n:=5) (S:=fun w'=>w'.cell? ⟨uJ,0,none⟩=some (.int .u64 oV)∧w'.cell? ⟨uJ,1,none⟩=some (.int .u64 nZ)∧w'.cell? ⟨sK,0,none⟩=some (.int .u64 mZ)∧w'.cell? ⟨sK,1,none⟩=some (.int .u64 lD)) (ds:=[]) #[false,false,false,false,false] (by kernel_rfl) rfl rfl ⟨(au gY.out 0).trans rfl,(au gY.out 1).trans rfl,(au fJ.out 0).trans rfl,(au fJ.out 1).trans rfl⟩ (fun hHeld => ?_)
     generalize wr.drew=w70 at fB iy gY fJ HB hHeld ⊢
     refine yO (i:=1) (N:=some 39) (v := ?_) (a' := ?_) #[false,true,false,false,false] rfl rfl (by kernel_rfl) (fun _ _ _ h=>h) (Or.inl ⟨by rfl,?_⟩) ?_ ?_
     rotate_left
     ·intro w'
      go_simp
      with_reducible rfl
     rotate_left
     ·simp only [Act.put,List.setIfInBounds_toArray,List.set_cons_zero,List.set_cons_succ,cZ,dB]
      rfl
     refine zZ (i:=0) (N:=some 38) (v := ?_) (a' := ?_) #[true,true,false,false,false] rfl rfl (by kernel_rfl) (fun _ _ _ h=>h) (Or.inl ⟨by rfl,?_⟩) hHeld ?_ ?_
     rotate_left
     ·rintro w' ⟨s0,s1,s2,s3⟩
      go_simp
      with_reducible rfl
     rotate_left
     ·simp only [Act.put,List.setIfInBounds_toArray,List.set_cons_zero,List.set_cons_succ,cZ,dB]
      rfl
     refine zZ (i:=2) (N:=some 40) (v := ?_) (a' := ?_) #[true,true,true,false,false] rfl rfl (by kernel_rfl) (fun _ _ _ h=>h) (Or.inl ⟨by rfl,?_⟩) hHeld ?_ ?_
     rotate_left
     ·rintro w' ⟨s0,s1,s2,s3⟩
      go_simp
      with_reducible rfl
     rotate_left
     ·simp only [Act.put,List.setIfInBounds_toArray,List.set_cons_zero,List.set_cons_succ,cZ,dB]
      rfl
     refine ab1 (i:=3) (N:=none) #[true,true,true,true,false] rfl rfl (by kernel_rfl) (by decide) (fun K hK => ?_)
     have aDs:w70.cell? ⟨xu,0,none⟩=some (.int .u64 0):=(au iy.out 0).trans rfl
     have aA6:=aH iy.out 0
     have azO:=acI.out
     have azP:=qE.out
     have azQ:=lU.out
     have azR:=acJ.out
     have azS:=xR.out
     have azT:=nY.out
     have aDt:w70.cell? ⟨xu,1,none⟩=some (.int .u64 0):=(au iy.out 1).trans rfl
     have aA7:=aH iy.out 1
     have azU:=acI.out
     have azV:=qE.out
     have azW:=lU.out
     have azX:=acJ.out
     have azY:=xR.out
     have azZ:=nY.out
     refine ag8 (w1 := ?_) (by rfl) rfl ?_ ?_
     rotate_left
     ·go_simp
      rfl
     refine hK.out _ _ ⟨((cell_far (p:=⟨xu,_,none⟩) qE.out _).trans (((cell_far (p:=⟨xu,_,none⟩) qE.out _).trans (hHeld.1)))),((cell_far (p:=⟨xu,_,none⟩) qE.out _).trans (((cell_far (p:=⟨xu,_,none⟩) qE.out _).trans (hHeld.2.1)))),((cell_far (p:=⟨xu,_,none⟩) lU.out _).trans (((cell_far (p:=⟨xu,_,none⟩) lU.out _).trans (hHeld.2.2.1)))),((cell_far (p:=⟨xu,_,none⟩) lU.out _).trans (((cell_far (p:=⟨xu,_,none⟩) lU.out _).trans (hHeld.2.2.2))))⟩ (fun hHeld => ?_)
     clear hK K
     refine yO (i:=4) (N:=some 5) (v := ?_) (a' := ?_) #[true,true,true,true,true] rfl rfl (by kernel_rfl) (fun _ _ _ h=>h) (Or.inl ⟨by rfl,?_⟩) ?_ ?_
     rotate_left
     ·intro w'
      go_simp
      with_reducible rfl
     rotate_left
     ·simp only [Act.put,List.setIfInBounds_toArray,List.set_cons_zero,List.set_cons_succ,cZ,dB]
      rfl
     refine afC (by kernel_rfl) ?_
     try go_wp2
     refine bodyPost_ret (ag9 rfl _ _ xu 179 #[.int .u64 oV,.int .u64 nZ] (0,0) _ rfl (by refine zD ?_;refine aJ (cs := #[.int .u64 oV,.int .u64 0]) ?_ 1 _ rfl;refine zD ?_;refine aJ (cs := #[.int .u64 0,.int .u64 0]) ?_ 0 _ rfl;refine zD ?_;exact iy.out) Tryz.underlying179 rfl (by kernel_rfl)) rfl ?_
     exact ⟨zS,zB⟩
end Go.Proofs.YtpondkggmcmpfaaGreatDoor.QA
namespace Go.Proofs.YtpondkggmcmpfaaGreatDoor.QA
open Go.Proofs.YtpondkggmcmpfaaGreatDoor.T
open Go.RowKit Go.Proofs.YtpondkggmcmpfaaGreatDoorW.PrintWords Go.Proofs.YtpondkggmcmpfaaGreatDoorW.PrintLast Go.Proofs.YtpondkggmcmpfaaGreatDoorW.PrintMore
attribute [local go_sem] eG dX dY fF fG
set_option linter.unusedVariables false
set_option linter.unusedSimpArgs false
def iC.j0:Nat→Bool→Bool→Int→Int→Option (Int)
 | 0,_,_,_,_=>none
 | k+1,x2,x10,amQ,amR=>if x10=true then ((iq.f amQ amR 0 1).bind fun asM=>((bW.f k asM.1 asM.2 x2).bind fun aqu=>(some aqu))) else ((bW.f k amQ amR x2).bind fun aqv=>(some aqv))
def iC.f (k:Nat) (bH cO a1:Int) (a2:Bool):Option (Int):=(fH.f k bH cO a1).bind fun ahr=>((dO.f 0 ahr.2.2 0).bind fun akb=>((iH.f akb.1 akb.2 0 a1).bind fun anT=>(if a2=true then ((iH.f 0 a1 akb.1 akb.2).bind fun anU=>(iC.j0 k a2 anU ahr.1 ahr.2.1)) else (iC.j0 k a2 (!anT) ahr.1 ahr.2.1))))
set_option maxHeartbeats 8000000 in
set_option maxRecDepth 100000 in
theorem iC.calls (k:Nat) (bH cO a1:Int) (a2:Bool) (r:Int) (w:World) (h:iC.f k bH cO a1 a2=some r) :
  Calls Tryz.prog 149 #[.agg #[.int .u64 bH,.int .u64 cO],.int .u64 a1,.bool a2] w fun e w'=>e = .returned (.int .i64 r)∧Below w.heap.size w w':=by
 have yR:=Tryz.underlying179
 have HB:=aj.mk (Below.refl w.heap.size w)
 have H:=h
 clear h
 unfold iC.f at H
 replace H:=zO H
 obtain ⟨⟨ac8,ac9,aqw⟩,A4,H⟩:=H
 try dsimp only at H
 replace H:=zO H
 obtain ⟨⟨aeU,agC⟩,A5,H⟩:=H
 try dsimp only at H
 replace H:=zO H
 obtain ⟨anT,A6,H⟩:=H
 try dsimp only at H
 have HC7:=aj.mk H
 clear H
 go_enter Tryz.func149,Tryz.ntmps149
 go_upto_if 25 with (first|((with_reducible refine bK (N:=3) rfl ?_);refine bJ zR (N:=3) zR (cs := #[.int .u64 bH,.int .u64 cO]) (t:=179) zG ?_;intro awq hg w8 hbox hb;obtain ⟨HB,mg,aA8,aA9⟩:=zA4 (ak zB hb) hbox (zg hg zB) (zg hg zB);clear hb hbox hg;obtain ⟨_,_⟩:=zC2 mg.out;obtain ⟨_,_⟩:=zF2 mg.out)|((with_reducible refine aA (f:=172) rfl ?_);refine aI (some 14) rfl rfl Tryz.func172 (by kernel_rfl) rfl #[.agg #[.int .u64 bH,.int .u64 cO],.int .u64 a1] rfl zL ?_;(with_reducible refine (fH.calls k bH cO a1 ac8 ac9 aqw _ A4.out).mono ?_);rintro e w10 ⟨rfl,hb⟩;refine ⟨_,rfl,?_⟩;obtain ⟨mg,HB⟩:=zA2 (ay (zK mg) hb) (ak zB hb);(try clear hb))|((with_reducible refine bK (N:=7) rfl ?_);refine bJ zR (N:=7) zR (cs := #[.int .u64 0,.int .u64 0]) (t:=179) zG ?_;intro anV hg w11 hbox hb;obtain ⟨mg,HB,mD,aBa,aBb,aeV,aeW⟩:=zA7 (ay (zK mg) hb) (ak zB hb) hbox (zg hg zB) (zg hg zB) (zl hg (zK mg)) (zr hg (zK mg));clear hb hbox hg;have awc:=aeW.out;have awd:=aeV.out;obtain ⟨_,_⟩:=zC2 mD.out;obtain ⟨_,_⟩:=zF2 mD.out)|((with_reducible refine aA (f:=119) rfl ?_);refine aI (some 19) rfl rfl Tryz.func119 (by kernel_rfl) rfl #[.agg #[.int .u64 0,.int .u64 aqw],.int .u64 0] rfl zL ?_;(with_reducible refine (dO.calls 0 aqw 0 aeU agC _ A5.out).mono ?_);rintro e w14 ⟨rfl,hb⟩;refine ⟨_,rfl,?_⟩;obtain ⟨mg,mD,HB⟩:=zA3 (ay (zK mg) hb) (ay (g:=anV) (o := .cells #[.int .u64 ac8,.int .u64 ac9] 179 (0,0)) (by refine zD ?_;refine aJ (cs := #[.int .u64 ac8,.int .u64 0]) ?_ 1 _ rfl;refine zD ?_;refine aJ (cs := #[.int .u64 0,.int .u64 0]) ?_ 0 _ rfl;refine zD ?_;exact mD.out) hb) (ak zB hb);(try clear hb))|((with_reducible refine bK (N:=9) rfl ?_);refine bJ zR (N:=9) zR (cs := #[.int .u64 0,.int .u64 0]) (t:=179) zG ?_;intro asN hg w15 hbox hb;obtain ⟨mg,mD,HB,uf,aBd,aBe,ajw,ajx,acK,acL⟩:=aeA (ay (zK mg) hb) (ay (zK mD) hb) (ak zB hb) hbox (zg hg zB) (zg hg zB) (zl hg (zK mg)) (zr hg (zK mg)) (zl hg (zK mD)) (zr hg (zK mD));clear hb hbox hg;have awe:=ajx.out;have awf:=ajw.out;have awr:=acL.out;have awt:=acK.out;obtain ⟨_,_⟩:=zC2 uf.out;obtain ⟨_,_⟩:=zF2 uf.out)|((with_reducible refine aA (f:=123) rfl ?_);refine aI (some 23) rfl rfl Tryz.func123 (by kernel_rfl) rfl #[.agg #[.int .u64 aeU,.int .u64 agC],.agg #[.int .u64 0,.int .u64 a1]] rfl zL ?_;(with_reducible refine (iH.calls aeU agC 0 a1 anT _ A6.out).mono ?_);rintro e w19 ⟨rfl,hb⟩;refine ⟨_,rfl,?_⟩;obtain ⟨mg,mD,uf,HB⟩:=zA4 (ay (zK mg) hb) (ay (zK mD) hb) (ay (g:=asN) (o := .cells #[.int .u64 aeU,.int .u64 agC] 179 (0,0)) (by refine zD ?_;refine aJ (cs := #[.int .u64 aeU,.int .u64 0]) ?_ 1 _ rfl;refine zD ?_;refine aJ (cs := #[.int .u64 0,.int .u64 0]) ?_ 0 _ rfl;refine zD ?_;exact uf.out) hb) (ak zB hb);(try clear hb)))
 (try simp only [Act.put,List.setIfInBounds_toArray,List.set_cons_zero,List.set_cons_succ])
 go_cut [10] (fun v10 wc=>∃ (kq:Nat) (akc:Bool),v10 = .bool akc∧aj (iC.j0 kq a2 akc ac8 ac9=some r)∧aj (kq≤k)∧aj (wc.heap[awq]? = some (.cells #[.int .u64 bH,.int .u64 cO] 179 (0,0)))∧aj (wc.heap[anV]? = some (.cells #[.int .u64 ac8,.int .u64 ac9] 179 (0,0)))∧aj (wc.heap[asN]? = some (.cells #[.int .u64 aeU,.int .u64 agC] 179 (0,0)))∧aj (Below w.heap.size w wc))
 case first =>
  have H:=HC7.out
  clear HC7
  by_cases c20:a2=true
  ·subst c20
   rw [if_pos rfl] at H;try dsimp only at H
   replace H:=zO H
   obtain ⟨anU,A21,H⟩:=H
   try dsimp only at H
   have H':=aj.mk H
   clear H
   have asE:=ajx.out
   have asF:=ajw.out
   have anO:=acL.out
   have anP:=acK.out
   obtain ⟨_,_⟩:=zC2 uf.out
   obtain ⟨_,_⟩:=zF2 uf.out
   go_wp2_with (first|((with_reducible refine aA (f:=123) rfl ?_);refine aI (some 29) rfl rfl Tryz.func123 (by kernel_rfl) rfl #[.agg #[.int .u64 0,.int .u64 a1],.agg #[.int .u64 aeU,.int .u64 agC]] rfl zL ?_;(with_reducible refine (iH.calls 0 a1 aeU agC anU _ A21.out).mono ?_);rintro e w25 ⟨rfl,hb⟩;refine ⟨_,rfl,?_⟩;obtain ⟨mg,mD,uf,HB⟩:=zA4 (ay (zK mg) hb) (ay (zK mD) hb) (ay (zK uf) hb) (ak zB hb);(try clear hb)))
   go_meet
   case rel=>exact ⟨_,(anU),zT,H',⟨by first|omega|exact Nat.le_refl _⟩,⟨zK mg⟩,⟨zK mD⟩,⟨zK uf⟩,⟨zB⟩⟩
  ·replace c20:=Bool.eq_false_iff.mpr c20
   subst c20
   rw [if_neg (show ¬ (false=true) by decide)] at H;try dsimp only at H
   have H':=aj.mk H
   clear H
   go_wp2
   go_meet
   case rel=>exact ⟨_,(!anT),zT,H',⟨by first|omega|exact Nat.le_refl _⟩,⟨zK mg⟩,⟨zK mD⟩,⟨zK uf⟩,⟨zB⟩⟩
 case rest =>
  clear HC7
  obtain ⟨kq,akc,rfl,HA,HJ6,mg,mD,uf,HB⟩:=hcut
  cases kq with
  | zero=>exact absurd HA.out (by simp [iC.j0])
  | succ kj6 =>
   have H:=HA.out
   clear HA
   simp only [iC.j0] at H
   by_cases c26:akc=true
   ·subst c26
    rw [if_pos rfl] at H;try dsimp only at H
    replace H:=zO H
    obtain ⟨⟨ak1,anW⟩,A27,H⟩:=H
    try dsimp only at H
    replace H:=zO H
    obtain ⟨aqu,A28,H⟩:=H
    try dsimp only at H
    obtain rfl:=Option.some.inj H
    have anQ:=aeW.out
    have anR:=aeV.out
    have asB:=acK.out
    have asC:=acL.out
    obtain ⟨_,_⟩:=zC2 mD.out
    obtain ⟨_,_⟩:=zF2 mD.out
    go_wp2_with (first|((with_reducible refine aA (f:=124) rfl ?_);refine aI (some 33) rfl rfl Tryz.func124 (by kernel_rfl) rfl #[.agg #[.int .u64 ac8,.int .u64 ac9],.agg #[.int .u64 0,.int .u64 1]] rfl zL ?_;(with_reducible refine (iq.calls ac8 ac9 0 1 ak1 anW _ A27.out).mono ?_);rintro e w32 ⟨rfl,hb⟩;refine ⟨_,rfl,?_⟩;obtain ⟨mg,mD,uf,HB⟩:=zA4 (ay (zK mg) hb) (ay (zK mD) hb) (ay (zK uf) hb) (ak zB hb);(try clear hb);obtain ⟨_,_⟩:=zC2 mD.out;obtain ⟨_,_⟩:=zF2 mD.out)|((with_reducible refine aA (f:=125) rfl ?_);refine aI (some 36) rfl rfl Tryz.func125 (by kernel_rfl) rfl #[.agg #[.int .u64 ak1,.int .u64 anW],.bool a2] rfl zL ?_;(with_reducible refine (bW.calls kj6 ak1 anW a2 aqu _ A28.out).mono ?_);rintro e w34 ⟨rfl,hb⟩;refine ⟨_,rfl,?_⟩;obtain ⟨mg,mD,uf,HB⟩:=zA4 (ay (zK mg) hb) (ay (g:=anV) (o := .cells #[.int .u64 ak1,.int .u64 anW] 179 (0,0)) (by refine zD ?_;refine aJ (cs := #[.int .u64 ak1,.int .u64 ac9]) ?_ 1 _ rfl;refine zD ?_;refine aJ (cs := #[.int .u64 ac8,.int .u64 ac9]) ?_ 0 _ rfl;refine zD ?_;exact mD.out) hb) (ay (zK uf) hb) (ak zB hb);(try clear hb)))
    go_ret
    exact ⟨zS,zB⟩
   ·replace c26:=Bool.eq_false_iff.mpr c26
    subst c26
    rw [if_neg (show ¬ (false=true) by decide)] at H;try dsimp only at H
    replace H:=zO H
    obtain ⟨aqv,A35,H⟩:=H
    try dsimp only at H
    obtain rfl:=Option.some.inj H
    have aBf:=aeW.out
    have aBg:=aeV.out
    have awu:=acK.out
    have awv:=acL.out
    obtain ⟨_,_⟩:=zC2 mD.out
    obtain ⟨_,_⟩:=zF2 mD.out
    go_wp2_with (first|((with_reducible refine aA (f:=125) rfl ?_);refine aI (some 36) rfl rfl Tryz.func125 (by kernel_rfl) rfl #[.agg #[.int .u64 ac8,.int .u64 ac9],.bool a2] rfl zL ?_;(with_reducible refine (bW.calls kj6 ac8 ac9 a2 aqv _ A35.out).mono ?_);rintro e w39 ⟨rfl,hb⟩;refine ⟨_,rfl,?_⟩;obtain ⟨mg,mD,uf,HB⟩:=zA4 (ay (zK mg) hb) (ay (zK mD) hb) (ay (zK uf) hb) (ak zB hb);(try clear hb)))
    go_ret
    exact ⟨zS,zB⟩
def aZ.f (k:Nat) (a0 a1 a2:Int):Option (Int):=if a2=0 then (some 0) else ((dQ.f a0).bind fun ak2=>((dQ.f a1).bind fun ak3=>((dV.f k ak2 ak3).bind fun asO=>((dQ.f a2).bind fun ak4=>((iC.f k asO.1 asO.2 ak4 (((decide (a0 < 0)) != (decide (a1 < 0))) != (decide (a2 < 0)))).bind fun aqx=>(some aqx))))))
def aZ.T5:Bool × List (List Nat × List Nat):=(true,[([],[]),([],[]),([1],[1]),([],[]),([],[]),([4],[4]),([3,5],[3,5]),([0,2,6,2],[0,2,6]),([7,7,0,1,2,3,4,5,6,7],[7])])
def aZ.B5:List Nat:=[0,0,2,0,0,16,56,127,255]
theorem aZ.aya:uF .any (opsOf Tryz.f118 5)=aZ.T5:=by kernel_rfl
theorem aZ.aww:adv aZ.T5.2 aZ.B5=true:=by kernel_rfl
set_option maxHeartbeats 8000000 in
set_option maxRecDepth 100000 in
theorem aZ.calls (k:Nat) (a0 a1 a2 r:Int) (w:World) (h:aZ.f k a0 a1 a2=some r) :
  Calls Tryz.prog 118 #[.int .i64 a0,.int .i64 a1,.int .i64 a2] w fun e w'=>e = .returned (.int .i64 r)∧Below w.heap.size w w':=by
 have yR:=Tryz.underlying179
 have HB:=aj.mk (Below.refl w.heap.size w)
 have H:=h
 clear h
 unfold aZ.f at H
 by_cases c4:a2=0
 ·rw [if_pos c4] at H
  have gI:(a2 == 0)=true:=beq_iff_eq.mpr c4
  have adN:(a2 != 0)=false:=bne_eq_false_iff_eq.mpr c4
  clear c4
  obtain rfl:=Option.some.inj H
  go_enter Tryz.func118,Tryz.ntmps118
  go_wp2
  go_ret
  exact ⟨zS,zB⟩
 ·rw [if_neg c4] at H
  have gI:(a2 == 0)=false:=beq_eq_false_iff_ne.mpr c4
  have adN:(a2 != 0)=true:=bne_iff_ne.mpr c4
  replace H:=zO H
  obtain ⟨ak2,A5,H⟩:=H
  try dsimp only at H
  replace H:=zO H
  obtain ⟨ak3,A6,H⟩:=H
  try dsimp only at H
  replace H:=zO H
  obtain ⟨⟨adY,aeX⟩,A7,H⟩:=H
  try dsimp only at H
  replace H:=zO H
  obtain ⟨ak4,A8,H⟩:=H
  try dsimp only at H
  replace H:=zO H
  obtain ⟨aqx,A9,H⟩:=H
  try dsimp only at H
  obtain rfl:=Option.some.inj H
  go_enter Tryz.func118,Tryz.ntmps118
  try go_wp2_with (first|((with_reducible refine aA (f:=120) rfl ?_);refine aI (some 12) rfl rfl Tryz.func120 (by kernel_rfl) rfl #[.int .i64 a0] rfl zL ?_;(with_reducible refine (dQ.calls a0 ak2 _ A5.out).mono ?_);rintro e w' ⟨rfl,⟨nd,rfl⟩⟩;refine ⟨_,rfl,?_⟩)|((with_reducible refine aA (f:=120) rfl ?_);refine aI (some 14) rfl rfl Tryz.func120 (by kernel_rfl) rfl #[.int .i64 a1] rfl zL ?_;(with_reducible refine (dQ.calls a1 ak3 _ A6.out).mono ?_);rintro e w' ⟨rfl,⟨nd,rfl⟩⟩;refine ⟨_,rfl,?_⟩)|((with_reducible refine aA (f:=148) rfl ?_);refine aI (some 15) rfl rfl Tryz.func148 (by kernel_rfl) rfl #[.int .u64 ak2,.int .u64 ak3] rfl zL ?_;(with_reducible refine (dV.calls k ak2 ak3 adY aeX _ A7.out).mono ?_);rintro e w10 ⟨rfl,hb⟩;refine ⟨_,rfl,?_⟩;replace HB:=aj.mk (ak zB hb);(try clear hb))|((with_reducible refine bK (N:=7) rfl ?_);refine bJ zR (N:=7) zR (cs := #[.int .u64 0,.int .u64 0]) (t:=179) zG ?_;intro abN hg w11 hbox hb;obtain ⟨HB,uK,aBh,aBi⟩:=zA4 (ak zB hb) hbox (zg hg zB) (zg hg zB);clear hb hbox hg;obtain ⟨_,_⟩:=zC2 uK.out;obtain ⟨_,_⟩:=zF2 uK.out))
  have n0_:aj (((w11.setCell ⟨abN,0,none⟩ (.int .u64 adY)).setCell ⟨abN,1,none⟩ (.int .u64 aeX)).heap[abN]? = some (.cells #[.int .u64 adY,.int .u64 aeX] 179 (0,0))):=⟨by refine zD ?_;refine aJ (cs := #[.int .u64 adY,.int .u64 0]) ?_ 1 _ rfl;refine zD ?_;refine aJ (cs := #[.int .u64 0,.int .u64 0]) ?_ 0 _ rfl;refine zD ?_;exact uK.out⟩
  have n1_:aj (Below w.heap.size w ((w11.setCell ⟨abN,0,none⟩ (.int .u64 adY)).setCell ⟨abN,1,none⟩ (.int .u64 aeX))):=⟨zB⟩
  (try clear uK)
  (try clear HB)
  generalize ((w11.setCell ⟨abN,0,none⟩ (.int .u64 adY)).setCell ⟨abN,1,none⟩ (.int .u64 aeX))=w13 at n0_ n1_ ⊢
  have uK:=n0_
  have HB:=n1_
  clear n0_ n1_
  obtain ⟨uK,HB⟩:=zA2 (jO uK.out) (bf HB.out)
  refine adr (n:=9) (S:=fun w'=>w'.cell? ⟨abN,0,none⟩=some (.int .u64 adY)∧w'.cell? ⟨abN,1,none⟩=some (.int .u64 aeX)) (ds:=[]) #[false,false,false,false,false,false,false,false,false] (by kernel_rfl) rfl rfl ⟨(au uK.out 0).trans rfl,(au uK.out 1).trans rfl⟩ (fun hHeld => ?_);refine apk aZ.aya aZ.aww (fun HT_ HW_ => ?_)
  generalize w13.drew=w14 at uK HB hHeld ⊢
  refine yO (i:=1) (N:=some 22) (v := ?_) (a' := ?_) #[false,true,false,false,false,false,false,false,false] rfl rfl (adu HT_.out (by kernel_rfl)) (fun _ _ _ h=>h) (Or.inl ⟨by rfl,?_⟩) ?_ ?_
  rotate_left
  ·intro w'
   go_simp
   with_reducible rfl
  rotate_left
  ·simp only [Act.put,List.setIfInBounds_toArray,List.set_cons_zero,List.set_cons_succ,cZ,dB]
   rfl
  refine yO (i:=3) (N:=some 24) (v := ?_) (a' := ?_) #[false,true,false,true,false,false,false,false,false] rfl rfl (adu HT_.out (by kernel_rfl)) (fun _ _ _ h=>h) (Or.inl ⟨by rfl,?_⟩) ?_ ?_
  rotate_left
  ·intro w'
   go_simp
   with_reducible rfl
  rotate_left
  ·simp only [Act.put,List.setIfInBounds_toArray,List.set_cons_zero,List.set_cons_succ,cZ,dB]
   rfl
  refine yO (i:=4) (N:=some 25) (v := ?_) (a' := ?_) #[false,true,false,true,true,false,false,false,false] rfl rfl (adu HT_.out (by kernel_rfl)) (fun _ _ _ h=>h) (Or.inl ⟨by rfl,?_⟩) ?_ ?_
  rotate_left
  ·intro w'
   go_simp
   with_reducible rfl
  rotate_left
  ·simp only [Act.put,List.setIfInBounds_toArray,List.set_cons_zero,List.set_cons_succ,cZ,dB]
   rfl
  refine yO (i:=5) (N:=some 26) (v := ?_) (a' := ?_) #[false,true,false,true,true,true,false,false,false] rfl rfl (adu HT_.out (by kernel_rfl)) (fun _ _ _ h=>h) (Or.inl ⟨by rfl,?_⟩) ?_ ?_
  rotate_left
  ·intro w'
   go_simp
   with_reducible rfl
  rotate_left
  ·simp only [Act.put,List.setIfInBounds_toArray,List.set_cons_zero,List.set_cons_succ,cZ,dB]
   rfl
  refine yO (i:=6) (N:=some 27) (v := ?_) (a' := ?_) #[false,true,false,true,true,true,true,false,false] rfl rfl (adu HT_.out (by kernel_rfl)) (fun _ _ _ h=>h) (Or.inl ⟨by rfl,?_⟩) ?_ ?_
  rotate_left
  ·intro w'
   go_simp
   with_reducible rfl
  rotate_left
  ·simp only [Act.put,List.setIfInBounds_toArray,List.set_cons_zero,List.set_cons_succ,cZ,dB]
   rfl
  refine zZ (i:=0) (N:=some 21) (v := ?_) (a' := ?_) #[true,true,false,true,true,true,true,false,false] rfl rfl (ap2 HT_.out HW_.out (by kernel_rfl)) (fun _ _ _ h=>h) (Or.inl ⟨by rfl,?_⟩) hHeld ?_ ?_
  rotate_left
  ·rintro w' ⟨s0,s1⟩
   go_simp
   with_reducible rfl
  rotate_left
  ·simp only [Act.put,List.setIfInBounds_toArray,List.set_cons_zero,List.set_cons_succ,cZ,dB]
   rfl
  refine ab1 (i:=2) (N:=some 23) #[true,true,true,true,true,true,true,false,false] rfl rfl (apj HT_.out (by kernel_rfl)) (by decide) (fun K hK => ?_)
  refine aaT Tryz.func120 (by kernel_rfl) rfl #[.int .i64 a2] (by rfl) rfl rfl zL ?_
  with_reducible refine (dQ.calls a2 ak4 _ A8.out).mono ?_
  rintro e w' ⟨rfl,⟨nd,rfl⟩⟩
  refine ⟨_,rfl,?_⟩
  refine hK.out _ _ ⟨(au uK.out 0).trans rfl,(au uK.out 1).trans rfl⟩ (fun hHeld => ?_)
  clear hK K
  refine aaS (a' := ?_) ?_ ?_
  rotate_left
  ·show Act.put _ (some 23) _=_
   simp only [Act.put,List.setIfInBounds_toArray,List.set_cons_zero,List.set_cons_succ,cZ,dB]
   rfl
  refine ab1 (i:=7) (N:=some 28) #[true,true,true,true,true,true,true,true,false] rfl rfl (apj HT_.out (by kernel_rfl)) (by decide) (fun K hK => ?_)
  refine aaT Tryz.func149 (by kernel_rfl) rfl #[.agg #[.int .u64 adY,.int .u64 aeX],.int .u64 ak4,.bool (((decide (a0 < 0)) != (decide (a1 < 0))) != (decide (a2 < 0)))] (by rfl) rfl rfl zL ?_
  with_reducible refine (iC.calls k adY aeX ak4 (((decide (a0 < 0)) != (decide (a1 < 0))) != (decide (a2 < 0))) aqx _ A9.out).mono ?_
  rintro e w15 ⟨rfl,hb⟩
  refine ⟨_,rfl,?_⟩
  obtain ⟨uK,HB⟩:=zA2 (ay (zK uK) hb) (ak zB hb)
  (try clear hb)
  (try clear hb2)
  (try clear hk)
  (try clear hi)
  refine hK.out _ _ ⟨(au uK.out 0).trans rfl,(au uK.out 1).trans rfl⟩ (fun hHeld => ?_)
  clear hK K
  refine aaS (a' := ?_) ?_ ?_
  rotate_left
  ·show Act.put _ (some 28) _=_
   simp only [Act.put,List.setIfInBounds_toArray,List.set_cons_zero,List.set_cons_succ,cZ,dB]
   rfl
  refine yO (i:=8) (N:=some 6) (v := ?_) (a' := ?_) #[true,true,true,true,true,true,true,true,true] rfl rfl (adu HT_.out (by kernel_rfl)) (fun _ _ _ h=>h) (Or.inl ⟨by rfl,?_⟩) ?_ ?_
  rotate_left
  ·intro w'
   go_simp
   with_reducible rfl
  rotate_left
  ·simp only [Act.put,List.setIfInBounds_toArray,List.set_cons_zero,List.set_cons_succ,cZ,dB]
   rfl
  refine afC (aty HT_.out (by kernel_rfl)) ?_
  try go_wp2
  go_ret
  exact ⟨zS,zB⟩
end Go.Proofs.YtpondkggmcmpfaaGreatDoor.QA
namespace Go.Proofs.YtpondkggmcmpfaaGreatDoor.QA
open Go.Proofs.YtpondkggmcmpfaaGreatDoor.T
open Go.RowKit Go.Proofs.YtpondkggmcmpfaaGreatDoorW.PrintWords Go.Proofs.YtpondkggmcmpfaaGreatDoorW.PrintLast Go.Proofs.YtpondkggmcmpfaaGreatDoorW.PrintMore
attribute [local go_sem] eG dX dY fF fG
set_option linter.unusedVariables false
set_option linter.unusedSimpArgs false
mutual
def bV.j0:Nat→Int→Int→Bool→Option (Int)
 | 0,_,_,_=>none
 | k+1,x0,x1,x14=>if x14=true then (some 0) else (if x0≥(wrap64 (2*x1)) then (bV.j1 k x0 x1 true) else (bV.j1 k x0 x1 (decide (x0≤(wrap64 ((-2)*x1))))))
def bV.j1:Nat→Int→Int→Bool→Option (Int)
 | 0,_,_,_=>none
 | k+1,x0,x1,x24=>if x24=true then (some 0) else (if x0 < 0 then (bV.j2 k (wrap64 (-x0)) x1) else (bV.j2 k x0 x1))
def bV.j2:Nat→Int→Int→Option (Int)
 | 0,_,_=>none
 | k+1,x0,x1=>if x0 < x1 then ((aZ.f k (wrap64 ((wrap64 ((wrap64 (3*(wrap64 ((wrap64 (x0*x0))*x0)))) - (wrap64 ((wrap64 (5*(wrap64 (x0*x0))))*x1))))+(wrap64 (2*(wrap64 ((wrap64 (x1*x1))*x1)))))) 1073741824 (wrap64 (2*(wrap64 ((wrap64 (x1*x1))*x1))))).bind fun aqy=>(some aqy)) else ((aZ.f k (wrap64 ((wrap64 ((wrap64 ((wrap64 ((wrap64 (5*(wrap64 (x0*x0))))*x1)) - (wrap64 ((wrap64 (x0*x0))*x0)))) - (wrap64 ((wrap64 (8*x0))*(wrap64 (x1*x1))))))+(wrap64 (4*(wrap64 ((wrap64 (x1*x1))*x1)))))) 1073741824 (wrap64 (2*(wrap64 ((wrap64 (x1*x1))*x1))))).bind fun aqz=>(some aqz))
end
def bV.f (k:Nat) (a0 a1:Int):Option (Int):=if a1 < 1 then (bV.j0 k a0 a1 true) else (bV.j0 k a0 a1 (decide (a1 > 262144)))
set_option maxHeartbeats 8000000 in
set_option maxRecDepth 100000 in
theorem bV.calls (k:Nat) (a0 a1 r:Int) (w:World) (h:bV.f k a0 a1=some r) :
  Calls Tryz.prog 170 #[.int .i64 a0,.int .i64 a1] w fun e w'=>e = .returned (.int .i64 r)∧Below w.heap.size w w':=by
 have HB:=aj.mk (Below.refl w.heap.size w)
 have H:=h
 clear h
 unfold bV.f at H
 have HC3:=aj.mk H
 clear H
 go_enter Tryz.func170,Tryz.ntmps170
 go_upto_region 1 with (fail)
 go_cut [14] (fun v14 wc=>∃ (kq:Nat) (aaj:Bool),v14 = .bool aaj∧aj (bV.j0 kq a0 a1 aaj=some r)∧aj (kq≤k)∧aj (Below w.heap.size w wc))
 case first =>
  have H:=HC3.out
  clear HC3
  by_cases c4:a1 < 1
  ·rw [if_pos c4] at H
   have gI:=decide_eq_true c4
   clear c4
   (first|rw [gI]|(simp only [cZ,dB];rw [gI])|skip)
   have H':=aj.mk H
   clear H
   go_wp2
   go_meet
   case rel=>exact ⟨_,(true),zT,H',⟨by first|omega|exact Nat.le_refl _⟩,⟨zB⟩⟩
  ·rw [if_neg c4] at H
   have gI:=decide_eq_false c4
   clear c4
   (first|rw [gI]|(simp only [cZ,dB];rw [gI])|skip)
   have H':=aj.mk H
   clear H
   go_wp2
   go_meet
   case rel=>exact ⟨_,(decide (a1 > 262144)),zT,H',⟨by first|omega|exact Nat.le_refl _⟩,⟨zB⟩⟩
 case rest =>
  clear HC3
  obtain ⟨kq,aaj,rfl,HA,HJ2,HB⟩:=hcut
  cases kq with
  | zero=>exact absurd HA.out (by simp [bV.j0])
  | succ kj2 =>
   have H:=HA.out
   clear HA
   simp only [bV.j0] at H
   by_cases c5:aaj=true
   ·subst c5
    rw [if_pos rfl] at H;try dsimp only at H
    obtain rfl:=Option.some.inj H
    go_wp2
    go_ret
    exact ⟨zS,zB⟩
   ·replace c5:=Bool.eq_false_iff.mpr c5
    subst c5
    rw [if_neg (show ¬ (false=true) by decide)] at H;try dsimp only at H
    have HC6:=aj.mk H
    clear H
    go_upto_region 3 with (fail)
    go_cut [24] (fun v24 wc=>∃ (kq:Nat) (akd:Bool),v24 = .bool akd∧aj (bV.j1 kq a0 a1 akd=some r)∧aj (kq≤kj2)∧aj (Below w.heap.size w wc))
    case first =>
     have H:=HC6.out
     clear HC6
     by_cases c7:a0≥(wrap64 (2*a1))
     ·rw [if_pos c7] at H
      have jI:=decide_eq_true c7
      clear c7
      (first|rw [jI]|(simp only [cZ,dB];rw [jI])|skip)
      have H':=aj.mk H
      clear H
      go_wp2
      go_meet
      case rel=>exact ⟨_,(true),zT,H',⟨by have:=HJ2.out;first|omega|exact Nat.le_refl _⟩,⟨zB⟩⟩
     ·rw [if_neg c7] at H
      have jI:=decide_eq_false c7
      clear c7
      (first|rw [jI]|(simp only [cZ,dB];rw [jI])|skip)
      have H':=aj.mk H
      clear H
      go_wp2
      go_meet
      case rel=>exact ⟨_,(decide (a0≤(wrap64 ((-2)*a1)))),zT,H',⟨by have:=HJ2.out;first|omega|exact Nat.le_refl _⟩,⟨zB⟩⟩
    case rest =>
     clear HC6
     obtain ⟨kq,akd,rfl,HA,HJ5,HB⟩:=hcut
     cases kq with
     | zero=>exact absurd HA.out (by simp [bV.j1])
     | succ kj5 =>
      have H:=HA.out
      clear HA
      simp only [bV.j1] at H
      by_cases c8:akd=true
      ·subst c8
       rw [if_pos rfl] at H;try dsimp only at H
       obtain rfl:=Option.some.inj H
       go_wp2
       go_ret
       exact ⟨zS,zB⟩
      ·replace c8:=Bool.eq_false_iff.mpr c8
       subst c8
       rw [if_neg (show ¬ (false=true) by decide)] at H;try dsimp only at H
       have HC9:=aj.mk H
       clear H
       go_upto_if 26 with (fail)
       go_cut [0] (fun v0 wc=>∃ (kq:Nat) (qG:Int),v0 = .int .i64 qG∧aj (bV.j2 kq qG a1=some r)∧aj (kq≤kj5)∧aj (Below w.heap.size w wc))
       case first =>
        have H:=HC9.out
        clear HC9
        by_cases c10:a0 < 0
        ·rw [if_pos c10] at H
         have nN:=decide_eq_true c10
         clear c10
         (first|rw [nN]|(simp only [cZ,dB];rw [nN])|skip)
         have H':=aj.mk H
         clear H
         go_wp2
         go_meet
         case rel=>exact ⟨_,(wrap64 (-a0)),zT,H',⟨by have:=HJ2.out;have:=HJ5.out;first|omega|exact Nat.le_refl _⟩,⟨zB⟩⟩
        ·rw [if_neg c10] at H
         have nN:=decide_eq_false c10
         clear c10
         (first|rw [nN]|(simp only [cZ,dB];rw [nN])|skip)
         have H':=aj.mk H
         clear H
         go_wp2
         go_meet
         case rel=>exact ⟨_,(a0),zT,H',⟨by have:=HJ2.out;have:=HJ5.out;first|omega|exact Nat.le_refl _⟩,⟨zB⟩⟩
       case rest =>
        clear HC9
        obtain ⟨kq,qG,rfl,HA,HJ8,HB⟩:=hcut
        cases kq with
        | zero=>exact absurd HA.out (by simp [bV.j2])
        | succ kj8 =>
         have H:=HA.out
         clear HA
         simp only [bV.j2] at H
         by_cases c11:qG < a1
         ·rw [if_pos c11] at H
          have jf:=decide_eq_true c11
          clear c11
          replace H:=zO H
          obtain ⟨aqy,A12,H⟩:=H
          try dsimp only at H
          obtain rfl:=Option.some.inj H
          go_wp2_with (first|((with_reducible refine aA (f:=118) rfl ?_);refine aI (some 56) rfl rfl Tryz.func118 (by kernel_rfl) rfl #[.int .i64 (wrap64 ((wrap64 ((wrap64 (3*(wrap64 ((wrap64 (qG*qG))*qG)))) - (wrap64 ((wrap64 (5*(wrap64 (qG*qG))))*a1))))+(wrap64 (2*(wrap64 ((wrap64 (a1*a1))*a1)))))),.int .i64 1073741824,.int .i64 (wrap64 (2*(wrap64 ((wrap64 (a1*a1))*a1))))] rfl zL ?_;(with_reducible refine (aZ.calls kj8 (wrap64 ((wrap64 ((wrap64 (3*(wrap64 ((wrap64 (qG*qG))*qG)))) - (wrap64 ((wrap64 (5*(wrap64 (qG*qG))))*a1))))+(wrap64 (2*(wrap64 ((wrap64 (a1*a1))*a1)))))) 1073741824 (wrap64 (2*(wrap64 ((wrap64 (a1*a1))*a1)))) aqy _ A12.out).mono ?_);rintro e w13 ⟨rfl,hb⟩;refine ⟨_,rfl,?_⟩;replace HB:=aj.mk (ak zB hb);(try clear hb)))
          go_ret
          exact ⟨zS,zB⟩
         ·rw [if_neg c11] at H
          have jf:=decide_eq_false c11
          clear c11
          replace H:=zO H
          obtain ⟨aqz,A14,H⟩:=H
          try dsimp only at H
          obtain rfl:=Option.some.inj H
          go_wp2_with (first|((with_reducible refine aA (f:=118) rfl ?_);refine aI (some 73) rfl rfl Tryz.func118 (by kernel_rfl) rfl #[.int .i64 (wrap64 ((wrap64 ((wrap64 ((wrap64 ((wrap64 (5*(wrap64 (qG*qG))))*a1)) - (wrap64 ((wrap64 (qG*qG))*qG)))) - (wrap64 ((wrap64 (8*qG))*(wrap64 (a1*a1))))))+(wrap64 (4*(wrap64 ((wrap64 (a1*a1))*a1)))))),.int .i64 1073741824,.int .i64 (wrap64 (2*(wrap64 ((wrap64 (a1*a1))*a1))))] rfl zL ?_;(with_reducible refine (aZ.calls kj8 (wrap64 ((wrap64 ((wrap64 ((wrap64 ((wrap64 (5*(wrap64 (qG*qG))))*a1)) - (wrap64 ((wrap64 (qG*qG))*qG)))) - (wrap64 ((wrap64 (8*qG))*(wrap64 (a1*a1))))))+(wrap64 (4*(wrap64 ((wrap64 (a1*a1))*a1)))))) 1073741824 (wrap64 (2*(wrap64 ((wrap64 (a1*a1))*a1)))) aqz _ A14.out).mono ?_);rintro e w15 ⟨rfl,hb⟩;refine ⟨_,rfl,?_⟩;replace HB:=aj.mk (ak zB hb);(try clear hb)))
          go_ret
          exact ⟨zS,zB⟩
end Go.Proofs.YtpondkggmcmpfaaGreatDoor.QA
namespace Go.Proofs.YtpondkggmcmpfaaGreatDoor.QA
open Go.Proofs.YtpondkggmcmpfaaGreatDoor.T
open Go.RowKit Go.Proofs.YtpondkggmcmpfaaGreatDoorW.PrintWords Go.Proofs.YtpondkggmcmpfaaGreatDoorW.PrintLast Go.Proofs.YtpondkggmcmpfaaGreatDoorW.PrintMore
attribute [local go_sem] eG dX dY fF fG
set_option linter.unusedVariables false
set_option linter.unusedSimpArgs false
mutual
def aT.l0:Nat→Int→Int→Int→Int→Int→Int→Option (Int)
 | 0,_,_,_,_,_,_=>none
 | k+1,x0,x1,x20,x21,rM,rO=>if x21 < x20 then ((dO.f rM rO 0).bind fun asP=>(aT.l0 k x0 x1 x20 (wrap64 (x21+1)) asP.1 asP.2)) else ((dQ.f x0).bind fun uI=>(aT.l1 k x0 x1 127 rM rO 0 uI 0 0))
def aT.l1:Nat→Int→Int→Int→Int→Int→Int→Int→Int→Int→Option (Int)
 | 0,_,_,_,_,_,_,_,_,_=>none
 | k+1,x0,x1,x8,rM,rO,uY,uZ,rU,rV=>if x8≥x1 then ((fO.f uY uZ x8).bind fun ak5=>((dO.f rU rV ak5).bind fun asQ=>(aT.l1 k x0 x1 (wrap64 (x8 - 1)) rM rO uY uZ asQ.1 asQ.2))) else (aT.l2 k x0 x1 rM rO uY uZ rU rV uY uZ)
def aT.l2:Nat→Int→Int→Int→Int→Int→Int→Int→Int→Int→Int→Option (Int)
 | 0,_,_,_,_,_,_,_,_,_,_=>none
 | k+1,x0,x10,rM,rO,uY,uZ,rU,rV,aaI,aaJ=>if x10 < 128 then ((fO.f uY uZ x10).bind fun adZ=>(if adZ=1 then (aT.l3 k x0 x10 x10 0 rM rO uY uZ rU rV aaI aaJ 0 1) else (aT.l2 k x0 (wrap64 (x10+1)) rM rO uY uZ rU rV aaI aaJ))) else ((iH.f aaI aaJ rM rO).bind fun anX=>(if x0 < 0 then ((iH.f rM rO aaI aaJ).bind fun anY=>(aT.j4 k x0 anY rU rV)) else (aT.j4 k x0 (!anX) rU rV)))
def aT.l3:Nat→Int→Int→Int→Int→Int→Int→Int→Int→Int→Int→Int→Int→Int→Int→Option (Int)
 | 0,_,_,_,_,_,_,_,_,_,_,_,_,_,_=>none
 | k+1,x0,x10,x51,x52,rM,rO,uY,uZ,rU,rV,aaI,aaJ,amS,amT=>if x52 < x51 then ((dO.f amS amT 0).bind fun asR=>(aT.l3 k x0 x10 x51 (wrap64 (x52+1)) rM rO uY uZ rU rV aaI aaJ asR.1 asR.2)) else ((kJ.f aaI aaJ amS amT).bind fun asT=>(aT.l2 k x0 (wrap64 (x10+1)) rM rO uY uZ rU rV asT.1 asT.2))
def aT.j4:Nat→Int→Bool→Int→Int→Option (Int)
 | 0,_,_,_,_=>none
 | k+1,x0,x12,rU,rV=>if x12=true then ((iq.f rU rV 0 1).bind fun asU=>((bW.f k asU.1 asU.2 (decide (x0 < 0))).bind fun aqA=>(some aqA))) else ((bW.f k rU rV (decide (x0 < 0))).bind fun aqB=>(some aqB))
end
def aT.f (k:Nat) (a0 a1:Int):Option (Int):=if a1 < 1 then (some a0) else (if a1 > 64 then (some 0) else (aT.l0 k a0 a1 (wrap64 (a1 - 1)) 0 0 1))
set_option maxHeartbeats 8000000 in
set_option maxRecDepth 100000 in
theorem aT.calls (k:Nat) (a0 a1 r:Int) (w:World) (h:aT.f k a0 a1=some r) :
  Calls Tryz.prog 101 #[.int .i64 a0,.int .i64 a1] w fun e w'=>e = .returned (.int .i64 r)∧Below w.heap.size w w':=by
 have yR:=Tryz.underlying179
 have HB:=aj.mk (Below.refl w.heap.size w)
 have H:=h
 clear h
 unfold aT.f at H
 by_cases c3:a1 < 1
 ·rw [if_pos c3] at H
  have gq:=decide_eq_true c3
  clear c3
  obtain rfl:=Option.some.inj H
  go_enter Tryz.func101,Tryz.ntmps101
  go_wp2
  go_ret
  exact ⟨zS,zB⟩
 ·rw [if_neg c3] at H
  have gq:=decide_eq_false c3
  clear c3
  by_cases c4:a1 > 64
  ·rw [if_pos c4] at H
   have gI:=decide_eq_true c4
   clear c4
   obtain rfl:=Option.some.inj H
   go_enter Tryz.func101,Tryz.ntmps101
   go_wp2
   go_ret
   exact ⟨zS,zB⟩
  ·rw [if_neg c4] at H
   have gI:=decide_eq_false c4
   clear c4
   have H':=aj.mk H
   clear H
   go_enter Tryz.func101,Tryz.ntmps101
   go_wp2_with (first|((with_reducible refine bK (N:=5) rfl ?_);refine bJ zR (N:=5) zR (cs := #[.int .u64 0,.int .u64 0]) (t:=179) zG ?_;intro afM hg w5 hbox hb;obtain ⟨HB,eF,aBj,aBk⟩:=zA4 (ak zB hb) hbox (zg hg zB) (zg hg zB);clear hb hbox hg;obtain ⟨_,_⟩:=zC2 eF.out;obtain ⟨_,_⟩:=zF2 eF.out))
   go_loopg [21] k (fun kq v21 w'=>∃ (xA:Int) (kH:Int) (jX:Int),v21 = .int .i64 xA∧aj (aT.l0 kq a0 a1 (wrap64 (a1 - 1)) xA kH jX=some r)∧aj (kq≤k)∧aj (w'.heap[afM]? = some (.cells #[.int .u64 kH,.int .u64 jX] 179 (0,0)))∧aj (Below w.heap.size w w'))
   case atStart=>exact ⟨(0),(0),(1),zT,H',⟨Nat.le_refl _⟩,⟨by refine zD ?_;refine aJ (cs := #[.int .u64 0,.int .u64 0]) ?_ 1 _ rfl;refine zD ?_;refine aJ (cs := #[.int .u64 0,.int .u64 0]) ?_ 0 _ rfl;refine zD ?_;exact eF.out⟩,⟨zB⟩⟩
   case round =>
    clear H'
    obtain ⟨xA,kH,jX,rfl,HA,HK1,eF,HB⟩:=hrel
    cases gk with
    | zero=>exact absurd HA.out (by simp [aT.l0])
    | succ k1 =>
     have H:=HA.out
     clear HA
     simp only [aT.l0] at H
     by_cases c7:xA < (wrap64 (a1 - 1))
     ·rw [if_pos c7] at H
      have jI:=decide_eq_true c7
      clear c7
      replace H:=zO H
      obtain ⟨⟨aqC,auJ⟩,A8,H⟩:=H
      try dsimp only at H
      have H':=aj.mk H
      clear H
      obtain ⟨_,_⟩:=zC2 eF.out
      obtain ⟨_,_⟩:=zF2 eF.out
      go_wp2_with (first|((with_reducible refine aA (f:=119) rfl ?_);refine aI (some 24) rfl rfl Tryz.func119 (by kernel_rfl) rfl #[.agg #[.int .u64 kH,.int .u64 jX],.int .u64 0] rfl zL ?_;(with_reducible refine (dO.calls kH jX 0 aqC auJ _ A8.out).mono ?_);rintro e w10 ⟨rfl,hb⟩;refine ⟨_,rfl,?_⟩;obtain ⟨eF,HB⟩:=zA2 (ay (zK eF) hb) (ak zB hb);(try clear hb);obtain ⟨_,_⟩:=zC2 eF.out;obtain ⟨_,_⟩:=zF2 eF.out))
      go_roundg k1
      case measure=>have:=HK1.out;omega
      case rel=>exact ⟨(wrap64 (xA+1)),(aqC),(auJ),zT,H',⟨by have:=HK1.out;omega⟩,⟨by refine zD ?_;refine aJ (cs := #[.int .u64 aqC,.int .u64 jX]) ?_ 1 _ rfl;refine zD ?_;refine aJ (cs := #[.int .u64 kH,.int .u64 jX]) ?_ 0 _ rfl;refine zD ?_;exact eF.out⟩,⟨zB⟩⟩
     ·rw [if_neg c7] at H
      have jI:=decide_eq_false c7
      clear c7
      replace H:=zO H
      obtain ⟨uI,A12,H⟩:=H
      try dsimp only at H
      have H':=aj.mk H
      clear H
      go_wp2_with (first|((with_reducible refine aA (f:=120) rfl ?_);refine aI (some 27) rfl rfl Tryz.func120 (by kernel_rfl) rfl #[.int .i64 a0] rfl zL ?_;(with_reducible refine (dQ.calls a0 uI _ A12.out).mono ?_);rintro e w' ⟨rfl,⟨nd,rfl⟩⟩;refine ⟨_,rfl,?_⟩;(try (rw [oI wr];generalize hq_:World.drewN wr _=wr;have n0_:aj (wr.heap[afM]? = some (.cells #[.int .u64 kH,.int .u64 jX] 179 (0,0))):=⟨by rw [← hq_];exact (zK eF)⟩;have n1_:aj (Below w.heap.size w wr):=⟨by rw [← hq_];exact zB⟩;clear eF HB hq_;have eF:=n0_;have HB:=n1_;clear n0_ n1_)))|((with_reducible refine bK (N:=6) rfl ?_);refine bJ zR (N:=6) zR (cs := #[.int .u64 0,.int .u64 0]) (t:=179) zG ?_;intro aak hg w13 hbox hb;obtain ⟨eF,HB,fP,aBl,aBm,zx,zy⟩:=zA7 (ay (zK eF) hb) (ak zB hb) hbox (zg hg zB) (zg hg zB) (zl hg (zK eF)) (zr hg (zK eF));clear hb hbox hg;have anM:=zy.out;have anN:=zx.out;obtain ⟨_,_⟩:=zC2 fP.out;obtain ⟨_,_⟩:=zF2 fP.out)|((with_reducible refine bK (N:=7) rfl ?_);refine bJ zR (N:=7) zR (cs := #[.int .u64 0,.int .u64 0]) (t:=179) zG ?_;intro aal hg w16 hbox hb;obtain ⟨eF,fP,HB,fQ,aBn,aBo,xU,xW,vK,vM⟩:=aeA (ay (zK eF) hb) (ay (g:=aak) (o := .cells #[.int .u64 0,.int .u64 uI] 179 (0,0)) (by refine zD ?_;refine aJ (cs := #[.int .u64 0,.int .u64 0]) ?_ 1 _ rfl;refine zD ?_;refine aJ (cs := #[.int .u64 0,.int .u64 0]) ?_ 0 _ rfl;refine zD ?_;exact fP.out) hb) (ak zB hb) hbox (zg hg zB) (zg hg zB) (zl hg (zK eF)) (zr hg (zK eF)) ((by rw [hg];exact Nat.ne_of_lt (dJ (g:=aak) (o := .cells #[.int .u64 0,.int .u64 uI] 179 (0,0)) (by refine zD ?_;refine aJ (cs := #[.int .u64 0,.int .u64 0]) ?_ 1 _ rfl;refine zD ?_;refine aJ (cs := #[.int .u64 0,.int .u64 0]) ?_ 0 _ rfl;refine zD ?_;exact fP.out)):aak≠aal)) ((by rw [hg];exact Nat.ne_of_gt (dJ (g:=aak) (o := .cells #[.int .u64 0,.int .u64 uI] 179 (0,0)) (by refine zD ?_;refine aJ (cs := #[.int .u64 0,.int .u64 0]) ?_ 1 _ rfl;refine zD ?_;refine aJ (cs := #[.int .u64 0,.int .u64 0]) ?_ 0 _ rfl;refine zD ?_;exact fP.out)):aal≠aak));clear hb hbox hg;have awr:=xW.out;have awt:=xU.out;have awx:=vM.out;have awy:=vK.out;obtain ⟨_,_⟩:=zC2 fQ.out;obtain ⟨_,_⟩:=zF2 fQ.out))
      try simp only [Act.put,List.setIfInBounds_toArray,List.set_cons_succ,List.set_cons_zero]
      go_loopg [8] k1 (fun kq v8 w'=>∃ (lK:Int) (jY:Int) (jE:Int),v8 = .int .i64 lK∧aj (aT.l1 kq a0 a1 lK kH jX 0 uI jY jE=some r)∧aj (kq≤k1)∧aj (w'.heap[afM]? = some (.cells #[.int .u64 kH,.int .u64 jX] 179 (0,0)))∧aj (w'.heap[aak]? = some (.cells #[.int .u64 0,.int .u64 uI] 179 (0,0)))∧aj (w'.heap[aal]? = some (.cells #[.int .u64 jY,.int .u64 jE] 179 (0,0)))∧aj (Below w.heap.size w w'))
      case atStart=>exact ⟨(127),(0),(0),zT,H',⟨Nat.le_refl _⟩,⟨zK eF⟩,⟨zK fP⟩,⟨by refine zD ?_;refine aJ (cs := #[.int .u64 0,.int .u64 0]) ?_ 1 _ rfl;refine zD ?_;refine aJ (cs := #[.int .u64 0,.int .u64 0]) ?_ 0 _ rfl;refine zD ?_;exact fQ.out⟩,⟨zB⟩⟩
      case round =>
       clear H'
       obtain ⟨lK,jY,jE,rfl,HA,HK2,eF,fP,fQ,HB⟩:=hrel
       cases gk with
       | zero=>exact absurd HA.out (by simp [aT.l1])
       | succ k2 =>
        have H:=HA.out
        clear HA
        simp only [aT.l1] at H
        by_cases c20:lK≥a1
        ·rw [if_pos c20] at H
         have awz:=decide_eq_true c20
         clear c20
         replace H:=zO H
         obtain ⟨ak5,A21,H⟩:=H
         try dsimp only at H
         replace H:=zO H
         obtain ⟨⟨aqD,auK⟩,A22,H⟩:=H
         try dsimp only at H
         have H':=aj.mk H
         clear H
         try go_wp2
         obtain ⟨eF,fP,fQ,HB⟩:=zA4 (jO eF.out) (jO fP.out) (jO fQ.out) (bf HB.out)
         refine adr (n:=6) (S:=fun w'=>w'.cell? ⟨aal,0,none⟩=some (.int .u64 jY)∧w'.cell? ⟨aal,1,none⟩=some (.int .u64 jE)∧w'.cell? ⟨aak,0,none⟩=some (.int .u64 0)∧w'.cell? ⟨aak,1,none⟩=some (.int .u64 uI)) (ds:=[5]) #[false,false,false,false,false,false] (by kernel_rfl) rfl rfl ⟨(au fQ.out 0).trans rfl,(au fQ.out 1).trans rfl,(au fP.out 0).trans rfl,(au fP.out 1).trans rfl⟩ (fun hHeld => ?_)
         generalize wr.drew=w23 at eF fP fQ HB hHeld ⊢
         refine yO (i:=2) (N:=some 37) (v := ?_) (a' := ?_) #[false,false,true,false,false,false] rfl rfl (by kernel_rfl) (fun _ _ _ h=>h) (Or.inl ⟨by rfl,?_⟩) ?_ ?_
         rotate_left
         ·intro w'
          go_simp
          with_reducible rfl
         rotate_left
         ·simp only [Act.put,List.setIfInBounds_toArray,List.set_cons_zero,List.set_cons_succ,cZ,dB]
          rfl
         refine zZ (i:=0) (N:=some 35) (v := ?_) (a' := ?_) #[true,false,true,false,false,false] rfl rfl (by kernel_rfl) (fun _ _ _ h=>h) (Or.inl ⟨by rfl,?_⟩) hHeld ?_ ?_
         rotate_left
         ·rintro w' ⟨s0,s1,s2,s3⟩
          go_simp
          with_reducible rfl
         rotate_left
         ·simp only [Act.put,List.setIfInBounds_toArray,List.set_cons_zero,List.set_cons_succ,cZ,dB]
          rfl
         refine zZ (i:=1) (N:=some 36) (v := ?_) (a' := ?_) #[true,true,true,false,false,false] rfl rfl (by kernel_rfl) (fun _ _ _ h=>h) (Or.inl ⟨by rfl,?_⟩) hHeld ?_ ?_
         rotate_left
         ·rintro w' ⟨s0,s1,s2,s3⟩
          go_simp
          with_reducible rfl
         rotate_left
         ·simp only [Act.put,List.setIfInBounds_toArray,List.set_cons_zero,List.set_cons_succ,cZ,dB]
          rfl
         refine ab1 (i:=3) (N:=some 38) #[true,true,true,true,false,false] rfl rfl (by kernel_rfl) (by decide) (fun K hK => ?_)
         refine aaT Tryz.func121 (by kernel_rfl) rfl #[.agg #[.int .u64 0,.int .u64 uI],.int .i64 lK] (by rfl) rfl rfl zL ?_
         with_reducible refine (fO.calls 0 uI lK ak5 _ A21.out).mono ?_
         rintro e w24 ⟨rfl,hb⟩
         refine ⟨_,rfl,?_⟩
         obtain ⟨eF,fP,fQ,HB⟩:=zA4 (ay (zK eF) hb) (ay (zK fP) hb) (ay (zK fQ) hb) (ak zB hb)
         (try clear hb)
         (try clear hb2)
         (try clear hk)
         (try clear hi)
         refine hK.out _ _ ⟨(au fQ.out 0).trans rfl,(au fQ.out 1).trans rfl,(au fP.out 0).trans rfl,(au fP.out 1).trans rfl⟩ (fun hHeld => ?_)
         clear hK K
         refine aaS (a' := ?_) ?_ ?_
         rotate_left
         ·show Act.put _ (some 38) _=_
          simp only [Act.put,List.setIfInBounds_toArray,List.set_cons_zero,List.set_cons_succ,cZ,dB]
          rfl
         refine ab1 (i:=4) (N:=some 39) #[true,true,true,true,true,false] rfl rfl (by kernel_rfl) (by decide) (fun K hK => ?_)
         refine aaT Tryz.func119 (by kernel_rfl) rfl #[.agg #[.int .u64 jY,.int .u64 jE],.int .u64 ak5] (by rfl) rfl rfl zL ?_
         with_reducible refine (dO.calls jY jE ak5 aqD auK _ A22.out).mono ?_
         rintro e w25 ⟨rfl,hb⟩
         refine ⟨_,rfl,?_⟩
         obtain ⟨eF,fP,fQ,HB⟩:=zA4 (ay (zK eF) hb) (ay (zK fP) hb) (ay (zK fQ) hb) (ak zB hb)
         (try clear hb)
         (try clear hb2)
         (try clear hk)
         (try clear hi)
         refine hK.out _ _ ⟨(au fQ.out 0).trans rfl,(au fQ.out 1).trans rfl,(au fP.out 0).trans rfl,(au fP.out 1).trans rfl⟩ (fun hHeld => ?_)
         clear hK K
         refine aaS (a' := ?_) ?_ ?_
         rotate_left
         ·show Act.put _ (some 39) _=_
          simp only [Act.put,List.setIfInBounds_toArray,List.set_cons_zero,List.set_cons_succ,cZ,dB]
          rfl
         refine aj3 (i:=5) (N:=none) #[true,true,true,true,true,true] rfl rfl (by kernel_rfl) (by decide) (fun K hK => ?_)
         have aDu:w25.cell? ⟨aal,0,none⟩=some (.int .u64 jY):=(au fQ.out 0).trans rfl
         have aBp:=aH fQ.out 0
         have az0:=xU.out
         have az1:=vK.out
         have az2:=xW.out
         have az3:=vM.out
         have aDv:w25.cell? ⟨aal,1,none⟩=some (.int .u64 jE):=(au fQ.out 1).trans rfl
         have aBq:=aH fQ.out 1
         have az4:=xU.out
         have az5:=vK.out
         have az6:=xW.out
         have az7:=vM.out
         refine ag8 (w1 := ?_) (by rfl) rfl ?_ ?_
         rotate_left
         ·go_simp
          rfl
         refine hK.out _ _ ?_
         clear hK K
         refine afC (by kernel_rfl) ?_
         try go_wp2
         go_roundg k2
         case measure=>have:=HK1.out;have:=HK2.out;omega
         case rel=>exact ⟨(wrap64 (lK - 1)),(aqD),(auK),zT,H',⟨by have:=HK1.out;have:=HK2.out;omega⟩,⟨zK eF⟩,⟨zK fP⟩,⟨by refine zD ?_;refine aJ (cs := #[.int .u64 aqD,.int .u64 jE]) ?_ 1 _ rfl;refine zD ?_;refine aJ (cs := #[.int .u64 jY,.int .u64 jE]) ?_ 0 _ rfl;refine zD ?_;exact fQ.out⟩,⟨zB⟩⟩
        ·rw [if_neg c20] at H
         have awz:=decide_eq_false c20
         clear c20
         have H':=aj.mk H
         clear H
         have awC:=zy.out
         have awD:=zx.out
         have anQ:=vK.out
         have anR:=vM.out
         obtain ⟨_,_⟩:=zC2 fP.out
         obtain ⟨_,_⟩:=zF2 fP.out
         go_wp2_with (first|((with_reducible refine bK (N:=9) rfl ?_);refine bJ zR (N:=9) zR (cs := #[.int .u64 0,.int .u64 0]) (t:=179) zG ?_;intro anZ hg w31 hbox hb;obtain ⟨eF,fP,fQ,HB,jh,aBr,aBs,acM,acN,zA,zC,zF,zH⟩:=agm (ay (zK eF) hb) (ay (zK fP) hb) (ay (zK fQ) hb) (ak zB hb) hbox (zg hg zB) (zg hg zB) (zl hg (zK eF)) (zr hg (zK eF)) (zl hg (zK fP)) (zr hg (zK fP)) (zl hg (zK fQ)) (zr hg (zK fQ));clear hb hbox hg;have aBt:=acN.out;have aBu:=acM.out;have awE:=zC.out;have awF:=zA.out;have aBv:=zH.out;have aBw:=zF.out;obtain ⟨_,_⟩:=zC2 jh.out;obtain ⟨_,_⟩:=zF2 jh.out))
         try simp only [Act.put,List.setIfInBounds_toArray,List.set_cons_succ,List.set_cons_zero]
         go_loopg [10] k2 (fun kq v10 w'=>∃ (jZ:Int) (ni:Int) (lV:Int),v10 = .int .i64 jZ∧aj (aT.l2 kq a0 jZ kH jX 0 uI jY jE ni lV=some r)∧aj (kq≤k2)∧aj (w'.heap[afM]? = some (.cells #[.int .u64 kH,.int .u64 jX] 179 (0,0)))∧aj (w'.heap[aak]? = some (.cells #[.int .u64 0,.int .u64 uI] 179 (0,0)))∧aj (w'.heap[aal]? = some (.cells #[.int .u64 jY,.int .u64 jE] 179 (0,0)))∧aj (w'.heap[anZ]? = some (.cells #[.int .u64 ni,.int .u64 lV] 179 (0,0)))∧aj (Below w.heap.size w w'))
         case atStart=>exact ⟨(a1),(0),(uI),zT,H',⟨Nat.le_refl _⟩,⟨zK eF⟩,⟨zK fP⟩,⟨zK fQ⟩,⟨by refine zD ?_;refine aJ (cs := #[.int .u64 0,.int .u64 0]) ?_ 1 _ rfl;refine zD ?_;refine aJ (cs := #[.int .u64 0,.int .u64 0]) ?_ 0 _ rfl;refine zD ?_;exact jh.out⟩,⟨zB⟩⟩
         case round =>
          clear H'
          obtain ⟨jZ,ni,lV,rfl,HA,HK3,eF,fP,fQ,jh,HB⟩:=hrel
          cases gk with
          | zero=>exact absurd HA.out (by simp [aT.l2])
          | succ k3 =>
           have H:=HA.out
           clear HA
           simp only [aT.l2] at H
           by_cases c36:jZ < 128
           ·rw [if_pos c36] at H
            have awG:=decide_eq_true c36
            clear c36
            replace H:=zO H
            obtain ⟨adZ,A37,H⟩:=H
            try dsimp only at H
            by_cases c38:adZ=1
            ·rw [if_pos c38] at H
             have ad1:(adZ == 1)=true:=beq_iff_eq.mpr c38
             have an0:(adZ != 1)=false:=bne_eq_false_iff_eq.mpr c38
             clear c38
             have H':=aj.mk H
             clear H
             have aBx:=zy.out
             have aBy:=zx.out
             have asI:=vK.out
             have asJ:=vM.out
             have awg:=zA.out
             have awh:=zC.out
             obtain ⟨_,_⟩:=zC2 fP.out
             obtain ⟨_,_⟩:=zF2 fP.out
             go_wp2_with (first|((with_reducible refine aA (f:=121) rfl ?_);refine aI (some 48) rfl rfl Tryz.func121 (by kernel_rfl) rfl #[.agg #[.int .u64 0,.int .u64 uI],.int .i64 jZ] rfl zL ?_;(with_reducible refine (fO.calls 0 uI jZ adZ _ A37.out).mono ?_);rintro e w43 ⟨rfl,hb⟩;refine ⟨_,rfl,?_⟩;obtain ⟨eF,fP,fQ,jh,HB⟩:=zA5 (ay (zK eF) hb) (ay (zK fP) hb) (ay (zK fQ) hb) (ay (zK jh) hb) (ak zB hb);(try clear hb))|((with_reducible refine bK (N:=11) rfl ?_);refine bJ zR (N:=11) zR (cs := #[.int .u64 0,.int .u64 0]) (t:=179) zG ?_;intro awH hg w44 hbox hb;have n0_:=aj.mk (ay (zK eF) hb);have n1_:=aj.mk (ay (zK fP) hb);have n2_:=aj.mk (ay (zK fQ) hb);have n3_:=aj.mk (ay (zK jh) hb);have n4_:=aj.mk (ak zB hb);have n5_:=aj.mk (hbox);have n6_:=aj.mk (zg hg zB);have n7_:=aj.mk (zg hg zB);have n8_:=aj.mk (zl hg (zK eF));have n9_:=aj.mk (zr hg (zK eF));have auL:=aj.mk (zl hg (zK fP));have auM:=aj.mk (zr hg (zK fP));have auN:=aj.mk (zl hg (zK fQ));have auO:=aj.mk (zr hg (zK fQ));have auP:=aj.mk (zl hg (zK jh));have auQ:=aj.mk (zr hg (zK jh));clear eF;clear fP;clear fQ;clear jh;clear HB;have eF:=n0_;have fP:=n1_;have fQ:=n2_;have jh:=n3_;have HB:=n4_;have vV:=n5_;have aBz:=n6_;have aBA:=n7_;have aeY:=n8_;have aeZ:=n9_;have ae0:=auL;have ae1:=auM;have ae2:=auN;have ae3:=auO;have ae4:=auP;have ae5:=auQ;clear n0_ n1_ n2_ n3_ n4_ n5_ n6_ n7_ n8_ n9_ auL auM auN auO auP auQ;clear hb hbox hg;have aBB:=aeZ.out;have aBC:=aeY.out;have asK:=ae1.out;have asL:=ae0.out;have awi:=ae3.out;have awj:=ae2.out;have aBD:=ae5.out;have aBE:=ae4.out;obtain ⟨_,_⟩:=zC2 vV.out;obtain ⟨_,_⟩:=zF2 vV.out))
             try simp only [Act.put,List.setIfInBounds_toArray,List.set_cons_succ,List.set_cons_zero]
             go_loopg [52] k3 (fun kq v52 w'=>∃ (ahs:Int) (vN:Int) (ug:Int),v52 = .int .i64 ahs∧aj (aT.l3 kq a0 jZ jZ ahs kH jX 0 uI jY jE ni lV vN ug=some r)∧aj (kq≤k3)∧aj (w'.heap[afM]? = some (.cells #[.int .u64 kH,.int .u64 jX] 179 (0,0)))∧aj (w'.heap[aak]? = some (.cells #[.int .u64 0,.int .u64 uI] 179 (0,0)))∧aj (w'.heap[aal]? = some (.cells #[.int .u64 jY,.int .u64 jE] 179 (0,0)))∧aj (w'.heap[anZ]? = some (.cells #[.int .u64 ni,.int .u64 lV] 179 (0,0)))∧aj (w'.heap[awH]? = some (.cells #[.int .u64 vN,.int .u64 ug] 179 (0,0)))∧aj (Below w.heap.size w w'))
             case atStart=>exact ⟨(0),(0),(1),zT,H',⟨Nat.le_refl _⟩,⟨zK eF⟩,⟨zK fP⟩,⟨zK fQ⟩,⟨zK jh⟩,⟨by refine zD ?_;refine aJ (cs := #[.int .u64 0,.int .u64 0]) ?_ 1 _ rfl;refine zD ?_;refine aJ (cs := #[.int .u64 0,.int .u64 0]) ?_ 0 _ rfl;refine zD ?_;exact vV.out⟩,⟨zB⟩⟩
             case round =>
              clear H'
              obtain ⟨ahs,vN,ug,rfl,HA,HK4,eF,fP,fQ,jh,vV,HB⟩:=hrel
              cases gk with
              | zero=>exact absurd HA.out (by simp [aT.l3])
              | succ k4 =>
               have H:=HA.out
               clear HA
               simp only [aT.l3] at H
               by_cases c50:ahs < jZ
               ·rw [if_pos c50] at H
                have awI:=decide_eq_true c50
                clear c50
                replace H:=zO H
                obtain ⟨⟨aqE,auR⟩,A51,H⟩:=H
                try dsimp only at H
                have H':=aj.mk H
                clear H
                have awJ:=aeZ.out
                have awK:=aeY.out
                have aBF:=ae1.out
                have aBG:=ae0.out
                have aBH:=ae3.out
                have aBI:=ae2.out
                have aBJ:=ae5.out
                have aBK:=ae4.out
                obtain ⟨_,_⟩:=zC2 vV.out
                obtain ⟨_,_⟩:=zF2 vV.out
                go_wp2_with (first|((with_reducible refine aA (f:=119) rfl ?_);refine aI (some 55) rfl rfl Tryz.func119 (by kernel_rfl) rfl #[.agg #[.int .u64 vN,.int .u64 ug],.int .u64 0] rfl zL ?_;(with_reducible refine (dO.calls vN ug 0 aqE auR _ A51.out).mono ?_);rintro e w57 ⟨rfl,hb⟩;refine ⟨_,rfl,?_⟩;obtain ⟨eF,fP,fQ,jh,vV,HB⟩:=zA6 (ay (zK eF) hb) (ay (zK fP) hb) (ay (zK fQ) hb) (ay (zK jh) hb) (ay (zK vV) hb) (ak zB hb);(try clear hb);obtain ⟨_,_⟩:=zC2 vV.out;obtain ⟨_,_⟩:=zF2 vV.out))
                go_roundg k4
                case measure=>have:=HK1.out;have:=HK2.out;have:=HK3.out;have:=HK4.out;omega
                case rel=>exact ⟨(wrap64 (ahs+1)),(aqE),(auR),zT,H',⟨by have:=HK1.out;have:=HK2.out;have:=HK3.out;have:=HK4.out;omega⟩,⟨zK eF⟩,⟨zK fP⟩,⟨zK fQ⟩,⟨zK jh⟩,⟨by refine zD ?_;refine aJ (cs := #[.int .u64 aqE,.int .u64 ug]) ?_ 1 _ rfl;refine zD ?_;refine aJ (cs := #[.int .u64 vN,.int .u64 ug]) ?_ 0 _ rfl;refine zD ?_;exact vV.out⟩,⟨zB⟩⟩
               ·rw [if_neg c50] at H
                have awI:=decide_eq_false c50
                clear c50
                replace H:=zO H
                obtain ⟨⟨aqF,auS⟩,A59,H⟩:=H
                try dsimp only at H
                have H':=aj.mk H
                clear H
                have aBL:=acN.out
                have aBM:=acM.out
                have aBN:=zC.out
                have aBO:=zA.out
                have awm:=zH.out
                have awn:=zF.out
                have awo:=ae4.out
                have awp:=ae5.out
                obtain ⟨_,_⟩:=zC2 jh.out
                obtain ⟨_,_⟩:=zF2 jh.out
                have aBP:=aeZ.out
                have aBQ:=aeY.out
                have aBR:=ae1.out
                have aBS:=ae0.out
                have aBT:=ae3.out
                have aBU:=ae2.out
                obtain ⟨_,_⟩:=zC2 vV.out
                obtain ⟨_,_⟩:=zF2 vV.out
                go_wp2_with (first|((with_reducible refine aA (f:=122) rfl ?_);refine aI (some 59) rfl rfl Tryz.func122 (by kernel_rfl) rfl #[.agg #[.int .u64 ni,.int .u64 lV],.agg #[.int .u64 vN,.int .u64 ug]] rfl zL ?_;(with_reducible refine (kJ.calls ni lV vN ug aqF auS _ A59.out).mono ?_);rintro e w69 ⟨rfl,hb⟩;refine ⟨_,rfl,?_⟩;obtain ⟨eF,fP,fQ,jh,vV,HB⟩:=zA6 (ay (zK eF) hb) (ay (zK fP) hb) (ay (zK fQ) hb) (ay (zK jh) hb) (ay (zK vV) hb) (ak zB hb);(try clear hb);obtain ⟨_,_⟩:=zC2 jh.out;obtain ⟨_,_⟩:=zF2 jh.out))
                go_roundg k4
                case measure=>have:=HK1.out;have:=HK2.out;have:=HK3.out;have:=HK4.out;omega
                case rel=>exact ⟨(wrap64 (jZ+1)),(aqF),(auS),zT,H',⟨by have:=HK1.out;have:=HK2.out;have:=HK3.out;have:=HK4.out;omega⟩,⟨zK eF⟩,⟨zK fP⟩,⟨zK fQ⟩,⟨by refine zD ?_;refine aJ (cs := #[.int .u64 aqF,.int .u64 lV]) ?_ 1 _ rfl;refine zD ?_;refine aJ (cs := #[.int .u64 ni,.int .u64 lV]) ?_ 0 _ rfl;refine zD ?_;exact jh.out⟩,⟨zB⟩⟩
            ·rw [if_neg c38] at H
             have ad1:(adZ == 1)=false:=beq_eq_false_iff_ne.mpr c38
             have an0:(adZ != 1)=true:=bne_iff_ne.mpr c38
             have H':=aj.mk H
             clear H
             have aBV:=zy.out
             have aBW:=zx.out
             have aBX:=vK.out
             have aBY:=vM.out
             have aBZ:=zA.out
             have aB0:=zC.out
             obtain ⟨_,_⟩:=zC2 fP.out
             obtain ⟨_,_⟩:=zF2 fP.out
             go_wp2_with (first|((with_reducible refine aA (f:=121) rfl ?_);refine aI (some 48) rfl rfl Tryz.func121 (by kernel_rfl) rfl #[.agg #[.int .u64 0,.int .u64 uI],.int .i64 jZ] rfl zL ?_;(with_reducible refine (fO.calls 0 uI jZ adZ _ A37.out).mono ?_);rintro e w75 ⟨rfl,hb⟩;refine ⟨_,rfl,?_⟩;obtain ⟨eF,fP,fQ,jh,HB⟩:=zA5 (ay (zK eF) hb) (ay (zK fP) hb) (ay (zK fQ) hb) (ay (zK jh) hb) (ak zB hb);(try clear hb)))
             go_roundg k3
             case measure=>have:=HK1.out;have:=HK2.out;have:=HK3.out;omega
             case rel=>exact ⟨(wrap64 (jZ+1)),(ni),(lV),zT,H',⟨by have:=HK1.out;have:=HK2.out;have:=HK3.out;omega⟩,⟨zK eF⟩,⟨zK fP⟩,⟨zK fQ⟩,⟨zK jh⟩,⟨zB⟩⟩
           ·rw [if_neg c36] at H
            have awG:=decide_eq_false c36
            clear c36
            replace H:=zO H
            obtain ⟨anX,A76,H⟩:=H
            try dsimp only at H
            have aqG:=aj.mk H
            clear H
            have aB1:=acN.out
            have aB2:=acM.out
            have aB3:=zC.out
            have aB4:=zA.out
            have aB5:=zH.out
            have aB6:=zF.out
            obtain ⟨_,_⟩:=zC2 jh.out
            obtain ⟨_,_⟩:=zF2 jh.out
            have aB7:=zx.out
            have aB8:=zy.out
            have aB9:=xU.out
            have aCa:=xW.out
            obtain ⟨_,_⟩:=zC2 eF.out
            obtain ⟨_,_⟩:=zF2 eF.out
            go_upto_if 65 with (first|((with_reducible refine aA (f:=123) rfl ?_);refine aI (some 62) rfl rfl Tryz.func123 (by kernel_rfl) rfl #[.agg #[.int .u64 ni,.int .u64 lV],.agg #[.int .u64 kH,.int .u64 jX]] rfl zL ?_;(with_reducible refine (iH.calls ni lV kH jX anX _ A76.out).mono ?_);rintro e w85 ⟨rfl,hb⟩;refine ⟨_,rfl,?_⟩;obtain ⟨eF,fP,fQ,jh,HB⟩:=zA5 (ay (zK eF) hb) (ay (zK fP) hb) (ay (zK fQ) hb) (ay (zK jh) hb) (ak zB hb);(try clear hb)))
            (try simp only [Act.put,List.setIfInBounds_toArray,List.set_cons_zero,List.set_cons_succ])
            go_cut [12] (fun v12 wc=>∃ (kq:Nat) (aht:Bool),v12 = .bool aht∧aj (aT.j4 kq a0 aht jY jE=some r)∧aj (kq≤k3)∧aj (wc.heap[afM]? = some (.cells #[.int .u64 kH,.int .u64 jX] 179 (0,0)))∧aj (wc.heap[aak]? = some (.cells #[.int .u64 0,.int .u64 uI] 179 (0,0)))∧aj (wc.heap[aal]? = some (.cells #[.int .u64 jY,.int .u64 jE] 179 (0,0)))∧aj (wc.heap[anZ]? = some (.cells #[.int .u64 ni,.int .u64 lV] 179 (0,0)))∧aj (Below w.heap.size w wc))
            case first =>
             have H:=aqG.out
             clear aqG
             by_cases c86:a0 < 0
             ·rw [if_pos c86] at H
              have ahu:=decide_eq_true c86
              clear c86
              (first|rw [ahu]|(simp only [cZ,dB];rw [ahu])|skip)
              replace H:=zO H
              obtain ⟨anY,A87,H⟩:=H
              try dsimp only at H
              have H':=aj.mk H
              clear H
              have aCb:=zx.out
              have aCc:=zy.out
              have aCd:=xU.out
              have aCe:=xW.out
              have aCf:=acM.out
              have aCg:=acN.out
              obtain ⟨_,_⟩:=zC2 eF.out
              obtain ⟨_,_⟩:=zF2 eF.out
              have aCh:=zC.out
              have aCi:=zA.out
              have aCj:=zH.out
              have aCk:=zF.out
              obtain ⟨_,_⟩:=zC2 jh.out
              obtain ⟨_,_⟩:=zF2 jh.out
              go_wp2_with (first|((with_reducible refine aA (f:=123) rfl ?_);refine aI (some 68) rfl rfl Tryz.func123 (by kernel_rfl) rfl #[.agg #[.int .u64 kH,.int .u64 jX],.agg #[.int .u64 ni,.int .u64 lV]] rfl zL ?_;(with_reducible refine (iH.calls kH jX ni lV anY _ A87.out).mono ?_);rintro e w95 ⟨rfl,hb⟩;refine ⟨_,rfl,?_⟩;obtain ⟨eF,fP,fQ,jh,HB⟩:=zA5 (ay (zK eF) hb) (ay (zK fP) hb) (ay (zK fQ) hb) (ay (zK jh) hb) (ak zB hb);(try clear hb)))
              go_meet
              case rel=>exact ⟨_,(anY),zT,H',⟨by have:=HK1.out;have:=HK2.out;have:=HK3.out;first|omega|exact Nat.le_refl _⟩,⟨zK eF⟩,⟨zK fP⟩,⟨zK fQ⟩,⟨zK jh⟩,⟨zB⟩⟩
             ·rw [if_neg c86] at H
              have ahu:=decide_eq_false c86
              clear c86
              (first|rw [ahu]|(simp only [cZ,dB];rw [ahu])|skip)
              have H':=aj.mk H
              clear H
              go_wp2
              go_meet
              case rel=>exact ⟨_,(!anX),zT,H',⟨by have:=HK1.out;have:=HK2.out;have:=HK3.out;first|omega|exact Nat.le_refl _⟩,⟨zK eF⟩,⟨zK fP⟩,⟨zK fQ⟩,⟨zK jh⟩,⟨zB⟩⟩
            case rest =>
             clear aqG
             obtain ⟨kq,aht,rfl,HA,aDw,eF,fP,fQ,jh,HB⟩:=hcut
             cases kq with
             | zero=>exact absurd HA.out (by simp [aT.j4])
             | succ auT =>
              have H:=HA.out
              clear HA
              simp only [aT.j4] at H
              by_cases c96:aht=true
              ·subst c96
               rw [if_pos rfl] at H;try dsimp only at H
               replace H:=zO H
               obtain ⟨⟨ak6,an1⟩,A97,H⟩:=H
               try dsimp only at H
               replace H:=zO H
               obtain ⟨aqA,A98,H⟩:=H
               try dsimp only at H
               obtain rfl:=Option.some.inj H
               have aCl:=xW.out
               have aCm:=xU.out
               have aAl:=vM.out
               have aAm:=vK.out
               have aAn:=zF.out
               have aAo:=zH.out
               obtain ⟨_,_⟩:=zC2 fQ.out
               obtain ⟨_,_⟩:=zF2 fQ.out
               go_wp2_with (first|((with_reducible refine aA (f:=124) rfl ?_);refine aI (some 72) rfl rfl Tryz.func124 (by kernel_rfl) rfl #[.agg #[.int .u64 jY,.int .u64 jE],.agg #[.int .u64 0,.int .u64 1]] rfl zL ?_;(with_reducible refine (iq.calls jY jE 0 1 ak6 an1 _ A97.out).mono ?_);rintro e aDx ⟨rfl,hb⟩;refine ⟨_,rfl,?_⟩;obtain ⟨eF,fP,fQ,jh,HB⟩:=zA5 (ay (zK eF) hb) (ay (zK fP) hb) (ay (zK fQ) hb) (ay (zK jh) hb) (ak zB hb);(try clear hb);obtain ⟨_,_⟩:=zC2 fQ.out;obtain ⟨_,_⟩:=zF2 fQ.out)|((with_reducible refine aA (f:=125) rfl ?_);refine aI (some 76) rfl rfl Tryz.func125 (by kernel_rfl) rfl #[.agg #[.int .u64 ak6,.int .u64 an1],.bool (decide (a0 < 0))] rfl zL ?_;(with_reducible refine (bW.calls auT ak6 an1 (decide (a0 < 0)) aqA _ A98.out).mono ?_);rintro e aDy ⟨rfl,hb⟩;refine ⟨_,rfl,?_⟩;obtain ⟨eF,fP,fQ,jh,HB⟩:=zA5 (ay (zK eF) hb) (ay (zK fP) hb) (ay (g:=aal) (o := .cells #[.int .u64 ak6,.int .u64 an1] 179 (0,0)) (by refine zD ?_;refine aJ (cs := #[.int .u64 ak6,.int .u64 jE]) ?_ 1 _ rfl;refine zD ?_;refine aJ (cs := #[.int .u64 jY,.int .u64 jE]) ?_ 0 _ rfl;refine zD ?_;exact fQ.out) hb) (ay (zK jh) hb) (ak zB hb);(try clear hb)))
               go_ret
               exact ⟨zS,zB⟩
              ·replace c96:=Bool.eq_false_iff.mpr c96
               subst c96
               rw [if_neg (show ¬ (false=true) by decide)] at H;try dsimp only at H
               replace H:=zO H
               obtain ⟨aqB,ayb,H⟩:=H
               try dsimp only at H
               obtain rfl:=Option.some.inj H
               have aAp:=xW.out
               have aAq:=xU.out
               have aAr:=vM.out
               have aAs:=vK.out
               have aAt:=zF.out
               have aAu:=zH.out
               obtain ⟨_,_⟩:=zC2 fQ.out
               obtain ⟨_,_⟩:=zF2 fQ.out
               go_wp2_with (first|((with_reducible refine aA (f:=125) rfl ?_);refine aI (some 76) rfl rfl Tryz.func125 (by kernel_rfl) rfl #[.agg #[.int .u64 jY,.int .u64 jE],.bool (decide (a0 < 0))] rfl zL ?_;(with_reducible refine (bW.calls auT jY jE (decide (a0 < 0)) aqB _ ayb.out).mono ?_);rintro e aDz ⟨rfl,hb⟩;refine ⟨_,rfl,?_⟩;obtain ⟨eF,fP,fQ,jh,HB⟩:=zA5 (ay (zK eF) hb) (ay (zK fP) hb) (ay (zK fQ) hb) (ay (zK jh) hb) (ak zB hb);(try clear hb)))
               go_ret
               exact ⟨zS,zB⟩
end Go.Proofs.YtpondkggmcmpfaaGreatDoor.QA
namespace Go.Proofs.YtpondkggmcmpfaaGreatDoor.QA
open Go.Proofs.YtpondkggmcmpfaaGreatDoor.T
open Go.RowKit Go.Proofs.YtpondkggmcmpfaaGreatDoorW.PrintWords Go.Proofs.YtpondkggmcmpfaaGreatDoorW.PrintLast Go.Proofs.YtpondkggmcmpfaaGreatDoorW.PrintMore
attribute [local go_sem] eG dX dY fF fG
set_option linter.unusedVariables false
set_option linter.unusedSimpArgs false
def lH.f (a0 a1:Int):Option (Bool):=if a1 < 1 then (some false) else (if a1 > 1048576 then (some false) else (if a0≤(wrap64 (4*a1)) then (some (decide (a0≥(wrap64 ((-4)*a1))))) else (some false)))
set_option maxHeartbeats 8000000 in
set_option maxRecDepth 100000 in
theorem lH.calls (a0 a1:Int) (r:Bool) (w:World) (h:lH.f a0 a1=some r) :
  Calls Tryz.prog 184 #[.int .i64 a0,.int .i64 a1] w fun e w'=>e = .returned (.bool r)∧dH w w':=by
 have H:=h
 clear h
 unfold lH.f at H
 by_cases c3:a1 < 1
 ·rw [if_pos c3] at H
  have gq:=decide_eq_true c3
  clear c3
  obtain rfl:=Option.some.inj H
  go_enter Tryz.func184,Tryz.ntmps184
  go_wp2
  go_ret
  exact ⟨zT,zW⟩
 ·rw [if_neg c3] at H
  have gq:=decide_eq_false c3
  clear c3
  by_cases c4:a1 > 1048576
  ·rw [if_pos c4] at H
   have gI:=decide_eq_true c4
   clear c4
   obtain rfl:=Option.some.inj H
   go_enter Tryz.func184,Tryz.ntmps184
   go_wp2
   go_ret
   exact ⟨zT,zW⟩
  ·rw [if_neg c4] at H
   have gI:=decide_eq_false c4
   clear c4
   by_cases c5:a0≤(wrap64 (4*a1))
   ·rw [if_pos c5] at H
    have iR:=decide_eq_true c5
    clear c5
    obtain rfl:=Option.some.inj H
    go_enter Tryz.func184,Tryz.ntmps184
    go_wp2
    go_ret
    exact ⟨zT,zW⟩
   ·rw [if_neg c5] at H
    have iR:=decide_eq_false c5
    clear c5
    obtain rfl:=Option.some.inj H
    go_enter Tryz.func184,Tryz.ntmps184
    go_wp2
    go_ret
    exact ⟨zT,zW⟩
end Go.Proofs.YtpondkggmcmpfaaGreatDoor.QA
