/- Joined by wip/tools/bundle.py out of: QAx22 QAx23 QAx24 QAx25 QAx26 QAx27. -/
import Derived.Test.YtpondkggmcmpfaaGreatDoorBDirectApplies1
set_option maxHeartbeats 8000000
set_option maxRecDepth 100000
namespace Go.Proofs.YtpondkggmcmpfaaGreatDoor.QA
open Go.Proofs.YtpondkggmcmpfaaGreatDoor.T
open Go.RowKit Go.Proofs.YtpondkggmcmpfaaGreatDoorW.PrintWords Go.Proofs.YtpondkggmcmpfaaGreatDoorW.PrintLast Go.Proofs.YtpondkggmcmpfaaGreatDoorW.PrintMore
attribute [local go_sem] dV dN dO fA fB
set_option linter.unusedVariables false
set_option linter.unusedSimpArgs false
def mQ.f (a0 a1 a2 a3:Int):Option (Bool):=if a0>=0 then (if a0<=2 then (if a1>=1 then (if a1<=65536 then (if a2>=1 then (if a2<=65536 then (if a3>=0 then (some (decide (a3 < a2))) else (some false)) else (some false)) else (some false)) else (some false)) else (some false)) else (some false)) else (some false)
theorem mQ.calls (a0 a1 a2 a3:Int) (r:Bool) (w:World) (h:mQ.f a0 a1 a2 a3=some r) :
  Calls Tryz.prog 139 #[.int .i64 a0,.int .i64 a1,.int .i64 a2,.int .i64 a3] w fun e w'=>e = .returned (.bool r)/\dA w w':=by
 have H:=h;clear h;unfold mQ.f at H;by_cases c5:a0>=0
 ·rw [if_pos c5] at H;have gJ:=decide_eq_true c5;clear c5;by_cases c6:a0<=2
  ·rw [if_pos c6] at H;have gI:=decide_eq_true c6;clear c6;by_cases c7:a1>=1
   ·rw [if_pos c7] at H;have jw:=decide_eq_true c7;clear c7;by_cases c8:a1<=65536
    ·rw [if_pos c8] at H;have qj:=decide_eq_true c8;clear c8;by_cases c9:a2>=1
     ·rw [if_pos c9] at H;have o8:=decide_eq_true c9;clear c9;by_cases c10:a2<=65536
      ·rw [if_pos c10] at H;have l9:=decide_eq_true c10;clear c10;by_cases c11:a3>=0
       ·rw [if_pos c11] at H;have jy:=decide_eq_true c11;clear c11;obtain rfl:=Option.some.inj H;go_enter Tryz.func139,Tryz.ntmps139;go_wp2;go_ret;exact ⟨zT,zW⟩
       ·rw [if_neg c11] at H;have jy:=decide_eq_false c11;clear c11;obtain rfl:=Option.some.inj H;go_enter Tryz.func139,Tryz.ntmps139;go_wp2;go_ret;exact ⟨zT,zW⟩
      ·rw [if_neg c10] at H;have l9:=decide_eq_false c10;clear c10;obtain rfl:=Option.some.inj H;go_enter Tryz.func139,Tryz.ntmps139;go_wp2;go_ret;exact ⟨zT,zW⟩
     ·rw [if_neg c9] at H;have o8:=decide_eq_false c9;clear c9;obtain rfl:=Option.some.inj H;go_enter Tryz.func139,Tryz.ntmps139;go_wp2;go_ret;exact ⟨zT,zW⟩
    ·rw [if_neg c8] at H;have qj:=decide_eq_false c8;clear c8;obtain rfl:=Option.some.inj H;go_enter Tryz.func139,Tryz.ntmps139;go_wp2;go_ret;exact ⟨zT,zW⟩
   ·rw [if_neg c7] at H;have jw:=decide_eq_false c7;clear c7;obtain rfl:=Option.some.inj H;go_enter Tryz.func139,Tryz.ntmps139;go_wp2;go_ret;exact ⟨zT,zW⟩
  ·rw [if_neg c6] at H;have gI:=decide_eq_false c6;clear c6;obtain rfl:=Option.some.inj H;go_enter Tryz.func139,Tryz.ntmps139;go_wp2;go_ret;exact ⟨zT,zW⟩
 ·rw [if_neg c5] at H;have gJ:=decide_eq_false c5;clear c5;obtain rfl:=Option.some.inj H;go_enter Tryz.func139,Tryz.ntmps139;go_wp2;go_ret;exact ⟨zT,zW⟩
def gY.f (a0 a1 a2 a3:Int):Option (Int × Int):=if a1 > a0 then (some (wrap64 ((wrap64 ((wrap64 ((wrap64 (2*a1))*a3)) - (wrap64 ((wrap64 ((wrap64 (2*a2))+1))*a0))))+a1),wrap64 (2*a1))) else (some (wrap64 ((wrap64 ((wrap64 ((wrap64 (2*a1))*a3)) - (wrap64 ((wrap64 ((wrap64 (2*a2))+1))*a0))))+a1),wrap64 (2*a0)))
theorem gY.calls (a0 a1 a2 a3 r1 r2:Int) (w:World) (h:gY.f a0 a1 a2 a3=some (r1,r2)) :
  Calls Tryz.prog 169 #[.int .i64 a0,.int .i64 a1,.int .i64 a2,.int .i64 a3] w fun e w'=>e = .returned (.tuple #[.int .i64 r1,.int .i64 r2])/\dA w w':=by
 have H:=h;clear h;unfold gY.f at H;by_cases c5:a1 > a0
 ·rw [if_pos c5] at H;have gJ:=decide_eq_true c5;clear c5;simp only [Option.some.injEq,Prod.mk.injEq] at H;obtain ⟨rfl,rfl⟩:=H;go_enter Tryz.func169,Tryz.ntmps169;go_wp2;go_ret2;exact ⟨zT,zW⟩
 ·rw [if_neg c5] at H;have gJ:=decide_eq_false c5;clear c5;simp only [Option.some.injEq,Prod.mk.injEq] at H;obtain ⟨rfl,rfl⟩:=H;go_enter Tryz.func169,Tryz.ntmps169;go_wp2;go_ret2;exact ⟨zT,zW⟩
def jK.f (a0 a1 a2 a3 a4:Int):Option (Bool):=if a0=0 then (if (wrap64 ((wrap64 (a4+1))*a2)) > (wrap64 (a3*a1)) then (some (decide ((wrap64 (a4*a2)) < (wrap64 ((wrap64 (a3+1))*a1))))) else (some false)) else ((gY.f a1 a2 a3 a4).bind fun aek=>(if a0=2 then (if aek.1 < (wrap64 (3*aek.2)) then (some (decide (aek.1 > (wrap64 (-(wrap64 (3*aek.2))))))) else (some false)) else (if aek.1 < (wrap64 (2*aek.2)) then (some (decide (aek.1 > (wrap64 (-(wrap64 (2*aek.2))))))) else (some false))))
theorem jK.calls (a0 a1 a2 a3 a4:Int) (r:Bool) (w:World) (h:jK.f a0 a1 a2 a3 a4=some r) :
  Calls Tryz.prog 140 #[.int .i64 a0,.int .i64 a1,.int .i64 a2,.int .i64 a3,.int .i64 a4] w fun e w'=>e = .returned (.bool r)/\dA w w':=by
 have H:=h;clear h;unfold jK.f at H;by_cases c6:a0=0
 ·rw [if_pos c6] at H;have gI:(a0 == 0)=true:=beq_iff_eq.mpr c6;have vU:(a0 != 0)=false:=bne_eq_false_iff_eq.mpr c6;clear c6;by_cases c7:(wrap64 ((wrap64 (a4+1))*a2)) > (wrap64 (a3*a1))
  ·rw [if_pos c7] at H;have jw:=decide_eq_true c7;clear c7;obtain rfl:=Option.some.inj H;go_enter Tryz.func140,Tryz.ntmps140;go_wp2;go_ret;exact ⟨zT,zW⟩
  ·rw [if_neg c7] at H;have jw:=decide_eq_false c7;clear c7;obtain rfl:=Option.some.inj H;go_enter Tryz.func140,Tryz.ntmps140;go_wp2;go_ret;exact ⟨zT,zW⟩
 ·rw [if_neg c6] at H;have gI:(a0 == 0)=false:=beq_eq_false_iff_ne.mpr c6;have vU:(a0 != 0)=true:=bne_iff_ne.mpr c6;replace H:=zO H;obtain ⟨⟨ald,ale⟩,A8,H⟩:=H;try dsimp only at H
  by_cases c9:a0=2
  ·rw [if_pos c9] at H;have o8:(a0 == 2)=true:=beq_iff_eq.mpr c9;have adG:(a0 != 2)=false:=bne_eq_false_iff_eq.mpr c9;clear c9;by_cases c10:ald < (wrap64 (3*ale))
   ·rw [if_pos c10] at H;have l9:=decide_eq_true c10;clear c10;obtain rfl:=Option.some.inj H;go_enter Tryz.func140,Tryz.ntmps140;go_wp2_with (first|((with_reducible refine ay (f:=169) rfl ?_);refine aH (some 39) rfl rfl Tryz.func169 (by kernel_rfl) rfl #[.int .i64 a1,.int .i64 a2,.int .i64 a3,.int .i64 a4] rfl zL ?_;(with_reducible refine (gY.calls a1 a2 a3 a4 ald ale _ A8.out).mono ?_);rintro e w' ⟨rfl,⟨nd,rfl⟩⟩;refine ⟨_,rfl,?_⟩));go_ret;exact ⟨zT,zW⟩
   ·rw [if_neg c10] at H;have l9:=decide_eq_false c10;clear c10;obtain rfl:=Option.some.inj H;go_enter Tryz.func140,Tryz.ntmps140;go_wp2_with (first|((with_reducible refine ay (f:=169) rfl ?_);refine aH (some 39) rfl rfl Tryz.func169 (by kernel_rfl) rfl #[.int .i64 a1,.int .i64 a2,.int .i64 a3,.int .i64 a4] rfl zL ?_;(with_reducible refine (gY.calls a1 a2 a3 a4 ald ale _ A8.out).mono ?_);rintro e w' ⟨rfl,⟨nd,rfl⟩⟩;refine ⟨_,rfl,?_⟩));go_ret;exact ⟨zT,zW⟩
  ·rw [if_neg c9] at H;have o8:(a0 == 2)=false:=beq_eq_false_iff_ne.mpr c9;have adG:(a0 != 2)=true:=bne_iff_ne.mpr c9;by_cases c11:ald < (wrap64 (2*ale))
   ·rw [if_pos c11] at H;have jy:=decide_eq_true c11;clear c11;obtain rfl:=Option.some.inj H;go_enter Tryz.func140,Tryz.ntmps140;go_wp2_with (first|((with_reducible refine ay (f:=169) rfl ?_);refine aH (some 39) rfl rfl Tryz.func169 (by kernel_rfl) rfl #[.int .i64 a1,.int .i64 a2,.int .i64 a3,.int .i64 a4] rfl zL ?_;(with_reducible refine (gY.calls a1 a2 a3 a4 ald ale _ A8.out).mono ?_);rintro e w' ⟨rfl,⟨nd,rfl⟩⟩;refine ⟨_,rfl,?_⟩));go_ret;exact ⟨zT,zW⟩
   ·rw [if_neg c11] at H;have jy:=decide_eq_false c11;clear c11;obtain rfl:=Option.some.inj H;go_enter Tryz.func140,Tryz.ntmps140;go_wp2_with (first|((with_reducible refine ay (f:=169) rfl ?_);refine aH (some 39) rfl rfl Tryz.func169 (by kernel_rfl) rfl #[.int .i64 a1,.int .i64 a2,.int .i64 a3,.int .i64 a4] rfl zL ?_;(with_reducible refine (gY.calls a1 a2 a3 a4 ald ale _ A8.out).mono ?_);rintro e w' ⟨rfl,⟨nd,rfl⟩⟩;refine ⟨_,rfl,?_⟩));go_ret;exact ⟨zT,zW⟩
def dW.f (a0:Int):Option (Int):=if a0 < 0 then (some (IntKind.u64.wrap ((IntKind.u64.wrap (wrap64 (-(wrap64 (a0+1)))))+1))) else (some (IntKind.u64.wrap (a0)))
theorem dW.calls (a0 r:Int) (w:World) (h:dW.f a0=some r) :
  Calls Tryz.prog 120 #[.int .i64 a0] w fun e w'=>e = .returned (.int .u64 r)/\dA w w':=by
 have H:=h;clear h;unfold dW.f at H;by_cases c2:a0 < 0
 ·rw [if_pos c2] at H;have oM:=decide_eq_true c2;clear c2;obtain rfl:=Option.some.inj H;go_enter Tryz.func120,Tryz.ntmps120;go_wp2;go_ret;exact ⟨zT,zW⟩
 ·rw [if_neg c2] at H;have oM:=decide_eq_false c2;clear c2;obtain rfl:=Option.some.inj H;go_enter Tryz.func120,Tryz.ntmps120;go_wp2;go_ret;exact ⟨zT,zW⟩
def dS.f (aU bf a1:Int):Option (Int × Int):=some (IntKind.u64.wrap ((IntKind.u64.wrap (aU*2))+(bf / 9223372036854775808)),IntKind.u64.wrap ((IntKind.u64.wrap (bf*2))+a1))
theorem dS.calls (aU bf a1 r1 r2:Int) (w:World) (h:dS.f aU bf a1=some (r1,r2)) :
  Calls Tryz.prog 119 #[.agg #[.int .u64 aU,.int .u64 bf],.int .u64 a1] w fun e w'=>e = .returned (.agg #[.int .u64 r1,.int .u64 r2])/\Below w.heap.size w w':=by
 have aaJ:=Tryz.underlying179;have HB:=aj.mk (Below.refl w.heap.size w);have H:=h;clear h;unfold dS.f at H;simp only [Option.some.injEq,Prod.mk.injEq] at H;obtain ⟨rfl,rfl⟩:=H;go_enter Tryz.func119,Tryz.ntmps119;go_wp2_with (first|((with_reducible refine aZ (N:=2) rfl ?_);refine aX zR (N:=2) zR (cs := #[.int .u64 aU,.int .u64 bf]) (t:=179) zG ?_;intro aF8 hg w3 hbox hb;obtain ⟨HB,ahY,aF9,aGa⟩:=zA4 (ak zB hb) hbox (zg hg zB) (zg hg zB);clear hb hbox hg)|((with_reducible refine aZ (N:=4) rfl ?_);refine aX zR (N:=4) zR (cs := #[.int .u64 0,.int .u64 0]) (t:=179) zG ?_;intro aAs hg w4 hbox hb;obtain ⟨ahY,HB,aq9,aGb,aGc,atd,ate⟩:=zA7 (aA (zK ahY) hb) (ak zB hb) hbox (zg hg zB) (zg hg zB) (zl hg (zK ahY)) (zr hg (zK ahY));clear hb hbox hg;have aDe:=atd.out;have aDf:=ate.out;obtain ⟨_,_⟩:=zC2 ahY.out;obtain ⟨_,_⟩:=zF2 ahY.out;obtain ⟨_,_⟩:=zC2 aq9.out;obtain ⟨_,_⟩:=zF2 aq9.out));refine bodyPost_ret (results_cell_row rfl _ _ aAs 179 #[.int .u64 (IntKind.u64.wrap ((IntKind.u64.wrap (aU*2))+(bf / 9223372036854775808))),.int .u64 (IntKind.u64.wrap ((IntKind.u64.wrap (bf*2))+a1))] (0,0) _ rfl (by refine zD ?_;refine bg (cs := #[.int .u64 (IntKind.u64.wrap ((IntKind.u64.wrap (aU*2))+(bf / 9223372036854775808))),.int .u64 0]) ?_ 1 _ rfl;refine zD ?_;refine bg (cs := #[.int .u64 0,.int .u64 0]) ?_ 0 _ rfl;refine zD ?_;exact aq9.out) Tryz.underlying179 rfl (by kernel_rfl)) rfl ?_;exact ⟨zS,zB⟩
def iL.f (aU bf jL kM:Int):Option (Int × Int):=if (IntKind.u64.wrap (bf+kM)) < bf then (some (IntKind.u64.wrap ((IntKind.u64.wrap (aU+jL))+1),IntKind.u64.wrap (bf+kM))) else (some (IntKind.u64.wrap (aU+jL),IntKind.u64.wrap (bf+kM)))
theorem iL.calls (aU bf jL kM r1 r2:Int) (w:World) (h:iL.f aU bf jL kM=some (r1,r2)) :
  Calls Tryz.prog 124 #[.agg #[.int .u64 aU,.int .u64 bf],.agg #[.int .u64 jL,.int .u64 kM]] w fun e w'=>e = .returned (.agg #[.int .u64 r1,.int .u64 r2])/\Below w.heap.size w w':=by
 have aaJ:=Tryz.underlying179;have HB:=aj.mk (Below.refl w.heap.size w);have H:=h;clear h;unfold iL.f at H;by_cases c3:(IntKind.u64.wrap (bf+kM)) < bf
 ·rw [if_pos c3] at H;have fU:=decide_eq_true c3;clear c3;simp only [Option.some.injEq,Prod.mk.injEq] at H;obtain ⟨rfl,rfl⟩:=H;go_enter Tryz.func124,Tryz.ntmps124;go_wp2_with (first|((with_reducible refine aZ (N:=2) rfl ?_);refine aX zR (N:=2) zR (cs := #[.int .u64 aU,.int .u64 bf]) (t:=179) zG ?_;intro aAt hg w4 hbox hb;obtain ⟨HB,lG,aAu,aAv⟩:=zA4 (ak zB hb) hbox (zg hg zB) (zg hg zB);clear hb hbox hg)|((with_reducible refine aZ (N:=3) rfl ?_);refine aX zR (N:=3) zR (cs := #[.int .u64 jL,.int .u64 kM]) (t:=179) zG ?_;intro aAw hg w5 hbox hb;obtain ⟨lG,HB,rG,aAx,aAy,agF,agG⟩:=zA7 (aA (zK lG) hb) (ak zB hb) hbox (zg hg zB) (zg hg zB) (zl hg (zK lG)) (zr hg (zK lG));clear hb hbox hg)|((with_reducible refine aZ (N:=4) rfl ?_);refine aX zR (N:=4) zR (cs := #[.int .u64 0,.int .u64 0]) (t:=179) zG ?_;intro ara hg w6 hbox hb;obtain ⟨lG,rG,HB,xR,aAz,aAA,agH,agI,agJ,agK⟩:=afn (aA (zK lG) hb) (aA (zK rG) hb) (ak zB hb) hbox (zg hg zB) (zg hg zB) (zl hg (zK lG)) (zr hg (zK lG)) (zl hg (zK rG)) (zr hg (zK rG));clear hb hbox hg;have auq:=agF.out;have aur:=agG.out;have ay7:=agH.out;have ay8:=agI.out;obtain ⟨_,_⟩:=zC2 lG.out;obtain ⟨_,_⟩:=zF2 lG.out;have ajP:=agJ.out;have ajQ:=agK.out;obtain ⟨_,_⟩:=zC2 rG.out;obtain ⟨_,_⟩:=zF2 rG.out)|((with_reducible refine aZ (N:=5) rfl ?_);refine aX zR (N:=5) zR (cs := #[.int .u64 0,.int .u64 0]) (t:=179) zG ?_;intro aAB hg w12 hbox hb;obtain ⟨lG,rG,xR,HB,ajR,aAC,aAD,agL,agM,agN,agO,xG,agP⟩:=agt (aA (zK lG) hb) (aA (zK rG) hb) (aA (zK xR) hb) (ak zB hb) hbox (zg hg zB) (zg hg zB) (zl hg (zK lG)) (zr hg (zK lG)) (zl hg (zK rG)) (zr hg (zK rG)) (zl hg (zK xR)) (zr hg (zK xR));clear hb hbox hg;have am4:=agM.out;have am5:=agL.out;have arb:=agO.out;have ard:=agN.out;have awO:=agP.out;have awP:=xG.out;obtain ⟨_,_⟩:=zC2 ajR.out;obtain ⟨_,_⟩:=zF2 ajR.out;obtain ⟨_,_⟩:=zC2 lG.out;obtain ⟨_,_⟩:=zF2 lG.out;obtain ⟨_,_⟩:=zC2 xR.out;obtain ⟨_,_⟩:=zF2 xR.out));refine bodyPost_ret (results_cell_row rfl _ _ ara 179 #[.int .u64 (IntKind.u64.wrap ((IntKind.u64.wrap (aU+jL))+1)),.int .u64 (IntKind.u64.wrap (bf+kM))] (0,0) _ rfl (by refine zD ?_;refine bg (cs := #[.int .u64 (IntKind.u64.wrap ((IntKind.u64.wrap (aU+jL))+1)),.int .u64 0]) ?_ 1 _ rfl;refine zD ?_;refine bg (cs := #[.int .u64 0,.int .u64 0]) ?_ 0 _ rfl;refine zD ?_;refine jV ?_ xG.out _;refine zD ?_;refine jV ?_ xG.out _;refine zD ?_;refine jV ?_ xG.out _;refine zD ?_;exact xR.out) Tryz.underlying179 rfl (by kernel_rfl)) rfl ?_;exact ⟨zS,zB⟩
 ·rw [if_neg c3] at H;have fU:=decide_eq_false c3;clear c3;simp only [Option.some.injEq,Prod.mk.injEq] at H;obtain ⟨rfl,rfl⟩:=H;go_enter Tryz.func124,Tryz.ntmps124;go_wp2_with (first|((with_reducible refine aZ (N:=2) rfl ?_);refine aX zR (N:=2) zR (cs := #[.int .u64 aU,.int .u64 bf]) (t:=179) zG ?_;intro aAt hg w19 hbox hb;obtain ⟨HB,lG,aAu,aAv⟩:=zA4 (ak zB hb) hbox (zg hg zB) (zg hg zB);clear hb hbox hg)|((with_reducible refine aZ (N:=3) rfl ?_);refine aX zR (N:=3) zR (cs := #[.int .u64 jL,.int .u64 kM]) (t:=179) zG ?_;intro aAw hg w20 hbox hb;obtain ⟨lG,HB,rG,aAx,aAy,agF,agG⟩:=zA7 (aA (zK lG) hb) (ak zB hb) hbox (zg hg zB) (zg hg zB) (zl hg (zK lG)) (zr hg (zK lG));clear hb hbox hg)|((with_reducible refine aZ (N:=4) rfl ?_);refine aX zR (N:=4) zR (cs := #[.int .u64 0,.int .u64 0]) (t:=179) zG ?_;intro ara hg w21 hbox hb;obtain ⟨lG,rG,HB,xR,aAz,aAA,agH,agI,agJ,agK⟩:=afn (aA (zK lG) hb) (aA (zK rG) hb) (ak zB hb) hbox (zg hg zB) (zg hg zB) (zl hg (zK lG)) (zr hg (zK lG)) (zl hg (zK rG)) (zr hg (zK rG));clear hb hbox hg;have awQ:=agF.out;have awR:=agG.out;have am6:=agH.out;have am7:=agI.out;obtain ⟨_,_⟩:=zC2 lG.out;obtain ⟨_,_⟩:=zF2 lG.out;have arf:=agJ.out;have arh:=agK.out;obtain ⟨_,_⟩:=zC2 rG.out;obtain ⟨_,_⟩:=zF2 rG.out)|((with_reducible refine aZ (N:=5) rfl ?_);refine aX zR (N:=5) zR (cs := #[.int .u64 0,.int .u64 0]) (t:=179) zG ?_;intro aAB hg w27 hbox hb;obtain ⟨lG,rG,xR,HB,ajR,aAC,aAD,agL,agM,agN,agO,xG,agP⟩:=agt (aA (zK lG) hb) (aA (zK rG) hb) (aA (zK xR) hb) (ak zB hb) hbox (zg hg zB) (zg hg zB) (zl hg (zK lG)) (zr hg (zK lG)) (zl hg (zK rG)) (zr hg (zK rG)) (zl hg (zK xR)) (zr hg (zK xR));clear hb hbox hg;have aAE:=agM.out;have aAF:=agL.out;have ari:=agO.out;have arj:=agN.out;have am8:=agP.out;have am9:=xG.out;obtain ⟨_,_⟩:=zC2 ajR.out;obtain ⟨_,_⟩:=zF2 ajR.out;obtain ⟨_,_⟩:=zC2 lG.out;obtain ⟨_,_⟩:=zF2 lG.out;obtain ⟨_,_⟩:=zC2 xR.out;obtain ⟨_,_⟩:=zF2 xR.out));refine bodyPost_ret (results_cell_row rfl _ _ ara 179 #[.int .u64 (IntKind.u64.wrap (aU+jL)),.int .u64 (IntKind.u64.wrap (bf+kM))] (0,0) _ rfl (by refine zD ?_;refine bg (cs := #[.int .u64 (IntKind.u64.wrap (aU+jL)),.int .u64 0]) ?_ 1 _ rfl;refine zD ?_;refine bg (cs := #[.int .u64 0,.int .u64 0]) ?_ 0 _ rfl;refine zD ?_;refine jV ?_ xG.out _;refine zD ?_;refine jV ?_ xG.out _;refine zD ?_;exact xR.out) Tryz.underlying179 rfl (by kernel_rfl)) rfl ?_;exact ⟨zS,zB⟩
def eG.l0:Nat->Int->Int->Int->Int->Int->Option (Int × Int)
 | 0,_,_,_,_,_=>none
 | k+1,x0,x1,x6,aqc,aqd=>if x6>=0 then ((dS.f aqc aqd 0).bind fun ana=>(if 0<=x6 then (if (Go.bits .and .u64 (shr .u64 x1 x6) 1)=1 then ((iL.f ana.1 ana.2 0 x0).bind fun ajS=>(eG.l0 k x0 x1 (wrap64 (x6 - 1)) ajS.1 ajS.2)) else (eG.l0 k x0 x1 (wrap64 (x6 - 1)) ana.1 ana.2)) else (none))) else (some (aqc,aqd))
def eG.f (k:Nat) (a0 a1:Int):Option (Int × Int):=eG.l0 k a0 a1 63 0 0
theorem eG.calls (k:Nat) (a0 a1 r1 r2:Int) (w:World) (h:eG.f k a0 a1=some (r1,r2)) :
  Calls Tryz.prog 148 #[.int .u64 a0,.int .u64 a1] w fun e w'=>e = .returned (.agg #[.int .u64 r1,.int .u64 r2])/\Below w.heap.size w w':=by
 have aaJ:=Tryz.underlying179;have HB:=aj.mk (Below.refl w.heap.size w);have H:=h;clear h;unfold eG.f at H;have H':=aj.mk H;clear H;go_enter Tryz.func148,Tryz.ntmps148;go_wp2_with (first|((with_reducible refine aZ (N:=4) rfl ?_);refine aX zR (N:=4) zR (cs := #[.int .u64 0,.int .u64 0]) (t:=179) zG ?_;intro awS hg w3 hbox hb;obtain ⟨HB,uV,aGd,aGe⟩:=zA4 (ak zB hb) hbox (zg hg zB) (zg hg zB);clear hb hbox hg)|((with_reducible refine aZ (N:=5) rfl ?_);refine aX zR (N:=5) zR (cs := #[.int .u64 0,.int .u64 0]) (t:=179) zG ?_;intro awT hg w4 hbox hb;obtain ⟨uV,HB,pX,aGf,aGg,ael,aem⟩:=zA7 (aA (zK uV) hb) (ak zB hb) hbox (zg hg zB) (zg hg zB) (zl hg (zK uV)) (zr hg (zK uV));clear hb hbox hg;have aDe:=aem.out;have aDf:=ael.out;obtain ⟨_,_⟩:=zC2 pX.out;obtain ⟨_,_⟩:=zF2 pX.out));go_loopg [6] k (fun kq v6 w'=>∃ (rQ:Int) (rU:Int) (qJ:Int),v6 = .int .i64 rQ/\aj (eG.l0 kq a0 a1 rQ rU qJ=some (r1,r2))/\aj (kq<=k)/\aj (w'.heap[awS]? = some (.cells #[.int .u64 0,.int .u64 0] 179 (0,0)))/\aj (w'.heap[awT]? = some (.cells #[.int .u64 rU,.int .u64 qJ] 179 (0,0)))/\aj (Below w.heap.size w w'))
 case atStart=>exact ⟨(63),(0),(0),zT,H',⟨Nat.le_refl _⟩,⟨zK uV⟩,⟨by refine zD ?_;refine bg (cs := #[.int .u64 0,.int .u64 0]) ?_ 1 _ rfl;refine zD ?_;refine bg (cs := #[.int .u64 0,.int .u64 0]) ?_ 0 _ rfl;refine zD ?_;exact pX.out⟩,⟨zB⟩⟩
 case round =>
  clear H';obtain ⟨rQ,rU,qJ,rfl,HA,HK1,uV,pX,HB⟩:=hrel;cases gk with
  | zero=>exact absurd HA.out (by simp [eG.l0])
  | succ k1 =>
   have H:=HA.out;clear HA;simp only [eG.l0] at H;by_cases c7:rQ>=0
   ·rw [if_pos c7] at H;have jw:=decide_eq_true c7;clear c7;replace H:=zO H;obtain ⟨⟨adS,aeM⟩,A8,H⟩:=H;try dsimp only at H
    by_cases c9:0<=rQ
    ·rw [if_pos c9] at H;have o8:=eq_true c9;have adG:=decide_eq_true c9;clear c9;obtain ⟨dP,kT⟩:∃ j_:Int,(shr .u64 a1 rQ)=j_:=⟨_,rfl⟩;replace H:(if (Go.bits .and .u64 (dP) 1)=1 then ((iL.f adS aeM 0 a0).bind fun ajS=>(eG.l0 k1 a0 a1 (wrap64 (rQ - 1)) ajS.1 ajS.2)) else (eG.l0 k1 a0 a1 (wrap64 (rQ - 1)) adS aeM))=some (r1,r2):=by first|(rw [kT] at H;exact H)|(simp only [kT] at H ⊢;exact H)
     (try rw [kT] at A8)
     have aoo:(a1 / 2 ^ min rQ.toNat 64)=dP:=kT;have atf:rQ<=64->(a1 / 2 ^ rQ.toNat)=dP:=rJ kT;by_cases c11:(Go.bits .and .u64 (dP) 1)=1
     ·rw [if_pos c11] at H;have jy:((Go.bits .and .u64 (dP) 1) == 1)=true:=beq_iff_eq.mpr c11;have aac:((Go.bits .and .u64 (dP) 1) != 1)=false:=bne_eq_false_iff_eq.mpr c11;clear c11;replace H:=zO H;obtain ⟨⟨aus,ay9⟩,A12,H⟩:=H;try dsimp only at H
      have H':=aj.mk H;clear H;have am4:=aem.out;have am5:=ael.out;obtain ⟨_,_⟩:=zC2 pX.out;obtain ⟨_,_⟩:=zF2 pX.out;go_wp2_with (first|((with_reducible refine ay (f:=119) rfl ?_);refine aH (some 13) rfl rfl Tryz.func119 (by kernel_rfl) rfl #[.agg #[.int .u64 rU,.int .u64 qJ],.int .u64 0] rfl zL ?_;(with_reducible refine (dS.calls rU qJ 0 adS aeM _ A8.out).mono ?_);rintro e w15 ⟨rfl,hb⟩;refine ⟨_,rfl,?_⟩;obtain ⟨uV,pX,HB⟩:=zA3 (aA (zK uV) hb) (aA (zK pX) hb) (ak zB hb);(try clear hb);obtain ⟨_,_⟩:=zC2 pX.out;obtain ⟨_,_⟩:=zF2 pX.out)|((with_reducible refine ay (f:=124) rfl ?_);refine aH (some 22) rfl rfl Tryz.func124 (by kernel_rfl) rfl #[.agg #[.int .u64 adS,.int .u64 aeM],.agg #[.int .u64 0,.int .u64 a0]] rfl zL ?_;(with_reducible refine (iL.calls adS aeM 0 a0 aus ay9 _ A12.out).mono ?_);rintro e w17 ⟨rfl,hb⟩;refine ⟨_,rfl,?_⟩;obtain ⟨uV,pX,HB⟩:=zA3 (aA (zK uV) hb) (aA (g:=awT) (o := .cells #[.int .u64 adS,.int .u64 aeM] 179 (0,0)) (by refine zD ?_;refine bg (cs := #[.int .u64 adS,.int .u64 qJ]) ?_ 1 _ rfl;refine zD ?_;refine bg (cs := #[.int .u64 rU,.int .u64 qJ]) ?_ 0 _ rfl;refine zD ?_;exact pX.out) hb) (ak zB hb);(try clear hb);obtain ⟨_,_⟩:=zC2 pX.out;obtain ⟨_,_⟩:=zF2 pX.out));go_roundg k1
      case measure=>have:=HK1.out;omega
      case rel=>exact ⟨(wrap64 (rQ - 1)),(aus),(ay9),zT,H',⟨by have:=HK1.out;omega⟩,⟨zK uV⟩,⟨by refine zD ?_;refine bg (cs := #[.int .u64 aus,.int .u64 aeM]) ?_ 1 _ rfl;refine zD ?_;refine bg (cs := #[.int .u64 adS,.int .u64 aeM]) ?_ 0 _ rfl;refine zD ?_;exact pX.out⟩,⟨zB⟩⟩
     ·rw [if_neg c11] at H;have jy:((Go.bits .and .u64 (dP) 1) == 1)=false:=beq_eq_false_iff_ne.mpr c11;have aac:((Go.bits .and .u64 (dP) 1) != 1)=true:=bne_iff_ne.mpr c11;have H':=aj.mk H;clear H;have aAG:=aem.out;have aAH:=ael.out;obtain ⟨_,_⟩:=zC2 pX.out;obtain ⟨_,_⟩:=zF2 pX.out;go_wp2_with (first|((with_reducible refine ay (f:=119) rfl ?_);refine aH (some 13) rfl rfl Tryz.func119 (by kernel_rfl) rfl #[.agg #[.int .u64 rU,.int .u64 qJ],.int .u64 0] rfl zL ?_;(with_reducible refine (dS.calls rU qJ 0 adS aeM _ A8.out).mono ?_);rintro e w21 ⟨rfl,hb⟩;refine ⟨_,rfl,?_⟩;obtain ⟨uV,pX,HB⟩:=zA3 (aA (zK uV) hb) (aA (zK pX) hb) (ak zB hb);(try clear hb);obtain ⟨_,_⟩:=zC2 pX.out;obtain ⟨_,_⟩:=zF2 pX.out));go_roundg k1
      case measure=>have:=HK1.out;omega
      case rel=>exact ⟨(wrap64 (rQ - 1)),(adS),(aeM),zT,H',⟨by have:=HK1.out;omega⟩,⟨zK uV⟩,⟨by refine zD ?_;refine bg (cs := #[.int .u64 adS,.int .u64 qJ]) ?_ 1 _ rfl;refine zD ?_;refine bg (cs := #[.int .u64 rU,.int .u64 qJ]) ?_ 0 _ rfl;refine zD ?_;exact pX.out⟩,⟨zB⟩⟩
    ·rw [if_neg c9] at H;exact absurd H (by simp)
   ·rw [if_neg c7] at H;have jw:=decide_eq_false c7;clear c7;simp only [Option.some.injEq,Prod.mk.injEq] at H;obtain ⟨rfl,rfl⟩:=H;have am6:=aem.out;have am7:=ael.out;obtain ⟨_,_⟩:=zC2 pX.out;obtain ⟨_,_⟩:=zF2 pX.out;obtain ⟨_,_⟩:=zC2 uV.out;obtain ⟨_,_⟩:=zF2 uV.out;go_wp2;refine bodyPost_ret (results_cell_row rfl _ _ awS 179 #[.int .u64 rU,.int .u64 qJ] (0,0) _ rfl (by refine zD ?_;refine bg (cs := #[.int .u64 rU,.int .u64 0]) ?_ 1 _ rfl;refine zD ?_;refine bg (cs := #[.int .u64 0,.int .u64 0]) ?_ 0 _ rfl;refine zD ?_;exact uV.out) Tryz.underlying179 rfl (by kernel_rfl)) rfl ?_;exact ⟨zS,zB⟩
def iV.f (aU bf jL kM:Int):Option (Bool):=if aU=jL then (some (decide (bf < kM))) else (some (decide (aU < jL)))
theorem iV.calls (aU bf jL kM:Int) (r:Bool) (w:World) (h:iV.f aU bf jL kM=some r) :
  Calls Tryz.prog 123 #[.agg #[.int .u64 aU,.int .u64 bf],.agg #[.int .u64 jL,.int .u64 kM]] w fun e w'=>e = .returned (.bool r)/\Below w.heap.size w w':=by
 have aaJ:=Tryz.underlying179;have HB:=aj.mk (Below.refl w.heap.size w);have H:=h;clear h;unfold iV.f at H;by_cases c3:aU=jL
 ·rw [if_pos c3] at H;have fU:(aU == jL)=true:=beq_iff_eq.mpr c3;have wO:(aU != jL)=false:=bne_eq_false_iff_eq.mpr c3;clear c3;obtain rfl:=Option.some.inj H;go_enter Tryz.func123,Tryz.ntmps123;go_wp2_with (first|((with_reducible refine aZ (N:=2) rfl ?_);refine aX zR (N:=2) zR (cs := #[.int .u64 aU,.int .u64 bf]) (t:=179) zG ?_;intro aAI hg w4 hbox hb;obtain ⟨HB,aae,aAJ,aAK⟩:=zA4 (ak zB hb) hbox (zg hg zB) (zg hg zB);clear hb hbox hg)|((with_reducible refine aZ (N:=3) rfl ?_);refine aX zR (N:=3) zR (cs := #[.int .u64 jL,.int .u64 kM]) (t:=179) zG ?_;intro aAL hg w5 hbox hb;obtain ⟨aae,HB,ajT,aAM,aAN,agQ,agR⟩:=zA7 (aA (zK aae) hb) (ak zB hb) hbox (zg hg zB) (zg hg zB) (zl hg (zK aae)) (zr hg (zK aae));clear hb hbox hg;have aDg:=agQ.out;have aDh:=agR.out;obtain ⟨_,_⟩:=zC2 aae.out;obtain ⟨_,_⟩:=zF2 aae.out;obtain ⟨_,_⟩:=zC2 ajT.out;obtain ⟨_,_⟩:=zF2 ajT.out));go_ret;exact ⟨zS,zB⟩
 ·rw [if_neg c3] at H;have fU:(aU == jL)=false:=beq_eq_false_iff_ne.mpr c3;have wO:(aU != jL)=true:=bne_iff_ne.mpr c3;obtain rfl:=Option.some.inj H;go_enter Tryz.func123,Tryz.ntmps123;go_wp2_with (first|((with_reducible refine aZ (N:=2) rfl ?_);refine aX zR (N:=2) zR (cs := #[.int .u64 aU,.int .u64 bf]) (t:=179) zG ?_;intro aAI hg w9 hbox hb;obtain ⟨HB,aae,aAJ,aAK⟩:=zA4 (ak zB hb) hbox (zg hg zB) (zg hg zB);clear hb hbox hg)|((with_reducible refine aZ (N:=3) rfl ?_);refine aX zR (N:=3) zR (cs := #[.int .u64 jL,.int .u64 kM]) (t:=179) zG ?_;intro aAL hg w10 hbox hb;obtain ⟨aae,HB,ajT,aAM,aAN,agQ,agR⟩:=zA7 (aA (zK aae) hb) (ak zB hb) hbox (zg hg zB) (zg hg zB) (zl hg (zK aae)) (zr hg (zK aae));clear hb hbox hg;have aAO:=agQ.out;have aAP:=agR.out;obtain ⟨_,_⟩:=zC2 aae.out;obtain ⟨_,_⟩:=zF2 aae.out;obtain ⟨_,_⟩:=zC2 ajT.out;obtain ⟨_,_⟩:=zF2 ajT.out));go_ret;exact ⟨zS,zB⟩
def cZ.j0:Nat->Bool->Int->Int->Option (Int)
 | 0,_,_,_=>none
 | k+1,x13,aEz,ax8=>if x13=true then (some (-9223372036854775808)) else (some (wrap64 (-(wrap64 (ax8)))))
def cZ.f (k:Nat) (aU bf:Int) (a1:Bool):Option (Int):=if a1=true then (if aU > 0 then (cZ.j0 k true aU bf) else (cZ.j0 k (decide (bf > 9223372036854775807)) aU bf)) else (if aU > 0 then (some 9223372036854775807) else (if bf > 9223372036854775807 then (some 9223372036854775807) else (some (wrap64 (bf)))))
theorem cZ.calls (k:Nat) (aU bf:Int) (a1:Bool) (r:Int) (w:World) (h:cZ.f k aU bf a1=some r) :
  Calls Tryz.prog 125 #[.agg #[.int .u64 aU,.int .u64 bf],.bool a1] w fun e w'=>e = .returned (.int .i64 r)/\Below w.heap.size w w':=by
 have aaJ:=Tryz.underlying179;have HB:=aj.mk (Below.refl w.heap.size w);have H:=h;clear h;unfold cZ.f at H;by_cases c3:a1=true
 ·subst c3;rw [if_pos rfl] at H;(try dsimp only at H);have HC4:=aj.mk H;clear H;go_enter Tryz.func125,Tryz.ntmps125;go_upto_region 2 with (first|((with_reducible refine aZ (N:=2) rfl ?_);refine aX zR (N:=2) zR (cs := #[.int .u64 aU,.int .u64 bf]) (t:=179) zG ?_;intro anb hg w5 hbox hb;obtain ⟨HB,uw,ark,arl⟩:=zA4 (ak zB hb) hbox (zg hg zB) (zg hg zB);clear hb hbox hg))
  (try simp only [Act.put,List.setIfInBounds_toArray,List.set_cons_zero,List.set_cons_succ])
  go_cut [13] (fun v13 wc=>∃ (kq:Nat) (ac9:Bool),v13 = .bool ac9/\aj (cZ.j0 kq ac9 aU bf=some r)/\aj (kq<=k)/\aj (wc.heap[anb]? = some (.cells #[.int .u64 aU,.int .u64 bf] 179 (0,0)))/\aj (Below w.heap.size w wc))
  case first =>
   have H:=HC4.out;clear HC4;by_cases c6:aU > 0
   ·rw [if_pos c6] at H;have gI:=decide_eq_true c6;clear c6
    (first|rw [gI]|(simp only [bP,bU];rw [gI])|skip)
    have H':=aj.mk H;clear H;obtain ⟨_,_⟩:=zC2 uw.out;obtain ⟨_,_⟩:=zF2 uw.out;go_wp2;go_meet
    case rel=>exact ⟨_,(true),zT,H',⟨by first|omega|exact Nat.le_refl _⟩,⟨zK uw⟩,⟨zB⟩⟩
   ·rw [if_neg c6] at H;have gI:=decide_eq_false c6;clear c6
    (first|rw [gI]|(simp only [bP,bU];rw [gI])|skip)
    have H':=aj.mk H;clear H;obtain ⟨_,_⟩:=zC2 uw.out;obtain ⟨_,_⟩:=zF2 uw.out;go_wp2;go_meet
    case rel=>exact ⟨_,(decide (bf > 9223372036854775807)),zT,H',⟨by first|omega|exact Nat.le_refl _⟩,⟨zK uw⟩,⟨zB⟩⟩
  case rest =>
   clear HC4;obtain ⟨kq,ac9,rfl,HA,HJ3,uw,HB⟩:=hcut;cases kq with
   | zero=>exact absurd HA.out (by simp [cZ.j0])
   | succ kj3 =>
    have H:=HA.out;clear HA;simp only [cZ.j0] at H;by_cases c9:ac9=true
    ·subst c9;rw [if_pos rfl] at H;(try dsimp only at H);obtain rfl:=Option.some.inj H;go_wp2;go_ret;exact ⟨zS,zB⟩
    ·replace c9:=Bool.eq_false_iff.mpr c9;subst c9;rw [if_neg (show ¬ (false=true) by decide)] at H;(try dsimp only at H);obtain rfl:=Option.some.inj H;obtain ⟨_,_⟩:=zC2 uw.out;obtain ⟨_,_⟩:=zF2 uw.out;go_wp2;go_ret;exact ⟨zS,zB⟩
 ·replace c3:=Bool.eq_false_iff.mpr c3;subst c3;rw [if_neg (show ¬ (false=true) by decide)] at H;(try dsimp only at H);by_cases c11:aU > 0
  ·rw [if_pos c11] at H;have jy:=decide_eq_true c11;clear c11;obtain rfl:=Option.some.inj H;go_enter Tryz.func125,Tryz.ntmps125;go_wp2_with (first|((with_reducible refine aZ (N:=2) rfl ?_);refine aX zR (N:=2) zR (cs := #[.int .u64 aU,.int .u64 bf]) (t:=179) zG ?_;intro anb hg w12 hbox hb;obtain ⟨HB,uw,ark,arl⟩:=zA4 (ak zB hb) hbox (zg hg zB) (zg hg zB);clear hb hbox hg;obtain ⟨_,_⟩:=zC2 uw.out;obtain ⟨_,_⟩:=zF2 uw.out));go_ret;exact ⟨zS,zB⟩
  ·rw [if_neg c11] at H;have jy:=decide_eq_false c11;clear c11;by_cases c14:bf > 9223372036854775807
   ·rw [if_pos c14] at H;have acu:=decide_eq_true c14;clear c14;obtain rfl:=Option.some.inj H;go_enter Tryz.func125,Tryz.ntmps125;go_wp2_with (first|((with_reducible refine aZ (N:=2) rfl ?_);refine aX zR (N:=2) zR (cs := #[.int .u64 aU,.int .u64 bf]) (t:=179) zG ?_;intro anb hg w15 hbox hb;obtain ⟨HB,uw,ark,arl⟩:=zA4 (ak zB hb) hbox (zg hg zB) (zg hg zB);clear hb hbox hg;obtain ⟨_,_⟩:=zC2 uw.out;obtain ⟨_,_⟩:=zF2 uw.out));go_ret;exact ⟨zS,zB⟩
   ·rw [if_neg c14] at H;have acu:=decide_eq_false c14;clear c14;obtain rfl:=Option.some.inj H;go_enter Tryz.func125,Tryz.ntmps125;go_wp2_with (first|((with_reducible refine aZ (N:=2) rfl ?_);refine aX zR (N:=2) zR (cs := #[.int .u64 aU,.int .u64 bf]) (t:=179) zG ?_;intro anb hg w17 hbox hb;obtain ⟨HB,uw,ark,arl⟩:=zA4 (ak zB hb) hbox (zg hg zB) (zg hg zB);clear hb hbox hg;obtain ⟨_,_⟩:=zC2 uw.out;obtain ⟨_,_⟩:=zF2 uw.out));go_ret;exact ⟨zS,zB⟩
def fV.f (aU bf a1:Int):Option (Int):=if a1>=64 then (if 0<=(wrap64 (a1 - 64)) then (some (Go.bits .and .u64 (shr .u64 aU (wrap64 (a1 - 64))) 1)) else (none)) else (if 0<=a1 then (some (Go.bits .and .u64 (shr .u64 bf a1) 1)) else (none))
theorem fV.calls (aU bf a1 r:Int) (w:World) (h:fV.f aU bf a1=some r) :
  Calls Tryz.prog 121 #[.agg #[.int .u64 aU,.int .u64 bf],.int .i64 a1] w fun e w'=>e = .returned (.int .u64 r)/\Below w.heap.size w w':=by
 have aaJ:=Tryz.underlying179;have HB:=aj.mk (Below.refl w.heap.size w);have H:=h;clear h;unfold fV.f at H;by_cases c3:a1>=64
 ·rw [if_pos c3] at H;have fU:=decide_eq_true c3;clear c3;obtain ⟨ji4,qY⟩:∃ j_:Int,(wrap64 (a1 - 64))=j_:=⟨_,rfl⟩;replace H:(if 0<=(ji4) then (some (Go.bits .and .u64 (shr .u64 aU (ji4)) 1)) else (none))=some r:=(by first|(rw [qY] at H;exact H)|(simp only [qY] at H ⊢;exact H));have aGh:(IntKind.i64.wrap (a1 - 64))=ji4:=(bP _).trans qY;by_cases c5:0<=(ji4)
  ·rw [if_pos c5] at H;have gJ:=eq_true c5;have ab8:=decide_eq_true c5;clear c5;obtain ⟨ji6,vW⟩:∃ j_:Int,(shr .u64 aU (ji4))=j_:=⟨_,rfl⟩;replace H:(some (Go.bits .and .u64 (ji6) 1))=some r:=(by first|(rw [vW] at H;exact H)|(simp only [vW] at H ⊢;exact H));have awU:(aU / 2 ^ min (ji4).toNat 64)=ji6:=vW;have aAQ:(ji4)<=64->(aU / 2 ^ (ji4).toNat)=ji6:=rJ vW;obtain rfl:=Option.some.inj H;go_enter Tryz.func121,Tryz.ntmps121;go_wp2_with (first|((with_reducible refine aZ (N:=2) rfl ?_);refine aX zR (N:=2) zR (cs := #[.int .u64 aU,.int .u64 bf]) (t:=179) zG ?_;intro aAR hg w7 hbox hb;obtain ⟨HB,ajU,aAS,aAT⟩:=zA4 (ak zB hb) hbox (zg hg zB) (zg hg zB);clear hb hbox hg;obtain ⟨_,_⟩:=zC2 ajU.out;obtain ⟨_,_⟩:=zF2 ajU.out));go_ret;exact ⟨by first|rfl|(simp [bJ,bK] <;> rfl)|(simp only [<- qY,<- vW];first|rfl|(simp [bJ,bK] <;> rfl))|(simp [*,bJ,bK] <;> rfl),zB⟩
  ·rw [if_neg c5] at H;exact absurd H (by simp)
 ·rw [if_neg c3] at H;have fU:=decide_eq_false c3;clear c3;by_cases c9:0<=a1
  ·rw [if_pos c9] at H;have o8:=eq_true c9;have adG:=decide_eq_true c9;clear c9;obtain ⟨dP,kT⟩:∃ j_:Int,(shr .u64 bf a1)=j_:=⟨_,rfl⟩;replace H:(some (Go.bits .and .u64 (dP) 1))=some r:=(by first|(rw [kT] at H;exact H)|(simp only [kT] at H ⊢;exact H));have aoo:(bf / 2 ^ min a1.toNat 64)=dP:=kT;have atf:a1<=64->(bf / 2 ^ a1.toNat)=dP:=rJ kT;obtain rfl:=Option.some.inj H;go_enter Tryz.func121,Tryz.ntmps121;go_wp2_with (first|((with_reducible refine aZ (N:=2) rfl ?_);refine aX zR (N:=2) zR (cs := #[.int .u64 aU,.int .u64 bf]) (t:=179) zG ?_;intro aAR hg w11 hbox hb;obtain ⟨HB,ajU,aAS,aAT⟩:=zA4 (ak zB hb) hbox (zg hg zB) (zg hg zB);clear hb hbox hg;obtain ⟨_,_⟩:=zC2 ajU.out;obtain ⟨_,_⟩:=zF2 ajU.out));go_ret;exact ⟨by first|rfl|(simp [bJ,bK] <;> rfl)|(simp only [<- kT];first|rfl|(simp [bJ,bK] <;> rfl))|(simp [*,bJ,bK] <;> rfl),zB⟩
  ·rw [if_neg c9] at H;exact absurd H (by simp)
def lH.f (aU bf jL kM:Int):Option (Int × Int):=if bf < kM then (some (IntKind.u64.wrap ((IntKind.u64.wrap (aU - jL)) - 1),IntKind.u64.wrap (bf - kM))) else (some (IntKind.u64.wrap (aU - jL),IntKind.u64.wrap (bf - kM)))
theorem lH.calls (aU bf jL kM r1 r2:Int) (w:World) (h:lH.f aU bf jL kM=some (r1,r2)) :
  Calls Tryz.prog 122 #[.agg #[.int .u64 aU,.int .u64 bf],.agg #[.int .u64 jL,.int .u64 kM]] w fun e w'=>e = .returned (.agg #[.int .u64 r1,.int .u64 r2])/\Below w.heap.size w w':=by
 have aaJ:=Tryz.underlying179;have HB:=aj.mk (Below.refl w.heap.size w);have H:=h;clear h;unfold lH.f at H;by_cases c3:bf < kM
 ·rw [if_pos c3] at H;have fU:=decide_eq_true c3;clear c3;simp only [Option.some.injEq,Prod.mk.injEq] at H;obtain ⟨rfl,rfl⟩:=H;go_enter Tryz.func122,Tryz.ntmps122;go_wp2_with (first|((with_reducible refine aZ (N:=2) rfl ?_);refine aX zR (N:=2) zR (cs := #[.int .u64 aU,.int .u64 bf]) (t:=179) zG ?_;intro aAU hg w4 hbox hb;obtain ⟨HB,lI,aAV,aAW⟩:=zA4 (ak zB hb) hbox (zg hg zB) (zg hg zB);clear hb hbox hg)|((with_reducible refine aZ (N:=3) rfl ?_);refine aX zR (N:=3) zR (cs := #[.int .u64 jL,.int .u64 kM]) (t:=179) zG ?_;intro aAX hg w5 hbox hb;obtain ⟨lI,HB,oZ,aAY,aAZ,agS,agT⟩:=zA7 (aA (zK lI) hb) (ak zB hb) hbox (zg hg zB) (zg hg zB) (zl hg (zK lI)) (zr hg (zK lI));clear hb hbox hg)|((with_reducible refine aZ (N:=4) rfl ?_);refine aX zR (N:=4) zR (cs := #[.int .u64 0,.int .u64 0]) (t:=179) zG ?_;intro arn hg w6 hbox hb;obtain ⟨lI,oZ,HB,xU,aA0,aA1,agU,agV,agW,agX⟩:=afn (aA (zK lI) hb) (aA (zK oZ) hb) (ak zB hb) hbox (zg hg zB) (zg hg zB) (zl hg (zK lI)) (zr hg (zK lI)) (zl hg (zK oZ)) (zr hg (zK oZ));clear hb hbox hg;have auq:=agS.out;have aur:=agT.out;have ay7:=agU.out;have ay8:=agV.out;obtain ⟨_,_⟩:=zC2 lI.out;obtain ⟨_,_⟩:=zF2 lI.out;have ajP:=agW.out;have ajQ:=agX.out;obtain ⟨_,_⟩:=zC2 oZ.out;obtain ⟨_,_⟩:=zF2 oZ.out)|((with_reducible refine aZ (N:=5) rfl ?_);refine aX zR (N:=5) zR (cs := #[.int .u64 0,.int .u64 0]) (t:=179) zG ?_;intro aA2 hg w12 hbox hb;obtain ⟨lI,oZ,xU,HB,ajV,aA3,aA4,agY,agZ,ag0,ag1,xH,ag2⟩:=agt (aA (zK lI) hb) (aA (zK oZ) hb) (aA (zK xU) hb) (ak zB hb) hbox (zg hg zB) (zg hg zB) (zl hg (zK lI)) (zr hg (zK lI)) (zl hg (zK oZ)) (zr hg (zK oZ)) (zl hg (zK xU)) (zr hg (zK xU));clear hb hbox hg;have am4:=agZ.out;have am5:=agY.out;have arb:=ag1.out;have ard:=ag0.out;have awO:=ag2.out;have awP:=xH.out;obtain ⟨_,_⟩:=zC2 ajV.out;obtain ⟨_,_⟩:=zF2 ajV.out;obtain ⟨_,_⟩:=zC2 lI.out;obtain ⟨_,_⟩:=zF2 lI.out;obtain ⟨_,_⟩:=zC2 oZ.out;obtain ⟨_,_⟩:=zF2 oZ.out;obtain ⟨_,_⟩:=zC2 xU.out;obtain ⟨_,_⟩:=zF2 xU.out));refine bodyPost_ret (results_cell_row rfl _ _ arn 179 #[.int .u64 (IntKind.u64.wrap ((IntKind.u64.wrap (aU - jL)) - 1)),.int .u64 (IntKind.u64.wrap (bf - kM))] (0,0) _ rfl (by refine zD ?_;refine bg (cs := #[.int .u64 (IntKind.u64.wrap ((IntKind.u64.wrap (aU - jL)) - 1)),.int .u64 0]) ?_ 1 _ rfl;refine zD ?_;refine bg (cs := #[.int .u64 0,.int .u64 0]) ?_ 0 _ rfl;refine zD ?_;refine jV ?_ xH.out _;refine zD ?_;refine jV ?_ xH.out _;refine zD ?_;refine jV ?_ xH.out _;refine zD ?_;exact xU.out) Tryz.underlying179 rfl (by kernel_rfl)) rfl ?_;exact ⟨zS,zB⟩
 ·rw [if_neg c3] at H;have fU:=decide_eq_false c3;clear c3;simp only [Option.some.injEq,Prod.mk.injEq] at H;obtain ⟨rfl,rfl⟩:=H;go_enter Tryz.func122,Tryz.ntmps122;go_wp2_with (first|((with_reducible refine aZ (N:=2) rfl ?_);refine aX zR (N:=2) zR (cs := #[.int .u64 aU,.int .u64 bf]) (t:=179) zG ?_;intro aAU hg w20 hbox hb;obtain ⟨HB,lI,aAV,aAW⟩:=zA4 (ak zB hb) hbox (zg hg zB) (zg hg zB);clear hb hbox hg)|((with_reducible refine aZ (N:=3) rfl ?_);refine aX zR (N:=3) zR (cs := #[.int .u64 jL,.int .u64 kM]) (t:=179) zG ?_;intro aAX hg w21 hbox hb;obtain ⟨lI,HB,oZ,aAY,aAZ,agS,agT⟩:=zA7 (aA (zK lI) hb) (ak zB hb) hbox (zg hg zB) (zg hg zB) (zl hg (zK lI)) (zr hg (zK lI));clear hb hbox hg)|((with_reducible refine aZ (N:=4) rfl ?_);refine aX zR (N:=4) zR (cs := #[.int .u64 0,.int .u64 0]) (t:=179) zG ?_;intro arn hg w22 hbox hb;obtain ⟨lI,oZ,HB,xU,aA0,aA1,agU,agV,agW,agX⟩:=afn (aA (zK lI) hb) (aA (zK oZ) hb) (ak zB hb) hbox (zg hg zB) (zg hg zB) (zl hg (zK lI)) (zr hg (zK lI)) (zl hg (zK oZ)) (zr hg (zK oZ));clear hb hbox hg;have am6:=agS.out;have am7:=agT.out;have aA5:=agU.out;have aA6:=agV.out;obtain ⟨_,_⟩:=zC2 lI.out;obtain ⟨_,_⟩:=zF2 lI.out;have aA7:=agW.out;have aA8:=agX.out;obtain ⟨_,_⟩:=zC2 oZ.out;obtain ⟨_,_⟩:=zF2 oZ.out)|((with_reducible refine aZ (N:=5) rfl ?_);refine aX zR (N:=5) zR (cs := #[.int .u64 0,.int .u64 0]) (t:=179) zG ?_;intro aA2 hg w28 hbox hb;obtain ⟨lI,oZ,xU,HB,ajV,aA3,aA4,agY,agZ,ag0,ag1,xH,ag2⟩:=agt (aA (zK lI) hb) (aA (zK oZ) hb) (aA (zK xU) hb) (ak zB hb) hbox (zg hg zB) (zg hg zB) (zl hg (zK lI)) (zr hg (zK lI)) (zl hg (zK oZ)) (zr hg (zK oZ)) (zl hg (zK xU)) (zr hg (zK xU));clear hb hbox hg;have ari:=agZ.out;have arj:=agY.out;have am8:=ag1.out;have am9:=ag0.out;have aGi:=ag2.out;have aGj:=xH.out;obtain ⟨_,_⟩:=zC2 ajV.out;obtain ⟨_,_⟩:=zF2 ajV.out;obtain ⟨_,_⟩:=zC2 lI.out;obtain ⟨_,_⟩:=zF2 lI.out;obtain ⟨_,_⟩:=zC2 oZ.out;obtain ⟨_,_⟩:=zF2 oZ.out;obtain ⟨_,_⟩:=zC2 xU.out;obtain ⟨_,_⟩:=zF2 xU.out));refine bodyPost_ret (results_cell_row rfl _ _ arn 179 #[.int .u64 (IntKind.u64.wrap (aU - jL)),.int .u64 (IntKind.u64.wrap (bf - kM))] (0,0) _ rfl (by refine zD ?_;refine bg (cs := #[.int .u64 (IntKind.u64.wrap (aU - jL)),.int .u64 0]) ?_ 1 _ rfl;refine zD ?_;refine bg (cs := #[.int .u64 0,.int .u64 0]) ?_ 0 _ rfl;refine zD ?_;refine jV ?_ xH.out _;refine zD ?_;refine jV ?_ xH.out _;refine zD ?_;exact xU.out) Tryz.underlying179 rfl (by kernel_rfl)) rfl ?_;exact ⟨zS,zB⟩
def fP.l0:Nat->Int->Int->Int->Int->Int->Int->Int->Int->Option (Int × Int × Int)
 | 0,_,_,_,_,_,_,_,_=>none
 | k+1,x1,x8,alf,alg,aqe,aqf,ax9,aqg=>if x8>=0 then ((fV.f alf alg x8).bind fun ag3=>((dS.f ax9 aqg ag3).bind fun ahZ=>((dS.f aqe aqf 0).bind fun anc=>((iV.f ahZ.1 ahZ.2 0 x1).bind fun aut=>(if aut=true then (fP.l0 k x1 (wrap64 (x8 - 1)) alf alg anc.1 anc.2 ahZ.1 ahZ.2) else ((lH.f ahZ.1 ahZ.2 0 x1).bind fun awV=>(fP.l0 k x1 (wrap64 (x8 - 1)) alf alg anc.1 (IntKind.u64.wrap (anc.2+1)) awV.1 awV.2))))))) else (some (aqe,aqf,aqg))
def fP.f (k:Nat) (aU bf a1:Int):Option (Int × Int × Int):=if a1=0 then (some (0,0,0)) else (fP.l0 k a1 127 aU bf 0 0 0 0)
theorem fP.calls (k:Nat) (aU bf a1 r1 r2 r3:Int) (w:World) (h:fP.f k aU bf a1=some (r1,r2,r3)) :
  Calls Tryz.prog 172 #[.agg #[.int .u64 aU,.int .u64 bf],.int .u64 a1] w fun e w'=>e = .returned (.tuple #[.agg #[.int .u64 r1,.int .u64 r2],.int .u64 r3])/\Below w.heap.size w w':=by
 have aaJ:=Tryz.underlying179;have HB:=aj.mk (Below.refl w.heap.size w);have H:=h;clear h;unfold fP.f at H;by_cases c3:a1=0
 ·rw [if_pos c3] at H;have fU:(a1 == 0)=true:=beq_iff_eq.mpr c3;have wO:(a1 != 0)=false:=bne_eq_false_iff_eq.mpr c3;clear c3;simp only [Option.some.injEq,Prod.mk.injEq] at H;obtain ⟨rfl,rfl,rfl⟩:=H;go_enter Tryz.func172,Tryz.ntmps172;go_wp2_with (first|((with_reducible refine aZ (N:=2) rfl ?_);refine aX zR (N:=2) zR (cs := #[.int .u64 aU,.int .u64 bf]) (t:=179) zG ?_;intro ah0 hg w4 hbox hb;obtain ⟨HB,fM,aA9,aBa⟩:=zA4 (ak zB hb) hbox (zg hg zB) (zg hg zB);clear hb hbox hg)|((with_reducible refine aZ (N:=4) rfl ?_);refine aX zR (N:=4) zR (cs := #[.int .u64 0,.int .u64 0]) (t:=179) zG ?_;intro yR hg w5 hbox hb;obtain ⟨fM,HB,iO,aBb,aBd,aen,aeo⟩:=zA7 (aA (zK fM) hb) (ak zB hb) hbox (zg hg zB) (zg hg zB) (zl hg (zK fM)) (zr hg (zK fM));clear hb hbox hg)|((with_reducible refine aZ (N:=6) rfl ?_);refine aX zR (N:=6) zR (cs := #[.int .u64 0,.int .u64 0]) (t:=179) zG ?_;intro wC hg w6 hbox hb;obtain ⟨fM,iO,HB,iH,aBe,aBf,acG,acH,zx,rV⟩:=afn (aA (zK fM) hb) (aA (zK iO) hb) (ak zB hb) hbox (zg hg zB) (zg hg zB) (zl hg (zK fM)) (zr hg (zK fM)) (zl hg (zK iO)) (zr hg (zK iO));clear hb hbox hg;have auq:=acH.out;have aur:=acG.out;have ay7:=rV.out;have ay8:=zx.out;obtain ⟨_,_⟩:=zC2 iH.out;obtain ⟨_,_⟩:=zF2 iH.out)|((with_reducible refine aZ (N:=7) rfl ?_);refine aX zR (N:=7) zR (cs := #[.int .u64 0,.int .u64 0]) (t:=179) zG ?_;intro uy hg w10 hbox hb;obtain ⟨fM,iO,iH,HB,fQ,aBg,aBh,uX,uY,pK,nG,rW,sW⟩:=agt (aA (zK fM) hb) (aA (zK iO) hb) (aA (g:=wC) (o := .cells #[.int .u64 0,.int .u64 0] 179 (0,0)) (by refine zD ?_;refine bg (cs := #[.int .u64 0,.int .u64 0]) ?_ 1 _ rfl;refine zD ?_;refine bg (cs := #[.int .u64 0,.int .u64 0]) ?_ 0 _ rfl;refine zD ?_;exact iH.out) hb) (ak zB hb) hbox (zg hg zB) (zg hg zB) (zl hg (zK fM)) (zr hg (zK fM)) (zl hg (zK iO)) (zr hg (zK iO)) ((by rw [hg];exact Nat.ne_of_lt (bI (g:=wC) (o := .cells #[.int .u64 0,.int .u64 0] 179 (0,0)) (by refine zD ?_;refine bg (cs := #[.int .u64 0,.int .u64 0]) ?_ 1 _ rfl;refine zD ?_;refine bg (cs := #[.int .u64 0,.int .u64 0]) ?_ 0 _ rfl;refine zD ?_;exact iH.out)):wC≠uy)) ((by rw [hg];exact Nat.ne_of_gt (bI (g:=wC) (o := .cells #[.int .u64 0,.int .u64 0] 179 (0,0)) (by refine zD ?_;refine bg (cs := #[.int .u64 0,.int .u64 0]) ?_ 1 _ rfl;refine zD ?_;refine bg (cs := #[.int .u64 0,.int .u64 0]) ?_ 0 _ rfl;refine zD ?_;exact iH.out)):uy≠wC));clear hb hbox hg;have aAO:=uY.out;have aAP:=uX.out;have awW:=nG.out;have awX:=pK.out;have am4:=sW.out;have am5:=rW.out;obtain ⟨_,_⟩:=zC2 fQ.out;obtain ⟨_,_⟩:=zF2 fQ.out;obtain ⟨_,_⟩:=zC2 iH.out;obtain ⟨_,_⟩:=zF2 iH.out;have aBi:=aeo.out;have aBj:=aen.out;obtain ⟨_,_⟩:=zC2 iO.out;obtain ⟨_,_⟩:=zF2 iO.out));refine bodyPost_ret (ajA rfl _ _ yR 179 #[.int .u64 0,.int .u64 0] (0,0) _ rfl (by refine zD ?_;refine bg (cs := #[.int .u64 0,.int .u64 0]) ?_ 1 _ rfl;refine zD ?_;refine bg (cs := #[.int .u64 0,.int .u64 0]) ?_ 0 _ rfl;refine zD ?_;refine jV ?_ pK.out _;refine zD ?_;refine jV ?_ pK.out _;refine zD ?_;exact iO.out) Tryz.underlying179 rfl (by kernel_rfl)) rfl ?_;exact ⟨zS,zB⟩
 ·rw [if_neg c3] at H;have fU:(a1 == 0)=false:=beq_eq_false_iff_ne.mpr c3;have wO:(a1 != 0)=true:=bne_iff_ne.mpr c3;have H':=aj.mk H;clear H;go_enter Tryz.func172,Tryz.ntmps172;go_wp2_with (first|((with_reducible refine aZ (N:=2) rfl ?_);refine aX zR (N:=2) zR (cs := #[.int .u64 aU,.int .u64 bf]) (t:=179) zG ?_;intro ah0 hg w18 hbox hb;obtain ⟨HB,fM,aA9,aBa⟩:=zA4 (ak zB hb) hbox (zg hg zB) (zg hg zB);clear hb hbox hg)|((with_reducible refine aZ (N:=4) rfl ?_);refine aX zR (N:=4) zR (cs := #[.int .u64 0,.int .u64 0]) (t:=179) zG ?_;intro yR hg w19 hbox hb;obtain ⟨fM,HB,iO,aBb,aBd,aen,aeo⟩:=zA7 (aA (zK fM) hb) (ak zB hb) hbox (zg hg zB) (zg hg zB) (zl hg (zK fM)) (zr hg (zK fM));clear hb hbox hg)|((with_reducible refine aZ (N:=6) rfl ?_);refine aX zR (N:=6) zR (cs := #[.int .u64 0,.int .u64 0]) (t:=179) zG ?_;intro wC hg w20 hbox hb;obtain ⟨fM,iO,HB,iH,aBe,aBf,acG,acH,zx,rV⟩:=afn (aA (zK fM) hb) (aA (zK iO) hb) (ak zB hb) hbox (zg hg zB) (zg hg zB) (zl hg (zK fM)) (zr hg (zK fM)) (zl hg (zK iO)) (zr hg (zK iO));clear hb hbox hg;have aGk:=acH.out;have aGl:=acG.out;have awQ:=rV.out;have awR:=zx.out;obtain ⟨_,_⟩:=zC2 iH.out;obtain ⟨_,_⟩:=zF2 iH.out)|((with_reducible refine aZ (N:=7) rfl ?_);refine aX zR (N:=7) zR (cs := #[.int .u64 0,.int .u64 0]) (t:=179) zG ?_;intro uy hg w24 hbox hb;obtain ⟨fM,iO,iH,HB,fQ,aBg,aBh,uX,uY,pK,nG,rW,sW⟩:=agt (aA (zK fM) hb) (aA (zK iO) hb) (aA (g:=wC) (o := .cells #[.int .u64 0,.int .u64 0] 179 (0,0)) (by refine zD ?_;refine bg (cs := #[.int .u64 0,.int .u64 0]) ?_ 1 _ rfl;refine zD ?_;refine bg (cs := #[.int .u64 0,.int .u64 0]) ?_ 0 _ rfl;refine zD ?_;exact iH.out) hb) (ak zB hb) hbox (zg hg zB) (zg hg zB) (zl hg (zK fM)) (zr hg (zK fM)) (zl hg (zK iO)) (zr hg (zK iO)) ((by rw [hg];exact Nat.ne_of_lt (bI (g:=wC) (o := .cells #[.int .u64 0,.int .u64 0] 179 (0,0)) (by refine zD ?_;refine bg (cs := #[.int .u64 0,.int .u64 0]) ?_ 1 _ rfl;refine zD ?_;refine bg (cs := #[.int .u64 0,.int .u64 0]) ?_ 0 _ rfl;refine zD ?_;exact iH.out)):wC≠uy)) ((by rw [hg];exact Nat.ne_of_gt (bI (g:=wC) (o := .cells #[.int .u64 0,.int .u64 0] 179 (0,0)) (by refine zD ?_;refine bg (cs := #[.int .u64 0,.int .u64 0]) ?_ 1 _ rfl;refine zD ?_;refine bg (cs := #[.int .u64 0,.int .u64 0]) ?_ 0 _ rfl;refine zD ?_;exact iH.out)):uy≠wC));clear hb hbox hg;have arf:=uY.out;have arh:=uX.out;have aA7:=nG.out;have aA8:=pK.out;have aGm:=sW.out;have aGn:=rW.out;obtain ⟨_,_⟩:=zC2 fQ.out;obtain ⟨_,_⟩:=zF2 fQ.out));go_loopg [8] k (fun kq v8 w'=>∃ (iT:Int) (qK:Int) (pO:Int) (oK:Int) (mF:Int),v8 = .int .i64 iT/\aj (fP.l0 kq a1 iT aU bf qK pO oK mF=some (r1,r2,r3))/\aj (kq<=k)/\aj (w'.heap[ah0]? = some (.cells #[.int .u64 aU,.int .u64 bf] 179 (0,0)))/\aj (w'.heap[yR]? = some (.cells #[.int .u64 0,.int .u64 0] 179 (0,0)))/\aj (w'.heap[wC]? = some (.cells #[.int .u64 qK,.int .u64 pO] 179 (0,0)))/\aj (w'.heap[uy]? = some (.cells #[.int .u64 oK,.int .u64 mF] 179 (0,0)))/\aj (Below w.heap.size w w'))
  case atStart=>exact ⟨(127),(0),(0),(0),(0),zT,H',⟨Nat.le_refl _⟩,⟨zK fM⟩,⟨zK iO⟩,⟨zK iH⟩,⟨by refine zD ?_;refine bg (cs := #[.int .u64 0,.int .u64 0]) ?_ 1 _ rfl;refine zD ?_;refine bg (cs := #[.int .u64 0,.int .u64 0]) ?_ 0 _ rfl;refine zD ?_;exact fQ.out⟩,⟨zB⟩⟩
  case round =>
   clear H';obtain ⟨iT,qK,pO,oK,mF,rfl,HA,HK1,fM,iO,iH,fQ,HB⟩:=hrel;cases gk with
   | zero=>exact absurd HA.out (by simp [fP.l0])
   | succ k1 =>
    have H:=HA.out;clear HA;simp only [fP.l0] at H;by_cases c29:iT>=0
    ·rw [if_pos c29] at H;have aro:=decide_eq_true c29;clear c29;replace H:=zO H;obtain ⟨ag3,A30,H⟩:=H;try dsimp only at H
     replace H:=zO H;obtain ⟨⟨abD,ab9⟩,A31,H⟩:=H;try dsimp only at H
     replace H:=zO H;obtain ⟨⟨afE,aiR⟩,A32,H⟩:=H;try dsimp only at H
     replace H:=zO H;obtain ⟨aut,A33,H⟩:=H;try dsimp only at H
     by_cases c34:aut=true
     ·subst c34;rw [if_pos rfl] at H;(try dsimp only at H);have H':=aj.mk H;clear H;try go_wp2
      obtain ⟨fM,iO,iH,fQ,HB⟩:=zA5 (jP fM.out) (jP iO.out) (jP iH.out) (jP fQ.out) (bC HB.out);refine adC (n:=6) (S:=fun w'=>w'.cell? ⟨uy,0,none⟩=some (.int .u64 oK)/\w'.cell? ⟨uy,1,none⟩=some (.int .u64 mF)/\w'.cell? ⟨ah0,0,none⟩=some (.int .u64 aU)/\w'.cell? ⟨ah0,1,none⟩=some (.int .u64 bf)) (ds:=[5]) #[false,false,false,false,false,false] (by kernel_rfl) rfl rfl ⟨(au fQ.out 0).trans rfl,(au fQ.out 1).trans rfl,(au fM.out 0).trans rfl,(au fM.out 1).trans rfl⟩ (fun hHeld => ?_);generalize wr.drew=w35 at fM iO iH fQ HB hHeld ⊢;refine uj (i:=2) (N:=some 20) (v := ?_) (a' := ?_) #[false,false,true,false,false,false] rfl rfl (by kernel_rfl) (fun _ _ _ h=>h) (Or.inl ⟨by rfl,?_⟩) ?_ ?_;rotate_left
      ·intro w';go_simp
       with_reducible rfl
      rotate_left
      ·simp only [Act.put,List.setIfInBounds_toArray,List.set_cons_zero,List.set_cons_succ,bP,bU];rfl
      refine xO (i:=0) (N:=some 18) (v := ?_) (a' := ?_) #[true,false,true,false,false,false] rfl rfl (by kernel_rfl) (fun _ _ _ h=>h) (Or.inl ⟨by rfl,?_⟩) hHeld ?_ ?_;rotate_left
      ·rintro w' ⟨s0,s1,s2,s3⟩;go_simp
       with_reducible rfl
      rotate_left
      ·simp only [Act.put,List.setIfInBounds_toArray,List.set_cons_zero,List.set_cons_succ,bP,bU];rfl
      refine xO (i:=1) (N:=some 19) (v := ?_) (a' := ?_) #[true,true,true,false,false,false] rfl rfl (by kernel_rfl) (fun _ _ _ h=>h) (Or.inl ⟨by rfl,?_⟩) hHeld ?_ ?_;rotate_left
      ·rintro w' ⟨s0,s1,s2,s3⟩;go_simp
       with_reducible rfl
      rotate_left
      ·simp only [Act.put,List.setIfInBounds_toArray,List.set_cons_zero,List.set_cons_succ,bP,bU];rfl
      refine aaP (i:=3) (N:=some 21) #[true,true,true,true,false,false] rfl rfl (by kernel_rfl) (by decide) (fun K hK => ?_);refine aaF Tryz.func121 (by kernel_rfl) rfl #[.agg #[.int .u64 aU,.int .u64 bf],.int .i64 iT] (by rfl) rfl rfl zL ?_;with_reducible refine (fV.calls aU bf iT ag3 _ A30.out).mono ?_
      rintro e w36 ⟨rfl,hb⟩;refine ⟨_,rfl,?_⟩;obtain ⟨fM,iO,iH,fQ,HB⟩:=zA5 (aA (zK fM) hb) (aA (zK iO) hb) (aA (zK iH) hb) (aA (zK fQ) hb) (ak zB hb)
      (try clear hb)
      (try clear hb2)
      (try clear hk)
      (try clear hi)
      refine hK.out _ _ ⟨(au fQ.out 0).trans rfl,(au fQ.out 1).trans rfl,(au fM.out 0).trans rfl,(au fM.out 1).trans rfl⟩ (fun hHeld => ?_);clear hK K;refine yK (a' := ?_) ?_ ?_;rotate_left
      ·show Act.put _ (some 21) _=_
       simp only [Act.put,List.setIfInBounds_toArray,List.set_cons_zero,List.set_cons_succ,bP,bU];rfl
      refine aaP (i:=4) (N:=some 22) #[true,true,true,true,true,false] rfl rfl (by kernel_rfl) (by decide) (fun K hK => ?_);refine aaF Tryz.func119 (by kernel_rfl) rfl #[.agg #[.int .u64 oK,.int .u64 mF],.int .u64 ag3] (by rfl) rfl rfl zL ?_;with_reducible refine (dS.calls oK mF ag3 abD ab9 _ A31.out).mono ?_
      rintro e w37 ⟨rfl,hb⟩;refine ⟨_,rfl,?_⟩;obtain ⟨fM,iO,iH,fQ,HB⟩:=zA5 (aA (zK fM) hb) (aA (zK iO) hb) (aA (zK iH) hb) (aA (zK fQ) hb) (ak zB hb)
      (try clear hb)
      (try clear hb2)
      (try clear hk)
      (try clear hi)
      refine hK.out _ _ ⟨(au fQ.out 0).trans rfl,(au fQ.out 1).trans rfl,(au fM.out 0).trans rfl,(au fM.out 1).trans rfl⟩ (fun hHeld => ?_);clear hK K;refine yK (a' := ?_) ?_ ?_;rotate_left
      ·show Act.put _ (some 22) _=_
       simp only [Act.put,List.setIfInBounds_toArray,List.set_cons_zero,List.set_cons_succ,bP,bU];rfl
      refine ajz (i:=5) (N:=none) #[true,true,true,true,true,true] rfl rfl (by kernel_rfl) (by decide) (fun K hK => ?_);have aIG:w37.cell? ⟨uy,0,none⟩=some (.int .u64 oK):=(au fQ.out 0).trans rfl;have aGo:=aI fQ.out 0;have aEA:=uX.out;have aEB:=pK.out;have aEC:=rW.out;have aED:=uY.out;have aEE:=nG.out;have aEF:=sW.out;have aIH:w37.cell? ⟨uy,1,none⟩=some (.int .u64 mF):=(au fQ.out 1).trans rfl;have aGp:=aI fQ.out 1;have aEG:=uX.out;have aEH:=pK.out;have aEI:=rW.out;have aEJ:=uY.out;have aEK:=nG.out;have aEL:=sW.out;refine ahK (w1 := ?_) (by rfl) rfl ?_ ?_;rotate_left
      ·go_simp
       rfl
      refine hK.out _ _ ?_;clear hK K;refine afj (by kernel_rfl) ?_;have awY:=acH.out;have awZ:=acG.out;have aw0:=rV.out;have aw1:=zx.out;have aBk:=rW.out;have aBl:=sW.out;obtain ⟨_,_⟩:=zC2 iH.out;obtain ⟨_,_⟩:=zF2 iH.out;try go_wp2_with (first|((with_reducible refine ay (f:=119) rfl ?_);refine aH (some 24) rfl rfl Tryz.func119 (by kernel_rfl) rfl #[.agg #[.int .u64 qK,.int .u64 pO],.int .u64 0] rfl zL ?_;(with_reducible refine (dS.calls qK pO 0 afE aiR _ A32.out).mono ?_);rintro e w44 ⟨rfl,hb⟩;refine ⟨_,rfl,?_⟩;obtain ⟨fM,iO,iH,fQ,HB⟩:=zA5 (aA (zK fM) hb) (aA (zK iO) hb) (aA (zK iH) hb) (aA (g:=uy) (o := .cells #[.int .u64 abD,.int .u64 ab9] 179 (0,0)) (by refine zD ?_;refine bg (cs := #[.int .u64 abD,.int .u64 mF]) ?_ 1 _ rfl;refine zD ?_;refine bg (cs := #[.int .u64 oK,.int .u64 mF]) ?_ 0 _ rfl;refine zD ?_;exact fQ.out) hb) (ak zB hb);(try clear hb);obtain ⟨_,_⟩:=zC2 iH.out;obtain ⟨_,_⟩:=zF2 iH.out;have aw2:=uY.out;have aw3:=uX.out;have aBm:=nG.out;have aBn:=pK.out;obtain ⟨_,_⟩:=zC2 fQ.out;obtain ⟨_,_⟩:=zF2 fQ.out)|((with_reducible refine ay (f:=123) rfl ?_);refine aH (some 28) rfl rfl Tryz.func123 (by kernel_rfl) rfl #[.agg #[.int .u64 abD,.int .u64 ab9],.agg #[.int .u64 0,.int .u64 a1]] rfl zL ?_;(with_reducible refine (iV.calls abD ab9 0 a1 true _ A33.out).mono ?_);rintro e w49 ⟨rfl,hb⟩;refine ⟨_,rfl,?_⟩;obtain ⟨fM,iO,iH,fQ,HB⟩:=zA5 (aA (zK fM) hb) (aA (zK iO) hb) (aA (g:=wC) (o := .cells #[.int .u64 afE,.int .u64 aiR] 179 (0,0)) (by refine zD ?_;refine bg (cs := #[.int .u64 afE,.int .u64 pO]) ?_ 1 _ rfl;refine zD ?_;refine bg (cs := #[.int .u64 qK,.int .u64 pO]) ?_ 0 _ rfl;refine zD ?_;exact iH.out) hb) (aA (zK fQ) hb) (ak zB hb);(try clear hb)))
      go_roundg k1
      case measure=>have:=HK1.out;omega
      case rel=>exact ⟨(wrap64 (iT - 1)),(afE),(aiR),(abD),(ab9),zT,H',⟨by have:=HK1.out;omega⟩,⟨zK fM⟩,⟨zK iO⟩,⟨zK iH⟩,⟨zK fQ⟩,⟨zB⟩⟩
     ·replace c34:=Bool.eq_false_iff.mpr c34;subst c34;rw [if_neg (show ¬ (false=true) by decide)] at H;(try dsimp only at H);replace H:=zO H;obtain ⟨⟨auu,aza⟩,A50,H⟩:=H;try dsimp only at H
      have H':=aj.mk H;clear H;try go_wp2
      obtain ⟨fM,iO,iH,fQ,HB⟩:=zA5 (jP fM.out) (jP iO.out) (jP iH.out) (jP fQ.out) (bC HB.out);refine adC (n:=6) (S:=fun w'=>w'.cell? ⟨uy,0,none⟩=some (.int .u64 oK)/\w'.cell? ⟨uy,1,none⟩=some (.int .u64 mF)/\w'.cell? ⟨ah0,0,none⟩=some (.int .u64 aU)/\w'.cell? ⟨ah0,1,none⟩=some (.int .u64 bf)) (ds:=[5]) #[false,false,false,false,false,false] (by kernel_rfl) rfl rfl ⟨(au fQ.out 0).trans rfl,(au fQ.out 1).trans rfl,(au fM.out 0).trans rfl,(au fM.out 1).trans rfl⟩ (fun hHeld => ?_);generalize wr.drew=w51 at fM iO iH fQ HB hHeld ⊢;refine uj (i:=2) (N:=some 20) (v := ?_) (a' := ?_) #[false,false,true,false,false,false] rfl rfl (by kernel_rfl) (fun _ _ _ h=>h) (Or.inl ⟨by rfl,?_⟩) ?_ ?_;rotate_left
      ·intro w';go_simp
       with_reducible rfl
      rotate_left
      ·simp only [Act.put,List.setIfInBounds_toArray,List.set_cons_zero,List.set_cons_succ,bP,bU];rfl
      refine xO (i:=0) (N:=some 18) (v := ?_) (a' := ?_) #[true,false,true,false,false,false] rfl rfl (by kernel_rfl) (fun _ _ _ h=>h) (Or.inl ⟨by rfl,?_⟩) hHeld ?_ ?_;rotate_left
      ·rintro w' ⟨s0,s1,s2,s3⟩;go_simp
       with_reducible rfl
      rotate_left
      ·simp only [Act.put,List.setIfInBounds_toArray,List.set_cons_zero,List.set_cons_succ,bP,bU];rfl
      refine xO (i:=1) (N:=some 19) (v := ?_) (a' := ?_) #[true,true,true,false,false,false] rfl rfl (by kernel_rfl) (fun _ _ _ h=>h) (Or.inl ⟨by rfl,?_⟩) hHeld ?_ ?_;rotate_left
      ·rintro w' ⟨s0,s1,s2,s3⟩;go_simp
       with_reducible rfl
      rotate_left
      ·simp only [Act.put,List.setIfInBounds_toArray,List.set_cons_zero,List.set_cons_succ,bP,bU];rfl
      refine aaP (i:=3) (N:=some 21) #[true,true,true,true,false,false] rfl rfl (by kernel_rfl) (by decide) (fun K hK => ?_);refine aaF Tryz.func121 (by kernel_rfl) rfl #[.agg #[.int .u64 aU,.int .u64 bf],.int .i64 iT] (by rfl) rfl rfl zL ?_;with_reducible refine (fV.calls aU bf iT ag3 _ A30.out).mono ?_
      rintro e w52 ⟨rfl,hb⟩;refine ⟨_,rfl,?_⟩;obtain ⟨fM,iO,iH,fQ,HB⟩:=zA5 (aA (zK fM) hb) (aA (zK iO) hb) (aA (zK iH) hb) (aA (zK fQ) hb) (ak zB hb)
      (try clear hb)
      (try clear hb2)
      (try clear hk)
      (try clear hi)
      refine hK.out _ _ ⟨(au fQ.out 0).trans rfl,(au fQ.out 1).trans rfl,(au fM.out 0).trans rfl,(au fM.out 1).trans rfl⟩ (fun hHeld => ?_);clear hK K;refine yK (a' := ?_) ?_ ?_;rotate_left
      ·show Act.put _ (some 21) _=_
       simp only [Act.put,List.setIfInBounds_toArray,List.set_cons_zero,List.set_cons_succ,bP,bU];rfl
      refine aaP (i:=4) (N:=some 22) #[true,true,true,true,true,false] rfl rfl (by kernel_rfl) (by decide) (fun K hK => ?_);refine aaF Tryz.func119 (by kernel_rfl) rfl #[.agg #[.int .u64 oK,.int .u64 mF],.int .u64 ag3] (by rfl) rfl rfl zL ?_;with_reducible refine (dS.calls oK mF ag3 abD ab9 _ A31.out).mono ?_
      rintro e w53 ⟨rfl,hb⟩;refine ⟨_,rfl,?_⟩;obtain ⟨fM,iO,iH,fQ,HB⟩:=zA5 (aA (zK fM) hb) (aA (zK iO) hb) (aA (zK iH) hb) (aA (zK fQ) hb) (ak zB hb)
      (try clear hb)
      (try clear hb2)
      (try clear hk)
      (try clear hi)
      refine hK.out _ _ ⟨(au fQ.out 0).trans rfl,(au fQ.out 1).trans rfl,(au fM.out 0).trans rfl,(au fM.out 1).trans rfl⟩ (fun hHeld => ?_);clear hK K;refine yK (a' := ?_) ?_ ?_;rotate_left
      ·show Act.put _ (some 22) _=_
       simp only [Act.put,List.setIfInBounds_toArray,List.set_cons_zero,List.set_cons_succ,bP,bU];rfl
      refine ajz (i:=5) (N:=none) #[true,true,true,true,true,true] rfl rfl (by kernel_rfl) (by decide) (fun K hK => ?_);have aII:w53.cell? ⟨uy,0,none⟩=some (.int .u64 oK):=(au fQ.out 0).trans rfl;have aGq:=aI fQ.out 0;have aEM:=uX.out;have aEN:=pK.out;have aEO:=rW.out;have aEP:=uY.out;have aEQ:=nG.out;have aER:=sW.out;have aIJ:w53.cell? ⟨uy,1,none⟩=some (.int .u64 mF):=(au fQ.out 1).trans rfl;have aGr:=aI fQ.out 1;have aES:=uX.out;have aET:=pK.out;have aEU:=rW.out;have aEV:=uY.out;have aEW:=nG.out;have aEX:=sW.out;refine ahK (w1 := ?_) (by rfl) rfl ?_ ?_;rotate_left
      ·go_simp
       rfl
      refine hK.out _ _ ?_;clear hK K;refine afj (by kernel_rfl) ?_;have aGs:=acH.out;have aGt:=acG.out;have aGu:=rV.out;have aGv:=zx.out;have aBo:=rW.out;have aBp:=sW.out;obtain ⟨_,_⟩:=zC2 iH.out;obtain ⟨_,_⟩:=zF2 iH.out;try go_wp2_with (first|((with_reducible refine ay (f:=119) rfl ?_);refine aH (some 24) rfl rfl Tryz.func119 (by kernel_rfl) rfl #[.agg #[.int .u64 qK,.int .u64 pO],.int .u64 0] rfl zL ?_;(with_reducible refine (dS.calls qK pO 0 afE aiR _ A32.out).mono ?_);rintro e w60 ⟨rfl,hb⟩;refine ⟨_,rfl,?_⟩;obtain ⟨fM,iO,iH,fQ,HB⟩:=zA5 (aA (zK fM) hb) (aA (zK iO) hb) (aA (zK iH) hb) (aA (g:=uy) (o := .cells #[.int .u64 abD,.int .u64 ab9] 179 (0,0)) (by refine zD ?_;refine bg (cs := #[.int .u64 abD,.int .u64 mF]) ?_ 1 _ rfl;refine zD ?_;refine bg (cs := #[.int .u64 oK,.int .u64 mF]) ?_ 0 _ rfl;refine zD ?_;exact fQ.out) hb) (ak zB hb);(try clear hb);obtain ⟨_,_⟩:=zC2 iH.out;obtain ⟨_,_⟩:=zF2 iH.out;have aBq:=uY.out;have aBr:=uX.out;have aBs:=nG.out;have aBt:=pK.out;obtain ⟨_,_⟩:=zC2 fQ.out;obtain ⟨_,_⟩:=zF2 fQ.out)|((with_reducible refine ay (f:=123) rfl ?_);refine aH (some 28) rfl rfl Tryz.func123 (by kernel_rfl) rfl #[.agg #[.int .u64 abD,.int .u64 ab9],.agg #[.int .u64 0,.int .u64 a1]] rfl zL ?_;(with_reducible refine (iV.calls abD ab9 0 a1 false _ A33.out).mono ?_);rintro e w65 ⟨rfl,hb⟩;refine ⟨_,rfl,?_⟩;obtain ⟨fM,iO,iH,fQ,HB⟩:=zA5 (aA (zK fM) hb) (aA (zK iO) hb) (aA (g:=wC) (o := .cells #[.int .u64 afE,.int .u64 aiR] 179 (0,0)) (by refine zD ?_;refine bg (cs := #[.int .u64 afE,.int .u64 pO]) ?_ 1 _ rfl;refine zD ?_;refine bg (cs := #[.int .u64 qK,.int .u64 pO]) ?_ 0 _ rfl;refine zD ?_;exact iH.out) hb) (aA (zK fQ) hb) (ak zB hb);(try clear hb);obtain ⟨_,_⟩:=zC2 fQ.out;obtain ⟨_,_⟩:=zF2 fQ.out)|((with_reducible refine ay (f:=122) rfl ?_);refine aH (some 33) rfl rfl Tryz.func122 (by kernel_rfl) rfl #[.agg #[.int .u64 abD,.int .u64 ab9],.agg #[.int .u64 0,.int .u64 a1]] rfl zL ?_;(with_reducible refine (lH.calls abD ab9 0 a1 auu aza _ A50.out).mono ?_);rintro e w67 ⟨rfl,hb⟩;refine ⟨_,rfl,?_⟩;obtain ⟨fM,iO,iH,fQ,HB⟩:=zA5 (aA (zK fM) hb) (aA (zK iO) hb) (aA (zK iH) hb) (aA (zK fQ) hb) (ak zB hb);(try clear hb);obtain ⟨_,_⟩:=zC2 fQ.out;obtain ⟨_,_⟩:=zF2 fQ.out;obtain ⟨_,_⟩:=zC2 iH.out;obtain ⟨_,_⟩:=zF2 iH.out))
      go_roundg k1
      case measure=>have:=HK1.out;omega
      case rel=>exact ⟨(wrap64 (iT - 1)),(afE),(IntKind.u64.wrap (aiR+1)),(auu),(aza),zT,H',⟨by have:=HK1.out;omega⟩,⟨zK fM⟩,⟨zK iO⟩,⟨by refine zD ?_;refine bg (cs := #[.int .u64 afE,.int .u64 aiR]) ?_ 1 _ rfl;refine zD ?_;refine jV ?_ rW.out _;refine zD ?_;refine jV ?_ rW.out _;refine zD ?_;exact iH.out⟩,⟨by refine zD ?_;refine jV ?_ sW.out _;refine zD ?_;refine bg (cs := #[.int .u64 auu,.int .u64 ab9]) ?_ 1 _ rfl;refine zD ?_;refine bg (cs := #[.int .u64 abD,.int .u64 ab9]) ?_ 0 _ rfl;refine zD ?_;exact fQ.out⟩,⟨zB⟩⟩
    ·rw [if_neg c29] at H;have aro:=decide_eq_false c29;clear c29;simp only [Option.some.injEq,Prod.mk.injEq] at H;obtain ⟨rfl,rfl,rfl⟩:=H;try go_wp2
     obtain ⟨fM,iO,iH,fQ,HB⟩:=zA5 (jP fM.out) (jP iO.out) (jP iH.out) (jP fQ.out) (bC HB.out);refine adC (n:=5) (S:=fun w'=>w'.cell? ⟨wC,0,none⟩=some (.int .u64 qK)/\w'.cell? ⟨wC,1,none⟩=some (.int .u64 pO)/\w'.cell? ⟨uy,0,none⟩=some (.int .u64 oK)/\w'.cell? ⟨uy,1,none⟩=some (.int .u64 mF)) (ds:=[]) #[false,false,false,false,false] (by kernel_rfl) rfl rfl ⟨(au iH.out 0).trans rfl,(au iH.out 1).trans rfl,(au fQ.out 0).trans rfl,(au fQ.out 1).trans rfl⟩ (fun hHeld => ?_);generalize wr.drew=w70 at fM iO iH fQ HB hHeld ⊢;refine uj (i:=1) (N:=some 39) (v := ?_) (a' := ?_) #[false,true,false,false,false] rfl rfl (by kernel_rfl) (fun _ _ _ h=>h) (Or.inl ⟨by rfl,?_⟩) ?_ ?_;rotate_left
     ·intro w';go_simp
      with_reducible rfl
     rotate_left
     ·simp only [Act.put,List.setIfInBounds_toArray,List.set_cons_zero,List.set_cons_succ,bP,bU];rfl
     refine xO (i:=0) (N:=some 38) (v := ?_) (a' := ?_) #[true,true,false,false,false] rfl rfl (by kernel_rfl) (fun _ _ _ h=>h) (Or.inl ⟨by rfl,?_⟩) hHeld ?_ ?_;rotate_left
     ·rintro w' ⟨s0,s1,s2,s3⟩;go_simp
      with_reducible rfl
     rotate_left
     ·simp only [Act.put,List.setIfInBounds_toArray,List.set_cons_zero,List.set_cons_succ,bP,bU];rfl
     refine xO (i:=2) (N:=some 40) (v := ?_) (a' := ?_) #[true,true,true,false,false] rfl rfl (by kernel_rfl) (fun _ _ _ h=>h) (Or.inl ⟨by rfl,?_⟩) hHeld ?_ ?_;rotate_left
     ·rintro w' ⟨s0,s1,s2,s3⟩;go_simp
      with_reducible rfl
     rotate_left
     ·simp only [Act.put,List.setIfInBounds_toArray,List.set_cons_zero,List.set_cons_succ,bP,bU];rfl
     refine aaP (i:=3) (N:=none) #[true,true,true,true,false] rfl rfl (by kernel_rfl) (by decide) (fun K hK => ?_);have aIK:w70.cell? ⟨yR,0,none⟩=some (.int .u64 0):=(au iO.out 0).trans rfl;have aGw:=aI iO.out 0;have aEY:=aen.out;have aEZ:=rV.out;have aE0:=nG.out;have aE1:=aeo.out;have aE2:=zx.out;have aE3:=pK.out;have aIL:w70.cell? ⟨yR,1,none⟩=some (.int .u64 0):=(au iO.out 1).trans rfl;have aGx:=aI iO.out 1;have aE4:=aen.out;have aE5:=rV.out;have aE6:=nG.out;have aE7:=aeo.out;have aE8:=zx.out;have aE9:=pK.out;refine ahK (w1 := ?_) (by rfl) rfl ?_ ?_;rotate_left
     ·go_simp
      rfl
     refine hK.out _ _ ⟨((cell_far (p:=⟨yR,_,none⟩) rV.out _).trans (((cell_far (p:=⟨yR,_,none⟩) rV.out _).trans (hHeld.1)))),((cell_far (p:=⟨yR,_,none⟩) rV.out _).trans (((cell_far (p:=⟨yR,_,none⟩) rV.out _).trans (hHeld.2.1)))),((cell_far (p:=⟨yR,_,none⟩) nG.out _).trans (((cell_far (p:=⟨yR,_,none⟩) nG.out _).trans (hHeld.2.2.1)))),((cell_far (p:=⟨yR,_,none⟩) nG.out _).trans (((cell_far (p:=⟨yR,_,none⟩) nG.out _).trans (hHeld.2.2.2))))⟩ (fun hHeld => ?_);clear hK K;refine uj (i:=4) (N:=some 5) (v := ?_) (a' := ?_) #[true,true,true,true,true] rfl rfl (by kernel_rfl) (fun _ _ _ h=>h) (Or.inl ⟨by rfl,?_⟩) ?_ ?_;rotate_left
     ·intro w';go_simp
      with_reducible rfl
     rotate_left
     ·simp only [Act.put,List.setIfInBounds_toArray,List.set_cons_zero,List.set_cons_succ,bP,bU];rfl
     refine afj (by kernel_rfl) ?_;try go_wp2
     refine bodyPost_ret (ajA rfl _ _ yR 179 #[.int .u64 qK,.int .u64 pO] (0,0) _ rfl (by refine zD ?_;refine bg (cs := #[.int .u64 qK,.int .u64 0]) ?_ 1 _ rfl;refine zD ?_;refine bg (cs := #[.int .u64 0,.int .u64 0]) ?_ 0 _ rfl;refine zD ?_;exact iO.out) Tryz.underlying179 rfl (by kernel_rfl)) rfl ?_;exact ⟨zS,zB⟩
def iP.j0:Nat->Bool->Bool->Int->Int->Option (Int)
 | 0,_,_,_,_=>none
 | k+1,x2,x10,aqh,aqi=>if x10=true then ((iL.f aqh aqi 0 1).bind fun aw4=>((cZ.f k aw4.1 aw4.2 x2).bind fun auv=>(some auv))) else ((cZ.f k aqh aqi x2).bind fun auw=>(some auw))
def iP.f (k:Nat) (aU bf a1:Int) (a2:Bool):Option (Int):=(fP.f k aU bf a1).bind fun ajW=>((dS.f 0 ajW.2.2 0).bind fun ane=>((iV.f ane.1 ane.2 0 a1).bind fun arp=>(if a2=true then ((iV.f 0 a1 ane.1 ane.2).bind fun arq=>(iP.j0 k a2 arq ajW.1 ajW.2.1)) else (iP.j0 k a2 (!arp) ajW.1 ajW.2.1))))
theorem iP.calls (k:Nat) (aU bf a1:Int) (a2:Bool) (r:Int) (w:World) (h:iP.f k aU bf a1 a2=some r) :
  Calls Tryz.prog 149 #[.agg #[.int .u64 aU,.int .u64 bf],.int .u64 a1,.bool a2] w fun e w'=>e = .returned (.int .i64 r)/\Below w.heap.size w w':=by
 have aaJ:=Tryz.underlying179;have HB:=aj.mk (Below.refl w.heap.size w);have H:=h;clear h;unfold iP.f at H;replace H:=zO H;obtain ⟨⟨aeN,aeO,auy⟩,A4,H⟩:=H;try dsimp only at H
 replace H:=zO H;obtain ⟨⟨ag4,aiS⟩,A5,H⟩:=H;try dsimp only at H
 replace H:=zO H;obtain ⟨arp,A6,H⟩:=H;try dsimp only at H
 have HC7:=aj.mk H;clear H;go_enter Tryz.func149,Tryz.ntmps149;go_upto_if 25 with (first|((with_reducible refine aZ (N:=3) rfl ?_);refine aX zR (N:=3) zR (cs := #[.int .u64 aU,.int .u64 bf]) (t:=179) zG ?_;intro aBu hg w8 hbox hb;obtain ⟨HB,nP,aGy,aGz⟩:=zA4 (ak zB hb) hbox (zg hg zB) (zg hg zB);clear hb hbox hg;obtain ⟨_,_⟩:=zC2 nP.out;obtain ⟨_,_⟩:=zF2 nP.out)|((with_reducible refine ay (f:=172) rfl ?_);refine aH (some 14) rfl rfl Tryz.func172 (by kernel_rfl) rfl #[.agg #[.int .u64 aU,.int .u64 bf],.int .u64 a1] rfl zL ?_;(with_reducible refine (fP.calls k aU bf a1 aeN aeO auy _ A4.out).mono ?_);rintro e w10 ⟨rfl,hb⟩;refine ⟨_,rfl,?_⟩;obtain ⟨nP,HB⟩:=zA2 (aA (zK nP) hb) (ak zB hb);(try clear hb))|((with_reducible refine aZ (N:=7) rfl ?_);refine aX zR (N:=7) zR (cs := #[.int .u64 0,.int .u64 0]) (t:=179) zG ?_;intro ars hg w11 hbox hb;obtain ⟨nP,HB,nR,aGA,aGB,ag5,ag6⟩:=zA7 (aA (zK nP) hb) (ak zB hb) hbox (zg hg zB) (zg hg zB) (zl hg (zK nP)) (zr hg (zK nP));clear hb hbox hg;have awW:=ag6.out;have awX:=ag5.out;obtain ⟨_,_⟩:=zC2 nR.out;obtain ⟨_,_⟩:=zF2 nR.out)|((with_reducible refine ay (f:=119) rfl ?_);refine aH (some 19) rfl rfl Tryz.func119 (by kernel_rfl) rfl #[.agg #[.int .u64 0,.int .u64 auy],.int .u64 0] rfl zL ?_;(with_reducible refine (dS.calls 0 auy 0 ag4 aiS _ A5.out).mono ?_);rintro e w14 ⟨rfl,hb⟩;refine ⟨_,rfl,?_⟩;obtain ⟨nP,nR,HB⟩:=zA3 (aA (zK nP) hb) (aA (g:=ars) (o := .cells #[.int .u64 aeN,.int .u64 aeO] 179 (0,0)) (by refine zD ?_;refine bg (cs := #[.int .u64 aeN,.int .u64 0]) ?_ 1 _ rfl;refine zD ?_;refine bg (cs := #[.int .u64 0,.int .u64 0]) ?_ 0 _ rfl;refine zD ?_;exact nR.out) hb) (ak zB hb);(try clear hb))|((with_reducible refine aZ (N:=9) rfl ?_);refine aX zR (N:=9) zR (cs := #[.int .u64 0,.int .u64 0]) (t:=179) zG ?_;intro aw5 hg w15 hbox hb;obtain ⟨nP,nR,HB,uZ,aGC,aGD,amn,amo,aep,aer⟩:=afn (aA (zK nP) hb) (aA (zK nR) hb) (ak zB hb) hbox (zg hg zB) (zg hg zB) (zl hg (zK nP)) (zr hg (zK nP)) (zl hg (zK nR)) (zr hg (zK nR));clear hb hbox hg;have aBi:=amo.out;have aBj:=amn.out;have aBv:=aer.out;have aBw:=aep.out;obtain ⟨_,_⟩:=zC2 uZ.out;obtain ⟨_,_⟩:=zF2 uZ.out)|((with_reducible refine ay (f:=123) rfl ?_);refine aH (some 23) rfl rfl Tryz.func123 (by kernel_rfl) rfl #[.agg #[.int .u64 ag4,.int .u64 aiS],.agg #[.int .u64 0,.int .u64 a1]] rfl zL ?_;(with_reducible refine (iV.calls ag4 aiS 0 a1 arp _ A6.out).mono ?_);rintro e w19 ⟨rfl,hb⟩;refine ⟨_,rfl,?_⟩;obtain ⟨nP,nR,uZ,HB⟩:=zA4 (aA (zK nP) hb) (aA (zK nR) hb) (aA (g:=aw5) (o := .cells #[.int .u64 ag4,.int .u64 aiS] 179 (0,0)) (by refine zD ?_;refine bg (cs := #[.int .u64 ag4,.int .u64 0]) ?_ 1 _ rfl;refine zD ?_;refine bg (cs := #[.int .u64 0,.int .u64 0]) ?_ 0 _ rfl;refine zD ?_;exact uZ.out) hb) (ak zB hb);(try clear hb)))
 (try simp only [Act.put,List.setIfInBounds_toArray,List.set_cons_zero,List.set_cons_succ])
 go_cut [10] (fun v10 wc=>∃ (kq:Nat) (anf:Bool),v10 = .bool anf/\aj (iP.j0 kq a2 anf aeN aeO=some r)/\aj (kq<=k)/\aj (wc.heap[aBu]? = some (.cells #[.int .u64 aU,.int .u64 bf] 179 (0,0)))/\aj (wc.heap[ars]? = some (.cells #[.int .u64 aeN,.int .u64 aeO] 179 (0,0)))/\aj (wc.heap[aw5]? = some (.cells #[.int .u64 ag4,.int .u64 aiS] 179 (0,0)))/\aj (Below w.heap.size w wc))
 case first =>
  have H:=HC7.out;clear HC7;by_cases c20:a2=true
  ·subst c20;rw [if_pos rfl] at H;(try dsimp only at H);replace H:=zO H;obtain ⟨arq,A21,H⟩:=H;try dsimp only at H
   have H':=aj.mk H;clear H;have awQ:=amo.out;have awR:=amn.out;have am6:=aer.out;have am7:=aep.out;obtain ⟨_,_⟩:=zC2 uZ.out;obtain ⟨_,_⟩:=zF2 uZ.out;go_wp2_with (first|((with_reducible refine ay (f:=123) rfl ?_);refine aH (some 29) rfl rfl Tryz.func123 (by kernel_rfl) rfl #[.agg #[.int .u64 0,.int .u64 a1],.agg #[.int .u64 ag4,.int .u64 aiS]] rfl zL ?_;(with_reducible refine (iV.calls 0 a1 ag4 aiS arq _ A21.out).mono ?_);rintro e w25 ⟨rfl,hb⟩;refine ⟨_,rfl,?_⟩;obtain ⟨nP,nR,uZ,HB⟩:=zA4 (aA (zK nP) hb) (aA (zK nR) hb) (aA (zK uZ) hb) (ak zB hb);(try clear hb)));go_meet
   case rel=>exact ⟨_,(arq),zT,H',⟨by first|omega|exact Nat.le_refl _⟩,⟨zK nP⟩,⟨zK nR⟩,⟨zK uZ⟩,⟨zB⟩⟩
  ·replace c20:=Bool.eq_false_iff.mpr c20;subst c20;rw [if_neg (show ¬ (false=true) by decide)] at H;(try dsimp only at H);have H':=aj.mk H;clear H;go_wp2;go_meet
   case rel=>exact ⟨_,(!arp),zT,H',⟨by first|omega|exact Nat.le_refl _⟩,⟨zK nP⟩,⟨zK nR⟩,⟨zK uZ⟩,⟨zB⟩⟩
 case rest =>
  clear HC7;obtain ⟨kq,anf,rfl,HA,HJ6,nP,nR,uZ,HB⟩:=hcut;cases kq with
  | zero=>exact absurd HA.out (by simp [iP.j0])
  | succ kj6 =>
   have H:=HA.out;clear HA;simp only [iP.j0] at H;by_cases c26:anf=true
   ·subst c26;rw [if_pos rfl] at H;(try dsimp only at H);replace H:=zO H;obtain ⟨⟨aop,aru⟩,A27,H⟩:=H;try dsimp only at H
    replace H:=zO H;obtain ⟨auv,A28,H⟩:=H;try dsimp only at H
    obtain rfl:=Option.some.inj H;have ari:=ag6.out;have arj:=ag5.out;have am8:=aep.out;have am9:=aer.out;obtain ⟨_,_⟩:=zC2 nR.out;obtain ⟨_,_⟩:=zF2 nR.out;go_wp2_with (first|((with_reducible refine ay (f:=124) rfl ?_);refine aH (some 33) rfl rfl Tryz.func124 (by kernel_rfl) rfl #[.agg #[.int .u64 aeN,.int .u64 aeO],.agg #[.int .u64 0,.int .u64 1]] rfl zL ?_;(with_reducible refine (iL.calls aeN aeO 0 1 aop aru _ A27.out).mono ?_);rintro e w32 ⟨rfl,hb⟩;refine ⟨_,rfl,?_⟩;obtain ⟨nP,nR,uZ,HB⟩:=zA4 (aA (zK nP) hb) (aA (zK nR) hb) (aA (zK uZ) hb) (ak zB hb);(try clear hb);obtain ⟨_,_⟩:=zC2 nR.out;obtain ⟨_,_⟩:=zF2 nR.out)|((with_reducible refine ay (f:=125) rfl ?_);refine aH (some 36) rfl rfl Tryz.func125 (by kernel_rfl) rfl #[.agg #[.int .u64 aop,.int .u64 aru],.bool a2] rfl zL ?_;(with_reducible refine (cZ.calls kj6 aop aru a2 auv _ A28.out).mono ?_);rintro e w34 ⟨rfl,hb⟩;refine ⟨_,rfl,?_⟩;obtain ⟨nP,nR,uZ,HB⟩:=zA4 (aA (zK nP) hb) (aA (g:=ars) (o := .cells #[.int .u64 aop,.int .u64 aru] 179 (0,0)) (by refine zD ?_;refine bg (cs := #[.int .u64 aop,.int .u64 aeO]) ?_ 1 _ rfl;refine zD ?_;refine bg (cs := #[.int .u64 aeN,.int .u64 aeO]) ?_ 0 _ rfl;refine zD ?_;exact nR.out) hb) (aA (zK uZ) hb) (ak zB hb);(try clear hb)));go_ret;exact ⟨zS,zB⟩
   ·replace c26:=Bool.eq_false_iff.mpr c26;subst c26;rw [if_neg (show ¬ (false=true) by decide)] at H;(try dsimp only at H);replace H:=zO H;obtain ⟨auw,A35,H⟩:=H;try dsimp only at H
    obtain rfl:=Option.some.inj H;have aGE:=ag6.out;have aGF:=ag5.out;have aBx:=aep.out;have aBy:=aer.out;obtain ⟨_,_⟩:=zC2 nR.out;obtain ⟨_,_⟩:=zF2 nR.out;go_wp2_with (first|((with_reducible refine ay (f:=125) rfl ?_);refine aH (some 36) rfl rfl Tryz.func125 (by kernel_rfl) rfl #[.agg #[.int .u64 aeN,.int .u64 aeO],.bool a2] rfl zL ?_;(with_reducible refine (cZ.calls kj6 aeN aeO a2 auw _ A35.out).mono ?_);rintro e w39 ⟨rfl,hb⟩;refine ⟨_,rfl,?_⟩;obtain ⟨nP,nR,uZ,HB⟩:=zA4 (aA (zK nP) hb) (aA (zK nR) hb) (aA (zK uZ) hb) (ak zB hb);(try clear hb)));go_ret;exact ⟨zS,zB⟩
def bF.f (k:Nat) (a0 a1 a2:Int):Option (Int):=if a2=0 then (some 0) else ((dW.f a0).bind fun aoq=>((dW.f a1).bind fun aor=>((eG.f k aoq aor).bind fun aw6=>((dW.f a2).bind fun aos=>((iP.f k aw6.1 aw6.2 aos (((decide (a0 < 0)) != (decide (a1 < 0))) != (decide (a2 < 0)))).bind fun auz=>(some auz))))))
def bF.T5:Bool × List (List Nat × List Nat):=(true,[([],[]),([],[]),([1],[1]),([],[]),([],[]),([4],[4]),([3,5],[3,5]),([0,2,6,2],[0,2,6]),([7,7,0,1,2,3,4,5,6,7],[7])])
def bF.B5:List Nat:=[0,0,2,0,0,16,56,127,255]
theorem bF.aDi:uz .any (opsOf Tryz.f118 5)=bF.T5:=by kernel_rfl
theorem bF.aBz:adt bF.T5.2 bF.B5=true:=by kernel_rfl
theorem bF.calls (k:Nat) (a0 a1 a2 r:Int) (w:World) (h:bF.f k a0 a1 a2=some r) :
  Calls Tryz.prog 118 #[.int .i64 a0,.int .i64 a1,.int .i64 a2] w fun e w'=>e = .returned (.int .i64 r)/\Below w.heap.size w w':=by
 have aaJ:=Tryz.underlying179;have HB:=aj.mk (Below.refl w.heap.size w);have H:=h;clear h;unfold bF.f at H;by_cases c4:a2=0
 ·rw [if_pos c4] at H;have fH:(a2 == 0)=true:=beq_iff_eq.mpr c4;have aaS:(a2 != 0)=false:=bne_eq_false_iff_eq.mpr c4;clear c4;obtain rfl:=Option.some.inj H;go_enter Tryz.func118,Tryz.ntmps118;go_wp2;go_ret;exact ⟨zS,zB⟩
 ·rw [if_neg c4] at H;have fH:(a2 == 0)=false:=beq_eq_false_iff_ne.mpr c4;have aaS:(a2 != 0)=true:=bne_iff_ne.mpr c4;replace H:=zO H;obtain ⟨aoq,A5,H⟩:=H;try dsimp only at H
  replace H:=zO H;obtain ⟨aor,A6,H⟩:=H;try dsimp only at H
  replace H:=zO H;obtain ⟨⟨afF,ag7⟩,A7,H⟩:=H;try dsimp only at H
  replace H:=zO H;obtain ⟨aos,A8,H⟩:=H;try dsimp only at H
  replace H:=zO H;obtain ⟨auz,A9,H⟩:=H;try dsimp only at H
  obtain rfl:=Option.some.inj H;go_enter Tryz.func118,Tryz.ntmps118;try go_wp2_with (first|((with_reducible refine ay (f:=120) rfl ?_);refine aH (some 12) rfl rfl Tryz.func120 (by kernel_rfl) rfl #[.int .i64 a0] rfl zL ?_;(with_reducible refine (dW.calls a0 aoq _ A5.out).mono ?_);rintro e w' ⟨rfl,⟨nd,rfl⟩⟩;refine ⟨_,rfl,?_⟩)|((with_reducible refine ay (f:=120) rfl ?_);refine aH (some 14) rfl rfl Tryz.func120 (by kernel_rfl) rfl #[.int .i64 a1] rfl zL ?_;(with_reducible refine (dW.calls a1 aor _ A6.out).mono ?_);rintro e w' ⟨rfl,⟨nd,rfl⟩⟩;refine ⟨_,rfl,?_⟩)|((with_reducible refine ay (f:=148) rfl ?_);refine aH (some 15) rfl rfl Tryz.func148 (by kernel_rfl) rfl #[.int .u64 aoq,.int .u64 aor] rfl zL ?_;(with_reducible refine (eG.calls k aoq aor afF ag7 _ A7.out).mono ?_);rintro e w10 ⟨rfl,hb⟩;refine ⟨_,rfl,?_⟩;replace HB:=aj.mk (ak zB hb);(try clear hb))|((with_reducible refine aZ (N:=7) rfl ?_);refine aX zR (N:=7) zR (cs := #[.int .u64 0,.int .u64 0]) (t:=179) zG ?_;intro ada hg w11 hbox hb;obtain ⟨HB,wI,aGG,aGH⟩:=zA4 (ak zB hb) hbox (zg hg zB) (zg hg zB);clear hb hbox hg;obtain ⟨_,_⟩:=zC2 wI.out;obtain ⟨_,_⟩:=zF2 wI.out))
  have n0_:aj (((w11.setCell ⟨ada,0,none⟩ (.int .u64 afF)).setCell ⟨ada,1,none⟩ (.int .u64 ag7)).heap[ada]? = some (.cells #[.int .u64 afF,.int .u64 ag7] 179 (0,0))):=⟨by refine zD ?_;refine bg (cs := #[.int .u64 afF,.int .u64 0]) ?_ 1 _ rfl;refine zD ?_;refine bg (cs := #[.int .u64 0,.int .u64 0]) ?_ 0 _ rfl;refine zD ?_;exact wI.out⟩;have n1_:aj (Below w.heap.size w ((w11.setCell ⟨ada,0,none⟩ (.int .u64 afF)).setCell ⟨ada,1,none⟩ (.int .u64 ag7))):=⟨zB⟩
  (try clear wI)
  (try clear HB)
  generalize ((w11.setCell ⟨ada,0,none⟩ (.int .u64 afF)).setCell ⟨ada,1,none⟩ (.int .u64 ag7))=w13 at n0_ n1_ ⊢;have wI:=n0_;have HB:=n1_;clear n0_ n1_;obtain ⟨wI,HB⟩:=zA2 (jP wI.out) (bC HB.out);refine adC (n:=9) (S:=fun w'=>w'.cell? ⟨ada,0,none⟩=some (.int .u64 afF)/\w'.cell? ⟨ada,1,none⟩=some (.int .u64 ag7)) (ds:=[]) #[false,false,false,false,false,false,false,false,false] (by kernel_rfl) rfl rfl ⟨(au wI.out 0).trans rfl,(au wI.out 1).trans rfl⟩ (fun hHeld => ?_);refine ame bF.aDi bF.aBz (fun HT_ HW_ => ?_);generalize w13.drew=w14 at wI HB hHeld ⊢;refine uj (i:=1) (N:=some 22) (v := ?_) (a' := ?_) #[false,true,false,false,false,false,false,false,false] rfl rfl (yt HT_.out (by kernel_rfl)) (fun _ _ _ h=>h) (Or.inl ⟨by rfl,?_⟩) ?_ ?_;rotate_left
  ·intro w';go_simp
   with_reducible rfl
  rotate_left
  ·simp only [Act.put,List.setIfInBounds_toArray,List.set_cons_zero,List.set_cons_succ,bP,bU];rfl
  refine uj (i:=3) (N:=some 24) (v := ?_) (a' := ?_) #[false,true,false,true,false,false,false,false,false] rfl rfl (yt HT_.out (by kernel_rfl)) (fun _ _ _ h=>h) (Or.inl ⟨by rfl,?_⟩) ?_ ?_;rotate_left
  ·intro w';go_simp
   with_reducible rfl
  rotate_left
  ·simp only [Act.put,List.setIfInBounds_toArray,List.set_cons_zero,List.set_cons_succ,bP,bU];rfl
  refine uj (i:=4) (N:=some 25) (v := ?_) (a' := ?_) #[false,true,false,true,true,false,false,false,false] rfl rfl (yt HT_.out (by kernel_rfl)) (fun _ _ _ h=>h) (Or.inl ⟨by rfl,?_⟩) ?_ ?_;rotate_left
  ·intro w';go_simp
   with_reducible rfl
  rotate_left
  ·simp only [Act.put,List.setIfInBounds_toArray,List.set_cons_zero,List.set_cons_succ,bP,bU];rfl
  refine uj (i:=5) (N:=some 26) (v := ?_) (a' := ?_) #[false,true,false,true,true,true,false,false,false] rfl rfl (yt HT_.out (by kernel_rfl)) (fun _ _ _ h=>h) (Or.inl ⟨by rfl,?_⟩) ?_ ?_;rotate_left
  ·intro w';go_simp
   with_reducible rfl
  rotate_left
  ·simp only [Act.put,List.setIfInBounds_toArray,List.set_cons_zero,List.set_cons_succ,bP,bU];rfl
  refine uj (i:=6) (N:=some 27) (v := ?_) (a' := ?_) #[false,true,false,true,true,true,true,false,false] rfl rfl (yt HT_.out (by kernel_rfl)) (fun _ _ _ h=>h) (Or.inl ⟨by rfl,?_⟩) ?_ ?_;rotate_left
  ·intro w';go_simp
   with_reducible rfl
  rotate_left
  ·simp only [Act.put,List.setIfInBounds_toArray,List.set_cons_zero,List.set_cons_succ,bP,bU];rfl
  refine xO (i:=0) (N:=some 21) (v := ?_) (a' := ?_) #[true,true,false,true,true,true,true,false,false] rfl rfl (adE HT_.out HW_.out (by kernel_rfl)) (fun _ _ _ h=>h) (Or.inl ⟨by rfl,?_⟩) hHeld ?_ ?_;rotate_left
  ·rintro w' ⟨s0,s1⟩;go_simp
   with_reducible rfl
  rotate_left
  ·simp only [Act.put,List.setIfInBounds_toArray,List.set_cons_zero,List.set_cons_succ,bP,bU];rfl
  refine aaP (i:=2) (N:=some 23) #[true,true,true,true,true,true,true,false,false] rfl rfl (adD HT_.out (by kernel_rfl)) (by decide) (fun K hK => ?_);refine aaF Tryz.func120 (by kernel_rfl) rfl #[.int .i64 a2] (by rfl) rfl rfl zL ?_;with_reducible refine (dW.calls a2 aos _ A8.out).mono ?_
  rintro e w' ⟨rfl,⟨nd,rfl⟩⟩;refine ⟨_,rfl,?_⟩;refine hK.out _ _ ⟨(au wI.out 0).trans rfl,(au wI.out 1).trans rfl⟩ (fun hHeld => ?_);clear hK K;refine yK (a' := ?_) ?_ ?_;rotate_left
  ·show Act.put _ (some 23) _=_
   simp only [Act.put,List.setIfInBounds_toArray,List.set_cons_zero,List.set_cons_succ,bP,bU];rfl
  refine aaP (i:=7) (N:=some 28) #[true,true,true,true,true,true,true,true,false] rfl rfl (adD HT_.out (by kernel_rfl)) (by decide) (fun K hK => ?_);refine aaF Tryz.func149 (by kernel_rfl) rfl #[.agg #[.int .u64 afF,.int .u64 ag7],.int .u64 aos,.bool (((decide (a0 < 0)) != (decide (a1 < 0))) != (decide (a2 < 0)))] (by rfl) rfl rfl zL ?_;with_reducible refine (iP.calls k afF ag7 aos (((decide (a0 < 0)) != (decide (a1 < 0))) != (decide (a2 < 0))) auz _ A9.out).mono ?_
  rintro e w15 ⟨rfl,hb⟩;refine ⟨_,rfl,?_⟩;obtain ⟨wI,HB⟩:=zA2 (aA (zK wI) hb) (ak zB hb)
  (try clear hb)
  (try clear hb2)
  (try clear hk)
  (try clear hi)
  refine hK.out _ _ ⟨(au wI.out 0).trans rfl,(au wI.out 1).trans rfl⟩ (fun hHeld => ?_);clear hK K;refine yK (a' := ?_) ?_ ?_;rotate_left
  ·show Act.put _ (some 28) _=_
   simp only [Act.put,List.setIfInBounds_toArray,List.set_cons_zero,List.set_cons_succ,bP,bU];rfl
  refine uj (i:=8) (N:=some 6) (v := ?_) (a' := ?_) #[true,true,true,true,true,true,true,true,true] rfl rfl (yt HT_.out (by kernel_rfl)) (fun _ _ _ h=>h) (Or.inl ⟨by rfl,?_⟩) ?_ ?_;rotate_left
  ·intro w';go_simp
   with_reducible rfl
  rotate_left
  ·simp only [Act.put,List.setIfInBounds_toArray,List.set_cons_zero,List.set_cons_succ,bP,bU];rfl
  refine afj (apY HT_.out (by kernel_rfl)) ?_;try go_wp2
  go_ret;exact ⟨zS,zB⟩
mutual
def cO.j0:Nat->Int->Int->Bool->Option (Int)
 | 0,_,_,_=>none
 | k+1,x0,x1,x14=>if x14=true then (some 0) else (if x0>=(wrap64 (2*x1)) then (cO.j1 k x0 x1 true) else (cO.j1 k x0 x1 (decide (x0<=(wrap64 ((-2)*x1))))))
def cO.j1:Nat->Int->Int->Bool->Option (Int)
 | 0,_,_,_=>none
 | k+1,x0,x1,x24=>if x24=true then (some 0) else (if x0 < 0 then (cO.j2 k (wrap64 (-x0)) x1) else (cO.j2 k x0 x1))
def cO.j2:Nat->Int->Int->Option (Int)
 | 0,_,_=>none
 | k+1,x0,x1=>if x0 < x1 then ((bF.f k (wrap64 ((wrap64 ((wrap64 (3*(wrap64 ((wrap64 (x0*x0))*x0)))) - (wrap64 ((wrap64 (5*(wrap64 (x0*x0))))*x1))))+(wrap64 (2*(wrap64 ((wrap64 (x1*x1))*x1)))))) 1073741824 (wrap64 (2*(wrap64 ((wrap64 (x1*x1))*x1))))).bind fun auA=>(some auA)) else ((bF.f k (wrap64 ((wrap64 ((wrap64 ((wrap64 ((wrap64 (5*(wrap64 (x0*x0))))*x1)) - (wrap64 ((wrap64 (x0*x0))*x0)))) - (wrap64 ((wrap64 (8*x0))*(wrap64 (x1*x1))))))+(wrap64 (4*(wrap64 ((wrap64 (x1*x1))*x1)))))) 1073741824 (wrap64 (2*(wrap64 ((wrap64 (x1*x1))*x1))))).bind fun auB=>(some auB))
end
def cO.f (k:Nat) (a0 a1:Int):Option (Int):=if a1 < 1 then (cO.j0 k a0 a1 true) else (cO.j0 k a0 a1 (decide (a1 > 262144)))
theorem cO.calls (k:Nat) (a0 a1 r:Int) (w:World) (h:cO.f k a0 a1=some r) :
  Calls Tryz.prog 170 #[.int .i64 a0,.int .i64 a1] w fun e w'=>e = .returned (.int .i64 r)/\Below w.heap.size w w':=by
 have HB:=aj.mk (Below.refl w.heap.size w);have H:=h;clear h;unfold cO.f at H;have HC3:=aj.mk H;clear H;go_enter Tryz.func170,Tryz.ntmps170;go_upto_region 1 with (fail);go_cut [14] (fun v14 wc=>∃ (kq:Nat) (abE:Bool),v14 = .bool abE/\aj (cO.j0 kq a0 a1 abE=some r)/\aj (kq<=k)/\aj (Below w.heap.size w wc))
 case first =>
  have H:=HC3.out;clear HC3;by_cases c4:a1 < 1
  ·rw [if_pos c4] at H;have fH:=decide_eq_true c4;clear c4
   (first|rw [fH]|(simp only [bP,bU];rw [fH])|skip)
   have H':=aj.mk H;clear H;go_wp2;go_meet
   case rel=>exact ⟨_,(true),zT,H',⟨by first|omega|exact Nat.le_refl _⟩,⟨zB⟩⟩
  ·rw [if_neg c4] at H;have fH:=decide_eq_false c4;clear c4
   (first|rw [fH]|(simp only [bP,bU];rw [fH])|skip)
   have H':=aj.mk H;clear H;go_wp2;go_meet
   case rel=>exact ⟨_,(decide (a1 > 262144)),zT,H',⟨by first|omega|exact Nat.le_refl _⟩,⟨zB⟩⟩
 case rest =>
  clear HC3;obtain ⟨kq,abE,rfl,HA,HJ2,HB⟩:=hcut;cases kq with
  | zero=>exact absurd HA.out (by simp [cO.j0])
  | succ kj2 =>
   have H:=HA.out;clear HA;simp only [cO.j0] at H;by_cases c5:abE=true
   ·subst c5;rw [if_pos rfl] at H;(try dsimp only at H);obtain rfl:=Option.some.inj H;go_wp2;go_ret;exact ⟨zS,zB⟩
   ·replace c5:=Bool.eq_false_iff.mpr c5;subst c5;rw [if_neg (show ¬ (false=true) by decide)] at H;(try dsimp only at H);have HC6:=aj.mk H;clear H;go_upto_region 3 with (fail);go_cut [24] (fun v24 wc=>∃ (kq:Nat) (ang:Bool),v24 = .bool ang/\aj (cO.j1 kq a0 a1 ang=some r)/\aj (kq<=kj2)/\aj (Below w.heap.size w wc))
    case first =>
     have H:=HC6.out;clear HC6;by_cases c7:a0>=(wrap64 (2*a1))
     ·rw [if_pos c7] at H;have jw:=decide_eq_true c7;clear c7
      (first|rw [jw]|(simp only [bP,bU];rw [jw])|skip)
      have H':=aj.mk H;clear H;go_wp2;go_meet
      case rel=>exact ⟨_,(true),zT,H',⟨by have:=HJ2.out;first|omega|exact Nat.le_refl _⟩,⟨zB⟩⟩
     ·rw [if_neg c7] at H;have jw:=decide_eq_false c7;clear c7
      (first|rw [jw]|(simp only [bP,bU];rw [jw])|skip)
      have H':=aj.mk H;clear H;go_wp2;go_meet
      case rel=>exact ⟨_,(decide (a0<=(wrap64 ((-2)*a1)))),zT,H',⟨by have:=HJ2.out;first|omega|exact Nat.le_refl _⟩,⟨zB⟩⟩
    case rest =>
     clear HC6;obtain ⟨kq,ang,rfl,HA,HJ5,HB⟩:=hcut;cases kq with
     | zero=>exact absurd HA.out (by simp [cO.j1])
     | succ kj5 =>
      have H:=HA.out;clear HA;simp only [cO.j1] at H;by_cases c8:ang=true
      ·subst c8;rw [if_pos rfl] at H;(try dsimp only at H);obtain rfl:=Option.some.inj H;go_wp2;go_ret;exact ⟨zS,zB⟩
      ·replace c8:=Bool.eq_false_iff.mpr c8;subst c8;rw [if_neg (show ¬ (false=true) by decide)] at H;(try dsimp only at H);have HC9:=aj.mk H;clear H;go_upto_if 26 with (fail)
       go_cut [0] (fun v0 wc=>∃ (kq:Nat) (rX:Int),v0 = .int .i64 rX/\aj (cO.j2 kq rX a1=some r)/\aj (kq<=kj5)/\aj (Below w.heap.size w wc))
       case first =>
        have H:=HC9.out;clear HC9;by_cases c10:a0 < 0
        ·rw [if_pos c10] at H;have l9:=decide_eq_true c10;clear c10
         (first|rw [l9]|(simp only [bP,bU];rw [l9])|skip)
         have H':=aj.mk H;clear H;go_wp2;go_meet
         case rel=>exact ⟨_,(wrap64 (-a0)),zT,H',⟨by have:=HJ2.out;have:=HJ5.out;first|omega|exact Nat.le_refl _⟩,⟨zB⟩⟩
        ·rw [if_neg c10] at H;have l9:=decide_eq_false c10;clear c10
         (first|rw [l9]|(simp only [bP,bU];rw [l9])|skip)
         have H':=aj.mk H;clear H;go_wp2;go_meet
         case rel=>exact ⟨_,(a0),zT,H',⟨by have:=HJ2.out;have:=HJ5.out;first|omega|exact Nat.le_refl _⟩,⟨zB⟩⟩
       case rest =>
        clear HC9;obtain ⟨kq,rX,rfl,HA,HJ8,HB⟩:=hcut;cases kq with
        | zero=>exact absurd HA.out (by simp [cO.j2])
        | succ kj8 =>
         have H:=HA.out;clear HA;simp only [cO.j2] at H;by_cases c11:rX < a1
         ·rw [if_pos c11] at H;have jy:=decide_eq_true c11;clear c11;replace H:=zO H;obtain ⟨auA,A12,H⟩:=H;try dsimp only at H
          obtain rfl:=Option.some.inj H;go_wp2_with (first|((with_reducible refine ay (f:=118) rfl ?_);refine aH (some 56) rfl rfl Tryz.func118 (by kernel_rfl) rfl #[.int .i64 (wrap64 ((wrap64 ((wrap64 (3*(wrap64 ((wrap64 (rX*rX))*rX)))) - (wrap64 ((wrap64 (5*(wrap64 (rX*rX))))*a1))))+(wrap64 (2*(wrap64 ((wrap64 (a1*a1))*a1)))))),.int .i64 1073741824,.int .i64 (wrap64 (2*(wrap64 ((wrap64 (a1*a1))*a1))))] rfl zL ?_;(with_reducible refine (bF.calls kj8 (wrap64 ((wrap64 ((wrap64 (3*(wrap64 ((wrap64 (rX*rX))*rX)))) - (wrap64 ((wrap64 (5*(wrap64 (rX*rX))))*a1))))+(wrap64 (2*(wrap64 ((wrap64 (a1*a1))*a1)))))) 1073741824 (wrap64 (2*(wrap64 ((wrap64 (a1*a1))*a1)))) auA _ A12.out).mono ?_);rintro e w13 ⟨rfl,hb⟩;refine ⟨_,rfl,?_⟩;replace HB:=aj.mk (ak zB hb);(try clear hb)));go_ret;exact ⟨zS,zB⟩
         ·rw [if_neg c11] at H;have jy:=decide_eq_false c11;clear c11;replace H:=zO H;obtain ⟨auB,A14,H⟩:=H;try dsimp only at H
          obtain rfl:=Option.some.inj H;go_wp2_with (first|((with_reducible refine ay (f:=118) rfl ?_);refine aH (some 73) rfl rfl Tryz.func118 (by kernel_rfl) rfl #[.int .i64 (wrap64 ((wrap64 ((wrap64 ((wrap64 ((wrap64 (5*(wrap64 (rX*rX))))*a1)) - (wrap64 ((wrap64 (rX*rX))*rX)))) - (wrap64 ((wrap64 (8*rX))*(wrap64 (a1*a1))))))+(wrap64 (4*(wrap64 ((wrap64 (a1*a1))*a1)))))),.int .i64 1073741824,.int .i64 (wrap64 (2*(wrap64 ((wrap64 (a1*a1))*a1))))] rfl zL ?_;(with_reducible refine (bF.calls kj8 (wrap64 ((wrap64 ((wrap64 ((wrap64 ((wrap64 (5*(wrap64 (rX*rX))))*a1)) - (wrap64 ((wrap64 (rX*rX))*rX)))) - (wrap64 ((wrap64 (8*rX))*(wrap64 (a1*a1))))))+(wrap64 (4*(wrap64 ((wrap64 (a1*a1))*a1)))))) 1073741824 (wrap64 (2*(wrap64 ((wrap64 (a1*a1))*a1)))) auB _ A14.out).mono ?_);rintro e w15 ⟨rfl,hb⟩;refine ⟨_,rfl,?_⟩;replace HB:=aj.mk (ak zB hb);(try clear hb)));go_ret;exact ⟨zS,zB⟩
end Go.Proofs.YtpondkggmcmpfaaGreatDoor.QA
