/- Joined by wip/tools/bundle.py out of: QAx22 QAx23 QAx24 QAx25 QAx26 QAx27. -/
import Derived.Test.YtpondkggmcmpfaaGreatDoorBDirectFlat1
set_option maxHeartbeats 8000000
set_option maxRecDepth 100000
namespace Go.Proofs.YtpondkggmcmpfaaGreatDoor.QA
open Go.Proofs.YtpondkggmcmpfaaGreatDoor.T
open Go.RowKit Go.Proofs.YtpondkggmcmpfaaGreatDoorW.PrintWords Go.Proofs.YtpondkggmcmpfaaGreatDoorW.PrintLast Go.Proofs.YtpondkggmcmpfaaGreatDoorW.PrintMore
attribute [local go_sem] dV dN dO eP fA
set_option linter.unusedVariables false
set_option linter.unusedSimpArgs false
def lM.f (a0 a1 a2 a3:Int):Option (Bool):=if a0>=0 then (if a0<=2 then (if a1>=1 then (if a1<=65536 then (if a2>=1 then (if a2<=65536 then (if a3>=0 then (some (decide (a3 < a2))) else (some false)) else (some false)) else (some false)) else (some false)) else (some false)) else (some false)) else (some false)
theorem lM.calls (a0 a1 a2 a3:Int) (r:Bool) (w:World) (h:lM.f a0 a1 a2 a3=some r) :
  Calls Tryz.prog 139 #[.int .i64 a0,.int .i64 a1,.int .i64 a2,.int .i64 a3] w fun e w'=>e = .returned (.bool r)/\dG w w':=by
 have H:=h;clear h;unfold lM.f at H;by_cases c5:a0>=0
 ·rw [if_pos c5] at H;have iy:=decide_eq_true c5;clear c5;by_cases c6:a0<=2
  ·rw [if_pos c6] at H;have iF:=decide_eq_true c6;clear c6;by_cases c7:a1>=1
   ·rw [if_pos c7] at H;have jk:=decide_eq_true c7;clear c7;by_cases c8:a1<=65536
    ·rw [if_pos c8] at H;have vS:=decide_eq_true c8;clear c8;by_cases c9:a2>=1
     ·rw [if_pos c9] at H;have qH:=decide_eq_true c9;clear c9;by_cases c10:a2<=65536
      ·rw [if_pos c10] at H;have pX:=decide_eq_true c10;clear c10;by_cases c11:a3>=0
       ·rw [if_pos c11] at H;have iV:=decide_eq_true c11;clear c11;obtain rfl:=Option.some.inj H;go_enter Tryz.func139,Tryz.ntmps139;go_wp2;go_ret;exact ⟨zT,zW⟩
       ·rw [if_neg c11] at H;have iV:=decide_eq_false c11;clear c11;obtain rfl:=Option.some.inj H;go_enter Tryz.func139,Tryz.ntmps139;go_wp2;go_ret;exact ⟨zT,zW⟩
      ·rw [if_neg c10] at H;have pX:=decide_eq_false c10;clear c10;obtain rfl:=Option.some.inj H;go_enter Tryz.func139,Tryz.ntmps139;go_wp2;go_ret;exact ⟨zT,zW⟩
     ·rw [if_neg c9] at H;have qH:=decide_eq_false c9;clear c9;obtain rfl:=Option.some.inj H;go_enter Tryz.func139,Tryz.ntmps139;go_wp2;go_ret;exact ⟨zT,zW⟩
    ·rw [if_neg c8] at H;have vS:=decide_eq_false c8;clear c8;obtain rfl:=Option.some.inj H;go_enter Tryz.func139,Tryz.ntmps139;go_wp2;go_ret;exact ⟨zT,zW⟩
   ·rw [if_neg c7] at H;have jk:=decide_eq_false c7;clear c7;obtain rfl:=Option.some.inj H;go_enter Tryz.func139,Tryz.ntmps139;go_wp2;go_ret;exact ⟨zT,zW⟩
  ·rw [if_neg c6] at H;have iF:=decide_eq_false c6;clear c6;obtain rfl:=Option.some.inj H;go_enter Tryz.func139,Tryz.ntmps139;go_wp2;go_ret;exact ⟨zT,zW⟩
 ·rw [if_neg c5] at H;have iy:=decide_eq_false c5;clear c5;obtain rfl:=Option.some.inj H;go_enter Tryz.func139,Tryz.ntmps139;go_wp2;go_ret;exact ⟨zT,zW⟩
def gG.f (a0 a1 a2 a3:Int):Option (Int × Int):=if a1 > a0 then (some (wrap64 ((wrap64 ((wrap64 ((wrap64 (2*a1))*a3)) - (wrap64 ((wrap64 ((wrap64 (2*a2))+1))*a0))))+a1),wrap64 (2*a1))) else (some (wrap64 ((wrap64 ((wrap64 ((wrap64 (2*a1))*a3)) - (wrap64 ((wrap64 ((wrap64 (2*a2))+1))*a0))))+a1),wrap64 (2*a0)))
theorem gG.calls (a0 a1 a2 a3 r1 r2:Int) (w:World) (h:gG.f a0 a1 a2 a3=some (r1,r2)) :
  Calls Tryz.prog 169 #[.int .i64 a0,.int .i64 a1,.int .i64 a2,.int .i64 a3] w fun e w'=>e = .returned (.tuple #[.int .i64 r1,.int .i64 r2])/\dG w w':=by
 have H:=h;clear h;unfold gG.f at H;by_cases c5:a1 > a0
 ·rw [if_pos c5] at H;have iy:=decide_eq_true c5;clear c5;simp only [Option.some.injEq,Prod.mk.injEq] at H;obtain ⟨rfl,rfl⟩:=H;go_enter Tryz.func169,Tryz.ntmps169;go_wp2;go_ret2;exact ⟨zT,zW⟩
 ·rw [if_neg c5] at H;have iy:=decide_eq_false c5;clear c5;simp only [Option.some.injEq,Prod.mk.injEq] at H;obtain ⟨rfl,rfl⟩:=H;go_enter Tryz.func169,Tryz.ntmps169;go_wp2;go_ret2;exact ⟨zT,zW⟩
def ji.f (a0 a1 a2 a3 a4:Int):Option (Bool):=if a0=0 then (if (wrap64 ((wrap64 (a4+1))*a2)) > (wrap64 (a3*a1)) then (some (decide ((wrap64 (a4*a2)) < (wrap64 ((wrap64 (a3+1))*a1))))) else (some false)) else ((gG.f a1 a2 a3 a4).bind fun acO=>(if a0=2 then (if acO.1 < (wrap64 (3*acO.2)) then (some (decide (acO.1 > (wrap64 (-(wrap64 (3*acO.2))))))) else (some false)) else (if acO.1 < (wrap64 (2*acO.2)) then (some (decide (acO.1 > (wrap64 (-(wrap64 (2*acO.2))))))) else (some false))))
theorem ji.calls (a0 a1 a2 a3 a4:Int) (r:Bool) (w:World) (h:ji.f a0 a1 a2 a3 a4=some r) :
  Calls Tryz.prog 140 #[.int .i64 a0,.int .i64 a1,.int .i64 a2,.int .i64 a3,.int .i64 a4] w fun e w'=>e = .returned (.bool r)/\dG w w':=by
 have H:=h;clear h;unfold ji.f at H;by_cases c6:a0=0
 ·rw [if_pos c6] at H;have iF:(a0 == 0)=true:=beq_iff_eq.mpr c6;have vP:(a0 != 0)=false:=bne_eq_false_iff_eq.mpr c6;clear c6;by_cases c7:(wrap64 ((wrap64 (a4+1))*a2)) > (wrap64 (a3*a1))
  ·rw [if_pos c7] at H;have jk:=decide_eq_true c7;clear c7;obtain rfl:=Option.some.inj H;go_enter Tryz.func140,Tryz.ntmps140;go_wp2;go_ret;exact ⟨zT,zW⟩
  ·rw [if_neg c7] at H;have jk:=decide_eq_false c7;clear c7;obtain rfl:=Option.some.inj H;go_enter Tryz.func140,Tryz.ntmps140;go_wp2;go_ret;exact ⟨zT,zW⟩
 ·rw [if_neg c6] at H;have iF:(a0 == 0)=false:=beq_eq_false_iff_ne.mpr c6;have vP:(a0 != 0)=true:=bne_iff_ne.mpr c6;replace H:=zO H;obtain ⟨⟨aiQ,aiR⟩,A8,H⟩:=H;try dsimp only at H
  by_cases c9:a0=2
  ·rw [if_pos c9] at H;have qH:(a0 == 2)=true:=beq_iff_eq.mpr c9;have ab5:(a0 != 2)=false:=bne_eq_false_iff_eq.mpr c9;clear c9;by_cases c10:aiQ < (wrap64 (3*aiR))
   ·rw [if_pos c10] at H;have pX:=decide_eq_true c10;clear c10;obtain rfl:=Option.some.inj H;go_enter Tryz.func140,Tryz.ntmps140;go_wp2_with (first|((with_reducible refine ay (f:=169) rfl ?_);refine aH (some 39) rfl rfl Tryz.func169 (by kernel_rfl) rfl #[.int .i64 a1,.int .i64 a2,.int .i64 a3,.int .i64 a4] rfl zL ?_;(with_reducible refine (gG.calls a1 a2 a3 a4 aiQ aiR _ A8.out).mono ?_);rintro e w' ⟨rfl,⟨nd,rfl⟩⟩;refine ⟨_,rfl,?_⟩));go_ret;exact ⟨zT,zW⟩
   ·rw [if_neg c10] at H;have pX:=decide_eq_false c10;clear c10;obtain rfl:=Option.some.inj H;go_enter Tryz.func140,Tryz.ntmps140;go_wp2_with (first|((with_reducible refine ay (f:=169) rfl ?_);refine aH (some 39) rfl rfl Tryz.func169 (by kernel_rfl) rfl #[.int .i64 a1,.int .i64 a2,.int .i64 a3,.int .i64 a4] rfl zL ?_;(with_reducible refine (gG.calls a1 a2 a3 a4 aiQ aiR _ A8.out).mono ?_);rintro e w' ⟨rfl,⟨nd,rfl⟩⟩;refine ⟨_,rfl,?_⟩));go_ret;exact ⟨zT,zW⟩
  ·rw [if_neg c9] at H;have qH:(a0 == 2)=false:=beq_eq_false_iff_ne.mpr c9;have ab5:(a0 != 2)=true:=bne_iff_ne.mpr c9;by_cases c11:aiQ < (wrap64 (2*aiR))
   ·rw [if_pos c11] at H;have iV:=decide_eq_true c11;clear c11;obtain rfl:=Option.some.inj H;go_enter Tryz.func140,Tryz.ntmps140;go_wp2_with (first|((with_reducible refine ay (f:=169) rfl ?_);refine aH (some 39) rfl rfl Tryz.func169 (by kernel_rfl) rfl #[.int .i64 a1,.int .i64 a2,.int .i64 a3,.int .i64 a4] rfl zL ?_;(with_reducible refine (gG.calls a1 a2 a3 a4 aiQ aiR _ A8.out).mono ?_);rintro e w' ⟨rfl,⟨nd,rfl⟩⟩;refine ⟨_,rfl,?_⟩));go_ret;exact ⟨zT,zW⟩
   ·rw [if_neg c11] at H;have iV:=decide_eq_false c11;clear c11;obtain rfl:=Option.some.inj H;go_enter Tryz.func140,Tryz.ntmps140;go_wp2_with (first|((with_reducible refine ay (f:=169) rfl ?_);refine aH (some 39) rfl rfl Tryz.func169 (by kernel_rfl) rfl #[.int .i64 a1,.int .i64 a2,.int .i64 a3,.int .i64 a4] rfl zL ?_;(with_reducible refine (gG.calls a1 a2 a3 a4 aiQ aiR _ A8.out).mono ?_);rintro e w' ⟨rfl,⟨nd,rfl⟩⟩;refine ⟨_,rfl,?_⟩));go_ret;exact ⟨zT,zW⟩
def dP.f (a0:Int):Option (Int):=if a0 < 0 then (some (IntKind.u64.wrap ((IntKind.u64.wrap (wrap64 (-(wrap64 (a0+1)))))+1))) else (some (IntKind.u64.wrap (a0)))
theorem dP.calls (a0 r:Int) (w:World) (h:dP.f a0=some r) :
  Calls Tryz.prog 120 #[.int .i64 a0] w fun e w'=>e = .returned (.int .u64 r)/\dG w w':=by
 have H:=h;clear h;unfold dP.f at H;by_cases c2:a0 < 0
 ·rw [if_pos c2] at H;have nK:=decide_eq_true c2;clear c2;obtain rfl:=Option.some.inj H;go_enter Tryz.func120,Tryz.ntmps120;go_wp2;go_ret;exact ⟨zT,zW⟩
 ·rw [if_neg c2] at H;have nK:=decide_eq_false c2;clear c2;obtain rfl:=Option.some.inj H;go_enter Tryz.func120,Tryz.ntmps120;go_wp2;go_ret;exact ⟨zT,zW⟩
def dM.f (bn bV a1:Int):Option (Int × Int):=some (IntKind.u64.wrap ((IntKind.u64.wrap (bn*2))+(bV / 9223372036854775808)),IntKind.u64.wrap ((IntKind.u64.wrap (bV*2))+a1))
theorem dM.calls (bn bV a1 r1 r2:Int) (w:World) (h:dM.f bn bV a1=some (r1,r2)) :
  Calls Tryz.prog 119 #[.agg #[.int .u64 bn,.int .u64 bV],.int .u64 a1] w fun e w'=>e = .returned (.agg #[.int .u64 r1,.int .u64 r2])/\Below w.heap.size w w':=by
 have yJ:=Tryz.underlying179;have HB:=aj.mk (Below.refl w.heap.size w);have H:=h;clear h;unfold dM.f at H;simp only [Option.some.injEq,Prod.mk.injEq] at H;obtain ⟨rfl,rfl⟩:=H;go_enter Tryz.func119,Tryz.ntmps119;go_wp2_with (first|((with_reducible refine bG (N:=2) rfl ?_);refine bI zR (N:=2) zR (cs := #[.int .u64 bn,.int .u64 bV]) (t:=179) zG ?_;intro aBx hg w3 hbox hb;obtain ⟨HB,af2,aBy,aBz⟩:=zA4 (ak zB hb) hbox (zg hg zB) (zg hg zB);clear hb hbox hg)|((with_reducible refine bG (N:=4) rfl ?_);refine bI zR (N:=4) zR (cs := #[.int .u64 0,.int .u64 0]) (t:=179) zG ?_;intro awz hg w4 hbox hb;obtain ⟨af2,HB,an3,aBA,aBB,apM,apN⟩:=zA7 (aA (zK af2) hb) (ak zB hb) hbox (zg hg zB) (zg hg zB) (zl hg (zK af2)) (zr hg (zK af2));clear hb hbox hg;have ay0:=apM.out;have ay1:=apN.out;obtain ⟨_,_⟩:=zC2 af2.out;obtain ⟨_,_⟩:=zF2 af2.out;obtain ⟨_,_⟩:=zC2 an3.out;obtain ⟨_,_⟩:=zF2 an3.out));refine bodyPost_ret (results_cell_row rfl _ _ awz 179 #[.int .u64 (IntKind.u64.wrap ((IntKind.u64.wrap (bn*2))+(bV / 9223372036854775808))),.int .u64 (IntKind.u64.wrap ((IntKind.u64.wrap (bV*2))+a1))] (0,0) _ rfl (by refine zD ?_;refine aY (cs := #[.int .u64 (IntKind.u64.wrap ((IntKind.u64.wrap (bn*2))+(bV / 9223372036854775808))),.int .u64 0]) ?_ 1 _ rfl;refine zD ?_;refine aY (cs := #[.int .u64 0,.int .u64 0]) ?_ 0 _ rfl;refine zD ?_;exact an3.out) Tryz.underlying179 rfl (by kernel_rfl)) rfl ?_;exact ⟨zS,zB⟩
def gY.f (bn bV lT oQ:Int):Option (Int × Int):=if (IntKind.u64.wrap (bV+oQ)) < bV then (some (IntKind.u64.wrap ((IntKind.u64.wrap (bn+lT))+1),IntKind.u64.wrap (bV+oQ))) else (some (IntKind.u64.wrap (bn+lT),IntKind.u64.wrap (bV+oQ)))
theorem gY.calls (bn bV lT oQ r1 r2:Int) (w:World) (h:gY.f bn bV lT oQ=some (r1,r2)) :
  Calls Tryz.prog 124 #[.agg #[.int .u64 bn,.int .u64 bV],.agg #[.int .u64 lT,.int .u64 oQ]] w fun e w'=>e = .returned (.agg #[.int .u64 r1,.int .u64 r2])/\Below w.heap.size w w':=by
 have yJ:=Tryz.underlying179;have HB:=aj.mk (Below.refl w.heap.size w);have H:=h;clear h;unfold gY.f at H;by_cases c3:(IntKind.u64.wrap (bV+oQ)) < bV
 ·rw [if_pos c3] at H;have gI:=decide_eq_true c3;clear c3;simp only [Option.some.injEq,Prod.mk.injEq] at H;obtain ⟨rfl,rfl⟩:=H;go_enter Tryz.func124,Tryz.ntmps124;go_wp2_with (first|((with_reducible refine bG (N:=2) rfl ?_);refine bI zR (N:=2) zR (cs := #[.int .u64 bn,.int .u64 bV]) (t:=179) zG ?_;intro awC hg w4 hbox hb;obtain ⟨HB,kG,awD,awE⟩:=zA4 (ak zB hb) hbox (zg hg zB) (zg hg zB);clear hb hbox hg)|((with_reducible refine bG (N:=3) rfl ?_);refine bI zR (N:=3) zR (cs := #[.int .u64 lT,.int .u64 oQ]) (t:=179) zG ?_;intro awF hg w5 hbox hb;obtain ⟨kG,HB,qA,awG,awH,aeV,aeW⟩:=zA7 (aA (zK kG) hb) (ak zB hb) hbox (zg hg zB) (zg hg zB) (zl hg (zK kG)) (zr hg (zK kG));clear hb hbox hg)|((with_reducible refine bG (N:=4) rfl ?_);refine bI zR (N:=4) zR (cs := #[.int .u64 0,.int .u64 0]) (t:=179) zG ?_;intro an4 hg w6 hbox hb;obtain ⟨kG,qA,HB,vV,awI,awJ,aeX,aeY,aeZ,ae0⟩:=aeG (aA (zK kG) hb) (aA (zK qA) hb) (ak zB hb) hbox (zg hg zB) (zg hg zB) (zl hg (zK kG)) (zr hg (zK kG)) (zl hg (zK qA)) (zr hg (zK qA));clear hb hbox hg;have avh:=aeV.out;have avi:=aeW.out;have avj:=aeX.out;have avk:=aeY.out;obtain ⟨_,_⟩:=zC2 kG.out;obtain ⟨_,_⟩:=zF2 kG.out;have awK:=aeZ.out;have awL:=ae0.out;obtain ⟨_,_⟩:=zC2 qA.out;obtain ⟨_,_⟩:=zF2 qA.out)|((with_reducible refine bG (N:=5) rfl ?_);refine bI zR (N:=5) zR (cs := #[.int .u64 0,.int .u64 0]) (t:=179) zG ?_;intro awM hg w12 hbox hb;obtain ⟨kG,qA,vV,HB,ahG,awN,awO,ae1,ae2,ae3,ae4,vI,ae5⟩:=agC (aA (zK kG) hb) (aA (zK qA) hb) (aA (zK vV) hb) (ak zB hb) hbox (zg hg zB) (zg hg zB) (zl hg (zK kG)) (zr hg (zK kG)) (zl hg (zK qA)) (zr hg (zK qA)) (zl hg (zK vV)) (zr hg (zK vV));clear hb hbox hg;have an5:=ae2.out;have an6:=ae1.out;have as1:=ae4.out;have as2:=ae3.out;have awP:=ae5.out;have awQ:=vI.out;obtain ⟨_,_⟩:=zC2 ahG.out;obtain ⟨_,_⟩:=zF2 ahG.out;obtain ⟨_,_⟩:=zC2 kG.out;obtain ⟨_,_⟩:=zF2 kG.out;obtain ⟨_,_⟩:=zC2 vV.out;obtain ⟨_,_⟩:=zF2 vV.out));refine bodyPost_ret (results_cell_row rfl _ _ an4 179 #[.int .u64 (IntKind.u64.wrap ((IntKind.u64.wrap (bn+lT))+1)),.int .u64 (IntKind.u64.wrap (bV+oQ))] (0,0) _ rfl (by refine zD ?_;refine aY (cs := #[.int .u64 (IntKind.u64.wrap ((IntKind.u64.wrap (bn+lT))+1)),.int .u64 0]) ?_ 1 _ rfl;refine zD ?_;refine aY (cs := #[.int .u64 0,.int .u64 0]) ?_ 0 _ rfl;refine zD ?_;refine kN ?_ vI.out _;refine zD ?_;refine kN ?_ vI.out _;refine zD ?_;refine kN ?_ vI.out _;refine zD ?_;exact vV.out) Tryz.underlying179 rfl (by kernel_rfl)) rfl ?_;exact ⟨zS,zB⟩
 ·rw [if_neg c3] at H;have gI:=decide_eq_false c3;clear c3;simp only [Option.some.injEq,Prod.mk.injEq] at H;obtain ⟨rfl,rfl⟩:=H;go_enter Tryz.func124,Tryz.ntmps124;go_wp2_with (first|((with_reducible refine bG (N:=2) rfl ?_);refine bI zR (N:=2) zR (cs := #[.int .u64 bn,.int .u64 bV]) (t:=179) zG ?_;intro awC hg w19 hbox hb;obtain ⟨HB,kG,awD,awE⟩:=zA4 (ak zB hb) hbox (zg hg zB) (zg hg zB);clear hb hbox hg)|((with_reducible refine bG (N:=3) rfl ?_);refine bI zR (N:=3) zR (cs := #[.int .u64 lT,.int .u64 oQ]) (t:=179) zG ?_;intro awF hg w20 hbox hb;obtain ⟨kG,HB,qA,awG,awH,aeV,aeW⟩:=zA7 (aA (zK kG) hb) (ak zB hb) hbox (zg hg zB) (zg hg zB) (zl hg (zK kG)) (zr hg (zK kG));clear hb hbox hg)|((with_reducible refine bG (N:=4) rfl ?_);refine bI zR (N:=4) zR (cs := #[.int .u64 0,.int .u64 0]) (t:=179) zG ?_;intro an4 hg w21 hbox hb;obtain ⟨kG,qA,HB,vV,awI,awJ,aeX,aeY,aeZ,ae0⟩:=aeG (aA (zK kG) hb) (aA (zK qA) hb) (ak zB hb) hbox (zg hg zB) (zg hg zB) (zl hg (zK kG)) (zr hg (zK kG)) (zl hg (zK qA)) (zr hg (zK qA));clear hb hbox hg;have as3:=aeV.out;have as4:=aeW.out;have an7:=aeX.out;have an8:=aeY.out;obtain ⟨_,_⟩:=zC2 kG.out;obtain ⟨_,_⟩:=zF2 kG.out;have awR:=aeZ.out;have awS:=ae0.out;obtain ⟨_,_⟩:=zC2 qA.out;obtain ⟨_,_⟩:=zF2 qA.out)|((with_reducible refine bG (N:=5) rfl ?_);refine bI zR (N:=5) zR (cs := #[.int .u64 0,.int .u64 0]) (t:=179) zG ?_;intro awM hg w27 hbox hb;obtain ⟨kG,qA,vV,HB,ahG,awN,awO,ae1,ae2,ae3,ae4,vI,ae5⟩:=agC (aA (zK kG) hb) (aA (zK qA) hb) (aA (zK vV) hb) (ak zB hb) hbox (zg hg zB) (zg hg zB) (zl hg (zK kG)) (zr hg (zK kG)) (zl hg (zK qA)) (zr hg (zK qA)) (zl hg (zK vV)) (zr hg (zK vV));clear hb hbox hg;have awT:=ae2.out;have awU:=ae1.out;have an9:=ae4.out;have aoa:=ae3.out;have as5:=ae5.out;have as6:=vI.out;obtain ⟨_,_⟩:=zC2 ahG.out;obtain ⟨_,_⟩:=zF2 ahG.out;obtain ⟨_,_⟩:=zC2 kG.out;obtain ⟨_,_⟩:=zF2 kG.out;obtain ⟨_,_⟩:=zC2 vV.out;obtain ⟨_,_⟩:=zF2 vV.out));refine bodyPost_ret (results_cell_row rfl _ _ an4 179 #[.int .u64 (IntKind.u64.wrap (bn+lT)),.int .u64 (IntKind.u64.wrap (bV+oQ))] (0,0) _ rfl (by refine zD ?_;refine aY (cs := #[.int .u64 (IntKind.u64.wrap (bn+lT)),.int .u64 0]) ?_ 1 _ rfl;refine zD ?_;refine aY (cs := #[.int .u64 0,.int .u64 0]) ?_ 0 _ rfl;refine zD ?_;refine kN ?_ vI.out _;refine zD ?_;refine kN ?_ vI.out _;refine zD ?_;exact vV.out) Tryz.underlying179 rfl (by kernel_rfl)) rfl ?_;exact ⟨zS,zB⟩
def dW.l0:Nat->Int->Int->Int->Int->Int->Option (Int × Int)
 | 0,_,_,_,_,_=>none
 | k+1,x0,x1,x6,am8,am9=>if x6>=0 then ((dM.f am8 am9 0).bind fun akt=>(if 0<=x6 then (if (Go.bits .and .u64 (shr .u64 x1 x6) 1)=1 then ((gY.f akt.1 akt.2 0 x0).bind fun ahH=>(dW.l0 k x0 x1 (wrap64 (x6 - 1)) ahH.1 ahH.2)) else (dW.l0 k x0 x1 (wrap64 (x6 - 1)) akt.1 akt.2)) else (none))) else (some (am8,am9))
def dW.f (k:Nat) (a0 a1:Int):Option (Int × Int):=dW.l0 k a0 a1 63 0 0
theorem dW.calls (k:Nat) (a0 a1 r1 r2:Int) (w:World) (h:dW.f k a0 a1=some (r1,r2)) :
  Calls Tryz.prog 148 #[.int .u64 a0,.int .u64 a1] w fun e w'=>e = .returned (.agg #[.int .u64 r1,.int .u64 r2])/\Below w.heap.size w w':=by
 have yJ:=Tryz.underlying179;have HB:=aj.mk (Below.refl w.heap.size w);have H:=h;clear h;unfold dW.f at H;have H':=aj.mk H;clear H;go_enter Tryz.func148,Tryz.ntmps148;go_wp2_with (first|((with_reducible refine bG (N:=4) rfl ?_);refine bI zR (N:=4) zR (cs := #[.int .u64 0,.int .u64 0]) (t:=179) zG ?_;intro as7 hg w3 hbox hb;obtain ⟨HB,tJ,aBC,aBD⟩:=zA4 (ak zB hb) hbox (zg hg zB) (zg hg zB);clear hb hbox hg)|((with_reducible refine bG (N:=5) rfl ?_);refine bI zR (N:=5) zR (cs := #[.int .u64 0,.int .u64 0]) (t:=179) zG ?_;intro as8 hg w4 hbox hb;obtain ⟨tJ,HB,oN,aBE,aBF,acP,acQ⟩:=zA7 (aA (zK tJ) hb) (ak zB hb) hbox (zg hg zB) (zg hg zB) (zl hg (zK tJ)) (zr hg (zK tJ));clear hb hbox hg;have ay0:=acQ.out;have ay1:=acP.out;obtain ⟨_,_⟩:=zC2 oN.out;obtain ⟨_,_⟩:=zF2 oN.out));go_loopg [6] k (fun kq v6 w'=>∃ (qK:Int) (qL:Int) (pJ:Int),v6 = .int .i64 qK/\aj (dW.l0 kq a0 a1 qK qL pJ=some (r1,r2))/\aj (kq<=k)/\aj (w'.heap[as7]? = some (.cells #[.int .u64 0,.int .u64 0] 179 (0,0)))/\aj (w'.heap[as8]? = some (.cells #[.int .u64 qL,.int .u64 pJ] 179 (0,0)))/\aj (Below w.heap.size w w'))
 case atStart=>exact ⟨(63),(0),(0),zT,H',⟨Nat.le_refl _⟩,⟨zK tJ⟩,⟨by refine zD ?_;refine aY (cs := #[.int .u64 0,.int .u64 0]) ?_ 1 _ rfl;refine zD ?_;refine aY (cs := #[.int .u64 0,.int .u64 0]) ?_ 0 _ rfl;refine zD ?_;exact oN.out⟩,⟨zB⟩⟩
 case round =>
  clear H';obtain ⟨qK,qL,pJ,rfl,HA,HK1,tJ,oN,HB⟩:=hrel;cases gk with
  | zero=>exact absurd HA.out (by simp [dW.l0])
  | succ k1 =>
   have H:=HA.out;clear HA;simp only [dW.l0] at H;by_cases c7:qK>=0
   ·rw [if_pos c7] at H;have jk:=decide_eq_true c7;clear c7;replace H:=zO H;obtain ⟨⟨acj,adb⟩,A8,H⟩:=H;try dsimp only at H
    by_cases c9:0<=qK
    ·rw [if_pos c9] at H;have qH:=eq_true c9;have ab5:=decide_eq_true c9;clear c9;obtain ⟨dJ,jT⟩:∃ j_:Int,(shr .u64 a1 qK)=j_:=⟨_,rfl⟩;replace H:(if (Go.bits .and .u64 (dJ) 1)=1 then ((gY.f acj adb 0 a0).bind fun ahH=>(dW.l0 k1 a0 a1 (wrap64 (qK - 1)) ahH.1 ahH.2)) else (dW.l0 k1 a0 a1 (wrap64 (qK - 1)) acj adb))=some (r1,r2):=by first|(rw [jT] at H;exact H)|(simp only [jT] at H ⊢;exact H)
     (try rw [jT] at A8)
     have alp:(a1 / 2 ^ min qK.toNat 64)=dJ:=jT;have apO:qK<=64->(a1 / 2 ^ qK.toNat)=dJ:=qE jT;by_cases c11:(Go.bits .and .u64 (dJ) 1)=1
     ·rw [if_pos c11] at H;have iV:((Go.bits .and .u64 (dJ) 1) == 1)=true:=beq_iff_eq.mpr c11;have xM:((Go.bits .and .u64 (dJ) 1) != 1)=false:=bne_eq_false_iff_eq.mpr c11;clear c11;replace H:=zO H;obtain ⟨⟨aqJ,avl⟩,A12,H⟩:=H;try dsimp only at H
      have H':=aj.mk H;clear H;have an5:=acQ.out;have an6:=acP.out;obtain ⟨_,_⟩:=zC2 oN.out;obtain ⟨_,_⟩:=zF2 oN.out;go_wp2_with (first|((with_reducible refine ay (f:=119) rfl ?_);refine aH (some 13) rfl rfl Tryz.func119 (by kernel_rfl) rfl #[.agg #[.int .u64 qL,.int .u64 pJ],.int .u64 0] rfl zL ?_;(with_reducible refine (dM.calls qL pJ 0 acj adb _ A8.out).mono ?_);rintro e w15 ⟨rfl,hb⟩;refine ⟨_,rfl,?_⟩;obtain ⟨tJ,oN,HB⟩:=zA3 (aA (zK tJ) hb) (aA (zK oN) hb) (ak zB hb);(try clear hb);obtain ⟨_,_⟩:=zC2 oN.out;obtain ⟨_,_⟩:=zF2 oN.out)|((with_reducible refine ay (f:=124) rfl ?_);refine aH (some 22) rfl rfl Tryz.func124 (by kernel_rfl) rfl #[.agg #[.int .u64 acj,.int .u64 adb],.agg #[.int .u64 0,.int .u64 a0]] rfl zL ?_;(with_reducible refine (gY.calls acj adb 0 a0 aqJ avl _ A12.out).mono ?_);rintro e w17 ⟨rfl,hb⟩;refine ⟨_,rfl,?_⟩;obtain ⟨tJ,oN,HB⟩:=zA3 (aA (zK tJ) hb) (aA (g:=as8) (o := .cells #[.int .u64 acj,.int .u64 adb] 179 (0,0)) (by refine zD ?_;refine aY (cs := #[.int .u64 acj,.int .u64 pJ]) ?_ 1 _ rfl;refine zD ?_;refine aY (cs := #[.int .u64 qL,.int .u64 pJ]) ?_ 0 _ rfl;refine zD ?_;exact oN.out) hb) (ak zB hb);(try clear hb);obtain ⟨_,_⟩:=zC2 oN.out;obtain ⟨_,_⟩:=zF2 oN.out));go_roundg k1
      case measure=>have:=HK1.out;omega
      case rel=>exact ⟨(wrap64 (qK - 1)),(aqJ),(avl),zT,H',⟨by have:=HK1.out;omega⟩,⟨zK tJ⟩,⟨by refine zD ?_;refine aY (cs := #[.int .u64 aqJ,.int .u64 adb]) ?_ 1 _ rfl;refine zD ?_;refine aY (cs := #[.int .u64 acj,.int .u64 adb]) ?_ 0 _ rfl;refine zD ?_;exact oN.out⟩,⟨zB⟩⟩
     ·rw [if_neg c11] at H;have iV:((Go.bits .and .u64 (dJ) 1) == 1)=false:=beq_eq_false_iff_ne.mpr c11;have xM:((Go.bits .and .u64 (dJ) 1) != 1)=true:=bne_iff_ne.mpr c11;have H':=aj.mk H;clear H;have aBG:=acQ.out;have aBH:=acP.out;obtain ⟨_,_⟩:=zC2 oN.out;obtain ⟨_,_⟩:=zF2 oN.out;go_wp2_with (first|((with_reducible refine ay (f:=119) rfl ?_);refine aH (some 13) rfl rfl Tryz.func119 (by kernel_rfl) rfl #[.agg #[.int .u64 qL,.int .u64 pJ],.int .u64 0] rfl zL ?_;(with_reducible refine (dM.calls qL pJ 0 acj adb _ A8.out).mono ?_);rintro e w21 ⟨rfl,hb⟩;refine ⟨_,rfl,?_⟩;obtain ⟨tJ,oN,HB⟩:=zA3 (aA (zK tJ) hb) (aA (zK oN) hb) (ak zB hb);(try clear hb);obtain ⟨_,_⟩:=zC2 oN.out;obtain ⟨_,_⟩:=zF2 oN.out));go_roundg k1
      case measure=>have:=HK1.out;omega
      case rel=>exact ⟨(wrap64 (qK - 1)),(acj),(adb),zT,H',⟨by have:=HK1.out;omega⟩,⟨zK tJ⟩,⟨by refine zD ?_;refine aY (cs := #[.int .u64 acj,.int .u64 pJ]) ?_ 1 _ rfl;refine zD ?_;refine aY (cs := #[.int .u64 qL,.int .u64 pJ]) ?_ 0 _ rfl;refine zD ?_;exact oN.out⟩,⟨zB⟩⟩
    ·rw [if_neg c9] at H;exact absurd H (by simp)
   ·rw [if_neg c7] at H;have jk:=decide_eq_false c7;clear c7;simp only [Option.some.injEq,Prod.mk.injEq] at H;obtain ⟨rfl,rfl⟩:=H;have an7:=acQ.out;have an8:=acP.out;obtain ⟨_,_⟩:=zC2 oN.out;obtain ⟨_,_⟩:=zF2 oN.out;obtain ⟨_,_⟩:=zC2 tJ.out;obtain ⟨_,_⟩:=zF2 tJ.out;go_wp2;refine bodyPost_ret (results_cell_row rfl _ _ as7 179 #[.int .u64 qL,.int .u64 pJ] (0,0) _ rfl (by refine zD ?_;refine aY (cs := #[.int .u64 qL,.int .u64 0]) ?_ 1 _ rfl;refine zD ?_;refine aY (cs := #[.int .u64 0,.int .u64 0]) ?_ 0 _ rfl;refine zD ?_;exact tJ.out) Tryz.underlying179 rfl (by kernel_rfl)) rfl ?_;exact ⟨zS,zB⟩
def iG.f (bn bV lT oQ:Int):Option (Bool):=if bn=lT then (some (decide (bV < oQ))) else (some (decide (bn < lT)))
theorem iG.calls (bn bV lT oQ:Int) (r:Bool) (w:World) (h:iG.f bn bV lT oQ=some r) :
  Calls Tryz.prog 123 #[.agg #[.int .u64 bn,.int .u64 bV],.agg #[.int .u64 lT,.int .u64 oQ]] w fun e w'=>e = .returned (.bool r)/\Below w.heap.size w w':=by
 have yJ:=Tryz.underlying179;have HB:=aj.mk (Below.refl w.heap.size w);have H:=h;clear h;unfold iG.f at H;by_cases c3:bn=lT
 ·rw [if_pos c3] at H;have gI:(bn == lT)=true:=beq_iff_eq.mpr c3;have xZ:(bn != lT)=false:=bne_eq_false_iff_eq.mpr c3;clear c3;obtain rfl:=Option.some.inj H;go_enter Tryz.func123,Tryz.ntmps123;go_wp2_with (first|((with_reducible refine bG (N:=2) rfl ?_);refine bI zR (N:=2) zR (cs := #[.int .u64 bn,.int .u64 bV]) (t:=179) zG ?_;intro awV hg w4 hbox hb;obtain ⟨HB,xQ,awW,awX⟩:=zA4 (ak zB hb) hbox (zg hg zB) (zg hg zB);clear hb hbox hg)|((with_reducible refine bG (N:=3) rfl ?_);refine bI zR (N:=3) zR (cs := #[.int .u64 lT,.int .u64 oQ]) (t:=179) zG ?_;intro awY hg w5 hbox hb;obtain ⟨xQ,HB,ahI,awZ,aw0,ae6,ae7⟩:=zA7 (aA (zK xQ) hb) (ak zB hb) hbox (zg hg zB) (zg hg zB) (zl hg (zK xQ)) (zr hg (zK xQ));clear hb hbox hg;have aEa:=ae6.out;have aEb:=ae7.out;obtain ⟨_,_⟩:=zC2 xQ.out;obtain ⟨_,_⟩:=zF2 xQ.out;obtain ⟨_,_⟩:=zC2 ahI.out;obtain ⟨_,_⟩:=zF2 ahI.out));go_ret;exact ⟨zS,zB⟩
 ·rw [if_neg c3] at H;have gI:(bn == lT)=false:=beq_eq_false_iff_ne.mpr c3;have xZ:(bn != lT)=true:=bne_iff_ne.mpr c3;obtain rfl:=Option.some.inj H;go_enter Tryz.func123,Tryz.ntmps123;go_wp2_with (first|((with_reducible refine bG (N:=2) rfl ?_);refine bI zR (N:=2) zR (cs := #[.int .u64 bn,.int .u64 bV]) (t:=179) zG ?_;intro awV hg w9 hbox hb;obtain ⟨HB,xQ,awW,awX⟩:=zA4 (ak zB hb) hbox (zg hg zB) (zg hg zB);clear hb hbox hg)|((with_reducible refine bG (N:=3) rfl ?_);refine bI zR (N:=3) zR (cs := #[.int .u64 lT,.int .u64 oQ]) (t:=179) zG ?_;intro awY hg w10 hbox hb;obtain ⟨xQ,HB,ahI,awZ,aw0,ae6,ae7⟩:=zA7 (aA (zK xQ) hb) (ak zB hb) hbox (zg hg zB) (zg hg zB) (zl hg (zK xQ)) (zr hg (zK xQ));clear hb hbox hg;have aw1:=ae6.out;have aw2:=ae7.out;obtain ⟨_,_⟩:=zC2 xQ.out;obtain ⟨_,_⟩:=zF2 xQ.out;obtain ⟨_,_⟩:=zC2 ahI.out;obtain ⟨_,_⟩:=zF2 ahI.out));go_ret;exact ⟨zS,zB⟩
def bY.j0:Nat->Bool->Int->Int->Option (Int)
 | 0,_,_,_=>none
 | k+1,x13,aAc,auh=>if x13=true then (some (-9223372036854775808)) else (some (wrap64 (-(wrap64 (auh)))))
def bY.f (k:Nat) (bn bV:Int) (a1:Bool):Option (Int):=if a1=true then (if bn > 0 then (bY.j0 k true bn bV) else (bY.j0 k (decide (bV > 9223372036854775807)) bn bV)) else (if bn > 0 then (some 9223372036854775807) else (if bV > 9223372036854775807 then (some 9223372036854775807) else (some (wrap64 (bV)))))
theorem bY.calls (k:Nat) (bn bV:Int) (a1:Bool) (r:Int) (w:World) (h:bY.f k bn bV a1=some r) :
  Calls Tryz.prog 125 #[.agg #[.int .u64 bn,.int .u64 bV],.bool a1] w fun e w'=>e = .returned (.int .i64 r)/\Below w.heap.size w w':=by
 have yJ:=Tryz.underlying179;have HB:=aj.mk (Below.refl w.heap.size w);have H:=h;clear h;unfold bY.f at H;by_cases c3:a1=true
 ·subst c3;rw [if_pos rfl] at H;(try dsimp only at H);have HC4:=aj.mk H;clear H;go_enter Tryz.func125,Tryz.ntmps125;go_upto_region 2 with (first|((with_reducible refine bG (N:=2) rfl ?_);refine bI zR (N:=2) zR (cs := #[.int .u64 bn,.int .u64 bV]) (t:=179) zG ?_;intro aku hg w5 hbox hb;obtain ⟨HB,sJ,aob,aoc⟩:=zA4 (ak zB hb) hbox (zg hg zB) (zg hg zB);clear hb hbox hg))
  (try simp only [Act.put,List.setIfInBounds_toArray,List.set_cons_zero,List.set_cons_succ])
  go_cut [13] (fun v13 wc=>∃ (kq:Nat) (abK:Bool),v13 = .bool abK/\aj (bY.j0 kq abK bn bV=some r)/\aj (kq<=k)/\aj (wc.heap[aku]? = some (.cells #[.int .u64 bn,.int .u64 bV] 179 (0,0)))/\aj (Below w.heap.size w wc))
  case first =>
   have H:=HC4.out;clear HC4;by_cases c6:bn > 0
   ·rw [if_pos c6] at H;have iF:=decide_eq_true c6;clear c6
    (first|rw [iF]|(simp only [cZ,dD];rw [iF])|skip)
    have H':=aj.mk H;clear H;obtain ⟨_,_⟩:=zC2 sJ.out;obtain ⟨_,_⟩:=zF2 sJ.out;go_wp2;go_meet
    case rel=>exact ⟨_,(true),zT,H',⟨by first|omega|exact Nat.le_refl _⟩,⟨zK sJ⟩,⟨zB⟩⟩
   ·rw [if_neg c6] at H;have iF:=decide_eq_false c6;clear c6
    (first|rw [iF]|(simp only [cZ,dD];rw [iF])|skip)
    have H':=aj.mk H;clear H;obtain ⟨_,_⟩:=zC2 sJ.out;obtain ⟨_,_⟩:=zF2 sJ.out;go_wp2;go_meet
    case rel=>exact ⟨_,(decide (bV > 9223372036854775807)),zT,H',⟨by first|omega|exact Nat.le_refl _⟩,⟨zK sJ⟩,⟨zB⟩⟩
  case rest =>
   clear HC4;obtain ⟨kq,abK,rfl,HA,HJ3,sJ,HB⟩:=hcut;cases kq with
   | zero=>exact absurd HA.out (by simp [bY.j0])
   | succ kj3 =>
    have H:=HA.out;clear HA;simp only [bY.j0] at H;by_cases c9:abK=true
    ·subst c9;rw [if_pos rfl] at H;(try dsimp only at H);obtain rfl:=Option.some.inj H;go_wp2;go_ret;exact ⟨zS,zB⟩
    ·replace c9:=Bool.eq_false_iff.mpr c9;subst c9;rw [if_neg (show ¬ (false=true) by decide)] at H;(try dsimp only at H);obtain rfl:=Option.some.inj H;obtain ⟨_,_⟩:=zC2 sJ.out;obtain ⟨_,_⟩:=zF2 sJ.out;go_wp2;go_ret;exact ⟨zS,zB⟩
 ·replace c3:=Bool.eq_false_iff.mpr c3;subst c3;rw [if_neg (show ¬ (false=true) by decide)] at H;(try dsimp only at H);by_cases c11:bn > 0
  ·rw [if_pos c11] at H;have iV:=decide_eq_true c11;clear c11;obtain rfl:=Option.some.inj H;go_enter Tryz.func125,Tryz.ntmps125;go_wp2_with (first|((with_reducible refine bG (N:=2) rfl ?_);refine bI zR (N:=2) zR (cs := #[.int .u64 bn,.int .u64 bV]) (t:=179) zG ?_;intro aku hg w12 hbox hb;obtain ⟨HB,sJ,aob,aoc⟩:=zA4 (ak zB hb) hbox (zg hg zB) (zg hg zB);clear hb hbox hg;obtain ⟨_,_⟩:=zC2 sJ.out;obtain ⟨_,_⟩:=zF2 sJ.out));go_ret;exact ⟨zS,zB⟩
  ·rw [if_neg c11] at H;have iV:=decide_eq_false c11;clear c11;by_cases c14:bV > 9223372036854775807
   ·rw [if_pos c14] at H;have acR:=decide_eq_true c14;clear c14;obtain rfl:=Option.some.inj H;go_enter Tryz.func125,Tryz.ntmps125;go_wp2_with (first|((with_reducible refine bG (N:=2) rfl ?_);refine bI zR (N:=2) zR (cs := #[.int .u64 bn,.int .u64 bV]) (t:=179) zG ?_;intro aku hg w15 hbox hb;obtain ⟨HB,sJ,aob,aoc⟩:=zA4 (ak zB hb) hbox (zg hg zB) (zg hg zB);clear hb hbox hg;obtain ⟨_,_⟩:=zC2 sJ.out;obtain ⟨_,_⟩:=zF2 sJ.out));go_ret;exact ⟨zS,zB⟩
   ·rw [if_neg c14] at H;have acR:=decide_eq_false c14;clear c14;obtain rfl:=Option.some.inj H;go_enter Tryz.func125,Tryz.ntmps125;go_wp2_with (first|((with_reducible refine bG (N:=2) rfl ?_);refine bI zR (N:=2) zR (cs := #[.int .u64 bn,.int .u64 bV]) (t:=179) zG ?_;intro aku hg w17 hbox hb;obtain ⟨HB,sJ,aob,aoc⟩:=zA4 (ak zB hb) hbox (zg hg zB) (zg hg zB);clear hb hbox hg;obtain ⟨_,_⟩:=zC2 sJ.out;obtain ⟨_,_⟩:=zF2 sJ.out));go_ret;exact ⟨zS,zB⟩
def fK.f (bn bV a1:Int):Option (Int):=if a1>=64 then (if 0<=(wrap64 (a1 - 64)) then (some (Go.bits .and .u64 (shr .u64 bn (wrap64 (a1 - 64))) 1)) else (none)) else (if 0<=a1 then (some (Go.bits .and .u64 (shr .u64 bV a1) 1)) else (none))
theorem fK.calls (bn bV a1 r:Int) (w:World) (h:fK.f bn bV a1=some r) :
  Calls Tryz.prog 121 #[.agg #[.int .u64 bn,.int .u64 bV],.int .i64 a1] w fun e w'=>e = .returned (.int .u64 r)/\Below w.heap.size w w':=by
 have yJ:=Tryz.underlying179;have HB:=aj.mk (Below.refl w.heap.size w);have H:=h;clear h;unfold fK.f at H;by_cases c3:a1>=64
 ·rw [if_pos c3] at H;have gI:=decide_eq_true c3;clear c3;obtain ⟨ji4,qo⟩:∃ j_:Int,(wrap64 (a1 - 64))=j_:=⟨_,rfl⟩;replace H:(if 0<=(ji4) then (some (Go.bits .and .u64 (shr .u64 bn (ji4)) 1)) else (none))=some r:=(by first|(rw [qo] at H;exact H)|(simp only [qo] at H ⊢;exact H));have aBI:(IntKind.i64.wrap (a1 - 64))=ji4:=(cZ _).trans qo;by_cases c5:0<=(ji4)
  ·rw [if_pos c5] at H;have iy:=eq_true c5;have acn:=decide_eq_true c5;clear c5;obtain ⟨ji6,uH⟩:∃ j_:Int,(shr .u64 bn (ji4))=j_:=⟨_,rfl⟩;replace H:(some (Go.bits .and .u64 (ji6) 1))=some r:=(by first|(rw [uH] at H;exact H)|(simp only [uH] at H ⊢;exact H));have as9:(bn / 2 ^ min (ji4).toNat 64)=ji6:=uH;have aw3:(ji4)<=64->(bn / 2 ^ (ji4).toNat)=ji6:=qE uH;obtain rfl:=Option.some.inj H;go_enter Tryz.func121,Tryz.ntmps121;go_wp2_with (first|((with_reducible refine bG (N:=2) rfl ?_);refine bI zR (N:=2) zR (cs := #[.int .u64 bn,.int .u64 bV]) (t:=179) zG ?_;intro aw4 hg w7 hbox hb;obtain ⟨HB,ahJ,aw5,aw6⟩:=zA4 (ak zB hb) hbox (zg hg zB) (zg hg zB);clear hb hbox hg;obtain ⟨_,_⟩:=zC2 ahJ.out;obtain ⟨_,_⟩:=zF2 ahJ.out));go_ret;exact ⟨by first|rfl|(simp [bJ,bK] <;> rfl)|(simp only [<- qo,<- uH];first|rfl|(simp [bJ,bK] <;> rfl))|(simp [*,bJ,bK] <;> rfl),zB⟩
  ·rw [if_neg c5] at H;exact absurd H (by simp)
 ·rw [if_neg c3] at H;have gI:=decide_eq_false c3;clear c3;by_cases c9:0<=a1
  ·rw [if_pos c9] at H;have qH:=eq_true c9;have ab5:=decide_eq_true c9;clear c9;obtain ⟨dJ,jT⟩:∃ j_:Int,(shr .u64 bV a1)=j_:=⟨_,rfl⟩;replace H:(some (Go.bits .and .u64 (dJ) 1))=some r:=(by first|(rw [jT] at H;exact H)|(simp only [jT] at H ⊢;exact H));have alp:(bV / 2 ^ min a1.toNat 64)=dJ:=jT;have apO:a1<=64->(bV / 2 ^ a1.toNat)=dJ:=qE jT;obtain rfl:=Option.some.inj H;go_enter Tryz.func121,Tryz.ntmps121;go_wp2_with (first|((with_reducible refine bG (N:=2) rfl ?_);refine bI zR (N:=2) zR (cs := #[.int .u64 bn,.int .u64 bV]) (t:=179) zG ?_;intro aw4 hg w11 hbox hb;obtain ⟨HB,ahJ,aw5,aw6⟩:=zA4 (ak zB hb) hbox (zg hg zB) (zg hg zB);clear hb hbox hg;obtain ⟨_,_⟩:=zC2 ahJ.out;obtain ⟨_,_⟩:=zF2 ahJ.out));go_ret;exact ⟨by first|rfl|(simp [bJ,bK] <;> rfl)|(simp only [<- jT];first|rfl|(simp [bJ,bK] <;> rfl))|(simp [*,bJ,bK] <;> rfl),zB⟩
  ·rw [if_neg c9] at H;exact absurd H (by simp)
def kH.f (bn bV lT oQ:Int):Option (Int × Int):=if bV < oQ then (some (IntKind.u64.wrap ((IntKind.u64.wrap (bn - lT)) - 1),IntKind.u64.wrap (bV - oQ))) else (some (IntKind.u64.wrap (bn - lT),IntKind.u64.wrap (bV - oQ)))
theorem kH.calls (bn bV lT oQ r1 r2:Int) (w:World) (h:kH.f bn bV lT oQ=some (r1,r2)) :
  Calls Tryz.prog 122 #[.agg #[.int .u64 bn,.int .u64 bV],.agg #[.int .u64 lT,.int .u64 oQ]] w fun e w'=>e = .returned (.agg #[.int .u64 r1,.int .u64 r2])/\Below w.heap.size w w':=by
 have yJ:=Tryz.underlying179;have HB:=aj.mk (Below.refl w.heap.size w);have H:=h;clear h;unfold kH.f at H;by_cases c3:bV < oQ
 ·rw [if_pos c3] at H;have gI:=decide_eq_true c3;clear c3;simp only [Option.some.injEq,Prod.mk.injEq] at H;obtain ⟨rfl,rfl⟩:=H;go_enter Tryz.func122,Tryz.ntmps122;go_wp2_with (first|((with_reducible refine bG (N:=2) rfl ?_);refine bI zR (N:=2) zR (cs := #[.int .u64 bn,.int .u64 bV]) (t:=179) zG ?_;intro aw7 hg w4 hbox hb;obtain ⟨HB,kJ,aw8,aw9⟩:=zA4 (ak zB hb) hbox (zg hg zB) (zg hg zB);clear hb hbox hg)|((with_reducible refine bG (N:=3) rfl ?_);refine bI zR (N:=3) zR (cs := #[.int .u64 lT,.int .u64 oQ]) (t:=179) zG ?_;intro axa hg w5 hbox hb;obtain ⟨kJ,HB,nS,axb,axc,ae8,ae9⟩:=zA7 (aA (zK kJ) hb) (ak zB hb) hbox (zg hg zB) (zg hg zB) (zl hg (zK kJ)) (zr hg (zK kJ));clear hb hbox hg)|((with_reducible refine bG (N:=4) rfl ?_);refine bI zR (N:=4) zR (cs := #[.int .u64 0,.int .u64 0]) (t:=179) zG ?_;intro aod hg w6 hbox hb;obtain ⟨kJ,nS,HB,vW,axd,axe,afa,afb,afc,afd⟩:=aeG (aA (zK kJ) hb) (aA (zK nS) hb) (ak zB hb) hbox (zg hg zB) (zg hg zB) (zl hg (zK kJ)) (zr hg (zK kJ)) (zl hg (zK nS)) (zr hg (zK nS));clear hb hbox hg;have avh:=ae8.out;have avi:=ae9.out;have avj:=afa.out;have avk:=afb.out;obtain ⟨_,_⟩:=zC2 kJ.out;obtain ⟨_,_⟩:=zF2 kJ.out;have awK:=afc.out;have awL:=afd.out;obtain ⟨_,_⟩:=zC2 nS.out;obtain ⟨_,_⟩:=zF2 nS.out)|((with_reducible refine bG (N:=5) rfl ?_);refine bI zR (N:=5) zR (cs := #[.int .u64 0,.int .u64 0]) (t:=179) zG ?_;intro axf hg w12 hbox hb;obtain ⟨kJ,nS,vW,HB,ahK,axg,axh,afe,aff,afg,afh,vJ,afi⟩:=agC (aA (zK kJ) hb) (aA (zK nS) hb) (aA (zK vW) hb) (ak zB hb) hbox (zg hg zB) (zg hg zB) (zl hg (zK kJ)) (zr hg (zK kJ)) (zl hg (zK nS)) (zr hg (zK nS)) (zl hg (zK vW)) (zr hg (zK vW));clear hb hbox hg;have an5:=aff.out;have an6:=afe.out;have as1:=afh.out;have as2:=afg.out;have awP:=afi.out;have awQ:=vJ.out;obtain ⟨_,_⟩:=zC2 ahK.out;obtain ⟨_,_⟩:=zF2 ahK.out;obtain ⟨_,_⟩:=zC2 kJ.out;obtain ⟨_,_⟩:=zF2 kJ.out;obtain ⟨_,_⟩:=zC2 nS.out;obtain ⟨_,_⟩:=zF2 nS.out;obtain ⟨_,_⟩:=zC2 vW.out;obtain ⟨_,_⟩:=zF2 vW.out));refine bodyPost_ret (results_cell_row rfl _ _ aod 179 #[.int .u64 (IntKind.u64.wrap ((IntKind.u64.wrap (bn - lT)) - 1)),.int .u64 (IntKind.u64.wrap (bV - oQ))] (0,0) _ rfl (by refine zD ?_;refine aY (cs := #[.int .u64 (IntKind.u64.wrap ((IntKind.u64.wrap (bn - lT)) - 1)),.int .u64 0]) ?_ 1 _ rfl;refine zD ?_;refine aY (cs := #[.int .u64 0,.int .u64 0]) ?_ 0 _ rfl;refine zD ?_;refine kN ?_ vJ.out _;refine zD ?_;refine kN ?_ vJ.out _;refine zD ?_;refine kN ?_ vJ.out _;refine zD ?_;exact vW.out) Tryz.underlying179 rfl (by kernel_rfl)) rfl ?_;exact ⟨zS,zB⟩
 ·rw [if_neg c3] at H;have gI:=decide_eq_false c3;clear c3;simp only [Option.some.injEq,Prod.mk.injEq] at H;obtain ⟨rfl,rfl⟩:=H;go_enter Tryz.func122,Tryz.ntmps122;go_wp2_with (first|((with_reducible refine bG (N:=2) rfl ?_);refine bI zR (N:=2) zR (cs := #[.int .u64 bn,.int .u64 bV]) (t:=179) zG ?_;intro aw7 hg w20 hbox hb;obtain ⟨HB,kJ,aw8,aw9⟩:=zA4 (ak zB hb) hbox (zg hg zB) (zg hg zB);clear hb hbox hg)|((with_reducible refine bG (N:=3) rfl ?_);refine bI zR (N:=3) zR (cs := #[.int .u64 lT,.int .u64 oQ]) (t:=179) zG ?_;intro axa hg w21 hbox hb;obtain ⟨kJ,HB,nS,axb,axc,ae8,ae9⟩:=zA7 (aA (zK kJ) hb) (ak zB hb) hbox (zg hg zB) (zg hg zB) (zl hg (zK kJ)) (zr hg (zK kJ));clear hb hbox hg)|((with_reducible refine bG (N:=4) rfl ?_);refine bI zR (N:=4) zR (cs := #[.int .u64 0,.int .u64 0]) (t:=179) zG ?_;intro aod hg w22 hbox hb;obtain ⟨kJ,nS,HB,vW,axd,axe,afa,afb,afc,afd⟩:=aeG (aA (zK kJ) hb) (aA (zK nS) hb) (ak zB hb) hbox (zg hg zB) (zg hg zB) (zl hg (zK kJ)) (zr hg (zK kJ)) (zl hg (zK nS)) (zr hg (zK nS));clear hb hbox hg;have an7:=ae8.out;have an8:=ae9.out;have aBJ:=afa.out;have aBK:=afb.out;obtain ⟨_,_⟩:=zC2 kJ.out;obtain ⟨_,_⟩:=zF2 kJ.out;have axi:=afc.out;have axj:=afd.out;obtain ⟨_,_⟩:=zC2 nS.out;obtain ⟨_,_⟩:=zF2 nS.out)|((with_reducible refine bG (N:=5) rfl ?_);refine bI zR (N:=5) zR (cs := #[.int .u64 0,.int .u64 0]) (t:=179) zG ?_;intro axf hg w28 hbox hb;obtain ⟨kJ,nS,vW,HB,ahK,axg,axh,afe,aff,afg,afh,vJ,afi⟩:=agC (aA (zK kJ) hb) (aA (zK nS) hb) (aA (zK vW) hb) (ak zB hb) hbox (zg hg zB) (zg hg zB) (zl hg (zK kJ)) (zr hg (zK kJ)) (zl hg (zK nS)) (zr hg (zK nS)) (zl hg (zK vW)) (zr hg (zK vW));clear hb hbox hg;have an9:=aff.out;have aoa:=afe.out;have as5:=afh.out;have as6:=afg.out;have aBL:=afi.out;have aBM:=vJ.out;obtain ⟨_,_⟩:=zC2 ahK.out;obtain ⟨_,_⟩:=zF2 ahK.out;obtain ⟨_,_⟩:=zC2 kJ.out;obtain ⟨_,_⟩:=zF2 kJ.out;obtain ⟨_,_⟩:=zC2 nS.out;obtain ⟨_,_⟩:=zF2 nS.out;obtain ⟨_,_⟩:=zC2 vW.out;obtain ⟨_,_⟩:=zF2 vW.out));refine bodyPost_ret (results_cell_row rfl _ _ aod 179 #[.int .u64 (IntKind.u64.wrap (bn - lT)),.int .u64 (IntKind.u64.wrap (bV - oQ))] (0,0) _ rfl (by refine zD ?_;refine aY (cs := #[.int .u64 (IntKind.u64.wrap (bn - lT)),.int .u64 0]) ?_ 1 _ rfl;refine zD ?_;refine aY (cs := #[.int .u64 0,.int .u64 0]) ?_ 0 _ rfl;refine zD ?_;refine kN ?_ vJ.out _;refine zD ?_;refine kN ?_ vJ.out _;refine zD ?_;exact vW.out) Tryz.underlying179 rfl (by kernel_rfl)) rfl ?_;exact ⟨zS,zB⟩
def fH.l0:Nat->Int->Int->Int->Int->Int->Int->Int->Int->Option (Int × Int × Int)
 | 0,_,_,_,_,_,_,_,_=>none
 | k+1,x1,x8,aiS,aiT,ana,anb,aui,anc=>if x8>=0 then ((fK.f aiS aiT x8).bind fun afj=>((dM.f aui anc afj).bind fun af4=>((dM.f ana anb 0).bind fun akv=>((iG.f af4.1 af4.2 0 x1).bind fun aqK=>(if aqK=true then (fH.l0 k x1 (wrap64 (x8 - 1)) aiS aiT akv.1 akv.2 af4.1 af4.2) else ((kH.f af4.1 af4.2 0 x1).bind fun ata=>(fH.l0 k x1 (wrap64 (x8 - 1)) aiS aiT akv.1 (IntKind.u64.wrap (akv.2+1)) ata.1 ata.2))))))) else (some (ana,anb,anc))
def fH.f (k:Nat) (bn bV a1:Int):Option (Int × Int × Int):=if a1=0 then (some (0,0,0)) else (fH.l0 k a1 127 bn bV 0 0 0 0)
theorem fH.calls (k:Nat) (bn bV a1 r1 r2 r3:Int) (w:World) (h:fH.f k bn bV a1=some (r1,r2,r3)) :
  Calls Tryz.prog 172 #[.agg #[.int .u64 bn,.int .u64 bV],.int .u64 a1] w fun e w'=>e = .returned (.tuple #[.agg #[.int .u64 r1,.int .u64 r2],.int .u64 r3])/\Below w.heap.size w w':=by
 have yJ:=Tryz.underlying179;have HB:=aj.mk (Below.refl w.heap.size w);have H:=h;clear h;unfold fH.f at H;by_cases c3:a1=0
 ·rw [if_pos c3] at H;have gI:(a1 == 0)=true:=beq_iff_eq.mpr c3;have xZ:(a1 != 0)=false:=bne_eq_false_iff_eq.mpr c3;clear c3;simp only [Option.some.injEq,Prod.mk.injEq] at H;obtain ⟨rfl,rfl,rfl⟩:=H;go_enter Tryz.func172,Tryz.ntmps172;go_wp2_with (first|((with_reducible refine bG (N:=2) rfl ?_);refine bI zR (N:=2) zR (cs := #[.int .u64 bn,.int .u64 bV]) (t:=179) zG ?_;intro af5 hg w4 hbox hb;obtain ⟨HB,fE,axk,axl⟩:=zA4 (ak zB hb) hbox (zg hg zB) (zg hg zB);clear hb hbox hg)|((with_reducible refine bG (N:=4) rfl ?_);refine bI zR (N:=4) zR (cs := #[.int .u64 0,.int .u64 0]) (t:=179) zG ?_;intro wX hg w5 hbox hb;obtain ⟨fE,HB,iq,axn,axo,acS,acT⟩:=zA7 (aA (zK fE) hb) (ak zB hb) hbox (zg hg zB) (zg hg zB) (zl hg (zK fE)) (zr hg (zK fE));clear hb hbox hg)|((with_reducible refine bG (N:=6) rfl ?_);refine bI zR (N:=6) zR (cs := #[.int .u64 0,.int .u64 0]) (t:=179) zG ?_;intro uK hg w6 hbox hb;obtain ⟨fE,iq,HB,gQ,axp,axq,abd,abe,xB,qM⟩:=aeG (aA (zK fE) hb) (aA (zK iq) hb) (ak zB hb) hbox (zg hg zB) (zg hg zB) (zl hg (zK fE)) (zr hg (zK fE)) (zl hg (zK iq)) (zr hg (zK iq));clear hb hbox hg;have avh:=abe.out;have avi:=abd.out;have avj:=qM.out;have avk:=xB.out;obtain ⟨_,_⟩:=zC2 gQ.out;obtain ⟨_,_⟩:=zF2 gQ.out)|((with_reducible refine bG (N:=7) rfl ?_);refine bI zR (N:=7) zR (cs := #[.int .u64 0,.int .u64 0]) (t:=179) zG ?_;intro sK hg w10 hbox hb;obtain ⟨fE,iq,gQ,HB,fJ,axr,axt,tK,tN,oI,l7,qN,rH⟩:=agC (aA (zK fE) hb) (aA (zK iq) hb) (aA (g:=uK) (o := .cells #[.int .u64 0,.int .u64 0] 179 (0,0)) (by refine zD ?_;refine aY (cs := #[.int .u64 0,.int .u64 0]) ?_ 1 _ rfl;refine zD ?_;refine aY (cs := #[.int .u64 0,.int .u64 0]) ?_ 0 _ rfl;refine zD ?_;exact gQ.out) hb) (ak zB hb) hbox (zg hg zB) (zg hg zB) (zl hg (zK fE)) (zr hg (zK fE)) (zl hg (zK iq)) (zr hg (zK iq)) ((by rw [hg];exact Nat.ne_of_lt (bD (g:=uK) (o := .cells #[.int .u64 0,.int .u64 0] 179 (0,0)) (by refine zD ?_;refine aY (cs := #[.int .u64 0,.int .u64 0]) ?_ 1 _ rfl;refine zD ?_;refine aY (cs := #[.int .u64 0,.int .u64 0]) ?_ 0 _ rfl;refine zD ?_;exact gQ.out)):uK≠sK)) ((by rw [hg];exact Nat.ne_of_gt (bD (g:=uK) (o := .cells #[.int .u64 0,.int .u64 0] 179 (0,0)) (by refine zD ?_;refine aY (cs := #[.int .u64 0,.int .u64 0]) ?_ 1 _ rfl;refine zD ?_;refine aY (cs := #[.int .u64 0,.int .u64 0]) ?_ 0 _ rfl;refine zD ?_;exact gQ.out)):sK≠uK));clear hb hbox hg;have aw1:=tN.out;have aw2:=tK.out;have axu:=l7.out;have axv:=oI.out;have an5:=rH.out;have an6:=qN.out;obtain ⟨_,_⟩:=zC2 fJ.out;obtain ⟨_,_⟩:=zF2 fJ.out;obtain ⟨_,_⟩:=zC2 gQ.out;obtain ⟨_,_⟩:=zF2 gQ.out;have axw:=acT.out;have axx:=acS.out;obtain ⟨_,_⟩:=zC2 iq.out;obtain ⟨_,_⟩:=zF2 iq.out));refine bodyPost_ret (ahp rfl _ _ wX 179 #[.int .u64 0,.int .u64 0] (0,0) _ rfl (by refine zD ?_;refine aY (cs := #[.int .u64 0,.int .u64 0]) ?_ 1 _ rfl;refine zD ?_;refine aY (cs := #[.int .u64 0,.int .u64 0]) ?_ 0 _ rfl;refine zD ?_;refine kN ?_ oI.out _;refine zD ?_;refine kN ?_ oI.out _;refine zD ?_;exact iq.out) Tryz.underlying179 rfl (by kernel_rfl)) rfl ?_;exact ⟨zS,zB⟩
 ·rw [if_neg c3] at H;have gI:(a1 == 0)=false:=beq_eq_false_iff_ne.mpr c3;have xZ:(a1 != 0)=true:=bne_iff_ne.mpr c3;have H':=aj.mk H;clear H;go_enter Tryz.func172,Tryz.ntmps172;go_wp2_with (first|((with_reducible refine bG (N:=2) rfl ?_);refine bI zR (N:=2) zR (cs := #[.int .u64 bn,.int .u64 bV]) (t:=179) zG ?_;intro af5 hg w18 hbox hb;obtain ⟨HB,fE,axk,axl⟩:=zA4 (ak zB hb) hbox (zg hg zB) (zg hg zB);clear hb hbox hg)|((with_reducible refine bG (N:=4) rfl ?_);refine bI zR (N:=4) zR (cs := #[.int .u64 0,.int .u64 0]) (t:=179) zG ?_;intro wX hg w19 hbox hb;obtain ⟨fE,HB,iq,axn,axo,acS,acT⟩:=zA7 (aA (zK fE) hb) (ak zB hb) hbox (zg hg zB) (zg hg zB) (zl hg (zK fE)) (zr hg (zK fE));clear hb hbox hg)|((with_reducible refine bG (N:=6) rfl ?_);refine bI zR (N:=6) zR (cs := #[.int .u64 0,.int .u64 0]) (t:=179) zG ?_;intro uK hg w20 hbox hb;obtain ⟨fE,iq,HB,gQ,axp,axq,abd,abe,xB,qM⟩:=aeG (aA (zK fE) hb) (aA (zK iq) hb) (ak zB hb) hbox (zg hg zB) (zg hg zB) (zl hg (zK fE)) (zr hg (zK fE)) (zl hg (zK iq)) (zr hg (zK iq));clear hb hbox hg;have aBN:=abe.out;have aBO:=abd.out;have as3:=qM.out;have as4:=xB.out;obtain ⟨_,_⟩:=zC2 gQ.out;obtain ⟨_,_⟩:=zF2 gQ.out)|((with_reducible refine bG (N:=7) rfl ?_);refine bI zR (N:=7) zR (cs := #[.int .u64 0,.int .u64 0]) (t:=179) zG ?_;intro sK hg w24 hbox hb;obtain ⟨fE,iq,gQ,HB,fJ,axr,axt,tK,tN,oI,l7,qN,rH⟩:=agC (aA (zK fE) hb) (aA (zK iq) hb) (aA (g:=uK) (o := .cells #[.int .u64 0,.int .u64 0] 179 (0,0)) (by refine zD ?_;refine aY (cs := #[.int .u64 0,.int .u64 0]) ?_ 1 _ rfl;refine zD ?_;refine aY (cs := #[.int .u64 0,.int .u64 0]) ?_ 0 _ rfl;refine zD ?_;exact gQ.out) hb) (ak zB hb) hbox (zg hg zB) (zg hg zB) (zl hg (zK fE)) (zr hg (zK fE)) (zl hg (zK iq)) (zr hg (zK iq)) ((by rw [hg];exact Nat.ne_of_lt (bD (g:=uK) (o := .cells #[.int .u64 0,.int .u64 0] 179 (0,0)) (by refine zD ?_;refine aY (cs := #[.int .u64 0,.int .u64 0]) ?_ 1 _ rfl;refine zD ?_;refine aY (cs := #[.int .u64 0,.int .u64 0]) ?_ 0 _ rfl;refine zD ?_;exact gQ.out)):uK≠sK)) ((by rw [hg];exact Nat.ne_of_gt (bD (g:=uK) (o := .cells #[.int .u64 0,.int .u64 0] 179 (0,0)) (by refine zD ?_;refine aY (cs := #[.int .u64 0,.int .u64 0]) ?_ 1 _ rfl;refine zD ?_;refine aY (cs := #[.int .u64 0,.int .u64 0]) ?_ 0 _ rfl;refine zD ?_;exact gQ.out)):sK≠uK));clear hb hbox hg;have awR:=tN.out;have awS:=tK.out;have axi:=l7.out;have axj:=oI.out;have aBP:=rH.out;have aBQ:=qN.out;obtain ⟨_,_⟩:=zC2 fJ.out;obtain ⟨_,_⟩:=zF2 fJ.out));go_loopg [8] k (fun kq v8 w'=>∃ (iE:Int) (pK:Int) (oJ:Int) (nI:Int) (lG:Int),v8 = .int .i64 iE/\aj (fH.l0 kq a1 iE bn bV pK oJ nI lG=some (r1,r2,r3))/\aj (kq<=k)/\aj (w'.heap[af5]? = some (.cells #[.int .u64 bn,.int .u64 bV] 179 (0,0)))/\aj (w'.heap[wX]? = some (.cells #[.int .u64 0,.int .u64 0] 179 (0,0)))/\aj (w'.heap[uK]? = some (.cells #[.int .u64 pK,.int .u64 oJ] 179 (0,0)))/\aj (w'.heap[sK]? = some (.cells #[.int .u64 nI,.int .u64 lG] 179 (0,0)))/\aj (Below w.heap.size w w'))
  case atStart=>exact ⟨(127),(0),(0),(0),(0),zT,H',⟨Nat.le_refl _⟩,⟨zK fE⟩,⟨zK iq⟩,⟨zK gQ⟩,⟨by refine zD ?_;refine aY (cs := #[.int .u64 0,.int .u64 0]) ?_ 1 _ rfl;refine zD ?_;refine aY (cs := #[.int .u64 0,.int .u64 0]) ?_ 0 _ rfl;refine zD ?_;exact fJ.out⟩,⟨zB⟩⟩
  case round =>
   clear H';obtain ⟨iE,pK,oJ,nI,lG,rfl,HA,HK1,fE,iq,gQ,fJ,HB⟩:=hrel;cases gk with
   | zero=>exact absurd HA.out (by simp [fH.l0])
   | succ k1 =>
    have H:=HA.out;clear HA;simp only [fH.l0] at H;by_cases c29:iE>=0
    ·rw [if_pos c29] at H;have aoe:=decide_eq_true c29;clear c29;replace H:=zO H;obtain ⟨afj,A30,H⟩:=H;try dsimp only at H
     replace H:=zO H;obtain ⟨⟨aak,aaI⟩,A31,H⟩:=H;try dsimp only at H
     replace H:=zO H;obtain ⟨⟨adX,agP⟩,A32,H⟩:=H;try dsimp only at H
     replace H:=zO H;obtain ⟨aqK,A33,H⟩:=H;try dsimp only at H
     by_cases c34:aqK=true
     ·subst c34;rw [if_pos rfl] at H;(try dsimp only at H);have H':=aj.mk H;clear H;try go_wp2
      obtain ⟨fE,iq,gQ,fJ,HB⟩:=zA5 (kP fE.out) (kP iq.out) (kP gQ.out) (kP fJ.out) (aZ HB.out);refine adr (n:=6) (S:=fun w'=>w'.cell? ⟨sK,0,none⟩=some (.int .u64 nI)/\w'.cell? ⟨sK,1,none⟩=some (.int .u64 lG)/\w'.cell? ⟨af5,0,none⟩=some (.int .u64 bn)/\w'.cell? ⟨af5,1,none⟩=some (.int .u64 bV)) (ds:=[5]) #[false,false,false,false,false,false] (by kernel_rfl) rfl rfl ⟨(au fJ.out 0).trans rfl,(au fJ.out 1).trans rfl,(au fE.out 0).trans rfl,(au fE.out 1).trans rfl⟩ (fun hHeld => ?_);generalize wr.drew=w35 at fE iq gQ fJ HB hHeld ⊢;refine yE (i:=2) (N:=some 20) (v := ?_) (a' := ?_) #[false,false,true,false,false,false] rfl rfl (by kernel_rfl) (fun _ _ _ h=>h) (Or.inl ⟨by rfl,?_⟩) ?_ ?_;rotate_left
      ·intro w';go_simp
       with_reducible rfl
      rotate_left
      ·simp only [Act.put,List.setIfInBounds_toArray,List.set_cons_zero,List.set_cons_succ,cZ,dD];rfl
      refine zI (i:=0) (N:=some 18) (v := ?_) (a' := ?_) #[true,false,true,false,false,false] rfl rfl (by kernel_rfl) (fun _ _ _ h=>h) (Or.inl ⟨by rfl,?_⟩) hHeld ?_ ?_;rotate_left
      ·rintro w' ⟨s0,s1,s2,s3⟩;go_simp
       with_reducible rfl
      rotate_left
      ·simp only [Act.put,List.setIfInBounds_toArray,List.set_cons_zero,List.set_cons_succ,cZ,dD];rfl
      refine zI (i:=1) (N:=some 19) (v := ?_) (a' := ?_) #[true,true,true,false,false,false] rfl rfl (by kernel_rfl) (fun _ _ _ h=>h) (Or.inl ⟨by rfl,?_⟩) hHeld ?_ ?_;rotate_left
      ·rintro w' ⟨s0,s1,s2,s3⟩;go_simp
       with_reducible rfl
      rotate_left
      ·simp only [Act.put,List.setIfInBounds_toArray,List.set_cons_zero,List.set_cons_succ,cZ,dD];rfl
      refine abZ (i:=3) (N:=some 21) #[true,true,true,true,false,false] rfl rfl (by kernel_rfl) (by decide) (fun K hK => ?_);refine aaW Tryz.func121 (by kernel_rfl) rfl #[.agg #[.int .u64 bn,.int .u64 bV],.int .i64 iE] (by rfl) rfl rfl zL ?_;with_reducible refine (fK.calls bn bV iE afj _ A30.out).mono ?_
      rintro e w36 ⟨rfl,hb⟩;refine ⟨_,rfl,?_⟩;obtain ⟨fE,iq,gQ,fJ,HB⟩:=zA5 (aA (zK fE) hb) (aA (zK iq) hb) (aA (zK gQ) hb) (aA (zK fJ) hb) (ak zB hb)
      (try clear hb)
      (try clear hb2)
      (try clear hk)
      (try clear hi)
      refine hK.out _ _ ⟨(au fJ.out 0).trans rfl,(au fJ.out 1).trans rfl,(au fE.out 0).trans rfl,(au fE.out 1).trans rfl⟩ (fun hHeld => ?_);clear hK K;refine aaV (a' := ?_) ?_ ?_;rotate_left
      ·show Act.put _ (some 21) _=_
       simp only [Act.put,List.setIfInBounds_toArray,List.set_cons_zero,List.set_cons_succ,cZ,dD];rfl
      refine abZ (i:=4) (N:=some 22) #[true,true,true,true,true,false] rfl rfl (by kernel_rfl) (by decide) (fun K hK => ?_);refine aaW Tryz.func119 (by kernel_rfl) rfl #[.agg #[.int .u64 nI,.int .u64 lG],.int .u64 afj] (by rfl) rfl rfl zL ?_;with_reducible refine (dM.calls nI lG afj aak aaI _ A31.out).mono ?_
      rintro e w37 ⟨rfl,hb⟩;refine ⟨_,rfl,?_⟩;obtain ⟨fE,iq,gQ,fJ,HB⟩:=zA5 (aA (zK fE) hb) (aA (zK iq) hb) (aA (zK gQ) hb) (aA (zK fJ) hb) (ak zB hb)
      (try clear hb)
      (try clear hb2)
      (try clear hk)
      (try clear hi)
      refine hK.out _ _ ⟨(au fJ.out 0).trans rfl,(au fJ.out 1).trans rfl,(au fE.out 0).trans rfl,(au fE.out 1).trans rfl⟩ (fun hHeld => ?_);clear hK K;refine aaV (a' := ?_) ?_ ?_;rotate_left
      ·show Act.put _ (some 22) _=_
       simp only [Act.put,List.setIfInBounds_toArray,List.set_cons_zero,List.set_cons_succ,cZ,dD];rfl
      refine akn (i:=5) (N:=none) #[true,true,true,true,true,true] rfl rfl (by kernel_rfl) (by decide) (fun K hK => ?_);have aEc:w37.cell? ⟨sK,0,none⟩=some (.int .u64 nI):=(au fJ.out 0).trans rfl;have aBR:=aN fJ.out 0;have aAd:=tK.out;have aAe:=oI.out;have aAf:=qN.out;have aAg:=tN.out;have aAh:=l7.out;have aAi:=rH.out;have aEd:w37.cell? ⟨sK,1,none⟩=some (.int .u64 lG):=(au fJ.out 1).trans rfl;have aBS:=aN fJ.out 1;have aAj:=tK.out;have aAk:=oI.out;have aAl:=qN.out;have aAm:=tN.out;have aAn:=l7.out;have aAo:=rH.out;refine aho (w1 := ?_) (by rfl) rfl ?_ ?_;rotate_left
      ·go_simp
       rfl
      refine hK.out _ _ ?_;clear hK K;refine afQ (by kernel_rfl) ?_;have atb:=abe.out;have atc:=abd.out;have axy:=qM.out;have axz:=xB.out;have aBT:=qN.out;have aBU:=rH.out;obtain ⟨_,_⟩:=zC2 gQ.out;obtain ⟨_,_⟩:=zF2 gQ.out;try go_wp2_with (first|((with_reducible refine ay (f:=119) rfl ?_);refine aH (some 24) rfl rfl Tryz.func119 (by kernel_rfl) rfl #[.agg #[.int .u64 pK,.int .u64 oJ],.int .u64 0] rfl zL ?_;(with_reducible refine (dM.calls pK oJ 0 adX agP _ A32.out).mono ?_);rintro e w44 ⟨rfl,hb⟩;refine ⟨_,rfl,?_⟩;obtain ⟨fE,iq,gQ,fJ,HB⟩:=zA5 (aA (zK fE) hb) (aA (zK iq) hb) (aA (zK gQ) hb) (aA (g:=sK) (o := .cells #[.int .u64 aak,.int .u64 aaI] 179 (0,0)) (by refine zD ?_;refine aY (cs := #[.int .u64 aak,.int .u64 lG]) ?_ 1 _ rfl;refine zD ?_;refine aY (cs := #[.int .u64 nI,.int .u64 lG]) ?_ 0 _ rfl;refine zD ?_;exact fJ.out) hb) (ak zB hb);(try clear hb);obtain ⟨_,_⟩:=zC2 gQ.out;obtain ⟨_,_⟩:=zF2 gQ.out;have atd:=tN.out;have ate:=tK.out;have axA:=l7.out;have axB:=oI.out;obtain ⟨_,_⟩:=zC2 fJ.out;obtain ⟨_,_⟩:=zF2 fJ.out)|((with_reducible refine ay (f:=123) rfl ?_);refine aH (some 28) rfl rfl Tryz.func123 (by kernel_rfl) rfl #[.agg #[.int .u64 aak,.int .u64 aaI],.agg #[.int .u64 0,.int .u64 a1]] rfl zL ?_;(with_reducible refine (iG.calls aak aaI 0 a1 true _ A33.out).mono ?_);rintro e w49 ⟨rfl,hb⟩;refine ⟨_,rfl,?_⟩;obtain ⟨fE,iq,gQ,fJ,HB⟩:=zA5 (aA (zK fE) hb) (aA (zK iq) hb) (aA (g:=uK) (o := .cells #[.int .u64 adX,.int .u64 agP] 179 (0,0)) (by refine zD ?_;refine aY (cs := #[.int .u64 adX,.int .u64 oJ]) ?_ 1 _ rfl;refine zD ?_;refine aY (cs := #[.int .u64 pK,.int .u64 oJ]) ?_ 0 _ rfl;refine zD ?_;exact gQ.out) hb) (aA (zK fJ) hb) (ak zB hb);(try clear hb)))
      go_roundg k1
      case measure=>have:=HK1.out;omega
      case rel=>exact ⟨(wrap64 (iE - 1)),(adX),(agP),(aak),(aaI),zT,H',⟨by have:=HK1.out;omega⟩,⟨zK fE⟩,⟨zK iq⟩,⟨zK gQ⟩,⟨zK fJ⟩,⟨zB⟩⟩
     ·replace c34:=Bool.eq_false_iff.mpr c34;subst c34;rw [if_neg (show ¬ (false=true) by decide)] at H;(try dsimp only at H);replace H:=zO H;obtain ⟨⟨aqL,avm⟩,A50,H⟩:=H;try dsimp only at H
      have H':=aj.mk H;clear H;try go_wp2
      obtain ⟨fE,iq,gQ,fJ,HB⟩:=zA5 (kP fE.out) (kP iq.out) (kP gQ.out) (kP fJ.out) (aZ HB.out);refine adr (n:=6) (S:=fun w'=>w'.cell? ⟨sK,0,none⟩=some (.int .u64 nI)/\w'.cell? ⟨sK,1,none⟩=some (.int .u64 lG)/\w'.cell? ⟨af5,0,none⟩=some (.int .u64 bn)/\w'.cell? ⟨af5,1,none⟩=some (.int .u64 bV)) (ds:=[5]) #[false,false,false,false,false,false] (by kernel_rfl) rfl rfl ⟨(au fJ.out 0).trans rfl,(au fJ.out 1).trans rfl,(au fE.out 0).trans rfl,(au fE.out 1).trans rfl⟩ (fun hHeld => ?_);generalize wr.drew=w51 at fE iq gQ fJ HB hHeld ⊢;refine yE (i:=2) (N:=some 20) (v := ?_) (a' := ?_) #[false,false,true,false,false,false] rfl rfl (by kernel_rfl) (fun _ _ _ h=>h) (Or.inl ⟨by rfl,?_⟩) ?_ ?_;rotate_left
      ·intro w';go_simp
       with_reducible rfl
      rotate_left
      ·simp only [Act.put,List.setIfInBounds_toArray,List.set_cons_zero,List.set_cons_succ,cZ,dD];rfl
      refine zI (i:=0) (N:=some 18) (v := ?_) (a' := ?_) #[true,false,true,false,false,false] rfl rfl (by kernel_rfl) (fun _ _ _ h=>h) (Or.inl ⟨by rfl,?_⟩) hHeld ?_ ?_;rotate_left
      ·rintro w' ⟨s0,s1,s2,s3⟩;go_simp
       with_reducible rfl
      rotate_left
      ·simp only [Act.put,List.setIfInBounds_toArray,List.set_cons_zero,List.set_cons_succ,cZ,dD];rfl
      refine zI (i:=1) (N:=some 19) (v := ?_) (a' := ?_) #[true,true,true,false,false,false] rfl rfl (by kernel_rfl) (fun _ _ _ h=>h) (Or.inl ⟨by rfl,?_⟩) hHeld ?_ ?_;rotate_left
      ·rintro w' ⟨s0,s1,s2,s3⟩;go_simp
       with_reducible rfl
      rotate_left
      ·simp only [Act.put,List.setIfInBounds_toArray,List.set_cons_zero,List.set_cons_succ,cZ,dD];rfl
      refine abZ (i:=3) (N:=some 21) #[true,true,true,true,false,false] rfl rfl (by kernel_rfl) (by decide) (fun K hK => ?_);refine aaW Tryz.func121 (by kernel_rfl) rfl #[.agg #[.int .u64 bn,.int .u64 bV],.int .i64 iE] (by rfl) rfl rfl zL ?_;with_reducible refine (fK.calls bn bV iE afj _ A30.out).mono ?_
      rintro e w52 ⟨rfl,hb⟩;refine ⟨_,rfl,?_⟩;obtain ⟨fE,iq,gQ,fJ,HB⟩:=zA5 (aA (zK fE) hb) (aA (zK iq) hb) (aA (zK gQ) hb) (aA (zK fJ) hb) (ak zB hb)
      (try clear hb)
      (try clear hb2)
      (try clear hk)
      (try clear hi)
      refine hK.out _ _ ⟨(au fJ.out 0).trans rfl,(au fJ.out 1).trans rfl,(au fE.out 0).trans rfl,(au fE.out 1).trans rfl⟩ (fun hHeld => ?_);clear hK K;refine aaV (a' := ?_) ?_ ?_;rotate_left
      ·show Act.put _ (some 21) _=_
       simp only [Act.put,List.setIfInBounds_toArray,List.set_cons_zero,List.set_cons_succ,cZ,dD];rfl
      refine abZ (i:=4) (N:=some 22) #[true,true,true,true,true,false] rfl rfl (by kernel_rfl) (by decide) (fun K hK => ?_);refine aaW Tryz.func119 (by kernel_rfl) rfl #[.agg #[.int .u64 nI,.int .u64 lG],.int .u64 afj] (by rfl) rfl rfl zL ?_;with_reducible refine (dM.calls nI lG afj aak aaI _ A31.out).mono ?_
      rintro e w53 ⟨rfl,hb⟩;refine ⟨_,rfl,?_⟩;obtain ⟨fE,iq,gQ,fJ,HB⟩:=zA5 (aA (zK fE) hb) (aA (zK iq) hb) (aA (zK gQ) hb) (aA (zK fJ) hb) (ak zB hb)
      (try clear hb)
      (try clear hb2)
      (try clear hk)
      (try clear hi)
      refine hK.out _ _ ⟨(au fJ.out 0).trans rfl,(au fJ.out 1).trans rfl,(au fE.out 0).trans rfl,(au fE.out 1).trans rfl⟩ (fun hHeld => ?_);clear hK K;refine aaV (a' := ?_) ?_ ?_;rotate_left
      ·show Act.put _ (some 22) _=_
       simp only [Act.put,List.setIfInBounds_toArray,List.set_cons_zero,List.set_cons_succ,cZ,dD];rfl
      refine akn (i:=5) (N:=none) #[true,true,true,true,true,true] rfl rfl (by kernel_rfl) (by decide) (fun K hK => ?_);have aEe:w53.cell? ⟨sK,0,none⟩=some (.int .u64 nI):=(au fJ.out 0).trans rfl;have aBV:=aN fJ.out 0;have aAp:=tK.out;have aAq:=oI.out;have aAr:=qN.out;have aAs:=tN.out;have aAt:=l7.out;have aAu:=rH.out;have aEf:w53.cell? ⟨sK,1,none⟩=some (.int .u64 lG):=(au fJ.out 1).trans rfl;have aBW:=aN fJ.out 1;have aAv:=tK.out;have aAw:=oI.out;have aAx:=qN.out;have aAy:=tN.out;have aAz:=l7.out;have aAA:=rH.out;refine aho (w1 := ?_) (by rfl) rfl ?_ ?_;rotate_left
      ·go_simp
       rfl
      refine hK.out _ _ ?_;clear hK K;refine afQ (by kernel_rfl) ?_;have aBX:=abe.out;have aBY:=abd.out;have aBZ:=qM.out;have aB0:=xB.out;have axC:=qN.out;have axD:=rH.out;obtain ⟨_,_⟩:=zC2 gQ.out;obtain ⟨_,_⟩:=zF2 gQ.out;try go_wp2_with (first|((with_reducible refine ay (f:=119) rfl ?_);refine aH (some 24) rfl rfl Tryz.func119 (by kernel_rfl) rfl #[.agg #[.int .u64 pK,.int .u64 oJ],.int .u64 0] rfl zL ?_;(with_reducible refine (dM.calls pK oJ 0 adX agP _ A32.out).mono ?_);rintro e w60 ⟨rfl,hb⟩;refine ⟨_,rfl,?_⟩;obtain ⟨fE,iq,gQ,fJ,HB⟩:=zA5 (aA (zK fE) hb) (aA (zK iq) hb) (aA (zK gQ) hb) (aA (g:=sK) (o := .cells #[.int .u64 aak,.int .u64 aaI] 179 (0,0)) (by refine zD ?_;refine aY (cs := #[.int .u64 aak,.int .u64 lG]) ?_ 1 _ rfl;refine zD ?_;refine aY (cs := #[.int .u64 nI,.int .u64 lG]) ?_ 0 _ rfl;refine zD ?_;exact fJ.out) hb) (ak zB hb);(try clear hb);obtain ⟨_,_⟩:=zC2 gQ.out;obtain ⟨_,_⟩:=zF2 gQ.out;have axE:=tN.out;have axF:=tK.out;have axG:=l7.out;have axH:=oI.out;obtain ⟨_,_⟩:=zC2 fJ.out;obtain ⟨_,_⟩:=zF2 fJ.out)|((with_reducible refine ay (f:=123) rfl ?_);refine aH (some 28) rfl rfl Tryz.func123 (by kernel_rfl) rfl #[.agg #[.int .u64 aak,.int .u64 aaI],.agg #[.int .u64 0,.int .u64 a1]] rfl zL ?_;(with_reducible refine (iG.calls aak aaI 0 a1 false _ A33.out).mono ?_);rintro e w65 ⟨rfl,hb⟩;refine ⟨_,rfl,?_⟩;obtain ⟨fE,iq,gQ,fJ,HB⟩:=zA5 (aA (zK fE) hb) (aA (zK iq) hb) (aA (g:=uK) (o := .cells #[.int .u64 adX,.int .u64 agP] 179 (0,0)) (by refine zD ?_;refine aY (cs := #[.int .u64 adX,.int .u64 oJ]) ?_ 1 _ rfl;refine zD ?_;refine aY (cs := #[.int .u64 pK,.int .u64 oJ]) ?_ 0 _ rfl;refine zD ?_;exact gQ.out) hb) (aA (zK fJ) hb) (ak zB hb);(try clear hb);obtain ⟨_,_⟩:=zC2 fJ.out;obtain ⟨_,_⟩:=zF2 fJ.out)|((with_reducible refine ay (f:=122) rfl ?_);refine aH (some 33) rfl rfl Tryz.func122 (by kernel_rfl) rfl #[.agg #[.int .u64 aak,.int .u64 aaI],.agg #[.int .u64 0,.int .u64 a1]] rfl zL ?_;(with_reducible refine (kH.calls aak aaI 0 a1 aqL avm _ A50.out).mono ?_);rintro e w67 ⟨rfl,hb⟩;refine ⟨_,rfl,?_⟩;obtain ⟨fE,iq,gQ,fJ,HB⟩:=zA5 (aA (zK fE) hb) (aA (zK iq) hb) (aA (zK gQ) hb) (aA (zK fJ) hb) (ak zB hb);(try clear hb);obtain ⟨_,_⟩:=zC2 fJ.out;obtain ⟨_,_⟩:=zF2 fJ.out;obtain ⟨_,_⟩:=zC2 gQ.out;obtain ⟨_,_⟩:=zF2 gQ.out))
      go_roundg k1
      case measure=>have:=HK1.out;omega
      case rel=>exact ⟨(wrap64 (iE - 1)),(adX),(IntKind.u64.wrap (agP+1)),(aqL),(avm),zT,H',⟨by have:=HK1.out;omega⟩,⟨zK fE⟩,⟨zK iq⟩,⟨by refine zD ?_;refine aY (cs := #[.int .u64 adX,.int .u64 agP]) ?_ 1 _ rfl;refine zD ?_;refine kN ?_ qN.out _;refine zD ?_;refine kN ?_ qN.out _;refine zD ?_;exact gQ.out⟩,⟨by refine zD ?_;refine kN ?_ rH.out _;refine zD ?_;refine aY (cs := #[.int .u64 aqL,.int .u64 aaI]) ?_ 1 _ rfl;refine zD ?_;refine aY (cs := #[.int .u64 aak,.int .u64 aaI]) ?_ 0 _ rfl;refine zD ?_;exact fJ.out⟩,⟨zB⟩⟩
    ·rw [if_neg c29] at H;have aoe:=decide_eq_false c29;clear c29;simp only [Option.some.injEq,Prod.mk.injEq] at H;obtain ⟨rfl,rfl,rfl⟩:=H;try go_wp2
     obtain ⟨fE,iq,gQ,fJ,HB⟩:=zA5 (kP fE.out) (kP iq.out) (kP gQ.out) (kP fJ.out) (aZ HB.out);refine adr (n:=5) (S:=fun w'=>w'.cell? ⟨uK,0,none⟩=some (.int .u64 pK)/\w'.cell? ⟨uK,1,none⟩=some (.int .u64 oJ)/\w'.cell? ⟨sK,0,none⟩=some (.int .u64 nI)/\w'.cell? ⟨sK,1,none⟩=some (.int .u64 lG)) (ds:=[]) #[false,false,false,false,false] (by kernel_rfl) rfl rfl ⟨(au gQ.out 0).trans rfl,(au gQ.out 1).trans rfl,(au fJ.out 0).trans rfl,(au fJ.out 1).trans rfl⟩ (fun hHeld => ?_);generalize wr.drew=w70 at fE iq gQ fJ HB hHeld ⊢;refine yE (i:=1) (N:=some 39) (v := ?_) (a' := ?_) #[false,true,false,false,false] rfl rfl (by kernel_rfl) (fun _ _ _ h=>h) (Or.inl ⟨by rfl,?_⟩) ?_ ?_;rotate_left
     ·intro w';go_simp
      with_reducible rfl
     rotate_left
     ·simp only [Act.put,List.setIfInBounds_toArray,List.set_cons_zero,List.set_cons_succ,cZ,dD];rfl
     refine zI (i:=0) (N:=some 38) (v := ?_) (a' := ?_) #[true,true,false,false,false] rfl rfl (by kernel_rfl) (fun _ _ _ h=>h) (Or.inl ⟨by rfl,?_⟩) hHeld ?_ ?_;rotate_left
     ·rintro w' ⟨s0,s1,s2,s3⟩;go_simp
      with_reducible rfl
     rotate_left
     ·simp only [Act.put,List.setIfInBounds_toArray,List.set_cons_zero,List.set_cons_succ,cZ,dD];rfl
     refine zI (i:=2) (N:=some 40) (v := ?_) (a' := ?_) #[true,true,true,false,false] rfl rfl (by kernel_rfl) (fun _ _ _ h=>h) (Or.inl ⟨by rfl,?_⟩) hHeld ?_ ?_;rotate_left
     ·rintro w' ⟨s0,s1,s2,s3⟩;go_simp
      with_reducible rfl
     rotate_left
     ·simp only [Act.put,List.setIfInBounds_toArray,List.set_cons_zero,List.set_cons_succ,cZ,dD];rfl
     refine abZ (i:=3) (N:=none) #[true,true,true,true,false] rfl rfl (by kernel_rfl) (by decide) (fun K hK => ?_);have aEg:w70.cell? ⟨wX,0,none⟩=some (.int .u64 0):=(au iq.out 0).trans rfl;have aB1:=aN iq.out 0;have aAB:=acS.out;have aAC:=qM.out;have aAD:=l7.out;have aAE:=acT.out;have aAF:=xB.out;have aAG:=oI.out;have aEh:w70.cell? ⟨wX,1,none⟩=some (.int .u64 0):=(au iq.out 1).trans rfl;have aB2:=aN iq.out 1;have aAH:=acS.out;have aAI:=qM.out;have aAJ:=l7.out;have aAK:=acT.out;have aAL:=xB.out;have aAM:=oI.out;refine aho (w1 := ?_) (by rfl) rfl ?_ ?_;rotate_left
     ·go_simp
      rfl
     refine hK.out _ _ ⟨((cell_far (p:=⟨wX,_,none⟩) qM.out _).trans (((cell_far (p:=⟨wX,_,none⟩) qM.out _).trans (hHeld.1)))),((cell_far (p:=⟨wX,_,none⟩) qM.out _).trans (((cell_far (p:=⟨wX,_,none⟩) qM.out _).trans (hHeld.2.1)))),((cell_far (p:=⟨wX,_,none⟩) l7.out _).trans (((cell_far (p:=⟨wX,_,none⟩) l7.out _).trans (hHeld.2.2.1)))),((cell_far (p:=⟨wX,_,none⟩) l7.out _).trans (((cell_far (p:=⟨wX,_,none⟩) l7.out _).trans (hHeld.2.2.2))))⟩ (fun hHeld => ?_);clear hK K;refine yE (i:=4) (N:=some 5) (v := ?_) (a' := ?_) #[true,true,true,true,true] rfl rfl (by kernel_rfl) (fun _ _ _ h=>h) (Or.inl ⟨by rfl,?_⟩) ?_ ?_;rotate_left
     ·intro w';go_simp
      with_reducible rfl
     rotate_left
     ·simp only [Act.put,List.setIfInBounds_toArray,List.set_cons_zero,List.set_cons_succ,cZ,dD];rfl
     refine afQ (by kernel_rfl) ?_;try go_wp2
     refine bodyPost_ret (ahp rfl _ _ wX 179 #[.int .u64 pK,.int .u64 oJ] (0,0) _ rfl (by refine zD ?_;refine aY (cs := #[.int .u64 pK,.int .u64 0]) ?_ 1 _ rfl;refine zD ?_;refine aY (cs := #[.int .u64 0,.int .u64 0]) ?_ 0 _ rfl;refine zD ?_;exact iq.out) Tryz.underlying179 rfl (by kernel_rfl)) rfl ?_;exact ⟨zS,zB⟩
def iw.j0:Nat->Bool->Bool->Int->Int->Option (Int)
 | 0,_,_,_,_=>none
 | k+1,x2,x10,ane,anf=>if x10=true then ((gY.f ane anf 0 1).bind fun atf=>((bY.f k atf.1 atf.2 x2).bind fun aqM=>(some aqM))) else ((bY.f k ane anf x2).bind fun aqN=>(some aqN))
def iw.f (k:Nat) (bn bV a1:Int) (a2:Bool):Option (Int):=(fH.f k bn bV a1).bind fun ahL=>((dM.f 0 ahL.2.2 0).bind fun akw=>((iG.f akw.1 akw.2 0 a1).bind fun aof=>(if a2=true then ((iG.f 0 a1 akw.1 akw.2).bind fun aog=>(iw.j0 k a2 aog ahL.1 ahL.2.1)) else (iw.j0 k a2 (!aof) ahL.1 ahL.2.1))))
theorem iw.calls (k:Nat) (bn bV a1:Int) (a2:Bool) (r:Int) (w:World) (h:iw.f k bn bV a1 a2=some r) :
  Calls Tryz.prog 149 #[.agg #[.int .u64 bn,.int .u64 bV],.int .u64 a1,.bool a2] w fun e w'=>e = .returned (.int .i64 r)/\Below w.heap.size w w':=by
 have yJ:=Tryz.underlying179;have HB:=aj.mk (Below.refl w.heap.size w);have H:=h;clear h;unfold iw.f at H;replace H:=zO H;obtain ⟨⟨ade,adf,aqO⟩,A4,H⟩:=H;try dsimp only at H
 replace H:=zO H;obtain ⟨⟨afk,agQ⟩,A5,H⟩:=H;try dsimp only at H
 replace H:=zO H;obtain ⟨aof,A6,H⟩:=H;try dsimp only at H
 have HC7:=aj.mk H;clear H;go_enter Tryz.func149,Tryz.ntmps149;go_upto_if 25 with (first|((with_reducible refine bG (N:=3) rfl ?_);refine bI zR (N:=3) zR (cs := #[.int .u64 bn,.int .u64 bV]) (t:=179) zG ?_;intro axI hg w8 hbox hb;obtain ⟨HB,mO,aB3,aB4⟩:=zA4 (ak zB hb) hbox (zg hg zB) (zg hg zB);clear hb hbox hg;obtain ⟨_,_⟩:=zC2 mO.out;obtain ⟨_,_⟩:=zF2 mO.out)|((with_reducible refine ay (f:=172) rfl ?_);refine aH (some 14) rfl rfl Tryz.func172 (by kernel_rfl) rfl #[.agg #[.int .u64 bn,.int .u64 bV],.int .u64 a1] rfl zL ?_;(with_reducible refine (fH.calls k bn bV a1 ade adf aqO _ A4.out).mono ?_);rintro e w10 ⟨rfl,hb⟩;refine ⟨_,rfl,?_⟩;obtain ⟨mO,HB⟩:=zA2 (aA (zK mO) hb) (ak zB hb);(try clear hb))|((with_reducible refine bG (N:=7) rfl ?_);refine bI zR (N:=7) zR (cs := #[.int .u64 0,.int .u64 0]) (t:=179) zG ?_;intro aoh hg w11 hbox hb;obtain ⟨mO,HB,mP,aB5,aB6,afl,afm⟩:=zA7 (aA (zK mO) hb) (ak zB hb) hbox (zg hg zB) (zg hg zB) (zl hg (zK mO)) (zr hg (zK mO));clear hb hbox hg;have axu:=afm.out;have axv:=afl.out;obtain ⟨_,_⟩:=zC2 mP.out;obtain ⟨_,_⟩:=zF2 mP.out)|((with_reducible refine ay (f:=119) rfl ?_);refine aH (some 19) rfl rfl Tryz.func119 (by kernel_rfl) rfl #[.agg #[.int .u64 0,.int .u64 aqO],.int .u64 0] rfl zL ?_;(with_reducible refine (dM.calls 0 aqO 0 afk agQ _ A5.out).mono ?_);rintro e w14 ⟨rfl,hb⟩;refine ⟨_,rfl,?_⟩;obtain ⟨mO,mP,HB⟩:=zA3 (aA (zK mO) hb) (aA (g:=aoh) (o := .cells #[.int .u64 ade,.int .u64 adf] 179 (0,0)) (by refine zD ?_;refine aY (cs := #[.int .u64 ade,.int .u64 0]) ?_ 1 _ rfl;refine zD ?_;refine aY (cs := #[.int .u64 0,.int .u64 0]) ?_ 0 _ rfl;refine zD ?_;exact mP.out) hb) (ak zB hb);(try clear hb))|((with_reducible refine bG (N:=9) rfl ?_);refine bI zR (N:=9) zR (cs := #[.int .u64 0,.int .u64 0]) (t:=179) zG ?_;intro atg hg w15 hbox hb;obtain ⟨mO,mP,HB,tV,aB7,aB8,ajJ,ajK,acU,acV⟩:=aeG (aA (zK mO) hb) (aA (zK mP) hb) (ak zB hb) hbox (zg hg zB) (zg hg zB) (zl hg (zK mO)) (zr hg (zK mO)) (zl hg (zK mP)) (zr hg (zK mP));clear hb hbox hg;have axw:=ajK.out;have axx:=ajJ.out;have axJ:=acV.out;have axK:=acU.out;obtain ⟨_,_⟩:=zC2 tV.out;obtain ⟨_,_⟩:=zF2 tV.out)|((with_reducible refine ay (f:=123) rfl ?_);refine aH (some 23) rfl rfl Tryz.func123 (by kernel_rfl) rfl #[.agg #[.int .u64 afk,.int .u64 agQ],.agg #[.int .u64 0,.int .u64 a1]] rfl zL ?_;(with_reducible refine (iG.calls afk agQ 0 a1 aof _ A6.out).mono ?_);rintro e w19 ⟨rfl,hb⟩;refine ⟨_,rfl,?_⟩;obtain ⟨mO,mP,tV,HB⟩:=zA4 (aA (zK mO) hb) (aA (zK mP) hb) (aA (g:=atg) (o := .cells #[.int .u64 afk,.int .u64 agQ] 179 (0,0)) (by refine zD ?_;refine aY (cs := #[.int .u64 afk,.int .u64 0]) ?_ 1 _ rfl;refine zD ?_;refine aY (cs := #[.int .u64 0,.int .u64 0]) ?_ 0 _ rfl;refine zD ?_;exact tV.out) hb) (ak zB hb);(try clear hb)))
 (try simp only [Act.put,List.setIfInBounds_toArray,List.set_cons_zero,List.set_cons_succ])
 go_cut [10] (fun v10 wc=>∃ (kq:Nat) (akx:Bool),v10 = .bool akx/\aj (iw.j0 kq a2 akx ade adf=some r)/\aj (kq<=k)/\aj (wc.heap[axI]? = some (.cells #[.int .u64 bn,.int .u64 bV] 179 (0,0)))/\aj (wc.heap[aoh]? = some (.cells #[.int .u64 ade,.int .u64 adf] 179 (0,0)))/\aj (wc.heap[atg]? = some (.cells #[.int .u64 afk,.int .u64 agQ] 179 (0,0)))/\aj (Below w.heap.size w wc))
 case first =>
  have H:=HC7.out;clear HC7;by_cases c20:a2=true
  ·subst c20;rw [if_pos rfl] at H;(try dsimp only at H);replace H:=zO H;obtain ⟨aog,A21,H⟩:=H;try dsimp only at H
   have H':=aj.mk H;clear H;have as3:=ajK.out;have as4:=ajJ.out;have an7:=acV.out;have an8:=acU.out;obtain ⟨_,_⟩:=zC2 tV.out;obtain ⟨_,_⟩:=zF2 tV.out;go_wp2_with (first|((with_reducible refine ay (f:=123) rfl ?_);refine aH (some 29) rfl rfl Tryz.func123 (by kernel_rfl) rfl #[.agg #[.int .u64 0,.int .u64 a1],.agg #[.int .u64 afk,.int .u64 agQ]] rfl zL ?_;(with_reducible refine (iG.calls 0 a1 afk agQ aog _ A21.out).mono ?_);rintro e w25 ⟨rfl,hb⟩;refine ⟨_,rfl,?_⟩;obtain ⟨mO,mP,tV,HB⟩:=zA4 (aA (zK mO) hb) (aA (zK mP) hb) (aA (zK tV) hb) (ak zB hb);(try clear hb)));go_meet
   case rel=>exact ⟨_,(aog),zT,H',⟨by first|omega|exact Nat.le_refl _⟩,⟨zK mO⟩,⟨zK mP⟩,⟨zK tV⟩,⟨zB⟩⟩
  ·replace c20:=Bool.eq_false_iff.mpr c20;subst c20;rw [if_neg (show ¬ (false=true) by decide)] at H;(try dsimp only at H);have H':=aj.mk H;clear H;go_wp2;go_meet
   case rel=>exact ⟨_,(!aof),zT,H',⟨by first|omega|exact Nat.le_refl _⟩,⟨zK mO⟩,⟨zK mP⟩,⟨zK tV⟩,⟨zB⟩⟩
 case rest =>
  clear HC7;obtain ⟨kq,akx,rfl,HA,HJ6,mO,mP,tV,HB⟩:=hcut;cases kq with
  | zero=>exact absurd HA.out (by simp [iw.j0])
  | succ kj6 =>
   have H:=HA.out;clear HA;simp only [iw.j0] at H;by_cases c26:akx=true
   ·subst c26;rw [if_pos rfl] at H;(try dsimp only at H);replace H:=zO H;obtain ⟨⟨alq,aoi⟩,A27,H⟩:=H;try dsimp only at H
    replace H:=zO H;obtain ⟨aqM,A28,H⟩:=H;try dsimp only at H
    obtain rfl:=Option.some.inj H;have an9:=afm.out;have aoa:=afl.out;have as5:=acU.out;have as6:=acV.out;obtain ⟨_,_⟩:=zC2 mP.out;obtain ⟨_,_⟩:=zF2 mP.out;go_wp2_with (first|((with_reducible refine ay (f:=124) rfl ?_);refine aH (some 33) rfl rfl Tryz.func124 (by kernel_rfl) rfl #[.agg #[.int .u64 ade,.int .u64 adf],.agg #[.int .u64 0,.int .u64 1]] rfl zL ?_;(with_reducible refine (gY.calls ade adf 0 1 alq aoi _ A27.out).mono ?_);rintro e w32 ⟨rfl,hb⟩;refine ⟨_,rfl,?_⟩;obtain ⟨mO,mP,tV,HB⟩:=zA4 (aA (zK mO) hb) (aA (zK mP) hb) (aA (zK tV) hb) (ak zB hb);(try clear hb);obtain ⟨_,_⟩:=zC2 mP.out;obtain ⟨_,_⟩:=zF2 mP.out)|((with_reducible refine ay (f:=125) rfl ?_);refine aH (some 36) rfl rfl Tryz.func125 (by kernel_rfl) rfl #[.agg #[.int .u64 alq,.int .u64 aoi],.bool a2] rfl zL ?_;(with_reducible refine (bY.calls kj6 alq aoi a2 aqM _ A28.out).mono ?_);rintro e w34 ⟨rfl,hb⟩;refine ⟨_,rfl,?_⟩;obtain ⟨mO,mP,tV,HB⟩:=zA4 (aA (zK mO) hb) (aA (g:=aoh) (o := .cells #[.int .u64 alq,.int .u64 aoi] 179 (0,0)) (by refine zD ?_;refine aY (cs := #[.int .u64 alq,.int .u64 adf]) ?_ 1 _ rfl;refine zD ?_;refine aY (cs := #[.int .u64 ade,.int .u64 adf]) ?_ 0 _ rfl;refine zD ?_;exact mP.out) hb) (aA (zK tV) hb) (ak zB hb);(try clear hb)));go_ret;exact ⟨zS,zB⟩
   ·replace c26:=Bool.eq_false_iff.mpr c26;subst c26;rw [if_neg (show ¬ (false=true) by decide)] at H;(try dsimp only at H);replace H:=zO H;obtain ⟨aqN,A35,H⟩:=H;try dsimp only at H
    obtain rfl:=Option.some.inj H;have aB9:=afm.out;have aCa:=afl.out;have aCb:=acU.out;have aCc:=acV.out;obtain ⟨_,_⟩:=zC2 mP.out;obtain ⟨_,_⟩:=zF2 mP.out;go_wp2_with (first|((with_reducible refine ay (f:=125) rfl ?_);refine aH (some 36) rfl rfl Tryz.func125 (by kernel_rfl) rfl #[.agg #[.int .u64 ade,.int .u64 adf],.bool a2] rfl zL ?_;(with_reducible refine (bY.calls kj6 ade adf a2 aqN _ A35.out).mono ?_);rintro e w39 ⟨rfl,hb⟩;refine ⟨_,rfl,?_⟩;obtain ⟨mO,mP,tV,HB⟩:=zA4 (aA (zK mO) hb) (aA (zK mP) hb) (aA (zK tV) hb) (ak zB hb);(try clear hb)));go_ret;exact ⟨zS,zB⟩
def aX.f (k:Nat) (a0 a1 a2:Int):Option (Int):=if a2=0 then (some 0) else ((dP.f a0).bind fun alr=>((dP.f a1).bind fun als=>((dW.f k alr als).bind fun ath=>((dP.f a2).bind fun alu=>((iw.f k ath.1 ath.2 alu (((decide (a0 < 0)) != (decide (a1 < 0))) != (decide (a2 < 0)))).bind fun aqP=>(some aqP))))))
def aX.T5:Bool × List (List Nat × List Nat):=(true,[([],[]),([],[]),([1],[1]),([],[]),([],[]),([4],[4]),([3,5],[3,5]),([0,2,6,2],[0,2,6]),([7,7,0,1,2,3,4,5,6,7],[7])])
def aX.B5:List Nat:=[0,0,2,0,0,16,56,127,255]
theorem aX.ay2:uF .any (opsOf Tryz.f118 5)=aX.T5:=by kernel_rfl
theorem aX.axL:adv aX.T5.2 aX.B5=true:=by kernel_rfl
theorem aX.calls (k:Nat) (a0 a1 a2 r:Int) (w:World) (h:aX.f k a0 a1 a2=some r) :
  Calls Tryz.prog 118 #[.int .i64 a0,.int .i64 a1,.int .i64 a2] w fun e w'=>e = .returned (.int .i64 r)/\Below w.heap.size w w':=by
 have yJ:=Tryz.underlying179;have HB:=aj.mk (Below.refl w.heap.size w);have H:=h;clear h;unfold aX.f at H;by_cases c4:a2=0
 ·rw [if_pos c4] at H;have fG:(a2 == 0)=true:=beq_iff_eq.mpr c4;have aaJ:(a2 != 0)=false:=bne_eq_false_iff_eq.mpr c4;clear c4;obtain rfl:=Option.some.inj H;go_enter Tryz.func118,Tryz.ntmps118;go_wp2;go_ret;exact ⟨zS,zB⟩
 ·rw [if_neg c4] at H;have fG:(a2 == 0)=false:=beq_eq_false_iff_ne.mpr c4;have aaJ:(a2 != 0)=true:=bne_iff_ne.mpr c4;replace H:=zO H;obtain ⟨alr,A5,H⟩:=H;try dsimp only at H
  replace H:=zO H;obtain ⟨als,A6,H⟩:=H;try dsimp only at H
  replace H:=zO H;obtain ⟨⟨adY,afn⟩,A7,H⟩:=H;try dsimp only at H
  replace H:=zO H;obtain ⟨alu,A8,H⟩:=H;try dsimp only at H
  replace H:=zO H;obtain ⟨aqP,A9,H⟩:=H;try dsimp only at H
  obtain rfl:=Option.some.inj H;go_enter Tryz.func118,Tryz.ntmps118;try go_wp2_with (first|((with_reducible refine ay (f:=120) rfl ?_);refine aH (some 12) rfl rfl Tryz.func120 (by kernel_rfl) rfl #[.int .i64 a0] rfl zL ?_;(with_reducible refine (dP.calls a0 alr _ A5.out).mono ?_);rintro e w' ⟨rfl,⟨nd,rfl⟩⟩;refine ⟨_,rfl,?_⟩)|((with_reducible refine ay (f:=120) rfl ?_);refine aH (some 14) rfl rfl Tryz.func120 (by kernel_rfl) rfl #[.int .i64 a1] rfl zL ?_;(with_reducible refine (dP.calls a1 als _ A6.out).mono ?_);rintro e w' ⟨rfl,⟨nd,rfl⟩⟩;refine ⟨_,rfl,?_⟩)|((with_reducible refine ay (f:=148) rfl ?_);refine aH (some 15) rfl rfl Tryz.func148 (by kernel_rfl) rfl #[.int .u64 alr,.int .u64 als] rfl zL ?_;(with_reducible refine (dW.calls k alr als adY afn _ A7.out).mono ?_);rintro e w10 ⟨rfl,hb⟩;refine ⟨_,rfl,?_⟩;replace HB:=aj.mk (ak zB hb);(try clear hb))|((with_reducible refine bG (N:=7) rfl ?_);refine bI zR (N:=7) zR (cs := #[.int .u64 0,.int .u64 0]) (t:=179) zG ?_;intro abL hg w11 hbox hb;obtain ⟨HB,uM,aCd,aCe⟩:=zA4 (ak zB hb) hbox (zg hg zB) (zg hg zB);clear hb hbox hg;obtain ⟨_,_⟩:=zC2 uM.out;obtain ⟨_,_⟩:=zF2 uM.out))
  have n0_:aj (((w11.setCell ⟨abL,0,none⟩ (.int .u64 adY)).setCell ⟨abL,1,none⟩ (.int .u64 afn)).heap[abL]? = some (.cells #[.int .u64 adY,.int .u64 afn] 179 (0,0))):=⟨by refine zD ?_;refine aY (cs := #[.int .u64 adY,.int .u64 0]) ?_ 1 _ rfl;refine zD ?_;refine aY (cs := #[.int .u64 0,.int .u64 0]) ?_ 0 _ rfl;refine zD ?_;exact uM.out⟩;have n1_:aj (Below w.heap.size w ((w11.setCell ⟨abL,0,none⟩ (.int .u64 adY)).setCell ⟨abL,1,none⟩ (.int .u64 afn))):=⟨zB⟩
  (try clear uM)
  (try clear HB)
  generalize ((w11.setCell ⟨abL,0,none⟩ (.int .u64 adY)).setCell ⟨abL,1,none⟩ (.int .u64 afn))=w13 at n0_ n1_ ⊢;have uM:=n0_;have HB:=n1_;clear n0_ n1_;obtain ⟨uM,HB⟩:=zA2 (kP uM.out) (aZ HB.out);refine adr (n:=9) (S:=fun w'=>w'.cell? ⟨abL,0,none⟩=some (.int .u64 adY)/\w'.cell? ⟨abL,1,none⟩=some (.int .u64 afn)) (ds:=[]) #[false,false,false,false,false,false,false,false,false] (by kernel_rfl) rfl rfl ⟨(au uM.out 0).trans rfl,(au uM.out 1).trans rfl⟩ (fun hHeld => ?_);refine apt aX.ay2 aX.axL (fun HT_ HW_ => ?_);generalize w13.drew=w14 at uM HB hHeld ⊢;refine yE (i:=1) (N:=some 22) (v := ?_) (a' := ?_) #[false,true,false,false,false,false,false,false,false] rfl rfl (adu HT_.out (by kernel_rfl)) (fun _ _ _ h=>h) (Or.inl ⟨by rfl,?_⟩) ?_ ?_;rotate_left
  ·intro w';go_simp
   with_reducible rfl
  rotate_left
  ·simp only [Act.put,List.setIfInBounds_toArray,List.set_cons_zero,List.set_cons_succ,cZ,dD];rfl
  refine yE (i:=3) (N:=some 24) (v := ?_) (a' := ?_) #[false,true,false,true,false,false,false,false,false] rfl rfl (adu HT_.out (by kernel_rfl)) (fun _ _ _ h=>h) (Or.inl ⟨by rfl,?_⟩) ?_ ?_;rotate_left
  ·intro w';go_simp
   with_reducible rfl
  rotate_left
  ·simp only [Act.put,List.setIfInBounds_toArray,List.set_cons_zero,List.set_cons_succ,cZ,dD];rfl
  refine yE (i:=4) (N:=some 25) (v := ?_) (a' := ?_) #[false,true,false,true,true,false,false,false,false] rfl rfl (adu HT_.out (by kernel_rfl)) (fun _ _ _ h=>h) (Or.inl ⟨by rfl,?_⟩) ?_ ?_;rotate_left
  ·intro w';go_simp
   with_reducible rfl
  rotate_left
  ·simp only [Act.put,List.setIfInBounds_toArray,List.set_cons_zero,List.set_cons_succ,cZ,dD];rfl
  refine yE (i:=5) (N:=some 26) (v := ?_) (a' := ?_) #[false,true,false,true,true,true,false,false,false] rfl rfl (adu HT_.out (by kernel_rfl)) (fun _ _ _ h=>h) (Or.inl ⟨by rfl,?_⟩) ?_ ?_;rotate_left
  ·intro w';go_simp
   with_reducible rfl
  rotate_left
  ·simp only [Act.put,List.setIfInBounds_toArray,List.set_cons_zero,List.set_cons_succ,cZ,dD];rfl
  refine yE (i:=6) (N:=some 27) (v := ?_) (a' := ?_) #[false,true,false,true,true,true,true,false,false] rfl rfl (adu HT_.out (by kernel_rfl)) (fun _ _ _ h=>h) (Or.inl ⟨by rfl,?_⟩) ?_ ?_;rotate_left
  ·intro w';go_simp
   with_reducible rfl
  rotate_left
  ·simp only [Act.put,List.setIfInBounds_toArray,List.set_cons_zero,List.set_cons_succ,cZ,dD];rfl
  refine zI (i:=0) (N:=some 21) (v := ?_) (a' := ?_) #[true,true,false,true,true,true,true,false,false] rfl rfl (aqf HT_.out HW_.out (by kernel_rfl)) (fun _ _ _ h=>h) (Or.inl ⟨by rfl,?_⟩) hHeld ?_ ?_;rotate_left
  ·rintro w' ⟨s0,s1⟩;go_simp
   with_reducible rfl
  rotate_left
  ·simp only [Act.put,List.setIfInBounds_toArray,List.set_cons_zero,List.set_cons_succ,cZ,dD];rfl
  refine abZ (i:=2) (N:=some 23) #[true,true,true,true,true,true,true,false,false] rfl rfl (aps HT_.out (by kernel_rfl)) (by decide) (fun K hK => ?_);refine aaW Tryz.func120 (by kernel_rfl) rfl #[.int .i64 a2] (by rfl) rfl rfl zL ?_;with_reducible refine (dP.calls a2 alu _ A8.out).mono ?_
  rintro e w' ⟨rfl,⟨nd,rfl⟩⟩;refine ⟨_,rfl,?_⟩;refine hK.out _ _ ⟨(au uM.out 0).trans rfl,(au uM.out 1).trans rfl⟩ (fun hHeld => ?_);clear hK K;refine aaV (a' := ?_) ?_ ?_;rotate_left
  ·show Act.put _ (some 23) _=_
   simp only [Act.put,List.setIfInBounds_toArray,List.set_cons_zero,List.set_cons_succ,cZ,dD];rfl
  refine abZ (i:=7) (N:=some 28) #[true,true,true,true,true,true,true,true,false] rfl rfl (aps HT_.out (by kernel_rfl)) (by decide) (fun K hK => ?_);refine aaW Tryz.func149 (by kernel_rfl) rfl #[.agg #[.int .u64 adY,.int .u64 afn],.int .u64 alu,.bool (((decide (a0 < 0)) != (decide (a1 < 0))) != (decide (a2 < 0)))] (by rfl) rfl rfl zL ?_;with_reducible refine (iw.calls k adY afn alu (((decide (a0 < 0)) != (decide (a1 < 0))) != (decide (a2 < 0))) aqP _ A9.out).mono ?_
  rintro e w15 ⟨rfl,hb⟩;refine ⟨_,rfl,?_⟩;obtain ⟨uM,HB⟩:=zA2 (aA (zK uM) hb) (ak zB hb)
  (try clear hb)
  (try clear hb2)
  (try clear hk)
  (try clear hi)
  refine hK.out _ _ ⟨(au uM.out 0).trans rfl,(au uM.out 1).trans rfl⟩ (fun hHeld => ?_);clear hK K;refine aaV (a' := ?_) ?_ ?_;rotate_left
  ·show Act.put _ (some 28) _=_
   simp only [Act.put,List.setIfInBounds_toArray,List.set_cons_zero,List.set_cons_succ,cZ,dD];rfl
  refine yE (i:=8) (N:=some 6) (v := ?_) (a' := ?_) #[true,true,true,true,true,true,true,true,true] rfl rfl (adu HT_.out (by kernel_rfl)) (fun _ _ _ h=>h) (Or.inl ⟨by rfl,?_⟩) ?_ ?_;rotate_left
  ·intro w';go_simp
   with_reducible rfl
  rotate_left
  ·simp only [Act.put,List.setIfInBounds_toArray,List.set_cons_zero,List.set_cons_succ,cZ,dD];rfl
  refine afQ (atO HT_.out (by kernel_rfl)) ?_;try go_wp2
  go_ret;exact ⟨zS,zB⟩
mutual
def bU.j0:Nat->Int->Int->Bool->Option (Int)
 | 0,_,_,_=>none
 | k+1,x0,x1,x14=>if x14=true then (some 0) else (if x0>=(wrap64 (2*x1)) then (bU.j1 k x0 x1 true) else (bU.j1 k x0 x1 (decide (x0<=(wrap64 ((-2)*x1))))))
def bU.j1:Nat->Int->Int->Bool->Option (Int)
 | 0,_,_,_=>none
 | k+1,x0,x1,x24=>if x24=true then (some 0) else (if x0 < 0 then (bU.j2 k (wrap64 (-x0)) x1) else (bU.j2 k x0 x1))
def bU.j2:Nat->Int->Int->Option (Int)
 | 0,_,_=>none
 | k+1,x0,x1=>if x0 < x1 then ((aX.f k (wrap64 ((wrap64 ((wrap64 (3*(wrap64 ((wrap64 (x0*x0))*x0)))) - (wrap64 ((wrap64 (5*(wrap64 (x0*x0))))*x1))))+(wrap64 (2*(wrap64 ((wrap64 (x1*x1))*x1)))))) 1073741824 (wrap64 (2*(wrap64 ((wrap64 (x1*x1))*x1))))).bind fun aqQ=>(some aqQ)) else ((aX.f k (wrap64 ((wrap64 ((wrap64 ((wrap64 ((wrap64 (5*(wrap64 (x0*x0))))*x1)) - (wrap64 ((wrap64 (x0*x0))*x0)))) - (wrap64 ((wrap64 (8*x0))*(wrap64 (x1*x1))))))+(wrap64 (4*(wrap64 ((wrap64 (x1*x1))*x1)))))) 1073741824 (wrap64 (2*(wrap64 ((wrap64 (x1*x1))*x1))))).bind fun aqR=>(some aqR))
end
def bU.f (k:Nat) (a0 a1:Int):Option (Int):=if a1 < 1 then (bU.j0 k a0 a1 true) else (bU.j0 k a0 a1 (decide (a1 > 262144)))
theorem bU.calls (k:Nat) (a0 a1 r:Int) (w:World) (h:bU.f k a0 a1=some r) :
  Calls Tryz.prog 170 #[.int .i64 a0,.int .i64 a1] w fun e w'=>e = .returned (.int .i64 r)/\Below w.heap.size w w':=by
 have HB:=aj.mk (Below.refl w.heap.size w);have H:=h;clear h;unfold bU.f at H;have HC3:=aj.mk H;clear H;go_enter Tryz.func170,Tryz.ntmps170;go_upto_region 1 with (fail);go_cut [14] (fun v14 wc=>∃ (kq:Nat) (aal:Bool),v14 = .bool aal/\aj (bU.j0 kq a0 a1 aal=some r)/\aj (kq<=k)/\aj (Below w.heap.size w wc))
 case first =>
  have H:=HC3.out;clear HC3;by_cases c4:a1 < 1
  ·rw [if_pos c4] at H;have fG:=decide_eq_true c4;clear c4
   (first|rw [fG]|(simp only [cZ,dD];rw [fG])|skip)
   have H':=aj.mk H;clear H;go_wp2;go_meet
   case rel=>exact ⟨_,(true),zT,H',⟨by first|omega|exact Nat.le_refl _⟩,⟨zB⟩⟩
  ·rw [if_neg c4] at H;have fG:=decide_eq_false c4;clear c4
   (first|rw [fG]|(simp only [cZ,dD];rw [fG])|skip)
   have H':=aj.mk H;clear H;go_wp2;go_meet
   case rel=>exact ⟨_,(decide (a1 > 262144)),zT,H',⟨by first|omega|exact Nat.le_refl _⟩,⟨zB⟩⟩
 case rest =>
  clear HC3;obtain ⟨kq,aal,rfl,HA,HJ2,HB⟩:=hcut;cases kq with
  | zero=>exact absurd HA.out (by simp [bU.j0])
  | succ kj2 =>
   have H:=HA.out;clear HA;simp only [bU.j0] at H;by_cases c5:aal=true
   ·subst c5;rw [if_pos rfl] at H;(try dsimp only at H);obtain rfl:=Option.some.inj H;go_wp2;go_ret;exact ⟨zS,zB⟩
   ·replace c5:=Bool.eq_false_iff.mpr c5;subst c5;rw [if_neg (show ¬ (false=true) by decide)] at H;(try dsimp only at H);have HC6:=aj.mk H;clear H;go_upto_region 3 with (fail);go_cut [24] (fun v24 wc=>∃ (kq:Nat) (aky:Bool),v24 = .bool aky/\aj (bU.j1 kq a0 a1 aky=some r)/\aj (kq<=kj2)/\aj (Below w.heap.size w wc))
    case first =>
     have H:=HC6.out;clear HC6;by_cases c7:a0>=(wrap64 (2*a1))
     ·rw [if_pos c7] at H;have jk:=decide_eq_true c7;clear c7
      (first|rw [jk]|(simp only [cZ,dD];rw [jk])|skip)
      have H':=aj.mk H;clear H;go_wp2;go_meet
      case rel=>exact ⟨_,(true),zT,H',⟨by have:=HJ2.out;first|omega|exact Nat.le_refl _⟩,⟨zB⟩⟩
     ·rw [if_neg c7] at H;have jk:=decide_eq_false c7;clear c7
      (first|rw [jk]|(simp only [cZ,dD];rw [jk])|skip)
      have H':=aj.mk H;clear H;go_wp2;go_meet
      case rel=>exact ⟨_,(decide (a0<=(wrap64 ((-2)*a1)))),zT,H',⟨by have:=HJ2.out;first|omega|exact Nat.le_refl _⟩,⟨zB⟩⟩
    case rest =>
     clear HC6;obtain ⟨kq,aky,rfl,HA,HJ5,HB⟩:=hcut;cases kq with
     | zero=>exact absurd HA.out (by simp [bU.j1])
     | succ kj5 =>
      have H:=HA.out;clear HA;simp only [bU.j1] at H;by_cases c8:aky=true
      ·subst c8;rw [if_pos rfl] at H;(try dsimp only at H);obtain rfl:=Option.some.inj H;go_wp2;go_ret;exact ⟨zS,zB⟩
      ·replace c8:=Bool.eq_false_iff.mpr c8;subst c8;rw [if_neg (show ¬ (false=true) by decide)] at H;(try dsimp only at H);have HC9:=aj.mk H;clear H;go_upto_if 26 with (fail)
       go_cut [0] (fun v0 wc=>∃ (kq:Nat) (qO:Int),v0 = .int .i64 qO/\aj (bU.j2 kq qO a1=some r)/\aj (kq<=kj5)/\aj (Below w.heap.size w wc))
       case first =>
        have H:=HC9.out;clear HC9;by_cases c10:a0 < 0
        ·rw [if_pos c10] at H;have pX:=decide_eq_true c10;clear c10
         (first|rw [pX]|(simp only [cZ,dD];rw [pX])|skip)
         have H':=aj.mk H;clear H;go_wp2;go_meet
         case rel=>exact ⟨_,(wrap64 (-a0)),zT,H',⟨by have:=HJ2.out;have:=HJ5.out;first|omega|exact Nat.le_refl _⟩,⟨zB⟩⟩
        ·rw [if_neg c10] at H;have pX:=decide_eq_false c10;clear c10
         (first|rw [pX]|(simp only [cZ,dD];rw [pX])|skip)
         have H':=aj.mk H;clear H;go_wp2;go_meet
         case rel=>exact ⟨_,(a0),zT,H',⟨by have:=HJ2.out;have:=HJ5.out;first|omega|exact Nat.le_refl _⟩,⟨zB⟩⟩
       case rest =>
        clear HC9;obtain ⟨kq,qO,rfl,HA,HJ8,HB⟩:=hcut;cases kq with
        | zero=>exact absurd HA.out (by simp [bU.j2])
        | succ kj8 =>
         have H:=HA.out;clear HA;simp only [bU.j2] at H;by_cases c11:qO < a1
         ·rw [if_pos c11] at H;have iV:=decide_eq_true c11;clear c11;replace H:=zO H;obtain ⟨aqQ,A12,H⟩:=H;try dsimp only at H
          obtain rfl:=Option.some.inj H;go_wp2_with (first|((with_reducible refine ay (f:=118) rfl ?_);refine aH (some 56) rfl rfl Tryz.func118 (by kernel_rfl) rfl #[.int .i64 (wrap64 ((wrap64 ((wrap64 (3*(wrap64 ((wrap64 (qO*qO))*qO)))) - (wrap64 ((wrap64 (5*(wrap64 (qO*qO))))*a1))))+(wrap64 (2*(wrap64 ((wrap64 (a1*a1))*a1)))))),.int .i64 1073741824,.int .i64 (wrap64 (2*(wrap64 ((wrap64 (a1*a1))*a1))))] rfl zL ?_;(with_reducible refine (aX.calls kj8 (wrap64 ((wrap64 ((wrap64 (3*(wrap64 ((wrap64 (qO*qO))*qO)))) - (wrap64 ((wrap64 (5*(wrap64 (qO*qO))))*a1))))+(wrap64 (2*(wrap64 ((wrap64 (a1*a1))*a1)))))) 1073741824 (wrap64 (2*(wrap64 ((wrap64 (a1*a1))*a1)))) aqQ _ A12.out).mono ?_);rintro e w13 ⟨rfl,hb⟩;refine ⟨_,rfl,?_⟩;replace HB:=aj.mk (ak zB hb);(try clear hb)));go_ret;exact ⟨zS,zB⟩
         ·rw [if_neg c11] at H;have iV:=decide_eq_false c11;clear c11;replace H:=zO H;obtain ⟨aqR,A14,H⟩:=H;try dsimp only at H
          obtain rfl:=Option.some.inj H;go_wp2_with (first|((with_reducible refine ay (f:=118) rfl ?_);refine aH (some 73) rfl rfl Tryz.func118 (by kernel_rfl) rfl #[.int .i64 (wrap64 ((wrap64 ((wrap64 ((wrap64 ((wrap64 (5*(wrap64 (qO*qO))))*a1)) - (wrap64 ((wrap64 (qO*qO))*qO)))) - (wrap64 ((wrap64 (8*qO))*(wrap64 (a1*a1))))))+(wrap64 (4*(wrap64 ((wrap64 (a1*a1))*a1)))))),.int .i64 1073741824,.int .i64 (wrap64 (2*(wrap64 ((wrap64 (a1*a1))*a1))))] rfl zL ?_;(with_reducible refine (aX.calls kj8 (wrap64 ((wrap64 ((wrap64 ((wrap64 ((wrap64 (5*(wrap64 (qO*qO))))*a1)) - (wrap64 ((wrap64 (qO*qO))*qO)))) - (wrap64 ((wrap64 (8*qO))*(wrap64 (a1*a1))))))+(wrap64 (4*(wrap64 ((wrap64 (a1*a1))*a1)))))) 1073741824 (wrap64 (2*(wrap64 ((wrap64 (a1*a1))*a1)))) aqR _ A14.out).mono ?_);rintro e w15 ⟨rfl,hb⟩;refine ⟨_,rfl,?_⟩;replace HB:=aj.mk (ak zB hb);(try clear hb)));go_ret;exact ⟨zS,zB⟩
end Go.Proofs.YtpondkggmcmpfaaGreatDoor.QA
