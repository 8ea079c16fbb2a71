/- Joined by wip/tools/bundle.py out of: QAx22 QAx23 QAx24 QAx25 QAx26 QAx27. -/
import Derived.Test.YtpondkggmcmpfaaGreatDoorBDirectComposes1
set_option maxHeartbeats 8000000
set_option maxRecDepth 100000
namespace Go.Proofs.YtpondkggmcmpfaaGreatDoor.QA
open Go.Proofs.YtpondkggmcmpfaaGreatDoor.T
open Go.RowKit Go.Proofs.YtpondkggmcmpfaaGreatDoorW.PrintWords Go.Proofs.YtpondkggmcmpfaaGreatDoorW.PrintLast Go.Proofs.YtpondkggmcmpfaaGreatDoorW.PrintMore
attribute [local go_sem] dU dM dN fA fB
set_option linter.unusedVariables false
set_option linter.unusedSimpArgs false
def mW.f (a0 a1 a2 a3:Int):Option (Bool):=if a0≥0 then (if a0≤2 then (if a1≥1 then (if a1≤65536 then (if a2≥1 then (if a2≤65536 then (if a3≥0 then (some (decide (a3 < a2))) else (some false)) else (some false)) else (some false)) else (some false)) else (some false)) else (some false)) else (some false)
theorem mW.calls (a0 a1 a2 a3:Int) (r:Bool) (w:World) (h:mW.f a0 a1 a2 a3=some r) :
  Calls Tryz.prog 139 #[.int .i64 a0,.int .i64 a1,.int .i64 a2,.int .i64 a3] w fun e w'=>e = .returned (.bool r)∧dA w w':=by
 have H:=h;clear h;unfold mW.f at H;by_cases c5:a0≥0
 ·rw [if_pos c5] at H;have gJ:=decide_eq_true c5;clear c5;by_cases c6:a0≤2
  ·rw [if_pos c6] at H;have gI:=decide_eq_true c6;clear c6;by_cases c7:a1≥1
   ·rw [if_pos c7] at H;have jr:=decide_eq_true c7;clear c7;by_cases c8:a1≤65536
    ·rw [if_pos c8] at H;have qg:=decide_eq_true c8;clear c8;by_cases c9:a2≥1
     ·rw [if_pos c9] at H;have o8:=decide_eq_true c9;clear c9;by_cases c10:a2≤65536
      ·rw [if_pos c10] at H;have mg:=decide_eq_true c10;clear c10;by_cases c11:a3≥0
       ·rw [if_pos c11] at H;have jv:=decide_eq_true c11;clear c11;obtain rfl:=Option.some.inj H;go_enter Tryz.func139,Tryz.ntmps139;go_wp2;go_ret;exact ⟨zT,zW⟩
       ·rw [if_neg c11] at H;have jv:=decide_eq_false c11;clear c11;obtain rfl:=Option.some.inj H;go_enter Tryz.func139,Tryz.ntmps139;go_wp2;go_ret;exact ⟨zT,zW⟩
      ·rw [if_neg c10] at H;have mg:=decide_eq_false c10;clear c10;obtain rfl:=Option.some.inj H;go_enter Tryz.func139,Tryz.ntmps139;go_wp2;go_ret;exact ⟨zT,zW⟩
     ·rw [if_neg c9] at H;have o8:=decide_eq_false c9;clear c9;obtain rfl:=Option.some.inj H;go_enter Tryz.func139,Tryz.ntmps139;go_wp2;go_ret;exact ⟨zT,zW⟩
    ·rw [if_neg c8] at H;have qg:=decide_eq_false c8;clear c8;obtain rfl:=Option.some.inj H;go_enter Tryz.func139,Tryz.ntmps139;go_wp2;go_ret;exact ⟨zT,zW⟩
   ·rw [if_neg c7] at H;have jr:=decide_eq_false c7;clear c7;obtain rfl:=Option.some.inj H;go_enter Tryz.func139,Tryz.ntmps139;go_wp2;go_ret;exact ⟨zT,zW⟩
  ·rw [if_neg c6] at H;have gI:=decide_eq_false c6;clear c6;obtain rfl:=Option.some.inj H;go_enter Tryz.func139,Tryz.ntmps139;go_wp2;go_ret;exact ⟨zT,zW⟩
 ·rw [if_neg c5] at H;have gJ:=decide_eq_false c5;clear c5;obtain rfl:=Option.some.inj H;go_enter Tryz.func139,Tryz.ntmps139;go_wp2;go_ret;exact ⟨zT,zW⟩
def gZ.f (a0 a1 a2 a3:Int):Option (Int × Int):=if a1 > a0 then (some (wrap64 ((wrap64 ((wrap64 ((wrap64 (2*a1))*a3)) - (wrap64 ((wrap64 ((wrap64 (2*a2))+1))*a0))))+a1),wrap64 (2*a1))) else (some (wrap64 ((wrap64 ((wrap64 ((wrap64 (2*a1))*a3)) - (wrap64 ((wrap64 ((wrap64 (2*a2))+1))*a0))))+a1),wrap64 (2*a0)))
theorem gZ.calls (a0 a1 a2 a3 r1 r2:Int) (w:World) (h:gZ.f a0 a1 a2 a3=some (r1,r2)) :
  Calls Tryz.prog 169 #[.int .i64 a0,.int .i64 a1,.int .i64 a2,.int .i64 a3] w fun e w'=>e = .returned (.tuple #[.int .i64 r1,.int .i64 r2])∧dA w w':=by
 have H:=h;clear h;unfold gZ.f at H;by_cases c5:a1 > a0
 ·rw [if_pos c5] at H;have gJ:=decide_eq_true c5;clear c5;simp only [Option.some.injEq,Prod.mk.injEq] at H;obtain ⟨rfl,rfl⟩:=H;go_enter Tryz.func169,Tryz.ntmps169;go_wp2;go_ret2;exact ⟨zT,zW⟩
 ·rw [if_neg c5] at H;have gJ:=decide_eq_false c5;clear c5;simp only [Option.some.injEq,Prod.mk.injEq] at H;obtain ⟨rfl,rfl⟩:=H;go_enter Tryz.func169,Tryz.ntmps169;go_wp2;go_ret2;exact ⟨zT,zW⟩
def jJ.f (a0 a1 a2 a3 a4:Int):Option (Bool):=if a0=0 then (if (wrap64 ((wrap64 (a4+1))*a2)) > (wrap64 (a3*a1)) then (some (decide ((wrap64 (a4*a2)) < (wrap64 ((wrap64 (a3+1))*a1))))) else (some false)) else ((gZ.f a1 a2 a3 a4).bind fun aee=>(if a0=2 then (if aee.1 < (wrap64 (3*aee.2)) then (some (decide (aee.1 > (wrap64 (-(wrap64 (3*aee.2))))))) else (some false)) else (if aee.1 < (wrap64 (2*aee.2)) then (some (decide (aee.1 > (wrap64 (-(wrap64 (2*aee.2))))))) else (some false))))
theorem jJ.calls (a0 a1 a2 a3 a4:Int) (r:Bool) (w:World) (h:jJ.f a0 a1 a2 a3 a4=some r) :
  Calls Tryz.prog 140 #[.int .i64 a0,.int .i64 a1,.int .i64 a2,.int .i64 a3,.int .i64 a4] w fun e w'=>e = .returned (.bool r)∧dA w w':=by
 have H:=h;clear h;unfold jJ.f at H;by_cases c6:a0=0
 ·rw [if_pos c6] at H;have gI:(a0 == 0)=true:=beq_iff_eq.mpr c6;have vS:(a0 != 0)=false:=bne_eq_false_iff_eq.mpr c6;clear c6;by_cases c7:(wrap64 ((wrap64 (a4+1))*a2)) > (wrap64 (a3*a1))
  ·rw [if_pos c7] at H;have jr:=decide_eq_true c7;clear c7;obtain rfl:=Option.some.inj H;go_enter Tryz.func140,Tryz.ntmps140;go_wp2;go_ret;exact ⟨zT,zW⟩
  ·rw [if_neg c7] at H;have jr:=decide_eq_false c7;clear c7;obtain rfl:=Option.some.inj H;go_enter Tryz.func140,Tryz.ntmps140;go_wp2;go_ret;exact ⟨zT,zW⟩
 ·rw [if_neg c6] at H;have gI:(a0 == 0)=false:=beq_eq_false_iff_ne.mpr c6;have vS:(a0 != 0)=true:=bne_iff_ne.mpr c6;replace H:=zO H;obtain ⟨⟨ak3,ak4⟩,A8,H⟩:=H;try dsimp only at H
  by_cases c9:a0=2
  ·rw [if_pos c9] at H;have o8:(a0 == 2)=true:=beq_iff_eq.mpr c9;have adA:(a0 != 2)=false:=bne_eq_false_iff_eq.mpr c9;clear c9;by_cases c10:ak3 < (wrap64 (3*ak4))
   ·rw [if_pos c10] at H;have mg:=decide_eq_true c10;clear c10;obtain rfl:=Option.some.inj H;go_enter Tryz.func140,Tryz.ntmps140;go_wp2_with (first|((with_reducible refine ay (f:=169) rfl ?_);refine aH (some 39) rfl rfl Tryz.func169 (by kernel_rfl) rfl #[.int .i64 a1,.int .i64 a2,.int .i64 a3,.int .i64 a4] rfl zL ?_;(with_reducible refine (gZ.calls a1 a2 a3 a4 ak3 ak4 _ A8.out).mono ?_);rintro e w' ⟨rfl,⟨nd,rfl⟩⟩;refine ⟨_,rfl,?_⟩));go_ret;exact ⟨zT,zW⟩
   ·rw [if_neg c10] at H;have mg:=decide_eq_false c10;clear c10;obtain rfl:=Option.some.inj H;go_enter Tryz.func140,Tryz.ntmps140;go_wp2_with (first|((with_reducible refine ay (f:=169) rfl ?_);refine aH (some 39) rfl rfl Tryz.func169 (by kernel_rfl) rfl #[.int .i64 a1,.int .i64 a2,.int .i64 a3,.int .i64 a4] rfl zL ?_;(with_reducible refine (gZ.calls a1 a2 a3 a4 ak3 ak4 _ A8.out).mono ?_);rintro e w' ⟨rfl,⟨nd,rfl⟩⟩;refine ⟨_,rfl,?_⟩));go_ret;exact ⟨zT,zW⟩
  ·rw [if_neg c9] at H;have o8:(a0 == 2)=false:=beq_eq_false_iff_ne.mpr c9;have adA:(a0 != 2)=true:=bne_iff_ne.mpr c9;by_cases c11:ak3 < (wrap64 (2*ak4))
   ·rw [if_pos c11] at H;have jv:=decide_eq_true c11;clear c11;obtain rfl:=Option.some.inj H;go_enter Tryz.func140,Tryz.ntmps140;go_wp2_with (first|((with_reducible refine ay (f:=169) rfl ?_);refine aH (some 39) rfl rfl Tryz.func169 (by kernel_rfl) rfl #[.int .i64 a1,.int .i64 a2,.int .i64 a3,.int .i64 a4] rfl zL ?_;(with_reducible refine (gZ.calls a1 a2 a3 a4 ak3 ak4 _ A8.out).mono ?_);rintro e w' ⟨rfl,⟨nd,rfl⟩⟩;refine ⟨_,rfl,?_⟩));go_ret;exact ⟨zT,zW⟩
   ·rw [if_neg c11] at H;have jv:=decide_eq_false c11;clear c11;obtain rfl:=Option.some.inj H;go_enter Tryz.func140,Tryz.ntmps140;go_wp2_with (first|((with_reducible refine ay (f:=169) rfl ?_);refine aH (some 39) rfl rfl Tryz.func169 (by kernel_rfl) rfl #[.int .i64 a1,.int .i64 a2,.int .i64 a3,.int .i64 a4] rfl zL ?_;(with_reducible refine (gZ.calls a1 a2 a3 a4 ak3 ak4 _ A8.out).mono ?_);rintro e w' ⟨rfl,⟨nd,rfl⟩⟩;refine ⟨_,rfl,?_⟩));go_ret;exact ⟨zT,zW⟩
def dW.f (a0:Int):Option (Int):=if a0 < 0 then (some (IntKind.u64.wrap ((IntKind.u64.wrap (wrap64 (-(wrap64 (a0+1)))))+1))) else (some (IntKind.u64.wrap (a0)))
theorem dW.calls (a0 r:Int) (w:World) (h:dW.f a0=some r) :
  Calls Tryz.prog 120 #[.int .i64 a0] w fun e w'=>e = .returned (.int .u64 r)∧dA w w':=by
 have H:=h;clear h;unfold dW.f at H;by_cases c2:a0 < 0
 ·rw [if_pos c2] at H;have oL:=decide_eq_true c2;clear c2;obtain rfl:=Option.some.inj H;go_enter Tryz.func120,Tryz.ntmps120;go_wp2;go_ret;exact ⟨zT,zW⟩
 ·rw [if_neg c2] at H;have oL:=decide_eq_false c2;clear c2;obtain rfl:=Option.some.inj H;go_enter Tryz.func120,Tryz.ntmps120;go_wp2;go_ret;exact ⟨zT,zW⟩
def dR.f (aT bf a1:Int):Option (Int × Int):=some (IntKind.u64.wrap ((IntKind.u64.wrap (aT*2))+(bf / 9223372036854775808)),IntKind.u64.wrap ((IntKind.u64.wrap (bf*2))+a1))
theorem dR.calls (aT bf a1 r1 r2:Int) (w:World) (h:dR.f aT bf a1=some (r1,r2)) :
  Calls Tryz.prog 119 #[.agg #[.int .u64 aT,.int .u64 bf],.int .u64 a1] w fun e w'=>e = .returned (.agg #[.int .u64 r1,.int .u64 r2])∧Below w.heap.size w w':=by
 have aaB:=Tryz.underlying179;have HB:=aj.mk (Below.refl w.heap.size w);have H:=h;clear h;unfold dR.f at H;simp only [Option.some.injEq,Prod.mk.injEq] at H;obtain ⟨rfl,rfl⟩:=H;go_enter Tryz.func119,Tryz.ntmps119;go_wp2_with (first|((with_reducible refine aZ (N:=2) rfl ?_);refine aX zR (N:=2) zR (cs := #[.int .u64 aT,.int .u64 bf]) (t:=179) zG ?_;intro aFU hg w3 hbox hb;obtain ⟨HB,ahQ,aFV,aFW⟩:=zA4 (ak zB hb) hbox (zg hg zB) (zg hg zB);clear hb hbox hg)|((with_reducible refine aZ (N:=4) rfl ?_);refine aX zR (N:=4) zR (cs := #[.int .u64 0,.int .u64 0]) (t:=179) zG ?_;intro aAk hg w4 hbox hb;obtain ⟨ahQ,HB,aq4,aFX,aFY,as7,as8⟩:=zA7 (aA (zK ahQ) hb) (ak zB hb) hbox (zg hg zB) (zg hg zB) (zl hg (zK ahQ)) (zr hg (zK ahQ));clear hb hbox hg;have aC1:=as7.out;have aC2:=as8.out;obtain ⟨_,_⟩:=zC2 ahQ.out;obtain ⟨_,_⟩:=zF2 ahQ.out;obtain ⟨_,_⟩:=zC2 aq4.out;obtain ⟨_,_⟩:=zF2 aq4.out));refine bodyPost_ret (results_cell_row rfl _ _ aAk 179 #[.int .u64 (IntKind.u64.wrap ((IntKind.u64.wrap (aT*2))+(bf / 9223372036854775808))),.int .u64 (IntKind.u64.wrap ((IntKind.u64.wrap (bf*2))+a1))] (0,0) _ rfl (by refine zD ?_;refine bg (cs := #[.int .u64 (IntKind.u64.wrap ((IntKind.u64.wrap (aT*2))+(bf / 9223372036854775808))),.int .u64 0]) ?_ 1 _ rfl;refine zD ?_;refine bg (cs := #[.int .u64 0,.int .u64 0]) ?_ 0 _ rfl;refine zD ?_;exact aq4.out) Tryz.underlying179 rfl (by kernel_rfl)) rfl ?_;exact ⟨zS,zB⟩
def iK.f (aT bf jK kL:Int):Option (Int × Int):=if (IntKind.u64.wrap (bf+kL)) < bf then (some (IntKind.u64.wrap ((IntKind.u64.wrap (aT+jK))+1),IntKind.u64.wrap (bf+kL))) else (some (IntKind.u64.wrap (aT+jK),IntKind.u64.wrap (bf+kL)))
theorem iK.calls (aT bf jK kL r1 r2:Int) (w:World) (h:iK.f aT bf jK kL=some (r1,r2)) :
  Calls Tryz.prog 124 #[.agg #[.int .u64 aT,.int .u64 bf],.agg #[.int .u64 jK,.int .u64 kL]] w fun e w'=>e = .returned (.agg #[.int .u64 r1,.int .u64 r2])∧Below w.heap.size w w':=by
 have aaB:=Tryz.underlying179;have HB:=aj.mk (Below.refl w.heap.size w);have H:=h;clear h;unfold iK.f at H;by_cases c3:(IntKind.u64.wrap (bf+kL)) < bf
 ·rw [if_pos c3] at H;have fV:=decide_eq_true c3;clear c3;simp only [Option.some.injEq,Prod.mk.injEq] at H;obtain ⟨rfl,rfl⟩:=H;go_enter Tryz.func124,Tryz.ntmps124;go_wp2_with (first|((with_reducible refine aZ (N:=2) rfl ?_);refine aX zR (N:=2) zR (cs := #[.int .u64 aT,.int .u64 bf]) (t:=179) zG ?_;intro aAl hg w4 hbox hb;obtain ⟨HB,lG,aAm,aAn⟩:=zA4 (ak zB hb) hbox (zg hg zB) (zg hg zB);clear hb hbox hg)|((with_reducible refine aZ (N:=3) rfl ?_);refine aX zR (N:=3) zR (cs := #[.int .u64 jK,.int .u64 kL]) (t:=179) zG ?_;intro aAo hg w5 hbox hb;obtain ⟨lG,HB,rD,aAp,aAq,agx,agy⟩:=zA7 (aA (zK lG) hb) (ak zB hb) hbox (zg hg zB) (zg hg zB) (zl hg (zK lG)) (zr hg (zK lG));clear hb hbox hg)|((with_reducible refine aZ (N:=4) rfl ?_);refine aX zR (N:=4) zR (cs := #[.int .u64 0,.int .u64 0]) (t:=179) zG ?_;intro aq5 hg w6 hbox hb;obtain ⟨lG,rD,HB,xH,aAr,aAs,agz,agA,agB,agC⟩:=aff (aA (zK lG) hb) (aA (zK rD) hb) (ak zB hb) hbox (zg hg zB) (zg hg zB) (zl hg (zK lG)) (zr hg (zK lG)) (zl hg (zK rD)) (zr hg (zK rD));clear hb hbox hg;have aui:=agx.out;have auj:=agy.out;have ay1:=agz.out;have ay2:=agA.out;obtain ⟨_,_⟩:=zC2 lG.out;obtain ⟨_,_⟩:=zF2 lG.out;have ajF:=agB.out;have ajG:=agC.out;obtain ⟨_,_⟩:=zC2 rD.out;obtain ⟨_,_⟩:=zF2 rD.out)|((with_reducible refine aZ (N:=5) rfl ?_);refine aX zR (N:=5) zR (cs := #[.int .u64 0,.int .u64 0]) (t:=179) zG ?_;intro aAt hg w12 hbox hb;obtain ⟨lG,rD,xH,HB,ajH,aAu,aAv,agD,agE,agF,agG,xk,agH⟩:=agj (aA (zK lG) hb) (aA (zK rD) hb) (aA (zK xH) hb) (ak zB hb) hbox (zg hg zB) (zg hg zB) (zl hg (zK lG)) (zr hg (zK lG)) (zl hg (zK rD)) (zr hg (zK rD)) (zl hg (zK xH)) (zr hg (zK xH));clear hb hbox hg;have amY:=agE.out;have amZ:=agD.out;have aq6:=agG.out;have aq7:=agF.out;have awH:=agH.out;have awI:=xk.out;obtain ⟨_,_⟩:=zC2 ajH.out;obtain ⟨_,_⟩:=zF2 ajH.out;obtain ⟨_,_⟩:=zC2 lG.out;obtain ⟨_,_⟩:=zF2 lG.out;obtain ⟨_,_⟩:=zC2 xH.out;obtain ⟨_,_⟩:=zF2 xH.out));refine bodyPost_ret (results_cell_row rfl _ _ aq5 179 #[.int .u64 (IntKind.u64.wrap ((IntKind.u64.wrap (aT+jK))+1)),.int .u64 (IntKind.u64.wrap (bf+kL))] (0,0) _ rfl (by refine zD ?_;refine bg (cs := #[.int .u64 (IntKind.u64.wrap ((IntKind.u64.wrap (aT+jK))+1)),.int .u64 0]) ?_ 1 _ rfl;refine zD ?_;refine bg (cs := #[.int .u64 0,.int .u64 0]) ?_ 0 _ rfl;refine zD ?_;refine jV ?_ xk.out _;refine zD ?_;refine jV ?_ xk.out _;refine zD ?_;refine jV ?_ xk.out _;refine zD ?_;exact xH.out) Tryz.underlying179 rfl (by kernel_rfl)) rfl ?_;exact ⟨zS,zB⟩
 ·rw [if_neg c3] at H;have fV:=decide_eq_false c3;clear c3;simp only [Option.some.injEq,Prod.mk.injEq] at H;obtain ⟨rfl,rfl⟩:=H;go_enter Tryz.func124,Tryz.ntmps124;go_wp2_with (first|((with_reducible refine aZ (N:=2) rfl ?_);refine aX zR (N:=2) zR (cs := #[.int .u64 aT,.int .u64 bf]) (t:=179) zG ?_;intro aAl hg w19 hbox hb;obtain ⟨HB,lG,aAm,aAn⟩:=zA4 (ak zB hb) hbox (zg hg zB) (zg hg zB);clear hb hbox hg)|((with_reducible refine aZ (N:=3) rfl ?_);refine aX zR (N:=3) zR (cs := #[.int .u64 jK,.int .u64 kL]) (t:=179) zG ?_;intro aAo hg w20 hbox hb;obtain ⟨lG,HB,rD,aAp,aAq,agx,agy⟩:=zA7 (aA (zK lG) hb) (ak zB hb) hbox (zg hg zB) (zg hg zB) (zl hg (zK lG)) (zr hg (zK lG));clear hb hbox hg)|((with_reducible refine aZ (N:=4) rfl ?_);refine aX zR (N:=4) zR (cs := #[.int .u64 0,.int .u64 0]) (t:=179) zG ?_;intro aq5 hg w21 hbox hb;obtain ⟨lG,rD,HB,xH,aAr,aAs,agz,agA,agB,agC⟩:=aff (aA (zK lG) hb) (aA (zK rD) hb) (ak zB hb) hbox (zg hg zB) (zg hg zB) (zl hg (zK lG)) (zr hg (zK lG)) (zl hg (zK rD)) (zr hg (zK rD));clear hb hbox hg;have awJ:=agx.out;have awK:=agy.out;have am0:=agz.out;have am1:=agA.out;obtain ⟨_,_⟩:=zC2 lG.out;obtain ⟨_,_⟩:=zF2 lG.out;have aq8:=agB.out;have aq9:=agC.out;obtain ⟨_,_⟩:=zC2 rD.out;obtain ⟨_,_⟩:=zF2 rD.out)|((with_reducible refine aZ (N:=5) rfl ?_);refine aX zR (N:=5) zR (cs := #[.int .u64 0,.int .u64 0]) (t:=179) zG ?_;intro aAt hg w27 hbox hb;obtain ⟨lG,rD,xH,HB,ajH,aAu,aAv,agD,agE,agF,agG,xk,agH⟩:=agj (aA (zK lG) hb) (aA (zK rD) hb) (aA (zK xH) hb) (ak zB hb) hbox (zg hg zB) (zg hg zB) (zl hg (zK lG)) (zr hg (zK lG)) (zl hg (zK rD)) (zr hg (zK rD)) (zl hg (zK xH)) (zr hg (zK xH));clear hb hbox hg;have aAw:=agE.out;have aAx:=agD.out;have ara:=agG.out;have arb:=agF.out;have am2:=agH.out;have am3:=xk.out;obtain ⟨_,_⟩:=zC2 ajH.out;obtain ⟨_,_⟩:=zF2 ajH.out;obtain ⟨_,_⟩:=zC2 lG.out;obtain ⟨_,_⟩:=zF2 lG.out;obtain ⟨_,_⟩:=zC2 xH.out;obtain ⟨_,_⟩:=zF2 xH.out));refine bodyPost_ret (results_cell_row rfl _ _ aq5 179 #[.int .u64 (IntKind.u64.wrap (aT+jK)),.int .u64 (IntKind.u64.wrap (bf+kL))] (0,0) _ rfl (by refine zD ?_;refine bg (cs := #[.int .u64 (IntKind.u64.wrap (aT+jK)),.int .u64 0]) ?_ 1 _ rfl;refine zD ?_;refine bg (cs := #[.int .u64 0,.int .u64 0]) ?_ 0 _ rfl;refine zD ?_;refine jV ?_ xk.out _;refine zD ?_;refine jV ?_ xk.out _;refine zD ?_;exact xH.out) Tryz.underlying179 rfl (by kernel_rfl)) rfl ?_;exact ⟨zS,zB⟩
def eG.l0:Nat→Int→Int→Int→Int→Int→Option (Int × Int)
 | 0,_,_,_,_,_=>none
 | k+1,x0,x1,x6,ap6,ap7=>if x6≥0 then ((dR.f ap6 ap7 0).bind fun am4=>(if 0≤x6 then (if (Go.bits .and .u64 (shr .u64 x1 x6) 1)=1 then ((iK.f am4.1 am4.2 0 x0).bind fun ajI=>(eG.l0 k x0 x1 (wrap64 (x6 - 1)) ajI.1 ajI.2)) else (eG.l0 k x0 x1 (wrap64 (x6 - 1)) am4.1 am4.2)) else (none))) else (some (ap6,ap7))
def eG.f (k:Nat) (a0 a1:Int):Option (Int × Int):=eG.l0 k a0 a1 63 0 0
theorem eG.calls (k:Nat) (a0 a1 r1 r2:Int) (w:World) (h:eG.f k a0 a1=some (r1,r2)) :
  Calls Tryz.prog 148 #[.int .u64 a0,.int .u64 a1] w fun e w'=>e = .returned (.agg #[.int .u64 r1,.int .u64 r2])∧Below w.heap.size w w':=by
 have aaB:=Tryz.underlying179;have HB:=aj.mk (Below.refl w.heap.size w);have H:=h;clear h;unfold eG.f at H;have H':=aj.mk H;clear H;go_enter Tryz.func148,Tryz.ntmps148;go_wp2_with (first|((with_reducible refine aZ (N:=4) rfl ?_);refine aX zR (N:=4) zR (cs := #[.int .u64 0,.int .u64 0]) (t:=179) zG ?_;intro awL hg w3 hbox hb;obtain ⟨HB,uU,aFZ,aF0⟩:=zA4 (ak zB hb) hbox (zg hg zB) (zg hg zB);clear hb hbox hg)|((with_reducible refine aZ (N:=5) rfl ?_);refine aX zR (N:=5) zR (cs := #[.int .u64 0,.int .u64 0]) (t:=179) zG ?_;intro awM hg w4 hbox hb;obtain ⟨uU,HB,pW,aF1,aF2,aef,aeg⟩:=zA7 (aA (zK uU) hb) (ak zB hb) hbox (zg hg zB) (zg hg zB) (zl hg (zK uU)) (zr hg (zK uU));clear hb hbox hg;have aC1:=aeg.out;have aC2:=aef.out;obtain ⟨_,_⟩:=zC2 pW.out;obtain ⟨_,_⟩:=zF2 pW.out));go_loopg [6] k (fun kq v6 w'=>∃ (rM:Int) (rO:Int) (qI:Int),v6 = .int .i64 rM∧aj (eG.l0 kq a0 a1 rM rO qI=some (r1,r2))∧aj (kq≤k)∧aj (w'.heap[awL]? = some (.cells #[.int .u64 0,.int .u64 0] 179 (0,0)))∧aj (w'.heap[awM]? = some (.cells #[.int .u64 rO,.int .u64 qI] 179 (0,0)))∧aj (Below w.heap.size w w'))
 case atStart=>exact ⟨(63),(0),(0),zT,H',⟨Nat.le_refl _⟩,⟨zK uU⟩,⟨by refine zD ?_;refine bg (cs := #[.int .u64 0,.int .u64 0]) ?_ 1 _ rfl;refine zD ?_;refine bg (cs := #[.int .u64 0,.int .u64 0]) ?_ 0 _ rfl;refine zD ?_;exact pW.out⟩,⟨zB⟩⟩
 case round =>
  clear H';obtain ⟨rM,rO,qI,rfl,HA,HK1,uU,pW,HB⟩:=hrel;cases gk with
  | zero=>exact absurd HA.out (by simp [eG.l0])
  | succ k1 =>
   have H:=HA.out;clear HA;simp only [eG.l0] at H;by_cases c7:rM≥0
   ·rw [if_pos c7] at H;have jr:=decide_eq_true c7;clear c7;replace H:=zO H;obtain ⟨⟨adM,aeG⟩,A8,H⟩:=H;try dsimp only at H
    by_cases c9:0≤rM
    ·rw [if_pos c9] at H;have o8:=eq_true c9;have adA:=decide_eq_true c9;clear c9;obtain ⟨dO,kT⟩:∃ j_:Int,(shr .u64 a1 rM)=j_:=⟨_,rfl⟩;replace H:(if (Go.bits .and .u64 (dO) 1)=1 then ((iK.f adM aeG 0 a0).bind fun ajI=>(eG.l0 k1 a0 a1 (wrap64 (rM - 1)) ajI.1 ajI.2)) else (eG.l0 k1 a0 a1 (wrap64 (rM - 1)) adM aeG))=some (r1,r2):=by first|(rw [kT] at H;exact H)|(simp only [kT] at H ⊢;exact H)
     (try rw [kT] at A8)
     have aog:(a1 / 2 ^ min rM.toNat 64)=dO:=kT;have as9:rM≤64→(a1 / 2 ^ rM.toNat)=dO:=rF kT;by_cases c11:(Go.bits .and .u64 (dO) 1)=1
     ·rw [if_pos c11] at H;have jv:((Go.bits .and .u64 (dO) 1) == 1)=true:=beq_iff_eq.mpr c11;have zH:((Go.bits .and .u64 (dO) 1) != 1)=false:=bne_eq_false_iff_eq.mpr c11;clear c11;replace H:=zO H;obtain ⟨⟨auk,ay3⟩,A12,H⟩:=H;try dsimp only at H
      have H':=aj.mk H;clear H;have amY:=aeg.out;have amZ:=aef.out;obtain ⟨_,_⟩:=zC2 pW.out;obtain ⟨_,_⟩:=zF2 pW.out;go_wp2_with (first|((with_reducible refine ay (f:=119) rfl ?_);refine aH (some 13) rfl rfl Tryz.func119 (by kernel_rfl) rfl #[.agg #[.int .u64 rO,.int .u64 qI],.int .u64 0] rfl zL ?_;(with_reducible refine (dR.calls rO qI 0 adM aeG _ A8.out).mono ?_);rintro e w15 ⟨rfl,hb⟩;refine ⟨_,rfl,?_⟩;obtain ⟨uU,pW,HB⟩:=zA3 (aA (zK uU) hb) (aA (zK pW) hb) (ak zB hb);(try clear hb);obtain ⟨_,_⟩:=zC2 pW.out;obtain ⟨_,_⟩:=zF2 pW.out)|((with_reducible refine ay (f:=124) rfl ?_);refine aH (some 22) rfl rfl Tryz.func124 (by kernel_rfl) rfl #[.agg #[.int .u64 adM,.int .u64 aeG],.agg #[.int .u64 0,.int .u64 a0]] rfl zL ?_;(with_reducible refine (iK.calls adM aeG 0 a0 auk ay3 _ A12.out).mono ?_);rintro e w17 ⟨rfl,hb⟩;refine ⟨_,rfl,?_⟩;obtain ⟨uU,pW,HB⟩:=zA3 (aA (zK uU) hb) (aA (g:=awM) (o := .cells #[.int .u64 adM,.int .u64 aeG] 179 (0,0)) (by refine zD ?_;refine bg (cs := #[.int .u64 adM,.int .u64 qI]) ?_ 1 _ rfl;refine zD ?_;refine bg (cs := #[.int .u64 rO,.int .u64 qI]) ?_ 0 _ rfl;refine zD ?_;exact pW.out) hb) (ak zB hb);(try clear hb);obtain ⟨_,_⟩:=zC2 pW.out;obtain ⟨_,_⟩:=zF2 pW.out));go_roundg k1
      case measure=>have:=HK1.out;omega
      case rel=>exact ⟨(wrap64 (rM - 1)),(auk),(ay3),zT,H',⟨by have:=HK1.out;omega⟩,⟨zK uU⟩,⟨by refine zD ?_;refine bg (cs := #[.int .u64 auk,.int .u64 aeG]) ?_ 1 _ rfl;refine zD ?_;refine bg (cs := #[.int .u64 adM,.int .u64 aeG]) ?_ 0 _ rfl;refine zD ?_;exact pW.out⟩,⟨zB⟩⟩
     ·rw [if_neg c11] at H;have jv:((Go.bits .and .u64 (dO) 1) == 1)=false:=beq_eq_false_iff_ne.mpr c11;have zH:((Go.bits .and .u64 (dO) 1) != 1)=true:=bne_iff_ne.mpr c11;have H':=aj.mk H;clear H;have aAy:=aeg.out;have aAz:=aef.out;obtain ⟨_,_⟩:=zC2 pW.out;obtain ⟨_,_⟩:=zF2 pW.out;go_wp2_with (first|((with_reducible refine ay (f:=119) rfl ?_);refine aH (some 13) rfl rfl Tryz.func119 (by kernel_rfl) rfl #[.agg #[.int .u64 rO,.int .u64 qI],.int .u64 0] rfl zL ?_;(with_reducible refine (dR.calls rO qI 0 adM aeG _ A8.out).mono ?_);rintro e w21 ⟨rfl,hb⟩;refine ⟨_,rfl,?_⟩;obtain ⟨uU,pW,HB⟩:=zA3 (aA (zK uU) hb) (aA (zK pW) hb) (ak zB hb);(try clear hb);obtain ⟨_,_⟩:=zC2 pW.out;obtain ⟨_,_⟩:=zF2 pW.out));go_roundg k1
      case measure=>have:=HK1.out;omega
      case rel=>exact ⟨(wrap64 (rM - 1)),(adM),(aeG),zT,H',⟨by have:=HK1.out;omega⟩,⟨zK uU⟩,⟨by refine zD ?_;refine bg (cs := #[.int .u64 adM,.int .u64 qI]) ?_ 1 _ rfl;refine zD ?_;refine bg (cs := #[.int .u64 rO,.int .u64 qI]) ?_ 0 _ rfl;refine zD ?_;exact pW.out⟩,⟨zB⟩⟩
    ·rw [if_neg c9] at H;exact absurd H (by simp)
   ·rw [if_neg c7] at H;have jr:=decide_eq_false c7;clear c7;simp only [Option.some.injEq,Prod.mk.injEq] at H;obtain ⟨rfl,rfl⟩:=H;have am0:=aeg.out;have am1:=aef.out;obtain ⟨_,_⟩:=zC2 pW.out;obtain ⟨_,_⟩:=zF2 pW.out;obtain ⟨_,_⟩:=zC2 uU.out;obtain ⟨_,_⟩:=zF2 uU.out;go_wp2;refine bodyPost_ret (results_cell_row rfl _ _ awL 179 #[.int .u64 rO,.int .u64 qI] (0,0) _ rfl (by refine zD ?_;refine bg (cs := #[.int .u64 rO,.int .u64 0]) ?_ 1 _ rfl;refine zD ?_;refine bg (cs := #[.int .u64 0,.int .u64 0]) ?_ 0 _ rfl;refine zD ?_;exact uU.out) Tryz.underlying179 rfl (by kernel_rfl)) rfl ?_;exact ⟨zS,zB⟩
def iU.f (aT bf jK kL:Int):Option (Bool):=if aT=jK then (some (decide (bf < kL))) else (some (decide (aT < jK)))
theorem iU.calls (aT bf jK kL:Int) (r:Bool) (w:World) (h:iU.f aT bf jK kL=some r) :
  Calls Tryz.prog 123 #[.agg #[.int .u64 aT,.int .u64 bf],.agg #[.int .u64 jK,.int .u64 kL]] w fun e w'=>e = .returned (.bool r)∧Below w.heap.size w w':=by
 have aaB:=Tryz.underlying179;have HB:=aj.mk (Below.refl w.heap.size w);have H:=h;clear h;unfold iU.f at H;by_cases c3:aT=jK
 ·rw [if_pos c3] at H;have fV:(aT == jK)=true:=beq_iff_eq.mpr c3;have wG:(aT != jK)=false:=bne_eq_false_iff_eq.mpr c3;clear c3;obtain rfl:=Option.some.inj H;go_enter Tryz.func123,Tryz.ntmps123;go_wp2_with (first|((with_reducible refine aZ (N:=2) rfl ?_);refine aX zR (N:=2) zR (cs := #[.int .u64 aT,.int .u64 bf]) (t:=179) zG ?_;intro aAA hg w4 hbox hb;obtain ⟨HB,zJ,aAB,aAC⟩:=zA4 (ak zB hb) hbox (zg hg zB) (zg hg zB);clear hb hbox hg)|((with_reducible refine aZ (N:=3) rfl ?_);refine aX zR (N:=3) zR (cs := #[.int .u64 jK,.int .u64 kL]) (t:=179) zG ?_;intro aAD hg w5 hbox hb;obtain ⟨zJ,HB,ajJ,aAE,aAF,agI,agJ⟩:=zA7 (aA (zK zJ) hb) (ak zB hb) hbox (zg hg zB) (zg hg zB) (zl hg (zK zJ)) (zr hg (zK zJ));clear hb hbox hg;have aC3:=agI.out;have aC4:=agJ.out;obtain ⟨_,_⟩:=zC2 zJ.out;obtain ⟨_,_⟩:=zF2 zJ.out;obtain ⟨_,_⟩:=zC2 ajJ.out;obtain ⟨_,_⟩:=zF2 ajJ.out));go_ret;exact ⟨zS,zB⟩
 ·rw [if_neg c3] at H;have fV:(aT == jK)=false:=beq_eq_false_iff_ne.mpr c3;have wG:(aT != jK)=true:=bne_iff_ne.mpr c3;obtain rfl:=Option.some.inj H;go_enter Tryz.func123,Tryz.ntmps123;go_wp2_with (first|((with_reducible refine aZ (N:=2) rfl ?_);refine aX zR (N:=2) zR (cs := #[.int .u64 aT,.int .u64 bf]) (t:=179) zG ?_;intro aAA hg w9 hbox hb;obtain ⟨HB,zJ,aAB,aAC⟩:=zA4 (ak zB hb) hbox (zg hg zB) (zg hg zB);clear hb hbox hg)|((with_reducible refine aZ (N:=3) rfl ?_);refine aX zR (N:=3) zR (cs := #[.int .u64 jK,.int .u64 kL]) (t:=179) zG ?_;intro aAD hg w10 hbox hb;obtain ⟨zJ,HB,ajJ,aAE,aAF,agI,agJ⟩:=zA7 (aA (zK zJ) hb) (ak zB hb) hbox (zg hg zB) (zg hg zB) (zl hg (zK zJ)) (zr hg (zK zJ));clear hb hbox hg;have aAG:=agI.out;have aAH:=agJ.out;obtain ⟨_,_⟩:=zC2 zJ.out;obtain ⟨_,_⟩:=zF2 zJ.out;obtain ⟨_,_⟩:=zC2 ajJ.out;obtain ⟨_,_⟩:=zF2 ajJ.out));go_ret;exact ⟨zS,zB⟩
def cZ.j0:Nat→Bool→Int→Int→Option (Int)
 | 0,_,_,_=>none
 | k+1,x13,aEl,ax0=>if x13=true then (some (-9223372036854775808)) else (some (wrap64 (-(wrap64 (ax0)))))
def cZ.f (k:Nat) (aT bf:Int) (a1:Bool):Option (Int):=if a1=true then (if aT > 0 then (cZ.j0 k true aT bf) else (cZ.j0 k (decide (bf > 9223372036854775807)) aT bf)) else (if aT > 0 then (some 9223372036854775807) else (if bf > 9223372036854775807 then (some 9223372036854775807) else (some (wrap64 (bf)))))
theorem cZ.calls (k:Nat) (aT bf:Int) (a1:Bool) (r:Int) (w:World) (h:cZ.f k aT bf a1=some r) :
  Calls Tryz.prog 125 #[.agg #[.int .u64 aT,.int .u64 bf],.bool a1] w fun e w'=>e = .returned (.int .i64 r)∧Below w.heap.size w w':=by
 have aaB:=Tryz.underlying179;have HB:=aj.mk (Below.refl w.heap.size w);have H:=h;clear h;unfold cZ.f at H;by_cases c3:a1=true
 ·subst c3;rw [if_pos rfl] at H;(try dsimp only at H);have HC4:=aj.mk H;clear H;go_enter Tryz.func125,Tryz.ntmps125;go_upto_region 2 with (first|((with_reducible refine aZ (N:=2) rfl ?_);refine aX zR (N:=2) zR (cs := #[.int .u64 aT,.int .u64 bf]) (t:=179) zG ?_;intro am5 hg w5 hbox hb;obtain ⟨HB,uw,ard,arf⟩:=zA4 (ak zB hb) hbox (zg hg zB) (zg hg zB);clear hb hbox hg))
  (try simp only [Act.put,List.setIfInBounds_toArray,List.set_cons_zero,List.set_cons_succ])
  go_cut [13] (fun v13 wc=>∃ (kq:Nat) (ac3:Bool),v13 = .bool ac3∧aj (cZ.j0 kq ac3 aT bf=some r)∧aj (kq≤k)∧aj (wc.heap[am5]? = some (.cells #[.int .u64 aT,.int .u64 bf] 179 (0,0)))∧aj (Below w.heap.size w wc))
  case first =>
   have H:=HC4.out;clear HC4;by_cases c6:aT > 0
   ·rw [if_pos c6] at H;have gI:=decide_eq_true c6;clear c6
    (first|rw [gI]|(simp only [bP,bU];rw [gI])|skip)
    have H':=aj.mk H;clear H;obtain ⟨_,_⟩:=zC2 uw.out;obtain ⟨_,_⟩:=zF2 uw.out;go_wp2;go_meet
    case rel=>exact ⟨_,(true),zT,H',⟨by first|omega|exact Nat.le_refl _⟩,⟨zK uw⟩,⟨zB⟩⟩
   ·rw [if_neg c6] at H;have gI:=decide_eq_false c6;clear c6
    (first|rw [gI]|(simp only [bP,bU];rw [gI])|skip)
    have H':=aj.mk H;clear H;obtain ⟨_,_⟩:=zC2 uw.out;obtain ⟨_,_⟩:=zF2 uw.out;go_wp2;go_meet
    case rel=>exact ⟨_,(decide (bf > 9223372036854775807)),zT,H',⟨by first|omega|exact Nat.le_refl _⟩,⟨zK uw⟩,⟨zB⟩⟩
  case rest =>
   clear HC4;obtain ⟨kq,ac3,rfl,HA,HJ3,uw,HB⟩:=hcut;cases kq with
   | zero=>exact absurd HA.out (by simp [cZ.j0])
   | succ kj3 =>
    have H:=HA.out;clear HA;simp only [cZ.j0] at H;by_cases c9:ac3=true
    ·subst c9;rw [if_pos rfl] at H;(try dsimp only at H);obtain rfl:=Option.some.inj H;go_wp2;go_ret;exact ⟨zS,zB⟩
    ·replace c9:=Bool.eq_false_iff.mpr c9;subst c9;rw [if_neg (show ¬ (false=true) by decide)] at H;(try dsimp only at H);obtain rfl:=Option.some.inj H;obtain ⟨_,_⟩:=zC2 uw.out;obtain ⟨_,_⟩:=zF2 uw.out;go_wp2;go_ret;exact ⟨zS,zB⟩
 ·replace c3:=Bool.eq_false_iff.mpr c3;subst c3;rw [if_neg (show ¬ (false=true) by decide)] at H;(try dsimp only at H);by_cases c11:aT > 0
  ·rw [if_pos c11] at H;have jv:=decide_eq_true c11;clear c11;obtain rfl:=Option.some.inj H;go_enter Tryz.func125,Tryz.ntmps125;go_wp2_with (first|((with_reducible refine aZ (N:=2) rfl ?_);refine aX zR (N:=2) zR (cs := #[.int .u64 aT,.int .u64 bf]) (t:=179) zG ?_;intro am5 hg w12 hbox hb;obtain ⟨HB,uw,ard,arf⟩:=zA4 (ak zB hb) hbox (zg hg zB) (zg hg zB);clear hb hbox hg;obtain ⟨_,_⟩:=zC2 uw.out;obtain ⟨_,_⟩:=zF2 uw.out));go_ret;exact ⟨zS,zB⟩
  ·rw [if_neg c11] at H;have jv:=decide_eq_false c11;clear c11;by_cases c14:bf > 9223372036854775807
   ·rw [if_pos c14] at H;have acn:=decide_eq_true c14;clear c14;obtain rfl:=Option.some.inj H;go_enter Tryz.func125,Tryz.ntmps125;go_wp2_with (first|((with_reducible refine aZ (N:=2) rfl ?_);refine aX zR (N:=2) zR (cs := #[.int .u64 aT,.int .u64 bf]) (t:=179) zG ?_;intro am5 hg w15 hbox hb;obtain ⟨HB,uw,ard,arf⟩:=zA4 (ak zB hb) hbox (zg hg zB) (zg hg zB);clear hb hbox hg;obtain ⟨_,_⟩:=zC2 uw.out;obtain ⟨_,_⟩:=zF2 uw.out));go_ret;exact ⟨zS,zB⟩
   ·rw [if_neg c14] at H;have acn:=decide_eq_false c14;clear c14;obtain rfl:=Option.some.inj H;go_enter Tryz.func125,Tryz.ntmps125;go_wp2_with (first|((with_reducible refine aZ (N:=2) rfl ?_);refine aX zR (N:=2) zR (cs := #[.int .u64 aT,.int .u64 bf]) (t:=179) zG ?_;intro am5 hg w17 hbox hb;obtain ⟨HB,uw,ard,arf⟩:=zA4 (ak zB hb) hbox (zg hg zB) (zg hg zB);clear hb hbox hg;obtain ⟨_,_⟩:=zC2 uw.out;obtain ⟨_,_⟩:=zF2 uw.out));go_ret;exact ⟨zS,zB⟩
def fZ.f (aT bf a1:Int):Option (Int):=if a1≥64 then (if 0≤(wrap64 (a1 - 64)) then (some (Go.bits .and .u64 (shr .u64 aT (wrap64 (a1 - 64))) 1)) else (none)) else (if 0≤a1 then (some (Go.bits .and .u64 (shr .u64 bf a1) 1)) else (none))
theorem fZ.calls (aT bf a1 r:Int) (w:World) (h:fZ.f aT bf a1=some r) :
  Calls Tryz.prog 121 #[.agg #[.int .u64 aT,.int .u64 bf],.int .i64 a1] w fun e w'=>e = .returned (.int .u64 r)∧Below w.heap.size w w':=by
 have aaB:=Tryz.underlying179;have HB:=aj.mk (Below.refl w.heap.size w);have H:=h;clear h;unfold fZ.f at H;by_cases c3:a1≥64
 ·rw [if_pos c3] at H;have fV:=decide_eq_true c3;clear c3;obtain ⟨ji4,qW⟩:∃ j_:Int,(wrap64 (a1 - 64))=j_:=⟨_,rfl⟩;replace H:(if 0≤(ji4) then (some (Go.bits .and .u64 (shr .u64 aT (ji4)) 1)) else (none))=some r:=(by first|(rw [qW] at H;exact H)|(simp only [qW] at H ⊢;exact H));have aF3:(IntKind.i64.wrap (a1 - 64))=ji4:=(bP _).trans qW;by_cases c5:0≤(ji4)
  ·rw [if_pos c5] at H;have gJ:=eq_true c5;have abY:=decide_eq_true c5;clear c5;obtain ⟨ji6,vU⟩:∃ j_:Int,(shr .u64 aT (ji4))=j_:=⟨_,rfl⟩;replace H:(some (Go.bits .and .u64 (ji6) 1))=some r:=(by first|(rw [vU] at H;exact H)|(simp only [vU] at H ⊢;exact H));have awN:(aT / 2 ^ min (ji4).toNat 64)=ji6:=vU;have aAI:(ji4)≤64→(aT / 2 ^ (ji4).toNat)=ji6:=rF vU;obtain rfl:=Option.some.inj H;go_enter Tryz.func121,Tryz.ntmps121;go_wp2_with (first|((with_reducible refine aZ (N:=2) rfl ?_);refine aX zR (N:=2) zR (cs := #[.int .u64 aT,.int .u64 bf]) (t:=179) zG ?_;intro aAJ hg w7 hbox hb;obtain ⟨HB,ajK,aAK,aAL⟩:=zA4 (ak zB hb) hbox (zg hg zB) (zg hg zB);clear hb hbox hg;obtain ⟨_,_⟩:=zC2 ajK.out;obtain ⟨_,_⟩:=zF2 ajK.out));go_ret;exact ⟨by first|rfl|(simp [bJ,bK] <;> rfl)|(simp only [← qW,← vU];first|rfl|(simp [bJ,bK] <;> rfl))|(simp [*,bJ,bK] <;> rfl),zB⟩
  ·rw [if_neg c5] at H;exact absurd H (by simp)
 ·rw [if_neg c3] at H;have fV:=decide_eq_false c3;clear c3;by_cases c9:0≤a1
  ·rw [if_pos c9] at H;have o8:=eq_true c9;have adA:=decide_eq_true c9;clear c9;obtain ⟨dO,kT⟩:∃ j_:Int,(shr .u64 bf a1)=j_:=⟨_,rfl⟩;replace H:(some (Go.bits .and .u64 (dO) 1))=some r:=(by first|(rw [kT] at H;exact H)|(simp only [kT] at H ⊢;exact H));have aog:(bf / 2 ^ min a1.toNat 64)=dO:=kT;have as9:a1≤64→(bf / 2 ^ a1.toNat)=dO:=rF kT;obtain rfl:=Option.some.inj H;go_enter Tryz.func121,Tryz.ntmps121;go_wp2_with (first|((with_reducible refine aZ (N:=2) rfl ?_);refine aX zR (N:=2) zR (cs := #[.int .u64 aT,.int .u64 bf]) (t:=179) zG ?_;intro aAJ hg w11 hbox hb;obtain ⟨HB,ajK,aAK,aAL⟩:=zA4 (ak zB hb) hbox (zg hg zB) (zg hg zB);clear hb hbox hg;obtain ⟨_,_⟩:=zC2 ajK.out;obtain ⟨_,_⟩:=zF2 ajK.out));go_ret;exact ⟨by first|rfl|(simp [bJ,bK] <;> rfl)|(simp only [← kT];first|rfl|(simp [bJ,bK] <;> rfl))|(simp [*,bJ,bK] <;> rfl),zB⟩
  ·rw [if_neg c9] at H;exact absurd H (by simp)
def lH.f (aT bf jK kL:Int):Option (Int × Int):=if bf < kL then (some (IntKind.u64.wrap ((IntKind.u64.wrap (aT - jK)) - 1),IntKind.u64.wrap (bf - kL))) else (some (IntKind.u64.wrap (aT - jK),IntKind.u64.wrap (bf - kL)))
theorem lH.calls (aT bf jK kL r1 r2:Int) (w:World) (h:lH.f aT bf jK kL=some (r1,r2)) :
  Calls Tryz.prog 122 #[.agg #[.int .u64 aT,.int .u64 bf],.agg #[.int .u64 jK,.int .u64 kL]] w fun e w'=>e = .returned (.agg #[.int .u64 r1,.int .u64 r2])∧Below w.heap.size w w':=by
 have aaB:=Tryz.underlying179;have HB:=aj.mk (Below.refl w.heap.size w);have H:=h;clear h;unfold lH.f at H;by_cases c3:bf < kL
 ·rw [if_pos c3] at H;have fV:=decide_eq_true c3;clear c3;simp only [Option.some.injEq,Prod.mk.injEq] at H;obtain ⟨rfl,rfl⟩:=H;go_enter Tryz.func122,Tryz.ntmps122;go_wp2_with (first|((with_reducible refine aZ (N:=2) rfl ?_);refine aX zR (N:=2) zR (cs := #[.int .u64 aT,.int .u64 bf]) (t:=179) zG ?_;intro aAM hg w4 hbox hb;obtain ⟨HB,lI,aAN,aAO⟩:=zA4 (ak zB hb) hbox (zg hg zB) (zg hg zB);clear hb hbox hg)|((with_reducible refine aZ (N:=3) rfl ?_);refine aX zR (N:=3) zR (cs := #[.int .u64 jK,.int .u64 kL]) (t:=179) zG ?_;intro aAP hg w5 hbox hb;obtain ⟨lI,HB,oZ,aAQ,aAR,agK,agL⟩:=zA7 (aA (zK lI) hb) (ak zB hb) hbox (zg hg zB) (zg hg zB) (zl hg (zK lI)) (zr hg (zK lI));clear hb hbox hg)|((with_reducible refine aZ (N:=4) rfl ?_);refine aX zR (N:=4) zR (cs := #[.int .u64 0,.int .u64 0]) (t:=179) zG ?_;intro arh hg w6 hbox hb;obtain ⟨lI,oZ,HB,xI,aAS,aAT,agM,agN,agO,agP⟩:=aff (aA (zK lI) hb) (aA (zK oZ) hb) (ak zB hb) hbox (zg hg zB) (zg hg zB) (zl hg (zK lI)) (zr hg (zK lI)) (zl hg (zK oZ)) (zr hg (zK oZ));clear hb hbox hg;have aui:=agK.out;have auj:=agL.out;have ay1:=agM.out;have ay2:=agN.out;obtain ⟨_,_⟩:=zC2 lI.out;obtain ⟨_,_⟩:=zF2 lI.out;have ajF:=agO.out;have ajG:=agP.out;obtain ⟨_,_⟩:=zC2 oZ.out;obtain ⟨_,_⟩:=zF2 oZ.out)|((with_reducible refine aZ (N:=5) rfl ?_);refine aX zR (N:=5) zR (cs := #[.int .u64 0,.int .u64 0]) (t:=179) zG ?_;intro aAU hg w12 hbox hb;obtain ⟨lI,oZ,xI,HB,ajL,aAV,aAW,agQ,agR,agS,agT,xq,agU⟩:=agj (aA (zK lI) hb) (aA (zK oZ) hb) (aA (zK xI) hb) (ak zB hb) hbox (zg hg zB) (zg hg zB) (zl hg (zK lI)) (zr hg (zK lI)) (zl hg (zK oZ)) (zr hg (zK oZ)) (zl hg (zK xI)) (zr hg (zK xI));clear hb hbox hg;have amY:=agR.out;have amZ:=agQ.out;have aq6:=agT.out;have aq7:=agS.out;have awH:=agU.out;have awI:=xq.out;obtain ⟨_,_⟩:=zC2 ajL.out;obtain ⟨_,_⟩:=zF2 ajL.out;obtain ⟨_,_⟩:=zC2 lI.out;obtain ⟨_,_⟩:=zF2 lI.out;obtain ⟨_,_⟩:=zC2 oZ.out;obtain ⟨_,_⟩:=zF2 oZ.out;obtain ⟨_,_⟩:=zC2 xI.out;obtain ⟨_,_⟩:=zF2 xI.out));refine bodyPost_ret (results_cell_row rfl _ _ arh 179 #[.int .u64 (IntKind.u64.wrap ((IntKind.u64.wrap (aT - jK)) - 1)),.int .u64 (IntKind.u64.wrap (bf - kL))] (0,0) _ rfl (by refine zD ?_;refine bg (cs := #[.int .u64 (IntKind.u64.wrap ((IntKind.u64.wrap (aT - jK)) - 1)),.int .u64 0]) ?_ 1 _ rfl;refine zD ?_;refine bg (cs := #[.int .u64 0,.int .u64 0]) ?_ 0 _ rfl;refine zD ?_;refine jV ?_ xq.out _;refine zD ?_;refine jV ?_ xq.out _;refine zD ?_;refine jV ?_ xq.out _;refine zD ?_;exact xI.out) Tryz.underlying179 rfl (by kernel_rfl)) rfl ?_;exact ⟨zS,zB⟩
 ·rw [if_neg c3] at H;have fV:=decide_eq_false c3;clear c3;simp only [Option.some.injEq,Prod.mk.injEq] at H;obtain ⟨rfl,rfl⟩:=H;go_enter Tryz.func122,Tryz.ntmps122;go_wp2_with (first|((with_reducible refine aZ (N:=2) rfl ?_);refine aX zR (N:=2) zR (cs := #[.int .u64 aT,.int .u64 bf]) (t:=179) zG ?_;intro aAM hg w20 hbox hb;obtain ⟨HB,lI,aAN,aAO⟩:=zA4 (ak zB hb) hbox (zg hg zB) (zg hg zB);clear hb hbox hg)|((with_reducible refine aZ (N:=3) rfl ?_);refine aX zR (N:=3) zR (cs := #[.int .u64 jK,.int .u64 kL]) (t:=179) zG ?_;intro aAP hg w21 hbox hb;obtain ⟨lI,HB,oZ,aAQ,aAR,agK,agL⟩:=zA7 (aA (zK lI) hb) (ak zB hb) hbox (zg hg zB) (zg hg zB) (zl hg (zK lI)) (zr hg (zK lI));clear hb hbox hg)|((with_reducible refine aZ (N:=4) rfl ?_);refine aX zR (N:=4) zR (cs := #[.int .u64 0,.int .u64 0]) (t:=179) zG ?_;intro arh hg w22 hbox hb;obtain ⟨lI,oZ,HB,xI,aAS,aAT,agM,agN,agO,agP⟩:=aff (aA (zK lI) hb) (aA (zK oZ) hb) (ak zB hb) hbox (zg hg zB) (zg hg zB) (zl hg (zK lI)) (zr hg (zK lI)) (zl hg (zK oZ)) (zr hg (zK oZ));clear hb hbox hg;have am0:=agK.out;have am1:=agL.out;have aAX:=agM.out;have aAY:=agN.out;obtain ⟨_,_⟩:=zC2 lI.out;obtain ⟨_,_⟩:=zF2 lI.out;have aAZ:=agO.out;have aA0:=agP.out;obtain ⟨_,_⟩:=zC2 oZ.out;obtain ⟨_,_⟩:=zF2 oZ.out)|((with_reducible refine aZ (N:=5) rfl ?_);refine aX zR (N:=5) zR (cs := #[.int .u64 0,.int .u64 0]) (t:=179) zG ?_;intro aAU hg w28 hbox hb;obtain ⟨lI,oZ,xI,HB,ajL,aAV,aAW,agQ,agR,agS,agT,xq,agU⟩:=agj (aA (zK lI) hb) (aA (zK oZ) hb) (aA (zK xI) hb) (ak zB hb) hbox (zg hg zB) (zg hg zB) (zl hg (zK lI)) (zr hg (zK lI)) (zl hg (zK oZ)) (zr hg (zK oZ)) (zl hg (zK xI)) (zr hg (zK xI));clear hb hbox hg;have ara:=agR.out;have arb:=agQ.out;have am2:=agT.out;have am3:=agS.out;have aF4:=agU.out;have aF5:=xq.out;obtain ⟨_,_⟩:=zC2 ajL.out;obtain ⟨_,_⟩:=zF2 ajL.out;obtain ⟨_,_⟩:=zC2 lI.out;obtain ⟨_,_⟩:=zF2 lI.out;obtain ⟨_,_⟩:=zC2 oZ.out;obtain ⟨_,_⟩:=zF2 oZ.out;obtain ⟨_,_⟩:=zC2 xI.out;obtain ⟨_,_⟩:=zF2 xI.out));refine bodyPost_ret (results_cell_row rfl _ _ arh 179 #[.int .u64 (IntKind.u64.wrap (aT - jK)),.int .u64 (IntKind.u64.wrap (bf - kL))] (0,0) _ rfl (by refine zD ?_;refine bg (cs := #[.int .u64 (IntKind.u64.wrap (aT - jK)),.int .u64 0]) ?_ 1 _ rfl;refine zD ?_;refine bg (cs := #[.int .u64 0,.int .u64 0]) ?_ 0 _ rfl;refine zD ?_;refine jV ?_ xq.out _;refine zD ?_;refine jV ?_ xq.out _;refine zD ?_;exact xI.out) Tryz.underlying179 rfl (by kernel_rfl)) rfl ?_;exact ⟨zS,zB⟩
def fQ.l0:Nat→Int→Int→Int→Int→Int→Int→Int→Int→Option (Int × Int × Int)
 | 0,_,_,_,_,_,_,_,_=>none
 | k+1,x1,x8,ak5,ak6,ap8,ap9,ax1,aqa=>if x8≥0 then ((fZ.f ak5 ak6 x8).bind fun agV=>((dR.f ax1 aqa agV).bind fun ahR=>((dR.f ap8 ap9 0).bind fun am6=>((iU.f ahR.1 ahR.2 0 x1).bind fun aul=>(if aul=true then (fQ.l0 k x1 (wrap64 (x8 - 1)) ak5 ak6 am6.1 am6.2 ahR.1 ahR.2) else ((lH.f ahR.1 ahR.2 0 x1).bind fun awO=>(fQ.l0 k x1 (wrap64 (x8 - 1)) ak5 ak6 am6.1 (IntKind.u64.wrap (am6.2+1)) awO.1 awO.2))))))) else (some (ap8,ap9,aqa))
def fQ.f (k:Nat) (aT bf a1:Int):Option (Int × Int × Int):=if a1=0 then (some (0,0,0)) else (fQ.l0 k a1 127 aT bf 0 0 0 0)
theorem fQ.calls (k:Nat) (aT bf a1 r1 r2 r3:Int) (w:World) (h:fQ.f k aT bf a1=some (r1,r2,r3)) :
  Calls Tryz.prog 172 #[.agg #[.int .u64 aT,.int .u64 bf],.int .u64 a1] w fun e w'=>e = .returned (.tuple #[.agg #[.int .u64 r1,.int .u64 r2],.int .u64 r3])∧Below w.heap.size w w':=by
 have aaB:=Tryz.underlying179;have HB:=aj.mk (Below.refl w.heap.size w);have H:=h;clear h;unfold fQ.f at H;by_cases c3:a1=0
 ·rw [if_pos c3] at H;have fV:(a1 == 0)=true:=beq_iff_eq.mpr c3;have wG:(a1 != 0)=false:=bne_eq_false_iff_eq.mpr c3;clear c3;simp only [Option.some.injEq,Prod.mk.injEq] at H;obtain ⟨rfl,rfl,rfl⟩:=H;go_enter Tryz.func172,Tryz.ntmps172;go_wp2_with (first|((with_reducible refine aZ (N:=2) rfl ?_);refine aX zR (N:=2) zR (cs := #[.int .u64 aT,.int .u64 bf]) (t:=179) zG ?_;intro ahS hg w4 hbox hb;obtain ⟨HB,fM,aA1,aA2⟩:=zA4 (ak zB hb) hbox (zg hg zB) (zg hg zB);clear hb hbox hg)|((with_reducible refine aZ (N:=4) rfl ?_);refine aX zR (N:=4) zR (cs := #[.int .u64 0,.int .u64 0]) (t:=179) zG ?_;intro yI hg w5 hbox hb;obtain ⟨fM,HB,iM,aA3,aA4,aeh,aei⟩:=zA7 (aA (zK fM) hb) (ak zB hb) hbox (zg hg zB) (zg hg zB) (zl hg (zK fM)) (zr hg (zK fM));clear hb hbox hg)|((with_reducible refine aZ (N:=6) rfl ?_);refine aX zR (N:=6) zR (cs := #[.int .u64 0,.int .u64 0]) (t:=179) zG ?_;intro wo hg w6 hbox hb;obtain ⟨fM,iM,HB,iG,aA5,aA6,acA,acB,yV,rP⟩:=aff (aA (zK fM) hb) (aA (zK iM) hb) (ak zB hb) hbox (zg hg zB) (zg hg zB) (zl hg (zK fM)) (zr hg (zK fM)) (zl hg (zK iM)) (zr hg (zK iM));clear hb hbox hg;have aui:=acB.out;have auj:=acA.out;have ay1:=rP.out;have ay2:=yV.out;obtain ⟨_,_⟩:=zC2 iG.out;obtain ⟨_,_⟩:=zF2 iG.out)|((with_reducible refine aZ (N:=7) rfl ?_);refine aX zR (N:=7) zR (cs := #[.int .u64 0,.int .u64 0]) (t:=179) zG ?_;intro uy hg w10 hbox hb;obtain ⟨fM,iM,iG,HB,fU,aA7,aA8,uV,uX,pK,nG,rQ,sV⟩:=agj (aA (zK fM) hb) (aA (zK iM) hb) (aA (g:=wo) (o := .cells #[.int .u64 0,.int .u64 0] 179 (0,0)) (by refine zD ?_;refine bg (cs := #[.int .u64 0,.int .u64 0]) ?_ 1 _ rfl;refine zD ?_;refine bg (cs := #[.int .u64 0,.int .u64 0]) ?_ 0 _ rfl;refine zD ?_;exact iG.out) hb) (ak zB hb) hbox (zg hg zB) (zg hg zB) (zl hg (zK fM)) (zr hg (zK fM)) (zl hg (zK iM)) (zr hg (zK iM)) ((by rw [hg];exact Nat.ne_of_lt (bI (g:=wo) (o := .cells #[.int .u64 0,.int .u64 0] 179 (0,0)) (by refine zD ?_;refine bg (cs := #[.int .u64 0,.int .u64 0]) ?_ 1 _ rfl;refine zD ?_;refine bg (cs := #[.int .u64 0,.int .u64 0]) ?_ 0 _ rfl;refine zD ?_;exact iG.out)):wo≠uy)) ((by rw [hg];exact Nat.ne_of_gt (bI (g:=wo) (o := .cells #[.int .u64 0,.int .u64 0] 179 (0,0)) (by refine zD ?_;refine bg (cs := #[.int .u64 0,.int .u64 0]) ?_ 1 _ rfl;refine zD ?_;refine bg (cs := #[.int .u64 0,.int .u64 0]) ?_ 0 _ rfl;refine zD ?_;exact iG.out)):uy≠wo));clear hb hbox hg;have aAG:=uX.out;have aAH:=uV.out;have awP:=nG.out;have awQ:=pK.out;have amY:=sV.out;have amZ:=rQ.out;obtain ⟨_,_⟩:=zC2 fU.out;obtain ⟨_,_⟩:=zF2 fU.out;obtain ⟨_,_⟩:=zC2 iG.out;obtain ⟨_,_⟩:=zF2 iG.out;have aA9:=aei.out;have aBa:=aeh.out;obtain ⟨_,_⟩:=zC2 iM.out;obtain ⟨_,_⟩:=zF2 iM.out));refine bodyPost_ret (ajs rfl _ _ yI 179 #[.int .u64 0,.int .u64 0] (0,0) _ rfl (by refine zD ?_;refine bg (cs := #[.int .u64 0,.int .u64 0]) ?_ 1 _ rfl;refine zD ?_;refine bg (cs := #[.int .u64 0,.int .u64 0]) ?_ 0 _ rfl;refine zD ?_;refine jV ?_ pK.out _;refine zD ?_;refine jV ?_ pK.out _;refine zD ?_;exact iM.out) Tryz.underlying179 rfl (by kernel_rfl)) rfl ?_;exact ⟨zS,zB⟩
 ·rw [if_neg c3] at H;have fV:(a1 == 0)=false:=beq_eq_false_iff_ne.mpr c3;have wG:(a1 != 0)=true:=bne_iff_ne.mpr c3;have H':=aj.mk H;clear H;go_enter Tryz.func172,Tryz.ntmps172;go_wp2_with (first|((with_reducible refine aZ (N:=2) rfl ?_);refine aX zR (N:=2) zR (cs := #[.int .u64 aT,.int .u64 bf]) (t:=179) zG ?_;intro ahS hg w18 hbox hb;obtain ⟨HB,fM,aA1,aA2⟩:=zA4 (ak zB hb) hbox (zg hg zB) (zg hg zB);clear hb hbox hg)|((with_reducible refine aZ (N:=4) rfl ?_);refine aX zR (N:=4) zR (cs := #[.int .u64 0,.int .u64 0]) (t:=179) zG ?_;intro yI hg w19 hbox hb;obtain ⟨fM,HB,iM,aA3,aA4,aeh,aei⟩:=zA7 (aA (zK fM) hb) (ak zB hb) hbox (zg hg zB) (zg hg zB) (zl hg (zK fM)) (zr hg (zK fM));clear hb hbox hg)|((with_reducible refine aZ (N:=6) rfl ?_);refine aX zR (N:=6) zR (cs := #[.int .u64 0,.int .u64 0]) (t:=179) zG ?_;intro wo hg w20 hbox hb;obtain ⟨fM,iM,HB,iG,aA5,aA6,acA,acB,yV,rP⟩:=aff (aA (zK fM) hb) (aA (zK iM) hb) (ak zB hb) hbox (zg hg zB) (zg hg zB) (zl hg (zK fM)) (zr hg (zK fM)) (zl hg (zK iM)) (zr hg (zK iM));clear hb hbox hg;have aF6:=acB.out;have aF7:=acA.out;have awJ:=rP.out;have awK:=yV.out;obtain ⟨_,_⟩:=zC2 iG.out;obtain ⟨_,_⟩:=zF2 iG.out)|((with_reducible refine aZ (N:=7) rfl ?_);refine aX zR (N:=7) zR (cs := #[.int .u64 0,.int .u64 0]) (t:=179) zG ?_;intro uy hg w24 hbox hb;obtain ⟨fM,iM,iG,HB,fU,aA7,aA8,uV,uX,pK,nG,rQ,sV⟩:=agj (aA (zK fM) hb) (aA (zK iM) hb) (aA (g:=wo) (o := .cells #[.int .u64 0,.int .u64 0] 179 (0,0)) (by refine zD ?_;refine bg (cs := #[.int .u64 0,.int .u64 0]) ?_ 1 _ rfl;refine zD ?_;refine bg (cs := #[.int .u64 0,.int .u64 0]) ?_ 0 _ rfl;refine zD ?_;exact iG.out) hb) (ak zB hb) hbox (zg hg zB) (zg hg zB) (zl hg (zK fM)) (zr hg (zK fM)) (zl hg (zK iM)) (zr hg (zK iM)) ((by rw [hg];exact Nat.ne_of_lt (bI (g:=wo) (o := .cells #[.int .u64 0,.int .u64 0] 179 (0,0)) (by refine zD ?_;refine bg (cs := #[.int .u64 0,.int .u64 0]) ?_ 1 _ rfl;refine zD ?_;refine bg (cs := #[.int .u64 0,.int .u64 0]) ?_ 0 _ rfl;refine zD ?_;exact iG.out)):wo≠uy)) ((by rw [hg];exact Nat.ne_of_gt (bI (g:=wo) (o := .cells #[.int .u64 0,.int .u64 0] 179 (0,0)) (by refine zD ?_;refine bg (cs := #[.int .u64 0,.int .u64 0]) ?_ 1 _ rfl;refine zD ?_;refine bg (cs := #[.int .u64 0,.int .u64 0]) ?_ 0 _ rfl;refine zD ?_;exact iG.out)):uy≠wo));clear hb hbox hg;have aq8:=uX.out;have aq9:=uV.out;have aAZ:=nG.out;have aA0:=pK.out;have aF8:=sV.out;have aF9:=rQ.out;obtain ⟨_,_⟩:=zC2 fU.out;obtain ⟨_,_⟩:=zF2 fU.out));go_loopg [8] k (fun kq v8 w'=>∃ (iR:Int) (qJ:Int) (pO:Int) (oJ:Int) (mG:Int),v8 = .int .i64 iR∧aj (fQ.l0 kq a1 iR aT bf qJ pO oJ mG=some (r1,r2,r3))∧aj (kq≤k)∧aj (w'.heap[ahS]? = some (.cells #[.int .u64 aT,.int .u64 bf] 179 (0,0)))∧aj (w'.heap[yI]? = some (.cells #[.int .u64 0,.int .u64 0] 179 (0,0)))∧aj (w'.heap[wo]? = some (.cells #[.int .u64 qJ,.int .u64 pO] 179 (0,0)))∧aj (w'.heap[uy]? = some (.cells #[.int .u64 oJ,.int .u64 mG] 179 (0,0)))∧aj (Below w.heap.size w w'))
  case atStart=>exact ⟨(127),(0),(0),(0),(0),zT,H',⟨Nat.le_refl _⟩,⟨zK fM⟩,⟨zK iM⟩,⟨zK iG⟩,⟨by refine zD ?_;refine bg (cs := #[.int .u64 0,.int .u64 0]) ?_ 1 _ rfl;refine zD ?_;refine bg (cs := #[.int .u64 0,.int .u64 0]) ?_ 0 _ rfl;refine zD ?_;exact fU.out⟩,⟨zB⟩⟩
  case round =>
   clear H';obtain ⟨iR,qJ,pO,oJ,mG,rfl,HA,HK1,fM,iM,iG,fU,HB⟩:=hrel;cases gk with
   | zero=>exact absurd HA.out (by simp [fQ.l0])
   | succ k1 =>
    have H:=HA.out;clear HA;simp only [fQ.l0] at H;by_cases c29:iR≥0
    ·rw [if_pos c29] at H;have ari:=decide_eq_true c29;clear c29;replace H:=zO H;obtain ⟨agV,A30,H⟩:=H;try dsimp only at H
     replace H:=zO H;obtain ⟨⟨abv,abZ⟩,A31,H⟩:=H;try dsimp only at H
     replace H:=zO H;obtain ⟨⟨afw,aiJ⟩,A32,H⟩:=H;try dsimp only at H
     replace H:=zO H;obtain ⟨aul,A33,H⟩:=H;try dsimp only at H
     by_cases c34:aul=true
     ·subst c34;rw [if_pos rfl] at H;(try dsimp only at H);have H':=aj.mk H;clear H;try go_wp2
      obtain ⟨fM,iM,iG,fU,HB⟩:=zA5 (jO fM.out) (jO iM.out) (jO iG.out) (jO fU.out) (bD HB.out);refine adw (n:=6) (S:=fun w'=>w'.cell? ⟨uy,0,none⟩=some (.int .u64 oJ)∧w'.cell? ⟨uy,1,none⟩=some (.int .u64 mG)∧w'.cell? ⟨ahS,0,none⟩=some (.int .u64 aT)∧w'.cell? ⟨ahS,1,none⟩=some (.int .u64 bf)) (ds:=[5]) #[false,false,false,false,false,false] (by kernel_rfl) rfl rfl ⟨(au fU.out 0).trans rfl,(au fU.out 1).trans rfl,(au fM.out 0).trans rfl,(au fM.out 1).trans rfl⟩ (fun hHeld => ?_);generalize wr.drew=w35 at fM iM iG fU HB hHeld ⊢;refine uj (i:=2) (N:=some 20) (v := ?_) (a' := ?_) #[false,false,true,false,false,false] rfl rfl (by kernel_rfl) (fun _ _ _ h=>h) (Or.inl ⟨by rfl,?_⟩) ?_ ?_;rotate_left
      ·intro w';go_simp
       with_reducible rfl
      rotate_left
      ·simp only [Act.put,List.setIfInBounds_toArray,List.set_cons_zero,List.set_cons_succ,bP,bU];rfl
      refine xC (i:=0) (N:=some 18) (v := ?_) (a' := ?_) #[true,false,true,false,false,false] rfl rfl (by kernel_rfl) (fun _ _ _ h=>h) (Or.inl ⟨by rfl,?_⟩) hHeld ?_ ?_;rotate_left
      ·rintro w' ⟨s0,s1,s2,s3⟩;go_simp
       with_reducible rfl
      rotate_left
      ·simp only [Act.put,List.setIfInBounds_toArray,List.set_cons_zero,List.set_cons_succ,bP,bU];rfl
      refine xC (i:=1) (N:=some 19) (v := ?_) (a' := ?_) #[true,true,true,false,false,false] rfl rfl (by kernel_rfl) (fun _ _ _ h=>h) (Or.inl ⟨by rfl,?_⟩) hHeld ?_ ?_;rotate_left
      ·rintro w' ⟨s0,s1,s2,s3⟩;go_simp
       with_reducible rfl
      rotate_left
      ·simp only [Act.put,List.setIfInBounds_toArray,List.set_cons_zero,List.set_cons_succ,bP,bU];rfl
      refine aaH (i:=3) (N:=some 21) #[true,true,true,true,false,false] rfl rfl (by kernel_rfl) (by decide) (fun K hK => ?_);refine aay Tryz.func121 (by kernel_rfl) rfl #[.agg #[.int .u64 aT,.int .u64 bf],.int .i64 iR] (by rfl) rfl rfl zL ?_;with_reducible refine (fZ.calls aT bf iR agV _ A30.out).mono ?_
      rintro e w36 ⟨rfl,hb⟩;refine ⟨_,rfl,?_⟩;obtain ⟨fM,iM,iG,fU,HB⟩:=zA5 (aA (zK fM) hb) (aA (zK iM) hb) (aA (zK iG) hb) (aA (zK fU) hb) (ak zB hb)
      (try clear hb)
      (try clear hb2)
      (try clear hk)
      (try clear hi)
      refine hK.out _ _ ⟨(au fU.out 0).trans rfl,(au fU.out 1).trans rfl,(au fM.out 0).trans rfl,(au fM.out 1).trans rfl⟩ (fun hHeld => ?_);clear hK K;refine yB (a' := ?_) ?_ ?_;rotate_left
      ·show Act.put _ (some 21) _=_
       simp only [Act.put,List.setIfInBounds_toArray,List.set_cons_zero,List.set_cons_succ,bP,bU];rfl
      refine aaH (i:=4) (N:=some 22) #[true,true,true,true,true,false] rfl rfl (by kernel_rfl) (by decide) (fun K hK => ?_);refine aay Tryz.func119 (by kernel_rfl) rfl #[.agg #[.int .u64 oJ,.int .u64 mG],.int .u64 agV] (by rfl) rfl rfl zL ?_;with_reducible refine (dR.calls oJ mG agV abv abZ _ A31.out).mono ?_
      rintro e w37 ⟨rfl,hb⟩;refine ⟨_,rfl,?_⟩;obtain ⟨fM,iM,iG,fU,HB⟩:=zA5 (aA (zK fM) hb) (aA (zK iM) hb) (aA (zK iG) hb) (aA (zK fU) hb) (ak zB hb)
      (try clear hb)
      (try clear hb2)
      (try clear hk)
      (try clear hi)
      refine hK.out _ _ ⟨(au fU.out 0).trans rfl,(au fU.out 1).trans rfl,(au fM.out 0).trans rfl,(au fM.out 1).trans rfl⟩ (fun hHeld => ?_);clear hK K;refine yB (a' := ?_) ?_ ?_;rotate_left
      ·show Act.put _ (some 22) _=_
       simp only [Act.put,List.setIfInBounds_toArray,List.set_cons_zero,List.set_cons_succ,bP,bU];rfl
      refine ajr (i:=5) (N:=none) #[true,true,true,true,true,true] rfl rfl (by kernel_rfl) (by decide) (fun K hK => ?_);have aIs:w37.cell? ⟨uy,0,none⟩=some (.int .u64 oJ):=(au fU.out 0).trans rfl;have aGa:=aI fU.out 0;have aEm:=uV.out;have aEn:=pK.out;have aEo:=rQ.out;have aEp:=uX.out;have aEq:=nG.out;have aEr:=sV.out;have aIt:w37.cell? ⟨uy,1,none⟩=some (.int .u64 mG):=(au fU.out 1).trans rfl;have aGb:=aI fU.out 1;have aEs:=uV.out;have aEt:=pK.out;have aEu:=rQ.out;have aEv:=uX.out;have aEw:=nG.out;have aEx:=sV.out;refine ahC (w1 := ?_) (by rfl) rfl ?_ ?_;rotate_left
      ·go_simp
       rfl
      refine hK.out _ _ ?_;clear hK K;refine afb (by kernel_rfl) ?_;have awR:=acB.out;have awS:=acA.out;have awT:=rP.out;have awU:=yV.out;have aBb:=rQ.out;have aBd:=sV.out;obtain ⟨_,_⟩:=zC2 iG.out;obtain ⟨_,_⟩:=zF2 iG.out;try go_wp2_with (first|((with_reducible refine ay (f:=119) rfl ?_);refine aH (some 24) rfl rfl Tryz.func119 (by kernel_rfl) rfl #[.agg #[.int .u64 qJ,.int .u64 pO],.int .u64 0] rfl zL ?_;(with_reducible refine (dR.calls qJ pO 0 afw aiJ _ A32.out).mono ?_);rintro e w44 ⟨rfl,hb⟩;refine ⟨_,rfl,?_⟩;obtain ⟨fM,iM,iG,fU,HB⟩:=zA5 (aA (zK fM) hb) (aA (zK iM) hb) (aA (zK iG) hb) (aA (g:=uy) (o := .cells #[.int .u64 abv,.int .u64 abZ] 179 (0,0)) (by refine zD ?_;refine bg (cs := #[.int .u64 abv,.int .u64 mG]) ?_ 1 _ rfl;refine zD ?_;refine bg (cs := #[.int .u64 oJ,.int .u64 mG]) ?_ 0 _ rfl;refine zD ?_;exact fU.out) hb) (ak zB hb);(try clear hb);obtain ⟨_,_⟩:=zC2 iG.out;obtain ⟨_,_⟩:=zF2 iG.out;have awV:=uX.out;have awW:=uV.out;have aBe:=nG.out;have aBf:=pK.out;obtain ⟨_,_⟩:=zC2 fU.out;obtain ⟨_,_⟩:=zF2 fU.out)|((with_reducible refine ay (f:=123) rfl ?_);refine aH (some 28) rfl rfl Tryz.func123 (by kernel_rfl) rfl #[.agg #[.int .u64 abv,.int .u64 abZ],.agg #[.int .u64 0,.int .u64 a1]] rfl zL ?_;(with_reducible refine (iU.calls abv abZ 0 a1 true _ A33.out).mono ?_);rintro e w49 ⟨rfl,hb⟩;refine ⟨_,rfl,?_⟩;obtain ⟨fM,iM,iG,fU,HB⟩:=zA5 (aA (zK fM) hb) (aA (zK iM) hb) (aA (g:=wo) (o := .cells #[.int .u64 afw,.int .u64 aiJ] 179 (0,0)) (by refine zD ?_;refine bg (cs := #[.int .u64 afw,.int .u64 pO]) ?_ 1 _ rfl;refine zD ?_;refine bg (cs := #[.int .u64 qJ,.int .u64 pO]) ?_ 0 _ rfl;refine zD ?_;exact iG.out) hb) (aA (zK fU) hb) (ak zB hb);(try clear hb)))
      go_roundg k1
      case measure=>have:=HK1.out;omega
      case rel=>exact ⟨(wrap64 (iR - 1)),(afw),(aiJ),(abv),(abZ),zT,H',⟨by have:=HK1.out;omega⟩,⟨zK fM⟩,⟨zK iM⟩,⟨zK iG⟩,⟨zK fU⟩,⟨zB⟩⟩
     ·replace c34:=Bool.eq_false_iff.mpr c34;subst c34;rw [if_neg (show ¬ (false=true) by decide)] at H;(try dsimp only at H);replace H:=zO H;obtain ⟨⟨aum,ay4⟩,A50,H⟩:=H;try dsimp only at H
      have H':=aj.mk H;clear H;try go_wp2
      obtain ⟨fM,iM,iG,fU,HB⟩:=zA5 (jO fM.out) (jO iM.out) (jO iG.out) (jO fU.out) (bD HB.out);refine adw (n:=6) (S:=fun w'=>w'.cell? ⟨uy,0,none⟩=some (.int .u64 oJ)∧w'.cell? ⟨uy,1,none⟩=some (.int .u64 mG)∧w'.cell? ⟨ahS,0,none⟩=some (.int .u64 aT)∧w'.cell? ⟨ahS,1,none⟩=some (.int .u64 bf)) (ds:=[5]) #[false,false,false,false,false,false] (by kernel_rfl) rfl rfl ⟨(au fU.out 0).trans rfl,(au fU.out 1).trans rfl,(au fM.out 0).trans rfl,(au fM.out 1).trans rfl⟩ (fun hHeld => ?_);generalize wr.drew=w51 at fM iM iG fU HB hHeld ⊢;refine uj (i:=2) (N:=some 20) (v := ?_) (a' := ?_) #[false,false,true,false,false,false] rfl rfl (by kernel_rfl) (fun _ _ _ h=>h) (Or.inl ⟨by rfl,?_⟩) ?_ ?_;rotate_left
      ·intro w';go_simp
       with_reducible rfl
      rotate_left
      ·simp only [Act.put,List.setIfInBounds_toArray,List.set_cons_zero,List.set_cons_succ,bP,bU];rfl
      refine xC (i:=0) (N:=some 18) (v := ?_) (a' := ?_) #[true,false,true,false,false,false] rfl rfl (by kernel_rfl) (fun _ _ _ h=>h) (Or.inl ⟨by rfl,?_⟩) hHeld ?_ ?_;rotate_left
      ·rintro w' ⟨s0,s1,s2,s3⟩;go_simp
       with_reducible rfl
      rotate_left
      ·simp only [Act.put,List.setIfInBounds_toArray,List.set_cons_zero,List.set_cons_succ,bP,bU];rfl
      refine xC (i:=1) (N:=some 19) (v := ?_) (a' := ?_) #[true,true,true,false,false,false] rfl rfl (by kernel_rfl) (fun _ _ _ h=>h) (Or.inl ⟨by rfl,?_⟩) hHeld ?_ ?_;rotate_left
      ·rintro w' ⟨s0,s1,s2,s3⟩;go_simp
       with_reducible rfl
      rotate_left
      ·simp only [Act.put,List.setIfInBounds_toArray,List.set_cons_zero,List.set_cons_succ,bP,bU];rfl
      refine aaH (i:=3) (N:=some 21) #[true,true,true,true,false,false] rfl rfl (by kernel_rfl) (by decide) (fun K hK => ?_);refine aay Tryz.func121 (by kernel_rfl) rfl #[.agg #[.int .u64 aT,.int .u64 bf],.int .i64 iR] (by rfl) rfl rfl zL ?_;with_reducible refine (fZ.calls aT bf iR agV _ A30.out).mono ?_
      rintro e w52 ⟨rfl,hb⟩;refine ⟨_,rfl,?_⟩;obtain ⟨fM,iM,iG,fU,HB⟩:=zA5 (aA (zK fM) hb) (aA (zK iM) hb) (aA (zK iG) hb) (aA (zK fU) hb) (ak zB hb)
      (try clear hb)
      (try clear hb2)
      (try clear hk)
      (try clear hi)
      refine hK.out _ _ ⟨(au fU.out 0).trans rfl,(au fU.out 1).trans rfl,(au fM.out 0).trans rfl,(au fM.out 1).trans rfl⟩ (fun hHeld => ?_);clear hK K;refine yB (a' := ?_) ?_ ?_;rotate_left
      ·show Act.put _ (some 21) _=_
       simp only [Act.put,List.setIfInBounds_toArray,List.set_cons_zero,List.set_cons_succ,bP,bU];rfl
      refine aaH (i:=4) (N:=some 22) #[true,true,true,true,true,false] rfl rfl (by kernel_rfl) (by decide) (fun K hK => ?_);refine aay Tryz.func119 (by kernel_rfl) rfl #[.agg #[.int .u64 oJ,.int .u64 mG],.int .u64 agV] (by rfl) rfl rfl zL ?_;with_reducible refine (dR.calls oJ mG agV abv abZ _ A31.out).mono ?_
      rintro e w53 ⟨rfl,hb⟩;refine ⟨_,rfl,?_⟩;obtain ⟨fM,iM,iG,fU,HB⟩:=zA5 (aA (zK fM) hb) (aA (zK iM) hb) (aA (zK iG) hb) (aA (zK fU) hb) (ak zB hb)
      (try clear hb)
      (try clear hb2)
      (try clear hk)
      (try clear hi)
      refine hK.out _ _ ⟨(au fU.out 0).trans rfl,(au fU.out 1).trans rfl,(au fM.out 0).trans rfl,(au fM.out 1).trans rfl⟩ (fun hHeld => ?_);clear hK K;refine yB (a' := ?_) ?_ ?_;rotate_left
      ·show Act.put _ (some 22) _=_
       simp only [Act.put,List.setIfInBounds_toArray,List.set_cons_zero,List.set_cons_succ,bP,bU];rfl
      refine ajr (i:=5) (N:=none) #[true,true,true,true,true,true] rfl rfl (by kernel_rfl) (by decide) (fun K hK => ?_);have aIu:w53.cell? ⟨uy,0,none⟩=some (.int .u64 oJ):=(au fU.out 0).trans rfl;have aGc:=aI fU.out 0;have aEy:=uV.out;have aEz:=pK.out;have aEA:=rQ.out;have aEB:=uX.out;have aEC:=nG.out;have aED:=sV.out;have aIv:w53.cell? ⟨uy,1,none⟩=some (.int .u64 mG):=(au fU.out 1).trans rfl;have aGd:=aI fU.out 1;have aEE:=uV.out;have aEF:=pK.out;have aEG:=rQ.out;have aEH:=uX.out;have aEI:=nG.out;have aEJ:=sV.out;refine ahC (w1 := ?_) (by rfl) rfl ?_ ?_;rotate_left
      ·go_simp
       rfl
      refine hK.out _ _ ?_;clear hK K;refine afb (by kernel_rfl) ?_;have aGe:=acB.out;have aGf:=acA.out;have aGg:=rP.out;have aGh:=yV.out;have aBg:=rQ.out;have aBh:=sV.out;obtain ⟨_,_⟩:=zC2 iG.out;obtain ⟨_,_⟩:=zF2 iG.out;try go_wp2_with (first|((with_reducible refine ay (f:=119) rfl ?_);refine aH (some 24) rfl rfl Tryz.func119 (by kernel_rfl) rfl #[.agg #[.int .u64 qJ,.int .u64 pO],.int .u64 0] rfl zL ?_;(with_reducible refine (dR.calls qJ pO 0 afw aiJ _ A32.out).mono ?_);rintro e w60 ⟨rfl,hb⟩;refine ⟨_,rfl,?_⟩;obtain ⟨fM,iM,iG,fU,HB⟩:=zA5 (aA (zK fM) hb) (aA (zK iM) hb) (aA (zK iG) hb) (aA (g:=uy) (o := .cells #[.int .u64 abv,.int .u64 abZ] 179 (0,0)) (by refine zD ?_;refine bg (cs := #[.int .u64 abv,.int .u64 mG]) ?_ 1 _ rfl;refine zD ?_;refine bg (cs := #[.int .u64 oJ,.int .u64 mG]) ?_ 0 _ rfl;refine zD ?_;exact fU.out) hb) (ak zB hb);(try clear hb);obtain ⟨_,_⟩:=zC2 iG.out;obtain ⟨_,_⟩:=zF2 iG.out;have aBi:=uX.out;have aBj:=uV.out;have aBk:=nG.out;have aBl:=pK.out;obtain ⟨_,_⟩:=zC2 fU.out;obtain ⟨_,_⟩:=zF2 fU.out)|((with_reducible refine ay (f:=123) rfl ?_);refine aH (some 28) rfl rfl Tryz.func123 (by kernel_rfl) rfl #[.agg #[.int .u64 abv,.int .u64 abZ],.agg #[.int .u64 0,.int .u64 a1]] rfl zL ?_;(with_reducible refine (iU.calls abv abZ 0 a1 false _ A33.out).mono ?_);rintro e w65 ⟨rfl,hb⟩;refine ⟨_,rfl,?_⟩;obtain ⟨fM,iM,iG,fU,HB⟩:=zA5 (aA (zK fM) hb) (aA (zK iM) hb) (aA (g:=wo) (o := .cells #[.int .u64 afw,.int .u64 aiJ] 179 (0,0)) (by refine zD ?_;refine bg (cs := #[.int .u64 afw,.int .u64 pO]) ?_ 1 _ rfl;refine zD ?_;refine bg (cs := #[.int .u64 qJ,.int .u64 pO]) ?_ 0 _ rfl;refine zD ?_;exact iG.out) hb) (aA (zK fU) hb) (ak zB hb);(try clear hb);obtain ⟨_,_⟩:=zC2 fU.out;obtain ⟨_,_⟩:=zF2 fU.out)|((with_reducible refine ay (f:=122) rfl ?_);refine aH (some 33) rfl rfl Tryz.func122 (by kernel_rfl) rfl #[.agg #[.int .u64 abv,.int .u64 abZ],.agg #[.int .u64 0,.int .u64 a1]] rfl zL ?_;(with_reducible refine (lH.calls abv abZ 0 a1 aum ay4 _ A50.out).mono ?_);rintro e w67 ⟨rfl,hb⟩;refine ⟨_,rfl,?_⟩;obtain ⟨fM,iM,iG,fU,HB⟩:=zA5 (aA (zK fM) hb) (aA (zK iM) hb) (aA (zK iG) hb) (aA (zK fU) hb) (ak zB hb);(try clear hb);obtain ⟨_,_⟩:=zC2 fU.out;obtain ⟨_,_⟩:=zF2 fU.out;obtain ⟨_,_⟩:=zC2 iG.out;obtain ⟨_,_⟩:=zF2 iG.out))
      go_roundg k1
      case measure=>have:=HK1.out;omega
      case rel=>exact ⟨(wrap64 (iR - 1)),(afw),(IntKind.u64.wrap (aiJ+1)),(aum),(ay4),zT,H',⟨by have:=HK1.out;omega⟩,⟨zK fM⟩,⟨zK iM⟩,⟨by refine zD ?_;refine bg (cs := #[.int .u64 afw,.int .u64 aiJ]) ?_ 1 _ rfl;refine zD ?_;refine jV ?_ rQ.out _;refine zD ?_;refine jV ?_ rQ.out _;refine zD ?_;exact iG.out⟩,⟨by refine zD ?_;refine jV ?_ sV.out _;refine zD ?_;refine bg (cs := #[.int .u64 aum,.int .u64 abZ]) ?_ 1 _ rfl;refine zD ?_;refine bg (cs := #[.int .u64 abv,.int .u64 abZ]) ?_ 0 _ rfl;refine zD ?_;exact fU.out⟩,⟨zB⟩⟩
    ·rw [if_neg c29] at H;have ari:=decide_eq_false c29;clear c29;simp only [Option.some.injEq,Prod.mk.injEq] at H;obtain ⟨rfl,rfl,rfl⟩:=H;try go_wp2
     obtain ⟨fM,iM,iG,fU,HB⟩:=zA5 (jO fM.out) (jO iM.out) (jO iG.out) (jO fU.out) (bD HB.out);refine adw (n:=5) (S:=fun w'=>w'.cell? ⟨wo,0,none⟩=some (.int .u64 qJ)∧w'.cell? ⟨wo,1,none⟩=some (.int .u64 pO)∧w'.cell? ⟨uy,0,none⟩=some (.int .u64 oJ)∧w'.cell? ⟨uy,1,none⟩=some (.int .u64 mG)) (ds:=[]) #[false,false,false,false,false] (by kernel_rfl) rfl rfl ⟨(au iG.out 0).trans rfl,(au iG.out 1).trans rfl,(au fU.out 0).trans rfl,(au fU.out 1).trans rfl⟩ (fun hHeld => ?_);generalize wr.drew=w70 at fM iM iG fU HB hHeld ⊢;refine uj (i:=1) (N:=some 39) (v := ?_) (a' := ?_) #[false,true,false,false,false] rfl rfl (by kernel_rfl) (fun _ _ _ h=>h) (Or.inl ⟨by rfl,?_⟩) ?_ ?_;rotate_left
     ·intro w';go_simp
      with_reducible rfl
     rotate_left
     ·simp only [Act.put,List.setIfInBounds_toArray,List.set_cons_zero,List.set_cons_succ,bP,bU];rfl
     refine xC (i:=0) (N:=some 38) (v := ?_) (a' := ?_) #[true,true,false,false,false] rfl rfl (by kernel_rfl) (fun _ _ _ h=>h) (Or.inl ⟨by rfl,?_⟩) hHeld ?_ ?_;rotate_left
     ·rintro w' ⟨s0,s1,s2,s3⟩;go_simp
      with_reducible rfl
     rotate_left
     ·simp only [Act.put,List.setIfInBounds_toArray,List.set_cons_zero,List.set_cons_succ,bP,bU];rfl
     refine xC (i:=2) (N:=some 40) (v := ?_) (a' := ?_) #[true,true,true,false,false] rfl rfl (by kernel_rfl) (fun _ _ _ h=>h) (Or.inl ⟨by rfl,?_⟩) hHeld ?_ ?_;rotate_left
     ·rintro w' ⟨s0,s1,s2,s3⟩;go_simp
      with_reducible rfl
     rotate_left
     ·simp only [Act.put,List.setIfInBounds_toArray,List.set_cons_zero,List.set_cons_succ,bP,bU];rfl
     refine aaH (i:=3) (N:=none) #[true,true,true,true,false] rfl rfl (by kernel_rfl) (by decide) (fun K hK => ?_);have aIw:w70.cell? ⟨yI,0,none⟩=some (.int .u64 0):=(au iM.out 0).trans rfl;have aGi:=aI iM.out 0;have aEK:=aeh.out;have aEL:=rP.out;have aEM:=nG.out;have aEN:=aei.out;have aEO:=yV.out;have aEP:=pK.out;have aIx:w70.cell? ⟨yI,1,none⟩=some (.int .u64 0):=(au iM.out 1).trans rfl;have aGj:=aI iM.out 1;have aEQ:=aeh.out;have aER:=rP.out;have aES:=nG.out;have aET:=aei.out;have aEU:=yV.out;have aEV:=pK.out;refine ahC (w1 := ?_) (by rfl) rfl ?_ ?_;rotate_left
     ·go_simp
      rfl
     refine hK.out _ _ ⟨((cell_far (p:=⟨yI,_,none⟩) rP.out _).trans (((cell_far (p:=⟨yI,_,none⟩) rP.out _).trans (hHeld.1)))),((cell_far (p:=⟨yI,_,none⟩) rP.out _).trans (((cell_far (p:=⟨yI,_,none⟩) rP.out _).trans (hHeld.2.1)))),((cell_far (p:=⟨yI,_,none⟩) nG.out _).trans (((cell_far (p:=⟨yI,_,none⟩) nG.out _).trans (hHeld.2.2.1)))),((cell_far (p:=⟨yI,_,none⟩) nG.out _).trans (((cell_far (p:=⟨yI,_,none⟩) nG.out _).trans (hHeld.2.2.2))))⟩ (fun hHeld => ?_);clear hK K;refine uj (i:=4) (N:=some 5) (v := ?_) (a' := ?_) #[true,true,true,true,true] rfl rfl (by kernel_rfl) (fun _ _ _ h=>h) (Or.inl ⟨by rfl,?_⟩) ?_ ?_;rotate_left
     ·intro w';go_simp
      with_reducible rfl
     rotate_left
     ·simp only [Act.put,List.setIfInBounds_toArray,List.set_cons_zero,List.set_cons_succ,bP,bU];rfl
     refine afb (by kernel_rfl) ?_;try go_wp2
     refine bodyPost_ret (ajs rfl _ _ yI 179 #[.int .u64 qJ,.int .u64 pO] (0,0) _ rfl (by refine zD ?_;refine bg (cs := #[.int .u64 qJ,.int .u64 0]) ?_ 1 _ rfl;refine zD ?_;refine bg (cs := #[.int .u64 0,.int .u64 0]) ?_ 0 _ rfl;refine zD ?_;exact iM.out) Tryz.underlying179 rfl (by kernel_rfl)) rfl ?_;exact ⟨zS,zB⟩
def iO.j0:Nat→Bool→Bool→Int→Int→Option (Int)
 | 0,_,_,_,_=>none
 | k+1,x2,x10,aqb,aqc=>if x10=true then ((iK.f aqb aqc 0 1).bind fun awX=>((cZ.f k awX.1 awX.2 x2).bind fun aun=>(some aun))) else ((cZ.f k aqb aqc x2).bind fun auo=>(some auo))
def iO.f (k:Nat) (aT bf a1:Int) (a2:Bool):Option (Int):=(fQ.f k aT bf a1).bind fun ajM=>((dR.f 0 ajM.2.2 0).bind fun am7=>((iU.f am7.1 am7.2 0 a1).bind fun arj=>(if a2=true then ((iU.f 0 a1 am7.1 am7.2).bind fun ark=>(iO.j0 k a2 ark ajM.1 ajM.2.1)) else (iO.j0 k a2 (!arj) ajM.1 ajM.2.1))))
theorem iO.calls (k:Nat) (aT bf a1:Int) (a2:Bool) (r:Int) (w:World) (h:iO.f k aT bf a1 a2=some r) :
  Calls Tryz.prog 149 #[.agg #[.int .u64 aT,.int .u64 bf],.int .u64 a1,.bool a2] w fun e w'=>e = .returned (.int .i64 r)∧Below w.heap.size w w':=by
 have aaB:=Tryz.underlying179;have HB:=aj.mk (Below.refl w.heap.size w);have H:=h;clear h;unfold iO.f at H;replace H:=zO H;obtain ⟨⟨aeH,aeI,aup⟩,A4,H⟩:=H;try dsimp only at H
 replace H:=zO H;obtain ⟨⟨agW,aiK⟩,A5,H⟩:=H;try dsimp only at H
 replace H:=zO H;obtain ⟨arj,A6,H⟩:=H;try dsimp only at H
 have HC7:=aj.mk H;clear H;go_enter Tryz.func149,Tryz.ntmps149;go_upto_if 25 with (first|((with_reducible refine aZ (N:=3) rfl ?_);refine aX zR (N:=3) zR (cs := #[.int .u64 aT,.int .u64 bf]) (t:=179) zG ?_;intro aBm hg w8 hbox hb;obtain ⟨HB,nP,aGk,aGl⟩:=zA4 (ak zB hb) hbox (zg hg zB) (zg hg zB);clear hb hbox hg;obtain ⟨_,_⟩:=zC2 nP.out;obtain ⟨_,_⟩:=zF2 nP.out)|((with_reducible refine ay (f:=172) rfl ?_);refine aH (some 14) rfl rfl Tryz.func172 (by kernel_rfl) rfl #[.agg #[.int .u64 aT,.int .u64 bf],.int .u64 a1] rfl zL ?_;(with_reducible refine (fQ.calls k aT bf a1 aeH aeI aup _ A4.out).mono ?_);rintro e w10 ⟨rfl,hb⟩;refine ⟨_,rfl,?_⟩;obtain ⟨nP,HB⟩:=zA2 (aA (zK nP) hb) (ak zB hb);(try clear hb))|((with_reducible refine aZ (N:=7) rfl ?_);refine aX zR (N:=7) zR (cs := #[.int .u64 0,.int .u64 0]) (t:=179) zG ?_;intro arl hg w11 hbox hb;obtain ⟨nP,HB,nR,aGm,aGn,agX,agY⟩:=zA7 (aA (zK nP) hb) (ak zB hb) hbox (zg hg zB) (zg hg zB) (zl hg (zK nP)) (zr hg (zK nP));clear hb hbox hg;have awP:=agY.out;have awQ:=agX.out;obtain ⟨_,_⟩:=zC2 nR.out;obtain ⟨_,_⟩:=zF2 nR.out)|((with_reducible refine ay (f:=119) rfl ?_);refine aH (some 19) rfl rfl Tryz.func119 (by kernel_rfl) rfl #[.agg #[.int .u64 0,.int .u64 aup],.int .u64 0] rfl zL ?_;(with_reducible refine (dR.calls 0 aup 0 agW aiK _ A5.out).mono ?_);rintro e w14 ⟨rfl,hb⟩;refine ⟨_,rfl,?_⟩;obtain ⟨nP,nR,HB⟩:=zA3 (aA (zK nP) hb) (aA (g:=arl) (o := .cells #[.int .u64 aeH,.int .u64 aeI] 179 (0,0)) (by refine zD ?_;refine bg (cs := #[.int .u64 aeH,.int .u64 0]) ?_ 1 _ rfl;refine zD ?_;refine bg (cs := #[.int .u64 0,.int .u64 0]) ?_ 0 _ rfl;refine zD ?_;exact nR.out) hb) (ak zB hb);(try clear hb))|((with_reducible refine aZ (N:=9) rfl ?_);refine aX zR (N:=9) zR (cs := #[.int .u64 0,.int .u64 0]) (t:=179) zG ?_;intro awY hg w15 hbox hb;obtain ⟨nP,nR,HB,uY,aGo,aGp,amf,amg,aej,aek⟩:=aff (aA (zK nP) hb) (aA (zK nR) hb) (ak zB hb) hbox (zg hg zB) (zg hg zB) (zl hg (zK nP)) (zr hg (zK nP)) (zl hg (zK nR)) (zr hg (zK nR));clear hb hbox hg;have aA9:=amg.out;have aBa:=amf.out;have aBn:=aek.out;have aBo:=aej.out;obtain ⟨_,_⟩:=zC2 uY.out;obtain ⟨_,_⟩:=zF2 uY.out)|((with_reducible refine ay (f:=123) rfl ?_);refine aH (some 23) rfl rfl Tryz.func123 (by kernel_rfl) rfl #[.agg #[.int .u64 agW,.int .u64 aiK],.agg #[.int .u64 0,.int .u64 a1]] rfl zL ?_;(with_reducible refine (iU.calls agW aiK 0 a1 arj _ A6.out).mono ?_);rintro e w19 ⟨rfl,hb⟩;refine ⟨_,rfl,?_⟩;obtain ⟨nP,nR,uY,HB⟩:=zA4 (aA (zK nP) hb) (aA (zK nR) hb) (aA (g:=awY) (o := .cells #[.int .u64 agW,.int .u64 aiK] 179 (0,0)) (by refine zD ?_;refine bg (cs := #[.int .u64 agW,.int .u64 0]) ?_ 1 _ rfl;refine zD ?_;refine bg (cs := #[.int .u64 0,.int .u64 0]) ?_ 0 _ rfl;refine zD ?_;exact uY.out) hb) (ak zB hb);(try clear hb)))
 (try simp only [Act.put,List.setIfInBounds_toArray,List.set_cons_zero,List.set_cons_succ])
 go_cut [10] (fun v10 wc=>∃ (kq:Nat) (am8:Bool),v10 = .bool am8∧aj (iO.j0 kq a2 am8 aeH aeI=some r)∧aj (kq≤k)∧aj (wc.heap[aBm]? = some (.cells #[.int .u64 aT,.int .u64 bf] 179 (0,0)))∧aj (wc.heap[arl]? = some (.cells #[.int .u64 aeH,.int .u64 aeI] 179 (0,0)))∧aj (wc.heap[awY]? = some (.cells #[.int .u64 agW,.int .u64 aiK] 179 (0,0)))∧aj (Below w.heap.size w wc))
 case first =>
  have H:=HC7.out;clear HC7;by_cases c20:a2=true
  ·subst c20;rw [if_pos rfl] at H;(try dsimp only at H);replace H:=zO H;obtain ⟨ark,A21,H⟩:=H;try dsimp only at H
   have H':=aj.mk H;clear H;have awJ:=amg.out;have awK:=amf.out;have am0:=aek.out;have am1:=aej.out;obtain ⟨_,_⟩:=zC2 uY.out;obtain ⟨_,_⟩:=zF2 uY.out;go_wp2_with (first|((with_reducible refine ay (f:=123) rfl ?_);refine aH (some 29) rfl rfl Tryz.func123 (by kernel_rfl) rfl #[.agg #[.int .u64 0,.int .u64 a1],.agg #[.int .u64 agW,.int .u64 aiK]] rfl zL ?_;(with_reducible refine (iU.calls 0 a1 agW aiK ark _ A21.out).mono ?_);rintro e w25 ⟨rfl,hb⟩;refine ⟨_,rfl,?_⟩;obtain ⟨nP,nR,uY,HB⟩:=zA4 (aA (zK nP) hb) (aA (zK nR) hb) (aA (zK uY) hb) (ak zB hb);(try clear hb)));go_meet
   case rel=>exact ⟨_,(ark),zT,H',⟨by first|omega|exact Nat.le_refl _⟩,⟨zK nP⟩,⟨zK nR⟩,⟨zK uY⟩,⟨zB⟩⟩
  ·replace c20:=Bool.eq_false_iff.mpr c20;subst c20;rw [if_neg (show ¬ (false=true) by decide)] at H;(try dsimp only at H);have H':=aj.mk H;clear H;go_wp2;go_meet
   case rel=>exact ⟨_,(!arj),zT,H',⟨by first|omega|exact Nat.le_refl _⟩,⟨zK nP⟩,⟨zK nR⟩,⟨zK uY⟩,⟨zB⟩⟩
 case rest =>
  clear HC7;obtain ⟨kq,am8,rfl,HA,HJ6,nP,nR,uY,HB⟩:=hcut;cases kq with
  | zero=>exact absurd HA.out (by simp [iO.j0])
  | succ kj6 =>
   have H:=HA.out;clear HA;simp only [iO.j0] at H;by_cases c26:am8=true
   ·subst c26;rw [if_pos rfl] at H;(try dsimp only at H);replace H:=zO H;obtain ⟨⟨aoh,arn⟩,A27,H⟩:=H;try dsimp only at H
    replace H:=zO H;obtain ⟨aun,A28,H⟩:=H;try dsimp only at H
    obtain rfl:=Option.some.inj H;have ara:=agY.out;have arb:=agX.out;have am2:=aej.out;have am3:=aek.out;obtain ⟨_,_⟩:=zC2 nR.out;obtain ⟨_,_⟩:=zF2 nR.out;go_wp2_with (first|((with_reducible refine ay (f:=124) rfl ?_);refine aH (some 33) rfl rfl Tryz.func124 (by kernel_rfl) rfl #[.agg #[.int .u64 aeH,.int .u64 aeI],.agg #[.int .u64 0,.int .u64 1]] rfl zL ?_;(with_reducible refine (iK.calls aeH aeI 0 1 aoh arn _ A27.out).mono ?_);rintro e w32 ⟨rfl,hb⟩;refine ⟨_,rfl,?_⟩;obtain ⟨nP,nR,uY,HB⟩:=zA4 (aA (zK nP) hb) (aA (zK nR) hb) (aA (zK uY) hb) (ak zB hb);(try clear hb);obtain ⟨_,_⟩:=zC2 nR.out;obtain ⟨_,_⟩:=zF2 nR.out)|((with_reducible refine ay (f:=125) rfl ?_);refine aH (some 36) rfl rfl Tryz.func125 (by kernel_rfl) rfl #[.agg #[.int .u64 aoh,.int .u64 arn],.bool a2] rfl zL ?_;(with_reducible refine (cZ.calls kj6 aoh arn a2 aun _ A28.out).mono ?_);rintro e w34 ⟨rfl,hb⟩;refine ⟨_,rfl,?_⟩;obtain ⟨nP,nR,uY,HB⟩:=zA4 (aA (zK nP) hb) (aA (g:=arl) (o := .cells #[.int .u64 aoh,.int .u64 arn] 179 (0,0)) (by refine zD ?_;refine bg (cs := #[.int .u64 aoh,.int .u64 aeI]) ?_ 1 _ rfl;refine zD ?_;refine bg (cs := #[.int .u64 aeH,.int .u64 aeI]) ?_ 0 _ rfl;refine zD ?_;exact nR.out) hb) (aA (zK uY) hb) (ak zB hb);(try clear hb)));go_ret;exact ⟨zS,zB⟩
   ·replace c26:=Bool.eq_false_iff.mpr c26;subst c26;rw [if_neg (show ¬ (false=true) by decide)] at H;(try dsimp only at H);replace H:=zO H;obtain ⟨auo,A35,H⟩:=H;try dsimp only at H
    obtain rfl:=Option.some.inj H;have aGq:=agY.out;have aGr:=agX.out;have aBp:=aej.out;have aBq:=aek.out;obtain ⟨_,_⟩:=zC2 nR.out;obtain ⟨_,_⟩:=zF2 nR.out;go_wp2_with (first|((with_reducible refine ay (f:=125) rfl ?_);refine aH (some 36) rfl rfl Tryz.func125 (by kernel_rfl) rfl #[.agg #[.int .u64 aeH,.int .u64 aeI],.bool a2] rfl zL ?_;(with_reducible refine (cZ.calls kj6 aeH aeI a2 auo _ A35.out).mono ?_);rintro e w39 ⟨rfl,hb⟩;refine ⟨_,rfl,?_⟩;obtain ⟨nP,nR,uY,HB⟩:=zA4 (aA (zK nP) hb) (aA (zK nR) hb) (aA (zK uY) hb) (ak zB hb);(try clear hb)));go_ret;exact ⟨zS,zB⟩
def bC.f (k:Nat) (a0 a1 a2:Int):Option (Int):=if a2=0 then (some 0) else ((dW.f a0).bind fun aoi=>((dW.f a1).bind fun aoj=>((eG.f k aoi aoj).bind fun awZ=>((dW.f a2).bind fun aok=>((iO.f k awZ.1 awZ.2 aok (((decide (a0 < 0)) != (decide (a1 < 0))) != (decide (a2 < 0)))).bind fun auq=>(some auq))))))
def bC.T5:Bool × List (List Nat × List Nat):=(true,[([],[]),([],[]),([1],[1]),([],[]),([],[]),([4],[4]),([3,5],[3,5]),([0,2,6,2],[0,2,6]),([7,7,0,1,2,3,4,5,6,7],[7])])
def bC.B5:List Nat:=[0,0,2,0,0,16,56,127,255]
theorem bC.aC5:uz .any (opsOf Tryz.f118 5)=bC.T5:=by kernel_rfl
theorem bC.aBr:adn bC.T5.2 bC.B5=true:=by kernel_rfl
theorem bC.calls (k:Nat) (a0 a1 a2 r:Int) (w:World) (h:bC.f k a0 a1 a2=some r) :
  Calls Tryz.prog 118 #[.int .i64 a0,.int .i64 a1,.int .i64 a2] w fun e w'=>e = .returned (.int .i64 r)∧Below w.heap.size w w':=by
 have aaB:=Tryz.underlying179;have HB:=aj.mk (Below.refl w.heap.size w);have H:=h;clear h;unfold bC.f at H;by_cases c4:a2=0
 ·rw [if_pos c4] at H;have fH:(a2 == 0)=true:=beq_iff_eq.mpr c4;have aaJ:(a2 != 0)=false:=bne_eq_false_iff_eq.mpr c4;clear c4;obtain rfl:=Option.some.inj H;go_enter Tryz.func118,Tryz.ntmps118;go_wp2;go_ret;exact ⟨zS,zB⟩
 ·rw [if_neg c4] at H;have fH:(a2 == 0)=false:=beq_eq_false_iff_ne.mpr c4;have aaJ:(a2 != 0)=true:=bne_iff_ne.mpr c4;replace H:=zO H;obtain ⟨aoi,A5,H⟩:=H;try dsimp only at H
  replace H:=zO H;obtain ⟨aoj,A6,H⟩:=H;try dsimp only at H
  replace H:=zO H;obtain ⟨⟨afx,agZ⟩,A7,H⟩:=H;try dsimp only at H
  replace H:=zO H;obtain ⟨aok,A8,H⟩:=H;try dsimp only at H
  replace H:=zO H;obtain ⟨auq,A9,H⟩:=H;try dsimp only at H
  obtain rfl:=Option.some.inj H;go_enter Tryz.func118,Tryz.ntmps118;try go_wp2_with (first|((with_reducible refine ay (f:=120) rfl ?_);refine aH (some 12) rfl rfl Tryz.func120 (by kernel_rfl) rfl #[.int .i64 a0] rfl zL ?_;(with_reducible refine (dW.calls a0 aoi _ A5.out).mono ?_);rintro e w' ⟨rfl,⟨nd,rfl⟩⟩;refine ⟨_,rfl,?_⟩)|((with_reducible refine ay (f:=120) rfl ?_);refine aH (some 14) rfl rfl Tryz.func120 (by kernel_rfl) rfl #[.int .i64 a1] rfl zL ?_;(with_reducible refine (dW.calls a1 aoj _ A6.out).mono ?_);rintro e w' ⟨rfl,⟨nd,rfl⟩⟩;refine ⟨_,rfl,?_⟩)|((with_reducible refine ay (f:=148) rfl ?_);refine aH (some 15) rfl rfl Tryz.func148 (by kernel_rfl) rfl #[.int .u64 aoi,.int .u64 aoj] rfl zL ?_;(with_reducible refine (eG.calls k aoi aoj afx agZ _ A7.out).mono ?_);rintro e w10 ⟨rfl,hb⟩;refine ⟨_,rfl,?_⟩;replace HB:=aj.mk (ak zB hb);(try clear hb))|((with_reducible refine aZ (N:=7) rfl ?_);refine aX zR (N:=7) zR (cs := #[.int .u64 0,.int .u64 0]) (t:=179) zG ?_;intro ac4 hg w11 hbox hb;obtain ⟨HB,wu,aGs,aGt⟩:=zA4 (ak zB hb) hbox (zg hg zB) (zg hg zB);clear hb hbox hg;obtain ⟨_,_⟩:=zC2 wu.out;obtain ⟨_,_⟩:=zF2 wu.out))
  have n0_:aj (((w11.setCell ⟨ac4,0,none⟩ (.int .u64 afx)).setCell ⟨ac4,1,none⟩ (.int .u64 agZ)).heap[ac4]? = some (.cells #[.int .u64 afx,.int .u64 agZ] 179 (0,0))):=⟨by refine zD ?_;refine bg (cs := #[.int .u64 afx,.int .u64 0]) ?_ 1 _ rfl;refine zD ?_;refine bg (cs := #[.int .u64 0,.int .u64 0]) ?_ 0 _ rfl;refine zD ?_;exact wu.out⟩;have n1_:aj (Below w.heap.size w ((w11.setCell ⟨ac4,0,none⟩ (.int .u64 afx)).setCell ⟨ac4,1,none⟩ (.int .u64 agZ))):=⟨zB⟩
  (try clear wu)
  (try clear HB)
  generalize ((w11.setCell ⟨ac4,0,none⟩ (.int .u64 afx)).setCell ⟨ac4,1,none⟩ (.int .u64 agZ))=w13 at n0_ n1_ ⊢;have wu:=n0_;have HB:=n1_;clear n0_ n1_;obtain ⟨wu,HB⟩:=zA2 (jO wu.out) (bD HB.out);refine adw (n:=9) (S:=fun w'=>w'.cell? ⟨ac4,0,none⟩=some (.int .u64 afx)∧w'.cell? ⟨ac4,1,none⟩=some (.int .u64 agZ)) (ds:=[]) #[false,false,false,false,false,false,false,false,false] (by kernel_rfl) rfl rfl ⟨(au wu.out 0).trans rfl,(au wu.out 1).trans rfl⟩ (fun hHeld => ?_);refine al5 bC.aC5 bC.aBr (fun HT_ HW_ => ?_);generalize w13.drew=w14 at wu HB hHeld ⊢;refine uj (i:=1) (N:=some 22) (v := ?_) (a' := ?_) #[false,true,false,false,false,false,false,false,false] rfl rfl (xU HT_.out (by kernel_rfl)) (fun _ _ _ h=>h) (Or.inl ⟨by rfl,?_⟩) ?_ ?_;rotate_left
  ·intro w';go_simp
   with_reducible rfl
  rotate_left
  ·simp only [Act.put,List.setIfInBounds_toArray,List.set_cons_zero,List.set_cons_succ,bP,bU];rfl
  refine uj (i:=3) (N:=some 24) (v := ?_) (a' := ?_) #[false,true,false,true,false,false,false,false,false] rfl rfl (xU HT_.out (by kernel_rfl)) (fun _ _ _ h=>h) (Or.inl ⟨by rfl,?_⟩) ?_ ?_;rotate_left
  ·intro w';go_simp
   with_reducible rfl
  rotate_left
  ·simp only [Act.put,List.setIfInBounds_toArray,List.set_cons_zero,List.set_cons_succ,bP,bU];rfl
  refine uj (i:=4) (N:=some 25) (v := ?_) (a' := ?_) #[false,true,false,true,true,false,false,false,false] rfl rfl (xU HT_.out (by kernel_rfl)) (fun _ _ _ h=>h) (Or.inl ⟨by rfl,?_⟩) ?_ ?_;rotate_left
  ·intro w';go_simp
   with_reducible rfl
  rotate_left
  ·simp only [Act.put,List.setIfInBounds_toArray,List.set_cons_zero,List.set_cons_succ,bP,bU];rfl
  refine uj (i:=5) (N:=some 26) (v := ?_) (a' := ?_) #[false,true,false,true,true,true,false,false,false] rfl rfl (xU HT_.out (by kernel_rfl)) (fun _ _ _ h=>h) (Or.inl ⟨by rfl,?_⟩) ?_ ?_;rotate_left
  ·intro w';go_simp
   with_reducible rfl
  rotate_left
  ·simp only [Act.put,List.setIfInBounds_toArray,List.set_cons_zero,List.set_cons_succ,bP,bU];rfl
  refine uj (i:=6) (N:=some 27) (v := ?_) (a' := ?_) #[false,true,false,true,true,true,true,false,false] rfl rfl (xU HT_.out (by kernel_rfl)) (fun _ _ _ h=>h) (Or.inl ⟨by rfl,?_⟩) ?_ ?_;rotate_left
  ·intro w';go_simp
   with_reducible rfl
  rotate_left
  ·simp only [Act.put,List.setIfInBounds_toArray,List.set_cons_zero,List.set_cons_succ,bP,bU];rfl
  refine xC (i:=0) (N:=some 21) (v := ?_) (a' := ?_) #[true,true,false,true,true,true,true,false,false] rfl rfl (ady HT_.out HW_.out (by kernel_rfl)) (fun _ _ _ h=>h) (Or.inl ⟨by rfl,?_⟩) hHeld ?_ ?_;rotate_left
  ·rintro w' ⟨s0,s1⟩;go_simp
   with_reducible rfl
  rotate_left
  ·simp only [Act.put,List.setIfInBounds_toArray,List.set_cons_zero,List.set_cons_succ,bP,bU];rfl
  refine aaH (i:=2) (N:=some 23) #[true,true,true,true,true,true,true,false,false] rfl rfl (adx HT_.out (by kernel_rfl)) (by decide) (fun K hK => ?_);refine aay Tryz.func120 (by kernel_rfl) rfl #[.int .i64 a2] (by rfl) rfl rfl zL ?_;with_reducible refine (dW.calls a2 aok _ A8.out).mono ?_
  rintro e w' ⟨rfl,⟨nd,rfl⟩⟩;refine ⟨_,rfl,?_⟩;refine hK.out _ _ ⟨(au wu.out 0).trans rfl,(au wu.out 1).trans rfl⟩ (fun hHeld => ?_);clear hK K;refine yB (a' := ?_) ?_ ?_;rotate_left
  ·show Act.put _ (some 23) _=_
   simp only [Act.put,List.setIfInBounds_toArray,List.set_cons_zero,List.set_cons_succ,bP,bU];rfl
  refine aaH (i:=7) (N:=some 28) #[true,true,true,true,true,true,true,true,false] rfl rfl (adx HT_.out (by kernel_rfl)) (by decide) (fun K hK => ?_);refine aay Tryz.func149 (by kernel_rfl) rfl #[.agg #[.int .u64 afx,.int .u64 agZ],.int .u64 aok,.bool (((decide (a0 < 0)) != (decide (a1 < 0))) != (decide (a2 < 0)))] (by rfl) rfl rfl zL ?_;with_reducible refine (iO.calls k afx agZ aok (((decide (a0 < 0)) != (decide (a1 < 0))) != (decide (a2 < 0))) auq _ A9.out).mono ?_
  rintro e w15 ⟨rfl,hb⟩;refine ⟨_,rfl,?_⟩;obtain ⟨wu,HB⟩:=zA2 (aA (zK wu) hb) (ak zB hb)
  (try clear hb)
  (try clear hb2)
  (try clear hk)
  (try clear hi)
  refine hK.out _ _ ⟨(au wu.out 0).trans rfl,(au wu.out 1).trans rfl⟩ (fun hHeld => ?_);clear hK K;refine yB (a' := ?_) ?_ ?_;rotate_left
  ·show Act.put _ (some 28) _=_
   simp only [Act.put,List.setIfInBounds_toArray,List.set_cons_zero,List.set_cons_succ,bP,bU];rfl
  refine uj (i:=8) (N:=some 6) (v := ?_) (a' := ?_) #[true,true,true,true,true,true,true,true,true] rfl rfl (xU HT_.out (by kernel_rfl)) (fun _ _ _ h=>h) (Or.inl ⟨by rfl,?_⟩) ?_ ?_;rotate_left
  ·intro w';go_simp
   with_reducible rfl
  rotate_left
  ·simp only [Act.put,List.setIfInBounds_toArray,List.set_cons_zero,List.set_cons_succ,bP,bU];rfl
  refine afb (apT HT_.out (by kernel_rfl)) ?_;try go_wp2
  go_ret;exact ⟨zS,zB⟩
mutual
def cO.j0:Nat→Int→Int→Bool→Option (Int)
 | 0,_,_,_=>none
 | k+1,x0,x1,x14=>if x14=true then (some 0) else (if x0≥(wrap64 (2*x1)) then (cO.j1 k x0 x1 true) else (cO.j1 k x0 x1 (decide (x0≤(wrap64 ((-2)*x1))))))
def cO.j1:Nat→Int→Int→Bool→Option (Int)
 | 0,_,_,_=>none
 | k+1,x0,x1,x24=>if x24=true then (some 0) else (if x0 < 0 then (cO.j2 k (wrap64 (-x0)) x1) else (cO.j2 k x0 x1))
def cO.j2:Nat→Int→Int→Option (Int)
 | 0,_,_=>none
 | k+1,x0,x1=>if x0 < x1 then ((bC.f k (wrap64 ((wrap64 ((wrap64 (3*(wrap64 ((wrap64 (x0*x0))*x0)))) - (wrap64 ((wrap64 (5*(wrap64 (x0*x0))))*x1))))+(wrap64 (2*(wrap64 ((wrap64 (x1*x1))*x1)))))) 1073741824 (wrap64 (2*(wrap64 ((wrap64 (x1*x1))*x1))))).bind fun aur=>(some aur)) else ((bC.f k (wrap64 ((wrap64 ((wrap64 ((wrap64 ((wrap64 (5*(wrap64 (x0*x0))))*x1)) - (wrap64 ((wrap64 (x0*x0))*x0)))) - (wrap64 ((wrap64 (8*x0))*(wrap64 (x1*x1))))))+(wrap64 (4*(wrap64 ((wrap64 (x1*x1))*x1)))))) 1073741824 (wrap64 (2*(wrap64 ((wrap64 (x1*x1))*x1))))).bind fun aus=>(some aus))
end
def cO.f (k:Nat) (a0 a1:Int):Option (Int):=if a1 < 1 then (cO.j0 k a0 a1 true) else (cO.j0 k a0 a1 (decide (a1 > 262144)))
theorem cO.calls (k:Nat) (a0 a1 r:Int) (w:World) (h:cO.f k a0 a1=some r) :
  Calls Tryz.prog 170 #[.int .i64 a0,.int .i64 a1] w fun e w'=>e = .returned (.int .i64 r)∧Below w.heap.size w w':=by
 have HB:=aj.mk (Below.refl w.heap.size w);have H:=h;clear h;unfold cO.f at H;have HC3:=aj.mk H;clear H;go_enter Tryz.func170,Tryz.ntmps170;go_upto_region 1 with (fail);go_cut [14] (fun v14 wc=>∃ (kq:Nat) (abw:Bool),v14 = .bool abw∧aj (cO.j0 kq a0 a1 abw=some r)∧aj (kq≤k)∧aj (Below w.heap.size w wc))
 case first =>
  have H:=HC3.out;clear HC3;by_cases c4:a1 < 1
  ·rw [if_pos c4] at H;have fH:=decide_eq_true c4;clear c4
   (first|rw [fH]|(simp only [bP,bU];rw [fH])|skip)
   have H':=aj.mk H;clear H;go_wp2;go_meet
   case rel=>exact ⟨_,(true),zT,H',⟨by first|omega|exact Nat.le_refl _⟩,⟨zB⟩⟩
  ·rw [if_neg c4] at H;have fH:=decide_eq_false c4;clear c4
   (first|rw [fH]|(simp only [bP,bU];rw [fH])|skip)
   have H':=aj.mk H;clear H;go_wp2;go_meet
   case rel=>exact ⟨_,(decide (a1 > 262144)),zT,H',⟨by first|omega|exact Nat.le_refl _⟩,⟨zB⟩⟩
 case rest =>
  clear HC3;obtain ⟨kq,abw,rfl,HA,HJ2,HB⟩:=hcut;cases kq with
  | zero=>exact absurd HA.out (by simp [cO.j0])
  | succ kj2 =>
   have H:=HA.out;clear HA;simp only [cO.j0] at H;by_cases c5:abw=true
   ·subst c5;rw [if_pos rfl] at H;(try dsimp only at H);obtain rfl:=Option.some.inj H;go_wp2;go_ret;exact ⟨zS,zB⟩
   ·replace c5:=Bool.eq_false_iff.mpr c5;subst c5;rw [if_neg (show ¬ (false=true) by decide)] at H;(try dsimp only at H);have HC6:=aj.mk H;clear H;go_upto_region 3 with (fail);go_cut [24] (fun v24 wc=>∃ (kq:Nat) (am9:Bool),v24 = .bool am9∧aj (cO.j1 kq a0 a1 am9=some r)∧aj (kq≤kj2)∧aj (Below w.heap.size w wc))
    case first =>
     have H:=HC6.out;clear HC6;by_cases c7:a0≥(wrap64 (2*a1))
     ·rw [if_pos c7] at H;have jr:=decide_eq_true c7;clear c7
      (first|rw [jr]|(simp only [bP,bU];rw [jr])|skip)
      have H':=aj.mk H;clear H;go_wp2;go_meet
      case rel=>exact ⟨_,(true),zT,H',⟨by have:=HJ2.out;first|omega|exact Nat.le_refl _⟩,⟨zB⟩⟩
     ·rw [if_neg c7] at H;have jr:=decide_eq_false c7;clear c7
      (first|rw [jr]|(simp only [bP,bU];rw [jr])|skip)
      have H':=aj.mk H;clear H;go_wp2;go_meet
      case rel=>exact ⟨_,(decide (a0≤(wrap64 ((-2)*a1)))),zT,H',⟨by have:=HJ2.out;first|omega|exact Nat.le_refl _⟩,⟨zB⟩⟩
    case rest =>
     clear HC6;obtain ⟨kq,am9,rfl,HA,HJ5,HB⟩:=hcut;cases kq with
     | zero=>exact absurd HA.out (by simp [cO.j1])
     | succ kj5 =>
      have H:=HA.out;clear HA;simp only [cO.j1] at H;by_cases c8:am9=true
      ·subst c8;rw [if_pos rfl] at H;(try dsimp only at H);obtain rfl:=Option.some.inj H;go_wp2;go_ret;exact ⟨zS,zB⟩
      ·replace c8:=Bool.eq_false_iff.mpr c8;subst c8;rw [if_neg (show ¬ (false=true) by decide)] at H;(try dsimp only at H);have HC9:=aj.mk H;clear H;go_upto_if 26 with (fail)
       go_cut [0] (fun v0 wc=>∃ (kq:Nat) (rU:Int),v0 = .int .i64 rU∧aj (cO.j2 kq rU a1=some r)∧aj (kq≤kj5)∧aj (Below w.heap.size w wc))
       case first =>
        have H:=HC9.out;clear HC9;by_cases c10:a0 < 0
        ·rw [if_pos c10] at H;have mg:=decide_eq_true c10;clear c10
         (first|rw [mg]|(simp only [bP,bU];rw [mg])|skip)
         have H':=aj.mk H;clear H;go_wp2;go_meet
         case rel=>exact ⟨_,(wrap64 (-a0)),zT,H',⟨by have:=HJ2.out;have:=HJ5.out;first|omega|exact Nat.le_refl _⟩,⟨zB⟩⟩
        ·rw [if_neg c10] at H;have mg:=decide_eq_false c10;clear c10
         (first|rw [mg]|(simp only [bP,bU];rw [mg])|skip)
         have H':=aj.mk H;clear H;go_wp2;go_meet
         case rel=>exact ⟨_,(a0),zT,H',⟨by have:=HJ2.out;have:=HJ5.out;first|omega|exact Nat.le_refl _⟩,⟨zB⟩⟩
       case rest =>
        clear HC9;obtain ⟨kq,rU,rfl,HA,HJ8,HB⟩:=hcut;cases kq with
        | zero=>exact absurd HA.out (by simp [cO.j2])
        | succ kj8 =>
         have H:=HA.out;clear HA;simp only [cO.j2] at H;by_cases c11:rU < a1
         ·rw [if_pos c11] at H;have jv:=decide_eq_true c11;clear c11;replace H:=zO H;obtain ⟨aur,A12,H⟩:=H;try dsimp only at H
          obtain rfl:=Option.some.inj H;go_wp2_with (first|((with_reducible refine ay (f:=118) rfl ?_);refine aH (some 56) rfl rfl Tryz.func118 (by kernel_rfl) rfl #[.int .i64 (wrap64 ((wrap64 ((wrap64 (3*(wrap64 ((wrap64 (rU*rU))*rU)))) - (wrap64 ((wrap64 (5*(wrap64 (rU*rU))))*a1))))+(wrap64 (2*(wrap64 ((wrap64 (a1*a1))*a1)))))),.int .i64 1073741824,.int .i64 (wrap64 (2*(wrap64 ((wrap64 (a1*a1))*a1))))] rfl zL ?_;(with_reducible refine (bC.calls kj8 (wrap64 ((wrap64 ((wrap64 (3*(wrap64 ((wrap64 (rU*rU))*rU)))) - (wrap64 ((wrap64 (5*(wrap64 (rU*rU))))*a1))))+(wrap64 (2*(wrap64 ((wrap64 (a1*a1))*a1)))))) 1073741824 (wrap64 (2*(wrap64 ((wrap64 (a1*a1))*a1)))) aur _ A12.out).mono ?_);rintro e w13 ⟨rfl,hb⟩;refine ⟨_,rfl,?_⟩;replace HB:=aj.mk (ak zB hb);(try clear hb)));go_ret;exact ⟨zS,zB⟩
         ·rw [if_neg c11] at H;have jv:=decide_eq_false c11;clear c11;replace H:=zO H;obtain ⟨aus,A14,H⟩:=H;try dsimp only at H
          obtain rfl:=Option.some.inj H;go_wp2_with (first|((with_reducible refine ay (f:=118) rfl ?_);refine aH (some 73) rfl rfl Tryz.func118 (by kernel_rfl) rfl #[.int .i64 (wrap64 ((wrap64 ((wrap64 ((wrap64 ((wrap64 (5*(wrap64 (rU*rU))))*a1)) - (wrap64 ((wrap64 (rU*rU))*rU)))) - (wrap64 ((wrap64 (8*rU))*(wrap64 (a1*a1))))))+(wrap64 (4*(wrap64 ((wrap64 (a1*a1))*a1)))))),.int .i64 1073741824,.int .i64 (wrap64 (2*(wrap64 ((wrap64 (a1*a1))*a1))))] rfl zL ?_;(with_reducible refine (bC.calls kj8 (wrap64 ((wrap64 ((wrap64 ((wrap64 ((wrap64 (5*(wrap64 (rU*rU))))*a1)) - (wrap64 ((wrap64 (rU*rU))*rU)))) - (wrap64 ((wrap64 (8*rU))*(wrap64 (a1*a1))))))+(wrap64 (4*(wrap64 ((wrap64 (a1*a1))*a1)))))) 1073741824 (wrap64 (2*(wrap64 ((wrap64 (a1*a1))*a1)))) aus _ A14.out).mono ?_);rintro e w15 ⟨rfl,hb⟩;refine ⟨_,rfl,?_⟩;replace HB:=aj.mk (ak zB hb);(try clear hb)));go_ret;exact ⟨zS,zB⟩
end Go.Proofs.YtpondkggmcmpfaaGreatDoor.QA
