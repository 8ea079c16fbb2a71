/- Joined by wip/tools/bundle.py out of: TC. -/
import Derived.Test.YtpondkggmcmpfaaGreatDoorBPlanCovers1
import Derived.Test.YtpondkggmcmpfaaGreatDoorBPlanCovers14
import Derived.Handy
import Derived.Lib.SliceRun
import Derived.Test.YtpondkggmcmpfaaGreatDoorBPlanCovers0
import Derived.Test.YtpondkggmcmpfaaGreatDoorBPlanCovers8
import Derived.Test.YtpondkggmcmpfaaGreatDoorBPlanCovers10
import Derived.Test.YtpondkggmcmpfaaGreatDoorBPlanCovers21
namespace Go.Proofs.YtpondkggmcmpfaaGreatDoor.QA
open Go.RowKit Go.Proofs.YtpondkggmcmpfaaGreatDoorW.PrintWords Go.Proofs.YtpondkggmcmpfaaGreatDoorW.PrintLast Go.Proofs.YtpondkggmcmpfaaGreatDoorW.PrintMore Go.Proofs.YtpondkggmcmpfaaGreatDoor.T
set_option linter.unusedVariables false
set_option linter.unusedSimpArgs false
theorem am2:gX 0 9 5 0 5=0:=by kernel_rfl
theorem am3:gX 0 9 3 0 3=0:=by kernel_rfl
theorem an2:(gq 0 9 5 5).lines.length=5:=by kernel_rfl
theorem an3:(gq 0 9 3 3).lines.length=3:=by kernel_rfl
set_option maxHeartbeats 8000000 in
set_option maxRecDepth 100000 in
theorem aiQ (w:World) (hG:GL w):Calls Tryz.prog 18 #[] w fun e w'=>e = .returned (.bool true)∧Below w.heap.size w w':=by
  have lv:=fun w' (hb:Below w.heap.size w w')=>aiI w' (hG.below hb)
  obtain ⟨tx,htx⟩:∃ t,t=gq 0 9 5 5:=⟨_,rfl⟩
  obtain ⟨ty,hty⟩:∃ t,t=gq 0 9 3 3:=⟨_,rfl⟩
  have lx:tx.lines.length=5:=by rw [htx];exact an2
  have ly:ty.lines.length=3:=by rw [hty];exact an3
  have mk:=fun w' (hb:Below w.heap.size w w')=>aeS 3 0 0 0 none 0 [] none 0 [] 0 5 3 9 9 (gq 0 9 5 5) (gq 0 9 3 3) w' (hG.below hb) (adP w') (by decide) (adP w') (by decide) (acY 0 (by decide) (by decide) (by decide)) (by decide) (by decide)
    (fun w'' hb2=>aaU 0 0 0 none 0 0 none 0 0 0 9 9 5 3 w'' (hG.below (ak hb hb2)) ⟨by decide,by decide,by decide,by decide,by decide,by decide⟩ ⟨by decide,by decide,by decide,by decide,by decide,by decide⟩ am2 am3)
  rw [← htx,← hty] at mk
  have pB:sS 2 2 tx ty:=⟨by decide,by decide,by decide,by decide,by omega,by omega,by omega,by omega⟩
  have px:dh (tx.lines.length:Int) 2=3:=by rw [lx];rfl
  have py:dh (ty.lines.length:Int) 2=2:=by rw [ly];rfl
  have o1:jO tx 2 5=4:=by unfold jO;rw [px];rfl
  have o2:jP tx 2 2 5=2:=by unfold jP;rw [px];rfl
  have o3:outW tx 2 5=1:=by unfold outW;rw [o1,lx];rfl
  have o4:pX tx ty 2 2 5=1:=by unfold pX;rw [o2,ly];rfl
  have tc:=fun bp bx bz w' (h:qM w' bp bx bz 0 2 2 tx ty)=>agX bp bx bz 0 2 2 tx ty 5 w' h pB (by decide) (by rw [px,py];decide)
  have cc:=fun bp bx bz w' (h:qM w' bp bx bz 0 2 2 tx ty)=>aao bp bx bz 0 2 2 tx ty w' h pB
  rw [o1,o2,o3,o4] at tc
  rw [px,py] at cc
  generalize dF tx 4 (4+1)=ra at tc
  generalize dF ty 2 (2+1)=rb at tc
  obtain ⟨ra1,ra2⟩:=ra
  obtain ⟨rb1,rb2⟩:=rb
  obtain ⟨mo,hmo⟩:∃ m,m=ty.most:=⟨_,rfl⟩
  rw [← hmo] at tc
  have LV:=aj.mk lv
  have MK:=aj.mk mk
  have TC:=aj.mk tc
  have CC:=aj.mk cc
  clear lv mk hG lx ly htx hty pB px py o1 o2 o3 o4 tc cc hmo
  have mixed:Tryz.prog.follows .mixedOrders=true:=by kernel_rfl
  unfold opV at MK
  go_enter Tryz.func18,Tryz.ntmps18
  go_upto_region 2 with (first
    | (go_at_call 51;refine (MK.out _ (Below.refl _ _)).mono ?_;rintro e w1 ⟨hb1,bx,bz,rfl,hx,hz⟩;have B1:=aj.mk hb1;have TX:=aj.mk hx.reads;have TY:=aj.mk hz.reads;clear hb1 hx hz))
  have hr:=heap_alloc_new w1 (.cells #[.pointer (some ⟨bx,0,none⟩),.pointer (some ⟨bz,0,none⟩),.int .i64 0] 38)
  have ha:=aT (Below.refl w1.heap.size w1) (.cells #[.pointer (some ⟨bx,0,none⟩),.pointer (some ⟨bz,0,none⟩),.int .i64 0] 38)
  have TX2:=aj.mk (TX.out.below ha)
  have TY2:=aj.mk (TY.out.below ha)
  have B2:=aj.mk (ak B1.out ha)
  obtain ⟨g,hg⟩:∃ g,g=w1.heap.size:=⟨_,rfl⟩
  rw [← hg] at hr ⊢
  clear ha hg TX TY
  generalize w1.alloc (.cells #[.pointer (some ⟨bx,0,none⟩),.pointer (some ⟨bz,0,none⟩),.int .i64 0] 38)=w2 at hr TX2 TY2 B2 ⊢
  have HR:=aj.mk hr
  clear hr
  go_upto_region 8 with (first
    | (go_at_call 12;refine (LV.out _ B2.out).mono ?_;rintro e w3 ⟨rfl,hb3⟩;have B3:=aj.mk hb3;have hr9:=(hb3.block g (dJ HR.out)).trans HR.out;have z0:w3.cell? ⟨g,0,none⟩=some (.pointer (some ⟨bx,0,none⟩)):=(au hr9 0).trans rfl;have z1:w3.cell? ⟨g,1,none⟩=some (.pointer (some ⟨bz,0,none⟩)):=(au hr9 1).trans rfl;have z2:w3.cell? ⟨g,2,none⟩=some (.int .i64 0):=(au hr9 2).trans rfl;clear hb3 hr9)
    | (go_at_call 20;refine (an0 bx bz 0 2 2 w3 (by decide) (by decide)).mono ?_;rintro e w4 ⟨hb4,bp,rfl,hp4⟩;have B4:=aj.mk (ak B3.out hb4);have HP:=aj.mk (show qM w4 bp bx bz 0 2 2 tx ty from ⟨hp4,TX2.out.below (ak B3.out hb4),TY2.out.below (ak B3.out hb4)⟩);clear hb4 hp4 z0 z1 z2)
    | (go_at_call 27;refine (TC.out bp bx bz w4 HP.out).mono ?_;rintro e w5 ⟨rfl,hb5⟩;have B5:=aj.mk (ak B4.out hb5);have HP5:=aj.mk (HP.out.below hb5);clear hb5))
  have hr:=heap_alloc_new w5 (.cells #[.int .i64 5,.int .i64 4,.int .i64 2,.int .i64 1,.int .i64 1,.int .i64 ra1,.int .i64 rb1,.int .i64 ra2,.int .i64 rb2,.int .i64 mo] 58)
  have ha:=aT (Below.refl w5.heap.size w5) (.cells #[.int .i64 5,.int .i64 4,.int .i64 2,.int .i64 1,.int .i64 1,.int .i64 ra1,.int .i64 rb1,.int .i64 ra2,.int .i64 rb2,.int .i64 mo] 58)
  have HP6:=HP5.out.below ha
  have B6:=aj.mk (ak B5.out ha)
  obtain ⟨q,hq⟩:∃ g,g=w5.heap.size:=⟨_,rfl⟩
  rw [← hq] at hr ⊢
  clear ha hq
  generalize w5.alloc (.cells #[.int .i64 5,.int .i64 4,.int .i64 2,.int .i64 1,.int .i64 1,.int .i64 ra1,.int .i64 rb1,.int .i64 ra2,.int .i64 rb2,.int .i64 mo] 58)=w6 at hr HP6 B6 ⊢
  have CC2:=aj.mk (CC.out bp bx bz w6 HP6)
  have t1:w6.cell? ⟨q,1,none⟩=some (.int .i64 4):=(au hr 1).trans rfl
  have t2:w6.cell? ⟨q,2,none⟩=some (.int .i64 2):=(au hr 2).trans rfl
  have t3:w6.cell? ⟨q,3,none⟩=some (.int .i64 1):=(au hr 3).trans rfl
  have t4:w6.cell? ⟨q,4,none⟩=some (.int .i64 1):=(au hr 4).trans rfl
  clear hr HP6
  go_wp2_with (go_at_call 25;(with_reducible refine CC2.out.mono ?_);rintro e w' ⟨rfl,⟨nd,rfl⟩⟩)
  go_ret
  exact ⟨rfl,ak B2.out (aI B6.out nd)⟩
end Go.Proofs.YtpondkggmcmpfaaGreatDoor.QA
