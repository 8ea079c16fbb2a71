/- Joined by wip/tools/bundle.py out of: QAx41 QAx43 QAx48 QAx49 QAx50 QAx51 QAx52. -/
import Derived.Test.YtpondkggmcmpfaaGreatDoorBDirectApplies14
set_option maxHeartbeats 8000000
set_option maxRecDepth 100000
namespace Go.Proofs.YtpondkggmcmpfaaGreatDoor.QA
open Go.Proofs.YtpondkggmcmpfaaGreatDoor.T
open Go.RowKit Go.Proofs.YtpondkggmcmpfaaGreatDoorW.PrintWords Go.Proofs.YtpondkggmcmpfaaGreatDoorW.PrintLast Go.Proofs.YtpondkggmcmpfaaGreatDoorW.PrintMore
attribute [local go_sem] dV dN dO fA fB
set_option linter.unusedVariables false
set_option linter.unusedSimpArgs false
mutual
def dX.j0:Nat->Int->Bool->Option (List Int × Int)
 | 0,_,_=>none
 | k+1,x0,x10=>if x10=true then (some (([]:List Int),7)) else (dX.l0 k ([]:List Int) (wrap64 ((wrap64 (2*x0))+1)) 0)
def dX.l0:Nat->List Int->Int->Int->Option (List Int × Int)
 | 0,_,_,_=>none
 | k+1,x4,x13,x14=>if x14 < x13 then (if x4.length < 17592186044416 then (dX.l0 k (x4 ++ [1]) x13 (wrap64 (x14+1))) else (none)) else ((bV.f k x4).bind fun axj=>(some (axj.1,axj.2)))
end
def dX.f (k:Nat) (a0:Int):Option (List Int × Int):=if a0 < 0 then (dX.j0 k a0 true) else (dX.j0 k a0 (decide (a0 > 511)))
theorem dX.calls (k:Nat) (a0:Int) (r1:List Int) (r2:Int) (w:World) (h:dX.f k a0=some (r1,r2)) :
  Calls Tryz.prog 95 #[.int .i64 a0] w fun e w'=>∃ v0_:Value,e = .returned (.tuple #[v0_,.int .i64 r2])/\Kd.R (Kd.int .i64) 2 w' w.heap.size (fun _=>True) v0_ r1/\Below w.heap.size w w':=by
 have HB:=aj.mk (Below.refl w.heap.size w);have H:=h;clear h;unfold dX.f at H;have HC2:=aj.mk H;clear H;go_enter Tryz.func95,Tryz.ntmps95;go_upto_region 1 with (fail);go_cut [10] (fun v10 wc=>∃ (kq:Nat) (yT:Bool),v10 = .bool yT/\aj (dX.j0 kq a0 yT=some (r1,r2))/\aj (kq<=k)/\aj (Below w.heap.size w wc))
 case first =>
  have H:=HC2.out;clear HC2;by_cases c3:a0 < 0
  ·rw [if_pos c3] at H;have fU:=decide_eq_true c3;clear c3
   (first|rw [fU]|(simp only [bP,bU];rw [fU])|skip)
   have H':=aj.mk H;clear H;go_wp2;go_meet
   case rel=>exact ⟨_,(true),zT,H',⟨by first|omega|exact Nat.le_refl _⟩,⟨zB⟩⟩
  ·rw [if_neg c3] at H;have fU:=decide_eq_false c3;clear c3
   (first|rw [fU]|(simp only [bP,bU];rw [fU])|skip)
   have H':=aj.mk H;clear H;go_wp2;go_meet
   case rel=>exact ⟨_,(decide (a0 > 511)),zT,H',⟨by first|omega|exact Nat.le_refl _⟩,⟨zB⟩⟩
 case rest =>
  clear HC2;obtain ⟨kq,yT,rfl,HA,HJ1,HB⟩:=hcut;cases kq with
  | zero=>exact absurd HA.out (by simp [dX.j0])
  | succ kj1 =>
   have H:=HA.out;clear HA;simp only [dX.j0] at H;by_cases c4:yT=true
   ·subst c4;rw [if_pos rfl] at H;(try dsimp only at H);simp only [Option.some.injEq,Prod.mk.injEq] at H;obtain ⟨rfl,rfl⟩:=H;go_wp2;go_ret2;exact ⟨_,zS,by first|exact Kd.kJ _ _ _ _ _|exact Kd.qO _ _ _ _ _|exact Kd.oU _ _ _ _ _|exact Kd.qP _ _ _ _ _|exact Kd.qp _ _ _ _ _,zB⟩
   ·replace c4:=Bool.eq_false_iff.mpr c4;subst c4;rw [if_neg (show ¬ (false=true) by decide)] at H;(try dsimp only at H);have H':=aj.mk H;clear H;go_wp2;go_loopg [4,14] kj1 (fun kq v4 v14 w'=>∃ (yH:List Int) (abE:Int),v14 = .int .i64 abE/\aj (dX.l0 kq yH (wrap64 ((wrap64 (2*a0))+1)) abE=some (r1,r2))/\aj (kq<=kj1)/\aj (Kd.R (Kd.int .i64) 2 w' w.heap.size (fun _=>True) v4 yH)/\aj (Below w.heap.size w w'))
    case atStart=>exact ⟨(([]:List Int)),(0),zT,H',⟨Nat.le_refl _⟩,⟨by first|exact Kd.kJ _ _ _ _ _|exact Kd.qO _ _ _ _ _|exact Kd.oU _ _ _ _ _|exact Kd.qP _ _ _ _ _|exact Kd.qp _ _ _ _ _⟩,⟨zB⟩⟩
    case round =>
     clear H';obtain ⟨yH,abE,rfl,HA,HK2,ai4,HB⟩:=hrel;cases gk with
     | zero=>exact absurd HA.out (by simp [dX.l0])
     | succ k2 =>
      have H:=HA.out;clear HA;simp only [dX.l0] at H;by_cases c5:abE < (wrap64 ((wrap64 (2*a0))+1))
      ·rw [if_pos c5] at H;have gJ:=decide_eq_true c5;clear c5;by_cases c6:yH.length < 17592186044416
       ·rw [if_pos c6] at H;have aDv:=aj.mk c6;clear c6;obtain ⟨azz,akj⟩:∃ y_:List Int,y_=(yH ++ [1]):=⟨_,rfl⟩;replace H:(dX.l0 k2 azz (wrap64 ((wrap64 (2*a0))+1)) (wrap64 (abE+1)))=some (r1,r2):=(by first|(rw [akj];with_reducible exact H)|(have H2_:=(Option.bind_some _ _).symm.trans H;rw [akj];with_reducible exact H2_)|(have H2_:=(Option.bind_some _ _).symm.trans H;with_reducible exact H2_)|with_reducible exact H|(rw [akj];exact H)|exact H);have aB3:=aj.mk akj;clear akj;have H':=aj.mk H;clear H;go_wp2_with (first|((with_reducible refine kR (b := .append) (xs := #[.tmp 16,.tmp 17]) rfl ?_);at_builtin;refine Kd.lU (Kd.int .i64) (w0:=w) w.heap.size rfl (.tmp 16) (.tmp 17) 44 2 (.int .i64 0) 8 rfl Tryz.underlying44 yM rfl (by decide) (by omega) u4 yH 1 [.int .i64 1] (fun _=>True) (fun _=>False) rfl rfl ?aP (fun _ hk=>hk.elim) ?aF ?aO ?aB ?aS ?aL ?_;(case aP=>exact rfl);(case aB=>exact zB);(case aF=>exact (fun _ _=>trivial));(case aO=>exact (by (with_reducible repeat (first|apply Kd.aN|apply Kd.aT|apply Kd.aV));exact ai4.out));(case aS=>exact (bW zB));(case aL=>have:=aDv.out;omega);intro aI2 w7 ho hb hg hat;rw [<- aB3.out] at ho;obtain ⟨HB,aB4⟩:=zA2 hb ho;clear ho hb hg hat));go_roundg k2
        case measure=>have:=HJ1.out;have:=HK2.out;omega
        case rel=>exact ⟨(azz),(wrap64 (abE+1)),zT,H',⟨by have:=HJ1.out;have:=HK2.out;omega⟩,⟨by (with_reducible repeat (first|apply Kd.aN|apply Kd.aT|apply Kd.aV));exact aB4.out⟩,⟨zB⟩⟩
       ·rw [if_neg c6] at H;exact absurd H (by simp)
      ·rw [if_neg c5] at H;have gJ:=decide_eq_false c5;clear c5;replace H:=zO H;obtain ⟨⟨aDw,aDx⟩,A8,H⟩:=H;try dsimp only at H
       simp only [Option.some.injEq,Prod.mk.injEq] at H;obtain ⟨rfl,rfl⟩:=H;obtain ⟨Ao9,co9,eo9⟩:=Kd.gG ai4.out;subst eo9;go_wp2_with (first|((with_reducible refine ay (f:=96) rfl ?_);refine aH (some 21) rfl rfl Tryz.func96 (by kernel_rfl) rfl #[.slice Ao9 yH.length co9] rfl zL ?_;(with_reducible refine (bV.calls k2 _ _ yH aDw aDx _ ?iD ?iE A8.out).mono ?_);(case iD=>repeat (first|exact (Kd.dL ai4.out).2.2|(with_reducible refine Kd.iU ?_ _)|(with_reducible refine Kd.jh ?_ _)|(with_reducible refine Kd.jI ?_)));(case iE=>exact (Kd.dL ai4.out).2.1);rintro e w10 ⟨aI3,rfl,ho0,hb⟩;refine ⟨_,rfl,?_⟩;obtain ⟨ai4,aB5,HB⟩:=zA3 (Kd.jl (by (with_reducible repeat (first|apply Kd.aN|apply Kd.aT|apply Kd.aV));exact ai4.out) (Kd.jT ho0) hb) (Kd.ig (Kd.lC ho0 (Kd.nC (by (with_reducible repeat (first|apply Kd.aN|apply Kd.aT|apply Kd.aV));exact ai4.out))) (bW zB)) (ak zB hb);(try clear hb);(try clear ho0)));go_ret2;exact ⟨_,zS,by (with_reducible repeat (first|apply Kd.aN|apply Kd.aT|apply Kd.aV));exact Kd.dY aB5.out (fun _ hk=>trivial),zB⟩
def ru.f (aU bf bY dB:Int) (bZ jJ:List Int) (lY lD lN a1 a2:Int):Option (Int × Int):=if aU=3 then (some (lD,lN)) else (some (a1,a2))
theorem ru.calls (aU bf bY dB:Int) (iF:Option Addr) (iG:Nat) (bZ:List Int) (qc:Option Addr) (qg:Nat) (jJ:List Int) (lY lD lN a1 a2 r1 r2:Int) (w:World) (oG:Kd.C (Kd.int .i64) w iF bZ.length bZ) (oH:bZ.length<=iG) (aby:Kd.C (Kd.int .i64) w qc jJ.length jJ) (abz:jJ.length<=qg) (h:ru.f aU bf bY dB bZ jJ lY lD lN a1 a2=some (r1,r2)) :
  Calls Tryz.prog 58 #[.agg #[.int .i64 aU,.int .i64 bf,.int .i64 bY,.int .i64 dB,.slice iF bZ.length iG,.slice qc jJ.length qg,.int .i64 lY,.int .i64 lD,.int .i64 lN],.int .i64 a1,.int .i64 a2] w fun e w'=>e = .returned (.tuple #[.int .i64 r1,.int .i64 r2])/\Below w.heap.size w w':=by
 have aHX:=Tryz.underlying111;have um:=aj.mk oG;have uK:=aj.mk oH;clear oG oH;have am1:=aj.mk aby
 have am2:=aj.mk abz;clear aby abz;have HB:=aj.mk (Below.refl w.heap.size w);have H:=h;clear h;unfold ru.f at H;by_cases c4:aU=3
 ·rw [if_pos c4] at H;have fH:(aU == 3)=true:=beq_iff_eq.mpr c4;have aaS:(aU != 3)=false:=bne_eq_false_iff_eq.mpr c4;clear c4;simp only [Option.some.injEq,Prod.mk.injEq] at H;obtain ⟨rfl,rfl⟩:=H;go_enter Tryz.func58,Tryz.ntmps58;go_wp2_with (first|((with_reducible refine aZ (N:=3) rfl ?_);refine aX zR (N:=3) zR (cs := #[.int .i64 aU,.int .i64 bf,.int .i64 bY,.int .i64 dB,.slice iF bZ.length iG,.slice qc jJ.length qg,.int .i64 lY,.int .i64 lD,.int .i64 lN]) (t:=111) zG ?_;intro akk hg w5 hbox hb;obtain ⟨HB,vF,akl,akm⟩:=zA4 (ak zB hb) hbox (zg hg zB) (zg hg zB);clear hb hbox hg;obtain ⟨_,_,_,_,_,_,_,_,_⟩:=zC9 vF.out;obtain ⟨_,_,_,_,_,_,_,_,_⟩:=zF9 vF.out));repeat (go_quiet (first|((with_reducible refine aZ (N:=3) rfl ?_);refine aX zR (N:=3) zR (cs := #[.int .i64 aU,.int .i64 bf,.int .i64 bY,.int .i64 dB,.slice iF bZ.length iG,.slice qc jJ.length qg,.int .i64 lY,.int .i64 lD,.int .i64 lN]) (t:=111) zG ?_;intro akk hg w5 hbox hb;obtain ⟨HB,vF,akl,akm⟩:=zA4 (ak zB hb) hbox (zg hg zB) (zg hg zB);clear hb hbox hg;obtain ⟨_,_,_,_,_,_,_,_,_⟩:=zC9 vF.out;obtain ⟨_,_,_,_,_,_,_,_,_⟩:=zF9 vF.out));try go_wp2_with (first|((with_reducible refine aZ (N:=3) rfl ?_);refine aX zR (N:=3) zR (cs := #[.int .i64 aU,.int .i64 bf,.int .i64 bY,.int .i64 dB,.slice iF bZ.length iG,.slice qc jJ.length qg,.int .i64 lY,.int .i64 lD,.int .i64 lN]) (t:=111) zG ?_;intro akk hg w5 hbox hb;obtain ⟨HB,vF,akl,akm⟩:=zA4 (ak zB hb) hbox (zg hg zB) (zg hg zB);clear hb hbox hg;obtain ⟨_,_,_,_,_,_,_,_,_⟩:=zC9 vF.out;obtain ⟨_,_,_,_,_,_,_,_,_⟩:=zF9 vF.out)))
  go_ret2;exact ⟨zS,zB⟩
 ·rw [if_neg c4] at H;have fH:(aU == 3)=false:=beq_eq_false_iff_ne.mpr c4;have aaS:(aU != 3)=true:=bne_iff_ne.mpr c4;simp only [Option.some.injEq,Prod.mk.injEq] at H;obtain ⟨rfl,rfl⟩:=H;go_enter Tryz.func58,Tryz.ntmps58;go_wp2_with (first|((with_reducible refine aZ (N:=3) rfl ?_);refine aX zR (N:=3) zR (cs := #[.int .i64 aU,.int .i64 bf,.int .i64 bY,.int .i64 dB,.slice iF bZ.length iG,.slice qc jJ.length qg,.int .i64 lY,.int .i64 lD,.int .i64 lN]) (t:=111) zG ?_;intro akk hg w7 hbox hb;obtain ⟨HB,vF,akl,akm⟩:=zA4 (ak zB hb) hbox (zg hg zB) (zg hg zB);clear hb hbox hg;obtain ⟨_,_,_,_,_,_,_,_,_⟩:=zC9 vF.out;obtain ⟨_,_,_,_,_,_,_,_,_⟩:=zF9 vF.out));repeat (go_quiet (first|((with_reducible refine aZ (N:=3) rfl ?_);refine aX zR (N:=3) zR (cs := #[.int .i64 aU,.int .i64 bf,.int .i64 bY,.int .i64 dB,.slice iF bZ.length iG,.slice qc jJ.length qg,.int .i64 lY,.int .i64 lD,.int .i64 lN]) (t:=111) zG ?_;intro akk hg w7 hbox hb;obtain ⟨HB,vF,akl,akm⟩:=zA4 (ak zB hb) hbox (zg hg zB) (zg hg zB);clear hb hbox hg;obtain ⟨_,_,_,_,_,_,_,_,_⟩:=zC9 vF.out;obtain ⟨_,_,_,_,_,_,_,_,_⟩:=zF9 vF.out));try go_wp2_with (first|((with_reducible refine aZ (N:=3) rfl ?_);refine aX zR (N:=3) zR (cs := #[.int .i64 aU,.int .i64 bf,.int .i64 bY,.int .i64 dB,.slice iF bZ.length iG,.slice qc jJ.length qg,.int .i64 lY,.int .i64 lD,.int .i64 lN]) (t:=111) zG ?_;intro akk hg w7 hbox hb;obtain ⟨HB,vF,akl,akm⟩:=zA4 (ak zB hb) hbox (zg hg zB) (zg hg zB);clear hb hbox hg;obtain ⟨_,_,_,_,_,_,_,_,_⟩:=zC9 vF.out;obtain ⟨_,_,_,_,_,_,_,_,_⟩:=zF9 vF.out)))
  go_ret2;exact ⟨zS,zB⟩
mutual
def bT.j0:Nat->Int->Int->Int->Bool->Option (Int)
 | 0,_,_,_,_=>none
 | k+1,x0,x1,x2,x21=>if x21=true then (some 0) else (if x1>=0 then (bT.j1 k x0 x1 x2 (decide (x1 < x2))) else (bT.j1 k x0 x1 x2 false))
def bT.j1:Nat->Int->Int->Int->Bool->Option (Int)
 | 0,_,_,_,_=>none
 | k+1,x0,x1,x2,x28=>if x28=true then (some x1) else (if x0=0 then (if x1 < 0 then (some 0) else (some (wrap64 (x2 - 1)))) else (if (wrap64 (2*x2))=0 then (none) else (bT.l0 k x0 x2 (Int.tmod x1 (wrap64 (2*x2))))))
def bT.l0:Nat->Int->Int->Int->Option (Int)
 | 0,_,_,_=>none
 | k+1,x0,x2,x7=>if x7 < 0 then (bT.l0 k x0 x2 (wrap64 (x7+(wrap64 (2*x2))))) else (if x7 < x2 then (some x7) else (if x0=2 then (some (wrap64 (x7 - x2))) else (some (wrap64 ((wrap64 ((wrap64 (2*x2)) - 1)) - x7)))))
end
def bT.f (k:Nat) (a0 a1 a2:Int):Option (Int):=if a2 < 1 then (bT.j0 k a0 a1 a2 true) else (if a2 > 65536 then (bT.j0 k a0 a1 a2 true) else (if a0 < 0 then (bT.j0 k a0 a1 a2 true) else (bT.j0 k a0 a1 a2 (decide (a0 > 2)))))
theorem bT.calls (k:Nat) (a0 a1 a2 r:Int) (w:World) (h:bT.f k a0 a1 a2=some r) :
  Calls Tryz.prog 78 #[.int .i64 a0,.int .i64 a1,.int .i64 a2] w fun e w'=>e = .returned (.int .i64 r)/\dA w w':=by
 have H:=h;clear h;unfold bT.f at H;have HC4:=aj.mk H;clear H;go_enter Tryz.func78,Tryz.ntmps78;go_upto_region 1 with (fail);go_cut [21] (fun v21 wc=>∃ (kq:Nat) (anr:Bool),v21 = .bool anr/\aj (bT.j0 kq a0 a1 a2 anr=some r)/\aj (kq<=k)/\dA w wc)
 case first =>
  have H:=HC4.out;clear HC4;by_cases c5:a2 < 1
  ·rw [if_pos c5] at H;have gJ:=decide_eq_true c5;clear c5
   (first|rw [gJ]|(simp only [bP,bU];rw [gJ])|skip)
   have H':=aj.mk H;clear H;go_wp2;go_meet
   case rel=>exact ⟨_,(true),zT,H',⟨by first|omega|exact Nat.le_refl _⟩,zW⟩
  ·rw [if_neg c5] at H;have gJ:=decide_eq_false c5;clear c5
   (first|rw [gJ]|(simp only [bP,bU];rw [gJ])|skip)
   by_cases c6:a2 > 65536
   ·rw [if_pos c6] at H;have gI:=decide_eq_true c6;clear c6;have H':=aj.mk H;clear H;go_wp2;go_meet
    case rel=>exact ⟨_,(true),zT,H',⟨by first|omega|exact Nat.le_refl _⟩,zW⟩
   ·rw [if_neg c6] at H;have gI:=decide_eq_false c6;clear c6;by_cases c7:a0 < 0
    ·rw [if_pos c7] at H;have jw:=decide_eq_true c7;clear c7;have H':=aj.mk H;clear H;go_wp2;go_meet
     case rel=>exact ⟨_,(true),zT,H',⟨by first|omega|exact Nat.le_refl _⟩,zW⟩
    ·rw [if_neg c7] at H;have jw:=decide_eq_false c7;clear c7;have H':=aj.mk H;clear H;go_wp2;go_meet
     case rel=>exact ⟨_,(decide (a0 > 2)),zT,H',⟨by first|omega|exact Nat.le_refl _⟩,zW⟩
 case rest =>
  clear HC4;obtain ⟨kq,anr,rfl,HA,HJ3,⟨mc3,rfl⟩⟩:=hcut;cases kq with
  | zero=>exact absurd HA.out (by simp [bT.j0])
  | succ kj3 =>
   have H:=HA.out;clear HA;simp only [bT.j0] at H;by_cases c8:anr=true
   ·subst c8;rw [if_pos rfl] at H;(try dsimp only at H);obtain rfl:=Option.some.inj H;go_wp2;go_ret;exact ⟨zT,zW⟩
   ·replace c8:=Bool.eq_false_iff.mpr c8;subst c8;rw [if_neg (show ¬ (false=true) by decide)] at H;(try dsimp only at H);have HC9:=aj.mk H;clear H;go_upto_region 3 with (fail);go_cut [28] (fun v28 wc=>∃ (kq:Nat) (ant:Bool),v28 = .bool ant/\aj (bT.j1 kq a0 a1 a2 ant=some r)/\aj (kq<=kj3)/\dA w wc)
    case first =>
     have H:=HC9.out;clear HC9;by_cases c10:a1>=0
     ·rw [if_pos c10] at H;have l9:=decide_eq_true c10;clear c10
      (first|rw [l9]|(simp only [bP,bU];rw [l9])|skip)
      have H':=aj.mk H;clear H;go_wp2;go_meet
      case rel=>exact ⟨_,(decide (a1 < a2)),zT,H',⟨by have:=HJ3.out;first|omega|exact Nat.le_refl _⟩,zW⟩
     ·rw [if_neg c10] at H;have l9:=decide_eq_false c10;clear c10
      (first|rw [l9]|(simp only [bP,bU];rw [l9])|skip)
      have H':=aj.mk H;clear H;go_wp2;go_meet
      case rel=>exact ⟨_,(false),zT,H',⟨by have:=HJ3.out;first|omega|exact Nat.le_refl _⟩,zW⟩
    case rest =>
     clear HC9;obtain ⟨kq,ant,rfl,HA,HJ8,⟨mc8,rfl⟩⟩:=hcut;cases kq with
     | zero=>exact absurd HA.out (by simp [bT.j1])
     | succ kj8 =>
      have H:=HA.out;clear HA;simp only [bT.j1] at H;by_cases c11:ant=true
      ·subst c11;rw [if_pos rfl] at H;(try dsimp only at H);obtain rfl:=Option.some.inj H;go_wp2;go_ret;exact ⟨zT,zW⟩
      ·replace c11:=Bool.eq_false_iff.mpr c11;subst c11;rw [if_neg (show ¬ (false=true) by decide)] at H;(try dsimp only at H);by_cases c12:a0=0
       ·rw [if_pos c12] at H;have yU:(a0 == 0)=true:=beq_iff_eq.mpr c12;have anu:(a0 != 0)=false:=bne_eq_false_iff_eq.mpr c12;clear c12;by_cases c13:a1 < 0
        ·rw [if_pos c13] at H;have aaf:=decide_eq_true c13;clear c13;obtain rfl:=Option.some.inj H;go_wp2;go_ret;exact ⟨zT,zW⟩
        ·rw [if_neg c13] at H;have aaf:=decide_eq_false c13;clear c13;obtain rfl:=Option.some.inj H;go_wp2;go_ret;exact ⟨zT,zW⟩
       ·rw [if_neg c12] at H;have yU:(a0 == 0)=false:=beq_eq_false_iff_ne.mpr c12;have anu:(a0 != 0)=true:=bne_iff_ne.mpr c12;by_cases c14:(wrap64 (2*a2))=0
        ·rw [if_pos c14] at H;exact absurd H (by simp)
        ·rw [if_neg c14] at H;have acu:((wrap64 (2*a2)) == 0)=false:=beq_eq_false_iff_ne.mpr c14;have anp:((wrap64 (2*a2)) != 0)=true:=bne_iff_ne.mpr c14;have H':=aj.mk H;clear H;go_wp2;go_loopg [7] kj8 (fun kq v7 w'=>∃ (vV:Int),v7 = .int .i64 vV/\aj (bT.l0 kq a0 a2 vV=some r)/\aj (kq<=kj8)/\dA w w')
         case atStart=>exact ⟨(Int.tmod a1 (wrap64 (2*a2))),zT,H',⟨Nat.le_refl _⟩,zW⟩
         case round =>
          clear H';obtain ⟨vV,rfl,HA,HK3,⟨m3,rfl⟩⟩:=hrel;cases gk with
          | zero=>exact absurd HA.out (by simp [bT.l0])
          | succ k3 =>
           have H:=HA.out;clear HA;simp only [bT.l0] at H;by_cases c15:vV < 0
           ·rw [if_pos c15] at H;have axk:=decide_eq_true c15;clear c15;have H':=aj.mk H;clear H;go_wp2;go_roundg k3
            case measure=>have:=HJ3.out;have:=HJ8.out;have:=HK3.out;omega
            case rel=>exact ⟨(wrap64 (vV+(wrap64 (2*a2)))),zT,H',⟨by have:=HJ3.out;have:=HJ8.out;have:=HK3.out;omega⟩,zW⟩
           ·rw [if_neg c15] at H;have axk:=decide_eq_false c15;clear c15;by_cases c16:vV < a2
            ·rw [if_pos c16] at H;have ar0:=decide_eq_true c16;clear c16;obtain rfl:=Option.some.inj H;go_wp2;go_ret;exact ⟨zT,zW⟩
            ·rw [if_neg c16] at H;have ar0:=decide_eq_false c16;clear c16;by_cases c17:a0=2
             ·rw [if_pos c17] at H;have ar1:(a0 == 2)=true:=beq_iff_eq.mpr c17;have aB6:(a0 != 2)=false:=bne_eq_false_iff_eq.mpr c17;clear c17;obtain rfl:=Option.some.inj H;go_wp2;go_ret;exact ⟨zT,zW⟩
             ·rw [if_neg c17] at H;have ar1:(a0 == 2)=false:=beq_eq_false_iff_ne.mpr c17;have aB6:(a0 != 2)=true:=bne_iff_ne.mpr c17;obtain rfl:=Option.some.inj H;go_wp2;go_ret;exact ⟨zT,zW⟩
def pR.f (aU bf bY dB:Int) (bZ:List Int) (a1 a2 a3:Int):Option (Bool):=if a1>=0 then (if a2>=0 then (if a3>=0 then (if a1 < aU then (if a2 < bf then (some (decide (a3 < bY))) else (some false)) else (some false)) else (some false)) else (some false)) else (some false)
theorem pR.calls (aU bf bY dB:Int) (iF:Option Addr) (iG:Nat) (bZ:List Int) (a1 a2 a3:Int) (r:Bool) (w:World) (oG:Kd.C (Kd.int .u16) w iF bZ.length bZ) (oH:bZ.length<=iG) (h:pR.f aU bf bY dB bZ a1 a2 a3=some r) :
  Calls Tryz.prog 102 #[.agg #[.int .i64 aU,.int .i64 bf,.int .i64 bY,.int .i64 dB,.slice iF bZ.length iG],.int .i64 a1,.int .i64 a2,.int .i64 a3] w fun e w'=>e = .returned (.bool r)/\Below w.heap.size w w':=by
 have ar2:=Tryz.underlying88;have um:=aj.mk oG;have uK:=aj.mk oH;clear oG oH;have HB:=aj.mk (Below.refl w.heap.size w);have H:=h;clear h;unfold pR.f at H;by_cases c5:a1>=0
 ·rw [if_pos c5] at H;have gJ:=decide_eq_true c5;clear c5;by_cases c6:a2>=0
  ·rw [if_pos c6] at H;have gI:=decide_eq_true c6;clear c6;by_cases c7:a3>=0
   ·rw [if_pos c7] at H;have jw:=decide_eq_true c7;clear c7;by_cases c8:a1 < aU
    ·rw [if_pos c8] at H;have qj:=decide_eq_true c8;clear c8;by_cases c9:a2 < bf
     ·rw [if_pos c9] at H;have o8:=decide_eq_true c9;clear c9;obtain rfl:=Option.some.inj H;go_enter Tryz.func102,Tryz.ntmps102;go_wp2_with (first|((with_reducible refine aZ (N:=4) rfl ?_);refine aX zR (N:=4) zR (cs := #[.int .i64 aU,.int .i64 bf,.int .i64 bY,.int .i64 dB,.slice iF bZ.length iG]) (t:=88) zG ?_;intro akn hg w10 hbox hb;obtain ⟨HB,abJ,ako,akp⟩:=zA4 (ak zB hb) hbox (zg hg zB) (zg hg zB);clear hb hbox hg;obtain ⟨_,_,_,_,_⟩:=zC5 abJ.out;obtain ⟨_,_,_,_,_⟩:=zF5 abJ.out));go_ret;exact ⟨zS,zB⟩
     ·rw [if_neg c9] at H;have o8:=decide_eq_false c9;clear c9;obtain rfl:=Option.some.inj H;go_enter Tryz.func102,Tryz.ntmps102;go_wp2_with (first|((with_reducible refine aZ (N:=4) rfl ?_);refine aX zR (N:=4) zR (cs := #[.int .i64 aU,.int .i64 bf,.int .i64 bY,.int .i64 dB,.slice iF bZ.length iG]) (t:=88) zG ?_;intro akn hg w12 hbox hb;obtain ⟨HB,abJ,ako,akp⟩:=zA4 (ak zB hb) hbox (zg hg zB) (zg hg zB);clear hb hbox hg;obtain ⟨_,_,_,_,_⟩:=zC5 abJ.out;obtain ⟨_,_,_,_,_⟩:=zF5 abJ.out));go_ret;exact ⟨zS,zB⟩
    ·rw [if_neg c8] at H;have qj:=decide_eq_false c8;clear c8;obtain rfl:=Option.some.inj H;go_enter Tryz.func102,Tryz.ntmps102;go_wp2_with (first|((with_reducible refine aZ (N:=4) rfl ?_);refine aX zR (N:=4) zR (cs := #[.int .i64 aU,.int .i64 bf,.int .i64 bY,.int .i64 dB,.slice iF bZ.length iG]) (t:=88) zG ?_;intro akn hg w14 hbox hb;obtain ⟨HB,abJ,ako,akp⟩:=zA4 (ak zB hb) hbox (zg hg zB) (zg hg zB);clear hb hbox hg;obtain ⟨_,_,_,_,_⟩:=zC5 abJ.out;obtain ⟨_,_,_,_,_⟩:=zF5 abJ.out));go_ret;exact ⟨zS,zB⟩
   ·rw [if_neg c7] at H;have jw:=decide_eq_false c7;clear c7;obtain rfl:=Option.some.inj H;go_enter Tryz.func102,Tryz.ntmps102;go_wp2_with (first|((with_reducible refine aZ (N:=4) rfl ?_);refine aX zR (N:=4) zR (cs := #[.int .i64 aU,.int .i64 bf,.int .i64 bY,.int .i64 dB,.slice iF bZ.length iG]) (t:=88) zG ?_;intro akn hg w16 hbox hb;obtain ⟨HB,abJ,ako,akp⟩:=zA4 (ak zB hb) hbox (zg hg zB) (zg hg zB);clear hb hbox hg));go_ret;exact ⟨zS,zB⟩
  ·rw [if_neg c6] at H;have gI:=decide_eq_false c6;clear c6;obtain rfl:=Option.some.inj H;go_enter Tryz.func102,Tryz.ntmps102;go_wp2_with (first|((with_reducible refine aZ (N:=4) rfl ?_);refine aX zR (N:=4) zR (cs := #[.int .i64 aU,.int .i64 bf,.int .i64 bY,.int .i64 dB,.slice iF bZ.length iG]) (t:=88) zG ?_;intro akn hg w17 hbox hb;obtain ⟨HB,abJ,ako,akp⟩:=zA4 (ak zB hb) hbox (zg hg zB) (zg hg zB);clear hb hbox hg));go_ret;exact ⟨zS,zB⟩
 ·rw [if_neg c5] at H;have gJ:=decide_eq_false c5;clear c5;obtain rfl:=Option.some.inj H;go_enter Tryz.func102,Tryz.ntmps102;go_wp2_with (first|((with_reducible refine aZ (N:=4) rfl ?_);refine aX zR (N:=4) zR (cs := #[.int .i64 aU,.int .i64 bf,.int .i64 bY,.int .i64 dB,.slice iF bZ.length iG]) (t:=88) zG ?_;intro akn hg w18 hbox hb;obtain ⟨HB,abJ,ako,akp⟩:=zA4 (ak zB hb) hbox (zg hg zB) (zg hg zB);clear hb hbox hg));go_ret;exact ⟨zS,zB⟩
def nS.f (aU bf bY dB:Int) (bZ:List Int) (a1 a2 a3:Int):Option (Int):=(pR.f aU bf bY dB bZ a1 a2 a3).bind fun avn=>(if avn=true then (if 0<=(wrap64 ((wrap64 ((wrap64 ((wrap64 (a2*aU))*bY))+(wrap64 (a1*bY))))+a3)) then (if (wrap64 ((wrap64 ((wrap64 ((wrap64 (a2*aU))*bY))+(wrap64 (a1*bY))))+a3)) < (bZ.length:Int) then (some (rd bZ (wrap64 ((wrap64 ((wrap64 ((wrap64 (a2*aU))*bY))+(wrap64 (a1*bY))))+a3)))) else (none)) else (none)) else (some 0))
theorem nS.calls (aU bf bY dB:Int) (iF:Option Addr) (iG:Nat) (bZ:List Int) (a1 a2 a3 r:Int) (w:World) (oG:Kd.C (Kd.int .u16) w iF bZ.length bZ) (oH:bZ.length<=iG) (h:nS.f aU bf bY dB bZ a1 a2 a3=some r) :
  Calls Tryz.prog 79 #[.agg #[.int .i64 aU,.int .i64 bf,.int .i64 bY,.int .i64 dB,.slice iF bZ.length iG],.int .i64 a1,.int .i64 a2,.int .i64 a3] w fun e w'=>e = .returned (.int .u16 r)/\Below w.heap.size w w':=by
 have ar2:=Tryz.underlying88;have um:=aj.mk oG;have uK:=aj.mk oH;clear oG oH;have HB:=aj.mk (Below.refl w.heap.size w);have H:=h;clear h;unfold nS.f at H;replace H:=zO H;obtain ⟨avn,A5,H⟩:=H;try dsimp only at H
 by_cases c6:avn=true
 ·subst c6;rw [if_pos rfl] at H;(try dsimp only at H);obtain ⟨ji7,uF⟩:∃ j_:Int,(wrap64 ((wrap64 ((wrap64 ((wrap64 (a2*aU))*bY))+(wrap64 (a1*bY))))+a3))=j_:=⟨_,rfl⟩;replace H:(if 0<=(ji7) then (if (ji7) < (bZ.length:Int) then (some (rd bZ (ji7))) else (none)) else (none))=some r:=by first|(rw [uF] at H;exact H)|(simp only [uF] at H ⊢;exact H)
  (try rw [uF] at A5)
  have aB7:(IntKind.i64.wrap ((wrap64 ((wrap64 ((wrap64 (a2*aU))*bY))+(wrap64 (a1*bY))))+a3))=ji7:=(bP _).trans uF;by_cases c8:0<=(ji7)
  ·rw [if_pos c8] at H;have qj:=decide_eq_true c8;clear c8;by_cases c9:(ji7) < (bZ.length:Int)
   ·rw [if_pos c9] at H;have o8:=decide_eq_true c9;clear c9;obtain rfl:=Option.some.inj H;go_enter Tryz.func79,Tryz.ntmps79;go_wp2_with (first|((with_reducible refine aZ (N:=4) rfl ?_);refine aX zR (N:=4) zR (cs := #[.int .i64 aU,.int .i64 bf,.int .i64 bY,.int .i64 dB,.slice iF bZ.length iG]) (t:=88) zG ?_;intro aB8 hg w10 hbox hb;obtain ⟨HB,abK,aB9,aCa⟩:=zA4 (ak zB hb) hbox (zg hg zB) (zg hg zB);clear hb hbox hg;obtain ⟨_,_,_,_,_⟩:=zC5 abK.out;obtain ⟨_,_,_,_,_⟩:=zF5 abK.out)|((with_reducible refine ay (f:=102) rfl ?_);refine aH (some 13) rfl rfl Tryz.func102 (by kernel_rfl) rfl #[.agg #[.int .i64 aU,.int .i64 bf,.int .i64 bY,.int .i64 dB,.slice iF bZ.length iG],.int .i64 a1,.int .i64 a2,.int .i64 a3] rfl zL ?_;(with_reducible refine (pR.calls aU bf bY dB _ _ bZ a1 a2 a3 true _ ?iD ?iE A5.out).mono ?_);(case iD=>repeat (first|exact (Kd.bD um.out HB.out)|(with_reducible refine Kd.iU ?_ _)|(with_reducible refine Kd.jh ?_ _)|(with_reducible refine Kd.jI ?_)));(case iE=>exact uK.out);rintro e w12 ⟨rfl,hb⟩;refine ⟨_,rfl,?_⟩;obtain ⟨abK,HB⟩:=zA2 (aA (zK abK) hb) (ak zB hb);(try clear hb);obtain ⟨_,_,_,_,_⟩:=zC5 abK.out;obtain ⟨_,_,_,_,_⟩:=zF5 abK.out;have avo:0<=((ji7):Int):=of_decide_eq_true (by first|(with_reducible assumption)|assumption);have avp:(ji7) < (bZ.length:Int):=of_decide_eq_true (by first|(with_reducible assumption)|assumption);obtain ⟨aHY,aDy,als⟩:=Kd.iZ um.out (ji7) avo avp;cases aDy;replace als:=(HB.out.cell (World.block_lt_of_cell? w _ als)).trans als;replace avo:=eq_true avo;replace avp:=eq_true avp));go_ret;exact ⟨by first|rfl|(simp [bJ,bK] <;> rfl)|(simp only [<- uF];first|rfl|(simp [bJ,bK] <;> rfl))|(simp [*,bJ,bK] <;> rfl),zB⟩
   ·rw [if_neg c9] at H;exact absurd H (by simp)
  ·rw [if_neg c8] at H;exact absurd H (by simp)
 ·replace c6:=Bool.eq_false_iff.mpr c6;subst c6;rw [if_neg (show ¬ (false=true) by decide)] at H;(try dsimp only at H);obtain rfl:=Option.some.inj H;go_enter Tryz.func79,Tryz.ntmps79;go_wp2_with (first|((with_reducible refine aZ (N:=4) rfl ?_);refine aX zR (N:=4) zR (cs := #[.int .i64 aU,.int .i64 bf,.int .i64 bY,.int .i64 dB,.slice iF bZ.length iG]) (t:=88) zG ?_;intro aB8 hg w14 hbox hb;obtain ⟨HB,abK,aB9,aCa⟩:=zA4 (ak zB hb) hbox (zg hg zB) (zg hg zB);clear hb hbox hg;obtain ⟨_,_,_,_,_⟩:=zC5 abK.out;obtain ⟨_,_,_,_,_⟩:=zF5 abK.out)|((with_reducible refine ay (f:=102) rfl ?_);refine aH (some 13) rfl rfl Tryz.func102 (by kernel_rfl) rfl #[.agg #[.int .i64 aU,.int .i64 bf,.int .i64 bY,.int .i64 dB,.slice iF bZ.length iG],.int .i64 a1,.int .i64 a2,.int .i64 a3] rfl zL ?_;(with_reducible refine (pR.calls aU bf bY dB _ _ bZ a1 a2 a3 false _ ?iD ?iE A5.out).mono ?_);(case iD=>repeat (first|exact (Kd.bD um.out HB.out)|(with_reducible refine Kd.iU ?_ _)|(with_reducible refine Kd.jh ?_ _)|(with_reducible refine Kd.jI ?_)));(case iE=>exact uK.out);rintro e w16 ⟨rfl,hb⟩;refine ⟨_,rfl,?_⟩;obtain ⟨abK,HB⟩:=zA2 (aA (zK abK) hb) (ak zB hb);(try clear hb)));go_ret;exact ⟨zS,zB⟩
mutual
def dK.l0:Nat->Int->Int->Int->Int->List Int->Int->Int->Int->Int->Int->Int->List Int->List (jr)->List (jr)->Int->Int->Int->Option (Int)
 | 0,_,_,_,_,_,_,_,_,_,_,_,_,_,_,_,_,_=>none
 | k+1,x2,x3,x4,x11,x24,x25,x26,adx,ady,ae9,afa,afb,adz,aag,ah3,ah4,adA=>if x26 < x25 then (if 0<=x26 then (if x26 < (x24.length:Int) then (if 0<=x2 then (if x2 < (adz.length:Int) then ((bT.f k adA (wrap64 (((iQ adz x2).f0)+x26)) adx).bind fun aeS=>(if 0<=x3 then (if x3 < (aag.length:Int) then (dK.l1 k x2 x3 x4 x11 (rd x24 x26) aeS 0 x24 x25 x26 ((iQ aag x3).f1) (((iQ aag x3).f1).length:Int) 0 adx ady ae9 afa afb adz aag ah3 ah4 adA) else (none)) else (none))) else (none)) else (none)) else (none)) else (none)) else (some x11)
def dK.l1:Nat->Int->Int->Int->Int->Int->Int->Int->List Int->Int->Int->List Int->Int->Int->Int->Int->Int->Int->List Int->List (jr)->List (jr)->Int->Int->Int->Option (Int)
 | 0,_,_,_,_,_,_,_,_,_,_,_,_,_,_,_,_,_,_,_,_,_,_,_=>none
 | k+1,x2,x3,x4,x11,x13,x14,x15,x24,x25,x26,x49,x50,x51,adx,ady,ae9,afa,afb,adz,aag,ah3,ah4,adA=>if x51 < x50 then (if 0<=x51 then (if x51 < (x49.length:Int) then (if 0<=x3 then (if x3 < (aag.length:Int) then ((bT.f k adA (wrap64 (((iQ aag x3).f0)+x51)) ady).bind fun ahp=>((nS.f adx ady ae9 afa afb x14 ahp x4).bind fun alu=>(dK.l1 k x2 x3 x4 x11 x13 x14 (wrap64 (x15+(wrap64 ((rd x49 x51)*(wrap64 (alu)))))) x24 x25 x26 x49 x50 (wrap64 (x51+1)) adx ady ae9 afa afb adz aag ah3 ah4 adA))) else (none)) else (none)) else (none)) else (none)) else (dK.l0 k x2 x3 x4 (wrap64 (x11+(wrap64 (x13*x15)))) x24 x25 (wrap64 (x26+1)) adx ady ae9 afa afb adz aag ah3 ah4 adA)
end
def dK.f (k:Nat) (aU bf bY dB:Int) (bZ:List Int) (gQ:List (jr)) (iC:List (jr)) (kY kZ nK a2 a3 a4:Int):Option (Int):=if 0<=a2 then (if a2 < (gQ.length:Int) then (dK.l0 k a2 a3 a4 0 ((iQ gQ a2).f1) (((iQ gQ a2).f1).length:Int) 0 aU bf bY dB bZ gQ iC kY kZ nK) else (none)) else (none)
theorem dK.calls (k:Nat) (aU bf bY dB:Int) (iF:Option Addr) (iG:Nat) (bZ:List Int) (aaT:Option Addr) (zH:Nat) (gQ:List (jr)) (aav:Option Addr) (zI:Nat) (iC:List (jr)) (kY kZ nK a2 a3 a4 r:Int) (w:World) (oG:Kd.C (Kd.int .u16) w iF bZ.length bZ) (oH:bZ.length<=iG) (akq:Kd.C tV w aaT gQ.length gQ) (akr:gQ.length<=zH) (aks:Kd.C tV w aav iC.length iC) (akt:iC.length<=zI) (h:dK.f k aU bf bY dB bZ gQ iC kY kZ nK a2 a3 a4=some r) :
  Calls Tryz.prog 40 #[.agg #[.int .i64 aU,.int .i64 bf,.int .i64 bY,.int .i64 dB,.slice iF bZ.length iG],.agg #[.slice aaT gQ.length zH,.slice aav iC.length zI,.int .i64 kY,.int .i64 kZ,.int .i64 nK],.int .i64 a2,.int .i64 a3,.int .i64 a4] w fun e w'=>e = .returned (.int .i64 r)/\Below w.heap.size w w':=by
 have ar2:=Tryz.underlying88;have aDz:=Tryz.underlying41;have um:=aj.mk oG;have uK:=aj.mk oH;clear oG oH;have ah5:=aj.mk akq;have axl:=aj.mk akr;clear akq akr;have afO:=aj.mk aks;have axn:=aj.mk akt;clear aks akt;have HB:=aj.mk (Below.refl w.heap.size w);have H:=h;clear h;unfold dK.f at H;by_cases c6:0<=a2
 ·rw [if_pos c6] at H;have gI:=decide_eq_true c6;clear c6;by_cases c7:a2 < (gQ.length:Int)
  ·rw [if_pos c7] at H;have jw:=decide_eq_true c7;clear c7;have H':=aj.mk H;clear H;go_enter Tryz.func40,Tryz.ntmps40;go_wp2_with (first|((with_reducible refine aZ (N:=5) rfl ?_);refine aX zR (N:=5) zR (cs := #[.int .i64 aU,.int .i64 bf,.int .i64 bY,.int .i64 dB,.slice iF bZ.length iG]) (t:=88) zG ?_;intro anv hg w8 hbox hb;obtain ⟨HB,mg,axo,axp⟩:=zA4 (ak zB hb) hbox (zg hg zB) (zg hg zB);clear hb hbox hg)|((with_reducible refine aZ (N:=6) rfl ?_);refine aX zR (N:=6) zR (cs := #[.slice aaT gQ.length zH,.slice aav iC.length zI,.int .i64 kY,.int .i64 kZ,.int .i64 nK]) (t:=41) zG ?_;intro anw hg w9 hbox hb;obtain ⟨mg,HB,pY,axq,axr,zJ,zQ⟩:=zA7 (aA (zK mg) hb) (ak zB hb) hbox (zg hg zB) (zg hg zB) (zl hg (zK mg)) (zr hg (zK mg));clear hb hbox hg;have ajP:=zQ.out;have ajQ:=zJ.out;obtain ⟨_,_,_,_,_⟩:=zC5 pY.out;obtain ⟨_,_,_,_,_⟩:=zF5 pY.out;have ad1:0<=(a2:Int):=of_decide_eq_true (by first|(with_reducible assumption)|assumption);have ad3:a2 < (gQ.length:Int):=of_decide_eq_true (by first|(with_reducible assumption)|assumption);obtain ⟨aku,atl,atm,aoN,xq,xu,abd,abe⟩:=zZ ah5.out a2 ad1 ad3;cases aoN;replace xq:=(HB.out.cell (World.block_lt_of_cell? w _ xq)).trans xq;replace xu:=(HB.out.cell (World.block_lt_of_cell? w _ xu)).trans xu;have alv:=aj.mk abe;have aqn:=aj.mk abd;clear abe abd;replace ad1:=eq_true ad1;replace ad3:=eq_true ad3));repeat (go_quiet (first|((with_reducible refine aZ (N:=5) rfl ?_);refine aX zR (N:=5) zR (cs := #[.int .i64 aU,.int .i64 bf,.int .i64 bY,.int .i64 dB,.slice iF bZ.length iG]) (t:=88) zG ?_;intro anv hg w8 hbox hb;obtain ⟨HB,mg,axo,axp⟩:=zA4 (ak zB hb) hbox (zg hg zB) (zg hg zB);clear hb hbox hg)|((with_reducible refine aZ (N:=6) rfl ?_);refine aX zR (N:=6) zR (cs := #[.slice aaT gQ.length zH,.slice aav iC.length zI,.int .i64 kY,.int .i64 kZ,.int .i64 nK]) (t:=41) zG ?_;intro anw hg w9 hbox hb;obtain ⟨mg,HB,pY,axq,axr,zJ,zQ⟩:=zA7 (aA (zK mg) hb) (ak zB hb) hbox (zg hg zB) (zg hg zB) (zl hg (zK mg)) (zr hg (zK mg));clear hb hbox hg;have ajP:=zQ.out;have ajQ:=zJ.out;obtain ⟨_,_,_,_,_⟩:=zC5 pY.out;obtain ⟨_,_,_,_,_⟩:=zF5 pY.out;have ad1:0<=(a2:Int):=of_decide_eq_true (by first|(with_reducible assumption)|assumption);have ad3:a2 < (gQ.length:Int):=of_decide_eq_true (by first|(with_reducible assumption)|assumption);obtain ⟨aku,atl,atm,aoN,xq,xu,abd,abe⟩:=zZ ah5.out a2 ad1 ad3;cases aoN;replace xq:=(HB.out.cell (World.block_lt_of_cell? w _ xq)).trans xq;replace xu:=(HB.out.cell (World.block_lt_of_cell? w _ xu)).trans xu;have alv:=aj.mk abe;have aqn:=aj.mk abd;clear abe abd;replace ad1:=eq_true ad1;replace ad3:=eq_true ad3));try go_wp2_with (first|((with_reducible refine aZ (N:=5) rfl ?_);refine aX zR (N:=5) zR (cs := #[.int .i64 aU,.int .i64 bf,.int .i64 bY,.int .i64 dB,.slice iF bZ.length iG]) (t:=88) zG ?_;intro anv hg w8 hbox hb;obtain ⟨HB,mg,axo,axp⟩:=zA4 (ak zB hb) hbox (zg hg zB) (zg hg zB);clear hb hbox hg)|((with_reducible refine aZ (N:=6) rfl ?_);refine aX zR (N:=6) zR (cs := #[.slice aaT gQ.length zH,.slice aav iC.length zI,.int .i64 kY,.int .i64 kZ,.int .i64 nK]) (t:=41) zG ?_;intro anw hg w9 hbox hb;obtain ⟨mg,HB,pY,axq,axr,zJ,zQ⟩:=zA7 (aA (zK mg) hb) (ak zB hb) hbox (zg hg zB) (zg hg zB) (zl hg (zK mg)) (zr hg (zK mg));clear hb hbox hg;have ajP:=zQ.out;have ajQ:=zJ.out;obtain ⟨_,_,_,_,_⟩:=zC5 pY.out;obtain ⟨_,_,_,_,_⟩:=zF5 pY.out;have ad1:0<=(a2:Int):=of_decide_eq_true (by first|(with_reducible assumption)|assumption);have ad3:a2 < (gQ.length:Int):=of_decide_eq_true (by first|(with_reducible assumption)|assumption);obtain ⟨aku,atl,atm,aoN,xq,xu,abd,abe⟩:=zZ ah5.out a2 ad1 ad3;cases aoN;replace xq:=(HB.out.cell (World.block_lt_of_cell? w _ xq)).trans xq;replace xu:=(HB.out.cell (World.block_lt_of_cell? w _ xu)).trans xu;have alv:=aj.mk abe;have aqn:=aj.mk abd;clear abe abd;replace ad1:=eq_true ad1;replace ad3:=eq_true ad3)))
   go_loopg [11,26] k (fun kq v11 v26 w'=>∃ (akv:Int) (vG:Int),v11 = .int .i64 akv/\v26 = .int .i64 vG/\aj (dK.l0 kq a2 a3 a4 akv ((iQ gQ a2).f1) (((iQ gQ a2).f1).length:Int) vG aU bf bY dB bZ gQ iC kY kZ nK=some r)/\aj (kq<=k)/\aj (w'.heap[anv]? = some (.cells #[.int .i64 aU,.int .i64 bf,.int .i64 bY,.int .i64 dB,(.slice iF bZ.length iG)] 88 (0,0)))/\aj (w'.heap[anw]? = some (.cells #[(.slice (some aku) gQ.length zH),(.slice aav iC.length zI),.int .i64 kY,.int .i64 kZ,.int .i64 nK] 41 (0,0)))/\aj (Below w.heap.size w w'))
   case atStart=>exact ⟨(0),(0),zT,zT,H',⟨Nat.le_refl _⟩,⟨zK mg⟩,⟨zK pY⟩,⟨zB⟩⟩
   case round =>
    clear H';try clear hx5
    obtain ⟨akv,vG,rfl,rfl,HA,HK1,mg,pY,HB⟩:=hrel;cases gk with
    | zero=>exact absurd HA.out (by simp [dK.l0])
    | succ k1 =>
     have H:=HA.out;clear HA;simp only [dK.l0] at H;by_cases c12:vG < (((iQ gQ a2).f1).length:Int)
     ·rw [if_pos c12] at H;have yU:=decide_eq_true c12;clear c12;by_cases c13:0<=vG
      ·rw [if_pos c13] at H;have aaf:=decide_eq_true c13;clear c13;by_cases c14:vG < (((iQ gQ a2).f1).length:Int)
       ·rw [if_pos c14] at H;have acu:=decide_eq_true c14;clear c14;by_cases c15:0<=a2
        ·rw [if_pos c15] at H;have axk:=decide_eq_true c15;clear c15;by_cases c16:a2 < (gQ.length:Int)
         ·rw [if_pos c16] at H;have ar0:=decide_eq_true c16;clear c16;replace H:=zO H;obtain ⟨aeS,A17,H⟩:=H;try dsimp only at H
          by_cases c18:0<=a3
          ·rw [if_pos c18] at H;have aCb:=decide_eq_true c18;clear c18;by_cases c19:a3 < (iC.length:Int)
           ·rw [if_pos c19] at H;have axf:=decide_eq_true c19;clear c19;have H':=aj.mk H;clear H;have avq:0<=(vG:Int):=of_decide_eq_true (by first|(with_reducible assumption)|assumption);have avr:vG < (((iQ gQ a2).f1).length:Int):=of_decide_eq_true (by first|(with_reducible assumption)|assumption);obtain ⟨aHZ,aDA,alx⟩:=Kd.iZ alv.out vG avq avr;cases aDA;replace alx:=(HB.out.cell (World.block_lt_of_cell? w _ alx)).trans alx;replace avq:=eq_true avq;replace avr:=eq_true avr;have arC:=zQ.out;have arD:=zJ.out;obtain ⟨_,_,_,_,_⟩:=zC5 pY.out;obtain ⟨_,_,_,_,_⟩:=zF5 pY.out;have avs:0<=(a2:Int):=of_decide_eq_true (by first|(with_reducible assumption)|assumption);have avt:a2 < (gQ.length:Int):=of_decide_eq_true (by first|(with_reducible assumption)|assumption);obtain ⟨aCc,aFM,aFN,aDB,aly,alz,aqo,aqp⟩:=zZ ah5.out a2 avs avt;obtain rfl:aku=aCc:=(by injection aDB);replace aly:=(HB.out.cell (World.block_lt_of_cell? w _ aly)).trans aly;replace alz:=(HB.out.cell (World.block_lt_of_cell? w _ alz)).trans alz;have aFp:=aj.mk aqp;have aFq:=aj.mk aqo;clear aqp aqo;replace avs:=eq_true avs;replace avt:=eq_true avt;obtain ⟨_,_,_,_,_⟩:=zC5 mg.out;obtain ⟨_,_,_,_,_⟩:=zF5 mg.out;go_wp2_with (first|(go_at_call 78;(with_reducible refine (bT.calls k1 nK (wrap64 (((iQ gQ a2).f0)+vG)) aU aeS _ A17.out).mono ?_);rintro e w' ⟨rfl,⟨nd,rfl⟩⟩;(try exact ⟨rfl,_,zN⟩);have aaU:0<=(a3:Int):=of_decide_eq_true (by first|(with_reducible assumption)|assumption);have aaV:a3 < (iC.length:Int):=of_decide_eq_true (by first|(with_reducible assumption)|assumption);obtain ⟨akw,aoO,aoP,ai5,rC,rD,xw,xA⟩:=zZ afO.out a3 aaU aaV;cases ai5;replace rC:=(HB.out.cell (World.block_lt_of_cell? w _ rC)).trans rC;replace rD:=(HB.out.cell (World.block_lt_of_cell? w _ rD)).trans rD;have ah6:=aj.mk xA;have alA:=aj.mk xw;clear xA xw;replace aaU:=eq_true aaU;replace aaV:=eq_true aaV));first|(go_quiet (first|(go_at_call 78;(with_reducible refine (bT.calls k1 nK (wrap64 (((iQ gQ a2).f0)+vG)) aU aeS _ A17.out).mono ?_);rintro e w' ⟨rfl,⟨nd,rfl⟩⟩;first|exact ⟨rfl,_,World.drewN_drewN _ _ _⟩|exact ⟨rfl,_,Eq.trans (World.drewN_drewN _ _ _) (congrArg (World.drewN _) (Nat.add_assoc _ _ _))⟩));have aaU:0<=(a3:Int):=of_decide_eq_true (by first|(with_reducible assumption)|assumption);have aaV:a3 < (iC.length:Int):=of_decide_eq_true (by first|(with_reducible assumption)|assumption);obtain ⟨akw,aoO,aoP,ai5,rC,rD,xw,xA⟩:=zZ afO.out a3 aaU aaV;cases ai5;replace rC:=(HB.out.cell (World.block_lt_of_cell? w _ rC)).trans rC;replace rD:=(HB.out.cell (World.block_lt_of_cell? w _ rD)).trans rD;have ah6:=aj.mk xA;have alA:=aj.mk xw;clear xA xw;replace aaU:=eq_true aaU;replace aaV:=eq_true aaV;go_wp2)|(repeat (go_quiet (first|(go_at_call 78;(with_reducible refine (bT.calls k1 nK (wrap64 (((iQ gQ a2).f0)+vG)) aU aeS _ A17.out).mono ?_);rintro e w' ⟨rfl,⟨nd,rfl⟩⟩;(try exact ⟨rfl,_,zN⟩);have aaU:0<=(a3:Int):=of_decide_eq_true (by first|(with_reducible assumption)|assumption);have aaV:a3 < (iC.length:Int):=of_decide_eq_true (by first|(with_reducible assumption)|assumption);obtain ⟨akw,aoO,aoP,ai5,rC,rD,xw,xA⟩:=zZ afO.out a3 aaU aaV;cases ai5;replace rC:=(HB.out.cell (World.block_lt_of_cell? w _ rC)).trans rC;replace rD:=(HB.out.cell (World.block_lt_of_cell? w _ rD)).trans rD;have ah6:=aj.mk xA;have alA:=aj.mk xw;clear xA xw;replace aaU:=eq_true aaU;replace aaV:=eq_true aaV));try go_wp2_with (first|(go_at_call 78;(with_reducible refine (bT.calls k1 nK (wrap64 (((iQ gQ a2).f0)+vG)) aU aeS _ A17.out).mono ?_);rintro e w' ⟨rfl,⟨nd,rfl⟩⟩;(try exact ⟨rfl,_,zN⟩);have aaU:0<=(a3:Int):=of_decide_eq_true (by first|(with_reducible assumption)|assumption);have aaV:a3 < (iC.length:Int):=of_decide_eq_true (by first|(with_reducible assumption)|assumption);obtain ⟨akw,aoO,aoP,ai5,rC,rD,xw,xA⟩:=zZ afO.out a3 aaU aaV;cases ai5;replace rC:=(HB.out.cell (World.block_lt_of_cell? w _ rC)).trans rC;replace rD:=(HB.out.cell (World.block_lt_of_cell? w _ rD)).trans rD;have ah6:=aj.mk xA;have alA:=aj.mk xw;clear xA xw;replace aaU:=eq_true aaU;replace aaV:=eq_true aaV))))
            try simp only [Act.put,List.setIfInBounds_toArray,List.set_cons_succ,List.set_cons_zero]
            go_loopg [15,51] k1 (fun kq v15 v51 w'=>∃ (acy:Int) (yV:Int),v15 = .int .i64 acy/\v51 = .int .i64 yV/\aj (dK.l1 kq a2 a3 a4 akv (rd ((iQ gQ a2).f1) vG) aeS acy ((iQ gQ a2).f1) (((iQ gQ a2).f1).length:Int) vG ((iQ iC a3).f1) (((iQ iC a3).f1).length:Int) yV aU bf bY dB bZ gQ iC kY kZ nK=some r)/\aj (kq<=k1)/\aj (w'.heap[anv]? = some (.cells #[.int .i64 aU,.int .i64 bf,.int .i64 bY,.int .i64 dB,(.slice iF bZ.length iG)] 88 (0,0)))/\aj (w'.heap[anw]? = some (.cells #[(.slice (some aku) gQ.length zH),(.slice (some akw) iC.length zI),.int .i64 kY,.int .i64 kZ,.int .i64 nK] 41 (0,0)))/\aj (Below w.heap.size w w'))
            case atStart=>exact ⟨(0),(0),zT,zT,H',⟨Nat.le_refl _⟩,⟨zK mg⟩,⟨zK pY⟩,⟨zB⟩⟩
            case round =>
             clear H';try clear hx5
             obtain ⟨acy,yV,rfl,rfl,HA,HK2,mg,pY,HB⟩:=hrel;cases gk with
             | zero=>exact absurd HA.out (by simp [dK.l1])
             | succ k2 =>
              have H:=HA.out;clear HA;simp only [dK.l1] at H;by_cases c23:yV < (((iQ iC a3).f1).length:Int)
              ·rw [if_pos c23] at H;have akb:=decide_eq_true c23;clear c23;by_cases c24:0<=yV
               ·rw [if_pos c24] at H;have axh:=decide_eq_true c24;clear c24;by_cases c25:yV < (((iQ iC a3).f1).length:Int)
                ·rw [if_pos c25] at H;have aBV:=decide_eq_true c25;clear c25;by_cases c26:0<=a3
                 ·rw [if_pos c26] at H;have afM:=decide_eq_true c26;clear c26;by_cases c27:a3 < (iC.length:Int)
                  ·rw [if_pos c27] at H;have arP:=decide_eq_true c27;clear c27;replace H:=zO H;obtain ⟨ahp,A28,H⟩:=H;try dsimp only at H
                   replace H:=zO H;obtain ⟨alu,A29,H⟩:=H;try dsimp only at H
                   have H':=aj.mk H;clear H;have avu:0<=(yV:Int):=of_decide_eq_true (by first|(with_reducible assumption)|assumption);have avv:yV < (((iQ iC a3).f1).length:Int):=of_decide_eq_true (by first|(with_reducible assumption)|assumption);obtain ⟨aH0,aDC,alB⟩:=Kd.iZ ah6.out yV avu avv;cases aDC;replace alB:=(HB.out.cell (World.block_lt_of_cell? w _ alB)).trans alB;replace avu:=eq_true avu;replace avv:=eq_true avv;have am8:=zQ.out;have am9:=zJ.out;obtain ⟨_,_,_,_,_⟩:=zC5 pY.out;obtain ⟨_,_,_,_,_⟩:=zF5 pY.out;have avw:0<=(a3:Int):=of_decide_eq_true (by first|(with_reducible assumption)|assumption);have avx:a3 < (iC.length:Int):=of_decide_eq_true (by first|(with_reducible assumption)|assumption);obtain ⟨aCd,aFO,aFP,aDD,alC,alD,aqr,aqs⟩:=zZ afO.out a3 avw avx;obtain rfl:akw=aCd:=(by injection aDD);replace alC:=(HB.out.cell (World.block_lt_of_cell? w _ alC)).trans alC;replace alD:=(HB.out.cell (World.block_lt_of_cell? w _ alD)).trans alD;have aFr:=aj.mk aqs;have aFs:=aj.mk aqr;clear aqs aqr;replace avw:=eq_true avw;replace avx:=eq_true avx;obtain ⟨_,_,_,_,_⟩:=zC5 mg.out;obtain ⟨_,_,_,_,_⟩:=zF5 mg.out;go_wp2_with (first|(go_at_call 78;(with_reducible refine (bT.calls k2 nK (wrap64 (((iQ iC a3).f0)+yV)) bf ahp _ A28.out).mono ?_);rintro e w' ⟨rfl,⟨nd,rfl⟩⟩;(try exact ⟨rfl,_,zN⟩))|(go_at_call 79;(with_reducible refine (nS.calls aU bf bY dB _ _ bZ aeS ahp a4 alu _ ?iD ?iE A29.out).mono ?_);(case iD=>repeat (first|exact (Kd.bD um.out zB)|(with_reducible refine Kd.iU ?_ _)|(with_reducible refine Kd.jh ?_ _)|(with_reducible refine Kd.jI ?_)));(case iE=>exact uK.out);rintro e w33 ⟨rfl,hb⟩;obtain ⟨mg,pY,HB⟩:=zA3 (aA (zK mg) hb) (aA (zK pY) hb) (ak zB hb);(try clear hb)));repeat (go_quiet (first|(go_at_call 78;(with_reducible refine (bT.calls k2 nK (wrap64 (((iQ iC a3).f0)+yV)) bf ahp _ A28.out).mono ?_);rintro e w' ⟨rfl,⟨nd,rfl⟩⟩;(try exact ⟨rfl,_,zN⟩))|(go_at_call 79;(with_reducible refine (nS.calls aU bf bY dB _ _ bZ aeS ahp a4 alu _ ?iD ?iE A29.out).mono ?_);(case iD=>repeat (first|exact (Kd.bD um.out zB)|(with_reducible refine Kd.iU ?_ _)|(with_reducible refine Kd.jh ?_ _)|(with_reducible refine Kd.jI ?_)));(case iE=>exact uK.out);rintro e w33 ⟨rfl,hb⟩;obtain ⟨mg,pY,HB⟩:=zA3 (aA (zK mg) hb) (aA (zK pY) hb) (ak zB hb);(try clear hb)));try go_wp2_with (first|(go_at_call 78;(with_reducible refine (bT.calls k2 nK (wrap64 (((iQ iC a3).f0)+yV)) bf ahp _ A28.out).mono ?_);rintro e w' ⟨rfl,⟨nd,rfl⟩⟩;(try exact ⟨rfl,_,zN⟩))|(go_at_call 79;(with_reducible refine (nS.calls aU bf bY dB _ _ bZ aeS ahp a4 alu _ ?iD ?iE A29.out).mono ?_);(case iD=>repeat (first|exact (Kd.bD um.out zB)|(with_reducible refine Kd.iU ?_ _)|(with_reducible refine Kd.jh ?_ _)|(with_reducible refine Kd.jI ?_)));(case iE=>exact uK.out);rintro e w33 ⟨rfl,hb⟩;obtain ⟨mg,pY,HB⟩:=zA3 (aA (zK mg) hb) (aA (zK pY) hb) (ak zB hb);(try clear hb))))
                   go_roundg k2
                   case measure=>have:=HK1.out;have:=HK2.out;omega
                   case rel=>exact ⟨(wrap64 (acy+(wrap64 ((rd ((iQ iC a3).f1) yV)*(wrap64 (alu)))))),(wrap64 (yV+1)),zT,zT,H',⟨by have:=HK1.out;have:=HK2.out;omega⟩,⟨zK mg⟩,⟨zK pY⟩,⟨zB⟩⟩
                  ·rw [if_neg c27] at H;exact absurd H (by simp)
                 ·rw [if_neg c26] at H;exact absurd H (by simp)
                ·rw [if_neg c25] at H;exact absurd H (by simp)
               ·rw [if_neg c24] at H;exact absurd H (by simp)
              ·rw [if_neg c23] at H;have akb:=decide_eq_false c23;clear c23;have H':=aj.mk H;clear H;go_wp2;repeat (go_quiet (fail);try go_wp2)
               go_roundg k2
               case measure=>have:=HK1.out;have:=HK2.out;omega
               case rel=>exact ⟨(wrap64 (akv+(wrap64 ((rd ((iQ gQ a2).f1) vG)*acy)))),(wrap64 (vG+1)),zT,zT,H',⟨by have:=HK1.out;have:=HK2.out;omega⟩,⟨zK mg⟩,⟨zK pY⟩,⟨zB⟩⟩
           ·rw [if_neg c19] at H;exact absurd H (by simp)
          ·rw [if_neg c18] at H;exact absurd H (by simp)
         ·rw [if_neg c16] at H;exact absurd H (by simp)
        ·rw [if_neg c15] at H;exact absurd H (by simp)
       ·rw [if_neg c14] at H;exact absurd H (by simp)
      ·rw [if_neg c13] at H;exact absurd H (by simp)
     ·rw [if_neg c12] at H;have yU:=decide_eq_false c12;clear c12;obtain rfl:=Option.some.inj H;go_wp2;repeat (go_quiet (fail);try go_wp2)
      go_ret;exact ⟨zS,zB⟩
  ·rw [if_neg c7] at H;exact absurd H (by simp)
 ·rw [if_neg c6] at H;exact absurd H (by simp)
mutual
def dU.j0:Nat->Int->Int->Option (Int)
 | 0,_,_=>none
 | k+1,x1,x5=>if x1 > 65535 then (dU.j1 k 65535 x5) else (dU.j1 k x1 x5)
def dU.j1:Nat->Int->Int->Option (Int)
 | 0,_,_=>none
 | k+1,x1,x5=>if x5 < 0 then (some 0) else (if x5 > x1 then (some (IntKind.u16.wrap (x1))) else (some (IntKind.u16.wrap (x5))))
end
def dU.f (k:Nat) (a0 a1:Int):Option (Int):=(aQ.f k a0 28).bind fun ahq=>(if a1 < 0 then (dU.j0 k 0 ahq) else (dU.j0 k a1 ahq))
theorem dU.calls (k:Nat) (a0 a1 r:Int) (w:World) (h:dU.f k a0 a1=some r) :
  Calls Tryz.prog 75 #[.int .i64 a0,.int .i64 a1] w fun e w'=>e = .returned (.int .u16 r)/\Below w.heap.size w w':=by
 have HB:=aj.mk (Below.refl w.heap.size w);have H:=h;clear h;unfold dU.f at H;replace H:=zO H;obtain ⟨ahq,A3,H⟩:=H;try dsimp only at H
 have HC4:=aj.mk H;clear H;go_enter Tryz.func75,Tryz.ntmps75;go_upto_if 9 with (first|((with_reducible refine ay (f:=101) rfl ?_);refine aH (some 7) rfl rfl Tryz.func101 (by kernel_rfl) rfl #[.int .i64 a0,.int .i64 28] rfl zL ?_;(with_reducible refine (aQ.calls k a0 28 ahq _ A3.out).mono ?_);rintro e w5 ⟨rfl,hb⟩;refine ⟨_,rfl,?_⟩;replace HB:=aj.mk (ak zB hb);(try clear hb)))
 (try simp only [Act.put,List.setIfInBounds_toArray,List.set_cons_zero,List.set_cons_succ])
 go_cut [1] (fun v1 wc=>∃ (kq:Nat) (aoQ:Int),v1 = .int .i64 aoQ/\aj (dU.j0 kq aoQ ahq=some r)/\aj (kq<=k)/\aj (Below w.heap.size w wc))
 case first =>
  have H:=HC4.out;clear HC4;by_cases c6:a1 < 0
  ·rw [if_pos c6] at H;have gI:=decide_eq_true c6;clear c6
   (first|rw [gI]|(simp only [bP,bU];rw [gI])|skip)
   have H':=aj.mk H;clear H;go_wp2;go_meet
   case rel=>exact ⟨_,(0),zT,H',⟨by first|omega|exact Nat.le_refl _⟩,⟨zB⟩⟩
  ·rw [if_neg c6] at H;have gI:=decide_eq_false c6;clear c6
   (first|rw [gI]|(simp only [bP,bU];rw [gI])|skip)
   have H':=aj.mk H;clear H;go_wp2;go_meet
   case rel=>exact ⟨_,(a1),zT,H',⟨by first|omega|exact Nat.le_refl _⟩,⟨zB⟩⟩
 case rest =>
  clear HC4;obtain ⟨kq,aoQ,rfl,HA,HJ3,HB⟩:=hcut;cases kq with
  | zero=>exact absurd HA.out (by simp [dU.j0])
  | succ kj3 =>
   have H:=HA.out;clear HA;simp only [dU.j0] at H;have HC7:=aj.mk H;clear H;go_upto_if 11 with (fail)
   go_cut [1] (fun v1 wc=>∃ (kq:Nat) (ar4:Int),v1 = .int .i64 ar4/\aj (dU.j1 kq ar4 ahq=some r)/\aj (kq<=kj3)/\aj (Below w.heap.size w wc))
   case first =>
    have H:=HC7.out;clear HC7;by_cases c8:aoQ > 65535
    ·rw [if_pos c8] at H;have qj:=decide_eq_true c8;clear c8
     (first|rw [qj]|(simp only [bP,bU];rw [qj])|skip)
     have H':=aj.mk H;clear H;go_wp2;go_meet
     case rel=>exact ⟨_,(65535),zT,H',⟨by have:=HJ3.out;first|omega|exact Nat.le_refl _⟩,⟨zB⟩⟩
    ·rw [if_neg c8] at H;have qj:=decide_eq_false c8;clear c8
     (first|rw [qj]|(simp only [bP,bU];rw [qj])|skip)
     have H':=aj.mk H;clear H;go_wp2;go_meet
     case rel=>exact ⟨_,(aoQ),zT,H',⟨by have:=HJ3.out;first|omega|exact Nat.le_refl _⟩,⟨zB⟩⟩
   case rest =>
    clear HC7;obtain ⟨kq,ar4,rfl,HA,HJ6,HB⟩:=hcut;cases kq with
    | zero=>exact absurd HA.out (by simp [dU.j1])
    | succ kj6 =>
     have H:=HA.out;clear HA;simp only [dU.j1] at H;by_cases c9:ahq < 0
     ·rw [if_pos c9] at H;have o8:=decide_eq_true c9;clear c9;obtain rfl:=Option.some.inj H;go_wp2;go_ret;exact ⟨zS,zB⟩
     ·rw [if_neg c9] at H;have o8:=decide_eq_false c9;clear c9;by_cases c10:ahq > ar4
      ·rw [if_pos c10] at H;have l9:=decide_eq_true c10;clear c10;obtain rfl:=Option.some.inj H;go_wp2;go_ret;exact ⟨zS,zB⟩
      ·rw [if_neg c10] at H;have l9:=decide_eq_false c10;clear c10;obtain rfl:=Option.some.inj H;go_wp2;go_ret;exact ⟨zS,zB⟩
mutual
def bn.l0:Nat->Int->Int->Int->Int->Int->Int->List Int->List (jr)->List (jr)->Int->Int->Int->Int->Int->Int->Int->List Int->Option (Int × Int × Int × Int × List Int)
 | 0,_,_,_,_,_,_,_,_,_,_,_,_,_,_,_,_,_=>none
 | k+1,x22,x23,abf,abg,aah,aai,abh,aaj,abj,abk,abl,abm,abn,abo,abp,abq,aak=>if x23 < x22 then (bn.l1 k x23 x22 x23 (aaj.length:Int) 0 abf abg aah aai abh aaj abj abk abl abm abn abo abp abq aak) else (some (abn,abo,abp,abq,aak))
def bn.l1:Nat->Int->Int->Int->Int->Int->Int->Int->Int->Int->List Int->List (jr)->List (jr)->Int->Int->Int->Int->Int->Int->Int->List Int->Option (Int × Int × Int × Int × List Int)
 | 0,_,_,_,_,_,_,_,_,_,_,_,_,_,_,_,_,_,_,_,_=>none
 | k+1,x6,x22,x23,x28,x29,abf,abg,aah,aai,abh,aaj,abj,abk,abl,abm,abn,abo,abp,abq,aak=>if x29 < x28 then (bn.l2 k x6 x29 x22 x23 x28 x29 aah 0 abf abg aah aai abh aaj abj abk abl abm abn abo abp abq aak) else (bn.l0 k x22 (wrap64 (x23+1)) abf abg aah aai abh aaj abj abk abl abm abn abo abp abq aak)
def bn.l2:Nat->Int->Int->Int->Int->Int->Int->Int->Int->Int->Int->Int->Int->List Int->List (jr)->List (jr)->Int->Int->Int->Int->Int->Int->Int->List Int->Option (Int × Int × Int × Int × List Int)
 | 0,_,_,_,_,_,_,_,_,_,_,_,_,_,_,_,_,_,_,_,_,_,_,_=>none
 | k+1,x6,x7,x22,x23,x28,x29,x33,x34,abf,abg,aah,aai,abh,aaj,abj,abk,abl,abm,abn,abo,abp,abq,aak=>if x34 < x33 then ((dK.f k abf abg aah aai abh aaj abj abk abl abm x7 x6 x34).bind fun aoR=>((dU.f k aoR aai).bind fun alE=>(if aak.length < 70368744177664 then (bn.l2 k x6 x7 x22 x23 x28 x29 x33 (wrap64 (x34+1)) abf abg aah aai abh aaj abj abk abl abm abn abo abp abq (aak ++ [alE])) else (none)))) else (bn.l1 k x6 x22 x23 x28 (wrap64 (x29+1)) abf abg aah aai abh aaj abj abk abl abm abn abo abp abq aak)
end
def bn.f (k:Nat) (aU bf bY dB:Int) (bZ:List Int) (gQ:List (jr)) (iC:List (jr)) (kY kZ nK:Int):Option (Int × Int × Int × Int × List Int):=bn.l0 k (iC.length:Int) 0 aU bf bY dB bZ gQ iC kY kZ nK (gQ.length:Int) (iC.length:Int) bY dB ([]:List Int)
def bn.T11:Bool × List (List Nat × List Nat):=(true,[([],[]),([0],[0]),([],[]),([],[]),([],[]),([],[]),([],[]),([2,3,4,5,6],[2,3,4,5,6]),([],[]),([8],[8]),([7,9,7],[7,9]),([10],[10]),([1,11,10],[1,11]),([0,1,2,3,4,5,6,7,8,9,10,11,12],[]),([13,12,12,0,1,2,3,4,5,6,7,8,9,10,11,12],[12,13])])
def bn.B11:List Nat:=[0,1,0,0,0,0,0,124,0,256,1020,2044,4095,8191,16383]
theorem bn.aCe:uz .any (opsOf Tryz.f37 11)=bn.T11:=by kernel_rfl
theorem bn.azA:adt bn.T11.2 bn.B11=true:=by kernel_rfl
theorem bn.calls (k:Nat) (aU bf bY dB:Int) (iF:Option Addr) (iG:Nat) (bZ:List Int) (aaT:Option Addr) (zH:Nat) (gQ:List (jr)) (aav:Option Addr) (zI:Nat) (iC:List (jr)) (kY kZ nK r1 r2 r3 r4:Int) (r5:List Int) (w:World) (oG:Kd.C (Kd.int .u16) w iF bZ.length bZ) (oH:bZ.length<=iG) (akq:Kd.C tV w aaT gQ.length gQ) (akr:gQ.length<=zH) (aks:Kd.C tV w aav iC.length iC) (akt:iC.length<=zI) (h:bn.f k aU bf bY dB bZ gQ iC kY kZ nK=some (r1,r2,r3,r4,r5)) :
  Calls Tryz.prog 37 #[.agg #[.int .i64 aU,.int .i64 bf,.int .i64 bY,.int .i64 dB,.slice iF bZ.length iG],.agg #[.slice aaT gQ.length zH,.slice aav iC.length zI,.int .i64 kY,.int .i64 kZ,.int .i64 nK]] w fun e w'=>∃ v4_:Value,e = .returned (.agg #[.int .i64 r1,.int .i64 r2,.int .i64 r3,.int .i64 r4,v4_])/\Kd.R (Kd.int .u16) 79 w' w.heap.size (fun _=>True) v4_ r5/\Below w.heap.size w w':=by
 have ar2:=Tryz.underlying88;have aDz:=Tryz.underlying41;have um:=aj.mk oG;have uK:=aj.mk oH;clear oG oH;have ah5:=aj.mk akq;have axl:=aj.mk akr;clear akq akr;have afO:=aj.mk aks;have axn:=aj.mk akt;clear aks akt;have HB:=aj.mk (Below.refl w.heap.size w);have H:=h;clear h;unfold bn.f at H;have H':=aj.mk H;clear H;go_enter Tryz.func37,Tryz.ntmps37;go_wp2_with (first|((with_reducible refine aZ (N:=2) rfl ?_);refine aX zR (N:=2) zR (cs := #[.int .i64 aU,.int .i64 bf,.int .i64 bY,.int .i64 dB,.slice iF bZ.length iG]) (t:=88) zG ?_;intro adg hg w3 hbox hb;obtain ⟨HB,iy,aH1,aH2⟩:=zA4 (ak zB hb) hbox (zg hg zB) (zg hg zB);clear hb hbox hg)|((with_reducible refine aZ (N:=3) rfl ?_);refine aX zR (N:=3) zR (cs := #[.slice aaT gQ.length zH,.slice aav iC.length zI,.int .i64 kY,.int .i64 kZ,.int .i64 nK]) (t:=41) zG ?_;intro adh hg w4 hbox hb;obtain ⟨iy,HB,iI,aH3,aH4,ahr,ahs⟩:=zA7 (aA (zK iy) hb) (ak zB hb) hbox (zg hg zB) (zg hg zB) (zl hg (zK iy)) (zr hg (zK iy));clear hb hbox hg)|((with_reducible refine aZ (N:=4) rfl ?_);refine aX zR (N:=4) zR (cs := #[.int .i64 0,.int .i64 0,.int .i64 0,.int .i64 0,.slice none 0 0]) (t:=88) zG ?_;intro acz hg w5 hbox hb;obtain ⟨iy,iI,HB,nT,aH5,aH6,aht,ahu,ahv,ahw⟩:=afn (aA (zK iy) hb) (aA (zK iI) hb) (ak zB hb) hbox (zg hg zB) (zg hg zB) (zl hg (zK iy)) (zr hg (zK iy)) (zl hg (zK iI)) (zr hg (zK iI));clear hb hbox hg;have aDg:=ahs.out;have aDh:=ahr.out;have auq:=ahv.out;have aur:=ahw.out;obtain ⟨_,_,_,_,_⟩:=zC5 iI.out;obtain ⟨_,_,_,_,_⟩:=zF5 iI.out;have aI4:=aht.out;have aI5:=ahu.out;obtain ⟨_,_,_,_,_⟩:=zC5 iy.out;obtain ⟨_,_,_,_,_⟩:=zF5 iy.out)|((with_reducible refine aZ (N:=5) rfl ?_);refine aX zR (N:=5) zR (cs := #[.int .i64 0,.int .i64 0,.int .i64 0,.int .i64 0,.slice none 0 0]) (t:=88) zG ?_;intro abL hg w11 hbox hb;obtain ⟨iy,iI,nT,HB,jd,aH7,aH8,aev,aew,aex,aey,ahx,ahy⟩:=agt (aA (zK iy) hb) (aA (zK iI) hb) (aA (zK nT) hb) (ak zB hb) hbox (zg hg zB) (zg hg zB) (zl hg (zK iy)) (zr hg (zK iy)) (zl hg (zK iI)) (zr hg (zK iI)) (zl hg (zK nT)) (zr hg (zK nT));clear hb hbox hg;have awW:=aew.out;have awX:=aev.out;have am4:=aey.out;have am5:=aex.out;have arb:=ahy.out;have ard:=ahx.out;obtain ⟨_,_,_,_,_⟩:=zC5 jd.out;obtain ⟨_,_,_,_,_⟩:=zF5 jd.out;obtain ⟨_,_,_,_,_⟩:=zC5 iI.out;obtain ⟨_,_,_,_,_⟩:=zF5 iI.out));go_loopg [23] k (fun kq v23 w'=>∃ (aal:Int) (abr:List Int) (u593004:Value),v23 = .int .i64 aal/\aj (bn.l0 kq (iC.length:Int) aal aU bf bY dB bZ gQ iC kY kZ nK (gQ.length:Int) (iC.length:Int) bY dB abr=some (r1,r2,r3,r4,r5))/\aj (kq<=k)/\aj (Kd.R (Kd.int .u16) 79 w' w.heap.size (fun _=>True) u593004 abr)/\aj (w'.heap[adg]? = some (.cells #[.int .i64 aU,.int .i64 bf,.int .i64 bY,.int .i64 dB,(.slice iF bZ.length iG)] 88 (0,0)))/\aj (w'.heap[adh]? = some (.cells #[(.slice aaT gQ.length zH),(.slice aav iC.length zI),.int .i64 kY,.int .i64 kZ,.int .i64 nK] 41 (0,0)))/\aj (w'.heap[acz]? = some (.cells #[.int .i64 0,.int .i64 0,.int .i64 0,.int .i64 0,(.slice none 0 0)] 88 (0,0)))/\aj (w'.heap[abL]? = some (.cells #[.int .i64 (gQ.length:Int),.int .i64 (iC.length:Int),.int .i64 bY,.int .i64 dB,u593004] 88 (0,0)))/\aj (Below w.heap.size w w'))
 case atStart=>exact ⟨(0),(([]:List Int)),(.slice none 0 0),zT,H',⟨Nat.le_refl _⟩,⟨by first|exact Kd.kJ _ _ _ _ _|exact Kd.qO _ _ _ _ _|exact Kd.oU _ _ _ _ _|exact Kd.qP _ _ _ _ _|exact Kd.qp _ _ _ _ _⟩,⟨zK iy⟩,⟨zK iI⟩,⟨zK nT⟩,⟨by refine zD ?_;refine bg (cs := #[.int .i64 (gQ.length:Int),.int .i64 (iC.length:Int),.int .i64 bY,.int .i64 dB,.slice none 0 0]) ?_ 4 _ rfl;refine zD ?_;refine bg (cs := #[.int .i64 (gQ.length:Int),.int .i64 (iC.length:Int),.int .i64 bY,.int .i64 0,.slice none 0 0]) ?_ 3 _ rfl;refine zD ?_;refine bg (cs := #[.int .i64 (gQ.length:Int),.int .i64 (iC.length:Int),.int .i64 0,.int .i64 0,.slice none 0 0]) ?_ 2 _ rfl;refine zD ?_;refine bg (cs := #[.int .i64 (gQ.length:Int),.int .i64 0,.int .i64 0,.int .i64 0,.slice none 0 0]) ?_ 1 _ rfl;refine zD ?_;refine bg (cs := #[.int .i64 0,.int .i64 0,.int .i64 0,.int .i64 0,.slice none 0 0]) ?_ 0 _ rfl;refine zD ?_;exact jd.out⟩,⟨zB⟩⟩
 case round =>
  clear H';obtain ⟨aal,abr,u593004,rfl,HA,HK1,kC,iy,iI,nT,jd,HB⟩:=hrel;cases gk with
  | zero=>exact absurd HA.out (by simp [bn.l0])
  | succ k1 =>
   have H:=HA.out;clear HA;simp only [bn.l0] at H;by_cases c17:aal < (iC.length:Int)
   ·rw [if_pos c17] at H;have ar1:=decide_eq_true c17;clear c17;have H':=aj.mk H;clear H;have aBA:=ahs.out;have aBB:=ahr.out;have aAG:=ahv.out;have aAH:=ahw.out;have arC:=aex.out;have arD:=aey.out;obtain ⟨_,_,_,_,_⟩:=zC5 iI.out;obtain ⟨_,_,_,_,_⟩:=zF5 iI.out;go_wp2;try simp only [Act.put,List.setIfInBounds_toArray,List.set_cons_succ,List.set_cons_zero]
    go_loopg [29] k1 (fun kq v29 w'=>∃ (jS:Int) (acI:List Int) (u593004:Value),v29 = .int .i64 jS/\aj (bn.l1 kq aal (iC.length:Int) aal (gQ.length:Int) jS aU bf bY dB bZ gQ iC kY kZ nK (gQ.length:Int) (iC.length:Int) bY dB acI=some (r1,r2,r3,r4,r5))/\aj (kq<=k1)/\aj (Kd.R (Kd.int .u16) 79 w' w.heap.size (fun _=>True) u593004 acI)/\aj (w'.heap[adg]? = some (.cells #[.int .i64 aU,.int .i64 bf,.int .i64 bY,.int .i64 dB,(.slice iF bZ.length iG)] 88 (0,0)))/\aj (w'.heap[adh]? = some (.cells #[(.slice aaT gQ.length zH),(.slice aav iC.length zI),.int .i64 kY,.int .i64 kZ,.int .i64 nK] 41 (0,0)))/\aj (w'.heap[acz]? = some (.cells #[.int .i64 0,.int .i64 0,.int .i64 0,.int .i64 0,(.slice none 0 0)] 88 (0,0)))/\aj (w'.heap[abL]? = some (.cells #[.int .i64 (gQ.length:Int),.int .i64 (iC.length:Int),.int .i64 bY,.int .i64 dB,u593004] 88 (0,0)))/\aj (Below w.heap.size w w'))
    case atStart=>exact ⟨(0),(abr),(u593004),zT,H',⟨Nat.le_refl _⟩,⟨by (with_reducible repeat (first|apply Kd.aN|apply Kd.aT|apply Kd.aV));exact kC.out⟩,⟨zK iy⟩,⟨zK iI⟩,⟨zK nT⟩,⟨zK jd⟩,⟨zB⟩⟩
    case round =>
     clear H';obtain ⟨jS,acI,u593004,rfl,HA,HK2,kC,iy,iI,nT,jd,HB⟩:=hrel;cases gk with
     | zero=>exact absurd HA.out (by simp [bn.l1])
     | succ k2 =>
      have H:=HA.out;clear HA;simp only [bn.l1] at H;by_cases c22:jS < (gQ.length:Int)
      ·rw [if_pos c22] at H;have arE:=decide_eq_true c22;clear c22;have H':=aj.mk H;clear H;have am6:=ahr.out;have am7:=ahs.out;have aA5:=aht.out;have aA6:=ahu.out;have arf:=aev.out;have arh:=aew.out;obtain ⟨_,_,_,_,_⟩:=zC5 iy.out;obtain ⟨_,_,_,_,_⟩:=zF5 iy.out;go_wp2;try simp only [Act.put,List.setIfInBounds_toArray,List.set_cons_succ,List.set_cons_zero]
       go_loopg [34] k2 (fun kq v34 w'=>∃ (aez:Int) (zU:List Int) (u593004:Value),v34 = .int .i64 aez/\aj (bn.l2 kq aal jS (iC.length:Int) aal (gQ.length:Int) jS bY aez aU bf bY dB bZ gQ iC kY kZ nK (gQ.length:Int) (iC.length:Int) bY dB zU=some (r1,r2,r3,r4,r5))/\aj (kq<=k2)/\aj (Kd.R (Kd.int .u16) 79 w' w.heap.size (fun _=>True) u593004 zU)/\aj (w'.heap[adg]? = some (.cells #[.int .i64 aU,.int .i64 bf,.int .i64 bY,.int .i64 dB,(.slice iF bZ.length iG)] 88 (0,0)))/\aj (w'.heap[adh]? = some (.cells #[(.slice aaT gQ.length zH),(.slice aav iC.length zI),.int .i64 kY,.int .i64 kZ,.int .i64 nK] 41 (0,0)))/\aj (w'.heap[acz]? = some (.cells #[.int .i64 0,.int .i64 0,.int .i64 0,.int .i64 0,(.slice none 0 0)] 88 (0,0)))/\aj (w'.heap[abL]? = some (.cells #[.int .i64 (gQ.length:Int),.int .i64 (iC.length:Int),.int .i64 bY,.int .i64 dB,u593004] 88 (0,0)))/\aj (Below w.heap.size w w'))
       case atStart=>exact ⟨(0),(acI),(u593004),zT,H',⟨Nat.le_refl _⟩,⟨by (with_reducible repeat (first|apply Kd.aN|apply Kd.aT|apply Kd.aV));exact kC.out⟩,⟨zK iy⟩,⟨zK iI⟩,⟨zK nT⟩,⟨zK jd⟩,⟨zB⟩⟩
       case round =>
        clear H';obtain ⟨aez,zU,u593004,rfl,HA,HK3,kC,iy,iI,nT,jd,HB⟩:=hrel;cases gk with
        | zero=>exact absurd HA.out (by simp [bn.l2])
        | succ k3 =>
         have H:=HA.out;clear HA;simp only [bn.l2] at H;by_cases c27:aez < bY
         ·rw [if_pos c27] at H;have arP:=decide_eq_true c27;clear c27;replace H:=zO H;obtain ⟨aoR,A28,H⟩:=H;try dsimp only at H
          replace H:=zO H;obtain ⟨alE,A29,H⟩:=H;try dsimp only at H
          by_cases c30:zU.length < 70368744177664
          ·rw [if_pos c30] at H;have aCf:=aj.mk c30;clear c30;obtain ⟨ar5,akx⟩:∃ y_:List Int,y_=(zU ++ [alE]):=⟨_,rfl⟩;replace H:(bn.l2 k3 aal jS (iC.length:Int) aal (gQ.length:Int) jS bY (wrap64 (aez+1)) aU bf bY dB bZ gQ iC kY kZ nK (gQ.length:Int) (iC.length:Int) bY dB ar5)=some (r1,r2,r3,r4,r5):=(by first|(rw [akx];with_reducible exact H)|(have H2_:=(Option.bind_some _ _).symm.trans H;rw [akx];with_reducible exact H2_)|(have H2_:=(Option.bind_some _ _).symm.trans H;with_reducible exact H2_)|with_reducible exact H|(rw [akx];exact H)|exact H);have aCg:=aj.mk akx;clear akx;have H':=aj.mk H;clear H;try go_wp2
           obtain ⟨kC,iy,iI,nT,jd,HB⟩:=zA6 (Kd.aV kC.out) (jP iy.out) (jP iI.out) (jP nT.out) (jP jd.out) (bC HB.out);refine adC (n:=15) (S:=fun w'=>w'.cell? ⟨abL,0,none⟩=some (.int .i64 (gQ.length:Int))/\w'.cell? ⟨abL,1,none⟩=some (.int .i64 (iC.length:Int))/\w'.cell? ⟨abL,2,none⟩=some (.int .i64 bY)/\w'.cell? ⟨abL,3,none⟩=some (.int .i64 dB)/\w'.cell? ⟨abL,4,none⟩=some (u593004)/\w'.cell? ⟨adg,0,none⟩=some (.int .i64 aU)/\w'.cell? ⟨adg,1,none⟩=some (.int .i64 bf)/\w'.cell? ⟨adg,2,none⟩=some (.int .i64 bY)/\w'.cell? ⟨adg,3,none⟩=some (.int .i64 dB)/\w'.cell? ⟨adg,4,none⟩=some (.slice iF bZ.length iG)/\w'.cell? ⟨adh,0,none⟩=some (.slice aaT gQ.length zH)/\w'.cell? ⟨adh,1,none⟩=some (.slice aav iC.length zI)/\w'.cell? ⟨adh,2,none⟩=some (.int .i64 kY)/\w'.cell? ⟨adh,3,none⟩=some (.int .i64 kZ)/\w'.cell? ⟨adh,4,none⟩=some (.int .i64 nK)) (ds:=[14]) #[false,false,false,false,false,false,false,false,false,false,false,false,false,false,false] (by kernel_rfl) rfl rfl ⟨(au jd.out 0).trans rfl,(au jd.out 1).trans rfl,(au jd.out 2).trans rfl,(au jd.out 3).trans rfl,(au jd.out 4).trans rfl,(au iy.out 0).trans rfl,(au iy.out 1).trans rfl,(au iy.out 2).trans rfl,(au iy.out 3).trans rfl,(au iy.out 4).trans rfl,(au iI.out 0).trans rfl,(au iI.out 1).trans rfl,(au iI.out 2).trans rfl,(au iI.out 3).trans rfl,(au iI.out 4).trans rfl⟩ (fun hHeld => ?_);refine ame bn.aCe bn.azA (fun HT_ HW_ => ?_);generalize wr.drew=w31 at kC iy iI nT jd HB hHeld ⊢;refine uj (i:=0) (N:=some 37) (v := ?_) (a' := ?_) #[true,false,false,false,false,false,false,false,false,false,false,false,false,false,false] rfl rfl (yt HT_.out (by kernel_rfl)) (fun _ _ _ h=>h) (Or.inl ⟨by rfl,?_⟩) ?_ ?_;rotate_left
           ·intro w';go_simp
            with_reducible rfl
           rotate_left
           ·simp only [Act.put,List.setIfInBounds_toArray,List.set_cons_zero,List.set_cons_succ,bP,bU];rfl
           refine uj (i:=4) (N:=some 41) (v := ?_) (a' := ?_) #[true,false,false,false,true,false,false,false,false,false,false,false,false,false,false] rfl rfl (yt HT_.out (by kernel_rfl)) (fun _ _ _ h=>h) (Or.inl ⟨by rfl,?_⟩) ?_ ?_;rotate_left
           ·intro w';go_simp
            with_reducible rfl
           rotate_left
           ·simp only [Act.put,List.setIfInBounds_toArray,List.set_cons_zero,List.set_cons_succ,bP,bU];rfl
           refine uj (i:=5) (N:=some 42) (v := ?_) (a' := ?_) #[true,false,false,false,true,true,false,false,false,false,false,false,false,false,false] rfl rfl (yt HT_.out (by kernel_rfl)) (fun _ _ _ h=>h) (Or.inl ⟨by rfl,?_⟩) ?_ ?_;rotate_left
           ·intro w';go_simp
            with_reducible rfl
           rotate_left
           ·simp only [Act.put,List.setIfInBounds_toArray,List.set_cons_zero,List.set_cons_succ,bP,bU];rfl
           refine uj (i:=6) (N:=some 43) (v := ?_) (a' := ?_) #[true,false,false,false,true,true,true,false,false,false,false,false,false,false,false] rfl rfl (yt HT_.out (by kernel_rfl)) (fun _ _ _ h=>h) (Or.inl ⟨by rfl,?_⟩) ?_ ?_;rotate_left
           ·intro w';go_simp
            with_reducible rfl
           rotate_left
           ·simp only [Act.put,List.setIfInBounds_toArray,List.set_cons_zero,List.set_cons_succ,bP,bU];rfl
           refine uj (i:=8) (N:=some 45) (v := ?_) (a' := ?_) #[true,false,false,false,true,true,true,false,true,false,false,false,false,false,false] rfl rfl (yt HT_.out (by kernel_rfl)) (fun _ _ _ h=>h) (Or.inl ⟨by rfl,?_⟩) ?_ ?_;rotate_left
           ·intro w';go_simp
            with_reducible rfl
           rotate_left
           ·simp only [Act.put,List.setIfInBounds_toArray,List.set_cons_zero,List.set_cons_succ,bP,bU];rfl
           refine xO (i:=1) (N:=some 38) (v := ?_) (a' := ?_) #[true,true,false,false,true,true,true,false,true,false,false,false,false,false,false] rfl rfl (adE HT_.out HW_.out (by kernel_rfl)) (fun _ _ _ h=>h) (Or.inl ⟨by rfl,?_⟩) hHeld ?_ ?_;rotate_left
           ·rintro w' ⟨s0,s1,s2,s3,s4,s5,s6,s7,s8,s9,s10,s11,s12,s13,s14⟩;go_simp
            with_reducible rfl
           rotate_left
           ·simp only [Act.put,List.setIfInBounds_toArray,List.set_cons_zero,List.set_cons_succ,bP,bU];rfl
           refine xO (i:=2) (N:=some 39) (v := ?_) (a' := ?_) #[true,true,true,false,true,true,true,false,true,false,false,false,false,false,false] rfl rfl (adE HT_.out HW_.out (by kernel_rfl)) (fun _ _ _ h=>h) (Or.inl ⟨by rfl,?_⟩) hHeld ?_ ?_;rotate_left
           ·rintro w' ⟨s0,s1,s2,s3,s4,s5,s6,s7,s8,s9,s10,s11,s12,s13,s14⟩;go_simp
            with_reducible rfl
           rotate_left
           ·simp only [Act.put,List.setIfInBounds_toArray,List.set_cons_zero,List.set_cons_succ,bP,bU];rfl
           refine xO (i:=3) (N:=some 40) (v := ?_) (a' := ?_) #[true,true,true,true,true,true,true,false,true,false,false,false,false,false,false] rfl rfl (adE HT_.out HW_.out (by kernel_rfl)) (fun _ _ _ h=>h) (Or.inl ⟨by rfl,?_⟩) hHeld ?_ ?_;rotate_left
           ·rintro w' ⟨s0,s1,s2,s3,s4,s5,s6,s7,s8,s9,s10,s11,s12,s13,s14⟩;go_simp
            with_reducible rfl
           rotate_left
           ·simp only [Act.put,List.setIfInBounds_toArray,List.set_cons_zero,List.set_cons_succ,bP,bU];rfl
           refine xO (i:=9) (N:=some 46) (v := ?_) (a' := ?_) #[true,true,true,true,true,true,true,false,true,true,false,false,false,false,false] rfl rfl (adE HT_.out HW_.out (by kernel_rfl)) (fun _ _ _ h=>h) (Or.inl ⟨by rfl,?_⟩) hHeld ?_ ?_;rotate_left
           ·rintro w' ⟨s0,s1,s2,s3,s4,s5,s6,s7,s8,s9,s10,s11,s12,s13,s14⟩;go_simp
            with_reducible rfl
           rotate_left
           ·simp only [Act.put,List.setIfInBounds_toArray,List.set_cons_zero,List.set_cons_succ,bP,bU];rfl
           refine aaP (i:=7) (N:=some 44) #[true,true,true,true,true,true,true,true,true,true,false,false,false,false,false] rfl rfl (adD HT_.out (by kernel_rfl)) (by decide) (fun K hK => ?_);refine aaF Tryz.func40 (by kernel_rfl) rfl #[.agg #[.int .i64 aU,.int .i64 bf,.int .i64 bY,.int .i64 dB,.slice iF bZ.length iG],.agg #[.slice aaT gQ.length zH,.slice aav iC.length zI,.int .i64 kY,.int .i64 kZ,.int .i64 nK],.int .i64 jS,.int .i64 aal,.int .i64 aez] (by rfl) rfl rfl zL ?_;with_reducible refine (dK.calls k3 aU bf bY dB _ _ bZ _ _ gQ _ _ iC kY kZ nK jS aal aez aoR _ ?iD ?iE ?adi ?adk ?aCh ?aCi A28.out).mono ?_
           (case iD=>repeat (first|exact (Kd.bD um.out HB.out)|(with_reducible refine Kd.iU ?_ _)|(with_reducible refine Kd.jh ?_ _)|(with_reducible refine Kd.jI ?_)))
           (case iE=>exact uK.out)
           (case adi=>repeat (first|exact (Kd.bD ah5.out HB.out)|(with_reducible refine Kd.iU ?_ _)|(with_reducible refine Kd.jh ?_ _)|(with_reducible refine Kd.jI ?_)))
           (case adk=>exact axl.out)
           (case aCh=>repeat (first|exact (Kd.bD afO.out HB.out)|(with_reducible refine Kd.iU ?_ _)|(with_reducible refine Kd.jh ?_ _)|(with_reducible refine Kd.jI ?_)))
           (case aCi=>exact axn.out)
           rintro e w32 ⟨rfl,hb⟩;refine ⟨_,rfl,?_⟩;obtain ⟨kC,iy,iI,nT,jd,HB⟩:=zA6 (Kd.jF (by (with_reducible repeat (first|apply Kd.aN|apply Kd.aT|apply Kd.aV));exact kC.out) hb) (aA (zK iy) hb) (aA (zK iI) hb) (aA (zK nT) hb) (aA (zK jd) hb) (ak zB hb)
           (try clear hb)
           (try clear hb2)
           (try clear hk)
           (try clear hi)
           refine hK.out _ _ ⟨(au jd.out 0).trans rfl,(au jd.out 1).trans rfl,(au jd.out 2).trans rfl,(au jd.out 3).trans rfl,(au jd.out 4).trans rfl,(au iy.out 0).trans rfl,(au iy.out 1).trans rfl,(au iy.out 2).trans rfl,(au iy.out 3).trans rfl,(au iy.out 4).trans rfl,(au iI.out 0).trans rfl,(au iI.out 1).trans rfl,(au iI.out 2).trans rfl,(au iI.out 3).trans rfl,(au iI.out 4).trans rfl⟩ (fun hHeld => ?_);clear hK K;refine yK (a' := ?_) ?_ ?_;rotate_left
           ·show Act.put _ (some 44) _=_
            simp only [Act.put,List.setIfInBounds_toArray,List.set_cons_zero,List.set_cons_succ,bP,bU];rfl
           refine aaP (i:=10) (N:=some 47) #[true,true,true,true,true,true,true,true,true,true,true,false,false,false,false] rfl rfl (adD HT_.out (by kernel_rfl)) (by decide) (fun K hK => ?_);refine aaF Tryz.func75 (by kernel_rfl) rfl #[.int .i64 aoR,.int .i64 dB] (by rfl) rfl rfl zL ?_;with_reducible refine (dU.calls k3 aoR dB alE _ A29.out).mono ?_
           rintro e w33 ⟨rfl,hb⟩;refine ⟨_,rfl,?_⟩;obtain ⟨kC,iy,iI,nT,jd,HB⟩:=zA6 (Kd.jF (by (with_reducible repeat (first|apply Kd.aN|apply Kd.aT|apply Kd.aV));exact kC.out) hb) (aA (zK iy) hb) (aA (zK iI) hb) (aA (zK nT) hb) (aA (zK jd) hb) (ak zB hb)
           (try clear hb)
           (try clear hb2)
           (try clear hk)
           (try clear hi)
           refine hK.out _ _ ⟨(au jd.out 0).trans rfl,(au jd.out 1).trans rfl,(au jd.out 2).trans rfl,(au jd.out 3).trans rfl,(au jd.out 4).trans rfl,(au iy.out 0).trans rfl,(au iy.out 1).trans rfl,(au iy.out 2).trans rfl,(au iy.out 3).trans rfl,(au iy.out 4).trans rfl,(au iI.out 0).trans rfl,(au iI.out 1).trans rfl,(au iI.out 2).trans rfl,(au iI.out 3).trans rfl,(au iI.out 4).trans rfl⟩ (fun hHeld => ?_);clear hK K;refine yK (a' := ?_) ?_ ?_;rotate_left
           ·show Act.put _ (some 47) _=_
            simp only [Act.put,List.setIfInBounds_toArray,List.set_cons_zero,List.set_cons_succ,bP,bU];rfl
           refine aaP (i:=11) (N:=some 48) #[true,true,true,true,true,true,true,true,true,true,true,true,false,false,false] rfl rfl (adD HT_.out (by kernel_rfl)) (by decide) (fun K hK => ?_);refine ayz (w1 := ?_) (v := ?_) (by rfl) rfl ?_ ?_;rotate_left 2
           ·go_simp
            constructor
            ·rfl
            ·rfl
           refine hK.out _ _ ⟨(au (jM jd.out _) 0).trans rfl,(au (jM jd.out _) 1).trans rfl,(au (jM jd.out _) 2).trans rfl,(au (jM jd.out _) 3).trans rfl,(au (jM jd.out _) 4).trans rfl,(au (jM iy.out _) 0).trans rfl,(au (jM iy.out _) 1).trans rfl,(au (jM iy.out _) 2).trans rfl,(au (jM iy.out _) 3).trans rfl,(au (jM iy.out _) 4).trans rfl,(au (jM iI.out _) 0).trans rfl,(au (jM iI.out _) 1).trans rfl,(au (jM iI.out _) 2).trans rfl,(au (jM iI.out _) 3).trans rfl,(au (jM iI.out _) 4).trans rfl⟩ (fun hHeld => ?_);clear hK K;refine yK (a' := ?_) ?_ ?_;rotate_left
           ·show Act.put _ (some 48) _=_
            simp only [Act.put,List.setIfInBounds_toArray,List.set_cons_zero,List.set_cons_succ,bP,bU];rfl
           refine aaP (i:=12) (N:=some 49) #[true,true,true,true,true,true,true,true,true,true,true,true,true,false,false] rfl rfl (adD HT_.out (by kernel_rfl)) (by decide) (fun K hK => ?_);refine Kd.amD (Kd.int .u16) (w0:=w) w.heap.size (by rfl) (.tmp 38) (.tmp 48) 80 79 (.int .u16 0) 2 rfl Tryz.underlying80 ayI rfl (by decide) (by omega) u593004 zU alE [.int .u16 alE] (fun _=>True) (fun _=>False) rfl rfl ?aP (fun _ hk=>hk.elim) ?aF ?aO ?aB ?aS ?aL ?_
           (case aP=>exact rfl)
           (case aB=>exact zB)
           (case aF=>exact (fun _ _=>trivial))
           (case aO=>exact (by (with_reducible repeat (first|apply Kd.aN|apply Kd.aT|apply Kd.aV));exact kC.out))
           (case aS=>exact (bW zB))
           (case aL=>have:=aCf.out;omega)
           intro aI6 w34 ho hb hg hat;rw [<- aCg.out] at ho;obtain ⟨iy,iI,nT,jd,HB,axt⟩:=zA6 (aeb (g:=adg) (o := .cells #[.int .i64 aU,.int .i64 bf,.int .i64 bY,.int .i64 dB,.slice iF bZ.length iG] 88 (0,0)) (zK iy) hg (Kd.aqK kC.out iy.out (by decide))) (aeb (g:=adh) (o := .cells #[.slice aaT gQ.length zH,.slice aav iC.length zI,.int .i64 kY,.int .i64 kZ,.int .i64 nK] 41 (0,0)) (zK iI) hg (Kd.aqK kC.out iI.out (by decide))) (aeb (g:=acz) (o := .cells #[.int .i64 0,.int .i64 0,.int .i64 0,.int .i64 0,.slice none 0 0] 88 (0,0)) (zK nT) hg (Kd.aqK kC.out nT.out (by decide))) (aeb (g:=abL) (o := .cells #[.int .i64 (gQ.length:Int),.int .i64 (iC.length:Int),.int .i64 bY,.int .i64 dB,u593004] 88 (0,0)) (zK jd) hg (Kd.aqK kC.out jd.out (by decide))) hb ho;clear ho hb hg hat;obtain ⟨azB,azC,azD⟩:=Kd.gG axt.out
           (first|subst azD|(injection azD with f1_ f2_ f3_;have f4_:=f1_.symm;have f5_:=f3_.symm;clear f1_ f2_ f3_;subst f4_;subst f5_))
           refine hK.out _ _ ⟨(au jd.out 0).trans rfl,(au jd.out 1).trans rfl,(au jd.out 2).trans rfl,(au jd.out 3).trans rfl,(au jd.out 4).trans rfl,(au iy.out 0).trans rfl,(au iy.out 1).trans rfl,(au iy.out 2).trans rfl,(au iy.out 3).trans rfl,(au iy.out 4).trans rfl,(au iI.out 0).trans rfl,(au iI.out 1).trans rfl,(au iI.out 2).trans rfl,(au iI.out 3).trans rfl,(au iI.out 4).trans rfl⟩ (fun hHeld => ?_);clear hK K;refine yK (a' := ?_) ?_ ?_;rotate_left
           ·show Act.put _ (some 49) _=_
            simp only [Act.put,List.setIfInBounds_toArray,List.set_cons_zero,List.set_cons_succ,bP,bU];rfl
           refine uj (i:=13) (N:=some 50) (v := ?_) (a' := ?_) #[true,true,true,true,true,true,true,true,true,true,true,true,true,true,false] rfl rfl (yt HT_.out (by kernel_rfl)) (fun _ _ _ h=>h) (Or.inl ⟨by rfl,?_⟩) ?_ ?_;rotate_left
           ·intro w';go_simp
            with_reducible rfl
           rotate_left
           ·simp only [Act.put,List.setIfInBounds_toArray,List.set_cons_zero,List.set_cons_succ,bP,bU];rfl
           refine ajz (i:=14) (N:=none) #[true,true,true,true,true,true,true,true,true,true,true,true,true,true,true] rfl rfl (adD HT_.out (by kernel_rfl)) (by decide) (fun K hK => ?_);have aI7:w34.cell? ⟨abL,4,none⟩=some (u593004):=(au jd.out 4).trans rfl;have aH9:=aI jd.out 4;have aFt:=aev.out;have aFu:=aex.out;have aFv:=ahx.out;have aFw:=aew.out;have aFx:=aey.out;have aFy:=ahy.out;refine ahK (w1 := ?_) (by rfl) rfl ?_ ?_;rotate_left
           ·go_simp
            rfl
           refine hK.out _ _ ?_;clear hK K;refine afj (apY HT_.out (by kernel_rfl)) ?_;try go_wp2
           go_roundg k3
           case measure=>have:=HK1.out;have:=HK2.out;have:=HK3.out;omega
           case rel=>exact ⟨(wrap64 (aez+1)),(ar5),(.slice azB ar5.length azC),zT,H',⟨by have:=HK1.out;have:=HK2.out;have:=HK3.out;omega⟩,⟨by (with_reducible repeat (first|apply Kd.aN|apply Kd.aT|apply Kd.aV));exact Kd.dY (Kd.wu (p:=⟨abL,4,none⟩) (Kd.ak3 axt.out jd.out (by decide)) (fun _ hk=>hk.2) (.slice azB ar5.length azC)) (fun _ hk=>trivial)⟩,⟨zK iy⟩,⟨zK iI⟩,⟨zK nT⟩,⟨by refine zD ?_;refine bg (cs := #[.int .i64 (gQ.length:Int),.int .i64 (iC.length:Int),.int .i64 bY,.int .i64 dB,u593004]) ?_ 4 _ rfl;refine zD ?_;exact jd.out⟩,⟨zB⟩⟩
          ·rw [if_neg c30] at H;exact absurd H (by simp)
         ·rw [if_neg c27] at H;have arP:=decide_eq_false c27;clear c27;have H':=aj.mk H;clear H;go_wp2;go_roundg k3
          case measure=>have:=HK1.out;have:=HK2.out;have:=HK3.out;omega
          case rel=>exact ⟨(wrap64 (jS+1)),(zU),(u593004),zT,H',⟨by have:=HK1.out;have:=HK2.out;have:=HK3.out;omega⟩,⟨by (with_reducible repeat (first|apply Kd.aN|apply Kd.aT|apply Kd.aV));exact kC.out⟩,⟨zK iy⟩,⟨zK iI⟩,⟨zK nT⟩,⟨zK jd⟩,⟨zB⟩⟩
      ·rw [if_neg c22] at H;have arE:=decide_eq_false c22;clear c22;have H':=aj.mk H;clear H;go_wp2;go_roundg k2
       case measure=>have:=HK1.out;have:=HK2.out;omega
       case rel=>exact ⟨(wrap64 (aal+1)),(acI),(u593004),zT,H',⟨by have:=HK1.out;have:=HK2.out;omega⟩,⟨by (with_reducible repeat (first|apply Kd.aN|apply Kd.aT|apply Kd.aV));exact kC.out⟩,⟨zK iy⟩,⟨zK iI⟩,⟨zK nT⟩,⟨zK jd⟩,⟨zB⟩⟩
   ·rw [if_neg c17] at H;have ar1:=decide_eq_false c17;clear c17;simp only [Option.some.injEq,Prod.mk.injEq] at H;obtain ⟨rfl,rfl,rfl,rfl,rfl⟩:=H;have aBx:=aew.out;have aBy:=aev.out;have aIa:=aey.out;have aIb:=aex.out;have aBG:=ahy.out;have aBH:=ahx.out;obtain ⟨_,_,_,_,_⟩:=zC5 jd.out;obtain ⟨_,_,_,_,_⟩:=zF5 jd.out;have aw0:=ahu.out;have aw1:=aht.out;have aBk:=ahw.out;have aBl:=ahv.out;obtain ⟨_,_,_,_,_⟩:=zC5 nT.out;obtain ⟨_,_,_,_,_⟩:=zF5 nT.out;obtain ⟨azE,azF,aDE⟩:=Kd.gG kC.out;subst aDE;go_wp2;refine bodyPost_ret (results_cell_row rfl _ _ acz 88 #[.int .i64 (gQ.length:Int),.int .i64 (iC.length:Int),.int .i64 bY,.int .i64 dB,.slice azE abr.length azF] (0,0) _ rfl (by refine zD ?_;refine bg (cs := #[.int .i64 (gQ.length:Int),.int .i64 (iC.length:Int),.int .i64 bY,.int .i64 dB,.slice none 0 0]) ?_ 4 _ rfl;refine zD ?_;refine bg (cs := #[.int .i64 (gQ.length:Int),.int .i64 (iC.length:Int),.int .i64 bY,.int .i64 0,.slice none 0 0]) ?_ 3 _ rfl;refine zD ?_;refine bg (cs := #[.int .i64 (gQ.length:Int),.int .i64 (iC.length:Int),.int .i64 0,.int .i64 0,.slice none 0 0]) ?_ 2 _ rfl;refine zD ?_;refine bg (cs := #[.int .i64 (gQ.length:Int),.int .i64 0,.int .i64 0,.int .i64 0,.slice none 0 0]) ?_ 1 _ rfl;refine zD ?_;refine bg (cs := #[.int .i64 0,.int .i64 0,.int .i64 0,.int .i64 0,.slice none 0 0]) ?_ 0 _ rfl;refine zD ?_;exact nT.out) Tryz.underlying88 rfl (by kernel_rfl)) rfl ?_;exact ⟨_,zS,by (with_reducible repeat (first|apply Kd.aN|apply Kd.aT|apply Kd.aV));exact Kd.dY (Kd.wu (p:=⟨acz,4,none⟩) (Kd.wu (p:=⟨acz,3,none⟩) (Kd.wu (p:=⟨acz,2,none⟩) (Kd.wu (p:=⟨acz,1,none⟩) (Kd.wu (p:=⟨acz,0,none⟩) (Kd.ak3 kC.out nT.out (by decide)) (fun _ hk=>hk.2) (.int .i64 (gQ.length:Int))) (fun _ hk=>hk.2) (.int .i64 (iC.length:Int))) (fun _ hk=>hk.2) (.int .i64 bY)) (fun _ hk=>hk.2) (.int .i64 dB)) (fun _ hk=>hk.2) (.slice azE abr.length azF)) (fun _ hk=>trivial),zB⟩
end Go.Proofs.YtpondkggmcmpfaaGreatDoor.QA
