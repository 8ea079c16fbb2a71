/- Joined by wip/tools/bundle.py out of: QAx41 QAx43 QAx48 QAx49 QAx50 QAx51 QAx52. -/
import Derived.Test.YtpondkggmcmpfaaGreatDoorBDirectComposes14
set_option maxHeartbeats 8000000
set_option maxRecDepth 100000
namespace Go.Proofs.YtpondkggmcmpfaaGreatDoor.QA
open Go.Proofs.YtpondkggmcmpfaaGreatDoor.T
open Go.RowKit Go.Proofs.YtpondkggmcmpfaaGreatDoorW.PrintWords Go.Proofs.YtpondkggmcmpfaaGreatDoorW.PrintLast Go.Proofs.YtpondkggmcmpfaaGreatDoorW.PrintMore
attribute [local go_sem] dU dM dN fA fB
set_option linter.unusedVariables false
set_option linter.unusedSimpArgs false
mutual
def dX.j0:Nat→Int→Bool→Option (List Int × Int)
 | 0,_,_=>none
 | k+1,x0,x10=>if x10=true then (some (([]:List Int),7)) else (dX.l0 k ([]:List Int) (wrap64 ((wrap64 (2*x0))+1)) 0)
def dX.l0:Nat→List Int→Int→Int→Option (List Int × Int)
 | 0,_,_,_=>none
 | k+1,x4,x13,x14=>if x14 < x13 then (if x4.length < 17592186044416 then (dX.l0 k (x4 ++ [1]) x13 (wrap64 (x14+1))) else (none)) else ((bV.f k x4).bind fun axc=>(some (axc.1,axc.2)))
end
def dX.f (k:Nat) (a0:Int):Option (List Int × Int):=if a0 < 0 then (dX.j0 k a0 true) else (dX.j0 k a0 (decide (a0 > 511)))
theorem dX.calls (k:Nat) (a0:Int) (r1:List Int) (r2:Int) (w:World) (h:dX.f k a0=some (r1,r2)) :
  Calls Tryz.prog 95 #[.int .i64 a0] w fun e w'=>∃ v0_:Value,e = .returned (.tuple #[v0_,.int .i64 r2])∧Kd.R (Kd.int .i64) 2 w' w.heap.size (fun _=>True) v0_ r1∧Below w.heap.size w w':=by
 have HB:=aj.mk (Below.refl w.heap.size w);have H:=h;clear h;unfold dX.f at H;have HC2:=aj.mk H;clear H;go_enter Tryz.func95,Tryz.ntmps95;go_upto_region 1 with (fail);go_cut [10] (fun v10 wc=>∃ (kq:Nat) (yK:Bool),v10 = .bool yK∧aj (dX.j0 kq a0 yK=some (r1,r2))∧aj (kq≤k)∧aj (Below w.heap.size w wc))
 case first =>
  have H:=HC2.out;clear HC2;by_cases c3:a0 < 0
  ·rw [if_pos c3] at H;have fV:=decide_eq_true c3;clear c3
   (first|rw [fV]|(simp only [bP,bU];rw [fV])|skip)
   have H':=aj.mk H;clear H;go_wp2;go_meet
   case rel=>exact ⟨_,(true),zT,H',⟨by first|omega|exact Nat.le_refl _⟩,⟨zB⟩⟩
  ·rw [if_neg c3] at H;have fV:=decide_eq_false c3;clear c3
   (first|rw [fV]|(simp only [bP,bU];rw [fV])|skip)
   have H':=aj.mk H;clear H;go_wp2;go_meet
   case rel=>exact ⟨_,(decide (a0 > 511)),zT,H',⟨by first|omega|exact Nat.le_refl _⟩,⟨zB⟩⟩
 case rest =>
  clear HC2;obtain ⟨kq,yK,rfl,HA,HJ1,HB⟩:=hcut;cases kq with
  | zero=>exact absurd HA.out (by simp [dX.j0])
  | succ kj1 =>
   have H:=HA.out;clear HA;simp only [dX.j0] at H;by_cases c4:yK=true
   ·subst c4;rw [if_pos rfl] at H;(try dsimp only at H);simp only [Option.some.injEq,Prod.mk.injEq] at H;obtain ⟨rfl,rfl⟩:=H;go_wp2;go_ret2;exact ⟨_,zS,by first|exact Kd.kQ _ _ _ _ _|exact Kd.qM _ _ _ _ _|exact Kd.oU _ _ _ _ _|exact Kd.qN _ _ _ _ _|exact Kd.qo _ _ _ _ _,zB⟩
   ·replace c4:=Bool.eq_false_iff.mpr c4;subst c4;rw [if_neg (show ¬ (false=true) by decide)] at H;(try dsimp only at H);have H':=aj.mk H;clear H;go_wp2;go_loopg [4,14] kj1 (fun kq v4 v14 w'=>∃ (yw:List Int) (abw:Int),v14 = .int .i64 abw∧aj (dX.l0 kq yw (wrap64 ((wrap64 (2*a0))+1)) abw=some (r1,r2))∧aj (kq≤kj1)∧aj (Kd.R (Kd.int .i64) 2 w' w.heap.size (fun _=>True) v4 yw)∧aj (Below w.heap.size w w'))
    case atStart=>exact ⟨(([]:List Int)),(0),zT,H',⟨Nat.le_refl _⟩,⟨by first|exact Kd.kQ _ _ _ _ _|exact Kd.qM _ _ _ _ _|exact Kd.oU _ _ _ _ _|exact Kd.qN _ _ _ _ _|exact Kd.qo _ _ _ _ _⟩,⟨zB⟩⟩
    case round =>
     clear H';obtain ⟨yw,abw,rfl,HA,HK2,aiW,HB⟩:=hrel;cases gk with
     | zero=>exact absurd HA.out (by simp [dX.l0])
     | succ k2 =>
      have H:=HA.out;clear HA;simp only [dX.l0] at H;by_cases c5:abw < (wrap64 ((wrap64 (2*a0))+1))
      ·rw [if_pos c5] at H;have gJ:=decide_eq_true c5;clear c5;by_cases c6:yw.length < 17592186044416
       ·rw [if_pos c6] at H;have aDi:=aj.mk c6;clear c6;obtain ⟨azt,aj8⟩:∃ y_:List Int,y_=(yw ++ [1]):=⟨_,rfl⟩;replace H:(dX.l0 k2 azt (wrap64 ((wrap64 (2*a0))+1)) (wrap64 (abw+1)))=some (r1,r2):=(by first|(rw [aj8];with_reducible exact H)|(have H2_:=(Option.bind_some _ _).symm.trans H;rw [aj8];with_reducible exact H2_)|(have H2_:=(Option.bind_some _ _).symm.trans H;with_reducible exact H2_)|with_reducible exact H|(rw [aj8];exact H)|exact H);have aBV:=aj.mk aj8;clear aj8;have H':=aj.mk H;clear H;go_wp2_with (first|((with_reducible refine kR (b := .append) (xs := #[.tmp 16,.tmp 17]) rfl ?_);at_builtin;refine Kd.lU (Kd.int .i64) (w0:=w) w.heap.size rfl (.tmp 16) (.tmp 17) 44 2 (.int .i64 0) 8 rfl Tryz.underlying44 yD rfl (by decide) (by omega) u4 yw 1 [.int .i64 1] (fun _=>True) (fun _=>False) rfl rfl ?aP (fun _ hk=>hk.elim) ?aF ?aO ?aB ?aS ?aL ?_;(case aP=>exact rfl);(case aB=>exact zB);(case aF=>exact (fun _ _=>trivial));(case aO=>exact (by (with_reducible repeat (first|apply Kd.aJ|apply Kd.aN|apply Kd.aV));exact aiW.out));(case aS=>exact (bW zB));(case aL=>have:=aDi.out;omega);intro aIO w7 ho hb hg hat;rw [← aBV.out] at ho;obtain ⟨HB,aBW⟩:=zA2 hb ho;clear ho hb hg hat));go_roundg k2
        case measure=>have:=HJ1.out;have:=HK2.out;omega
        case rel=>exact ⟨(azt),(wrap64 (abw+1)),zT,H',⟨by have:=HJ1.out;have:=HK2.out;omega⟩,⟨by (with_reducible repeat (first|apply Kd.aJ|apply Kd.aN|apply Kd.aV));exact aBW.out⟩,⟨zB⟩⟩
       ·rw [if_neg c6] at H;exact absurd H (by simp)
      ·rw [if_neg c5] at H;have gJ:=decide_eq_false c5;clear c5;replace H:=zO H;obtain ⟨⟨aDj,aDk⟩,A8,H⟩:=H;try dsimp only at H
       simp only [Option.some.injEq,Prod.mk.injEq] at H;obtain ⟨rfl,rfl⟩:=H;obtain ⟨Ao9,co9,eo9⟩:=Kd.fP aiW.out;subst eo9;go_wp2_with (first|((with_reducible refine ay (f:=96) rfl ?_);refine aH (some 21) rfl rfl Tryz.func96 (by kernel_rfl) rfl #[.slice Ao9 yw.length co9] rfl zL ?_;(with_reducible refine (bV.calls k2 _ _ yw aDj aDk _ ?iC ?iD A8.out).mono ?_);(case iC=>repeat (first|exact (Kd.dK aiW.out).2.2|(with_reducible refine Kd.iT ?_ _)|(with_reducible refine Kd.jg ?_ _)|(with_reducible refine Kd.jH ?_)));(case iD=>exact (Kd.dK aiW.out).2.1);rintro e w10 ⟨aIP,rfl,ho0,hb⟩;refine ⟨_,rfl,?_⟩;obtain ⟨aiW,aBX,HB⟩:=zA3 (Kd.jk (by (with_reducible repeat (first|apply Kd.aJ|apply Kd.aN|apply Kd.aV));exact aiW.out) (Kd.jT ho0) hb) (Kd.gX (Kd.lC ho0 (Kd.mY (by (with_reducible repeat (first|apply Kd.aJ|apply Kd.aN|apply Kd.aV));exact aiW.out))) (bW zB)) (ak zB hb);(try clear hb);(try clear ho0)));go_ret2;exact ⟨_,zS,by (with_reducible repeat (first|apply Kd.aJ|apply Kd.aN|apply Kd.aV));exact Kd.dY aBX.out (fun _ hk=>trivial),zB⟩
def qY.f (aT bf bY dB:Int) (bZ jI:List Int) (lY lD lN a1 a2:Int):Option (Int × Int):=if aT=3 then (some (lD,lN)) else (some (a1,a2))
theorem qY.calls (aT bf bY dB:Int) (iE:Option Addr) (iF:Nat) (bZ:List Int) (pY:Option Addr) (qc:Nat) (jI:List Int) (lY lD lN a1 a2 r1 r2:Int) (w:World) (oD:Kd.C (Kd.int .i64) w iE bZ.length bZ) (oG:bZ.length≤iF) (abo:Kd.C (Kd.int .i64) w pY jI.length jI) (abp:jI.length≤qc) (h:qY.f aT bf bY dB bZ jI lY lD lN a1 a2=some (r1,r2)) :
  Calls Tryz.prog 58 #[.agg #[.int .i64 aT,.int .i64 bf,.int .i64 bY,.int .i64 dB,.slice iE bZ.length iF,.slice pY jI.length qc,.int .i64 lY,.int .i64 lD,.int .i64 lN],.int .i64 a1,.int .i64 a2] w fun e w'=>e = .returned (.tuple #[.int .i64 r1,.int .i64 r2])∧Below w.heap.size w w':=by
 have aHJ:=Tryz.underlying111;have um:=aj.mk oD;have uK:=aj.mk oG;clear oD oG;have amV:=aj.mk abo;have amW:=aj.mk abp;clear abo abp;have HB:=aj.mk (Below.refl w.heap.size w);have H:=h;clear h;unfold qY.f at H;by_cases c4:aT=3
 ·rw [if_pos c4] at H;have fH:(aT == 3)=true:=beq_iff_eq.mpr c4;have aaJ:(aT != 3)=false:=bne_eq_false_iff_eq.mpr c4;clear c4;simp only [Option.some.injEq,Prod.mk.injEq] at H;obtain ⟨rfl,rfl⟩:=H;go_enter Tryz.func58,Tryz.ntmps58;go_wp2_with (first|((with_reducible refine aZ (N:=3) rfl ?_);refine aX zR (N:=3) zR (cs := #[.int .i64 aT,.int .i64 bf,.int .i64 bY,.int .i64 dB,.slice iE bZ.length iF,.slice pY jI.length qc,.int .i64 lY,.int .i64 lD,.int .i64 lN]) (t:=111) zG ?_;intro aj9 hg w5 hbox hb;obtain ⟨HB,vC,akb,akc⟩:=zA4 (ak zB hb) hbox (zg hg zB) (zg hg zB);clear hb hbox hg;obtain ⟨_,_,_,_,_,_,_,_,_⟩:=zC9 vC.out;obtain ⟨_,_,_,_,_,_,_,_,_⟩:=zF9 vC.out));repeat (go_quiet (first|((with_reducible refine aZ (N:=3) rfl ?_);refine aX zR (N:=3) zR (cs := #[.int .i64 aT,.int .i64 bf,.int .i64 bY,.int .i64 dB,.slice iE bZ.length iF,.slice pY jI.length qc,.int .i64 lY,.int .i64 lD,.int .i64 lN]) (t:=111) zG ?_;intro aj9 hg w5 hbox hb;obtain ⟨HB,vC,akb,akc⟩:=zA4 (ak zB hb) hbox (zg hg zB) (zg hg zB);clear hb hbox hg;obtain ⟨_,_,_,_,_,_,_,_,_⟩:=zC9 vC.out;obtain ⟨_,_,_,_,_,_,_,_,_⟩:=zF9 vC.out));try go_wp2_with (first|((with_reducible refine aZ (N:=3) rfl ?_);refine aX zR (N:=3) zR (cs := #[.int .i64 aT,.int .i64 bf,.int .i64 bY,.int .i64 dB,.slice iE bZ.length iF,.slice pY jI.length qc,.int .i64 lY,.int .i64 lD,.int .i64 lN]) (t:=111) zG ?_;intro aj9 hg w5 hbox hb;obtain ⟨HB,vC,akb,akc⟩:=zA4 (ak zB hb) hbox (zg hg zB) (zg hg zB);clear hb hbox hg;obtain ⟨_,_,_,_,_,_,_,_,_⟩:=zC9 vC.out;obtain ⟨_,_,_,_,_,_,_,_,_⟩:=zF9 vC.out)))
  go_ret2;exact ⟨zS,zB⟩
 ·rw [if_neg c4] at H;have fH:(aT == 3)=false:=beq_eq_false_iff_ne.mpr c4;have aaJ:(aT != 3)=true:=bne_iff_ne.mpr c4;simp only [Option.some.injEq,Prod.mk.injEq] at H;obtain ⟨rfl,rfl⟩:=H;go_enter Tryz.func58,Tryz.ntmps58;go_wp2_with (first|((with_reducible refine aZ (N:=3) rfl ?_);refine aX zR (N:=3) zR (cs := #[.int .i64 aT,.int .i64 bf,.int .i64 bY,.int .i64 dB,.slice iE bZ.length iF,.slice pY jI.length qc,.int .i64 lY,.int .i64 lD,.int .i64 lN]) (t:=111) zG ?_;intro aj9 hg w7 hbox hb;obtain ⟨HB,vC,akb,akc⟩:=zA4 (ak zB hb) hbox (zg hg zB) (zg hg zB);clear hb hbox hg;obtain ⟨_,_,_,_,_,_,_,_,_⟩:=zC9 vC.out;obtain ⟨_,_,_,_,_,_,_,_,_⟩:=zF9 vC.out));repeat (go_quiet (first|((with_reducible refine aZ (N:=3) rfl ?_);refine aX zR (N:=3) zR (cs := #[.int .i64 aT,.int .i64 bf,.int .i64 bY,.int .i64 dB,.slice iE bZ.length iF,.slice pY jI.length qc,.int .i64 lY,.int .i64 lD,.int .i64 lN]) (t:=111) zG ?_;intro aj9 hg w7 hbox hb;obtain ⟨HB,vC,akb,akc⟩:=zA4 (ak zB hb) hbox (zg hg zB) (zg hg zB);clear hb hbox hg;obtain ⟨_,_,_,_,_,_,_,_,_⟩:=zC9 vC.out;obtain ⟨_,_,_,_,_,_,_,_,_⟩:=zF9 vC.out));try go_wp2_with (first|((with_reducible refine aZ (N:=3) rfl ?_);refine aX zR (N:=3) zR (cs := #[.int .i64 aT,.int .i64 bf,.int .i64 bY,.int .i64 dB,.slice iE bZ.length iF,.slice pY jI.length qc,.int .i64 lY,.int .i64 lD,.int .i64 lN]) (t:=111) zG ?_;intro aj9 hg w7 hbox hb;obtain ⟨HB,vC,akb,akc⟩:=zA4 (ak zB hb) hbox (zg hg zB) (zg hg zB);clear hb hbox hg;obtain ⟨_,_,_,_,_,_,_,_,_⟩:=zC9 vC.out;obtain ⟨_,_,_,_,_,_,_,_,_⟩:=zF9 vC.out)))
  go_ret2;exact ⟨zS,zB⟩
mutual
def bT.j0:Nat→Int→Int→Int→Bool→Option (Int)
 | 0,_,_,_,_=>none
 | k+1,x0,x1,x2,x21=>if x21=true then (some 0) else (if x1≥0 then (bT.j1 k x0 x1 x2 (decide (x1 < x2))) else (bT.j1 k x0 x1 x2 false))
def bT.j1:Nat→Int→Int→Int→Bool→Option (Int)
 | 0,_,_,_,_=>none
 | k+1,x0,x1,x2,x28=>if x28=true then (some x1) else (if x0=0 then (if x1 < 0 then (some 0) else (some (wrap64 (x2 - 1)))) else (if (wrap64 (2*x2))=0 then (none) else (bT.l0 k x0 x2 (Int.tmod x1 (wrap64 (2*x2))))))
def bT.l0:Nat→Int→Int→Int→Option (Int)
 | 0,_,_,_=>none
 | k+1,x0,x2,x7=>if x7 < 0 then (bT.l0 k x0 x2 (wrap64 (x7+(wrap64 (2*x2))))) else (if x7 < x2 then (some x7) else (if x0=2 then (some (wrap64 (x7 - x2))) else (some (wrap64 ((wrap64 ((wrap64 (2*x2)) - 1)) - x7)))))
end
def bT.f (k:Nat) (a0 a1 a2:Int):Option (Int):=if a2 < 1 then (bT.j0 k a0 a1 a2 true) else (if a2 > 65536 then (bT.j0 k a0 a1 a2 true) else (if a0 < 0 then (bT.j0 k a0 a1 a2 true) else (bT.j0 k a0 a1 a2 (decide (a0 > 2)))))
theorem bT.calls (k:Nat) (a0 a1 a2 r:Int) (w:World) (h:bT.f k a0 a1 a2=some r) :
  Calls Tryz.prog 78 #[.int .i64 a0,.int .i64 a1,.int .i64 a2] w fun e w'=>e = .returned (.int .i64 r)∧dA w w':=by
 have H:=h;clear h;unfold bT.f at H;have HC4:=aj.mk H;clear H;go_enter Tryz.func78,Tryz.ntmps78;go_upto_region 1 with (fail);go_cut [21] (fun v21 wc=>∃ (kq:Nat) (ank:Bool),v21 = .bool ank∧aj (bT.j0 kq a0 a1 a2 ank=some r)∧aj (kq≤k)∧dA w wc)
 case first =>
  have H:=HC4.out;clear HC4;by_cases c5:a2 < 1
  ·rw [if_pos c5] at H;have gJ:=decide_eq_true c5;clear c5
   (first|rw [gJ]|(simp only [bP,bU];rw [gJ])|skip)
   have H':=aj.mk H;clear H;go_wp2;go_meet
   case rel=>exact ⟨_,(true),zT,H',⟨by first|omega|exact Nat.le_refl _⟩,zW⟩
  ·rw [if_neg c5] at H;have gJ:=decide_eq_false c5;clear c5
   (first|rw [gJ]|(simp only [bP,bU];rw [gJ])|skip)
   by_cases c6:a2 > 65536
   ·rw [if_pos c6] at H;have gI:=decide_eq_true c6;clear c6;have H':=aj.mk H;clear H;go_wp2;go_meet
    case rel=>exact ⟨_,(true),zT,H',⟨by first|omega|exact Nat.le_refl _⟩,zW⟩
   ·rw [if_neg c6] at H;have gI:=decide_eq_false c6;clear c6;by_cases c7:a0 < 0
    ·rw [if_pos c7] at H;have jr:=decide_eq_true c7;clear c7;have H':=aj.mk H;clear H;go_wp2;go_meet
     case rel=>exact ⟨_,(true),zT,H',⟨by first|omega|exact Nat.le_refl _⟩,zW⟩
    ·rw [if_neg c7] at H;have jr:=decide_eq_false c7;clear c7;have H':=aj.mk H;clear H;go_wp2;go_meet
     case rel=>exact ⟨_,(decide (a0 > 2)),zT,H',⟨by first|omega|exact Nat.le_refl _⟩,zW⟩
 case rest =>
  clear HC4;obtain ⟨kq,ank,rfl,HA,HJ3,⟨mc3,rfl⟩⟩:=hcut;cases kq with
  | zero=>exact absurd HA.out (by simp [bT.j0])
  | succ kj3 =>
   have H:=HA.out;clear HA;simp only [bT.j0] at H;by_cases c8:ank=true
   ·subst c8;rw [if_pos rfl] at H;(try dsimp only at H);obtain rfl:=Option.some.inj H;go_wp2;go_ret;exact ⟨zT,zW⟩
   ·replace c8:=Bool.eq_false_iff.mpr c8;subst c8;rw [if_neg (show ¬ (false=true) by decide)] at H;(try dsimp only at H);have HC9:=aj.mk H;clear H;go_upto_region 3 with (fail);go_cut [28] (fun v28 wc=>∃ (kq:Nat) (anl:Bool),v28 = .bool anl∧aj (bT.j1 kq a0 a1 a2 anl=some r)∧aj (kq≤kj3)∧dA w wc)
    case first =>
     have H:=HC9.out;clear HC9;by_cases c10:a1≥0
     ·rw [if_pos c10] at H;have mg:=decide_eq_true c10;clear c10
      (first|rw [mg]|(simp only [bP,bU];rw [mg])|skip)
      have H':=aj.mk H;clear H;go_wp2;go_meet
      case rel=>exact ⟨_,(decide (a1 < a2)),zT,H',⟨by have:=HJ3.out;first|omega|exact Nat.le_refl _⟩,zW⟩
     ·rw [if_neg c10] at H;have mg:=decide_eq_false c10;clear c10
      (first|rw [mg]|(simp only [bP,bU];rw [mg])|skip)
      have H':=aj.mk H;clear H;go_wp2;go_meet
      case rel=>exact ⟨_,(false),zT,H',⟨by have:=HJ3.out;first|omega|exact Nat.le_refl _⟩,zW⟩
    case rest =>
     clear HC9;obtain ⟨kq,anl,rfl,HA,HJ8,⟨mc8,rfl⟩⟩:=hcut;cases kq with
     | zero=>exact absurd HA.out (by simp [bT.j1])
     | succ kj8 =>
      have H:=HA.out;clear HA;simp only [bT.j1] at H;by_cases c11:anl=true
      ·subst c11;rw [if_pos rfl] at H;(try dsimp only at H);obtain rfl:=Option.some.inj H;go_wp2;go_ret;exact ⟨zT,zW⟩
      ·replace c11:=Bool.eq_false_iff.mpr c11;subst c11;rw [if_neg (show ¬ (false=true) by decide)] at H;(try dsimp only at H);by_cases c12:a0=0
       ·rw [if_pos c12] at H;have yL:(a0 == 0)=true:=beq_iff_eq.mpr c12;have anm:(a0 != 0)=false:=bne_eq_false_iff_eq.mpr c12;clear c12;by_cases c13:a1 < 0
        ·rw [if_pos c13] at H;have zQ:=decide_eq_true c13;clear c13;obtain rfl:=Option.some.inj H;go_wp2;go_ret;exact ⟨zT,zW⟩
        ·rw [if_neg c13] at H;have zQ:=decide_eq_false c13;clear c13;obtain rfl:=Option.some.inj H;go_wp2;go_ret;exact ⟨zT,zW⟩
       ·rw [if_neg c12] at H;have yL:(a0 == 0)=false:=beq_eq_false_iff_ne.mpr c12;have anm:(a0 != 0)=true:=bne_iff_ne.mpr c12;by_cases c14:(wrap64 (2*a2))=0
        ·rw [if_pos c14] at H;exact absurd H (by simp)
        ·rw [if_neg c14] at H;have acn:((wrap64 (2*a2)) == 0)=false:=beq_eq_false_iff_ne.mpr c14;have ani:((wrap64 (2*a2)) != 0)=true:=bne_iff_ne.mpr c14;have H':=aj.mk H;clear H;go_wp2;go_loopg [7] kj8 (fun kq v7 w'=>∃ (vT:Int),v7 = .int .i64 vT∧aj (bT.l0 kq a0 a2 vT=some r)∧aj (kq≤kj8)∧dA w w')
         case atStart=>exact ⟨(Int.tmod a1 (wrap64 (2*a2))),zT,H',⟨Nat.le_refl _⟩,zW⟩
         case round =>
          clear H';obtain ⟨vT,rfl,HA,HK3,⟨m3,rfl⟩⟩:=hrel;cases gk with
          | zero=>exact absurd HA.out (by simp [bT.l0])
          | succ k3 =>
           have H:=HA.out;clear HA;simp only [bT.l0] at H;by_cases c15:vT < 0
           ·rw [if_pos c15] at H;have axd:=decide_eq_true c15;clear c15;have H':=aj.mk H;clear H;go_wp2;go_roundg k3
            case measure=>have:=HJ3.out;have:=HJ8.out;have:=HK3.out;omega
            case rel=>exact ⟨(wrap64 (vT+(wrap64 (2*a2)))),zT,H',⟨by have:=HJ3.out;have:=HJ8.out;have:=HK3.out;omega⟩,zW⟩
           ·rw [if_neg c15] at H;have axd:=decide_eq_false c15;clear c15;by_cases c16:vT < a2
            ·rw [if_pos c16] at H;have arV:=decide_eq_true c16;clear c16;obtain rfl:=Option.some.inj H;go_wp2;go_ret;exact ⟨zT,zW⟩
            ·rw [if_neg c16] at H;have arV:=decide_eq_false c16;clear c16;by_cases c17:a0=2
             ·rw [if_pos c17] at H;have arW:(a0 == 2)=true:=beq_iff_eq.mpr c17;have aBY:(a0 != 2)=false:=bne_eq_false_iff_eq.mpr c17;clear c17;obtain rfl:=Option.some.inj H;go_wp2;go_ret;exact ⟨zT,zW⟩
             ·rw [if_neg c17] at H;have arW:(a0 == 2)=false:=beq_eq_false_iff_ne.mpr c17;have aBY:(a0 != 2)=true:=bne_iff_ne.mpr c17;obtain rfl:=Option.some.inj H;go_wp2;go_ret;exact ⟨zT,zW⟩
def pR.f (aT bf bY dB:Int) (bZ:List Int) (a1 a2 a3:Int):Option (Bool):=if a1≥0 then (if a2≥0 then (if a3≥0 then (if a1 < aT then (if a2 < bf then (some (decide (a3 < bY))) else (some false)) else (some false)) else (some false)) else (some false)) else (some false)
theorem pR.calls (aT bf bY dB:Int) (iE:Option Addr) (iF:Nat) (bZ:List Int) (a1 a2 a3:Int) (r:Bool) (w:World) (oD:Kd.C (Kd.int .u16) w iE bZ.length bZ) (oG:bZ.length≤iF) (h:pR.f aT bf bY dB bZ a1 a2 a3=some r) :
  Calls Tryz.prog 102 #[.agg #[.int .i64 aT,.int .i64 bf,.int .i64 bY,.int .i64 dB,.slice iE bZ.length iF],.int .i64 a1,.int .i64 a2,.int .i64 a3] w fun e w'=>e = .returned (.bool r)∧Below w.heap.size w w':=by
 have arX:=Tryz.underlying88;have um:=aj.mk oD;have uK:=aj.mk oG;clear oD oG;have HB:=aj.mk (Below.refl w.heap.size w);have H:=h;clear h;unfold pR.f at H;by_cases c5:a1≥0
 ·rw [if_pos c5] at H;have gJ:=decide_eq_true c5;clear c5;by_cases c6:a2≥0
  ·rw [if_pos c6] at H;have gI:=decide_eq_true c6;clear c6;by_cases c7:a3≥0
   ·rw [if_pos c7] at H;have jr:=decide_eq_true c7;clear c7;by_cases c8:a1 < aT
    ·rw [if_pos c8] at H;have qg:=decide_eq_true c8;clear c8;by_cases c9:a2 < bf
     ·rw [if_pos c9] at H;have o8:=decide_eq_true c9;clear c9;obtain rfl:=Option.some.inj H;go_enter Tryz.func102,Tryz.ntmps102;go_wp2_with (first|((with_reducible refine aZ (N:=4) rfl ?_);refine aX zR (N:=4) zR (cs := #[.int .i64 aT,.int .i64 bf,.int .i64 bY,.int .i64 dB,.slice iE bZ.length iF]) (t:=88) zG ?_;intro akd hg w10 hbox hb;obtain ⟨HB,abA,ake,akf⟩:=zA4 (ak zB hb) hbox (zg hg zB) (zg hg zB);clear hb hbox hg;obtain ⟨_,_,_,_,_⟩:=zC5 abA.out;obtain ⟨_,_,_,_,_⟩:=zF5 abA.out));go_ret;exact ⟨zS,zB⟩
     ·rw [if_neg c9] at H;have o8:=decide_eq_false c9;clear c9;obtain rfl:=Option.some.inj H;go_enter Tryz.func102,Tryz.ntmps102;go_wp2_with (first|((with_reducible refine aZ (N:=4) rfl ?_);refine aX zR (N:=4) zR (cs := #[.int .i64 aT,.int .i64 bf,.int .i64 bY,.int .i64 dB,.slice iE bZ.length iF]) (t:=88) zG ?_;intro akd hg w12 hbox hb;obtain ⟨HB,abA,ake,akf⟩:=zA4 (ak zB hb) hbox (zg hg zB) (zg hg zB);clear hb hbox hg;obtain ⟨_,_,_,_,_⟩:=zC5 abA.out;obtain ⟨_,_,_,_,_⟩:=zF5 abA.out));go_ret;exact ⟨zS,zB⟩
    ·rw [if_neg c8] at H;have qg:=decide_eq_false c8;clear c8;obtain rfl:=Option.some.inj H;go_enter Tryz.func102,Tryz.ntmps102;go_wp2_with (first|((with_reducible refine aZ (N:=4) rfl ?_);refine aX zR (N:=4) zR (cs := #[.int .i64 aT,.int .i64 bf,.int .i64 bY,.int .i64 dB,.slice iE bZ.length iF]) (t:=88) zG ?_;intro akd hg w14 hbox hb;obtain ⟨HB,abA,ake,akf⟩:=zA4 (ak zB hb) hbox (zg hg zB) (zg hg zB);clear hb hbox hg;obtain ⟨_,_,_,_,_⟩:=zC5 abA.out;obtain ⟨_,_,_,_,_⟩:=zF5 abA.out));go_ret;exact ⟨zS,zB⟩
   ·rw [if_neg c7] at H;have jr:=decide_eq_false c7;clear c7;obtain rfl:=Option.some.inj H;go_enter Tryz.func102,Tryz.ntmps102;go_wp2_with (first|((with_reducible refine aZ (N:=4) rfl ?_);refine aX zR (N:=4) zR (cs := #[.int .i64 aT,.int .i64 bf,.int .i64 bY,.int .i64 dB,.slice iE bZ.length iF]) (t:=88) zG ?_;intro akd hg w16 hbox hb;obtain ⟨HB,abA,ake,akf⟩:=zA4 (ak zB hb) hbox (zg hg zB) (zg hg zB);clear hb hbox hg));go_ret;exact ⟨zS,zB⟩
  ·rw [if_neg c6] at H;have gI:=decide_eq_false c6;clear c6;obtain rfl:=Option.some.inj H;go_enter Tryz.func102,Tryz.ntmps102;go_wp2_with (first|((with_reducible refine aZ (N:=4) rfl ?_);refine aX zR (N:=4) zR (cs := #[.int .i64 aT,.int .i64 bf,.int .i64 bY,.int .i64 dB,.slice iE bZ.length iF]) (t:=88) zG ?_;intro akd hg w17 hbox hb;obtain ⟨HB,abA,ake,akf⟩:=zA4 (ak zB hb) hbox (zg hg zB) (zg hg zB);clear hb hbox hg));go_ret;exact ⟨zS,zB⟩
 ·rw [if_neg c5] at H;have gJ:=decide_eq_false c5;clear c5;obtain rfl:=Option.some.inj H;go_enter Tryz.func102,Tryz.ntmps102;go_wp2_with (first|((with_reducible refine aZ (N:=4) rfl ?_);refine aX zR (N:=4) zR (cs := #[.int .i64 aT,.int .i64 bf,.int .i64 bY,.int .i64 dB,.slice iE bZ.length iF]) (t:=88) zG ?_;intro akd hg w18 hbox hb;obtain ⟨HB,abA,ake,akf⟩:=zA4 (ak zB hb) hbox (zg hg zB) (zg hg zB);clear hb hbox hg));go_ret;exact ⟨zS,zB⟩
def nS.f (aT bf bY dB:Int) (bZ:List Int) (a1 a2 a3:Int):Option (Int):=(pR.f aT bf bY dB bZ a1 a2 a3).bind fun avf=>(if avf=true then (if 0≤(wrap64 ((wrap64 ((wrap64 ((wrap64 (a2*aT))*bY))+(wrap64 (a1*bY))))+a3)) then (if (wrap64 ((wrap64 ((wrap64 ((wrap64 (a2*aT))*bY))+(wrap64 (a1*bY))))+a3)) < (bZ.length:Int) then (some (rd bZ (wrap64 ((wrap64 ((wrap64 ((wrap64 (a2*aT))*bY))+(wrap64 (a1*bY))))+a3)))) else (none)) else (none)) else (some 0))
theorem nS.calls (aT bf bY dB:Int) (iE:Option Addr) (iF:Nat) (bZ:List Int) (a1 a2 a3 r:Int) (w:World) (oD:Kd.C (Kd.int .u16) w iE bZ.length bZ) (oG:bZ.length≤iF) (h:nS.f aT bf bY dB bZ a1 a2 a3=some r) :
  Calls Tryz.prog 79 #[.agg #[.int .i64 aT,.int .i64 bf,.int .i64 bY,.int .i64 dB,.slice iE bZ.length iF],.int .i64 a1,.int .i64 a2,.int .i64 a3] w fun e w'=>e = .returned (.int .u16 r)∧Below w.heap.size w w':=by
 have arX:=Tryz.underlying88;have um:=aj.mk oD;have uK:=aj.mk oG;clear oD oG;have HB:=aj.mk (Below.refl w.heap.size w);have H:=h;clear h;unfold nS.f at H;replace H:=zO H;obtain ⟨avf,A5,H⟩:=H;try dsimp only at H
 by_cases c6:avf=true
 ·subst c6;rw [if_pos rfl] at H;(try dsimp only at H);obtain ⟨ji7,uF⟩:∃ j_:Int,(wrap64 ((wrap64 ((wrap64 ((wrap64 (a2*aT))*bY))+(wrap64 (a1*bY))))+a3))=j_:=⟨_,rfl⟩;replace H:(if 0≤(ji7) then (if (ji7) < (bZ.length:Int) then (some (rd bZ (ji7))) else (none)) else (none))=some r:=by first|(rw [uF] at H;exact H)|(simp only [uF] at H ⊢;exact H)
  (try rw [uF] at A5)
  have aBZ:(IntKind.i64.wrap ((wrap64 ((wrap64 ((wrap64 (a2*aT))*bY))+(wrap64 (a1*bY))))+a3))=ji7:=(bP _).trans uF;by_cases c8:0≤(ji7)
  ·rw [if_pos c8] at H;have qg:=decide_eq_true c8;clear c8;by_cases c9:(ji7) < (bZ.length:Int)
   ·rw [if_pos c9] at H;have o8:=decide_eq_true c9;clear c9;obtain rfl:=Option.some.inj H;go_enter Tryz.func79,Tryz.ntmps79;go_wp2_with (first|((with_reducible refine aZ (N:=4) rfl ?_);refine aX zR (N:=4) zR (cs := #[.int .i64 aT,.int .i64 bf,.int .i64 bY,.int .i64 dB,.slice iE bZ.length iF]) (t:=88) zG ?_;intro aB0 hg w10 hbox hb;obtain ⟨HB,abB,aB1,aB2⟩:=zA4 (ak zB hb) hbox (zg hg zB) (zg hg zB);clear hb hbox hg;obtain ⟨_,_,_,_,_⟩:=zC5 abB.out;obtain ⟨_,_,_,_,_⟩:=zF5 abB.out)|((with_reducible refine ay (f:=102) rfl ?_);refine aH (some 13) rfl rfl Tryz.func102 (by kernel_rfl) rfl #[.agg #[.int .i64 aT,.int .i64 bf,.int .i64 bY,.int .i64 dB,.slice iE bZ.length iF],.int .i64 a1,.int .i64 a2,.int .i64 a3] rfl zL ?_;(with_reducible refine (pR.calls aT bf bY dB _ _ bZ a1 a2 a3 true _ ?iC ?iD A5.out).mono ?_);(case iC=>repeat (first|exact (Kd.bF um.out HB.out)|(with_reducible refine Kd.iT ?_ _)|(with_reducible refine Kd.jg ?_ _)|(with_reducible refine Kd.jH ?_)));(case iD=>exact uK.out);rintro e w12 ⟨rfl,hb⟩;refine ⟨_,rfl,?_⟩;obtain ⟨abB,HB⟩:=zA2 (aA (zK abB) hb) (ak zB hb);(try clear hb);obtain ⟨_,_,_,_,_⟩:=zC5 abB.out;obtain ⟨_,_,_,_,_⟩:=zF5 abB.out;have avg:0≤((ji7):Int):=of_decide_eq_true (by first|(with_reducible assumption)|assumption);have avh:(ji7) < (bZ.length:Int):=of_decide_eq_true (by first|(with_reducible assumption)|assumption);obtain ⟨aHK,aDl,alh⟩:=Kd.iY um.out (ji7) avg avh;cases aDl;replace alh:=(HB.out.cell (World.block_lt_of_cell? w _ alh)).trans alh;replace avg:=eq_true avg;replace avh:=eq_true avh));go_ret;exact ⟨by first|rfl|(simp [bJ,bK] <;> rfl)|(simp only [← uF];first|rfl|(simp [bJ,bK] <;> rfl))|(simp [*,bJ,bK] <;> rfl),zB⟩
   ·rw [if_neg c9] at H;exact absurd H (by simp)
  ·rw [if_neg c8] at H;exact absurd H (by simp)
 ·replace c6:=Bool.eq_false_iff.mpr c6;subst c6;rw [if_neg (show ¬ (false=true) by decide)] at H;(try dsimp only at H);obtain rfl:=Option.some.inj H;go_enter Tryz.func79,Tryz.ntmps79;go_wp2_with (first|((with_reducible refine aZ (N:=4) rfl ?_);refine aX zR (N:=4) zR (cs := #[.int .i64 aT,.int .i64 bf,.int .i64 bY,.int .i64 dB,.slice iE bZ.length iF]) (t:=88) zG ?_;intro aB0 hg w14 hbox hb;obtain ⟨HB,abB,aB1,aB2⟩:=zA4 (ak zB hb) hbox (zg hg zB) (zg hg zB);clear hb hbox hg;obtain ⟨_,_,_,_,_⟩:=zC5 abB.out;obtain ⟨_,_,_,_,_⟩:=zF5 abB.out)|((with_reducible refine ay (f:=102) rfl ?_);refine aH (some 13) rfl rfl Tryz.func102 (by kernel_rfl) rfl #[.agg #[.int .i64 aT,.int .i64 bf,.int .i64 bY,.int .i64 dB,.slice iE bZ.length iF],.int .i64 a1,.int .i64 a2,.int .i64 a3] rfl zL ?_;(with_reducible refine (pR.calls aT bf bY dB _ _ bZ a1 a2 a3 false _ ?iC ?iD A5.out).mono ?_);(case iC=>repeat (first|exact (Kd.bF um.out HB.out)|(with_reducible refine Kd.iT ?_ _)|(with_reducible refine Kd.jg ?_ _)|(with_reducible refine Kd.jH ?_)));(case iD=>exact uK.out);rintro e w16 ⟨rfl,hb⟩;refine ⟨_,rfl,?_⟩;obtain ⟨abB,HB⟩:=zA2 (aA (zK abB) hb) (ak zB hb);(try clear hb)));go_ret;exact ⟨zS,zB⟩
mutual
def dV.l0:Nat→Int→Int→Int→Int→List Int→Int→Int→Int→Int→Int→Int→List Int→List (jo)→List (jo)→Int→Int→Int→Option (Int)
 | 0,_,_,_,_,_,_,_,_,_,_,_,_,_,_,_,_,_=>none
 | k+1,x2,x3,x4,x11,x24,x25,x26,adr,ads,ae1,ae2,ae3,adt,zU,ahV,ahW,adu=>if x26 < x25 then (if 0≤x26 then (if x26 < (x24.length:Int) then (if 0≤x2 then (if x2 < (adt.length:Int) then ((bT.f k adu (wrap64 (((iP adt x2).f0)+x26)) adr).bind fun aeM=>(if 0≤x3 then (if x3 < (zU.length:Int) then (dV.l1 k x2 x3 x4 x11 (rd x24 x26) aeM 0 x24 x25 x26 ((iP zU x3).f1) (((iP zU x3).f1).length:Int) 0 adr ads ae1 ae2 ae3 adt zU ahV ahW adu) else (none)) else (none))) else (none)) else (none)) else (none)) else (none)) else (some x11)
def dV.l1:Nat→Int→Int→Int→Int→Int→Int→Int→List Int→Int→Int→List Int→Int→Int→Int→Int→Int→Int→List Int→List (jo)→List (jo)→Int→Int→Int→Option (Int)
 | 0,_,_,_,_,_,_,_,_,_,_,_,_,_,_,_,_,_,_,_,_,_,_,_=>none
 | k+1,x2,x3,x4,x11,x13,x14,x15,x24,x25,x26,x49,x50,x51,adr,ads,ae1,ae2,ae3,adt,zU,ahV,ahW,adu=>if x51 < x50 then (if 0≤x51 then (if x51 < (x49.length:Int) then (if 0≤x3 then (if x3 < (zU.length:Int) then ((bT.f k adu (wrap64 (((iP zU x3).f0)+x51)) ads).bind fun ahh=>((nS.f adr ads ae1 ae2 ae3 x14 ahh x4).bind fun ali=>(dV.l1 k x2 x3 x4 x11 x13 x14 (wrap64 (x15+(wrap64 ((rd x49 x51)*(wrap64 (ali)))))) x24 x25 x26 x49 x50 (wrap64 (x51+1)) adr ads ae1 ae2 ae3 adt zU ahV ahW adu))) else (none)) else (none)) else (none)) else (none)) else (dV.l0 k x2 x3 x4 (wrap64 (x11+(wrap64 (x13*x15)))) x24 x25 (wrap64 (x26+1)) adr ads ae1 ae2 ae3 adt zU ahV ahW adu)
end
def dV.f (k:Nat) (aT bf bY dB:Int) (bZ:List Int) (gQ:List (jo)) (iy:List (jo)) (kY kZ nK a2 a3 a4:Int):Option (Int):=if 0≤a2 then (if a2 < (gQ.length:Int) then (dV.l0 k a2 a3 a4 0 ((iP gQ a2).f1) (((iP gQ a2).f1).length:Int) 0 aT bf bY dB bZ gQ iy kY kZ nK) else (none)) else (none)
theorem dV.calls (k:Nat) (aT bf bY dB:Int) (iE:Option Addr) (iF:Nat) (bZ:List Int) (aaK:Option Addr) (zi:Nat) (gQ:List (jo)) (aam:Option Addr) (zk:Nat) (iy:List (jo)) (kY kZ nK a2 a3 a4 r:Int) (w:World) (oD:Kd.C (Kd.int .u16) w iE bZ.length bZ) (oG:bZ.length≤iF) (akg:Kd.C tN w aaK gQ.length gQ) (akh:gQ.length≤zi) (aki:Kd.C tN w aam iy.length iy) (akj:iy.length≤zk) (h:dV.f k aT bf bY dB bZ gQ iy kY kZ nK a2 a3 a4=some r) :
  Calls Tryz.prog 40 #[.agg #[.int .i64 aT,.int .i64 bf,.int .i64 bY,.int .i64 dB,.slice iE bZ.length iF],.agg #[.slice aaK gQ.length zi,.slice aam iy.length zk,.int .i64 kY,.int .i64 kZ,.int .i64 nK],.int .i64 a2,.int .i64 a3,.int .i64 a4] w fun e w'=>e = .returned (.int .i64 r)∧Below w.heap.size w w':=by
 have arX:=Tryz.underlying88;have aDm:=Tryz.underlying41;have um:=aj.mk oD;have uK:=aj.mk oG;clear oD oG;have ahX:=aj.mk akg;have axe:=aj.mk akh;clear akg akh;have afG:=aj.mk aki;have axf:=aj.mk akj;clear aki akj;have HB:=aj.mk (Below.refl w.heap.size w);have H:=h;clear h;unfold dV.f at H;by_cases c6:0≤a2
 ·rw [if_pos c6] at H;have gI:=decide_eq_true c6;clear c6;by_cases c7:a2 < (gQ.length:Int)
  ·rw [if_pos c7] at H;have jr:=decide_eq_true c7;clear c7;have H':=aj.mk H;clear H;go_enter Tryz.func40,Tryz.ntmps40;go_wp2_with (first|((with_reducible refine aZ (N:=5) rfl ?_);refine aX zR (N:=5) zR (cs := #[.int .i64 aT,.int .i64 bf,.int .i64 bY,.int .i64 dB,.slice iE bZ.length iF]) (t:=88) zG ?_;intro ano hg w8 hbox hb;obtain ⟨HB,mD,axg,axh⟩:=zA4 (ak zB hb) hbox (zg hg zB) (zg hg zB);clear hb hbox hg)|((with_reducible refine aZ (N:=6) rfl ?_);refine aX zR (N:=6) zR (cs := #[.slice aaK gQ.length zi,.slice aam iy.length zk,.int .i64 kY,.int .i64 kZ,.int .i64 nK]) (t:=41) zG ?_;intro anp hg w9 hbox hb;obtain ⟨mD,HB,pX,axi,axj,zo,zu⟩:=zA7 (aA (zK mD) hb) (ak zB hb) hbox (zg hg zB) (zg hg zB) (zl hg (zK mD)) (zr hg (zK mD));clear hb hbox hg;have ajF:=zu.out;have ajG:=zo.out;obtain ⟨_,_,_,_,_⟩:=zC5 pX.out;obtain ⟨_,_,_,_,_⟩:=zF5 pX.out;have adU:0≤(a2:Int):=of_decide_eq_true (by first|(with_reducible assumption)|assumption);have adV:a2 < (gQ.length:Int):=of_decide_eq_true (by first|(with_reducible assumption)|assumption);obtain ⟨akk,ate,atf,aoF,wS,wU,aa2,aa3⟩:=zF ahX.out a2 adU adV;cases aoF;replace wS:=(HB.out.cell (World.block_lt_of_cell? w _ wS)).trans wS;replace wU:=(HB.out.cell (World.block_lt_of_cell? w _ wU)).trans wU;have alj:=aj.mk aa3;have aqh:=aj.mk aa2;clear aa3 aa2;replace adU:=eq_true adU;replace adV:=eq_true adV));repeat (go_quiet (first|((with_reducible refine aZ (N:=5) rfl ?_);refine aX zR (N:=5) zR (cs := #[.int .i64 aT,.int .i64 bf,.int .i64 bY,.int .i64 dB,.slice iE bZ.length iF]) (t:=88) zG ?_;intro ano hg w8 hbox hb;obtain ⟨HB,mD,axg,axh⟩:=zA4 (ak zB hb) hbox (zg hg zB) (zg hg zB);clear hb hbox hg)|((with_reducible refine aZ (N:=6) rfl ?_);refine aX zR (N:=6) zR (cs := #[.slice aaK gQ.length zi,.slice aam iy.length zk,.int .i64 kY,.int .i64 kZ,.int .i64 nK]) (t:=41) zG ?_;intro anp hg w9 hbox hb;obtain ⟨mD,HB,pX,axi,axj,zo,zu⟩:=zA7 (aA (zK mD) hb) (ak zB hb) hbox (zg hg zB) (zg hg zB) (zl hg (zK mD)) (zr hg (zK mD));clear hb hbox hg;have ajF:=zu.out;have ajG:=zo.out;obtain ⟨_,_,_,_,_⟩:=zC5 pX.out;obtain ⟨_,_,_,_,_⟩:=zF5 pX.out;have adU:0≤(a2:Int):=of_decide_eq_true (by first|(with_reducible assumption)|assumption);have adV:a2 < (gQ.length:Int):=of_decide_eq_true (by first|(with_reducible assumption)|assumption);obtain ⟨akk,ate,atf,aoF,wS,wU,aa2,aa3⟩:=zF ahX.out a2 adU adV;cases aoF;replace wS:=(HB.out.cell (World.block_lt_of_cell? w _ wS)).trans wS;replace wU:=(HB.out.cell (World.block_lt_of_cell? w _ wU)).trans wU;have alj:=aj.mk aa3;have aqh:=aj.mk aa2;clear aa3 aa2;replace adU:=eq_true adU;replace adV:=eq_true adV));try go_wp2_with (first|((with_reducible refine aZ (N:=5) rfl ?_);refine aX zR (N:=5) zR (cs := #[.int .i64 aT,.int .i64 bf,.int .i64 bY,.int .i64 dB,.slice iE bZ.length iF]) (t:=88) zG ?_;intro ano hg w8 hbox hb;obtain ⟨HB,mD,axg,axh⟩:=zA4 (ak zB hb) hbox (zg hg zB) (zg hg zB);clear hb hbox hg)|((with_reducible refine aZ (N:=6) rfl ?_);refine aX zR (N:=6) zR (cs := #[.slice aaK gQ.length zi,.slice aam iy.length zk,.int .i64 kY,.int .i64 kZ,.int .i64 nK]) (t:=41) zG ?_;intro anp hg w9 hbox hb;obtain ⟨mD,HB,pX,axi,axj,zo,zu⟩:=zA7 (aA (zK mD) hb) (ak zB hb) hbox (zg hg zB) (zg hg zB) (zl hg (zK mD)) (zr hg (zK mD));clear hb hbox hg;have ajF:=zu.out;have ajG:=zo.out;obtain ⟨_,_,_,_,_⟩:=zC5 pX.out;obtain ⟨_,_,_,_,_⟩:=zF5 pX.out;have adU:0≤(a2:Int):=of_decide_eq_true (by first|(with_reducible assumption)|assumption);have adV:a2 < (gQ.length:Int):=of_decide_eq_true (by first|(with_reducible assumption)|assumption);obtain ⟨akk,ate,atf,aoF,wS,wU,aa2,aa3⟩:=zF ahX.out a2 adU adV;cases aoF;replace wS:=(HB.out.cell (World.block_lt_of_cell? w _ wS)).trans wS;replace wU:=(HB.out.cell (World.block_lt_of_cell? w _ wU)).trans wU;have alj:=aj.mk aa3;have aqh:=aj.mk aa2;clear aa3 aa2;replace adU:=eq_true adU;replace adV:=eq_true adV)))
   go_loopg [11,26] k (fun kq v11 v26 w'=>∃ (akl:Int) (vF:Int),v11 = .int .i64 akl∧v26 = .int .i64 vF∧aj (dV.l0 kq a2 a3 a4 akl ((iP gQ a2).f1) (((iP gQ a2).f1).length:Int) vF aT bf bY dB bZ gQ iy kY kZ nK=some r)∧aj (kq≤k)∧aj (w'.heap[ano]? = some (.cells #[.int .i64 aT,.int .i64 bf,.int .i64 bY,.int .i64 dB,(.slice iE bZ.length iF)] 88 (0,0)))∧aj (w'.heap[anp]? = some (.cells #[(.slice (some akk) gQ.length zi),(.slice aam iy.length zk),.int .i64 kY,.int .i64 kZ,.int .i64 nK] 41 (0,0)))∧aj (Below w.heap.size w w'))
   case atStart=>exact ⟨(0),(0),zT,zT,H',⟨Nat.le_refl _⟩,⟨zK mD⟩,⟨zK pX⟩,⟨zB⟩⟩
   case round =>
    clear H';try clear hx5
    obtain ⟨akl,vF,rfl,rfl,HA,HK1,mD,pX,HB⟩:=hrel;cases gk with
    | zero=>exact absurd HA.out (by simp [dV.l0])
    | succ k1 =>
     have H:=HA.out;clear HA;simp only [dV.l0] at H;by_cases c12:vF < (((iP gQ a2).f1).length:Int)
     ·rw [if_pos c12] at H;have yL:=decide_eq_true c12;clear c12;by_cases c13:0≤vF
      ·rw [if_pos c13] at H;have zQ:=decide_eq_true c13;clear c13;by_cases c14:vF < (((iP gQ a2).f1).length:Int)
       ·rw [if_pos c14] at H;have acn:=decide_eq_true c14;clear c14;by_cases c15:0≤a2
        ·rw [if_pos c15] at H;have axd:=decide_eq_true c15;clear c15;by_cases c16:a2 < (gQ.length:Int)
         ·rw [if_pos c16] at H;have arV:=decide_eq_true c16;clear c16;replace H:=zO H;obtain ⟨aeM,A17,H⟩:=H;try dsimp only at H
          by_cases c18:0≤a3
          ·rw [if_pos c18] at H;have aB3:=decide_eq_true c18;clear c18;by_cases c19:a3 < (iy.length:Int)
           ·rw [if_pos c19] at H;have aw8:=decide_eq_true c19;clear c19;have H':=aj.mk H;clear H;have avi:0≤(vF:Int):=of_decide_eq_true (by first|(with_reducible assumption)|assumption);have avj:vF < (((iP gQ a2).f1).length:Int):=of_decide_eq_true (by first|(with_reducible assumption)|assumption);obtain ⟨aHL,aDn,alk⟩:=Kd.iY alj.out vF avi avj;cases aDn;replace alk:=(HB.out.cell (World.block_lt_of_cell? w _ alk)).trans alk;replace avi:=eq_true avi;replace avj:=eq_true avj;have arw:=zu.out;have arx:=zo.out;obtain ⟨_,_,_,_,_⟩:=zC5 pX.out;obtain ⟨_,_,_,_,_⟩:=zF5 pX.out;have avk:0≤(a2:Int):=of_decide_eq_true (by first|(with_reducible assumption)|assumption);have avl:a2 < (gQ.length:Int):=of_decide_eq_true (by first|(with_reducible assumption)|assumption);obtain ⟨aB4,aFy,aFz,aDo,alm,aln,aqi,aqj⟩:=zF ahX.out a2 avk avl;obtain rfl:akk=aB4:=(by injection aDo);replace alm:=(HB.out.cell (World.block_lt_of_cell? w _ alm)).trans alm;replace aln:=(HB.out.cell (World.block_lt_of_cell? w _ aln)).trans aln;have aFa:=aj.mk aqj;have aFb:=aj.mk aqi;clear aqj aqi;replace avk:=eq_true avk;replace avl:=eq_true avl;obtain ⟨_,_,_,_,_⟩:=zC5 mD.out;obtain ⟨_,_,_,_,_⟩:=zF5 mD.out;go_wp2_with (first|(go_at_call 78;(with_reducible refine (bT.calls k1 nK (wrap64 (((iP gQ a2).f0)+vF)) aT aeM _ A17.out).mono ?_);rintro e w' ⟨rfl,⟨nd,rfl⟩⟩;(try exact ⟨rfl,_,zN⟩);have aaL:0≤(a3:Int):=of_decide_eq_true (by first|(with_reducible assumption)|assumption);have aaM:a3 < (iy.length:Int):=of_decide_eq_true (by first|(with_reducible assumption)|assumption);obtain ⟨akm,aoG,aoH,aiX,qZ,ru,wW,wX⟩:=zF afG.out a3 aaL aaM;cases aiX;replace qZ:=(HB.out.cell (World.block_lt_of_cell? w _ qZ)).trans qZ;replace ru:=(HB.out.cell (World.block_lt_of_cell? w _ ru)).trans ru;have ahY:=aj.mk wX;have alo:=aj.mk wW;clear wX wW;replace aaL:=eq_true aaL;replace aaM:=eq_true aaM));first|(go_quiet (first|(go_at_call 78;(with_reducible refine (bT.calls k1 nK (wrap64 (((iP gQ a2).f0)+vF)) aT aeM _ A17.out).mono ?_);rintro e w' ⟨rfl,⟨nd,rfl⟩⟩;first|exact ⟨rfl,_,World.drewN_drewN _ _ _⟩|exact ⟨rfl,_,Eq.trans (World.drewN_drewN _ _ _) (congrArg (World.drewN _) (Nat.add_assoc _ _ _))⟩));have aaL:0≤(a3:Int):=of_decide_eq_true (by first|(with_reducible assumption)|assumption);have aaM:a3 < (iy.length:Int):=of_decide_eq_true (by first|(with_reducible assumption)|assumption);obtain ⟨akm,aoG,aoH,aiX,qZ,ru,wW,wX⟩:=zF afG.out a3 aaL aaM;cases aiX;replace qZ:=(HB.out.cell (World.block_lt_of_cell? w _ qZ)).trans qZ;replace ru:=(HB.out.cell (World.block_lt_of_cell? w _ ru)).trans ru;have ahY:=aj.mk wX;have alo:=aj.mk wW;clear wX wW;replace aaL:=eq_true aaL;replace aaM:=eq_true aaM;go_wp2)|(repeat (go_quiet (first|(go_at_call 78;(with_reducible refine (bT.calls k1 nK (wrap64 (((iP gQ a2).f0)+vF)) aT aeM _ A17.out).mono ?_);rintro e w' ⟨rfl,⟨nd,rfl⟩⟩;(try exact ⟨rfl,_,zN⟩);have aaL:0≤(a3:Int):=of_decide_eq_true (by first|(with_reducible assumption)|assumption);have aaM:a3 < (iy.length:Int):=of_decide_eq_true (by first|(with_reducible assumption)|assumption);obtain ⟨akm,aoG,aoH,aiX,qZ,ru,wW,wX⟩:=zF afG.out a3 aaL aaM;cases aiX;replace qZ:=(HB.out.cell (World.block_lt_of_cell? w _ qZ)).trans qZ;replace ru:=(HB.out.cell (World.block_lt_of_cell? w _ ru)).trans ru;have ahY:=aj.mk wX;have alo:=aj.mk wW;clear wX wW;replace aaL:=eq_true aaL;replace aaM:=eq_true aaM));try go_wp2_with (first|(go_at_call 78;(with_reducible refine (bT.calls k1 nK (wrap64 (((iP gQ a2).f0)+vF)) aT aeM _ A17.out).mono ?_);rintro e w' ⟨rfl,⟨nd,rfl⟩⟩;(try exact ⟨rfl,_,zN⟩);have aaL:0≤(a3:Int):=of_decide_eq_true (by first|(with_reducible assumption)|assumption);have aaM:a3 < (iy.length:Int):=of_decide_eq_true (by first|(with_reducible assumption)|assumption);obtain ⟨akm,aoG,aoH,aiX,qZ,ru,wW,wX⟩:=zF afG.out a3 aaL aaM;cases aiX;replace qZ:=(HB.out.cell (World.block_lt_of_cell? w _ qZ)).trans qZ;replace ru:=(HB.out.cell (World.block_lt_of_cell? w _ ru)).trans ru;have ahY:=aj.mk wX;have alo:=aj.mk wW;clear wX wW;replace aaL:=eq_true aaL;replace aaM:=eq_true aaM))))
            try simp only [Act.put,List.setIfInBounds_toArray,List.set_cons_succ,List.set_cons_zero]
            go_loopg [15,51] k1 (fun kq v15 v51 w'=>∃ (acr:Int) (yM:Int),v15 = .int .i64 acr∧v51 = .int .i64 yM∧aj (dV.l1 kq a2 a3 a4 akl (rd ((iP gQ a2).f1) vF) aeM acr ((iP gQ a2).f1) (((iP gQ a2).f1).length:Int) vF ((iP iy a3).f1) (((iP iy a3).f1).length:Int) yM aT bf bY dB bZ gQ iy kY kZ nK=some r)∧aj (kq≤k1)∧aj (w'.heap[ano]? = some (.cells #[.int .i64 aT,.int .i64 bf,.int .i64 bY,.int .i64 dB,(.slice iE bZ.length iF)] 88 (0,0)))∧aj (w'.heap[anp]? = some (.cells #[(.slice (some akk) gQ.length zi),(.slice (some akm) iy.length zk),.int .i64 kY,.int .i64 kZ,.int .i64 nK] 41 (0,0)))∧aj (Below w.heap.size w w'))
            case atStart=>exact ⟨(0),(0),zT,zT,H',⟨Nat.le_refl _⟩,⟨zK mD⟩,⟨zK pX⟩,⟨zB⟩⟩
            case round =>
             clear H';try clear hx5
             obtain ⟨acr,yM,rfl,rfl,HA,HK2,mD,pX,HB⟩:=hrel;cases gk with
             | zero=>exact absurd HA.out (by simp [dV.l1])
             | succ k2 =>
              have H:=HA.out;clear HA;simp only [dV.l1] at H;by_cases c23:yM < (((iP iy a3).f1).length:Int)
              ·rw [if_pos c23] at H;have ajY:=decide_eq_true c23;clear c23;by_cases c24:0≤yM
               ·rw [if_pos c24] at H;have axa:=decide_eq_true c24;clear c24;by_cases c25:yM < (((iP iy a3).f1).length:Int)
                ·rw [if_pos c25] at H;have aBN:=decide_eq_true c25;clear c25;by_cases c26:0≤a3
                 ·rw [if_pos c26] at H;have afE:=decide_eq_true c26;clear c26;by_cases c27:a3 < (iy.length:Int)
                  ·rw [if_pos c27] at H;have arK:=decide_eq_true c27;clear c27;replace H:=zO H;obtain ⟨ahh,A28,H⟩:=H;try dsimp only at H
                   replace H:=zO H;obtain ⟨ali,A29,H⟩:=H;try dsimp only at H
                   have H':=aj.mk H;clear H;have avm:0≤(yM:Int):=of_decide_eq_true (by first|(with_reducible assumption)|assumption);have avn:yM < (((iP iy a3).f1).length:Int):=of_decide_eq_true (by first|(with_reducible assumption)|assumption);obtain ⟨aHM,aDp,alp⟩:=Kd.iY ahY.out yM avm avn;cases aDp;replace alp:=(HB.out.cell (World.block_lt_of_cell? w _ alp)).trans alp;replace avm:=eq_true avm;replace avn:=eq_true avn;have am2:=zu.out;have am3:=zo.out;obtain ⟨_,_,_,_,_⟩:=zC5 pX.out;obtain ⟨_,_,_,_,_⟩:=zF5 pX.out;have avo:0≤(a3:Int):=of_decide_eq_true (by first|(with_reducible assumption)|assumption);have avp:a3 < (iy.length:Int):=of_decide_eq_true (by first|(with_reducible assumption)|assumption);obtain ⟨aB5,aFA,aFB,aDq,alq,alr,aqk,aql⟩:=zF afG.out a3 avo avp;obtain rfl:akm=aB5:=(by injection aDq);replace alq:=(HB.out.cell (World.block_lt_of_cell? w _ alq)).trans alq;replace alr:=(HB.out.cell (World.block_lt_of_cell? w _ alr)).trans alr;have aFc:=aj.mk aql;have aFd:=aj.mk aqk;clear aql aqk;replace avo:=eq_true avo;replace avp:=eq_true avp;obtain ⟨_,_,_,_,_⟩:=zC5 mD.out;obtain ⟨_,_,_,_,_⟩:=zF5 mD.out;go_wp2_with (first|(go_at_call 78;(with_reducible refine (bT.calls k2 nK (wrap64 (((iP iy a3).f0)+yM)) bf ahh _ A28.out).mono ?_);rintro e w' ⟨rfl,⟨nd,rfl⟩⟩;(try exact ⟨rfl,_,zN⟩))|(go_at_call 79;(with_reducible refine (nS.calls aT bf bY dB _ _ bZ aeM ahh a4 ali _ ?iC ?iD A29.out).mono ?_);(case iC=>repeat (first|exact (Kd.bF um.out zB)|(with_reducible refine Kd.iT ?_ _)|(with_reducible refine Kd.jg ?_ _)|(with_reducible refine Kd.jH ?_)));(case iD=>exact uK.out);rintro e w33 ⟨rfl,hb⟩;obtain ⟨mD,pX,HB⟩:=zA3 (aA (zK mD) hb) (aA (zK pX) hb) (ak zB hb);(try clear hb)));repeat (go_quiet (first|(go_at_call 78;(with_reducible refine (bT.calls k2 nK (wrap64 (((iP iy a3).f0)+yM)) bf ahh _ A28.out).mono ?_);rintro e w' ⟨rfl,⟨nd,rfl⟩⟩;(try exact ⟨rfl,_,zN⟩))|(go_at_call 79;(with_reducible refine (nS.calls aT bf bY dB _ _ bZ aeM ahh a4 ali _ ?iC ?iD A29.out).mono ?_);(case iC=>repeat (first|exact (Kd.bF um.out zB)|(with_reducible refine Kd.iT ?_ _)|(with_reducible refine Kd.jg ?_ _)|(with_reducible refine Kd.jH ?_)));(case iD=>exact uK.out);rintro e w33 ⟨rfl,hb⟩;obtain ⟨mD,pX,HB⟩:=zA3 (aA (zK mD) hb) (aA (zK pX) hb) (ak zB hb);(try clear hb)));try go_wp2_with (first|(go_at_call 78;(with_reducible refine (bT.calls k2 nK (wrap64 (((iP iy a3).f0)+yM)) bf ahh _ A28.out).mono ?_);rintro e w' ⟨rfl,⟨nd,rfl⟩⟩;(try exact ⟨rfl,_,zN⟩))|(go_at_call 79;(with_reducible refine (nS.calls aT bf bY dB _ _ bZ aeM ahh a4 ali _ ?iC ?iD A29.out).mono ?_);(case iC=>repeat (first|exact (Kd.bF um.out zB)|(with_reducible refine Kd.iT ?_ _)|(with_reducible refine Kd.jg ?_ _)|(with_reducible refine Kd.jH ?_)));(case iD=>exact uK.out);rintro e w33 ⟨rfl,hb⟩;obtain ⟨mD,pX,HB⟩:=zA3 (aA (zK mD) hb) (aA (zK pX) hb) (ak zB hb);(try clear hb))))
                   go_roundg k2
                   case measure=>have:=HK1.out;have:=HK2.out;omega
                   case rel=>exact ⟨(wrap64 (acr+(wrap64 ((rd ((iP iy a3).f1) yM)*(wrap64 (ali)))))),(wrap64 (yM+1)),zT,zT,H',⟨by have:=HK1.out;have:=HK2.out;omega⟩,⟨zK mD⟩,⟨zK pX⟩,⟨zB⟩⟩
                  ·rw [if_neg c27] at H;exact absurd H (by simp)
                 ·rw [if_neg c26] at H;exact absurd H (by simp)
                ·rw [if_neg c25] at H;exact absurd H (by simp)
               ·rw [if_neg c24] at H;exact absurd H (by simp)
              ·rw [if_neg c23] at H;have ajY:=decide_eq_false c23;clear c23;have H':=aj.mk H;clear H;go_wp2;repeat (go_quiet (fail);try go_wp2)
               go_roundg k2
               case measure=>have:=HK1.out;have:=HK2.out;omega
               case rel=>exact ⟨(wrap64 (akl+(wrap64 ((rd ((iP gQ a2).f1) vF)*acr)))),(wrap64 (vF+1)),zT,zT,H',⟨by have:=HK1.out;have:=HK2.out;omega⟩,⟨zK mD⟩,⟨zK pX⟩,⟨zB⟩⟩
           ·rw [if_neg c19] at H;exact absurd H (by simp)
          ·rw [if_neg c18] at H;exact absurd H (by simp)
         ·rw [if_neg c16] at H;exact absurd H (by simp)
        ·rw [if_neg c15] at H;exact absurd H (by simp)
       ·rw [if_neg c14] at H;exact absurd H (by simp)
      ·rw [if_neg c13] at H;exact absurd H (by simp)
     ·rw [if_neg c12] at H;have yL:=decide_eq_false c12;clear c12;obtain rfl:=Option.some.inj H;go_wp2;repeat (go_quiet (fail);try go_wp2)
      go_ret;exact ⟨zS,zB⟩
  ·rw [if_neg c7] at H;exact absurd H (by simp)
 ·rw [if_neg c6] at H;exact absurd H (by simp)
mutual
def dS.j0:Nat→Int→Int→Option (Int)
 | 0,_,_=>none
 | k+1,x1,x5=>if x1 > 65535 then (dS.j1 k 65535 x5) else (dS.j1 k x1 x5)
def dS.j1:Nat→Int→Int→Option (Int)
 | 0,_,_=>none
 | k+1,x1,x5=>if x5 < 0 then (some 0) else (if x5 > x1 then (some (IntKind.u16.wrap (x1))) else (some (IntKind.u16.wrap (x5))))
end
def dS.f (k:Nat) (a0 a1:Int):Option (Int):=(aK.f k a0 28).bind fun ahi=>(if a1 < 0 then (dS.j0 k 0 ahi) else (dS.j0 k a1 ahi))
theorem dS.calls (k:Nat) (a0 a1 r:Int) (w:World) (h:dS.f k a0 a1=some r) :
  Calls Tryz.prog 75 #[.int .i64 a0,.int .i64 a1] w fun e w'=>e = .returned (.int .u16 r)∧Below w.heap.size w w':=by
 have HB:=aj.mk (Below.refl w.heap.size w);have H:=h;clear h;unfold dS.f at H;replace H:=zO H;obtain ⟨ahi,A3,H⟩:=H;try dsimp only at H
 have HC4:=aj.mk H;clear H;go_enter Tryz.func75,Tryz.ntmps75;go_upto_if 9 with (first|((with_reducible refine ay (f:=101) rfl ?_);refine aH (some 7) rfl rfl Tryz.func101 (by kernel_rfl) rfl #[.int .i64 a0,.int .i64 28] rfl zL ?_;(with_reducible refine (aK.calls k a0 28 ahi _ A3.out).mono ?_);rintro e w5 ⟨rfl,hb⟩;refine ⟨_,rfl,?_⟩;replace HB:=aj.mk (ak zB hb);(try clear hb)))
 (try simp only [Act.put,List.setIfInBounds_toArray,List.set_cons_zero,List.set_cons_succ])
 go_cut [1] (fun v1 wc=>∃ (kq:Nat) (aoI:Int),v1 = .int .i64 aoI∧aj (dS.j0 kq aoI ahi=some r)∧aj (kq≤k)∧aj (Below w.heap.size w wc))
 case first =>
  have H:=HC4.out;clear HC4;by_cases c6:a1 < 0
  ·rw [if_pos c6] at H;have gI:=decide_eq_true c6;clear c6
   (first|rw [gI]|(simp only [bP,bU];rw [gI])|skip)
   have H':=aj.mk H;clear H;go_wp2;go_meet
   case rel=>exact ⟨_,(0),zT,H',⟨by first|omega|exact Nat.le_refl _⟩,⟨zB⟩⟩
  ·rw [if_neg c6] at H;have gI:=decide_eq_false c6;clear c6
   (first|rw [gI]|(simp only [bP,bU];rw [gI])|skip)
   have H':=aj.mk H;clear H;go_wp2;go_meet
   case rel=>exact ⟨_,(a1),zT,H',⟨by first|omega|exact Nat.le_refl _⟩,⟨zB⟩⟩
 case rest =>
  clear HC4;obtain ⟨kq,aoI,rfl,HA,HJ3,HB⟩:=hcut;cases kq with
  | zero=>exact absurd HA.out (by simp [dS.j0])
  | succ kj3 =>
   have H:=HA.out;clear HA;simp only [dS.j0] at H;have HC7:=aj.mk H;clear H;go_upto_if 11 with (fail)
   go_cut [1] (fun v1 wc=>∃ (kq:Nat) (arY:Int),v1 = .int .i64 arY∧aj (dS.j1 kq arY ahi=some r)∧aj (kq≤kj3)∧aj (Below w.heap.size w wc))
   case first =>
    have H:=HC7.out;clear HC7;by_cases c8:aoI > 65535
    ·rw [if_pos c8] at H;have qg:=decide_eq_true c8;clear c8
     (first|rw [qg]|(simp only [bP,bU];rw [qg])|skip)
     have H':=aj.mk H;clear H;go_wp2;go_meet
     case rel=>exact ⟨_,(65535),zT,H',⟨by have:=HJ3.out;first|omega|exact Nat.le_refl _⟩,⟨zB⟩⟩
    ·rw [if_neg c8] at H;have qg:=decide_eq_false c8;clear c8
     (first|rw [qg]|(simp only [bP,bU];rw [qg])|skip)
     have H':=aj.mk H;clear H;go_wp2;go_meet
     case rel=>exact ⟨_,(aoI),zT,H',⟨by have:=HJ3.out;first|omega|exact Nat.le_refl _⟩,⟨zB⟩⟩
   case rest =>
    clear HC7;obtain ⟨kq,arY,rfl,HA,HJ6,HB⟩:=hcut;cases kq with
    | zero=>exact absurd HA.out (by simp [dS.j1])
    | succ kj6 =>
     have H:=HA.out;clear HA;simp only [dS.j1] at H;by_cases c9:ahi < 0
     ·rw [if_pos c9] at H;have o8:=decide_eq_true c9;clear c9;obtain rfl:=Option.some.inj H;go_wp2;go_ret;exact ⟨zS,zB⟩
     ·rw [if_neg c9] at H;have o8:=decide_eq_false c9;clear c9;by_cases c10:ahi > arY
      ·rw [if_pos c10] at H;have mg:=decide_eq_true c10;clear c10;obtain rfl:=Option.some.inj H;go_wp2;go_ret;exact ⟨zS,zB⟩
      ·rw [if_neg c10] at H;have mg:=decide_eq_false c10;clear c10;obtain rfl:=Option.some.inj H;go_wp2;go_ret;exact ⟨zS,zB⟩
mutual
def bn.l0:Nat→Int→Int→Int→Int→Int→Int→List Int→List (jo)→List (jo)→Int→Int→Int→Int→Int→Int→Int→List Int→Option (Int × Int × Int × Int × List Int)
 | 0,_,_,_,_,_,_,_,_,_,_,_,_,_,_,_,_,_=>none
 | k+1,x22,x23,aa4,aa5,zV,zX,aa6,zY,aa7,aa8,aa9,abb,abd,abe,abf,abg,zZ=>if x23 < x22 then (bn.l1 k x23 x22 x23 (zY.length:Int) 0 aa4 aa5 zV zX aa6 zY aa7 aa8 aa9 abb abd abe abf abg zZ) else (some (abd,abe,abf,abg,zZ))
def bn.l1:Nat→Int→Int→Int→Int→Int→Int→Int→Int→Int→List Int→List (jo)→List (jo)→Int→Int→Int→Int→Int→Int→Int→List Int→Option (Int × Int × Int × Int × List Int)
 | 0,_,_,_,_,_,_,_,_,_,_,_,_,_,_,_,_,_,_,_,_=>none
 | k+1,x6,x22,x23,x28,x29,aa4,aa5,zV,zX,aa6,zY,aa7,aa8,aa9,abb,abd,abe,abf,abg,zZ=>if x29 < x28 then (bn.l2 k x6 x29 x22 x23 x28 x29 zV 0 aa4 aa5 zV zX aa6 zY aa7 aa8 aa9 abb abd abe abf abg zZ) else (bn.l0 k x22 (wrap64 (x23+1)) aa4 aa5 zV zX aa6 zY aa7 aa8 aa9 abb abd abe abf abg zZ)
def bn.l2:Nat→Int→Int→Int→Int→Int→Int→Int→Int→Int→Int→Int→Int→List Int→List (jo)→List (jo)→Int→Int→Int→Int→Int→Int→Int→List Int→Option (Int × Int × Int × Int × List Int)
 | 0,_,_,_,_,_,_,_,_,_,_,_,_,_,_,_,_,_,_,_,_,_,_,_=>none
 | k+1,x6,x7,x22,x23,x28,x29,x33,x34,aa4,aa5,zV,zX,aa6,zY,aa7,aa8,aa9,abb,abd,abe,abf,abg,zZ=>if x34 < x33 then ((dV.f k aa4 aa5 zV zX aa6 zY aa7 aa8 aa9 abb x7 x6 x34).bind fun aoJ=>((dS.f k aoJ zX).bind fun als=>(if zZ.length < 70368744177664 then (bn.l2 k x6 x7 x22 x23 x28 x29 x33 (wrap64 (x34+1)) aa4 aa5 zV zX aa6 zY aa7 aa8 aa9 abb abd abe abf abg (zZ ++ [als])) else (none)))) else (bn.l1 k x6 x22 x23 x28 (wrap64 (x29+1)) aa4 aa5 zV zX aa6 zY aa7 aa8 aa9 abb abd abe abf abg zZ)
end
def bn.f (k:Nat) (aT bf bY dB:Int) (bZ:List Int) (gQ:List (jo)) (iy:List (jo)) (kY kZ nK:Int):Option (Int × Int × Int × Int × List Int):=bn.l0 k (iy.length:Int) 0 aT bf bY dB bZ gQ iy kY kZ nK (gQ.length:Int) (iy.length:Int) bY dB ([]:List Int)
def bn.T11:Bool × List (List Nat × List Nat):=(true,[([],[]),([0],[0]),([],[]),([],[]),([],[]),([],[]),([],[]),([2,3,4,5,6],[2,3,4,5,6]),([],[]),([8],[8]),([7,9,7],[7,9]),([10],[10]),([1,11,10],[1,11]),([0,1,2,3,4,5,6,7,8,9,10,11,12],[]),([13,12,12,0,1,2,3,4,5,6,7,8,9,10,11,12],[12,13])])
def bn.B11:List Nat:=[0,1,0,0,0,0,0,124,0,256,1020,2044,4095,8191,16383]
theorem bn.aB6:uz .any (opsOf Tryz.f37 11)=bn.T11:=by kernel_rfl
theorem bn.azu:adn bn.T11.2 bn.B11=true:=by kernel_rfl
theorem bn.calls (k:Nat) (aT bf bY dB:Int) (iE:Option Addr) (iF:Nat) (bZ:List Int) (aaK:Option Addr) (zi:Nat) (gQ:List (jo)) (aam:Option Addr) (zk:Nat) (iy:List (jo)) (kY kZ nK r1 r2 r3 r4:Int) (r5:List Int) (w:World) (oD:Kd.C (Kd.int .u16) w iE bZ.length bZ) (oG:bZ.length≤iF) (akg:Kd.C tN w aaK gQ.length gQ) (akh:gQ.length≤zi) (aki:Kd.C tN w aam iy.length iy) (akj:iy.length≤zk) (h:bn.f k aT bf bY dB bZ gQ iy kY kZ nK=some (r1,r2,r3,r4,r5)) :
  Calls Tryz.prog 37 #[.agg #[.int .i64 aT,.int .i64 bf,.int .i64 bY,.int .i64 dB,.slice iE bZ.length iF],.agg #[.slice aaK gQ.length zi,.slice aam iy.length zk,.int .i64 kY,.int .i64 kZ,.int .i64 nK]] w fun e w'=>∃ v4_:Value,e = .returned (.agg #[.int .i64 r1,.int .i64 r2,.int .i64 r3,.int .i64 r4,v4_])∧Kd.R (Kd.int .u16) 79 w' w.heap.size (fun _=>True) v4_ r5∧Below w.heap.size w w':=by
 have arX:=Tryz.underlying88;have aDm:=Tryz.underlying41;have um:=aj.mk oD;have uK:=aj.mk oG;clear oD oG;have ahX:=aj.mk akg;have axe:=aj.mk akh;clear akg akh;have afG:=aj.mk aki;have axf:=aj.mk akj;clear aki akj;have HB:=aj.mk (Below.refl w.heap.size w);have H:=h;clear h;unfold bn.f at H;have H':=aj.mk H;clear H;go_enter Tryz.func37,Tryz.ntmps37;go_wp2_with (first|((with_reducible refine aZ (N:=2) rfl ?_);refine aX zR (N:=2) zR (cs := #[.int .i64 aT,.int .i64 bf,.int .i64 bY,.int .i64 dB,.slice iE bZ.length iF]) (t:=88) zG ?_;intro ac8 hg w3 hbox hb;obtain ⟨HB,iw,aHN,aHO⟩:=zA4 (ak zB hb) hbox (zg hg zB) (zg hg zB);clear hb hbox hg)|((with_reducible refine aZ (N:=3) rfl ?_);refine aX zR (N:=3) zR (cs := #[.slice aaK gQ.length zi,.slice aam iy.length zk,.int .i64 kY,.int .i64 kZ,.int .i64 nK]) (t:=41) zG ?_;intro ac9 hg w4 hbox hb;obtain ⟨iw,HB,iH,aHP,aHQ,ahj,ahk⟩:=zA7 (aA (zK iw) hb) (ak zB hb) hbox (zg hg zB) (zg hg zB) (zl hg (zK iw)) (zr hg (zK iw));clear hb hbox hg)|((with_reducible refine aZ (N:=4) rfl ?_);refine aX zR (N:=4) zR (cs := #[.int .i64 0,.int .i64 0,.int .i64 0,.int .i64 0,.slice none 0 0]) (t:=88) zG ?_;intro acs hg w5 hbox hb;obtain ⟨iw,iH,HB,nT,aHR,aHS,ahl,ahm,ahn,aho⟩:=aff (aA (zK iw) hb) (aA (zK iH) hb) (ak zB hb) hbox (zg hg zB) (zg hg zB) (zl hg (zK iw)) (zr hg (zK iw)) (zl hg (zK iH)) (zr hg (zK iH));clear hb hbox hg;have aC3:=ahk.out;have aC4:=ahj.out;have aui:=ahn.out;have auj:=aho.out;obtain ⟨_,_,_,_,_⟩:=zC5 iH.out;obtain ⟨_,_,_,_,_⟩:=zF5 iH.out;have aIQ:=ahl.out;have aIR:=ahm.out;obtain ⟨_,_,_,_,_⟩:=zC5 iw.out;obtain ⟨_,_,_,_,_⟩:=zF5 iw.out)|((with_reducible refine aZ (N:=5) rfl ?_);refine aX zR (N:=5) zR (cs := #[.int .i64 0,.int .i64 0,.int .i64 0,.int .i64 0,.slice none 0 0]) (t:=88) zG ?_;intro abC hg w11 hbox hb;obtain ⟨iw,iH,nT,HB,jc,aHT,aHU,aen,aeo,aep,aer,ahp,ahq⟩:=agj (aA (zK iw) hb) (aA (zK iH) hb) (aA (zK nT) hb) (ak zB hb) hbox (zg hg zB) (zg hg zB) (zl hg (zK iw)) (zr hg (zK iw)) (zl hg (zK iH)) (zr hg (zK iH)) (zl hg (zK nT)) (zr hg (zK nT));clear hb hbox hg;have awP:=aeo.out;have awQ:=aen.out;have amY:=aer.out;have amZ:=aep.out;have aq6:=ahq.out;have aq7:=ahp.out;obtain ⟨_,_,_,_,_⟩:=zC5 jc.out;obtain ⟨_,_,_,_,_⟩:=zF5 jc.out;obtain ⟨_,_,_,_,_⟩:=zC5 iH.out;obtain ⟨_,_,_,_,_⟩:=zF5 iH.out));go_loopg [23] k (fun kq v23 w'=>∃ (aac:Int) (abh:List Int) (u593004:Value),v23 = .int .i64 aac∧aj (bn.l0 kq (iy.length:Int) aac aT bf bY dB bZ gQ iy kY kZ nK (gQ.length:Int) (iy.length:Int) bY dB abh=some (r1,r2,r3,r4,r5))∧aj (kq≤k)∧aj (Kd.R (Kd.int .u16) 79 w' w.heap.size (fun _=>True) u593004 abh)∧aj (w'.heap[ac8]? = some (.cells #[.int .i64 aT,.int .i64 bf,.int .i64 bY,.int .i64 dB,(.slice iE bZ.length iF)] 88 (0,0)))∧aj (w'.heap[ac9]? = some (.cells #[(.slice aaK gQ.length zi),(.slice aam iy.length zk),.int .i64 kY,.int .i64 kZ,.int .i64 nK] 41 (0,0)))∧aj (w'.heap[acs]? = some (.cells #[.int .i64 0,.int .i64 0,.int .i64 0,.int .i64 0,(.slice none 0 0)] 88 (0,0)))∧aj (w'.heap[abC]? = some (.cells #[.int .i64 (gQ.length:Int),.int .i64 (iy.length:Int),.int .i64 bY,.int .i64 dB,u593004] 88 (0,0)))∧aj (Below w.heap.size w w'))
 case atStart=>exact ⟨(0),(([]:List Int)),(.slice none 0 0),zT,H',⟨Nat.le_refl _⟩,⟨by first|exact Kd.kQ _ _ _ _ _|exact Kd.qM _ _ _ _ _|exact Kd.oU _ _ _ _ _|exact Kd.qN _ _ _ _ _|exact Kd.qo _ _ _ _ _⟩,⟨zK iw⟩,⟨zK iH⟩,⟨zK nT⟩,⟨by refine zD ?_;refine bg (cs := #[.int .i64 (gQ.length:Int),.int .i64 (iy.length:Int),.int .i64 bY,.int .i64 dB,.slice none 0 0]) ?_ 4 _ rfl;refine zD ?_;refine bg (cs := #[.int .i64 (gQ.length:Int),.int .i64 (iy.length:Int),.int .i64 bY,.int .i64 0,.slice none 0 0]) ?_ 3 _ rfl;refine zD ?_;refine bg (cs := #[.int .i64 (gQ.length:Int),.int .i64 (iy.length:Int),.int .i64 0,.int .i64 0,.slice none 0 0]) ?_ 2 _ rfl;refine zD ?_;refine bg (cs := #[.int .i64 (gQ.length:Int),.int .i64 0,.int .i64 0,.int .i64 0,.slice none 0 0]) ?_ 1 _ rfl;refine zD ?_;refine bg (cs := #[.int .i64 0,.int .i64 0,.int .i64 0,.int .i64 0,.slice none 0 0]) ?_ 0 _ rfl;refine zD ?_;exact jc.out⟩,⟨zB⟩⟩
 case round =>
  clear H';obtain ⟨aac,abh,u593004,rfl,HA,HK1,kC,iw,iH,nT,jc,HB⟩:=hrel;cases gk with
  | zero=>exact absurd HA.out (by simp [bn.l0])
  | succ k1 =>
   have H:=HA.out;clear HA;simp only [bn.l0] at H;by_cases c17:aac < (iy.length:Int)
   ·rw [if_pos c17] at H;have arW:=decide_eq_true c17;clear c17;have H':=aj.mk H;clear H;have aBs:=ahk.out;have aBt:=ahj.out;have aAy:=ahn.out;have aAz:=aho.out;have arw:=aep.out;have arx:=aer.out;obtain ⟨_,_,_,_,_⟩:=zC5 iH.out;obtain ⟨_,_,_,_,_⟩:=zF5 iH.out;go_wp2;try simp only [Act.put,List.setIfInBounds_toArray,List.set_cons_succ,List.set_cons_zero]
    go_loopg [29] k1 (fun kq v29 w'=>∃ (jR:Int) (acC:List Int) (u593004:Value),v29 = .int .i64 jR∧aj (bn.l1 kq aac (iy.length:Int) aac (gQ.length:Int) jR aT bf bY dB bZ gQ iy kY kZ nK (gQ.length:Int) (iy.length:Int) bY dB acC=some (r1,r2,r3,r4,r5))∧aj (kq≤k1)∧aj (Kd.R (Kd.int .u16) 79 w' w.heap.size (fun _=>True) u593004 acC)∧aj (w'.heap[ac8]? = some (.cells #[.int .i64 aT,.int .i64 bf,.int .i64 bY,.int .i64 dB,(.slice iE bZ.length iF)] 88 (0,0)))∧aj (w'.heap[ac9]? = some (.cells #[(.slice aaK gQ.length zi),(.slice aam iy.length zk),.int .i64 kY,.int .i64 kZ,.int .i64 nK] 41 (0,0)))∧aj (w'.heap[acs]? = some (.cells #[.int .i64 0,.int .i64 0,.int .i64 0,.int .i64 0,(.slice none 0 0)] 88 (0,0)))∧aj (w'.heap[abC]? = some (.cells #[.int .i64 (gQ.length:Int),.int .i64 (iy.length:Int),.int .i64 bY,.int .i64 dB,u593004] 88 (0,0)))∧aj (Below w.heap.size w w'))
    case atStart=>exact ⟨(0),(abh),(u593004),zT,H',⟨Nat.le_refl _⟩,⟨by (with_reducible repeat (first|apply Kd.aJ|apply Kd.aN|apply Kd.aV));exact kC.out⟩,⟨zK iw⟩,⟨zK iH⟩,⟨zK nT⟩,⟨zK jc⟩,⟨zB⟩⟩
    case round =>
     clear H';obtain ⟨jR,acC,u593004,rfl,HA,HK2,kC,iw,iH,nT,jc,HB⟩:=hrel;cases gk with
     | zero=>exact absurd HA.out (by simp [bn.l1])
     | succ k2 =>
      have H:=HA.out;clear HA;simp only [bn.l1] at H;by_cases c22:jR < (gQ.length:Int)
      ·rw [if_pos c22] at H;have arz:=decide_eq_true c22;clear c22;have H':=aj.mk H;clear H;have am0:=ahj.out;have am1:=ahk.out;have aAX:=ahl.out;have aAY:=ahm.out;have aq8:=aen.out;have aq9:=aeo.out;obtain ⟨_,_,_,_,_⟩:=zC5 iw.out;obtain ⟨_,_,_,_,_⟩:=zF5 iw.out;go_wp2;try simp only [Act.put,List.setIfInBounds_toArray,List.set_cons_succ,List.set_cons_zero]
       go_loopg [34] k2 (fun kq v34 w'=>∃ (aes:Int) (zx:List Int) (u593004:Value),v34 = .int .i64 aes∧aj (bn.l2 kq aac jR (iy.length:Int) aac (gQ.length:Int) jR bY aes aT bf bY dB bZ gQ iy kY kZ nK (gQ.length:Int) (iy.length:Int) bY dB zx=some (r1,r2,r3,r4,r5))∧aj (kq≤k2)∧aj (Kd.R (Kd.int .u16) 79 w' w.heap.size (fun _=>True) u593004 zx)∧aj (w'.heap[ac8]? = some (.cells #[.int .i64 aT,.int .i64 bf,.int .i64 bY,.int .i64 dB,(.slice iE bZ.length iF)] 88 (0,0)))∧aj (w'.heap[ac9]? = some (.cells #[(.slice aaK gQ.length zi),(.slice aam iy.length zk),.int .i64 kY,.int .i64 kZ,.int .i64 nK] 41 (0,0)))∧aj (w'.heap[acs]? = some (.cells #[.int .i64 0,.int .i64 0,.int .i64 0,.int .i64 0,(.slice none 0 0)] 88 (0,0)))∧aj (w'.heap[abC]? = some (.cells #[.int .i64 (gQ.length:Int),.int .i64 (iy.length:Int),.int .i64 bY,.int .i64 dB,u593004] 88 (0,0)))∧aj (Below w.heap.size w w'))
       case atStart=>exact ⟨(0),(acC),(u593004),zT,H',⟨Nat.le_refl _⟩,⟨by (with_reducible repeat (first|apply Kd.aJ|apply Kd.aN|apply Kd.aV));exact kC.out⟩,⟨zK iw⟩,⟨zK iH⟩,⟨zK nT⟩,⟨zK jc⟩,⟨zB⟩⟩
       case round =>
        clear H';obtain ⟨aes,zx,u593004,rfl,HA,HK3,kC,iw,iH,nT,jc,HB⟩:=hrel;cases gk with
        | zero=>exact absurd HA.out (by simp [bn.l2])
        | succ k3 =>
         have H:=HA.out;clear HA;simp only [bn.l2] at H;by_cases c27:aes < bY
         ·rw [if_pos c27] at H;have arK:=decide_eq_true c27;clear c27;replace H:=zO H;obtain ⟨aoJ,A28,H⟩:=H;try dsimp only at H
          replace H:=zO H;obtain ⟨als,A29,H⟩:=H;try dsimp only at H
          by_cases c30:zx.length < 70368744177664
          ·rw [if_pos c30] at H;have aB7:=aj.mk c30;clear c30;obtain ⟨arZ,akn⟩:∃ y_:List Int,y_=(zx ++ [als]):=⟨_,rfl⟩;replace H:(bn.l2 k3 aac jR (iy.length:Int) aac (gQ.length:Int) jR bY (wrap64 (aes+1)) aT bf bY dB bZ gQ iy kY kZ nK (gQ.length:Int) (iy.length:Int) bY dB arZ)=some (r1,r2,r3,r4,r5):=(by first|(rw [akn];with_reducible exact H)|(have H2_:=(Option.bind_some _ _).symm.trans H;rw [akn];with_reducible exact H2_)|(have H2_:=(Option.bind_some _ _).symm.trans H;with_reducible exact H2_)|with_reducible exact H|(rw [akn];exact H)|exact H);have aB8:=aj.mk akn;clear akn;have H':=aj.mk H;clear H;try go_wp2
           obtain ⟨kC,iw,iH,nT,jc,HB⟩:=zA6 (Kd.aV kC.out) (jO iw.out) (jO iH.out) (jO nT.out) (jO jc.out) (bD HB.out);refine adw (n:=15) (S:=fun w'=>w'.cell? ⟨abC,0,none⟩=some (.int .i64 (gQ.length:Int))∧w'.cell? ⟨abC,1,none⟩=some (.int .i64 (iy.length:Int))∧w'.cell? ⟨abC,2,none⟩=some (.int .i64 bY)∧w'.cell? ⟨abC,3,none⟩=some (.int .i64 dB)∧w'.cell? ⟨abC,4,none⟩=some (u593004)∧w'.cell? ⟨ac8,0,none⟩=some (.int .i64 aT)∧w'.cell? ⟨ac8,1,none⟩=some (.int .i64 bf)∧w'.cell? ⟨ac8,2,none⟩=some (.int .i64 bY)∧w'.cell? ⟨ac8,3,none⟩=some (.int .i64 dB)∧w'.cell? ⟨ac8,4,none⟩=some (.slice iE bZ.length iF)∧w'.cell? ⟨ac9,0,none⟩=some (.slice aaK gQ.length zi)∧w'.cell? ⟨ac9,1,none⟩=some (.slice aam iy.length zk)∧w'.cell? ⟨ac9,2,none⟩=some (.int .i64 kY)∧w'.cell? ⟨ac9,3,none⟩=some (.int .i64 kZ)∧w'.cell? ⟨ac9,4,none⟩=some (.int .i64 nK)) (ds:=[14]) #[false,false,false,false,false,false,false,false,false,false,false,false,false,false,false] (by kernel_rfl) rfl rfl ⟨(au jc.out 0).trans rfl,(au jc.out 1).trans rfl,(au jc.out 2).trans rfl,(au jc.out 3).trans rfl,(au jc.out 4).trans rfl,(au iw.out 0).trans rfl,(au iw.out 1).trans rfl,(au iw.out 2).trans rfl,(au iw.out 3).trans rfl,(au iw.out 4).trans rfl,(au iH.out 0).trans rfl,(au iH.out 1).trans rfl,(au iH.out 2).trans rfl,(au iH.out 3).trans rfl,(au iH.out 4).trans rfl⟩ (fun hHeld => ?_);refine al5 bn.aB6 bn.azu (fun HT_ HW_ => ?_);generalize wr.drew=w31 at kC iw iH nT jc HB hHeld ⊢;refine uj (i:=0) (N:=some 37) (v := ?_) (a' := ?_) #[true,false,false,false,false,false,false,false,false,false,false,false,false,false,false] rfl rfl (xU HT_.out (by kernel_rfl)) (fun _ _ _ h=>h) (Or.inl ⟨by rfl,?_⟩) ?_ ?_;rotate_left
           ·intro w';go_simp
            with_reducible rfl
           rotate_left
           ·simp only [Act.put,List.setIfInBounds_toArray,List.set_cons_zero,List.set_cons_succ,bP,bU];rfl
           refine uj (i:=4) (N:=some 41) (v := ?_) (a' := ?_) #[true,false,false,false,true,false,false,false,false,false,false,false,false,false,false] rfl rfl (xU HT_.out (by kernel_rfl)) (fun _ _ _ h=>h) (Or.inl ⟨by rfl,?_⟩) ?_ ?_;rotate_left
           ·intro w';go_simp
            with_reducible rfl
           rotate_left
           ·simp only [Act.put,List.setIfInBounds_toArray,List.set_cons_zero,List.set_cons_succ,bP,bU];rfl
           refine uj (i:=5) (N:=some 42) (v := ?_) (a' := ?_) #[true,false,false,false,true,true,false,false,false,false,false,false,false,false,false] rfl rfl (xU HT_.out (by kernel_rfl)) (fun _ _ _ h=>h) (Or.inl ⟨by rfl,?_⟩) ?_ ?_;rotate_left
           ·intro w';go_simp
            with_reducible rfl
           rotate_left
           ·simp only [Act.put,List.setIfInBounds_toArray,List.set_cons_zero,List.set_cons_succ,bP,bU];rfl
           refine uj (i:=6) (N:=some 43) (v := ?_) (a' := ?_) #[true,false,false,false,true,true,true,false,false,false,false,false,false,false,false] rfl rfl (xU HT_.out (by kernel_rfl)) (fun _ _ _ h=>h) (Or.inl ⟨by rfl,?_⟩) ?_ ?_;rotate_left
           ·intro w';go_simp
            with_reducible rfl
           rotate_left
           ·simp only [Act.put,List.setIfInBounds_toArray,List.set_cons_zero,List.set_cons_succ,bP,bU];rfl
           refine uj (i:=8) (N:=some 45) (v := ?_) (a' := ?_) #[true,false,false,false,true,true,true,false,true,false,false,false,false,false,false] rfl rfl (xU HT_.out (by kernel_rfl)) (fun _ _ _ h=>h) (Or.inl ⟨by rfl,?_⟩) ?_ ?_;rotate_left
           ·intro w';go_simp
            with_reducible rfl
           rotate_left
           ·simp only [Act.put,List.setIfInBounds_toArray,List.set_cons_zero,List.set_cons_succ,bP,bU];rfl
           refine xC (i:=1) (N:=some 38) (v := ?_) (a' := ?_) #[true,true,false,false,true,true,true,false,true,false,false,false,false,false,false] rfl rfl (ady HT_.out HW_.out (by kernel_rfl)) (fun _ _ _ h=>h) (Or.inl ⟨by rfl,?_⟩) hHeld ?_ ?_;rotate_left
           ·rintro w' ⟨s0,s1,s2,s3,s4,s5,s6,s7,s8,s9,s10,s11,s12,s13,s14⟩;go_simp
            with_reducible rfl
           rotate_left
           ·simp only [Act.put,List.setIfInBounds_toArray,List.set_cons_zero,List.set_cons_succ,bP,bU];rfl
           refine xC (i:=2) (N:=some 39) (v := ?_) (a' := ?_) #[true,true,true,false,true,true,true,false,true,false,false,false,false,false,false] rfl rfl (ady HT_.out HW_.out (by kernel_rfl)) (fun _ _ _ h=>h) (Or.inl ⟨by rfl,?_⟩) hHeld ?_ ?_;rotate_left
           ·rintro w' ⟨s0,s1,s2,s3,s4,s5,s6,s7,s8,s9,s10,s11,s12,s13,s14⟩;go_simp
            with_reducible rfl
           rotate_left
           ·simp only [Act.put,List.setIfInBounds_toArray,List.set_cons_zero,List.set_cons_succ,bP,bU];rfl
           refine xC (i:=3) (N:=some 40) (v := ?_) (a' := ?_) #[true,true,true,true,true,true,true,false,true,false,false,false,false,false,false] rfl rfl (ady HT_.out HW_.out (by kernel_rfl)) (fun _ _ _ h=>h) (Or.inl ⟨by rfl,?_⟩) hHeld ?_ ?_;rotate_left
           ·rintro w' ⟨s0,s1,s2,s3,s4,s5,s6,s7,s8,s9,s10,s11,s12,s13,s14⟩;go_simp
            with_reducible rfl
           rotate_left
           ·simp only [Act.put,List.setIfInBounds_toArray,List.set_cons_zero,List.set_cons_succ,bP,bU];rfl
           refine xC (i:=9) (N:=some 46) (v := ?_) (a' := ?_) #[true,true,true,true,true,true,true,false,true,true,false,false,false,false,false] rfl rfl (ady HT_.out HW_.out (by kernel_rfl)) (fun _ _ _ h=>h) (Or.inl ⟨by rfl,?_⟩) hHeld ?_ ?_;rotate_left
           ·rintro w' ⟨s0,s1,s2,s3,s4,s5,s6,s7,s8,s9,s10,s11,s12,s13,s14⟩;go_simp
            with_reducible rfl
           rotate_left
           ·simp only [Act.put,List.setIfInBounds_toArray,List.set_cons_zero,List.set_cons_succ,bP,bU];rfl
           refine aaH (i:=7) (N:=some 44) #[true,true,true,true,true,true,true,true,true,true,false,false,false,false,false] rfl rfl (adx HT_.out (by kernel_rfl)) (by decide) (fun K hK => ?_);refine aay Tryz.func40 (by kernel_rfl) rfl #[.agg #[.int .i64 aT,.int .i64 bf,.int .i64 bY,.int .i64 dB,.slice iE bZ.length iF],.agg #[.slice aaK gQ.length zi,.slice aam iy.length zk,.int .i64 kY,.int .i64 kZ,.int .i64 nK],.int .i64 jR,.int .i64 aac,.int .i64 aes] (by rfl) rfl rfl zL ?_;with_reducible refine (dV.calls k3 aT bf bY dB _ _ bZ _ _ gQ _ _ iy kY kZ nK jR aac aes aoJ _ ?iC ?iD ?ada ?adb ?aB9 ?aCa A28.out).mono ?_
           (case iC=>repeat (first|exact (Kd.bF um.out HB.out)|(with_reducible refine Kd.iT ?_ _)|(with_reducible refine Kd.jg ?_ _)|(with_reducible refine Kd.jH ?_)))
           (case iD=>exact uK.out)
           (case ada=>repeat (first|exact (Kd.bF ahX.out HB.out)|(with_reducible refine Kd.iT ?_ _)|(with_reducible refine Kd.jg ?_ _)|(with_reducible refine Kd.jH ?_)))
           (case adb=>exact axe.out)
           (case aB9=>repeat (first|exact (Kd.bF afG.out HB.out)|(with_reducible refine Kd.iT ?_ _)|(with_reducible refine Kd.jg ?_ _)|(with_reducible refine Kd.jH ?_)))
           (case aCa=>exact axf.out)
           rintro e w32 ⟨rfl,hb⟩;refine ⟨_,rfl,?_⟩;obtain ⟨kC,iw,iH,nT,jc,HB⟩:=zA6 (Kd.jE (by (with_reducible repeat (first|apply Kd.aJ|apply Kd.aN|apply Kd.aV));exact kC.out) hb) (aA (zK iw) hb) (aA (zK iH) hb) (aA (zK nT) hb) (aA (zK jc) hb) (ak zB hb)
           (try clear hb)
           (try clear hb2)
           (try clear hk)
           (try clear hi)
           refine hK.out _ _ ⟨(au jc.out 0).trans rfl,(au jc.out 1).trans rfl,(au jc.out 2).trans rfl,(au jc.out 3).trans rfl,(au jc.out 4).trans rfl,(au iw.out 0).trans rfl,(au iw.out 1).trans rfl,(au iw.out 2).trans rfl,(au iw.out 3).trans rfl,(au iw.out 4).trans rfl,(au iH.out 0).trans rfl,(au iH.out 1).trans rfl,(au iH.out 2).trans rfl,(au iH.out 3).trans rfl,(au iH.out 4).trans rfl⟩ (fun hHeld => ?_);clear hK K;refine yB (a' := ?_) ?_ ?_;rotate_left
           ·show Act.put _ (some 44) _=_
            simp only [Act.put,List.setIfInBounds_toArray,List.set_cons_zero,List.set_cons_succ,bP,bU];rfl
           refine aaH (i:=10) (N:=some 47) #[true,true,true,true,true,true,true,true,true,true,true,false,false,false,false] rfl rfl (adx HT_.out (by kernel_rfl)) (by decide) (fun K hK => ?_);refine aay Tryz.func75 (by kernel_rfl) rfl #[.int .i64 aoJ,.int .i64 dB] (by rfl) rfl rfl zL ?_;with_reducible refine (dS.calls k3 aoJ dB als _ A29.out).mono ?_
           rintro e w33 ⟨rfl,hb⟩;refine ⟨_,rfl,?_⟩;obtain ⟨kC,iw,iH,nT,jc,HB⟩:=zA6 (Kd.jE (by (with_reducible repeat (first|apply Kd.aJ|apply Kd.aN|apply Kd.aV));exact kC.out) hb) (aA (zK iw) hb) (aA (zK iH) hb) (aA (zK nT) hb) (aA (zK jc) hb) (ak zB hb)
           (try clear hb)
           (try clear hb2)
           (try clear hk)
           (try clear hi)
           refine hK.out _ _ ⟨(au jc.out 0).trans rfl,(au jc.out 1).trans rfl,(au jc.out 2).trans rfl,(au jc.out 3).trans rfl,(au jc.out 4).trans rfl,(au iw.out 0).trans rfl,(au iw.out 1).trans rfl,(au iw.out 2).trans rfl,(au iw.out 3).trans rfl,(au iw.out 4).trans rfl,(au iH.out 0).trans rfl,(au iH.out 1).trans rfl,(au iH.out 2).trans rfl,(au iH.out 3).trans rfl,(au iH.out 4).trans rfl⟩ (fun hHeld => ?_);clear hK K;refine yB (a' := ?_) ?_ ?_;rotate_left
           ·show Act.put _ (some 47) _=_
            simp only [Act.put,List.setIfInBounds_toArray,List.set_cons_zero,List.set_cons_succ,bP,bU];rfl
           refine aaH (i:=11) (N:=some 48) #[true,true,true,true,true,true,true,true,true,true,true,true,false,false,false] rfl rfl (adx HT_.out (by kernel_rfl)) (by decide) (fun K hK => ?_);refine ays (w1 := ?_) (v := ?_) (by rfl) rfl ?_ ?_;rotate_left 2
           ·go_simp
            constructor
            ·rfl
            ·rfl
           refine hK.out _ _ ⟨(au (jS jc.out _) 0).trans rfl,(au (jS jc.out _) 1).trans rfl,(au (jS jc.out _) 2).trans rfl,(au (jS jc.out _) 3).trans rfl,(au (jS jc.out _) 4).trans rfl,(au (jS iw.out _) 0).trans rfl,(au (jS iw.out _) 1).trans rfl,(au (jS iw.out _) 2).trans rfl,(au (jS iw.out _) 3).trans rfl,(au (jS iw.out _) 4).trans rfl,(au (jS iH.out _) 0).trans rfl,(au (jS iH.out _) 1).trans rfl,(au (jS iH.out _) 2).trans rfl,(au (jS iH.out _) 3).trans rfl,(au (jS iH.out _) 4).trans rfl⟩ (fun hHeld => ?_);clear hK K;refine yB (a' := ?_) ?_ ?_;rotate_left
           ·show Act.put _ (some 48) _=_
            simp only [Act.put,List.setIfInBounds_toArray,List.set_cons_zero,List.set_cons_succ,bP,bU];rfl
           refine aaH (i:=12) (N:=some 49) #[true,true,true,true,true,true,true,true,true,true,true,true,true,false,false] rfl rfl (adx HT_.out (by kernel_rfl)) (by decide) (fun K hK => ?_);refine Kd.amu (Kd.int .u16) (w0:=w) w.heap.size (by rfl) (.tmp 38) (.tmp 48) 80 79 (.int .u16 0) 2 rfl Tryz.underlying80 ayC rfl (by decide) (by omega) u593004 zx als [.int .u16 als] (fun _=>True) (fun _=>False) rfl rfl ?aP (fun _ hk=>hk.elim) ?aF ?aO ?aB ?aS ?aL ?_
           (case aP=>exact rfl)
           (case aB=>exact zB)
           (case aF=>exact (fun _ _=>trivial))
           (case aO=>exact (by (with_reducible repeat (first|apply Kd.aJ|apply Kd.aN|apply Kd.aV));exact kC.out))
           (case aS=>exact (bW zB))
           (case aL=>have:=aB7.out;omega)
           intro aIS w34 ho hb hg hat;rw [← aB8.out] at ho;obtain ⟨iw,iH,nT,jc,HB,axk⟩:=zA6 (ad5 (g:=ac8) (o := .cells #[.int .i64 aT,.int .i64 bf,.int .i64 bY,.int .i64 dB,.slice iE bZ.length iF] 88 (0,0)) (zK iw) hg (Kd.aqF kC.out iw.out (by decide))) (ad5 (g:=ac9) (o := .cells #[.slice aaK gQ.length zi,.slice aam iy.length zk,.int .i64 kY,.int .i64 kZ,.int .i64 nK] 41 (0,0)) (zK iH) hg (Kd.aqF kC.out iH.out (by decide))) (ad5 (g:=acs) (o := .cells #[.int .i64 0,.int .i64 0,.int .i64 0,.int .i64 0,.slice none 0 0] 88 (0,0)) (zK nT) hg (Kd.aqF kC.out nT.out (by decide))) (ad5 (g:=abC) (o := .cells #[.int .i64 (gQ.length:Int),.int .i64 (iy.length:Int),.int .i64 bY,.int .i64 dB,u593004] 88 (0,0)) (zK jc) hg (Kd.aqF kC.out jc.out (by decide))) hb ho;clear ho hb hg hat;obtain ⟨azv,azw,azx⟩:=Kd.fP axk.out
           (first|subst azx|(injection azx with f1_ f2_ f3_;have f4_:=f1_.symm;have f5_:=f3_.symm;clear f1_ f2_ f3_;subst f4_;subst f5_))
           refine hK.out _ _ ⟨(au jc.out 0).trans rfl,(au jc.out 1).trans rfl,(au jc.out 2).trans rfl,(au jc.out 3).trans rfl,(au jc.out 4).trans rfl,(au iw.out 0).trans rfl,(au iw.out 1).trans rfl,(au iw.out 2).trans rfl,(au iw.out 3).trans rfl,(au iw.out 4).trans rfl,(au iH.out 0).trans rfl,(au iH.out 1).trans rfl,(au iH.out 2).trans rfl,(au iH.out 3).trans rfl,(au iH.out 4).trans rfl⟩ (fun hHeld => ?_);clear hK K;refine yB (a' := ?_) ?_ ?_;rotate_left
           ·show Act.put _ (some 49) _=_
            simp only [Act.put,List.setIfInBounds_toArray,List.set_cons_zero,List.set_cons_succ,bP,bU];rfl
           refine uj (i:=13) (N:=some 50) (v := ?_) (a' := ?_) #[true,true,true,true,true,true,true,true,true,true,true,true,true,true,false] rfl rfl (xU HT_.out (by kernel_rfl)) (fun _ _ _ h=>h) (Or.inl ⟨by rfl,?_⟩) ?_ ?_;rotate_left
           ·intro w';go_simp
            with_reducible rfl
           rotate_left
           ·simp only [Act.put,List.setIfInBounds_toArray,List.set_cons_zero,List.set_cons_succ,bP,bU];rfl
           refine ajr (i:=14) (N:=none) #[true,true,true,true,true,true,true,true,true,true,true,true,true,true,true] rfl rfl (adx HT_.out (by kernel_rfl)) (by decide) (fun K hK => ?_);have aIT:w34.cell? ⟨abC,4,none⟩=some (u593004):=(au jc.out 4).trans rfl;have aHV:=aI jc.out 4;have aFe:=aen.out;have aFf:=aep.out;have aFg:=ahp.out;have aFh:=aeo.out;have aFi:=aer.out;have aFj:=ahq.out;refine ahC (w1 := ?_) (by rfl) rfl ?_ ?_;rotate_left
           ·go_simp
            rfl
           refine hK.out _ _ ?_;clear hK K;refine afb (apT HT_.out (by kernel_rfl)) ?_;try go_wp2
           go_roundg k3
           case measure=>have:=HK1.out;have:=HK2.out;have:=HK3.out;omega
           case rel=>exact ⟨(wrap64 (aes+1)),(arZ),(.slice azv arZ.length azw),zT,H',⟨by have:=HK1.out;have:=HK2.out;have:=HK3.out;omega⟩,⟨by (with_reducible repeat (first|apply Kd.aJ|apply Kd.aN|apply Kd.aV));exact Kd.dY (Kd.vY (p:=⟨abC,4,none⟩) (Kd.akS axk.out jc.out (by decide)) (fun _ hk=>hk.2) (.slice azv arZ.length azw)) (fun _ hk=>trivial)⟩,⟨zK iw⟩,⟨zK iH⟩,⟨zK nT⟩,⟨by refine zD ?_;refine bg (cs := #[.int .i64 (gQ.length:Int),.int .i64 (iy.length:Int),.int .i64 bY,.int .i64 dB,u593004]) ?_ 4 _ rfl;refine zD ?_;exact jc.out⟩,⟨zB⟩⟩
          ·rw [if_neg c30] at H;exact absurd H (by simp)
         ·rw [if_neg c27] at H;have arK:=decide_eq_false c27;clear c27;have H':=aj.mk H;clear H;go_wp2;go_roundg k3
          case measure=>have:=HK1.out;have:=HK2.out;have:=HK3.out;omega
          case rel=>exact ⟨(wrap64 (jR+1)),(zx),(u593004),zT,H',⟨by have:=HK1.out;have:=HK2.out;have:=HK3.out;omega⟩,⟨by (with_reducible repeat (first|apply Kd.aJ|apply Kd.aN|apply Kd.aV));exact kC.out⟩,⟨zK iw⟩,⟨zK iH⟩,⟨zK nT⟩,⟨zK jc⟩,⟨zB⟩⟩
      ·rw [if_neg c22] at H;have arz:=decide_eq_false c22;clear c22;have H':=aj.mk H;clear H;go_wp2;go_roundg k2
       case measure=>have:=HK1.out;have:=HK2.out;omega
       case rel=>exact ⟨(wrap64 (aac+1)),(acC),(u593004),zT,H',⟨by have:=HK1.out;have:=HK2.out;omega⟩,⟨by (with_reducible repeat (first|apply Kd.aJ|apply Kd.aN|apply Kd.aV));exact kC.out⟩,⟨zK iw⟩,⟨zK iH⟩,⟨zK nT⟩,⟨zK jc⟩,⟨zB⟩⟩
   ·rw [if_neg c17] at H;have arW:=decide_eq_false c17;clear c17;simp only [Option.some.injEq,Prod.mk.injEq] at H;obtain ⟨rfl,rfl,rfl,rfl,rfl⟩:=H;have aBp:=aeo.out;have aBq:=aen.out;have aHW:=aer.out;have aHX:=aep.out;have aBy:=ahq.out;have aBz:=ahp.out;obtain ⟨_,_,_,_,_⟩:=zC5 jc.out;obtain ⟨_,_,_,_,_⟩:=zF5 jc.out;have awT:=ahm.out;have awU:=ahl.out;have aBb:=aho.out;have aBd:=ahn.out;obtain ⟨_,_,_,_,_⟩:=zC5 nT.out;obtain ⟨_,_,_,_,_⟩:=zF5 nT.out;obtain ⟨azy,azz,aDr⟩:=Kd.fP kC.out;subst aDr;go_wp2;refine bodyPost_ret (results_cell_row rfl _ _ acs 88 #[.int .i64 (gQ.length:Int),.int .i64 (iy.length:Int),.int .i64 bY,.int .i64 dB,.slice azy abh.length azz] (0,0) _ rfl (by refine zD ?_;refine bg (cs := #[.int .i64 (gQ.length:Int),.int .i64 (iy.length:Int),.int .i64 bY,.int .i64 dB,.slice none 0 0]) ?_ 4 _ rfl;refine zD ?_;refine bg (cs := #[.int .i64 (gQ.length:Int),.int .i64 (iy.length:Int),.int .i64 bY,.int .i64 0,.slice none 0 0]) ?_ 3 _ rfl;refine zD ?_;refine bg (cs := #[.int .i64 (gQ.length:Int),.int .i64 (iy.length:Int),.int .i64 0,.int .i64 0,.slice none 0 0]) ?_ 2 _ rfl;refine zD ?_;refine bg (cs := #[.int .i64 (gQ.length:Int),.int .i64 0,.int .i64 0,.int .i64 0,.slice none 0 0]) ?_ 1 _ rfl;refine zD ?_;refine bg (cs := #[.int .i64 0,.int .i64 0,.int .i64 0,.int .i64 0,.slice none 0 0]) ?_ 0 _ rfl;refine zD ?_;exact nT.out) Tryz.underlying88 rfl (by kernel_rfl)) rfl ?_;exact ⟨_,zS,by (with_reducible repeat (first|apply Kd.aJ|apply Kd.aN|apply Kd.aV));exact Kd.dY (Kd.vY (p:=⟨acs,4,none⟩) (Kd.vY (p:=⟨acs,3,none⟩) (Kd.vY (p:=⟨acs,2,none⟩) (Kd.vY (p:=⟨acs,1,none⟩) (Kd.vY (p:=⟨acs,0,none⟩) (Kd.akS kC.out nT.out (by decide)) (fun _ hk=>hk.2) (.int .i64 (gQ.length:Int))) (fun _ hk=>hk.2) (.int .i64 (iy.length:Int))) (fun _ hk=>hk.2) (.int .i64 bY)) (fun _ hk=>hk.2) (.int .i64 dB)) (fun _ hk=>hk.2) (.slice azy abh.length azz)) (fun _ hk=>trivial),zB⟩
end Go.Proofs.YtpondkggmcmpfaaGreatDoor.QA
