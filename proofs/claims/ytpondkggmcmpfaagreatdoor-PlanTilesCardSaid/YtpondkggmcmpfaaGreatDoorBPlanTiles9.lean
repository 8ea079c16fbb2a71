/- Joined by wip/tools/bundle.py out of: QAx19. -/
import Derived.Test.YtpondkggmcmpfaaGreatDoorBPlanTiles0
import Derived.Test.YtpondkggmcmpfaaGreatDoorBPlanTiles1
import Derived.Test.YtpondkggmcmpfaaGreatDoorBPlanTiles8
import Derived.Test.YtpondkggmcmpfaaGreatDoorBPlanTiles7
namespace Go.Proofs.YtpondkggmcmpfaaGreatDoor.QA
open Go.Proofs.YtpondkggmcmpfaaGreatDoor.T
open Go.RowKit Go.Proofs.YtpondkggmcmpfaaGreatDoorW.PrintWords Go.Proofs.YtpondkggmcmpfaaGreatDoorW.PrintLast Go.Proofs.YtpondkggmcmpfaaGreatDoorW.PrintMore
attribute [local go_sem] eG dX dY fF fG
set_option linter.unusedVariables false
set_option linter.unusedSimpArgs false
def dF.l0:Nat→List Int→List Int→Int→Int→Option (Bool)
 | 0,_,_,_,_=>none
 | k+1,x0,x1,x12,x13=>if x13 < x12 then (if 0≤x13 then (if x13 < (x0.length:Int) then (if x13 < (x1.length:Int) then (if (rd x0 x13)=(rd x1 x13) then (dF.l0 k x0 x1 x12 (wrap64 (x13+1))) else (some false)) else (none)) else (none)) else (none)) else (some true)
def dF.f (k:Nat) (l0 l1:List Int):Option (Bool):=if (l0.length:Int)=(l1.length:Int) then (dF.l0 k l0 l1 (l0.length:Int) 0) else (some false)
theorem dF.jl:∀ k,(∀ y0 y1 y2 y3,LeO (dF.l0 k y0 y1 y2 y3) (dF.l0 (k+1) y0 y1 y2 y3))
 | 0=>fun _ _ _ _ r h=>by simp [dF.l0] at h
 | k+1=>by
  have ih0:=dF.jl k
  ·intro y0 y1 y2 y3
   unfold dF.l0
   repeat' (with_reducible first|exact ih0 _ _ _ _|exact zM|refine LeO.ite ?_ ?_|refine LeO.bind ?_ (fun _ => ?_))
theorem dF.mono:∀ a0 a1 k,LeO (dF.f k a0 a1) (dF.f (k+1) a0 a1):=by
 intro a0 a1 k
 have ih0:=dF.jl k
 unfold dF.f
 repeat' (with_reducible first|exact ih0 _ _ _ _|exact zM|refine LeO.ite ?_ ?_|refine LeO.bind ?_ (fun _ => ?_))
set_option maxHeartbeats 8000000 in
set_option maxRecDepth 100000 in
theorem dF.calls (k:Nat) (A0:Option Addr) (c0:Nat) (l0:List Int) (A1:Option Addr) (c1:Nat) (l1:List Int) (r:Bool) (w:World) (hr0:Kd.C (Kd.int .i64) w A0 l0.length l0) (hc0:l0.length≤c0) (hr1:Kd.C (Kd.int .i64) w A1 l1.length l1) (hc1:l1.length≤c1) (h:dF.f k l0 l1=some r) :
  Calls Tryz.prog 91 #[.slice A0 l0.length c0,.slice A1 l1.length c1] w fun e w'=>e = .returned (.bool r)∧dH w w':=by
 have HR0:=aj.mk hr0
 have HC0:=aj.mk hc0
 clear hr0 hc0
 have HR1:=aj.mk hr1
 have HC1:=aj.mk hc1
 clear hr1 hc1
 have H:=h
 clear h
 unfold dF.f at H
 by_cases c3:(l0.length:Int)=(l1.length:Int)
 ·rw [if_pos c3] at H
  have gq:((l0.length:Int) == (l1.length:Int))=true:=beq_iff_eq.mpr c3
  have yD:((l0.length:Int) != (l1.length:Int))=false:=bne_eq_false_iff_eq.mpr c3
  have ay8:(l0.length == l1.length)=true:=by first|simpa using c3|(simp at c3 ⊢;omega)
  clear c3
  have H':=aj.mk H
  clear H
  go_enter Tryz.func91,Tryz.ntmps91
  go_wp2
  repeat (go_quiet (fail);try go_wp2)
  go_loopg [13] k (fun kq v13 w'=>∃ (lg:Int),v13 = .int .i64 lg∧aj (dF.l0 kq l0 l1 (l0.length:Int) lg=some r)∧aj (kq≤k)∧dH w w')
  case atStart=>exact ⟨(0),zT,H',⟨Nat.le_refl _⟩,zW⟩
  case round =>
   clear H'
   obtain ⟨lg,rfl,HA,HK1,⟨m1,rfl⟩⟩:=hrel
   cases gk with
   | zero=>exact absurd HA.out (by simp [dF.l0])
   | succ k1 =>
    have H:=HA.out
    clear HA
    simp only [dF.l0] at H
    by_cases c4:lg < (l0.length:Int)
    ·rw [if_pos c4] at H
     have gI:=decide_eq_true c4
     clear c4
     by_cases c5:0≤lg
     ·rw [if_pos c5] at H
      have iR:=decide_eq_true c5
      clear c5
      by_cases c6:lg < (l0.length:Int)
      ·rw [if_pos c6] at H
       have iJ:=decide_eq_true c6
       clear c6
       by_cases c7:lg < (l1.length:Int)
       ·rw [if_pos c7] at H
        have jI:=decide_eq_true c7
        clear c7
        by_cases c8:(rd l0 lg)=(rd l1 lg)
        ·rw [if_pos c8] at H
         have xH:((rd l0 lg) == (rd l1 lg))=true:=beq_iff_eq.mpr c8
         have adK:((rd l0 lg) != (rd l1 lg))=false:=bne_eq_false_iff_eq.mpr c8
         clear c8
         have H':=aj.mk H
         clear H
         have ag1:0≤(lg:Int):=of_decide_eq_true (by first|(with_reducible assumption)|assumption)
         have ag2:lg < (l0.length:Int):=of_decide_eq_true (by first|(with_reducible assumption)|assumption)
         obtain ⟨axY,e238,auf⟩:=Kd.jV HR0.out lg ag1 ag2
         cases e238
         replace ag1:=eq_true ag1
         replace ag2:=eq_true ag2
         have ag3:0≤(lg:Int):=of_decide_eq_true (by first|(with_reducible assumption)|assumption)
         have ag4:lg < (l1.length:Int):=of_decide_eq_true (by first|(with_reducible assumption)|assumption)
         obtain ⟨axZ,asj,aug⟩:=Kd.jV HR1.out lg ag3 ag4
         cases asj
         replace ag3:=eq_true ag3
         replace ag4:=eq_true ag4
         go_wp2
         repeat (go_quiet (fail);try go_wp2)
         go_roundg k1
         case measure=>have:=HK1.out;omega
         case rel=>exact ⟨(wrap64 (lg+1)),zT,H',⟨by have:=HK1.out;omega⟩,zW⟩
        ·rw [if_neg c8] at H
         have xH:((rd l0 lg) == (rd l1 lg))=false:=beq_eq_false_iff_ne.mpr c8
         have adK:((rd l0 lg) != (rd l1 lg))=true:=bne_iff_ne.mpr c8
         obtain rfl:=Option.some.inj H
         have ag1:0≤(lg:Int):=of_decide_eq_true (by first|(with_reducible assumption)|assumption)
         have ag2:lg < (l0.length:Int):=of_decide_eq_true (by first|(with_reducible assumption)|assumption)
         obtain ⟨axY,e238,auf⟩:=Kd.jV HR0.out lg ag1 ag2
         cases e238
         replace ag1:=eq_true ag1
         replace ag2:=eq_true ag2
         have ag3:0≤(lg:Int):=of_decide_eq_true (by first|(with_reducible assumption)|assumption)
         have ag4:lg < (l1.length:Int):=of_decide_eq_true (by first|(with_reducible assumption)|assumption)
         obtain ⟨axZ,asj,aug⟩:=Kd.jV HR1.out lg ag3 ag4
         cases asj
         replace ag3:=eq_true ag3
         replace ag4:=eq_true ag4
         go_wp2
         repeat (go_quiet (fail);try go_wp2)
         go_ret
         exact ⟨zT,zW⟩
       ·rw [if_neg c7] at H
        exact absurd H (by simp)
      ·rw [if_neg c6] at H
       exact absurd H (by simp)
     ·rw [if_neg c5] at H
      exact absurd H (by simp)
    ·rw [if_neg c4] at H
     have gI:=decide_eq_false c4
     clear c4
     obtain rfl:=Option.some.inj H
     go_wp2
     repeat (go_quiet (fail);try go_wp2)
     go_ret
     exact ⟨zT,zW⟩
 ·rw [if_neg c3] at H
  have gq:((l0.length:Int) == (l1.length:Int))=false:=beq_eq_false_iff_ne.mpr c3
  have yD:((l0.length:Int) != (l1.length:Int))=true:=bne_iff_ne.mpr c3
  have ay8:(l0.length == l1.length)=false:=by first|simpa using c3|(simp at c3 ⊢;omega)
  obtain rfl:=Option.some.inj H
  go_enter Tryz.func91,Tryz.ntmps91
  go_wp2
  repeat (go_quiet (fail);try go_wp2)
  go_ret
  exact ⟨zT,zW⟩
def jM.f (k:Nat):Option (Bool):=(je.f (([536870912,536870912,536870912]:List Int))).bind fun ac0=>((bD.f k 65536).bind fun ac1=>(if ac0.2=0 then ((dF.f k ac0.1 (([5462,5461,5461]:List Int))).bind fun aeh=>(if aeh=true then (if ac1.2=0 then (some ((ac1.1.length:Int) == 7)) else (some false)) else (some false))) else (some false)))
theorem jM.mono:∀ k,LeO (jM.f k ) (jM.f (k+1) ):=by
 intro k
 unfold jM.f
 repeat' (with_reducible first|exact dF.mono _ _ _|exact bD.mono _ _|exact zM|refine LeO.ite ?_ ?_|refine LeO.bind ?_ (fun _ => ?_))
set_option maxHeartbeats 8000000 in
set_option maxRecDepth 100000 in
theorem jM.calls (k:Nat) (r:Bool) (w:World) (h:jM.f k=some r) :
  Calls Tryz.prog 89 #[] w fun e w'=>e = .returned (.bool r)∧Below w.heap.size w w':=by
 have HB:=aj.mk (Below.refl w.heap.size w)
 have H:((je.f (([536870912,536870912,536870912]:List Int))).bind fun ac0=>((bD.f k 65536).bind fun ac1=>(if ac0.2=0 then ((dF.f k ac0.1 (([5462,5461,5461]:List Int))).bind fun aeh=>(if aeh=true then (if ac1.2=0 then (some ((ac1.1.length:Int) == 7)) else (some false)) else (some false))) else (some false))))=some r:=h
 clear h
 obtain ⟨aei,aii⟩:∃ y_:List Int,y_=(([536870912,536870912,536870912]:List Int)):=⟨_,rfl⟩
 replace H:((je.f aei).bind fun ac0=>((bD.f k 65536).bind fun ac1=>(if ac0.2=0 then ((dF.f k ac0.1 (([5462,5461,5461]:List Int))).bind fun aeh=>(if aeh=true then (if ac1.2=0 then (some ((ac1.1.length:Int) == 7)) else (some false)) else (some false))) else (some false))))=some r:=by first|(rw [aii];with_reducible exact H)|(have H2_:=(Option.bind_some _ _).symm.trans H;rw [aii];with_reducible exact H2_)|(have H2_:=(Option.bind_some _ _).symm.trans H;with_reducible exact H2_)|with_reducible exact H|(rw [aii];exact H)|exact H
 have ac2:=aj.mk aii
 clear aii
 replace H:=zO H
 obtain ⟨⟨afy,aej⟩,A1,H⟩:=H
 try dsimp only at H
 replace H:=zO H
 obtain ⟨⟨amg,adp⟩,A2,H⟩:=H
 try dsimp only at H
 by_cases c3:aej=0
 ·rw [if_pos c3] at H
  have gq:(aej == 0)=true:=beq_iff_eq.mpr c3
  have yD:(aej != 0)=false:=bne_eq_false_iff_eq.mpr c3
  clear c3
  obtain ⟨ao7,aij⟩:∃ y_:List Int,y_=(([5462,5461,5461]:List Int)):=⟨_,rfl⟩
  replace H:((dF.f k afy ao7).bind fun aeh=>(if aeh=true then (if adp=0 then (some ((amg.length:Int) == 7)) else (some false)) else (some false)))=some r:=by first|(rw [aij];with_reducible exact H)|(have H2_:=(Option.bind_some _ _).symm.trans H;rw [aij];with_reducible exact H2_)|(have H2_:=(Option.bind_some _ _).symm.trans H;with_reducible exact H2_)|with_reducible exact H|(rw [aij];exact H)|exact H
  have afX:=aj.mk aij
  clear aij
  replace H:=zO H
  obtain ⟨aeh,A4,H⟩:=H
  try dsimp only at H
  by_cases c5:aeh=true
  ·subst c5
   rw [if_pos rfl] at H;try dsimp only at H
   by_cases c6:adp=0
   ·rw [if_pos c6] at H
    have iJ:(adp == 0)=true:=beq_iff_eq.mpr c6
    have vS:(adp != 0)=false:=bne_eq_false_iff_eq.mpr c6
    clear c6
    obtain rfl:=Option.some.inj H
    go_enter Tryz.func89,Tryz.ntmps89
    go_wp2_with (first|((with_reducible refine bK (N:=6) rfl ?_);(try (refine kW (by rfl) ?_;dsimp only));refine Kd.acC (Kd.int .i64) _ 2 ?hg (N:=6) ?hd (xs:=([536870912,536870912,536870912]:List Int)) (inner:=[.int .i64 536870912,.int .i64 536870912,.int .i64 536870912]) (ok:=fun _=>True) (okp:=fun _=>True) ?hr ?hp (fun _ hk=>hk) trivial (Below.refl _ _) (Nat.le_refl _) (by simp) ?_;(case hd=>rfl);(case hg=>rfl);(case hr=>first|(go_simp;done)|(go_simp;rfl));(case hp=>exact (jG.one (show Kd.M (Kd.int .i64) _ _ _ 536870912 [.int .i64 536870912] from rfl) (jG.one (show Kd.M (Kd.int .i64) _ _ _ 536870912 [.int .i64 536870912] from rfl) (jG.one (show Kd.M (Kd.int .i64) _ _ _ 536870912 [.int .i64 536870912] from rfl) (jG.none _ _)))));intro asl w7 ho8 hb hg_ wz;clear hg_ wz;(first|rw [← ac2.out] at ho8|(simp only [Int.reduceToNat] at ho8;rw [← ac2.out] at ho8));obtain ⟨iQ,HB⟩:=zA2 (Kd.gK ho8 (bM zB)) (ak zB hb);clear hb ho8;obtain ⟨Ao9,co9,eo9⟩:=Kd.gQ iQ.out;subst eo9)|((with_reducible refine aA (f:=109) rfl ?_);refine aI (some 7) rfl rfl Tryz.func109 (by kernel_rfl) rfl #[.slice Ao9 aei.length co9] rfl zL ?_;(with_reducible refine (je.calls _ _ aei afy aej _ ?iE ?iF A1.out).mono ?_);(case iE=>repeat (first|exact (Kd.dP iQ.out).2.2|(with_reducible refine Kd.jd ?_ _)|(with_reducible refine Kd.jo ?_ _)|(with_reducible refine Kd.kC ?_)));(case iF=>exact (Kd.dP iQ.out).2.1);rintro e w10 ⟨asn,rfl,ho0,hb⟩;refine ⟨_,rfl,?_⟩;obtain ⟨iQ,kP,HB⟩:=zA3 (Kd.iT (by (with_reducible repeat (first|apply Kd.aK|apply Kd.aQ|apply Kd.aW));exact iQ.out) (Kd.jC ho0) hb) (Kd.gK (Kd.kG ho0 (Kd.lQ (by (with_reducible repeat (first|apply Kd.aK|apply Kd.aQ|apply Kd.aW));exact iQ.out))) (bM zB)) (ak zB hb);(try clear hb);(try clear ho0))|((with_reducible refine aA (f:=110) rfl ?_);refine aI (some 11) rfl rfl Tryz.func110 (by kernel_rfl) rfl #[.int .i64 65536] rfl zL ?_;(with_reducible refine (bD.calls k 65536 amg adp _ A2.out).mono ?_);rintro e w11 ⟨aso,rfl,ho0,hb⟩;refine ⟨_,rfl,?_⟩;obtain ⟨iQ,kP,yC,HB⟩:=zA4 (Kd.iT (by (with_reducible repeat (first|apply Kd.aK|apply Kd.aQ|apply Kd.aW));exact iQ.out) (Kd.jC ho0) hb) (Kd.iT (by (with_reducible repeat (first|apply Kd.aK|apply Kd.aQ|apply Kd.aW));exact kP.out) (Kd.jC ho0) hb) (Kd.gK (Kd.kG (Kd.kG ho0 (Kd.lQ (by (with_reducible repeat (first|apply Kd.aK|apply Kd.aQ|apply Kd.aW));exact iQ.out))) (Kd.lQ (by (with_reducible repeat (first|apply Kd.aK|apply Kd.aQ|apply Kd.aW));exact kP.out))) (bM zB)) (ak zB hb);(try clear hb);(try clear ho0))|((with_reducible refine bK (N:=18) rfl ?_);(try (refine kW (by rfl) ?_;dsimp only));refine Kd.acC (Kd.int .i64) _ 2 ?hg (N:=18) ?hd (xs:=([5462,5461,5461]:List Int)) (inner:=[.int .i64 5462,.int .i64 5461,.int .i64 5461]) (ok:=fun _=>True) (okp:=fun _=>True) ?hr ?hp (fun _ hk=>hk) trivial (Below.refl _ _) (Nat.le_refl _) (by simp) ?_;(case hd=>rfl);(case hg=>rfl);(case hr=>first|(go_simp;done)|(go_simp;rfl));(case hp=>exact (jG.one (show Kd.M (Kd.int .i64) _ _ _ 5462 [.int .i64 5462] from rfl) (jG.one (show Kd.M (Kd.int .i64) _ _ _ 5461 [.int .i64 5461] from rfl) (jG.one (show Kd.M (Kd.int .i64) _ _ _ 5461 [.int .i64 5461] from rfl) (jG.none _ _)))));intro avy w12 afz hb hg_ wz;clear hg_ wz;(first|rw [← afX.out] at afz|(simp only [Int.reduceToNat] at afz;rw [← afX.out] at afz));obtain ⟨iQ,kP,yC,aay,HB⟩:=zA5 (Kd.iT (by (with_reducible repeat (first|apply Kd.aK|apply Kd.aQ|apply Kd.aW));exact iQ.out) (Kd.jC afz) hb) (Kd.iT (by (with_reducible repeat (first|apply Kd.aK|apply Kd.aQ|apply Kd.aW));exact kP.out) (Kd.jC afz) hb) (Kd.iT (by (with_reducible repeat (first|apply Kd.aK|apply Kd.aQ|apply Kd.aW));exact yC.out) (Kd.jC afz) hb) (Kd.gK (Kd.kG (Kd.kG (Kd.kG afz (Kd.lQ (by (with_reducible repeat (first|apply Kd.aK|apply Kd.aQ|apply Kd.aW));exact iQ.out))) (Kd.lQ (by (with_reducible repeat (first|apply Kd.aK|apply Kd.aQ|apply Kd.aW));exact kP.out))) (Kd.lQ (by (with_reducible repeat (first|apply Kd.aK|apply Kd.aQ|apply Kd.aW));exact yC.out))) (bM zB)) (ak zB hb);clear hb afz;obtain ⟨aEh,aEi,ay9⟩:=Kd.gQ kP.out;subst ay9;obtain ⟨aEj,aEk,aza⟩:=Kd.gQ aay.out;subst aza)|(go_at_call 91;(with_reducible refine (dF.calls k _ _ afy _ _ ao7 true _ ?iE ?iF ?aik ?ail A4.out).mono ?_);(case iE=>repeat (first|exact (Kd.dP kP.out).2.2|(with_reducible refine Kd.jd ?_ _)|(with_reducible refine Kd.jo ?_ _)|(with_reducible refine Kd.kC ?_)));(case iF=>exact (Kd.dP kP.out).2.1);(case aik=>repeat (first|exact (Kd.dP aay.out).2.2|(with_reducible refine Kd.jd ?_ _)|(with_reducible refine Kd.jo ?_ _)|(with_reducible refine Kd.kC ?_)));(case ail=>exact (Kd.dP aay.out).2.1);rintro e w' ⟨rfl,⟨nd,rfl⟩⟩;obtain ⟨ay4,ay5,asi⟩:=Kd.gQ yC.out;subst asi))
    go_ret
    exact ⟨zS,zB⟩
   ·rw [if_neg c6] at H
    have iJ:(adp == 0)=false:=beq_eq_false_iff_ne.mpr c6
    have vS:(adp != 0)=true:=bne_iff_ne.mpr c6
    obtain rfl:=Option.some.inj H
    go_enter Tryz.func89,Tryz.ntmps89
    go_wp2_with (first|((with_reducible refine bK (N:=6) rfl ?_);(try (refine kW (by rfl) ?_;dsimp only));refine Kd.acC (Kd.int .i64) _ 2 ?hg (N:=6) ?hd (xs:=([536870912,536870912,536870912]:List Int)) (inner:=[.int .i64 536870912,.int .i64 536870912,.int .i64 536870912]) (ok:=fun _=>True) (okp:=fun _=>True) ?hr ?hp (fun _ hk=>hk) trivial (Below.refl _ _) (Nat.le_refl _) (by simp) ?_;(case hd=>rfl);(case hg=>rfl);(case hr=>first|(go_simp;done)|(go_simp;rfl));(case hp=>exact (jG.one (show Kd.M (Kd.int .i64) _ _ _ 536870912 [.int .i64 536870912] from rfl) (jG.one (show Kd.M (Kd.int .i64) _ _ _ 536870912 [.int .i64 536870912] from rfl) (jG.one (show Kd.M (Kd.int .i64) _ _ _ 536870912 [.int .i64 536870912] from rfl) (jG.none _ _)))));intro asl w17 amh hb hg_ wz;clear hg_ wz;(first|rw [← ac2.out] at amh|(simp only [Int.reduceToNat] at amh;rw [← ac2.out] at amh));obtain ⟨iQ,HB⟩:=zA2 (Kd.gK amh (bM zB)) (ak zB hb);clear hb amh;obtain ⟨alj,alk,alm⟩:=Kd.gQ iQ.out;subst alm)|((with_reducible refine aA (f:=109) rfl ?_);refine aI (some 7) rfl rfl Tryz.func109 (by kernel_rfl) rfl #[.slice alj aei.length alk] rfl zL ?_;(with_reducible refine (je.calls _ _ aei afy aej _ ?iE ?iF A1.out).mono ?_);(case iE=>repeat (first|exact (Kd.dP iQ.out).2.2|(with_reducible refine Kd.jd ?_ _)|(with_reducible refine Kd.jo ?_ _)|(with_reducible refine Kd.kC ?_)));(case iF=>exact (Kd.dP iQ.out).2.1);rintro e w20 ⟨asn,rfl,ho0,hb⟩;refine ⟨_,rfl,?_⟩;obtain ⟨iQ,kP,HB⟩:=zA3 (Kd.iT (by (with_reducible repeat (first|apply Kd.aK|apply Kd.aQ|apply Kd.aW));exact iQ.out) (Kd.jC ho0) hb) (Kd.gK (Kd.kG ho0 (Kd.lQ (by (with_reducible repeat (first|apply Kd.aK|apply Kd.aQ|apply Kd.aW));exact iQ.out))) (bM zB)) (ak zB hb);(try clear hb);(try clear ho0))|((with_reducible refine aA (f:=110) rfl ?_);refine aI (some 11) rfl rfl Tryz.func110 (by kernel_rfl) rfl #[.int .i64 65536] rfl zL ?_;(with_reducible refine (bD.calls k 65536 amg adp _ A2.out).mono ?_);rintro e w21 ⟨aso,rfl,ho0,hb⟩;refine ⟨_,rfl,?_⟩;obtain ⟨iQ,kP,yC,HB⟩:=zA4 (Kd.iT (by (with_reducible repeat (first|apply Kd.aK|apply Kd.aQ|apply Kd.aW));exact iQ.out) (Kd.jC ho0) hb) (Kd.iT (by (with_reducible repeat (first|apply Kd.aK|apply Kd.aQ|apply Kd.aW));exact kP.out) (Kd.jC ho0) hb) (Kd.gK (Kd.kG (Kd.kG ho0 (Kd.lQ (by (with_reducible repeat (first|apply Kd.aK|apply Kd.aQ|apply Kd.aW));exact iQ.out))) (Kd.lQ (by (with_reducible repeat (first|apply Kd.aK|apply Kd.aQ|apply Kd.aW));exact kP.out))) (bM zB)) (ak zB hb);(try clear hb);(try clear ho0))|((with_reducible refine bK (N:=18) rfl ?_);(try (refine kW (by rfl) ?_;dsimp only));refine Kd.acC (Kd.int .i64) _ 2 ?hg (N:=18) ?hd (xs:=([5462,5461,5461]:List Int)) (inner:=[.int .i64 5462,.int .i64 5461,.int .i64 5461]) (ok:=fun _=>True) (okp:=fun _=>True) ?hr ?hp (fun _ hk=>hk) trivial (Below.refl _ _) (Nat.le_refl _) (by simp) ?_;(case hd=>rfl);(case hg=>rfl);(case hr=>first|(go_simp;done)|(go_simp;rfl));(case hp=>exact (jG.one (show Kd.M (Kd.int .i64) _ _ _ 5462 [.int .i64 5462] from rfl) (jG.one (show Kd.M (Kd.int .i64) _ _ _ 5461 [.int .i64 5461] from rfl) (jG.one (show Kd.M (Kd.int .i64) _ _ _ 5461 [.int .i64 5461] from rfl) (jG.none _ _)))));intro avy w22 afA hb hg_ wz;clear hg_ wz;(first|rw [← afX.out] at afA|(simp only [Int.reduceToNat] at afA;rw [← afX.out] at afA));obtain ⟨iQ,kP,yC,aay,HB⟩:=zA5 (Kd.iT (by (with_reducible repeat (first|apply Kd.aK|apply Kd.aQ|apply Kd.aW));exact iQ.out) (Kd.jC afA) hb) (Kd.iT (by (with_reducible repeat (first|apply Kd.aK|apply Kd.aQ|apply Kd.aW));exact kP.out) (Kd.jC afA) hb) (Kd.iT (by (with_reducible repeat (first|apply Kd.aK|apply Kd.aQ|apply Kd.aW));exact yC.out) (Kd.jC afA) hb) (Kd.gK (Kd.kG (Kd.kG (Kd.kG afA (Kd.lQ (by (with_reducible repeat (first|apply Kd.aK|apply Kd.aQ|apply Kd.aW));exact iQ.out))) (Kd.lQ (by (with_reducible repeat (first|apply Kd.aK|apply Kd.aQ|apply Kd.aW));exact kP.out))) (Kd.lQ (by (with_reducible repeat (first|apply Kd.aK|apply Kd.aQ|apply Kd.aW));exact yC.out))) (bM zB)) (ak zB hb);clear hb afA;obtain ⟨aEl,aEm,azb⟩:=Kd.gQ kP.out;subst azb;obtain ⟨aEn,aEo,azc⟩:=Kd.gQ aay.out;subst azc)|(go_at_call 91;(with_reducible refine (dF.calls k _ _ afy _ _ ao7 true _ ?iE ?iF ?aik ?ail A4.out).mono ?_);(case iE=>repeat (first|exact (Kd.dP kP.out).2.2|(with_reducible refine Kd.jd ?_ _)|(with_reducible refine Kd.jo ?_ _)|(with_reducible refine Kd.kC ?_)));(case iF=>exact (Kd.dP kP.out).2.1);(case aik=>repeat (first|exact (Kd.dP aay.out).2.2|(with_reducible refine Kd.jd ?_ _)|(with_reducible refine Kd.jo ?_ _)|(with_reducible refine Kd.kC ?_)));(case ail=>exact (Kd.dP aay.out).2.1);rintro e w' ⟨rfl,⟨nd,rfl⟩⟩))
    go_ret
    exact ⟨zS,zB⟩
  ·replace c5:=Bool.eq_false_iff.mpr c5
   subst c5
   rw [if_neg (show ¬ (false=true) by decide)] at H;try dsimp only at H
   obtain rfl:=Option.some.inj H
   go_enter Tryz.func89,Tryz.ntmps89
   go_wp2_with (first|((with_reducible refine bK (N:=6) rfl ?_);(try (refine kW (by rfl) ?_;dsimp only));refine Kd.acC (Kd.int .i64) _ 2 ?hg (N:=6) ?hd (xs:=([536870912,536870912,536870912]:List Int)) (inner:=[.int .i64 536870912,.int .i64 536870912,.int .i64 536870912]) (ok:=fun _=>True) (okp:=fun _=>True) ?hr ?hp (fun _ hk=>hk) trivial (Below.refl _ _) (Nat.le_refl _) (by simp) ?_;(case hd=>rfl);(case hg=>rfl);(case hr=>first|(go_simp;done)|(go_simp;rfl));(case hp=>exact (jG.one (show Kd.M (Kd.int .i64) _ _ _ 536870912 [.int .i64 536870912] from rfl) (jG.one (show Kd.M (Kd.int .i64) _ _ _ 536870912 [.int .i64 536870912] from rfl) (jG.one (show Kd.M (Kd.int .i64) _ _ _ 536870912 [.int .i64 536870912] from rfl) (jG.none _ _)))));intro asl w26 ami hb hg_ wz;clear hg_ wz;(first|rw [← ac2.out] at ami|(simp only [Int.reduceToNat] at ami;rw [← ac2.out] at ami));obtain ⟨iQ,HB⟩:=zA2 (Kd.gK ami (bM zB)) (ak zB hb);clear hb ami;obtain ⟨azd,aze,azf⟩:=Kd.gQ iQ.out;subst azf)|((with_reducible refine aA (f:=109) rfl ?_);refine aI (some 7) rfl rfl Tryz.func109 (by kernel_rfl) rfl #[.slice azd aei.length aze] rfl zL ?_;(with_reducible refine (je.calls _ _ aei afy aej _ ?iE ?iF A1.out).mono ?_);(case iE=>repeat (first|exact (Kd.dP iQ.out).2.2|(with_reducible refine Kd.jd ?_ _)|(with_reducible refine Kd.jo ?_ _)|(with_reducible refine Kd.kC ?_)));(case iF=>exact (Kd.dP iQ.out).2.1);rintro e w29 ⟨asn,rfl,ho0,hb⟩;refine ⟨_,rfl,?_⟩;obtain ⟨iQ,kP,HB⟩:=zA3 (Kd.iT (by (with_reducible repeat (first|apply Kd.aK|apply Kd.aQ|apply Kd.aW));exact iQ.out) (Kd.jC ho0) hb) (Kd.gK (Kd.kG ho0 (Kd.lQ (by (with_reducible repeat (first|apply Kd.aK|apply Kd.aQ|apply Kd.aW));exact iQ.out))) (bM zB)) (ak zB hb);(try clear hb);(try clear ho0))|((with_reducible refine aA (f:=110) rfl ?_);refine aI (some 11) rfl rfl Tryz.func110 (by kernel_rfl) rfl #[.int .i64 65536] rfl zL ?_;(with_reducible refine (bD.calls k 65536 amg adp _ A2.out).mono ?_);rintro e w30 ⟨aso,rfl,ho0,hb⟩;refine ⟨_,rfl,?_⟩;obtain ⟨iQ,kP,yC,HB⟩:=zA4 (Kd.iT (by (with_reducible repeat (first|apply Kd.aK|apply Kd.aQ|apply Kd.aW));exact iQ.out) (Kd.jC ho0) hb) (Kd.iT (by (with_reducible repeat (first|apply Kd.aK|apply Kd.aQ|apply Kd.aW));exact kP.out) (Kd.jC ho0) hb) (Kd.gK (Kd.kG (Kd.kG ho0 (Kd.lQ (by (with_reducible repeat (first|apply Kd.aK|apply Kd.aQ|apply Kd.aW));exact iQ.out))) (Kd.lQ (by (with_reducible repeat (first|apply Kd.aK|apply Kd.aQ|apply Kd.aW));exact kP.out))) (bM zB)) (ak zB hb);(try clear hb);(try clear ho0))|((with_reducible refine bK (N:=18) rfl ?_);(try (refine kW (by rfl) ?_;dsimp only));refine Kd.acC (Kd.int .i64) _ 2 ?hg (N:=18) ?hd (xs:=([5462,5461,5461]:List Int)) (inner:=[.int .i64 5462,.int .i64 5461,.int .i64 5461]) (ok:=fun _=>True) (okp:=fun _=>True) ?hr ?hp (fun _ hk=>hk) trivial (Below.refl _ _) (Nat.le_refl _) (by simp) ?_;(case hd=>rfl);(case hg=>rfl);(case hr=>first|(go_simp;done)|(go_simp;rfl));(case hp=>exact (jG.one (show Kd.M (Kd.int .i64) _ _ _ 5462 [.int .i64 5462] from rfl) (jG.one (show Kd.M (Kd.int .i64) _ _ _ 5461 [.int .i64 5461] from rfl) (jG.one (show Kd.M (Kd.int .i64) _ _ _ 5461 [.int .i64 5461] from rfl) (jG.none _ _)))));intro avy w31 afB hb hg_ wz;clear hg_ wz;(first|rw [← afX.out] at afB|(simp only [Int.reduceToNat] at afB;rw [← afX.out] at afB));obtain ⟨iQ,kP,yC,aay,HB⟩:=zA5 (Kd.iT (by (with_reducible repeat (first|apply Kd.aK|apply Kd.aQ|apply Kd.aW));exact iQ.out) (Kd.jC afB) hb) (Kd.iT (by (with_reducible repeat (first|apply Kd.aK|apply Kd.aQ|apply Kd.aW));exact kP.out) (Kd.jC afB) hb) (Kd.iT (by (with_reducible repeat (first|apply Kd.aK|apply Kd.aQ|apply Kd.aW));exact yC.out) (Kd.jC afB) hb) (Kd.gK (Kd.kG (Kd.kG (Kd.kG afB (Kd.lQ (by (with_reducible repeat (first|apply Kd.aK|apply Kd.aQ|apply Kd.aW));exact iQ.out))) (Kd.lQ (by (with_reducible repeat (first|apply Kd.aK|apply Kd.aQ|apply Kd.aW));exact kP.out))) (Kd.lQ (by (with_reducible repeat (first|apply Kd.aK|apply Kd.aQ|apply Kd.aW));exact yC.out))) (bM zB)) (ak zB hb);clear hb afB;obtain ⟨aEp,ard,adb⟩:=Kd.gQ kP.out;subst adb;obtain ⟨aye,vW,aq8⟩:=Kd.gQ aay.out;subst aq8)|(go_at_call 91;(with_reducible refine (dF.calls k _ _ afy _ _ ao7 false _ ?iE ?iF ?aik ?ail A4.out).mono ?_);(case iE=>repeat (first|exact (Kd.dP kP.out).2.2|(with_reducible refine Kd.jd ?_ _)|(with_reducible refine Kd.jo ?_ _)|(with_reducible refine Kd.kC ?_)));(case iF=>exact (Kd.dP kP.out).2.1);(case aik=>repeat (first|exact (Kd.dP aay.out).2.2|(with_reducible refine Kd.jd ?_ _)|(with_reducible refine Kd.jo ?_ _)|(with_reducible refine Kd.kC ?_)));(case ail=>exact (Kd.dP aay.out).2.1);rintro e w' ⟨rfl,⟨nd,rfl⟩⟩))
   go_ret
   exact ⟨zS,zB⟩
 ·rw [if_neg c3] at H
  have gq:(aej == 0)=false:=beq_eq_false_iff_ne.mpr c3
  have yD:(aej != 0)=true:=bne_iff_ne.mpr c3
  obtain rfl:=Option.some.inj H
  go_enter Tryz.func89,Tryz.ntmps89
  go_wp2_with (first|((with_reducible refine bK (N:=6) rfl ?_);(try (refine kW (by rfl) ?_;dsimp only));refine Kd.acC (Kd.int .i64) _ 2 ?hg (N:=6) ?hd (xs:=([536870912,536870912,536870912]:List Int)) (inner:=[.int .i64 536870912,.int .i64 536870912,.int .i64 536870912]) (ok:=fun _=>True) (okp:=fun _=>True) ?hr ?hp (fun _ hk=>hk) trivial (Below.refl _ _) (Nat.le_refl _) (by simp) ?_;(case hd=>rfl);(case hg=>rfl);(case hr=>first|(go_simp;done)|(go_simp;rfl));(case hp=>exact (jG.one (show Kd.M (Kd.int .i64) _ _ _ 536870912 [.int .i64 536870912] from rfl) (jG.one (show Kd.M (Kd.int .i64) _ _ _ 536870912 [.int .i64 536870912] from rfl) (jG.one (show Kd.M (Kd.int .i64) _ _ _ 536870912 [.int .i64 536870912] from rfl) (jG.none _ _)))));intro asl w35 amj hb hg_ wz;clear hg_ wz;(first|rw [← ac2.out] at amj|(simp only [Int.reduceToNat] at amj;rw [← ac2.out] at amj));obtain ⟨iQ,HB⟩:=zA2 (Kd.gK amj (bM zB)) (ak zB hb);clear hb amj;obtain ⟨azg,azh,azi⟩:=Kd.gQ iQ.out;subst azi)|((with_reducible refine aA (f:=109) rfl ?_);refine aI (some 7) rfl rfl Tryz.func109 (by kernel_rfl) rfl #[.slice azg aei.length azh] rfl zL ?_;(with_reducible refine (je.calls _ _ aei afy aej _ ?iE ?iF A1.out).mono ?_);(case iE=>repeat (first|exact (Kd.dP iQ.out).2.2|(with_reducible refine Kd.jd ?_ _)|(with_reducible refine Kd.jo ?_ _)|(with_reducible refine Kd.kC ?_)));(case iF=>exact (Kd.dP iQ.out).2.1);rintro e w38 ⟨asn,rfl,ho0,hb⟩;refine ⟨_,rfl,?_⟩;obtain ⟨iQ,kP,HB⟩:=zA3 (Kd.iT (by (with_reducible repeat (first|apply Kd.aK|apply Kd.aQ|apply Kd.aW));exact iQ.out) (Kd.jC ho0) hb) (Kd.gK (Kd.kG ho0 (Kd.lQ (by (with_reducible repeat (first|apply Kd.aK|apply Kd.aQ|apply Kd.aW));exact iQ.out))) (bM zB)) (ak zB hb);(try clear hb);(try clear ho0))|((with_reducible refine aA (f:=110) rfl ?_);refine aI (some 11) rfl rfl Tryz.func110 (by kernel_rfl) rfl #[.int .i64 65536] rfl zL ?_;(with_reducible refine (bD.calls k 65536 amg adp _ A2.out).mono ?_);rintro e w39 ⟨aso,rfl,ho0,hb⟩;refine ⟨_,rfl,?_⟩;obtain ⟨iQ,kP,yC,HB⟩:=zA4 (Kd.iT (by (with_reducible repeat (first|apply Kd.aK|apply Kd.aQ|apply Kd.aW));exact iQ.out) (Kd.jC ho0) hb) (Kd.iT (by (with_reducible repeat (first|apply Kd.aK|apply Kd.aQ|apply Kd.aW));exact kP.out) (Kd.jC ho0) hb) (Kd.gK (Kd.kG (Kd.kG ho0 (Kd.lQ (by (with_reducible repeat (first|apply Kd.aK|apply Kd.aQ|apply Kd.aW));exact iQ.out))) (Kd.lQ (by (with_reducible repeat (first|apply Kd.aK|apply Kd.aQ|apply Kd.aW));exact kP.out))) (bM zB)) (ak zB hb);(try clear hb);(try clear ho0)))
  go_ret
  exact ⟨zS,zB⟩
end Go.Proofs.YtpondkggmcmpfaaGreatDoor.QA
