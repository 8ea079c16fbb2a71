/- Joined by wip/tools/bundle.py out of: QAx19. -/
import Derived.Test.YtpondkggmcmpfaaGreatDoorBPlanReaches0
import Derived.Test.YtpondkggmcmpfaaGreatDoorBPlanReaches1
import Derived.Test.YtpondkggmcmpfaaGreatDoorBPlanReaches8
import Derived.Test.YtpondkggmcmpfaaGreatDoorBPlanReaches7
namespace Go.Proofs.YtpondkggmcmpfaaGreatDoor.QA
open Go.Proofs.YtpondkggmcmpfaaGreatDoor.T
open Go.RowKit Go.Proofs.YtpondkggmcmpfaaGreatDoorW.PrintWords Go.Proofs.YtpondkggmcmpfaaGreatDoorW.PrintLast Go.Proofs.YtpondkggmcmpfaaGreatDoorW.PrintMore
attribute [local go_sem] dV dQ dR eP eX
set_option linter.unusedVariables false
set_option linter.unusedSimpArgs false
def dh.l0:Nat→List Int→List Int→Int→Int→Option (Bool)
 | 0,_,_,_,_=>none
 | k+1,x0,x1,x12,x13=>if x13 < x12 then (if 0≤x13 then (if x13 < (x0.length:Int) then (if x13 < (x1.length:Int) then (if (rd x0 x13)=(rd x1 x13) then (dh.l0 k x0 x1 x12 (wrap64 (x13+1))) else (some false)) else (none)) else (none)) else (none)) else (some true)
def dh.f (k:Nat) (l0 l1:List Int):Option (Bool):=if (l0.length:Int)=(l1.length:Int) then (dh.l0 k l0 l1 (l0.length:Int) 0) else (some false)
theorem dh.iT:∀ k,(∀ y0 y1 y2 y3,LeO (dh.l0 k y0 y1 y2 y3) (dh.l0 (k+1) y0 y1 y2 y3))
 | 0=>fun _ _ _ _ r h=>by simp [dh.l0] at h
 | k+1=>by
  have ih0:=dh.iT k
  ·intro y0 y1 y2 y3
   unfold dh.l0
   repeat' (with_reducible first|exact ih0 _ _ _ _|exact zM|refine LeO.ite ?_ ?_|refine LeO.bind ?_ (fun _ => ?_))
theorem dh.mono:∀ a0 a1 k,LeO (dh.f k a0 a1) (dh.f (k+1) a0 a1):=by
 intro a0 a1 k
 have ih0:=dh.iT k
 unfold dh.f
 repeat' (with_reducible first|exact ih0 _ _ _ _|exact zM|refine LeO.ite ?_ ?_|refine LeO.bind ?_ (fun _ => ?_))
set_option maxHeartbeats 8000000 in
set_option maxRecDepth 100000 in
theorem dh.calls (k:Nat) (A0:Option Addr) (c0:Nat) (l0:List Int) (A1:Option Addr) (c1:Nat) (l1:List Int) (r:Bool) (w:World) (hr0:Kd.C (Kd.int .i64) w A0 l0.length l0) (hc0:l0.length≤c0) (hr1:Kd.C (Kd.int .i64) w A1 l1.length l1) (hc1:l1.length≤c1) (h:dh.f k l0 l1=some r) :
  Calls Tryz.prog 91 #[.slice A0 l0.length c0,.slice A1 l1.length c1] w fun e w'=>e = .returned (.bool r)∧dw w w':=by
 have HR0:=aj.mk hr0
 have HC0:=aj.mk hc0
 clear hr0 hc0
 have HR1:=aj.mk hr1
 have HC1:=aj.mk hc1
 clear hr1 hc1
 have H:=h
 clear h
 unfold dh.f at H
 by_cases c3:(l0.length:Int)=(l1.length:Int)
 ·rw [if_pos c3] at H
  have fO:((l0.length:Int) == (l1.length:Int))=true:=beq_iff_eq.mpr c3
  have wO:((l0.length:Int) != (l1.length:Int))=false:=bne_eq_false_iff_eq.mpr c3
  have awr:(l0.length == l1.length)=true:=by first|simpa using c3|(simp at c3 ⊢;omega)
  clear c3
  have H':=aj.mk H
  clear H
  go_enter Tryz.func91,Tryz.ntmps91
  go_wp2
  repeat (go_quiet (fail);try go_wp2)
  go_loopg [13] k (fun kq v13 w'=>∃ (kF:Int),v13 = .int .i64 kF∧aj (dh.l0 kq l0 l1 (l0.length:Int) kF=some r)∧aj (kq≤k)∧dw w w')
  case atStart=>exact ⟨(0),zT,H',⟨Nat.le_refl _⟩,zW⟩
  case round =>
   clear H'
   obtain ⟨kF,rfl,HA,HK1,⟨m1,rfl⟩⟩:=hrel
   cases gk with
   | zero=>exact absurd HA.out (by simp [dh.l0])
   | succ k1 =>
    have H:=HA.out
    clear HA
    simp only [dh.l0] at H
    by_cases c4:kF < (l0.length:Int)
    ·rw [if_pos c4] at H
     have fU:=decide_eq_true c4
     clear c4
     by_cases c5:0≤kF
     ·rw [if_pos c5] at H
      have iL:=decide_eq_true c5
      clear c5
      by_cases c6:kF < (l0.length:Int)
      ·rw [if_pos c6] at H
       have iw:=decide_eq_true c6
       clear c6
       by_cases c7:kF < (l1.length:Int)
       ·rw [if_pos c7] at H
        have jr:=decide_eq_true c7
        clear c7
        by_cases c8:(rd l0 kF)=(rd l1 kF)
        ·rw [if_pos c8] at H
         have vT:((rd l0 kF) == (rd l1 kF))=true:=beq_iff_eq.mpr c8
         have acH:((rd l0 kF) != (rd l1 kF))=false:=bne_eq_false_iff_eq.mpr c8
         clear c8
         have H':=aj.mk H
         clear H
         have afW:0≤(kF:Int):=of_decide_eq_true (by first|(with_reducible assumption)|assumption)
         have afX:kF < (l0.length:Int):=of_decide_eq_true (by first|(with_reducible assumption)|assumption)
         obtain ⟨avg,e238,arD⟩:=Kd.jD HR0.out kF afW afX
         cases e238
         replace afW:=eq_true afW
         replace afX:=eq_true afX
         have afY:0≤(kF:Int):=of_decide_eq_true (by first|(with_reducible assumption)|assumption)
         have afZ:kF < (l1.length:Int):=of_decide_eq_true (by first|(with_reducible assumption)|assumption)
         obtain ⟨avh,ap2,arE⟩:=Kd.jD HR1.out kF afY afZ
         cases ap2
         replace afY:=eq_true afY
         replace afZ:=eq_true afZ
         go_wp2
         repeat (go_quiet (fail);try go_wp2)
         go_roundg k1
         case measure=>have:=HK1.out;omega
         case rel=>exact ⟨(wrap64 (kF+1)),zT,H',⟨by have:=HK1.out;omega⟩,zW⟩
        ·rw [if_neg c8] at H
         have vT:((rd l0 kF) == (rd l1 kF))=false:=beq_eq_false_iff_ne.mpr c8
         have acH:((rd l0 kF) != (rd l1 kF))=true:=bne_iff_ne.mpr c8
         obtain rfl:=Option.some.inj H
         have afW:0≤(kF:Int):=of_decide_eq_true (by first|(with_reducible assumption)|assumption)
         have afX:kF < (l0.length:Int):=of_decide_eq_true (by first|(with_reducible assumption)|assumption)
         obtain ⟨avg,e238,arD⟩:=Kd.jD HR0.out kF afW afX
         cases e238
         replace afW:=eq_true afW
         replace afX:=eq_true afX
         have afY:0≤(kF:Int):=of_decide_eq_true (by first|(with_reducible assumption)|assumption)
         have afZ:kF < (l1.length:Int):=of_decide_eq_true (by first|(with_reducible assumption)|assumption)
         obtain ⟨avh,ap2,arE⟩:=Kd.jD HR1.out kF afY afZ
         cases ap2
         replace afY:=eq_true afY
         replace afZ:=eq_true afZ
         go_wp2
         repeat (go_quiet (fail);try go_wp2)
         go_ret
         exact ⟨zT,zW⟩
       ·rw [if_neg c7] at H
        exact absurd H (by simp)
      ·rw [if_neg c6] at H
       exact absurd H (by simp)
     ·rw [if_neg c5] at H
      exact absurd H (by simp)
    ·rw [if_neg c4] at H
     have fU:=decide_eq_false c4
     clear c4
     obtain rfl:=Option.some.inj H
     go_wp2
     repeat (go_quiet (fail);try go_wp2)
     go_ret
     exact ⟨zT,zW⟩
 ·rw [if_neg c3] at H
  have fO:((l0.length:Int) == (l1.length:Int))=false:=beq_eq_false_iff_ne.mpr c3
  have wO:((l0.length:Int) != (l1.length:Int))=true:=bne_iff_ne.mpr c3
  have awr:(l0.length == l1.length)=false:=by first|simpa using c3|(simp at c3 ⊢;omega)
  obtain rfl:=Option.some.inj H
  go_enter Tryz.func91,Tryz.ntmps91
  go_wp2
  repeat (go_quiet (fail);try go_wp2)
  go_ret
  exact ⟨zT,zW⟩
def jo.f (k:Nat):Option (Bool):=(iM.f (([536870912,536870912,536870912]:List Int))).bind fun abZ=>((bn.f k 65536).bind fun ab1=>(if abZ.2=0 then ((dh.f k abZ.1 (([5462,5461,5461]:List Int))).bind fun adg=>(if adg=true then (if ab1.2=0 then (some ((ab1.1.length:Int) == 7)) else (some false)) else (some false))) else (some false)))
theorem jo.mono:∀ k,LeO (jo.f k ) (jo.f (k+1) ):=by
 intro k
 unfold jo.f
 repeat' (with_reducible first|exact dh.mono _ _ _|exact bn.mono _ _|exact zM|refine LeO.ite ?_ ?_|refine LeO.bind ?_ (fun _ => ?_))
set_option maxHeartbeats 8000000 in
set_option maxRecDepth 100000 in
theorem jo.calls (k:Nat) (r:Bool) (w:World) (h:jo.f k=some r) :
  Calls Tryz.prog 89 #[] w fun e w'=>e = .returned (.bool r)∧Below w.heap.size w w':=by
 have HB:=aj.mk (Below.refl w.heap.size w)
 have H:((iM.f (([536870912,536870912,536870912]:List Int))).bind fun abZ=>((bn.f k 65536).bind fun ab1=>(if abZ.2=0 then ((dh.f k abZ.1 (([5462,5461,5461]:List Int))).bind fun adg=>(if adg=true then (if ab1.2=0 then (some ((ab1.1.length:Int) == 7)) else (some false)) else (some false))) else (some false))))=some r:=h
 clear h
 obtain ⟨adh,ag5⟩:∃ y_:List Int,y_=(([536870912,536870912,536870912]:List Int)):=⟨_,rfl⟩
 replace H:((iM.f adh).bind fun abZ=>((bn.f k 65536).bind fun ab1=>(if abZ.2=0 then ((dh.f k abZ.1 (([5462,5461,5461]:List Int))).bind fun adg=>(if adg=true then (if ab1.2=0 then (some ((ab1.1.length:Int) == 7)) else (some false)) else (some false))) else (some false))))=some r:=by first|(rw [ag5];with_reducible exact H)|(have H2_:=(Option.bind_some _ _).symm.trans H;rw [ag5];with_reducible exact H2_)|(have H2_:=(Option.bind_some _ _).symm.trans H;with_reducible exact H2_)|with_reducible exact H|(rw [ag5];exact H)|exact H
 have ab2:=aj.mk ag5
 clear ag5
 replace H:=zO H
 obtain ⟨⟨aez,adi⟩,A1,H⟩:=H
 try dsimp only at H
 replace H:=zO H
 obtain ⟨⟨akK,aci⟩,A2,H⟩:=H
 try dsimp only at H
 by_cases c3:adi=0
 ·rw [if_pos c3] at H
  have fO:(adi == 0)=true:=beq_iff_eq.mpr c3
  have wO:(adi != 0)=false:=bne_eq_false_iff_eq.mpr c3
  clear c3
  obtain ⟨ang,ag6⟩:∃ y_:List Int,y_=(([5462,5461,5461]:List Int)):=⟨_,rfl⟩
  replace H:((dh.f k aez ang).bind fun adg=>(if adg=true then (if aci=0 then (some ((akK.length:Int) == 7)) else (some false)) else (some false)))=some r:=by first|(rw [ag6];with_reducible exact H)|(have H2_:=(Option.bind_some _ _).symm.trans H;rw [ag6];with_reducible exact H2_)|(have H2_:=(Option.bind_some _ _).symm.trans H;with_reducible exact H2_)|with_reducible exact H|(rw [ag6];exact H)|exact H
  have aeW:=aj.mk ag6
  clear ag6
  replace H:=zO H
  obtain ⟨adg,A4,H⟩:=H
  try dsimp only at H
  by_cases c5:adg=true
  ·subst c5
   rw [if_pos rfl] at H;try dsimp only at H
   by_cases c6:aci=0
   ·rw [if_pos c6] at H
    have iw:(aci == 0)=true:=beq_iff_eq.mpr c6
    have um:(aci != 0)=false:=bne_eq_false_iff_eq.mpr c6
    clear c6
    obtain rfl:=Option.some.inj H
    go_enter Tryz.func89,Tryz.ntmps89
    go_wp2_with (first|((with_reducible refine bM (N:=6) rfl ?_);(try (refine ku (by rfl) ?_;dsimp only));refine Kd.abB (Kd.int .i64) _ 2 ?hg (N:=6) ?hd (xs:=([536870912,536870912,536870912]:List Int)) (inner:=[.int .i64 536870912,.int .i64 536870912,.int .i64 536870912]) (ok:=fun _=>True) (okp:=fun _=>True) ?hr ?hp (fun _ hk=>hk) trivial (Below.refl _ _) (Nat.le_refl _) (by simp) ?_;(case hd=>rfl);(case hg=>rfl);(case hr=>first|(go_simp;done)|(go_simp;rfl));(case hp=>exact (jg.one (show Kd.M (Kd.int .i64) _ _ _ 536870912 [.int .i64 536870912] from rfl) (jg.one (show Kd.M (Kd.int .i64) _ _ _ 536870912 [.int .i64 536870912] from rfl) (jg.one (show Kd.M (Kd.int .i64) _ _ _ 536870912 [.int .i64 536870912] from rfl) (jg.none _ _)))));intro ap3 w7 ho8 hb hg_ uK;clear hg_ uK;(first|rw [← ab2.out] at ho8|(simp only [Int.reduceToNat] at ho8;rw [← ab2.out] at ho8));obtain ⟨iD,HB⟩:=zA2 (Kd.fV ho8 (bF zB)) (ak zB hb);clear hb ho8;obtain ⟨Ao9,co9,eo9⟩:=Kd.fQ iD.out;subst eo9)|((with_reducible refine aA (f:=109) rfl ?_);refine aH (some 7) rfl rfl Tryz.func109 (by kernel_rfl) rfl #[.slice Ao9 adh.length co9] rfl zL ?_;(with_reducible refine (iM.calls _ _ adh aez adi _ ?iI ?iJ A1.out).mono ?_);(case iI=>repeat (first|exact (Kd.dK iD.out).2.2|(with_reducible refine Kd.je ?_ _)|(with_reducible refine Kd.jC ?_ _)|(with_reducible refine Kd.kD ?_)));(case iJ=>exact (Kd.dK iD.out).2.1);rintro e w10 ⟨ap4,rfl,ho0,hb⟩;refine ⟨_,rfl,?_⟩;obtain ⟨iD,jU,HB⟩:=zA3 (Kd.iE (by (with_reducible repeat (first|apply Kd.aK|apply Kd.aQ|apply Kd.aW));exact iD.out) (Kd.iZ ho0) hb) (Kd.fV (Kd.jM ho0 (Kd.kU (by (with_reducible repeat (first|apply Kd.aK|apply Kd.aQ|apply Kd.aW));exact iD.out))) (bF zB)) (ak zB hb);(try clear hb);(try clear ho0))|((with_reducible refine aA (f:=110) rfl ?_);refine aH (some 11) rfl rfl Tryz.func110 (by kernel_rfl) rfl #[.int .i64 65536] rfl zL ?_;(with_reducible refine (bn.calls k 65536 akK aci _ A2.out).mono ?_);rintro e w11 ⟨ap5,rfl,ho0,hb⟩;refine ⟨_,rfl,?_⟩;obtain ⟨iD,jU,wM,HB⟩:=zA4 (Kd.iE (by (with_reducible repeat (first|apply Kd.aK|apply Kd.aQ|apply Kd.aW));exact iD.out) (Kd.iZ ho0) hb) (Kd.iE (by (with_reducible repeat (first|apply Kd.aK|apply Kd.aQ|apply Kd.aW));exact jU.out) (Kd.iZ ho0) hb) (Kd.fV (Kd.jM (Kd.jM ho0 (Kd.kU (by (with_reducible repeat (first|apply Kd.aK|apply Kd.aQ|apply Kd.aW));exact iD.out))) (Kd.kU (by (with_reducible repeat (first|apply Kd.aK|apply Kd.aQ|apply Kd.aW));exact jU.out))) (bF zB)) (ak zB hb);(try clear hb);(try clear ho0))|((with_reducible refine bM (N:=18) rfl ?_);(try (refine ku (by rfl) ?_;dsimp only));refine Kd.abB (Kd.int .i64) _ 2 ?hg (N:=18) ?hd (xs:=([5462,5461,5461]:List Int)) (inner:=[.int .i64 5462,.int .i64 5461,.int .i64 5461]) (ok:=fun _=>True) (okp:=fun _=>True) ?hr ?hp (fun _ hk=>hk) trivial (Below.refl _ _) (Nat.le_refl _) (by simp) ?_;(case hd=>rfl);(case hg=>rfl);(case hr=>first|(go_simp;done)|(go_simp;rfl));(case hp=>exact (jg.one (show Kd.M (Kd.int .i64) _ _ _ 5462 [.int .i64 5462] from rfl) (jg.one (show Kd.M (Kd.int .i64) _ _ _ 5461 [.int .i64 5461] from rfl) (jg.one (show Kd.M (Kd.int .i64) _ _ _ 5461 [.int .i64 5461] from rfl) (jg.none _ _)))));intro as1 w12 aeA hb hg_ uK;clear hg_ uK;(first|rw [← aeW.out] at aeA|(simp only [Int.reduceToNat] at aeA;rw [← aeW.out] at aeA));obtain ⟨iD,jU,wM,yU,HB⟩:=zA5 (Kd.iE (by (with_reducible repeat (first|apply Kd.aK|apply Kd.aQ|apply Kd.aW));exact iD.out) (Kd.iZ aeA) hb) (Kd.iE (by (with_reducible repeat (first|apply Kd.aK|apply Kd.aQ|apply Kd.aW));exact jU.out) (Kd.iZ aeA) hb) (Kd.iE (by (with_reducible repeat (first|apply Kd.aK|apply Kd.aQ|apply Kd.aW));exact wM.out) (Kd.iZ aeA) hb) (Kd.fV (Kd.jM (Kd.jM (Kd.jM aeA (Kd.kU (by (with_reducible repeat (first|apply Kd.aK|apply Kd.aQ|apply Kd.aW));exact iD.out))) (Kd.kU (by (with_reducible repeat (first|apply Kd.aK|apply Kd.aQ|apply Kd.aW));exact jU.out))) (Kd.kU (by (with_reducible repeat (first|apply Kd.aK|apply Kd.aQ|apply Kd.aW));exact wM.out))) (bF zB)) (ak zB hb);clear hb aeA;obtain ⟨aBp,aBq,awt⟩:=Kd.fQ jU.out;subst awt;obtain ⟨aBr,aBs,awu⟩:=Kd.fQ yU.out;subst awu)|(go_at_call 91;(with_reducible refine (dh.calls k _ _ aez _ _ ang true _ ?iI ?iJ ?ag7 ?ag8 A4.out).mono ?_);(case iI=>repeat (first|exact (Kd.dK jU.out).2.2|(with_reducible refine Kd.je ?_ _)|(with_reducible refine Kd.jC ?_ _)|(with_reducible refine Kd.kD ?_)));(case iJ=>exact (Kd.dK jU.out).2.1);(case ag7=>repeat (first|exact (Kd.dK yU.out).2.2|(with_reducible refine Kd.je ?_ _)|(with_reducible refine Kd.jC ?_ _)|(with_reducible refine Kd.kD ?_)));(case ag8=>exact (Kd.dK yU.out).2.1);rintro e w' ⟨rfl,⟨nd,rfl⟩⟩;obtain ⟨awn,awo,ap1⟩:=Kd.fQ wM.out;subst ap1))
    go_ret
    exact ⟨zS,zB⟩
   ·rw [if_neg c6] at H
    have iw:(aci == 0)=false:=beq_eq_false_iff_ne.mpr c6
    have um:(aci != 0)=true:=bne_iff_ne.mpr c6
    obtain rfl:=Option.some.inj H
    go_enter Tryz.func89,Tryz.ntmps89
    go_wp2_with (first|((with_reducible refine bM (N:=6) rfl ?_);(try (refine ku (by rfl) ?_;dsimp only));refine Kd.abB (Kd.int .i64) _ 2 ?hg (N:=6) ?hd (xs:=([536870912,536870912,536870912]:List Int)) (inner:=[.int .i64 536870912,.int .i64 536870912,.int .i64 536870912]) (ok:=fun _=>True) (okp:=fun _=>True) ?hr ?hp (fun _ hk=>hk) trivial (Below.refl _ _) (Nat.le_refl _) (by simp) ?_;(case hd=>rfl);(case hg=>rfl);(case hr=>first|(go_simp;done)|(go_simp;rfl));(case hp=>exact (jg.one (show Kd.M (Kd.int .i64) _ _ _ 536870912 [.int .i64 536870912] from rfl) (jg.one (show Kd.M (Kd.int .i64) _ _ _ 536870912 [.int .i64 536870912] from rfl) (jg.one (show Kd.M (Kd.int .i64) _ _ _ 536870912 [.int .i64 536870912] from rfl) (jg.none _ _)))));intro ap3 w17 akL hb hg_ uK;clear hg_ uK;(first|rw [← ab2.out] at akL|(simp only [Int.reduceToNat] at akL;rw [← ab2.out] at akL));obtain ⟨iD,HB⟩:=zA2 (Kd.fV akL (bF zB)) (ak zB hb);clear hb akL;obtain ⟨ajY,ajZ,aj0⟩:=Kd.fQ iD.out;subst aj0)|((with_reducible refine aA (f:=109) rfl ?_);refine aH (some 7) rfl rfl Tryz.func109 (by kernel_rfl) rfl #[.slice ajY adh.length ajZ] rfl zL ?_;(with_reducible refine (iM.calls _ _ adh aez adi _ ?iI ?iJ A1.out).mono ?_);(case iI=>repeat (first|exact (Kd.dK iD.out).2.2|(with_reducible refine Kd.je ?_ _)|(with_reducible refine Kd.jC ?_ _)|(with_reducible refine Kd.kD ?_)));(case iJ=>exact (Kd.dK iD.out).2.1);rintro e w20 ⟨ap4,rfl,ho0,hb⟩;refine ⟨_,rfl,?_⟩;obtain ⟨iD,jU,HB⟩:=zA3 (Kd.iE (by (with_reducible repeat (first|apply Kd.aK|apply Kd.aQ|apply Kd.aW));exact iD.out) (Kd.iZ ho0) hb) (Kd.fV (Kd.jM ho0 (Kd.kU (by (with_reducible repeat (first|apply Kd.aK|apply Kd.aQ|apply Kd.aW));exact iD.out))) (bF zB)) (ak zB hb);(try clear hb);(try clear ho0))|((with_reducible refine aA (f:=110) rfl ?_);refine aH (some 11) rfl rfl Tryz.func110 (by kernel_rfl) rfl #[.int .i64 65536] rfl zL ?_;(with_reducible refine (bn.calls k 65536 akK aci _ A2.out).mono ?_);rintro e w21 ⟨ap5,rfl,ho0,hb⟩;refine ⟨_,rfl,?_⟩;obtain ⟨iD,jU,wM,HB⟩:=zA4 (Kd.iE (by (with_reducible repeat (first|apply Kd.aK|apply Kd.aQ|apply Kd.aW));exact iD.out) (Kd.iZ ho0) hb) (Kd.iE (by (with_reducible repeat (first|apply Kd.aK|apply Kd.aQ|apply Kd.aW));exact jU.out) (Kd.iZ ho0) hb) (Kd.fV (Kd.jM (Kd.jM ho0 (Kd.kU (by (with_reducible repeat (first|apply Kd.aK|apply Kd.aQ|apply Kd.aW));exact iD.out))) (Kd.kU (by (with_reducible repeat (first|apply Kd.aK|apply Kd.aQ|apply Kd.aW));exact jU.out))) (bF zB)) (ak zB hb);(try clear hb);(try clear ho0))|((with_reducible refine bM (N:=18) rfl ?_);(try (refine ku (by rfl) ?_;dsimp only));refine Kd.abB (Kd.int .i64) _ 2 ?hg (N:=18) ?hd (xs:=([5462,5461,5461]:List Int)) (inner:=[.int .i64 5462,.int .i64 5461,.int .i64 5461]) (ok:=fun _=>True) (okp:=fun _=>True) ?hr ?hp (fun _ hk=>hk) trivial (Below.refl _ _) (Nat.le_refl _) (by simp) ?_;(case hd=>rfl);(case hg=>rfl);(case hr=>first|(go_simp;done)|(go_simp;rfl));(case hp=>exact (jg.one (show Kd.M (Kd.int .i64) _ _ _ 5462 [.int .i64 5462] from rfl) (jg.one (show Kd.M (Kd.int .i64) _ _ _ 5461 [.int .i64 5461] from rfl) (jg.one (show Kd.M (Kd.int .i64) _ _ _ 5461 [.int .i64 5461] from rfl) (jg.none _ _)))));intro as1 w22 aeB hb hg_ uK;clear hg_ uK;(first|rw [← aeW.out] at aeB|(simp only [Int.reduceToNat] at aeB;rw [← aeW.out] at aeB));obtain ⟨iD,jU,wM,yU,HB⟩:=zA5 (Kd.iE (by (with_reducible repeat (first|apply Kd.aK|apply Kd.aQ|apply Kd.aW));exact iD.out) (Kd.iZ aeB) hb) (Kd.iE (by (with_reducible repeat (first|apply Kd.aK|apply Kd.aQ|apply Kd.aW));exact jU.out) (Kd.iZ aeB) hb) (Kd.iE (by (with_reducible repeat (first|apply Kd.aK|apply Kd.aQ|apply Kd.aW));exact wM.out) (Kd.iZ aeB) hb) (Kd.fV (Kd.jM (Kd.jM (Kd.jM aeB (Kd.kU (by (with_reducible repeat (first|apply Kd.aK|apply Kd.aQ|apply Kd.aW));exact iD.out))) (Kd.kU (by (with_reducible repeat (first|apply Kd.aK|apply Kd.aQ|apply Kd.aW));exact jU.out))) (Kd.kU (by (with_reducible repeat (first|apply Kd.aK|apply Kd.aQ|apply Kd.aW));exact wM.out))) (bF zB)) (ak zB hb);clear hb aeB;obtain ⟨aBt,aBu,awv⟩:=Kd.fQ jU.out;subst awv;obtain ⟨aBv,aBw,aww⟩:=Kd.fQ yU.out;subst aww)|(go_at_call 91;(with_reducible refine (dh.calls k _ _ aez _ _ ang true _ ?iI ?iJ ?ag7 ?ag8 A4.out).mono ?_);(case iI=>repeat (first|exact (Kd.dK jU.out).2.2|(with_reducible refine Kd.je ?_ _)|(with_reducible refine Kd.jC ?_ _)|(with_reducible refine Kd.kD ?_)));(case iJ=>exact (Kd.dK jU.out).2.1);(case ag7=>repeat (first|exact (Kd.dK yU.out).2.2|(with_reducible refine Kd.je ?_ _)|(with_reducible refine Kd.jC ?_ _)|(with_reducible refine Kd.kD ?_)));(case ag8=>exact (Kd.dK yU.out).2.1);rintro e w' ⟨rfl,⟨nd,rfl⟩⟩))
    go_ret
    exact ⟨zS,zB⟩
  ·replace c5:=Bool.eq_false_iff.mpr c5
   subst c5
   rw [if_neg (show ¬ (false=true) by decide)] at H;try dsimp only at H
   obtain rfl:=Option.some.inj H
   go_enter Tryz.func89,Tryz.ntmps89
   go_wp2_with (first|((with_reducible refine bM (N:=6) rfl ?_);(try (refine ku (by rfl) ?_;dsimp only));refine Kd.abB (Kd.int .i64) _ 2 ?hg (N:=6) ?hd (xs:=([536870912,536870912,536870912]:List Int)) (inner:=[.int .i64 536870912,.int .i64 536870912,.int .i64 536870912]) (ok:=fun _=>True) (okp:=fun _=>True) ?hr ?hp (fun _ hk=>hk) trivial (Below.refl _ _) (Nat.le_refl _) (by simp) ?_;(case hd=>rfl);(case hg=>rfl);(case hr=>first|(go_simp;done)|(go_simp;rfl));(case hp=>exact (jg.one (show Kd.M (Kd.int .i64) _ _ _ 536870912 [.int .i64 536870912] from rfl) (jg.one (show Kd.M (Kd.int .i64) _ _ _ 536870912 [.int .i64 536870912] from rfl) (jg.one (show Kd.M (Kd.int .i64) _ _ _ 536870912 [.int .i64 536870912] from rfl) (jg.none _ _)))));intro ap3 w26 akM hb hg_ uK;clear hg_ uK;(first|rw [← ab2.out] at akM|(simp only [Int.reduceToNat] at akM;rw [← ab2.out] at akM));obtain ⟨iD,HB⟩:=zA2 (Kd.fV akM (bF zB)) (ak zB hb);clear hb akM;obtain ⟨awx,awy,awz⟩:=Kd.fQ iD.out;subst awz)|((with_reducible refine aA (f:=109) rfl ?_);refine aH (some 7) rfl rfl Tryz.func109 (by kernel_rfl) rfl #[.slice awx adh.length awy] rfl zL ?_;(with_reducible refine (iM.calls _ _ adh aez adi _ ?iI ?iJ A1.out).mono ?_);(case iI=>repeat (first|exact (Kd.dK iD.out).2.2|(with_reducible refine Kd.je ?_ _)|(with_reducible refine Kd.jC ?_ _)|(with_reducible refine Kd.kD ?_)));(case iJ=>exact (Kd.dK iD.out).2.1);rintro e w29 ⟨ap4,rfl,ho0,hb⟩;refine ⟨_,rfl,?_⟩;obtain ⟨iD,jU,HB⟩:=zA3 (Kd.iE (by (with_reducible repeat (first|apply Kd.aK|apply Kd.aQ|apply Kd.aW));exact iD.out) (Kd.iZ ho0) hb) (Kd.fV (Kd.jM ho0 (Kd.kU (by (with_reducible repeat (first|apply Kd.aK|apply Kd.aQ|apply Kd.aW));exact iD.out))) (bF zB)) (ak zB hb);(try clear hb);(try clear ho0))|((with_reducible refine aA (f:=110) rfl ?_);refine aH (some 11) rfl rfl Tryz.func110 (by kernel_rfl) rfl #[.int .i64 65536] rfl zL ?_;(with_reducible refine (bn.calls k 65536 akK aci _ A2.out).mono ?_);rintro e w30 ⟨ap5,rfl,ho0,hb⟩;refine ⟨_,rfl,?_⟩;obtain ⟨iD,jU,wM,HB⟩:=zA4 (Kd.iE (by (with_reducible repeat (first|apply Kd.aK|apply Kd.aQ|apply Kd.aW));exact iD.out) (Kd.iZ ho0) hb) (Kd.iE (by (with_reducible repeat (first|apply Kd.aK|apply Kd.aQ|apply Kd.aW));exact jU.out) (Kd.iZ ho0) hb) (Kd.fV (Kd.jM (Kd.jM ho0 (Kd.kU (by (with_reducible repeat (first|apply Kd.aK|apply Kd.aQ|apply Kd.aW));exact iD.out))) (Kd.kU (by (with_reducible repeat (first|apply Kd.aK|apply Kd.aQ|apply Kd.aW));exact jU.out))) (bF zB)) (ak zB hb);(try clear hb);(try clear ho0))|((with_reducible refine bM (N:=18) rfl ?_);(try (refine ku (by rfl) ?_;dsimp only));refine Kd.abB (Kd.int .i64) _ 2 ?hg (N:=18) ?hd (xs:=([5462,5461,5461]:List Int)) (inner:=[.int .i64 5462,.int .i64 5461,.int .i64 5461]) (ok:=fun _=>True) (okp:=fun _=>True) ?hr ?hp (fun _ hk=>hk) trivial (Below.refl _ _) (Nat.le_refl _) (by simp) ?_;(case hd=>rfl);(case hg=>rfl);(case hr=>first|(go_simp;done)|(go_simp;rfl));(case hp=>exact (jg.one (show Kd.M (Kd.int .i64) _ _ _ 5462 [.int .i64 5462] from rfl) (jg.one (show Kd.M (Kd.int .i64) _ _ _ 5461 [.int .i64 5461] from rfl) (jg.one (show Kd.M (Kd.int .i64) _ _ _ 5461 [.int .i64 5461] from rfl) (jg.none _ _)))));intro as1 w31 aeC hb hg_ uK;clear hg_ uK;(first|rw [← aeW.out] at aeC|(simp only [Int.reduceToNat] at aeC;rw [← aeW.out] at aeC));obtain ⟨iD,jU,wM,yU,HB⟩:=zA5 (Kd.iE (by (with_reducible repeat (first|apply Kd.aK|apply Kd.aQ|apply Kd.aW));exact iD.out) (Kd.iZ aeC) hb) (Kd.iE (by (with_reducible repeat (first|apply Kd.aK|apply Kd.aQ|apply Kd.aW));exact jU.out) (Kd.iZ aeC) hb) (Kd.iE (by (with_reducible repeat (first|apply Kd.aK|apply Kd.aQ|apply Kd.aW));exact wM.out) (Kd.iZ aeC) hb) (Kd.fV (Kd.jM (Kd.jM (Kd.jM aeC (Kd.kU (by (with_reducible repeat (first|apply Kd.aK|apply Kd.aQ|apply Kd.aW));exact iD.out))) (Kd.kU (by (with_reducible repeat (first|apply Kd.aK|apply Kd.aQ|apply Kd.aW));exact jU.out))) (Kd.kU (by (with_reducible repeat (first|apply Kd.aK|apply Kd.aQ|apply Kd.aW));exact wM.out))) (bF zB)) (ak zB hb);clear hb aeC;obtain ⟨aBx,apc,ab9⟩:=Kd.fQ jU.out;subst ab9;obtain ⟨avw,uz,ao8⟩:=Kd.fQ yU.out;subst ao8)|(go_at_call 91;(with_reducible refine (dh.calls k _ _ aez _ _ ang false _ ?iI ?iJ ?ag7 ?ag8 A4.out).mono ?_);(case iI=>repeat (first|exact (Kd.dK jU.out).2.2|(with_reducible refine Kd.je ?_ _)|(with_reducible refine Kd.jC ?_ _)|(with_reducible refine Kd.kD ?_)));(case iJ=>exact (Kd.dK jU.out).2.1);(case ag7=>repeat (first|exact (Kd.dK yU.out).2.2|(with_reducible refine Kd.je ?_ _)|(with_reducible refine Kd.jC ?_ _)|(with_reducible refine Kd.kD ?_)));(case ag8=>exact (Kd.dK yU.out).2.1);rintro e w' ⟨rfl,⟨nd,rfl⟩⟩))
   go_ret
   exact ⟨zS,zB⟩
 ·rw [if_neg c3] at H
  have fO:(adi == 0)=false:=beq_eq_false_iff_ne.mpr c3
  have wO:(adi != 0)=true:=bne_iff_ne.mpr c3
  obtain rfl:=Option.some.inj H
  go_enter Tryz.func89,Tryz.ntmps89
  go_wp2_with (first|((with_reducible refine bM (N:=6) rfl ?_);(try (refine ku (by rfl) ?_;dsimp only));refine Kd.abB (Kd.int .i64) _ 2 ?hg (N:=6) ?hd (xs:=([536870912,536870912,536870912]:List Int)) (inner:=[.int .i64 536870912,.int .i64 536870912,.int .i64 536870912]) (ok:=fun _=>True) (okp:=fun _=>True) ?hr ?hp (fun _ hk=>hk) trivial (Below.refl _ _) (Nat.le_refl _) (by simp) ?_;(case hd=>rfl);(case hg=>rfl);(case hr=>first|(go_simp;done)|(go_simp;rfl));(case hp=>exact (jg.one (show Kd.M (Kd.int .i64) _ _ _ 536870912 [.int .i64 536870912] from rfl) (jg.one (show Kd.M (Kd.int .i64) _ _ _ 536870912 [.int .i64 536870912] from rfl) (jg.one (show Kd.M (Kd.int .i64) _ _ _ 536870912 [.int .i64 536870912] from rfl) (jg.none _ _)))));intro ap3 w35 akN hb hg_ uK;clear hg_ uK;(first|rw [← ab2.out] at akN|(simp only [Int.reduceToNat] at akN;rw [← ab2.out] at akN));obtain ⟨iD,HB⟩:=zA2 (Kd.fV akN (bF zB)) (ak zB hb);clear hb akN;obtain ⟨awC,awD,awE⟩:=Kd.fQ iD.out;subst awE)|((with_reducible refine aA (f:=109) rfl ?_);refine aH (some 7) rfl rfl Tryz.func109 (by kernel_rfl) rfl #[.slice awC adh.length awD] rfl zL ?_;(with_reducible refine (iM.calls _ _ adh aez adi _ ?iI ?iJ A1.out).mono ?_);(case iI=>repeat (first|exact (Kd.dK iD.out).2.2|(with_reducible refine Kd.je ?_ _)|(with_reducible refine Kd.jC ?_ _)|(with_reducible refine Kd.kD ?_)));(case iJ=>exact (Kd.dK iD.out).2.1);rintro e w38 ⟨ap4,rfl,ho0,hb⟩;refine ⟨_,rfl,?_⟩;obtain ⟨iD,jU,HB⟩:=zA3 (Kd.iE (by (with_reducible repeat (first|apply Kd.aK|apply Kd.aQ|apply Kd.aW));exact iD.out) (Kd.iZ ho0) hb) (Kd.fV (Kd.jM ho0 (Kd.kU (by (with_reducible repeat (first|apply Kd.aK|apply Kd.aQ|apply Kd.aW));exact iD.out))) (bF zB)) (ak zB hb);(try clear hb);(try clear ho0))|((with_reducible refine aA (f:=110) rfl ?_);refine aH (some 11) rfl rfl Tryz.func110 (by kernel_rfl) rfl #[.int .i64 65536] rfl zL ?_;(with_reducible refine (bn.calls k 65536 akK aci _ A2.out).mono ?_);rintro e w39 ⟨ap5,rfl,ho0,hb⟩;refine ⟨_,rfl,?_⟩;obtain ⟨iD,jU,wM,HB⟩:=zA4 (Kd.iE (by (with_reducible repeat (first|apply Kd.aK|apply Kd.aQ|apply Kd.aW));exact iD.out) (Kd.iZ ho0) hb) (Kd.iE (by (with_reducible repeat (first|apply Kd.aK|apply Kd.aQ|apply Kd.aW));exact jU.out) (Kd.iZ ho0) hb) (Kd.fV (Kd.jM (Kd.jM ho0 (Kd.kU (by (with_reducible repeat (first|apply Kd.aK|apply Kd.aQ|apply Kd.aW));exact iD.out))) (Kd.kU (by (with_reducible repeat (first|apply Kd.aK|apply Kd.aQ|apply Kd.aW));exact jU.out))) (bF zB)) (ak zB hb);(try clear hb);(try clear ho0)))
  go_ret
  exact ⟨zS,zB⟩
end Go.Proofs.YtpondkggmcmpfaaGreatDoor.QA
