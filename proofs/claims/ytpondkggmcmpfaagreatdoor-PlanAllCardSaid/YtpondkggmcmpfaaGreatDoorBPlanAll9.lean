/- Joined by wip/tools/bundle.py out of: QAx19. -/
import Derived.Test.YtpondkggmcmpfaaGreatDoorBPlanAll0
import Derived.Test.YtpondkggmcmpfaaGreatDoorBPlanAll1
import Derived.Test.YtpondkggmcmpfaaGreatDoorBPlanAll8
import Derived.Test.YtpondkggmcmpfaaGreatDoorBPlanAll7
namespace Go.Proofs.YtpondkggmcmpfaaGreatDoor.QA
open Go.Proofs.YtpondkggmcmpfaaGreatDoor.T
open Go.RowKit Go.Proofs.YtpondkggmcmpfaaGreatDoorW.PrintWords Go.Proofs.YtpondkggmcmpfaaGreatDoorW.PrintLast Go.Proofs.YtpondkggmcmpfaaGreatDoorW.PrintMore
attribute [local go_sem] eP dV dW fM fO
set_option linter.unusedVariables false
set_option linter.unusedSimpArgs false
def cZ.l0:Nat→List Int→List Int→Int→Int→Option (Bool)
 | 0,_,_,_,_=>none
 | k+1,x0,x1,x12,x13=>if x13 < x12 then (if 0≤x13 then (if x13 < (x0.length:Int) then (if x13 < (x1.length:Int) then (if (rd x0 x13)=(rd x1 x13) then (cZ.l0 k x0 x1 x12 (wrap64 (x13+1))) else (some false)) else (none)) else (none)) else (none)) else (some true)
def cZ.f (k:Nat) (l0 l1:List Int):Option (Bool):=if (l0.length:Int)=(l1.length:Int) then (cZ.l0 k l0 l1 (l0.length:Int) 0) else (some false)
theorem cZ.iQ:∀ k,(∀ y0 y1 y2 y3,LeO (cZ.l0 k y0 y1 y2 y3) (cZ.l0 (k+1) y0 y1 y2 y3))
 | 0=>fun _ _ _ _ r h=>by simp [cZ.l0] at h
 | k+1=>by
  have ih0:=cZ.iQ k
  ·intro y0 y1 y2 y3
   unfold cZ.l0
   repeat' (with_reducible first|exact ih0 _ _ _ _|exact zM|refine LeO.ite ?_ ?_|refine LeO.bind ?_ (fun _ => ?_))
theorem cZ.mono:∀ a0 a1 k,LeO (cZ.f k a0 a1) (cZ.f (k+1) a0 a1):=by
 intro a0 a1 k
 have ih0:=cZ.iQ k
 unfold cZ.f
 repeat' (with_reducible first|exact ih0 _ _ _ _|exact zM|refine LeO.ite ?_ ?_|refine LeO.bind ?_ (fun _ => ?_))
set_option maxHeartbeats 8000000 in
set_option maxRecDepth 100000 in
theorem cZ.calls (k:Nat) (A0:Option Addr) (c0:Nat) (l0:List Int) (A1:Option Addr) (c1:Nat) (l1:List Int) (r:Bool) (w:World) (hr0:Kd.C (Kd.int .i64) w A0 l0.length l0) (hc0:l0.length≤c0) (hr1:Kd.C (Kd.int .i64) w A1 l1.length l1) (hc1:l1.length≤c1) (h:cZ.f k l0 l1=some r) :
  Calls Tryz.prog 91 #[.slice A0 l0.length c0,.slice A1 l1.length c1] w fun e w'=>e = .returned (.bool r)∧dw w w':=by
 have HR0:=aj.mk hr0
 have HC0:=aj.mk hc0
 clear hr0 hc0
 have HR1:=aj.mk hr1
 have HC1:=aj.mk hc1
 clear hr1 hc1
 have H:=h
 clear h
 unfold cZ.f at H
 by_cases c3:(l0.length:Int)=(l1.length:Int)
 ·rw [if_pos c3] at H
  have fK:((l0.length:Int) == (l1.length:Int))=true:=beq_iff_eq.mpr c3
  have wJ:((l0.length:Int) != (l1.length:Int))=false:=bne_eq_false_iff_eq.mpr c3
  have awf:(l0.length == l1.length)=true:=by first|simpa using c3|(simp at c3 ⊢;omega)
  clear c3
  have H':=aj.mk H
  clear H
  go_enter Tryz.func91,Tryz.ntmps91
  go_wp2
  repeat (go_quiet (fail);try go_wp2)
  go_loopg [13] k (fun kq v13 w'=>∃ (kE:Int),v13 = .int .i64 kE∧aj (cZ.l0 kq l0 l1 (l0.length:Int) kE=some r)∧aj (kq≤k)∧dw w w')
  case atStart=>exact ⟨(0),zT,H',⟨Nat.le_refl _⟩,zW⟩
  case round =>
   clear H'
   obtain ⟨kE,rfl,HA,HK1,⟨m1,rfl⟩⟩:=hrel
   cases gk with
   | zero=>exact absurd HA.out (by simp [cZ.l0])
   | succ k1 =>
    have H:=HA.out
    clear HA
    simp only [cZ.l0] at H
    by_cases c4:kE < (l0.length:Int)
    ·rw [if_pos c4] at H
     have fQ:=decide_eq_true c4
     clear c4
     by_cases c5:0≤kE
     ·rw [if_pos c5] at H
      have iJ:=decide_eq_true c5
      clear c5
      by_cases c6:kE < (l0.length:Int)
      ·rw [if_pos c6] at H
       have ig:=decide_eq_true c6
       clear c6
       by_cases c7:kE < (l1.length:Int)
       ·rw [if_pos c7] at H
        have jq:=decide_eq_true c7
        clear c7
        by_cases c8:(rd l0 kE)=(rd l1 kE)
        ·rw [if_pos c8] at H
         have vN:((rd l0 kE) == (rd l1 kE))=true:=beq_iff_eq.mpr c8
         have acG:((rd l0 kE) != (rd l1 kE))=false:=bne_eq_false_iff_eq.mpr c8
         clear c8
         have H':=aj.mk H
         clear H
         have afR:0≤(kE:Int):=of_decide_eq_true (by first|(with_reducible assumption)|assumption)
         have afS:kE < (l0.length:Int):=of_decide_eq_true (by first|(with_reducible assumption)|assumption)
         obtain ⟨au7,e238,arv⟩:=Kd.jC HR0.out kE afR afS
         cases e238
         replace afR:=eq_true afR
         replace afS:=eq_true afS
         have afT:0≤(kE:Int):=of_decide_eq_true (by first|(with_reducible assumption)|assumption)
         have afU:kE < (l1.length:Int):=of_decide_eq_true (by first|(with_reducible assumption)|assumption)
         obtain ⟨au8,apW,arw⟩:=Kd.jC HR1.out kE afT afU
         cases apW
         replace afT:=eq_true afT
         replace afU:=eq_true afU
         go_wp2
         repeat (go_quiet (fail);try go_wp2)
         go_roundg k1
         case measure=>have:=HK1.out;omega
         case rel=>exact ⟨(wrap64 (kE+1)),zT,H',⟨by have:=HK1.out;omega⟩,zW⟩
        ·rw [if_neg c8] at H
         have vN:((rd l0 kE) == (rd l1 kE))=false:=beq_eq_false_iff_ne.mpr c8
         have acG:((rd l0 kE) != (rd l1 kE))=true:=bne_iff_ne.mpr c8
         obtain rfl:=Option.some.inj H
         have afR:0≤(kE:Int):=of_decide_eq_true (by first|(with_reducible assumption)|assumption)
         have afS:kE < (l0.length:Int):=of_decide_eq_true (by first|(with_reducible assumption)|assumption)
         obtain ⟨au7,e238,arv⟩:=Kd.jC HR0.out kE afR afS
         cases e238
         replace afR:=eq_true afR
         replace afS:=eq_true afS
         have afT:0≤(kE:Int):=of_decide_eq_true (by first|(with_reducible assumption)|assumption)
         have afU:kE < (l1.length:Int):=of_decide_eq_true (by first|(with_reducible assumption)|assumption)
         obtain ⟨au8,apW,arw⟩:=Kd.jC HR1.out kE afT afU
         cases apW
         replace afT:=eq_true afT
         replace afU:=eq_true afU
         go_wp2
         repeat (go_quiet (fail);try go_wp2)
         go_ret
         exact ⟨zT,zW⟩
       ·rw [if_neg c7] at H
        exact absurd H (by simp)
      ·rw [if_neg c6] at H
       exact absurd H (by simp)
     ·rw [if_neg c5] at H
      exact absurd H (by simp)
    ·rw [if_neg c4] at H
     have fQ:=decide_eq_false c4
     clear c4
     obtain rfl:=Option.some.inj H
     go_wp2
     repeat (go_quiet (fail);try go_wp2)
     go_ret
     exact ⟨zT,zW⟩
 ·rw [if_neg c3] at H
  have fK:((l0.length:Int) == (l1.length:Int))=false:=beq_eq_false_iff_ne.mpr c3
  have wJ:((l0.length:Int) != (l1.length:Int))=true:=bne_iff_ne.mpr c3
  have awf:(l0.length == l1.length)=false:=by first|simpa using c3|(simp at c3 ⊢;omega)
  obtain rfl:=Option.some.inj H
  go_enter Tryz.func91,Tryz.ntmps91
  go_wp2
  repeat (go_quiet (fail);try go_wp2)
  go_ret
  exact ⟨zT,zW⟩
def jm.f (k:Nat):Option (Bool):=(iK.f (([536870912,536870912,536870912]:List Int))).bind fun abX=>((bn.f k 65536).bind fun abY=>(if abX.2=0 then ((cZ.f k abX.1 (([5462,5461,5461]:List Int))).bind fun ade=>(if ade=true then (if abY.2=0 then (some ((abY.1.length:Int) == 7)) else (some false)) else (some false))) else (some false)))
theorem jm.mono:∀ k,LeO (jm.f k ) (jm.f (k+1) ):=by
 intro k
 unfold jm.f
 repeat' (with_reducible first|exact cZ.mono _ _ _|exact bn.mono _ _|exact zM|refine LeO.ite ?_ ?_|refine LeO.bind ?_ (fun _ => ?_))
set_option maxHeartbeats 8000000 in
set_option maxRecDepth 100000 in
theorem jm.calls (k:Nat) (r:Bool) (w:World) (h:jm.f k=some r) :
  Calls Tryz.prog 89 #[] w fun e w'=>e = .returned (.bool r)∧Below w.heap.size w w':=by
 have HB:=aj.mk (Below.refl w.heap.size w)
 have H:((iK.f (([536870912,536870912,536870912]:List Int))).bind fun abX=>((bn.f k 65536).bind fun abY=>(if abX.2=0 then ((cZ.f k abX.1 (([5462,5461,5461]:List Int))).bind fun ade=>(if ade=true then (if abY.2=0 then (some ((abY.1.length:Int) == 7)) else (some false)) else (some false))) else (some false))))=some r:=h
 clear h
 obtain ⟨adf,ag0⟩:∃ y_:List Int,y_=(([536870912,536870912,536870912]:List Int)):=⟨_,rfl⟩
 replace H:((iK.f adf).bind fun abX=>((bn.f k 65536).bind fun abY=>(if abX.2=0 then ((cZ.f k abX.1 (([5462,5461,5461]:List Int))).bind fun ade=>(if ade=true then (if abY.2=0 then (some ((abY.1.length:Int) == 7)) else (some false)) else (some false))) else (some false))))=some r:=by first|(rw [ag0];with_reducible exact H)|(have H2_:=(Option.bind_some _ _).symm.trans H;rw [ag0];with_reducible exact H2_)|(have H2_:=(Option.bind_some _ _).symm.trans H;with_reducible exact H2_)|with_reducible exact H|(rw [ag0];exact H)|exact H
 have abZ:=aj.mk ag0
 clear ag0
 replace H:=zO H
 obtain ⟨⟨aew,adg⟩,A1,H⟩:=H
 try dsimp only at H
 replace H:=zO H
 obtain ⟨⟨akC,acg⟩,A2,H⟩:=H
 try dsimp only at H
 by_cases c3:adg=0
 ·rw [if_pos c3] at H
  have fK:(adg == 0)=true:=beq_iff_eq.mpr c3
  have wJ:(adg != 0)=false:=bne_eq_false_iff_eq.mpr c3
  clear c3
  obtain ⟨am9,ag1⟩:∃ y_:List Int,y_=(([5462,5461,5461]:List Int)):=⟨_,rfl⟩
  replace H:((cZ.f k aew am9).bind fun ade=>(if ade=true then (if acg=0 then (some ((akC.length:Int) == 7)) else (some false)) else (some false)))=some r:=by first|(rw [ag1];with_reducible exact H)|(have H2_:=(Option.bind_some _ _).symm.trans H;rw [ag1];with_reducible exact H2_)|(have H2_:=(Option.bind_some _ _).symm.trans H;with_reducible exact H2_)|with_reducible exact H|(rw [ag1];exact H)|exact H
  have aeS:=aj.mk ag1
  clear ag1
  replace H:=zO H
  obtain ⟨ade,A4,H⟩:=H
  try dsimp only at H
  by_cases c5:ade=true
  ·subst c5
   rw [if_pos rfl] at H;try dsimp only at H
   by_cases c6:acg=0
   ·rw [if_pos c6] at H
    have ig:(acg == 0)=true:=beq_iff_eq.mpr c6
    have uj:(acg != 0)=false:=bne_eq_false_iff_eq.mpr c6
    clear c6
    obtain rfl:=Option.some.inj H
    go_enter Tryz.func89,Tryz.ntmps89
    go_wp2_with (first|((with_reducible refine bK (N:=6) rfl ?_);(try (refine jZ (by rfl) ?_;dsimp only));refine Kd.abz (Kd.int .i64) _ 2 ?hg (N:=6) ?hd (xs:=([536870912,536870912,536870912]:List Int)) (inner:=[.int .i64 536870912,.int .i64 536870912,.int .i64 536870912]) (ok:=fun _=>True) (okp:=fun _=>True) ?hr ?hp (fun _ hk=>hk) trivial (Below.refl _ _) (Nat.le_refl _) (by simp) ?_;(case hd=>rfl);(case hg=>rfl);(case hr=>first|(go_simp;done)|(go_simp;rfl));(case hp=>exact (jf.one (show Kd.M (Kd.int .i64) _ _ _ 536870912 [.int .i64 536870912] from rfl) (jf.one (show Kd.M (Kd.int .i64) _ _ _ 536870912 [.int .i64 536870912] from rfl) (jf.one (show Kd.M (Kd.int .i64) _ _ _ 536870912 [.int .i64 536870912] from rfl) (jf.none _ _)))));intro apX w7 ho8 hb hg_ uI;clear hg_ uI;(first|rw [← abZ.out] at ho8|(simp only [Int.reduceToNat] at ho8;rw [← abZ.out] at ho8));obtain ⟨iy,HB⟩:=zA2 (Kd.fU ho8 (bF zB)) (ak zB hb);clear hb ho8;obtain ⟨Ao9,co9,eo9⟩:=Kd.gq iy.out;subst eo9)|((with_reducible refine aA (f:=109) rfl ?_);refine aH (some 7) rfl rfl Tryz.func109 (by kernel_rfl) rfl #[.slice Ao9 adf.length co9] rfl zL ?_;(with_reducible refine (iK.calls _ _ adf aew adg _ ?iG ?iH A1.out).mono ?_);(case iG=>repeat (first|exact (Kd.dK iy.out).2.2|(with_reducible refine Kd.jd ?_ _)|(with_reducible refine Kd.jB ?_ _)|(with_reducible refine Kd.kC ?_)));(case iH=>exact (Kd.dK iy.out).2.1);rintro e w10 ⟨apY,rfl,ho0,hb⟩;refine ⟨_,rfl,?_⟩;obtain ⟨iy,jT,HB⟩:=zA3 (Kd.iC (by (with_reducible repeat (first|apply Kd.aK|apply Kd.aQ|apply Kd.aW));exact iy.out) (Kd.iY ho0) hb) (Kd.fU (Kd.jL ho0 (Kd.kU (by (with_reducible repeat (first|apply Kd.aK|apply Kd.aQ|apply Kd.aW));exact iy.out))) (bF zB)) (ak zB hb);(try clear hb);(try clear ho0))|((with_reducible refine aA (f:=110) rfl ?_);refine aH (some 11) rfl rfl Tryz.func110 (by kernel_rfl) rfl #[.int .i64 65536] rfl zL ?_;(with_reducible refine (bn.calls k 65536 akC acg _ A2.out).mono ?_);rintro e w11 ⟨apZ,rfl,ho0,hb⟩;refine ⟨_,rfl,?_⟩;obtain ⟨iy,jT,wI,HB⟩:=zA4 (Kd.iC (by (with_reducible repeat (first|apply Kd.aK|apply Kd.aQ|apply Kd.aW));exact iy.out) (Kd.iY ho0) hb) (Kd.iC (by (with_reducible repeat (first|apply Kd.aK|apply Kd.aQ|apply Kd.aW));exact jT.out) (Kd.iY ho0) hb) (Kd.fU (Kd.jL (Kd.jL ho0 (Kd.kU (by (with_reducible repeat (first|apply Kd.aK|apply Kd.aQ|apply Kd.aW));exact iy.out))) (Kd.kU (by (with_reducible repeat (first|apply Kd.aK|apply Kd.aQ|apply Kd.aW));exact jT.out))) (bF zB)) (ak zB hb);(try clear hb);(try clear ho0))|((with_reducible refine bK (N:=18) rfl ?_);(try (refine jZ (by rfl) ?_;dsimp only));refine Kd.abz (Kd.int .i64) _ 2 ?hg (N:=18) ?hd (xs:=([5462,5461,5461]:List Int)) (inner:=[.int .i64 5462,.int .i64 5461,.int .i64 5461]) (ok:=fun _=>True) (okp:=fun _=>True) ?hr ?hp (fun _ hk=>hk) trivial (Below.refl _ _) (Nat.le_refl _) (by simp) ?_;(case hd=>rfl);(case hg=>rfl);(case hr=>first|(go_simp;done)|(go_simp;rfl));(case hp=>exact (jf.one (show Kd.M (Kd.int .i64) _ _ _ 5462 [.int .i64 5462] from rfl) (jf.one (show Kd.M (Kd.int .i64) _ _ _ 5461 [.int .i64 5461] from rfl) (jf.one (show Kd.M (Kd.int .i64) _ _ _ 5461 [.int .i64 5461] from rfl) (jf.none _ _)))));intro asQ w12 aex hb hg_ uI;clear hg_ uI;(first|rw [← aeS.out] at aex|(simp only [Int.reduceToNat] at aex;rw [← aeS.out] at aex));obtain ⟨iy,jT,wI,yU,HB⟩:=zA5 (Kd.iC (by (with_reducible repeat (first|apply Kd.aK|apply Kd.aQ|apply Kd.aW));exact iy.out) (Kd.iY aex) hb) (Kd.iC (by (with_reducible repeat (first|apply Kd.aK|apply Kd.aQ|apply Kd.aW));exact jT.out) (Kd.iY aex) hb) (Kd.iC (by (with_reducible repeat (first|apply Kd.aK|apply Kd.aQ|apply Kd.aW));exact wI.out) (Kd.iY aex) hb) (Kd.fU (Kd.jL (Kd.jL (Kd.jL aex (Kd.kU (by (with_reducible repeat (first|apply Kd.aK|apply Kd.aQ|apply Kd.aW));exact iy.out))) (Kd.kU (by (with_reducible repeat (first|apply Kd.aK|apply Kd.aQ|apply Kd.aW));exact jT.out))) (Kd.kU (by (with_reducible repeat (first|apply Kd.aK|apply Kd.aQ|apply Kd.aW));exact wI.out))) (bF zB)) (ak zB hb);clear hb aex;obtain ⟨aA8,aA9,awg⟩:=Kd.gq jT.out;subst awg;obtain ⟨aBa,aBb,awh⟩:=Kd.gq yU.out;subst awh)|(go_at_call 91;(with_reducible refine (cZ.calls k _ _ aew _ _ am9 true _ ?iG ?iH ?ag2 ?ag3 A4.out).mono ?_);(case iG=>repeat (first|exact (Kd.dK jT.out).2.2|(with_reducible refine Kd.jd ?_ _)|(with_reducible refine Kd.jB ?_ _)|(with_reducible refine Kd.kC ?_)));(case iH=>exact (Kd.dK jT.out).2.1);(case ag2=>repeat (first|exact (Kd.dK yU.out).2.2|(with_reducible refine Kd.jd ?_ _)|(with_reducible refine Kd.jB ?_ _)|(with_reducible refine Kd.kC ?_)));(case ag3=>exact (Kd.dK yU.out).2.1);rintro e w' ⟨rfl,⟨nd,rfl⟩⟩;obtain ⟨av9,awc,apV⟩:=Kd.gq wI.out;subst apV))
    go_ret
    exact ⟨zS,zB⟩
   ·rw [if_neg c6] at H
    have ig:(acg == 0)=false:=beq_eq_false_iff_ne.mpr c6
    have uj:(acg != 0)=true:=bne_iff_ne.mpr c6
    obtain rfl:=Option.some.inj H
    go_enter Tryz.func89,Tryz.ntmps89
    go_wp2_with (first|((with_reducible refine bK (N:=6) rfl ?_);(try (refine jZ (by rfl) ?_;dsimp only));refine Kd.abz (Kd.int .i64) _ 2 ?hg (N:=6) ?hd (xs:=([536870912,536870912,536870912]:List Int)) (inner:=[.int .i64 536870912,.int .i64 536870912,.int .i64 536870912]) (ok:=fun _=>True) (okp:=fun _=>True) ?hr ?hp (fun _ hk=>hk) trivial (Below.refl _ _) (Nat.le_refl _) (by simp) ?_;(case hd=>rfl);(case hg=>rfl);(case hr=>first|(go_simp;done)|(go_simp;rfl));(case hp=>exact (jf.one (show Kd.M (Kd.int .i64) _ _ _ 536870912 [.int .i64 536870912] from rfl) (jf.one (show Kd.M (Kd.int .i64) _ _ _ 536870912 [.int .i64 536870912] from rfl) (jf.one (show Kd.M (Kd.int .i64) _ _ _ 536870912 [.int .i64 536870912] from rfl) (jf.none _ _)))));intro apX w17 akD hb hg_ uI;clear hg_ uI;(first|rw [← abZ.out] at akD|(simp only [Int.reduceToNat] at akD;rw [← abZ.out] at akD));obtain ⟨iy,HB⟩:=zA2 (Kd.fU akD (bF zB)) (ak zB hb);clear hb akD;obtain ⟨ajT,ajU,ajV⟩:=Kd.gq iy.out;subst ajV)|((with_reducible refine aA (f:=109) rfl ?_);refine aH (some 7) rfl rfl Tryz.func109 (by kernel_rfl) rfl #[.slice ajT adf.length ajU] rfl zL ?_;(with_reducible refine (iK.calls _ _ adf aew adg _ ?iG ?iH A1.out).mono ?_);(case iG=>repeat (first|exact (Kd.dK iy.out).2.2|(with_reducible refine Kd.jd ?_ _)|(with_reducible refine Kd.jB ?_ _)|(with_reducible refine Kd.kC ?_)));(case iH=>exact (Kd.dK iy.out).2.1);rintro e w20 ⟨apY,rfl,ho0,hb⟩;refine ⟨_,rfl,?_⟩;obtain ⟨iy,jT,HB⟩:=zA3 (Kd.iC (by (with_reducible repeat (first|apply Kd.aK|apply Kd.aQ|apply Kd.aW));exact iy.out) (Kd.iY ho0) hb) (Kd.fU (Kd.jL ho0 (Kd.kU (by (with_reducible repeat (first|apply Kd.aK|apply Kd.aQ|apply Kd.aW));exact iy.out))) (bF zB)) (ak zB hb);(try clear hb);(try clear ho0))|((with_reducible refine aA (f:=110) rfl ?_);refine aH (some 11) rfl rfl Tryz.func110 (by kernel_rfl) rfl #[.int .i64 65536] rfl zL ?_;(with_reducible refine (bn.calls k 65536 akC acg _ A2.out).mono ?_);rintro e w21 ⟨apZ,rfl,ho0,hb⟩;refine ⟨_,rfl,?_⟩;obtain ⟨iy,jT,wI,HB⟩:=zA4 (Kd.iC (by (with_reducible repeat (first|apply Kd.aK|apply Kd.aQ|apply Kd.aW));exact iy.out) (Kd.iY ho0) hb) (Kd.iC (by (with_reducible repeat (first|apply Kd.aK|apply Kd.aQ|apply Kd.aW));exact jT.out) (Kd.iY ho0) hb) (Kd.fU (Kd.jL (Kd.jL ho0 (Kd.kU (by (with_reducible repeat (first|apply Kd.aK|apply Kd.aQ|apply Kd.aW));exact iy.out))) (Kd.kU (by (with_reducible repeat (first|apply Kd.aK|apply Kd.aQ|apply Kd.aW));exact jT.out))) (bF zB)) (ak zB hb);(try clear hb);(try clear ho0))|((with_reducible refine bK (N:=18) rfl ?_);(try (refine jZ (by rfl) ?_;dsimp only));refine Kd.abz (Kd.int .i64) _ 2 ?hg (N:=18) ?hd (xs:=([5462,5461,5461]:List Int)) (inner:=[.int .i64 5462,.int .i64 5461,.int .i64 5461]) (ok:=fun _=>True) (okp:=fun _=>True) ?hr ?hp (fun _ hk=>hk) trivial (Below.refl _ _) (Nat.le_refl _) (by simp) ?_;(case hd=>rfl);(case hg=>rfl);(case hr=>first|(go_simp;done)|(go_simp;rfl));(case hp=>exact (jf.one (show Kd.M (Kd.int .i64) _ _ _ 5462 [.int .i64 5462] from rfl) (jf.one (show Kd.M (Kd.int .i64) _ _ _ 5461 [.int .i64 5461] from rfl) (jf.one (show Kd.M (Kd.int .i64) _ _ _ 5461 [.int .i64 5461] from rfl) (jf.none _ _)))));intro asQ w22 aey hb hg_ uI;clear hg_ uI;(first|rw [← aeS.out] at aey|(simp only [Int.reduceToNat] at aey;rw [← aeS.out] at aey));obtain ⟨iy,jT,wI,yU,HB⟩:=zA5 (Kd.iC (by (with_reducible repeat (first|apply Kd.aK|apply Kd.aQ|apply Kd.aW));exact iy.out) (Kd.iY aey) hb) (Kd.iC (by (with_reducible repeat (first|apply Kd.aK|apply Kd.aQ|apply Kd.aW));exact jT.out) (Kd.iY aey) hb) (Kd.iC (by (with_reducible repeat (first|apply Kd.aK|apply Kd.aQ|apply Kd.aW));exact wI.out) (Kd.iY aey) hb) (Kd.fU (Kd.jL (Kd.jL (Kd.jL aey (Kd.kU (by (with_reducible repeat (first|apply Kd.aK|apply Kd.aQ|apply Kd.aW));exact iy.out))) (Kd.kU (by (with_reducible repeat (first|apply Kd.aK|apply Kd.aQ|apply Kd.aW));exact jT.out))) (Kd.kU (by (with_reducible repeat (first|apply Kd.aK|apply Kd.aQ|apply Kd.aW));exact wI.out))) (bF zB)) (ak zB hb);clear hb aey;obtain ⟨aBd,aBe,awi⟩:=Kd.gq jT.out;subst awi;obtain ⟨aBf,aBg,awj⟩:=Kd.gq yU.out;subst awj)|(go_at_call 91;(with_reducible refine (cZ.calls k _ _ aew _ _ am9 true _ ?iG ?iH ?ag2 ?ag3 A4.out).mono ?_);(case iG=>repeat (first|exact (Kd.dK jT.out).2.2|(with_reducible refine Kd.jd ?_ _)|(with_reducible refine Kd.jB ?_ _)|(with_reducible refine Kd.kC ?_)));(case iH=>exact (Kd.dK jT.out).2.1);(case ag2=>repeat (first|exact (Kd.dK yU.out).2.2|(with_reducible refine Kd.jd ?_ _)|(with_reducible refine Kd.jB ?_ _)|(with_reducible refine Kd.kC ?_)));(case ag3=>exact (Kd.dK yU.out).2.1);rintro e w' ⟨rfl,⟨nd,rfl⟩⟩))
    go_ret
    exact ⟨zS,zB⟩
  ·replace c5:=Bool.eq_false_iff.mpr c5
   subst c5
   rw [if_neg (show ¬ (false=true) by decide)] at H;try dsimp only at H
   obtain rfl:=Option.some.inj H
   go_enter Tryz.func89,Tryz.ntmps89
   go_wp2_with (first|((with_reducible refine bK (N:=6) rfl ?_);(try (refine jZ (by rfl) ?_;dsimp only));refine Kd.abz (Kd.int .i64) _ 2 ?hg (N:=6) ?hd (xs:=([536870912,536870912,536870912]:List Int)) (inner:=[.int .i64 536870912,.int .i64 536870912,.int .i64 536870912]) (ok:=fun _=>True) (okp:=fun _=>True) ?hr ?hp (fun _ hk=>hk) trivial (Below.refl _ _) (Nat.le_refl _) (by simp) ?_;(case hd=>rfl);(case hg=>rfl);(case hr=>first|(go_simp;done)|(go_simp;rfl));(case hp=>exact (jf.one (show Kd.M (Kd.int .i64) _ _ _ 536870912 [.int .i64 536870912] from rfl) (jf.one (show Kd.M (Kd.int .i64) _ _ _ 536870912 [.int .i64 536870912] from rfl) (jf.one (show Kd.M (Kd.int .i64) _ _ _ 536870912 [.int .i64 536870912] from rfl) (jf.none _ _)))));intro apX w26 akE hb hg_ uI;clear hg_ uI;(first|rw [← abZ.out] at akE|(simp only [Int.reduceToNat] at akE;rw [← abZ.out] at akE));obtain ⟨iy,HB⟩:=zA2 (Kd.fU akE (bF zB)) (ak zB hb);clear hb akE;obtain ⟨awk,awl,awm⟩:=Kd.gq iy.out;subst awm)|((with_reducible refine aA (f:=109) rfl ?_);refine aH (some 7) rfl rfl Tryz.func109 (by kernel_rfl) rfl #[.slice awk adf.length awl] rfl zL ?_;(with_reducible refine (iK.calls _ _ adf aew adg _ ?iG ?iH A1.out).mono ?_);(case iG=>repeat (first|exact (Kd.dK iy.out).2.2|(with_reducible refine Kd.jd ?_ _)|(with_reducible refine Kd.jB ?_ _)|(with_reducible refine Kd.kC ?_)));(case iH=>exact (Kd.dK iy.out).2.1);rintro e w29 ⟨apY,rfl,ho0,hb⟩;refine ⟨_,rfl,?_⟩;obtain ⟨iy,jT,HB⟩:=zA3 (Kd.iC (by (with_reducible repeat (first|apply Kd.aK|apply Kd.aQ|apply Kd.aW));exact iy.out) (Kd.iY ho0) hb) (Kd.fU (Kd.jL ho0 (Kd.kU (by (with_reducible repeat (first|apply Kd.aK|apply Kd.aQ|apply Kd.aW));exact iy.out))) (bF zB)) (ak zB hb);(try clear hb);(try clear ho0))|((with_reducible refine aA (f:=110) rfl ?_);refine aH (some 11) rfl rfl Tryz.func110 (by kernel_rfl) rfl #[.int .i64 65536] rfl zL ?_;(with_reducible refine (bn.calls k 65536 akC acg _ A2.out).mono ?_);rintro e w30 ⟨apZ,rfl,ho0,hb⟩;refine ⟨_,rfl,?_⟩;obtain ⟨iy,jT,wI,HB⟩:=zA4 (Kd.iC (by (with_reducible repeat (first|apply Kd.aK|apply Kd.aQ|apply Kd.aW));exact iy.out) (Kd.iY ho0) hb) (Kd.iC (by (with_reducible repeat (first|apply Kd.aK|apply Kd.aQ|apply Kd.aW));exact jT.out) (Kd.iY ho0) hb) (Kd.fU (Kd.jL (Kd.jL ho0 (Kd.kU (by (with_reducible repeat (first|apply Kd.aK|apply Kd.aQ|apply Kd.aW));exact iy.out))) (Kd.kU (by (with_reducible repeat (first|apply Kd.aK|apply Kd.aQ|apply Kd.aW));exact jT.out))) (bF zB)) (ak zB hb);(try clear hb);(try clear ho0))|((with_reducible refine bK (N:=18) rfl ?_);(try (refine jZ (by rfl) ?_;dsimp only));refine Kd.abz (Kd.int .i64) _ 2 ?hg (N:=18) ?hd (xs:=([5462,5461,5461]:List Int)) (inner:=[.int .i64 5462,.int .i64 5461,.int .i64 5461]) (ok:=fun _=>True) (okp:=fun _=>True) ?hr ?hp (fun _ hk=>hk) trivial (Below.refl _ _) (Nat.le_refl _) (by simp) ?_;(case hd=>rfl);(case hg=>rfl);(case hr=>first|(go_simp;done)|(go_simp;rfl));(case hp=>exact (jf.one (show Kd.M (Kd.int .i64) _ _ _ 5462 [.int .i64 5462] from rfl) (jf.one (show Kd.M (Kd.int .i64) _ _ _ 5461 [.int .i64 5461] from rfl) (jf.one (show Kd.M (Kd.int .i64) _ _ _ 5461 [.int .i64 5461] from rfl) (jf.none _ _)))));intro asQ w31 aez hb hg_ uI;clear hg_ uI;(first|rw [← aeS.out] at aez|(simp only [Int.reduceToNat] at aez;rw [← aeS.out] at aez));obtain ⟨iy,jT,wI,yU,HB⟩:=zA5 (Kd.iC (by (with_reducible repeat (first|apply Kd.aK|apply Kd.aQ|apply Kd.aW));exact iy.out) (Kd.iY aez) hb) (Kd.iC (by (with_reducible repeat (first|apply Kd.aK|apply Kd.aQ|apply Kd.aW));exact jT.out) (Kd.iY aez) hb) (Kd.iC (by (with_reducible repeat (first|apply Kd.aK|apply Kd.aQ|apply Kd.aW));exact wI.out) (Kd.iY aez) hb) (Kd.fU (Kd.jL (Kd.jL (Kd.jL aez (Kd.kU (by (with_reducible repeat (first|apply Kd.aK|apply Kd.aQ|apply Kd.aW));exact iy.out))) (Kd.kU (by (with_reducible repeat (first|apply Kd.aK|apply Kd.aQ|apply Kd.aW));exact jT.out))) (Kd.kU (by (with_reducible repeat (first|apply Kd.aK|apply Kd.aQ|apply Kd.aW));exact wI.out))) (bF zB)) (ak zB hb);clear hb aez;obtain ⟨aBh,ao6,ab7⟩:=Kd.gq jT.out;subst ab7;obtain ⟨avn,uy,ao2⟩:=Kd.gq yU.out;subst ao2)|(go_at_call 91;(with_reducible refine (cZ.calls k _ _ aew _ _ am9 false _ ?iG ?iH ?ag2 ?ag3 A4.out).mono ?_);(case iG=>repeat (first|exact (Kd.dK jT.out).2.2|(with_reducible refine Kd.jd ?_ _)|(with_reducible refine Kd.jB ?_ _)|(with_reducible refine Kd.kC ?_)));(case iH=>exact (Kd.dK jT.out).2.1);(case ag2=>repeat (first|exact (Kd.dK yU.out).2.2|(with_reducible refine Kd.jd ?_ _)|(with_reducible refine Kd.jB ?_ _)|(with_reducible refine Kd.kC ?_)));(case ag3=>exact (Kd.dK yU.out).2.1);rintro e w' ⟨rfl,⟨nd,rfl⟩⟩))
   go_ret
   exact ⟨zS,zB⟩
 ·rw [if_neg c3] at H
  have fK:(adg == 0)=false:=beq_eq_false_iff_ne.mpr c3
  have wJ:(adg != 0)=true:=bne_iff_ne.mpr c3
  obtain rfl:=Option.some.inj H
  go_enter Tryz.func89,Tryz.ntmps89
  go_wp2_with (first|((with_reducible refine bK (N:=6) rfl ?_);(try (refine jZ (by rfl) ?_;dsimp only));refine Kd.abz (Kd.int .i64) _ 2 ?hg (N:=6) ?hd (xs:=([536870912,536870912,536870912]:List Int)) (inner:=[.int .i64 536870912,.int .i64 536870912,.int .i64 536870912]) (ok:=fun _=>True) (okp:=fun _=>True) ?hr ?hp (fun _ hk=>hk) trivial (Below.refl _ _) (Nat.le_refl _) (by simp) ?_;(case hd=>rfl);(case hg=>rfl);(case hr=>first|(go_simp;done)|(go_simp;rfl));(case hp=>exact (jf.one (show Kd.M (Kd.int .i64) _ _ _ 536870912 [.int .i64 536870912] from rfl) (jf.one (show Kd.M (Kd.int .i64) _ _ _ 536870912 [.int .i64 536870912] from rfl) (jf.one (show Kd.M (Kd.int .i64) _ _ _ 536870912 [.int .i64 536870912] from rfl) (jf.none _ _)))));intro apX w35 akF hb hg_ uI;clear hg_ uI;(first|rw [← abZ.out] at akF|(simp only [Int.reduceToNat] at akF;rw [← abZ.out] at akF));obtain ⟨iy,HB⟩:=zA2 (Kd.fU akF (bF zB)) (ak zB hb);clear hb akF;obtain ⟨awn,awo,awp⟩:=Kd.gq iy.out;subst awp)|((with_reducible refine aA (f:=109) rfl ?_);refine aH (some 7) rfl rfl Tryz.func109 (by kernel_rfl) rfl #[.slice awn adf.length awo] rfl zL ?_;(with_reducible refine (iK.calls _ _ adf aew adg _ ?iG ?iH A1.out).mono ?_);(case iG=>repeat (first|exact (Kd.dK iy.out).2.2|(with_reducible refine Kd.jd ?_ _)|(with_reducible refine Kd.jB ?_ _)|(with_reducible refine Kd.kC ?_)));(case iH=>exact (Kd.dK iy.out).2.1);rintro e w38 ⟨apY,rfl,ho0,hb⟩;refine ⟨_,rfl,?_⟩;obtain ⟨iy,jT,HB⟩:=zA3 (Kd.iC (by (with_reducible repeat (first|apply Kd.aK|apply Kd.aQ|apply Kd.aW));exact iy.out) (Kd.iY ho0) hb) (Kd.fU (Kd.jL ho0 (Kd.kU (by (with_reducible repeat (first|apply Kd.aK|apply Kd.aQ|apply Kd.aW));exact iy.out))) (bF zB)) (ak zB hb);(try clear hb);(try clear ho0))|((with_reducible refine aA (f:=110) rfl ?_);refine aH (some 11) rfl rfl Tryz.func110 (by kernel_rfl) rfl #[.int .i64 65536] rfl zL ?_;(with_reducible refine (bn.calls k 65536 akC acg _ A2.out).mono ?_);rintro e w39 ⟨apZ,rfl,ho0,hb⟩;refine ⟨_,rfl,?_⟩;obtain ⟨iy,jT,wI,HB⟩:=zA4 (Kd.iC (by (with_reducible repeat (first|apply Kd.aK|apply Kd.aQ|apply Kd.aW));exact iy.out) (Kd.iY ho0) hb) (Kd.iC (by (with_reducible repeat (first|apply Kd.aK|apply Kd.aQ|apply Kd.aW));exact jT.out) (Kd.iY ho0) hb) (Kd.fU (Kd.jL (Kd.jL ho0 (Kd.kU (by (with_reducible repeat (first|apply Kd.aK|apply Kd.aQ|apply Kd.aW));exact iy.out))) (Kd.kU (by (with_reducible repeat (first|apply Kd.aK|apply Kd.aQ|apply Kd.aW));exact jT.out))) (bF zB)) (ak zB hb);(try clear hb);(try clear ho0)))
  go_ret
  exact ⟨zS,zB⟩
end Go.Proofs.YtpondkggmcmpfaaGreatDoor.QA
