/- Joined by wip/tools/bundle.py out of: QAx19. -/
import Derived.Test.YtpondkggmcmpfaaGreatDoorBPlanCovers0
import Derived.Test.YtpondkggmcmpfaaGreatDoorBPlanCovers1
import Derived.Test.YtpondkggmcmpfaaGreatDoorBPlanCovers8
import Derived.Test.YtpondkggmcmpfaaGreatDoorBPlanCovers7
namespace Go.Proofs.YtpondkggmcmpfaaGreatDoor.QA
open Go.Proofs.YtpondkggmcmpfaaGreatDoor.T
open Go.RowKit Go.Proofs.YtpondkggmcmpfaaGreatDoorW.PrintWords Go.Proofs.YtpondkggmcmpfaaGreatDoorW.PrintLast Go.Proofs.YtpondkggmcmpfaaGreatDoorW.PrintMore
attribute [local go_sem] dY dS dU fA fB
set_option linter.unusedVariables false
set_option linter.unusedSimpArgs false
def cZ.l0:Nat→List Int→List Int→Int→Int→Option (Bool)
 | 0,_,_,_,_=>none
 | k+1,x0,x1,x12,x13=>if x13 < x12 then (if 0≤x13 then (if x13 < (x0.length:Int) then (if x13 < (x1.length:Int) then (if (rd x0 x13)=(rd x1 x13) then (cZ.l0 k x0 x1 x12 (wrap64 (x13+1))) else (some false)) else (none)) else (none)) else (none)) else (some true)
def cZ.f (k:Nat) (l0 l1:List Int):Option (Bool):=if (l0.length:Int)=(l1.length:Int) then (cZ.l0 k l0 l1 (l0.length:Int) 0) else (some false)
theorem cZ.iU:∀ k,(∀ y0 y1 y2 y3,LeO (cZ.l0 k y0 y1 y2 y3) (cZ.l0 (k+1) y0 y1 y2 y3))
 | 0=>fun _ _ _ _ r h=>by simp [cZ.l0] at h
 | k+1=>by
  have ih0:=cZ.iU k
  ·intro y0 y1 y2 y3
   unfold cZ.l0
   repeat' (with_reducible first|exact ih0 _ _ _ _|exact zM|refine LeO.ite ?_ ?_|refine LeO.bind ?_ (fun _ => ?_))
theorem cZ.mono:∀ a0 a1 k,LeO (cZ.f k a0 a1) (cZ.f (k+1) a0 a1):=by
 intro a0 a1 k
 have ih0:=cZ.iU k
 unfold cZ.f
 repeat' (with_reducible first|exact ih0 _ _ _ _|exact zM|refine LeO.ite ?_ ?_|refine LeO.bind ?_ (fun _ => ?_))
set_option maxHeartbeats 8000000 in
set_option maxRecDepth 100000 in
theorem cZ.calls (k:Nat) (A0:Option Addr) (c0:Nat) (l0:List Int) (A1:Option Addr) (c1:Nat) (l1:List Int) (r:Bool) (w:World) (hr0:Kd.C (Kd.int .i64) w A0 l0.length l0) (hc0:l0.length≤c0) (hr1:Kd.C (Kd.int .i64) w A1 l1.length l1) (hc1:l1.length≤c1) (h:cZ.f k l0 l1=some r) :
  Calls Tryz.prog 91 #[.slice A0 l0.length c0,.slice A1 l1.length c1] w fun e w'=>e = .returned (.bool r)∧dw w w':=by
 have HR0:=aj.mk hr0
 have HC0:=aj.mk hc0
 clear hr0 hc0
 have HR1:=aj.mk hr1
 have HC1:=aj.mk hc1
 clear hr1 hc1
 have H:=h
 clear h
 unfold cZ.f at H
 by_cases c3:(l0.length:Int)=(l1.length:Int)
 ·rw [if_pos c3] at H
  have fQ:((l0.length:Int) == (l1.length:Int))=true:=beq_iff_eq.mpr c3
  have wS:((l0.length:Int) != (l1.length:Int))=false:=bne_eq_false_iff_eq.mpr c3
  have awQ:(l0.length == l1.length)=true:=by first|simpa using c3|(simp at c3 ⊢;omega)
  clear c3
  have H':=aj.mk H
  clear H
  go_enter Tryz.func91,Tryz.ntmps91
  go_wp2
  repeat (go_quiet (fail);try go_wp2)
  go_loopg [13] k (fun kq v13 w'=>∃ (kL:Int),v13 = .int .i64 kL∧aj (cZ.l0 kq l0 l1 (l0.length:Int) kL=some r)∧aj (kq≤k)∧dw w w')
  case atStart=>exact ⟨(0),zT,H',⟨Nat.le_refl _⟩,zW⟩
  case round =>
   clear H'
   obtain ⟨kL,rfl,HA,HK1,⟨m1,rfl⟩⟩:=hrel
   cases gk with
   | zero=>exact absurd HA.out (by simp [cZ.l0])
   | succ k1 =>
    have H:=HA.out
    clear HA
    simp only [cZ.l0] at H
    by_cases c4:kL < (l0.length:Int)
    ·rw [if_pos c4] at H
     have fV:=decide_eq_true c4
     clear c4
     by_cases c5:0≤kL
     ·rw [if_pos c5] at H
      have iM:=decide_eq_true c5
      clear c5
      by_cases c6:kL < (l0.length:Int)
      ·rw [if_pos c6] at H
       have iy:=decide_eq_true c6
       clear c6
       by_cases c7:kL < (l1.length:Int)
       ·rw [if_pos c7] at H
        have jw:=decide_eq_true c7
        clear c7
        by_cases c8:(rd l0 kL)=(rd l1 kL)
        ·rw [if_pos c8] at H
         have vX:((rd l0 kL) == (rd l1 kL))=true:=beq_iff_eq.mpr c8
         have acP:((rd l0 kL) != (rd l1 kL))=false:=bne_eq_false_iff_eq.mpr c8
         clear c8
         have H':=aj.mk H
         clear H
         have af6:0≤(kL:Int):=of_decide_eq_true (by first|(with_reducible assumption)|assumption)
         have af7:kL < (l0.length:Int):=of_decide_eq_true (by first|(with_reducible assumption)|assumption)
         obtain ⟨avG,e238,ar2⟩:=Kd.jF HR0.out kL af6 af7
         cases e238
         replace af6:=eq_true af6
         replace af7:=eq_true af7
         have af8:0≤(kL:Int):=of_decide_eq_true (by first|(with_reducible assumption)|assumption)
         have af9:kL < (l1.length:Int):=of_decide_eq_true (by first|(with_reducible assumption)|assumption)
         obtain ⟨avH,aqs,ar4⟩:=Kd.jF HR1.out kL af8 af9
         cases aqs
         replace af8:=eq_true af8
         replace af9:=eq_true af9
         go_wp2
         repeat (go_quiet (fail);try go_wp2)
         go_roundg k1
         case measure=>have:=HK1.out;omega
         case rel=>exact ⟨(wrap64 (kL+1)),zT,H',⟨by have:=HK1.out;omega⟩,zW⟩
        ·rw [if_neg c8] at H
         have vX:((rd l0 kL) == (rd l1 kL))=false:=beq_eq_false_iff_ne.mpr c8
         have acP:((rd l0 kL) != (rd l1 kL))=true:=bne_iff_ne.mpr c8
         obtain rfl:=Option.some.inj H
         have af6:0≤(kL:Int):=of_decide_eq_true (by first|(with_reducible assumption)|assumption)
         have af7:kL < (l0.length:Int):=of_decide_eq_true (by first|(with_reducible assumption)|assumption)
         obtain ⟨avG,e238,ar2⟩:=Kd.jF HR0.out kL af6 af7
         cases e238
         replace af6:=eq_true af6
         replace af7:=eq_true af7
         have af8:0≤(kL:Int):=of_decide_eq_true (by first|(with_reducible assumption)|assumption)
         have af9:kL < (l1.length:Int):=of_decide_eq_true (by first|(with_reducible assumption)|assumption)
         obtain ⟨avH,aqs,ar4⟩:=Kd.jF HR1.out kL af8 af9
         cases aqs
         replace af8:=eq_true af8
         replace af9:=eq_true af9
         go_wp2
         repeat (go_quiet (fail);try go_wp2)
         go_ret
         exact ⟨zT,zW⟩
       ·rw [if_neg c7] at H
        exact absurd H (by simp)
      ·rw [if_neg c6] at H
       exact absurd H (by simp)
     ·rw [if_neg c5] at H
      exact absurd H (by simp)
    ·rw [if_neg c4] at H
     have fV:=decide_eq_false c4
     clear c4
     obtain rfl:=Option.some.inj H
     go_wp2
     repeat (go_quiet (fail);try go_wp2)
     go_ret
     exact ⟨zT,zW⟩
 ·rw [if_neg c3] at H
  have fQ:((l0.length:Int) == (l1.length:Int))=false:=beq_eq_false_iff_ne.mpr c3
  have wS:((l0.length:Int) != (l1.length:Int))=true:=bne_iff_ne.mpr c3
  have awQ:(l0.length == l1.length)=false:=by first|simpa using c3|(simp at c3 ⊢;omega)
  obtain rfl:=Option.some.inj H
  go_enter Tryz.func91,Tryz.ntmps91
  go_wp2
  repeat (go_quiet (fail);try go_wp2)
  go_ret
  exact ⟨zT,zW⟩
def jr.f (k:Nat):Option (Bool):=(iO.f (([536870912,536870912,536870912]:List Int))).bind fun ab7=>((bn.f k 65536).bind fun ab8=>(if ab7.2=0 then ((cZ.f k ab7.1 (([5462,5461,5461]:List Int))).bind fun ads=>(if ads=true then (if ab8.2=0 then (some ((ab8.1.length:Int) == 7)) else (some false)) else (some false))) else (some false)))
theorem jr.mono:∀ k,LeO (jr.f k ) (jr.f (k+1) ):=by
 intro k
 unfold jr.f
 repeat' (with_reducible first|exact cZ.mono _ _ _|exact bn.mono _ _|exact zM|refine LeO.ite ?_ ?_|refine LeO.bind ?_ (fun _ => ?_))
set_option maxHeartbeats 8000000 in
set_option maxRecDepth 100000 in
theorem jr.calls (k:Nat) (r:Bool) (w:World) (h:jr.f k=some r) :
  Calls Tryz.prog 89 #[] w fun e w'=>e = .returned (.bool r)∧Below w.heap.size w w':=by
 have HB:=aj.mk (Below.refl w.heap.size w)
 have H:((iO.f (([536870912,536870912,536870912]:List Int))).bind fun ab7=>((bn.f k 65536).bind fun ab8=>(if ab7.2=0 then ((cZ.f k ab7.1 (([5462,5461,5461]:List Int))).bind fun ads=>(if ads=true then (if ab8.2=0 then (some ((ab8.1.length:Int) == 7)) else (some false)) else (some false))) else (some false))))=some r:=h
 clear h
 obtain ⟨adt,ahd⟩:∃ y_:List Int,y_=(([536870912,536870912,536870912]:List Int)):=⟨_,rfl⟩
 replace H:((iO.f adt).bind fun ab7=>((bn.f k 65536).bind fun ab8=>(if ab7.2=0 then ((cZ.f k ab7.1 (([5462,5461,5461]:List Int))).bind fun ads=>(if ads=true then (if ab8.2=0 then (some ((ab8.1.length:Int) == 7)) else (some false)) else (some false))) else (some false))))=some r:=by first|(rw [ahd];with_reducible exact H)|(have H2_:=(Option.bind_some _ _).symm.trans H;rw [ahd];with_reducible exact H2_)|(have H2_:=(Option.bind_some _ _).symm.trans H;with_reducible exact H2_)|with_reducible exact H|(rw [ahd];exact H)|exact H
 have ab9:=aj.mk ahd
 clear ahd
 replace H:=zO H
 obtain ⟨⟨aeJ,adu⟩,A1,H⟩:=H
 try dsimp only at H
 replace H:=zO H
 obtain ⟨⟨akR,acu⟩,A2,H⟩:=H
 try dsimp only at H
 by_cases c3:adu=0
 ·rw [if_pos c3] at H
  have fQ:(adu == 0)=true:=beq_iff_eq.mpr c3
  have wS:(adu != 0)=false:=bne_eq_false_iff_eq.mpr c3
  clear c3
  obtain ⟨anx,ahe⟩:∃ y_:List Int,y_=(([5462,5461,5461]:List Int)):=⟨_,rfl⟩
  replace H:((cZ.f k aeJ anx).bind fun ads=>(if ads=true then (if acu=0 then (some ((akR.length:Int) == 7)) else (some false)) else (some false)))=some r:=by first|(rw [ahe];with_reducible exact H)|(have H2_:=(Option.bind_some _ _).symm.trans H;rw [ahe];with_reducible exact H2_)|(have H2_:=(Option.bind_some _ _).symm.trans H;with_reducible exact H2_)|with_reducible exact H|(rw [ahe];exact H)|exact H
  have ae5:=aj.mk ahe
  clear ahe
  replace H:=zO H
  obtain ⟨ads,A4,H⟩:=H
  try dsimp only at H
  by_cases c5:ads=true
  ·subst c5
   rw [if_pos rfl] at H;try dsimp only at H
   by_cases c6:acu=0
   ·rw [if_pos c6] at H
    have iy:(acu == 0)=true:=beq_iff_eq.mpr c6
    have uD:(acu != 0)=false:=bne_eq_false_iff_eq.mpr c6
    clear c6
    obtain rfl:=Option.some.inj H
    go_enter Tryz.func89,Tryz.ntmps89
    go_wp2_with (first|((with_reducible refine bK (N:=6) rfl ?_);(try (refine kG (by rfl) ?_;dsimp only));refine Kd.abJ (Kd.int .i64) _ 2 ?hg (N:=6) ?hd (xs:=([536870912,536870912,536870912]:List Int)) (inner:=[.int .i64 536870912,.int .i64 536870912,.int .i64 536870912]) (ok:=fun _=>True) (okp:=fun _=>True) ?hr ?hp (fun _ hk=>hk) trivial (Below.refl _ _) (Nat.le_refl _) (by simp) ?_;(case hd=>rfl);(case hg=>rfl);(case hr=>first|(go_simp;done)|(go_simp;rfl));(case hp=>exact (ji.one (show Kd.M (Kd.int .i64) _ _ _ 536870912 [.int .i64 536870912] from rfl) (ji.one (show Kd.M (Kd.int .i64) _ _ _ 536870912 [.int .i64 536870912] from rfl) (ji.one (show Kd.M (Kd.int .i64) _ _ _ 536870912 [.int .i64 536870912] from rfl) (ji.none _ _)))));intro aqt w7 ho8 hb hg_ uP;clear hg_ uP;(first|rw [← ab9.out] at ho8|(simp only [Int.reduceToNat] at ho8;rw [← ab9.out] at ho8));obtain ⟨iE,HB⟩:=zA2 (Kd.fZ ho8 (bF zB)) (ak zB hb);clear hb ho8;obtain ⟨Ao9,co9,eo9⟩:=Kd.gB iE.out;subst eo9)|((with_reducible refine aA (f:=109) rfl ?_);refine aH (some 7) rfl rfl Tryz.func109 (by kernel_rfl) rfl #[.slice Ao9 adt.length co9] rfl zL ?_;(with_reducible refine (iO.calls _ _ adt aeJ adu _ ?iJ ?iK A1.out).mono ?_);(case iJ=>repeat (first|exact (Kd.dM iE.out).2.2|(with_reducible refine Kd.jg ?_ _)|(with_reducible refine Kd.jE ?_ _)|(with_reducible refine Kd.kJ ?_)));(case iK=>exact (Kd.dM iE.out).2.1);rintro e w10 ⟨aqu,rfl,ho0,hb⟩;refine ⟨_,rfl,?_⟩;obtain ⟨iE,jY,HB⟩:=zA3 (Kd.iF (by (with_reducible repeat (first|apply Kd.aK|apply Kd.aQ|apply Kd.aW));exact iE.out) (Kd.jd ho0) hb) (Kd.fZ (Kd.jR ho0 (Kd.lg (by (with_reducible repeat (first|apply Kd.aK|apply Kd.aQ|apply Kd.aW));exact iE.out))) (bF zB)) (ak zB hb);(try clear hb);(try clear ho0))|((with_reducible refine aA (f:=110) rfl ?_);refine aH (some 11) rfl rfl Tryz.func110 (by kernel_rfl) rfl #[.int .i64 65536] rfl zL ?_;(with_reducible refine (bn.calls k 65536 akR acu _ A2.out).mono ?_);rintro e w11 ⟨aqv,rfl,ho0,hb⟩;refine ⟨_,rfl,?_⟩;obtain ⟨iE,jY,wR,HB⟩:=zA4 (Kd.iF (by (with_reducible repeat (first|apply Kd.aK|apply Kd.aQ|apply Kd.aW));exact iE.out) (Kd.jd ho0) hb) (Kd.iF (by (with_reducible repeat (first|apply Kd.aK|apply Kd.aQ|apply Kd.aW));exact jY.out) (Kd.jd ho0) hb) (Kd.fZ (Kd.jR (Kd.jR ho0 (Kd.lg (by (with_reducible repeat (first|apply Kd.aK|apply Kd.aQ|apply Kd.aW));exact iE.out))) (Kd.lg (by (with_reducible repeat (first|apply Kd.aK|apply Kd.aQ|apply Kd.aW));exact jY.out))) (bF zB)) (ak zB hb);(try clear hb);(try clear ho0))|((with_reducible refine bK (N:=18) rfl ?_);(try (refine kG (by rfl) ?_;dsimp only));refine Kd.abJ (Kd.int .i64) _ 2 ?hg (N:=18) ?hd (xs:=([5462,5461,5461]:List Int)) (inner:=[.int .i64 5462,.int .i64 5461,.int .i64 5461]) (ok:=fun _=>True) (okp:=fun _=>True) ?hr ?hp (fun _ hk=>hk) trivial (Below.refl _ _) (Nat.le_refl _) (by simp) ?_;(case hd=>rfl);(case hg=>rfl);(case hr=>first|(go_simp;done)|(go_simp;rfl));(case hp=>exact (ji.one (show Kd.M (Kd.int .i64) _ _ _ 5462 [.int .i64 5462] from rfl) (ji.one (show Kd.M (Kd.int .i64) _ _ _ 5461 [.int .i64 5461] from rfl) (ji.one (show Kd.M (Kd.int .i64) _ _ _ 5461 [.int .i64 5461] from rfl) (ji.none _ _)))));intro atr w12 aeK hb hg_ uP;clear hg_ uP;(first|rw [← ae5.out] at aeK|(simp only [Int.reduceToNat] at aeK;rw [← ae5.out] at aeK));obtain ⟨iE,jY,wR,zi,HB⟩:=zA5 (Kd.iF (by (with_reducible repeat (first|apply Kd.aK|apply Kd.aQ|apply Kd.aW));exact iE.out) (Kd.jd aeK) hb) (Kd.iF (by (with_reducible repeat (first|apply Kd.aK|apply Kd.aQ|apply Kd.aW));exact jY.out) (Kd.jd aeK) hb) (Kd.iF (by (with_reducible repeat (first|apply Kd.aK|apply Kd.aQ|apply Kd.aW));exact wR.out) (Kd.jd aeK) hb) (Kd.fZ (Kd.jR (Kd.jR (Kd.jR aeK (Kd.lg (by (with_reducible repeat (first|apply Kd.aK|apply Kd.aQ|apply Kd.aW));exact iE.out))) (Kd.lg (by (with_reducible repeat (first|apply Kd.aK|apply Kd.aQ|apply Kd.aW));exact jY.out))) (Kd.lg (by (with_reducible repeat (first|apply Kd.aK|apply Kd.aQ|apply Kd.aW));exact wR.out))) (bF zB)) (ak zB hb);clear hb aeK;obtain ⟨aBG,aBH,awR⟩:=Kd.gB jY.out;subst awR;obtain ⟨aBI,aBJ,awS⟩:=Kd.gB zi.out;subst awS)|(go_at_call 91;(with_reducible refine (cZ.calls k _ _ aeJ _ _ anx true _ ?iJ ?iK ?ahf ?ahg A4.out).mono ?_);(case iJ=>repeat (first|exact (Kd.dM jY.out).2.2|(with_reducible refine Kd.jg ?_ _)|(with_reducible refine Kd.jE ?_ _)|(with_reducible refine Kd.kJ ?_)));(case iK=>exact (Kd.dM jY.out).2.1);(case ahf=>repeat (first|exact (Kd.dM zi.out).2.2|(with_reducible refine Kd.jg ?_ _)|(with_reducible refine Kd.jE ?_ _)|(with_reducible refine Kd.kJ ?_)));(case ahg=>exact (Kd.dM zi.out).2.1);rintro e w' ⟨rfl,⟨nd,rfl⟩⟩;obtain ⟨awM,awN,aqr⟩:=Kd.gB wR.out;subst aqr))
    go_ret
    exact ⟨zS,zB⟩
   ·rw [if_neg c6] at H
    have iy:(acu == 0)=false:=beq_eq_false_iff_ne.mpr c6
    have uD:(acu != 0)=true:=bne_iff_ne.mpr c6
    obtain rfl:=Option.some.inj H
    go_enter Tryz.func89,Tryz.ntmps89
    go_wp2_with (first|((with_reducible refine bK (N:=6) rfl ?_);(try (refine kG (by rfl) ?_;dsimp only));refine Kd.abJ (Kd.int .i64) _ 2 ?hg (N:=6) ?hd (xs:=([536870912,536870912,536870912]:List Int)) (inner:=[.int .i64 536870912,.int .i64 536870912,.int .i64 536870912]) (ok:=fun _=>True) (okp:=fun _=>True) ?hr ?hp (fun _ hk=>hk) trivial (Below.refl _ _) (Nat.le_refl _) (by simp) ?_;(case hd=>rfl);(case hg=>rfl);(case hr=>first|(go_simp;done)|(go_simp;rfl));(case hp=>exact (ji.one (show Kd.M (Kd.int .i64) _ _ _ 536870912 [.int .i64 536870912] from rfl) (ji.one (show Kd.M (Kd.int .i64) _ _ _ 536870912 [.int .i64 536870912] from rfl) (ji.one (show Kd.M (Kd.int .i64) _ _ _ 536870912 [.int .i64 536870912] from rfl) (ji.none _ _)))));intro aqt w17 akS hb hg_ uP;clear hg_ uP;(first|rw [← ab9.out] at akS|(simp only [Int.reduceToNat] at akS;rw [← ab9.out] at akS));obtain ⟨iE,HB⟩:=zA2 (Kd.fZ akS (bF zB)) (ak zB hb);clear hb akS;obtain ⟨aj9,akb,akc⟩:=Kd.gB iE.out;subst akc)|((with_reducible refine aA (f:=109) rfl ?_);refine aH (some 7) rfl rfl Tryz.func109 (by kernel_rfl) rfl #[.slice aj9 adt.length akb] rfl zL ?_;(with_reducible refine (iO.calls _ _ adt aeJ adu _ ?iJ ?iK A1.out).mono ?_);(case iJ=>repeat (first|exact (Kd.dM iE.out).2.2|(with_reducible refine Kd.jg ?_ _)|(with_reducible refine Kd.jE ?_ _)|(with_reducible refine Kd.kJ ?_)));(case iK=>exact (Kd.dM iE.out).2.1);rintro e w20 ⟨aqu,rfl,ho0,hb⟩;refine ⟨_,rfl,?_⟩;obtain ⟨iE,jY,HB⟩:=zA3 (Kd.iF (by (with_reducible repeat (first|apply Kd.aK|apply Kd.aQ|apply Kd.aW));exact iE.out) (Kd.jd ho0) hb) (Kd.fZ (Kd.jR ho0 (Kd.lg (by (with_reducible repeat (first|apply Kd.aK|apply Kd.aQ|apply Kd.aW));exact iE.out))) (bF zB)) (ak zB hb);(try clear hb);(try clear ho0))|((with_reducible refine aA (f:=110) rfl ?_);refine aH (some 11) rfl rfl Tryz.func110 (by kernel_rfl) rfl #[.int .i64 65536] rfl zL ?_;(with_reducible refine (bn.calls k 65536 akR acu _ A2.out).mono ?_);rintro e w21 ⟨aqv,rfl,ho0,hb⟩;refine ⟨_,rfl,?_⟩;obtain ⟨iE,jY,wR,HB⟩:=zA4 (Kd.iF (by (with_reducible repeat (first|apply Kd.aK|apply Kd.aQ|apply Kd.aW));exact iE.out) (Kd.jd ho0) hb) (Kd.iF (by (with_reducible repeat (first|apply Kd.aK|apply Kd.aQ|apply Kd.aW));exact jY.out) (Kd.jd ho0) hb) (Kd.fZ (Kd.jR (Kd.jR ho0 (Kd.lg (by (with_reducible repeat (first|apply Kd.aK|apply Kd.aQ|apply Kd.aW));exact iE.out))) (Kd.lg (by (with_reducible repeat (first|apply Kd.aK|apply Kd.aQ|apply Kd.aW));exact jY.out))) (bF zB)) (ak zB hb);(try clear hb);(try clear ho0))|((with_reducible refine bK (N:=18) rfl ?_);(try (refine kG (by rfl) ?_;dsimp only));refine Kd.abJ (Kd.int .i64) _ 2 ?hg (N:=18) ?hd (xs:=([5462,5461,5461]:List Int)) (inner:=[.int .i64 5462,.int .i64 5461,.int .i64 5461]) (ok:=fun _=>True) (okp:=fun _=>True) ?hr ?hp (fun _ hk=>hk) trivial (Below.refl _ _) (Nat.le_refl _) (by simp) ?_;(case hd=>rfl);(case hg=>rfl);(case hr=>first|(go_simp;done)|(go_simp;rfl));(case hp=>exact (ji.one (show Kd.M (Kd.int .i64) _ _ _ 5462 [.int .i64 5462] from rfl) (ji.one (show Kd.M (Kd.int .i64) _ _ _ 5461 [.int .i64 5461] from rfl) (ji.one (show Kd.M (Kd.int .i64) _ _ _ 5461 [.int .i64 5461] from rfl) (ji.none _ _)))));intro atr w22 aeL hb hg_ uP;clear hg_ uP;(first|rw [← ae5.out] at aeL|(simp only [Int.reduceToNat] at aeL;rw [← ae5.out] at aeL));obtain ⟨iE,jY,wR,zi,HB⟩:=zA5 (Kd.iF (by (with_reducible repeat (first|apply Kd.aK|apply Kd.aQ|apply Kd.aW));exact iE.out) (Kd.jd aeL) hb) (Kd.iF (by (with_reducible repeat (first|apply Kd.aK|apply Kd.aQ|apply Kd.aW));exact jY.out) (Kd.jd aeL) hb) (Kd.iF (by (with_reducible repeat (first|apply Kd.aK|apply Kd.aQ|apply Kd.aW));exact wR.out) (Kd.jd aeL) hb) (Kd.fZ (Kd.jR (Kd.jR (Kd.jR aeL (Kd.lg (by (with_reducible repeat (first|apply Kd.aK|apply Kd.aQ|apply Kd.aW));exact iE.out))) (Kd.lg (by (with_reducible repeat (first|apply Kd.aK|apply Kd.aQ|apply Kd.aW));exact jY.out))) (Kd.lg (by (with_reducible repeat (first|apply Kd.aK|apply Kd.aQ|apply Kd.aW));exact wR.out))) (bF zB)) (ak zB hb);clear hb aeL;obtain ⟨aBK,aBL,awT⟩:=Kd.gB jY.out;subst awT;obtain ⟨aBM,aBN,awU⟩:=Kd.gB zi.out;subst awU)|(go_at_call 91;(with_reducible refine (cZ.calls k _ _ aeJ _ _ anx true _ ?iJ ?iK ?ahf ?ahg A4.out).mono ?_);(case iJ=>repeat (first|exact (Kd.dM jY.out).2.2|(with_reducible refine Kd.jg ?_ _)|(with_reducible refine Kd.jE ?_ _)|(with_reducible refine Kd.kJ ?_)));(case iK=>exact (Kd.dM jY.out).2.1);(case ahf=>repeat (first|exact (Kd.dM zi.out).2.2|(with_reducible refine Kd.jg ?_ _)|(with_reducible refine Kd.jE ?_ _)|(with_reducible refine Kd.kJ ?_)));(case ahg=>exact (Kd.dM zi.out).2.1);rintro e w' ⟨rfl,⟨nd,rfl⟩⟩))
    go_ret
    exact ⟨zS,zB⟩
  ·replace c5:=Bool.eq_false_iff.mpr c5
   subst c5
   rw [if_neg (show ¬ (false=true) by decide)] at H;try dsimp only at H
   obtain rfl:=Option.some.inj H
   go_enter Tryz.func89,Tryz.ntmps89
   go_wp2_with (first|((with_reducible refine bK (N:=6) rfl ?_);(try (refine kG (by rfl) ?_;dsimp only));refine Kd.abJ (Kd.int .i64) _ 2 ?hg (N:=6) ?hd (xs:=([536870912,536870912,536870912]:List Int)) (inner:=[.int .i64 536870912,.int .i64 536870912,.int .i64 536870912]) (ok:=fun _=>True) (okp:=fun _=>True) ?hr ?hp (fun _ hk=>hk) trivial (Below.refl _ _) (Nat.le_refl _) (by simp) ?_;(case hd=>rfl);(case hg=>rfl);(case hr=>first|(go_simp;done)|(go_simp;rfl));(case hp=>exact (ji.one (show Kd.M (Kd.int .i64) _ _ _ 536870912 [.int .i64 536870912] from rfl) (ji.one (show Kd.M (Kd.int .i64) _ _ _ 536870912 [.int .i64 536870912] from rfl) (ji.one (show Kd.M (Kd.int .i64) _ _ _ 536870912 [.int .i64 536870912] from rfl) (ji.none _ _)))));intro aqt w26 akT hb hg_ uP;clear hg_ uP;(first|rw [← ab9.out] at akT|(simp only [Int.reduceToNat] at akT;rw [← ab9.out] at akT));obtain ⟨iE,HB⟩:=zA2 (Kd.fZ akT (bF zB)) (ak zB hb);clear hb akT;obtain ⟨awV,awW,awX⟩:=Kd.gB iE.out;subst awX)|((with_reducible refine aA (f:=109) rfl ?_);refine aH (some 7) rfl rfl Tryz.func109 (by kernel_rfl) rfl #[.slice awV adt.length awW] rfl zL ?_;(with_reducible refine (iO.calls _ _ adt aeJ adu _ ?iJ ?iK A1.out).mono ?_);(case iJ=>repeat (first|exact (Kd.dM iE.out).2.2|(with_reducible refine Kd.jg ?_ _)|(with_reducible refine Kd.jE ?_ _)|(with_reducible refine Kd.kJ ?_)));(case iK=>exact (Kd.dM iE.out).2.1);rintro e w29 ⟨aqu,rfl,ho0,hb⟩;refine ⟨_,rfl,?_⟩;obtain ⟨iE,jY,HB⟩:=zA3 (Kd.iF (by (with_reducible repeat (first|apply Kd.aK|apply Kd.aQ|apply Kd.aW));exact iE.out) (Kd.jd ho0) hb) (Kd.fZ (Kd.jR ho0 (Kd.lg (by (with_reducible repeat (first|apply Kd.aK|apply Kd.aQ|apply Kd.aW));exact iE.out))) (bF zB)) (ak zB hb);(try clear hb);(try clear ho0))|((with_reducible refine aA (f:=110) rfl ?_);refine aH (some 11) rfl rfl Tryz.func110 (by kernel_rfl) rfl #[.int .i64 65536] rfl zL ?_;(with_reducible refine (bn.calls k 65536 akR acu _ A2.out).mono ?_);rintro e w30 ⟨aqv,rfl,ho0,hb⟩;refine ⟨_,rfl,?_⟩;obtain ⟨iE,jY,wR,HB⟩:=zA4 (Kd.iF (by (with_reducible repeat (first|apply Kd.aK|apply Kd.aQ|apply Kd.aW));exact iE.out) (Kd.jd ho0) hb) (Kd.iF (by (with_reducible repeat (first|apply Kd.aK|apply Kd.aQ|apply Kd.aW));exact jY.out) (Kd.jd ho0) hb) (Kd.fZ (Kd.jR (Kd.jR ho0 (Kd.lg (by (with_reducible repeat (first|apply Kd.aK|apply Kd.aQ|apply Kd.aW));exact iE.out))) (Kd.lg (by (with_reducible repeat (first|apply Kd.aK|apply Kd.aQ|apply Kd.aW));exact jY.out))) (bF zB)) (ak zB hb);(try clear hb);(try clear ho0))|((with_reducible refine bK (N:=18) rfl ?_);(try (refine kG (by rfl) ?_;dsimp only));refine Kd.abJ (Kd.int .i64) _ 2 ?hg (N:=18) ?hd (xs:=([5462,5461,5461]:List Int)) (inner:=[.int .i64 5462,.int .i64 5461,.int .i64 5461]) (ok:=fun _=>True) (okp:=fun _=>True) ?hr ?hp (fun _ hk=>hk) trivial (Below.refl _ _) (Nat.le_refl _) (by simp) ?_;(case hd=>rfl);(case hg=>rfl);(case hr=>first|(go_simp;done)|(go_simp;rfl));(case hp=>exact (ji.one (show Kd.M (Kd.int .i64) _ _ _ 5462 [.int .i64 5462] from rfl) (ji.one (show Kd.M (Kd.int .i64) _ _ _ 5461 [.int .i64 5461] from rfl) (ji.one (show Kd.M (Kd.int .i64) _ _ _ 5461 [.int .i64 5461] from rfl) (ji.none _ _)))));intro atr w31 aeM hb hg_ uP;clear hg_ uP;(first|rw [← ae5.out] at aeM|(simp only [Int.reduceToNat] at aeM;rw [← ae5.out] at aeM));obtain ⟨iE,jY,wR,zi,HB⟩:=zA5 (Kd.iF (by (with_reducible repeat (first|apply Kd.aK|apply Kd.aQ|apply Kd.aW));exact iE.out) (Kd.jd aeM) hb) (Kd.iF (by (with_reducible repeat (first|apply Kd.aK|apply Kd.aQ|apply Kd.aW));exact jY.out) (Kd.jd aeM) hb) (Kd.iF (by (with_reducible repeat (first|apply Kd.aK|apply Kd.aQ|apply Kd.aW));exact wR.out) (Kd.jd aeM) hb) (Kd.fZ (Kd.jR (Kd.jR (Kd.jR aeM (Kd.lg (by (with_reducible repeat (first|apply Kd.aK|apply Kd.aQ|apply Kd.aW));exact iE.out))) (Kd.lg (by (with_reducible repeat (first|apply Kd.aK|apply Kd.aQ|apply Kd.aW));exact jY.out))) (Kd.lg (by (with_reducible repeat (first|apply Kd.aK|apply Kd.aQ|apply Kd.aW));exact wR.out))) (bF zB)) (ak zB hb);clear hb aeM;obtain ⟨aBO,apz,acj⟩:=Kd.gB jY.out;subst acj;obtain ⟨avW,uI,apv⟩:=Kd.gB zi.out;subst apv)|(go_at_call 91;(with_reducible refine (cZ.calls k _ _ aeJ _ _ anx false _ ?iJ ?iK ?ahf ?ahg A4.out).mono ?_);(case iJ=>repeat (first|exact (Kd.dM jY.out).2.2|(with_reducible refine Kd.jg ?_ _)|(with_reducible refine Kd.jE ?_ _)|(with_reducible refine Kd.kJ ?_)));(case iK=>exact (Kd.dM jY.out).2.1);(case ahf=>repeat (first|exact (Kd.dM zi.out).2.2|(with_reducible refine Kd.jg ?_ _)|(with_reducible refine Kd.jE ?_ _)|(with_reducible refine Kd.kJ ?_)));(case ahg=>exact (Kd.dM zi.out).2.1);rintro e w' ⟨rfl,⟨nd,rfl⟩⟩))
   go_ret
   exact ⟨zS,zB⟩
 ·rw [if_neg c3] at H
  have fQ:(adu == 0)=false:=beq_eq_false_iff_ne.mpr c3
  have wS:(adu != 0)=true:=bne_iff_ne.mpr c3
  obtain rfl:=Option.some.inj H
  go_enter Tryz.func89,Tryz.ntmps89
  go_wp2_with (first|((with_reducible refine bK (N:=6) rfl ?_);(try (refine kG (by rfl) ?_;dsimp only));refine Kd.abJ (Kd.int .i64) _ 2 ?hg (N:=6) ?hd (xs:=([536870912,536870912,536870912]:List Int)) (inner:=[.int .i64 536870912,.int .i64 536870912,.int .i64 536870912]) (ok:=fun _=>True) (okp:=fun _=>True) ?hr ?hp (fun _ hk=>hk) trivial (Below.refl _ _) (Nat.le_refl _) (by simp) ?_;(case hd=>rfl);(case hg=>rfl);(case hr=>first|(go_simp;done)|(go_simp;rfl));(case hp=>exact (ji.one (show Kd.M (Kd.int .i64) _ _ _ 536870912 [.int .i64 536870912] from rfl) (ji.one (show Kd.M (Kd.int .i64) _ _ _ 536870912 [.int .i64 536870912] from rfl) (ji.one (show Kd.M (Kd.int .i64) _ _ _ 536870912 [.int .i64 536870912] from rfl) (ji.none _ _)))));intro aqt w35 akU hb hg_ uP;clear hg_ uP;(first|rw [← ab9.out] at akU|(simp only [Int.reduceToNat] at akU;rw [← ab9.out] at akU));obtain ⟨iE,HB⟩:=zA2 (Kd.fZ akU (bF zB)) (ak zB hb);clear hb akU;obtain ⟨awY,awZ,aw0⟩:=Kd.gB iE.out;subst aw0)|((with_reducible refine aA (f:=109) rfl ?_);refine aH (some 7) rfl rfl Tryz.func109 (by kernel_rfl) rfl #[.slice awY adt.length awZ] rfl zL ?_;(with_reducible refine (iO.calls _ _ adt aeJ adu _ ?iJ ?iK A1.out).mono ?_);(case iJ=>repeat (first|exact (Kd.dM iE.out).2.2|(with_reducible refine Kd.jg ?_ _)|(with_reducible refine Kd.jE ?_ _)|(with_reducible refine Kd.kJ ?_)));(case iK=>exact (Kd.dM iE.out).2.1);rintro e w38 ⟨aqu,rfl,ho0,hb⟩;refine ⟨_,rfl,?_⟩;obtain ⟨iE,jY,HB⟩:=zA3 (Kd.iF (by (with_reducible repeat (first|apply Kd.aK|apply Kd.aQ|apply Kd.aW));exact iE.out) (Kd.jd ho0) hb) (Kd.fZ (Kd.jR ho0 (Kd.lg (by (with_reducible repeat (first|apply Kd.aK|apply Kd.aQ|apply Kd.aW));exact iE.out))) (bF zB)) (ak zB hb);(try clear hb);(try clear ho0))|((with_reducible refine aA (f:=110) rfl ?_);refine aH (some 11) rfl rfl Tryz.func110 (by kernel_rfl) rfl #[.int .i64 65536] rfl zL ?_;(with_reducible refine (bn.calls k 65536 akR acu _ A2.out).mono ?_);rintro e w39 ⟨aqv,rfl,ho0,hb⟩;refine ⟨_,rfl,?_⟩;obtain ⟨iE,jY,wR,HB⟩:=zA4 (Kd.iF (by (with_reducible repeat (first|apply Kd.aK|apply Kd.aQ|apply Kd.aW));exact iE.out) (Kd.jd ho0) hb) (Kd.iF (by (with_reducible repeat (first|apply Kd.aK|apply Kd.aQ|apply Kd.aW));exact jY.out) (Kd.jd ho0) hb) (Kd.fZ (Kd.jR (Kd.jR ho0 (Kd.lg (by (with_reducible repeat (first|apply Kd.aK|apply Kd.aQ|apply Kd.aW));exact iE.out))) (Kd.lg (by (with_reducible repeat (first|apply Kd.aK|apply Kd.aQ|apply Kd.aW));exact jY.out))) (bF zB)) (ak zB hb);(try clear hb);(try clear ho0)))
  go_ret
  exact ⟨zS,zB⟩
end Go.Proofs.YtpondkggmcmpfaaGreatDoor.QA
