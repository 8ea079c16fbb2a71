/- Joined by wip/tools/bundle.py out of: QAx19 T9 T9b T19 T20p. -/
import Derived.Test.YtpondkggmcmpfaaGreatDoorBDirectNever0
import Derived.Test.YtpondkggmcmpfaaGreatDoorBDirectNever1
import Derived.Test.YtpondkggmcmpfaaGreatDoorBDirectNever8
import Derived.Test.YtpondkggmcmpfaaGreatDoorBDirectNever3
import Derived.Handy
import Derived.Lib.SliceRun
import Derived.Test.YtpondkggmcmpfaaGreatDoorBDirectNever9
namespace Go.Proofs.YtpondkggmcmpfaaGreatDoor.QA
open Go.Proofs.YtpondkggmcmpfaaGreatDoor.T
open Go.RowKit Go.Proofs.YtpondkggmcmpfaaGreatDoorW.PrintWords Go.Proofs.YtpondkggmcmpfaaGreatDoorW.PrintLast Go.Proofs.YtpondkggmcmpfaaGreatDoorW.PrintMore
attribute [local go_sem] dV dP dQ fC fD
set_option linter.unusedVariables false
set_option linter.unusedSimpArgs false
def dA.l0:Nat→List Int→List Int→Int→Int→Option (Bool)
 | 0,_,_,_,_=>none
 | k+1,x0,x1,x12,x13=>if x13 < x12 then (if 0≤x13 then (if x13 < (x0.length:Int) then (if x13 < (x1.length:Int) then (if (rd x0 x13)=(rd x1 x13) then (dA.l0 k x0 x1 x12 (wrap64 (x13+1))) else (some false)) else (none)) else (none)) else (none)) else (some true)
def dA.f (k:Nat) (l0 l1:List Int):Option (Bool):=if (l0.length:Int)=(l1.length:Int) then (dA.l0 k l0 l1 (l0.length:Int) 0) else (some false)
theorem dA.jd:∀ k,(∀ y0 y1 y2 y3,LeO (dA.l0 k y0 y1 y2 y3) (dA.l0 (k+1) y0 y1 y2 y3))
 | 0=>fun _ _ _ _ r h=>by simp [dA.l0] at h
 | k+1=>by
  have ih0:=dA.jd k
  ·intro y0 y1 y2 y3
   unfold dA.l0
   repeat' (with_reducible first|exact ih0 _ _ _ _|exact zM|refine LeO.ite ?_ ?_|refine LeO.bind ?_ (fun _ => ?_))
theorem dA.mono:∀ a0 a1 k,LeO (dA.f k a0 a1) (dA.f (k+1) a0 a1):=by
 intro a0 a1 k
 have ih0:=dA.jd k
 unfold dA.f
 repeat' (with_reducible first|exact ih0 _ _ _ _|exact zM|refine LeO.ite ?_ ?_|refine LeO.bind ?_ (fun _ => ?_))
set_option maxHeartbeats 8000000 in
set_option maxRecDepth 100000 in
theorem dA.calls (k:Nat) (A0:Option Addr) (c0:Nat) (l0:List Int) (A1:Option Addr) (c1:Nat) (l1:List Int) (r:Bool) (w:World) (hr0:Kd.C (Kd.int .i64) w A0 l0.length l0) (hc0:l0.length≤c0) (hr1:Kd.C (Kd.int .i64) w A1 l1.length l1) (hc1:l1.length≤c1) (h:dA.f k l0 l1=some r) :
  Calls Tryz.prog 91 #[.slice A0 l0.length c0,.slice A1 l1.length c1] w fun e w'=>e = .returned (.bool r)∧cO w w':=by
 have HR0:=aj.mk hr0
 have HC0:=aj.mk hc0
 clear hr0 hc0
 have HR1:=aj.mk hr1
 have HC1:=aj.mk hc1
 clear hr1 hc1
 have H:=h
 clear h
 unfold dA.f at H
 by_cases c3:(l0.length:Int)=(l1.length:Int)
 ·rw [if_pos c3] at H
  have fQ:((l0.length:Int) == (l1.length:Int))=true:=beq_iff_eq.mpr c3
  have wC:((l0.length:Int) != (l1.length:Int))=false:=bne_eq_false_iff_eq.mpr c3
  have ap5:(l0.length == l1.length)=true:=by first|simpa using c3|(simp at c3 ⊢;omega)
  clear c3
  have H':=aj.mk H
  clear H
  go_enter Tryz.func91,Tryz.ntmps91
  go_wp2
  repeat (go_quiet (fail);try go_wp2)
  go_loopg [13] k (fun kq v13 w'=>∃ (gI:Int),v13 = .int .i64 gI∧aj (dA.l0 kq l0 l1 (l0.length:Int) gI=some r)∧aj (kq≤k)∧cO w w')
  case atStart=>exact ⟨(0),zT,H',⟨Nat.le_refl _⟩,zW⟩
  case round =>
   clear H'
   obtain ⟨gI,rfl,HA,HK1,⟨m1,rfl⟩⟩:=hrel
   cases gk with
   | zero=>exact absurd HA.out (by simp [dA.l0])
   | succ k1 =>
    have H:=HA.out
    clear HA
    simp only [dA.l0] at H
    by_cases c4:gI < (l0.length:Int)
    ·rw [if_pos c4] at H
     have fB:=decide_eq_true c4
     clear c4
     by_cases c5:0≤gI
     ·rw [if_pos c5] at H
      have gQ:=decide_eq_true c5
      clear c5
      by_cases c6:gI < (l0.length:Int)
      ·rw [if_pos c6] at H
       have iw:=decide_eq_true c6
       clear c6
       by_cases c7:gI < (l1.length:Int)
       ·rw [if_pos c7] at H
        have jf:=decide_eq_true c7
        clear c7
        by_cases c8:(rd l0 gI)=(rd l1 gI)
        ·rw [if_pos c8] at H
         have um:((rd l0 gI) == (rd l1 gI))=true:=beq_iff_eq.mpr c8
         have aas:((rd l0 gI) != (rd l1 gI))=false:=bne_eq_false_iff_eq.mpr c8
         clear c8
         have H':=aj.mk H
         clear H
         have agp:0≤(gI:Int):=of_decide_eq_true (by first|(with_reducible assumption)|assumption)
         have agq:gI < (l0.length:Int):=of_decide_eq_true (by first|(with_reducible assumption)|assumption)
         obtain ⟨av1,e238,atD⟩:=Kd.iI HR0.out gI agp agq
         cases e238
         replace agp:=eq_true agp
         replace agq:=eq_true agq
         have agr:0≤(gI:Int):=of_decide_eq_true (by first|(with_reducible assumption)|assumption)
         have ags:gI < (l1.length:Int):=of_decide_eq_true (by first|(with_reducible assumption)|assumption)
         obtain ⟨av2,ap6,atE⟩:=Kd.iI HR1.out gI agr ags
         cases ap6
         replace agr:=eq_true agr
         replace ags:=eq_true ags
         go_wp2
         repeat (go_quiet (fail);try go_wp2)
         go_roundg k1
         case measure=>have:=HK1.out;omega
         case rel=>exact ⟨(wrap64 (gI+1)),zT,H',⟨by have:=HK1.out;omega⟩,zW⟩
        ·rw [if_neg c8] at H
         have um:((rd l0 gI) == (rd l1 gI))=false:=beq_eq_false_iff_ne.mpr c8
         have aas:((rd l0 gI) != (rd l1 gI))=true:=bne_iff_ne.mpr c8
         obtain rfl:=Option.some.inj H
         have agp:0≤(gI:Int):=of_decide_eq_true (by first|(with_reducible assumption)|assumption)
         have agq:gI < (l0.length:Int):=of_decide_eq_true (by first|(with_reducible assumption)|assumption)
         obtain ⟨av1,e238,atD⟩:=Kd.iI HR0.out gI agp agq
         cases e238
         replace agp:=eq_true agp
         replace agq:=eq_true agq
         have agr:0≤(gI:Int):=of_decide_eq_true (by first|(with_reducible assumption)|assumption)
         have ags:gI < (l1.length:Int):=of_decide_eq_true (by first|(with_reducible assumption)|assumption)
         obtain ⟨av2,ap6,atE⟩:=Kd.iI HR1.out gI agr ags
         cases ap6
         replace agr:=eq_true agr
         replace ags:=eq_true ags
         go_wp2
         repeat (go_quiet (fail);try go_wp2)
         go_ret
         exact ⟨zT,zW⟩
       ·rw [if_neg c7] at H
        exact absurd H (by simp)
      ·rw [if_neg c6] at H
       exact absurd H (by simp)
     ·rw [if_neg c5] at H
      exact absurd H (by simp)
    ·rw [if_neg c4] at H
     have fB:=decide_eq_false c4
     clear c4
     obtain rfl:=Option.some.inj H
     go_wp2
     repeat (go_quiet (fail);try go_wp2)
     go_ret
     exact ⟨zT,zW⟩
 ·rw [if_neg c3] at H
  have fQ:((l0.length:Int) == (l1.length:Int))=false:=beq_eq_false_iff_ne.mpr c3
  have wC:((l0.length:Int) != (l1.length:Int))=true:=bne_iff_ne.mpr c3
  have ap5:(l0.length == l1.length)=false:=by first|simpa using c3|(simp at c3 ⊢;omega)
  obtain rfl:=Option.some.inj H
  go_enter Tryz.func91,Tryz.ntmps91
  go_wp2
  repeat (go_quiet (fail);try go_wp2)
  go_ret
  exact ⟨zT,zW⟩
def jF.f (k:Nat):Option (Bool):=(iU.f (([536870912,536870912,536870912]:List Int))).bind fun acw=>((bD.f k 65536).bind fun acy=>(if acw.2=0 then ((dA.f k acw.1 (([5462,5461,5461]:List Int))).bind fun adA=>(if adA=true then (if acy.2=0 then (some ((acy.1.length:Int) == 7)) else (some false)) else (some false))) else (some false)))
theorem jF.mono:∀ k,LeO (jF.f k ) (jF.f (k+1) ):=by
 intro k
 unfold jF.f
 repeat' (with_reducible first|exact dA.mono _ _ _|exact bD.mono _ _|exact zM|refine LeO.ite ?_ ?_|refine LeO.bind ?_ (fun _ => ?_))
set_option maxHeartbeats 8000000 in
set_option maxRecDepth 100000 in
theorem jF.calls (k:Nat) (r:Bool) (w:World) (h:jF.f k=some r) :
  Calls Tryz.prog 89 #[] w fun e w'=>e = .returned (.bool r)∧Below w.heap.size w w':=by
 have HB:=aj.mk (Below.refl w.heap.size w)
 have H:((iU.f (([536870912,536870912,536870912]:List Int))).bind fun acw=>((bD.f k 65536).bind fun acy=>(if acw.2=0 then ((dA.f k acw.1 (([5462,5461,5461]:List Int))).bind fun adA=>(if adA=true then (if acy.2=0 then (some ((acy.1.length:Int) == 7)) else (some false)) else (some false))) else (some false))))=some r:=h
 clear h
 obtain ⟨adB,ahj⟩:∃ y_:List Int,y_=(([536870912,536870912,536870912]:List Int)):=⟨_,rfl⟩
 replace H:((iU.f adB).bind fun acw=>((bD.f k 65536).bind fun acy=>(if acw.2=0 then ((dA.f k acw.1 (([5462,5461,5461]:List Int))).bind fun adA=>(if adA=true then (if acy.2=0 then (some ((acy.1.length:Int) == 7)) else (some false)) else (some false))) else (some false))))=some r:=by first|(rw [ahj];with_reducible exact H)|(have H2_:=(Option.bind_some _ _).symm.trans H;rw [ahj];with_reducible exact H2_)|(have H2_:=(Option.bind_some _ _).symm.trans H;with_reducible exact H2_)|with_reducible exact H|(rw [ahj];exact H)|exact H
 have acz:=aj.mk ahj
 clear ahj
 replace H:=zO H
 obtain ⟨⟨aey,adC⟩,A1,H⟩:=H
 try dsimp only at H
 replace H:=zO H
 obtain ⟨⟨akP,acW⟩,A2,H⟩:=H
 try dsimp only at H
 by_cases c3:adC=0
 ·rw [if_pos c3] at H
  have fQ:(adC == 0)=true:=beq_iff_eq.mpr c3
  have wC:(adC != 0)=false:=bne_eq_false_iff_eq.mpr c3
  clear c3
  obtain ⟨ant,ahk⟩:∃ y_:List Int,y_=(([5462,5461,5461]:List Int)):=⟨_,rfl⟩
  replace H:((dA.f k aey ant).bind fun adA=>(if adA=true then (if acW=0 then (some ((akP.length:Int) == 7)) else (some false)) else (some false)))=some r:=by first|(rw [ahk];with_reducible exact H)|(have H2_:=(Option.bind_some _ _).symm.trans H;rw [ahk];with_reducible exact H2_)|(have H2_:=(Option.bind_some _ _).symm.trans H;with_reducible exact H2_)|with_reducible exact H|(rw [ahk];exact H)|exact H
  have afD:=aj.mk ahk
  clear ahk
  replace H:=zO H
  obtain ⟨adA,A4,H⟩:=H
  try dsimp only at H
  by_cases c5:adA=true
  ·subst c5
   rw [if_pos rfl] at H;try dsimp only at H
   by_cases c6:acW=0
   ·rw [if_pos c6] at H
    have iw:(acW == 0)=true:=beq_iff_eq.mpr c6
    have vI:(acW != 0)=false:=bne_eq_false_iff_eq.mpr c6
    clear c6
    obtain rfl:=Option.some.inj H
    go_enter Tryz.func89,Tryz.ntmps89
    go_wp2_with (first|((with_reducible refine bF (N:=6) rfl ?_);(try (refine kT (by rfl) ?_;dsimp only));refine Kd.acr (Kd.int .i64) _ 2 ?hg (N:=6) ?hd (xs:=([536870912,536870912,536870912]:List Int)) (inner:=[.int .i64 536870912,.int .i64 536870912,.int .i64 536870912]) (ok:=fun _=>True) (okp:=fun _=>True) ?hr ?hp (fun _ hk=>hk) trivial (Below.refl _ _) (Nat.le_refl _) (by simp) ?_;(case hd=>rfl);(case hg=>rfl);(case hr=>first|(go_simp;done)|(go_simp;rfl));(case hp=>exact (jw.one (show Kd.M (Kd.int .i64) _ _ _ 536870912 [.int .i64 536870912] from rfl) (jw.one (show Kd.M (Kd.int .i64) _ _ _ 536870912 [.int .i64 536870912] from rfl) (jw.one (show Kd.M (Kd.int .i64) _ _ _ 536870912 [.int .i64 536870912] from rfl) (jw.none _ _)))));intro ap7 w7 ho8 hb hg_ vJ;clear hg_ vJ;(first|rw [← acz.out] at ho8|(simp only [Int.reduceToNat] at ho8;rw [← acz.out] at ho8));obtain ⟨iK,HB⟩:=zA2 (Kd.fV ho8 (bP zB)) (ak zB hb);clear hb ho8;obtain ⟨Ao9,co9,eo9⟩:=Kd.fZ iK.out;subst eo9)|((with_reducible refine ay (f:=109) rfl ?_);refine aH (some 7) rfl rfl Tryz.func109 (by kernel_rfl) rfl #[.slice Ao9 adB.length co9] rfl zL ?_;(with_reducible refine (iU.calls _ _ adB aey adC _ ?iR ?iT A1.out).mono ?_);(case iR=>repeat (first|exact (Kd.dB iK.out).2.2|(with_reducible refine Kd.jk ?_ _)|(with_reducible refine Kd.jM ?_ _)|(with_reducible refine Kd.kY ?_)));(case iT=>exact (Kd.dB iK.out).2.1);rintro e w10 ⟨ap8,rfl,ho0,hb⟩;refine ⟨_,rfl,?_⟩;obtain ⟨iK,ku,HB⟩:=zA3 (Kd.iL (by (with_reducible repeat (first|apply Kd.aK|apply Kd.aQ|apply Kd.aW));exact iK.out) (Kd.jq ho0) hb) (Kd.fV (Kd.jX ho0 (Kd.lK (by (with_reducible repeat (first|apply Kd.aK|apply Kd.aQ|apply Kd.aW));exact iK.out))) (bP zB)) (ak zB hb);(try clear hb);(try clear ho0))|((with_reducible refine ay (f:=110) rfl ?_);refine aH (some 11) rfl rfl Tryz.func110 (by kernel_rfl) rfl #[.int .i64 65536] rfl zL ?_;(with_reducible refine (bD.calls k 65536 akP acW _ A2.out).mono ?_);rintro e w11 ⟨ap9,rfl,ho0,hb⟩;refine ⟨_,rfl,?_⟩;obtain ⟨iK,ku,xI,HB⟩:=zA4 (Kd.iL (by (with_reducible repeat (first|apply Kd.aK|apply Kd.aQ|apply Kd.aW));exact iK.out) (Kd.jq ho0) hb) (Kd.iL (by (with_reducible repeat (first|apply Kd.aK|apply Kd.aQ|apply Kd.aW));exact ku.out) (Kd.jq ho0) hb) (Kd.fV (Kd.jX (Kd.jX ho0 (Kd.lK (by (with_reducible repeat (first|apply Kd.aK|apply Kd.aQ|apply Kd.aW));exact iK.out))) (Kd.lK (by (with_reducible repeat (first|apply Kd.aK|apply Kd.aQ|apply Kd.aW));exact ku.out))) (bP zB)) (ak zB hb);(try clear hb);(try clear ho0))|((with_reducible refine bF (N:=18) rfl ?_);(try (refine kT (by rfl) ?_;dsimp only));refine Kd.acr (Kd.int .i64) _ 2 ?hg (N:=18) ?hd (xs:=([5462,5461,5461]:List Int)) (inner:=[.int .i64 5462,.int .i64 5461,.int .i64 5461]) (ok:=fun _=>True) (okp:=fun _=>True) ?hr ?hp (fun _ hk=>hk) trivial (Below.refl _ _) (Nat.le_refl _) (by simp) ?_;(case hd=>rfl);(case hg=>rfl);(case hr=>first|(go_simp;done)|(go_simp;rfl));(case hp=>exact (jw.one (show Kd.M (Kd.int .i64) _ _ _ 5462 [.int .i64 5462] from rfl) (jw.one (show Kd.M (Kd.int .i64) _ _ _ 5461 [.int .i64 5461] from rfl) (jw.one (show Kd.M (Kd.int .i64) _ _ _ 5461 [.int .i64 5461] from rfl) (jw.none _ _)))));intro auA w12 aez hb hg_ vJ;clear hg_ vJ;(first|rw [← afD.out] at aez|(simp only [Int.reduceToNat] at aez;rw [← afD.out] at aez));obtain ⟨iK,ku,xI,zV,HB⟩:=zA5 (Kd.iL (by (with_reducible repeat (first|apply Kd.aK|apply Kd.aQ|apply Kd.aW));exact iK.out) (Kd.jq aez) hb) (Kd.iL (by (with_reducible repeat (first|apply Kd.aK|apply Kd.aQ|apply Kd.aW));exact ku.out) (Kd.jq aez) hb) (Kd.iL (by (with_reducible repeat (first|apply Kd.aK|apply Kd.aQ|apply Kd.aW));exact xI.out) (Kd.jq aez) hb) (Kd.fV (Kd.jX (Kd.jX (Kd.jX aez (Kd.lK (by (with_reducible repeat (first|apply Kd.aK|apply Kd.aQ|apply Kd.aW));exact iK.out))) (Kd.lK (by (with_reducible repeat (first|apply Kd.aK|apply Kd.aQ|apply Kd.aW));exact ku.out))) (Kd.lK (by (with_reducible repeat (first|apply Kd.aK|apply Kd.aQ|apply Kd.aW));exact xI.out))) (bP zB)) (ak zB hb);clear hb aez;obtain ⟨aDJ,aDK,ayn⟩:=Kd.fZ ku.out;subst ayn;obtain ⟨aDL,aDM,ayo⟩:=Kd.fZ zV.out;subst ayo)|(go_at_call 91;(with_reducible refine (dA.calls k _ _ aey _ _ ant true _ ?iR ?iT ?ahl ?ahm A4.out).mono ?_);(case iR=>repeat (first|exact (Kd.dB ku.out).2.2|(with_reducible refine Kd.jk ?_ _)|(with_reducible refine Kd.jM ?_ _)|(with_reducible refine Kd.kY ?_)));(case iT=>exact (Kd.dB ku.out).2.1);(case ahl=>repeat (first|exact (Kd.dB zV.out).2.2|(with_reducible refine Kd.jk ?_ _)|(with_reducible refine Kd.jM ?_ _)|(with_reducible refine Kd.kY ?_)));(case ahm=>exact (Kd.dB zV.out).2.1);rintro e w' ⟨rfl,⟨nd,rfl⟩⟩;obtain ⟨ayp,ayq,aqa⟩:=Kd.fZ xI.out;subst aqa))
    go_ret
    exact ⟨zS,zB⟩
   ·rw [if_neg c6] at H
    have iw:(acW == 0)=false:=beq_eq_false_iff_ne.mpr c6
    have vI:(acW != 0)=true:=bne_iff_ne.mpr c6
    obtain rfl:=Option.some.inj H
    go_enter Tryz.func89,Tryz.ntmps89
    go_wp2_with (first|((with_reducible refine bF (N:=6) rfl ?_);(try (refine kT (by rfl) ?_;dsimp only));refine Kd.acr (Kd.int .i64) _ 2 ?hg (N:=6) ?hd (xs:=([536870912,536870912,536870912]:List Int)) (inner:=[.int .i64 536870912,.int .i64 536870912,.int .i64 536870912]) (ok:=fun _=>True) (okp:=fun _=>True) ?hr ?hp (fun _ hk=>hk) trivial (Below.refl _ _) (Nat.le_refl _) (by simp) ?_;(case hd=>rfl);(case hg=>rfl);(case hr=>first|(go_simp;done)|(go_simp;rfl));(case hp=>exact (jw.one (show Kd.M (Kd.int .i64) _ _ _ 536870912 [.int .i64 536870912] from rfl) (jw.one (show Kd.M (Kd.int .i64) _ _ _ 536870912 [.int .i64 536870912] from rfl) (jw.one (show Kd.M (Kd.int .i64) _ _ _ 536870912 [.int .i64 536870912] from rfl) (jw.none _ _)))));intro ap7 w17 akQ hb hg_ vJ;clear hg_ vJ;(first|rw [← acz.out] at akQ|(simp only [Int.reduceToNat] at akQ;rw [← acz.out] at akQ));obtain ⟨iK,HB⟩:=zA2 (Kd.fV akQ (bP zB)) (ak zB hb);clear hb akQ;obtain ⟨akR,akS,akT⟩:=Kd.fZ iK.out;subst akT)|((with_reducible refine ay (f:=109) rfl ?_);refine aH (some 7) rfl rfl Tryz.func109 (by kernel_rfl) rfl #[.slice akR adB.length akS] rfl zL ?_;(with_reducible refine (iU.calls _ _ adB aey adC _ ?iR ?iT A1.out).mono ?_);(case iR=>repeat (first|exact (Kd.dB iK.out).2.2|(with_reducible refine Kd.jk ?_ _)|(with_reducible refine Kd.jM ?_ _)|(with_reducible refine Kd.kY ?_)));(case iT=>exact (Kd.dB iK.out).2.1);rintro e w20 ⟨ap8,rfl,ho0,hb⟩;refine ⟨_,rfl,?_⟩;obtain ⟨iK,ku,HB⟩:=zA3 (Kd.iL (by (with_reducible repeat (first|apply Kd.aK|apply Kd.aQ|apply Kd.aW));exact iK.out) (Kd.jq ho0) hb) (Kd.fV (Kd.jX ho0 (Kd.lK (by (with_reducible repeat (first|apply Kd.aK|apply Kd.aQ|apply Kd.aW));exact iK.out))) (bP zB)) (ak zB hb);(try clear hb);(try clear ho0))|((with_reducible refine ay (f:=110) rfl ?_);refine aH (some 11) rfl rfl Tryz.func110 (by kernel_rfl) rfl #[.int .i64 65536] rfl zL ?_;(with_reducible refine (bD.calls k 65536 akP acW _ A2.out).mono ?_);rintro e w21 ⟨ap9,rfl,ho0,hb⟩;refine ⟨_,rfl,?_⟩;obtain ⟨iK,ku,xI,HB⟩:=zA4 (Kd.iL (by (with_reducible repeat (first|apply Kd.aK|apply Kd.aQ|apply Kd.aW));exact iK.out) (Kd.jq ho0) hb) (Kd.iL (by (with_reducible repeat (first|apply Kd.aK|apply Kd.aQ|apply Kd.aW));exact ku.out) (Kd.jq ho0) hb) (Kd.fV (Kd.jX (Kd.jX ho0 (Kd.lK (by (with_reducible repeat (first|apply Kd.aK|apply Kd.aQ|apply Kd.aW));exact iK.out))) (Kd.lK (by (with_reducible repeat (first|apply Kd.aK|apply Kd.aQ|apply Kd.aW));exact ku.out))) (bP zB)) (ak zB hb);(try clear hb);(try clear ho0))|((with_reducible refine bF (N:=18) rfl ?_);(try (refine kT (by rfl) ?_;dsimp only));refine Kd.acr (Kd.int .i64) _ 2 ?hg (N:=18) ?hd (xs:=([5462,5461,5461]:List Int)) (inner:=[.int .i64 5462,.int .i64 5461,.int .i64 5461]) (ok:=fun _=>True) (okp:=fun _=>True) ?hr ?hp (fun _ hk=>hk) trivial (Below.refl _ _) (Nat.le_refl _) (by simp) ?_;(case hd=>rfl);(case hg=>rfl);(case hr=>first|(go_simp;done)|(go_simp;rfl));(case hp=>exact (jw.one (show Kd.M (Kd.int .i64) _ _ _ 5462 [.int .i64 5462] from rfl) (jw.one (show Kd.M (Kd.int .i64) _ _ _ 5461 [.int .i64 5461] from rfl) (jw.one (show Kd.M (Kd.int .i64) _ _ _ 5461 [.int .i64 5461] from rfl) (jw.none _ _)))));intro auA w22 aeA hb hg_ vJ;clear hg_ vJ;(first|rw [← afD.out] at aeA|(simp only [Int.reduceToNat] at aeA;rw [← afD.out] at aeA));obtain ⟨iK,ku,xI,zV,HB⟩:=zA5 (Kd.iL (by (with_reducible repeat (first|apply Kd.aK|apply Kd.aQ|apply Kd.aW));exact iK.out) (Kd.jq aeA) hb) (Kd.iL (by (with_reducible repeat (first|apply Kd.aK|apply Kd.aQ|apply Kd.aW));exact ku.out) (Kd.jq aeA) hb) (Kd.iL (by (with_reducible repeat (first|apply Kd.aK|apply Kd.aQ|apply Kd.aW));exact xI.out) (Kd.jq aeA) hb) (Kd.fV (Kd.jX (Kd.jX (Kd.jX aeA (Kd.lK (by (with_reducible repeat (first|apply Kd.aK|apply Kd.aQ|apply Kd.aW));exact iK.out))) (Kd.lK (by (with_reducible repeat (first|apply Kd.aK|apply Kd.aQ|apply Kd.aW));exact ku.out))) (Kd.lK (by (with_reducible repeat (first|apply Kd.aK|apply Kd.aQ|apply Kd.aW));exact xI.out))) (bP zB)) (ak zB hb);clear hb aeA;obtain ⟨aDN,aDO,ayr⟩:=Kd.fZ ku.out;subst ayr;obtain ⟨aDP,aDQ,ays⟩:=Kd.fZ zV.out;subst ays)|(go_at_call 91;(with_reducible refine (dA.calls k _ _ aey _ _ ant true _ ?iR ?iT ?ahl ?ahm A4.out).mono ?_);(case iR=>repeat (first|exact (Kd.dB ku.out).2.2|(with_reducible refine Kd.jk ?_ _)|(with_reducible refine Kd.jM ?_ _)|(with_reducible refine Kd.kY ?_)));(case iT=>exact (Kd.dB ku.out).2.1);(case ahl=>repeat (first|exact (Kd.dB zV.out).2.2|(with_reducible refine Kd.jk ?_ _)|(with_reducible refine Kd.jM ?_ _)|(with_reducible refine Kd.kY ?_)));(case ahm=>exact (Kd.dB zV.out).2.1);rintro e w' ⟨rfl,⟨nd,rfl⟩⟩))
    go_ret
    exact ⟨zS,zB⟩
  ·replace c5:=Bool.eq_false_iff.mpr c5
   subst c5
   rw [if_neg (show ¬ (false=true) by decide)] at H;try dsimp only at H
   obtain rfl:=Option.some.inj H
   go_enter Tryz.func89,Tryz.ntmps89
   go_wp2_with (first|((with_reducible refine bF (N:=6) rfl ?_);(try (refine kT (by rfl) ?_;dsimp only));refine Kd.acr (Kd.int .i64) _ 2 ?hg (N:=6) ?hd (xs:=([536870912,536870912,536870912]:List Int)) (inner:=[.int .i64 536870912,.int .i64 536870912,.int .i64 536870912]) (ok:=fun _=>True) (okp:=fun _=>True) ?hr ?hp (fun _ hk=>hk) trivial (Below.refl _ _) (Nat.le_refl _) (by simp) ?_;(case hd=>rfl);(case hg=>rfl);(case hr=>first|(go_simp;done)|(go_simp;rfl));(case hp=>exact (jw.one (show Kd.M (Kd.int .i64) _ _ _ 536870912 [.int .i64 536870912] from rfl) (jw.one (show Kd.M (Kd.int .i64) _ _ _ 536870912 [.int .i64 536870912] from rfl) (jw.one (show Kd.M (Kd.int .i64) _ _ _ 536870912 [.int .i64 536870912] from rfl) (jw.none _ _)))));intro ap7 w26 akU hb hg_ vJ;clear hg_ vJ;(first|rw [← acz.out] at akU|(simp only [Int.reduceToNat] at akU;rw [← acz.out] at akU));obtain ⟨iK,HB⟩:=zA2 (Kd.fV akU (bP zB)) (ak zB hb);clear hb akU;obtain ⟨ayt,ayu,ayv⟩:=Kd.fZ iK.out;subst ayv)|((with_reducible refine ay (f:=109) rfl ?_);refine aH (some 7) rfl rfl Tryz.func109 (by kernel_rfl) rfl #[.slice ayt adB.length ayu] rfl zL ?_;(with_reducible refine (iU.calls _ _ adB aey adC _ ?iR ?iT A1.out).mono ?_);(case iR=>repeat (first|exact (Kd.dB iK.out).2.2|(with_reducible refine Kd.jk ?_ _)|(with_reducible refine Kd.jM ?_ _)|(with_reducible refine Kd.kY ?_)));(case iT=>exact (Kd.dB iK.out).2.1);rintro e w29 ⟨ap8,rfl,ho0,hb⟩;refine ⟨_,rfl,?_⟩;obtain ⟨iK,ku,HB⟩:=zA3 (Kd.iL (by (with_reducible repeat (first|apply Kd.aK|apply Kd.aQ|apply Kd.aW));exact iK.out) (Kd.jq ho0) hb) (Kd.fV (Kd.jX ho0 (Kd.lK (by (with_reducible repeat (first|apply Kd.aK|apply Kd.aQ|apply Kd.aW));exact iK.out))) (bP zB)) (ak zB hb);(try clear hb);(try clear ho0))|((with_reducible refine ay (f:=110) rfl ?_);refine aH (some 11) rfl rfl Tryz.func110 (by kernel_rfl) rfl #[.int .i64 65536] rfl zL ?_;(with_reducible refine (bD.calls k 65536 akP acW _ A2.out).mono ?_);rintro e w30 ⟨ap9,rfl,ho0,hb⟩;refine ⟨_,rfl,?_⟩;obtain ⟨iK,ku,xI,HB⟩:=zA4 (Kd.iL (by (with_reducible repeat (first|apply Kd.aK|apply Kd.aQ|apply Kd.aW));exact iK.out) (Kd.jq ho0) hb) (Kd.iL (by (with_reducible repeat (first|apply Kd.aK|apply Kd.aQ|apply Kd.aW));exact ku.out) (Kd.jq ho0) hb) (Kd.fV (Kd.jX (Kd.jX ho0 (Kd.lK (by (with_reducible repeat (first|apply Kd.aK|apply Kd.aQ|apply Kd.aW));exact iK.out))) (Kd.lK (by (with_reducible repeat (first|apply Kd.aK|apply Kd.aQ|apply Kd.aW));exact ku.out))) (bP zB)) (ak zB hb);(try clear hb);(try clear ho0))|((with_reducible refine bF (N:=18) rfl ?_);(try (refine kT (by rfl) ?_;dsimp only));refine Kd.acr (Kd.int .i64) _ 2 ?hg (N:=18) ?hd (xs:=([5462,5461,5461]:List Int)) (inner:=[.int .i64 5462,.int .i64 5461,.int .i64 5461]) (ok:=fun _=>True) (okp:=fun _=>True) ?hr ?hp (fun _ hk=>hk) trivial (Below.refl _ _) (Nat.le_refl _) (by simp) ?_;(case hd=>rfl);(case hg=>rfl);(case hr=>first|(go_simp;done)|(go_simp;rfl));(case hp=>exact (jw.one (show Kd.M (Kd.int .i64) _ _ _ 5462 [.int .i64 5462] from rfl) (jw.one (show Kd.M (Kd.int .i64) _ _ _ 5461 [.int .i64 5461] from rfl) (jw.one (show Kd.M (Kd.int .i64) _ _ _ 5461 [.int .i64 5461] from rfl) (jw.none _ _)))));intro auA w31 aeB hb hg_ vJ;clear hg_ vJ;(first|rw [← afD.out] at aeB|(simp only [Int.reduceToNat] at aeB;rw [← afD.out] at aeB));obtain ⟨iK,ku,xI,zV,HB⟩:=zA5 (Kd.iL (by (with_reducible repeat (first|apply Kd.aK|apply Kd.aQ|apply Kd.aW));exact iK.out) (Kd.jq aeB) hb) (Kd.iL (by (with_reducible repeat (first|apply Kd.aK|apply Kd.aQ|apply Kd.aW));exact ku.out) (Kd.jq aeB) hb) (Kd.iL (by (with_reducible repeat (first|apply Kd.aK|apply Kd.aQ|apply Kd.aW));exact xI.out) (Kd.jq aeB) hb) (Kd.fV (Kd.jX (Kd.jX (Kd.jX aeB (Kd.lK (by (with_reducible repeat (first|apply Kd.aK|apply Kd.aQ|apply Kd.aW));exact iK.out))) (Kd.lK (by (with_reducible repeat (first|apply Kd.aK|apply Kd.aQ|apply Kd.aW));exact ku.out))) (Kd.lK (by (with_reducible repeat (first|apply Kd.aK|apply Kd.aQ|apply Kd.aW));exact xI.out))) (bP zB)) (ak zB hb);clear hb aeB;obtain ⟨aDR,aqb,acX⟩:=Kd.fZ ku.out;subst acX;obtain ⟨ayw,vK,aqc⟩:=Kd.fZ zV.out;subst aqc)|(go_at_call 91;(with_reducible refine (dA.calls k _ _ aey _ _ ant false _ ?iR ?iT ?ahl ?ahm A4.out).mono ?_);(case iR=>repeat (first|exact (Kd.dB ku.out).2.2|(with_reducible refine Kd.jk ?_ _)|(with_reducible refine Kd.jM ?_ _)|(with_reducible refine Kd.kY ?_)));(case iT=>exact (Kd.dB ku.out).2.1);(case ahl=>repeat (first|exact (Kd.dB zV.out).2.2|(with_reducible refine Kd.jk ?_ _)|(with_reducible refine Kd.jM ?_ _)|(with_reducible refine Kd.kY ?_)));(case ahm=>exact (Kd.dB zV.out).2.1);rintro e w' ⟨rfl,⟨nd,rfl⟩⟩))
   go_ret
   exact ⟨zS,zB⟩
 ·rw [if_neg c3] at H
  have fQ:(adC == 0)=false:=beq_eq_false_iff_ne.mpr c3
  have wC:(adC != 0)=true:=bne_iff_ne.mpr c3
  obtain rfl:=Option.some.inj H
  go_enter Tryz.func89,Tryz.ntmps89
  go_wp2_with (first|((with_reducible refine bF (N:=6) rfl ?_);(try (refine kT (by rfl) ?_;dsimp only));refine Kd.acr (Kd.int .i64) _ 2 ?hg (N:=6) ?hd (xs:=([536870912,536870912,536870912]:List Int)) (inner:=[.int .i64 536870912,.int .i64 536870912,.int .i64 536870912]) (ok:=fun _=>True) (okp:=fun _=>True) ?hr ?hp (fun _ hk=>hk) trivial (Below.refl _ _) (Nat.le_refl _) (by simp) ?_;(case hd=>rfl);(case hg=>rfl);(case hr=>first|(go_simp;done)|(go_simp;rfl));(case hp=>exact (jw.one (show Kd.M (Kd.int .i64) _ _ _ 536870912 [.int .i64 536870912] from rfl) (jw.one (show Kd.M (Kd.int .i64) _ _ _ 536870912 [.int .i64 536870912] from rfl) (jw.one (show Kd.M (Kd.int .i64) _ _ _ 536870912 [.int .i64 536870912] from rfl) (jw.none _ _)))));intro ap7 w35 akV hb hg_ vJ;clear hg_ vJ;(first|rw [← acz.out] at akV|(simp only [Int.reduceToNat] at akV;rw [← acz.out] at akV));obtain ⟨iK,HB⟩:=zA2 (Kd.fV akV (bP zB)) (ak zB hb);clear hb akV;obtain ⟨ayx,ayy,ayz⟩:=Kd.fZ iK.out;subst ayz)|((with_reducible refine ay (f:=109) rfl ?_);refine aH (some 7) rfl rfl Tryz.func109 (by kernel_rfl) rfl #[.slice ayx adB.length ayy] rfl zL ?_;(with_reducible refine (iU.calls _ _ adB aey adC _ ?iR ?iT A1.out).mono ?_);(case iR=>repeat (first|exact (Kd.dB iK.out).2.2|(with_reducible refine Kd.jk ?_ _)|(with_reducible refine Kd.jM ?_ _)|(with_reducible refine Kd.kY ?_)));(case iT=>exact (Kd.dB iK.out).2.1);rintro e w38 ⟨ap8,rfl,ho0,hb⟩;refine ⟨_,rfl,?_⟩;obtain ⟨iK,ku,HB⟩:=zA3 (Kd.iL (by (with_reducible repeat (first|apply Kd.aK|apply Kd.aQ|apply Kd.aW));exact iK.out) (Kd.jq ho0) hb) (Kd.fV (Kd.jX ho0 (Kd.lK (by (with_reducible repeat (first|apply Kd.aK|apply Kd.aQ|apply Kd.aW));exact iK.out))) (bP zB)) (ak zB hb);(try clear hb);(try clear ho0))|((with_reducible refine ay (f:=110) rfl ?_);refine aH (some 11) rfl rfl Tryz.func110 (by kernel_rfl) rfl #[.int .i64 65536] rfl zL ?_;(with_reducible refine (bD.calls k 65536 akP acW _ A2.out).mono ?_);rintro e w39 ⟨ap9,rfl,ho0,hb⟩;refine ⟨_,rfl,?_⟩;obtain ⟨iK,ku,xI,HB⟩:=zA4 (Kd.iL (by (with_reducible repeat (first|apply Kd.aK|apply Kd.aQ|apply Kd.aW));exact iK.out) (Kd.jq ho0) hb) (Kd.iL (by (with_reducible repeat (first|apply Kd.aK|apply Kd.aQ|apply Kd.aW));exact ku.out) (Kd.jq ho0) hb) (Kd.fV (Kd.jX (Kd.jX ho0 (Kd.lK (by (with_reducible repeat (first|apply Kd.aK|apply Kd.aQ|apply Kd.aW));exact iK.out))) (Kd.lK (by (with_reducible repeat (first|apply Kd.aK|apply Kd.aQ|apply Kd.aW));exact ku.out))) (bP zB)) (ak zB hb);(try clear hb);(try clear ho0)))
  go_ret
  exact ⟨zS,zB⟩
end Go.Proofs.YtpondkggmcmpfaaGreatDoor.QA
namespace Go.Proofs.YtpondkggmcmpfaaGreatDoor.QA
open Go.RowKit Go.Proofs.YtpondkggmcmpfaaGreatDoorW.PrintWords Go.Proofs.YtpondkggmcmpfaaGreatDoorW.PrintLast Go.Proofs.YtpondkggmcmpfaaGreatDoorW.PrintMore Go.Proofs.YtpondkggmcmpfaaGreatDoor.T
set_option linter.unusedVariables false
set_option linter.unusedSimpArgs false
structure Img where
  w:Int
  h:Int
  c:Int
  most:Int
  l:List Int
def pU (w:World) (b:Nat) (m:Img):Prop:=∃ A cp,w.heap[b]? = some (.cells #[.int .i64 m.w,.int .i64 m.h,.int .i64 m.c,.int .i64 m.most,.slice A m.l.length cp] 143 (0,0))∧m.l.length≤cp∧Kd.C (Kd.int .u16) w A m.l.length m.l
def rJ (w:World) (base b:Nat) (m:Img):Prop:=base≤b∧∃ v,w.heap[b]? = some (.cells #[.int .i64 m.w,.int .i64 m.h,.int .i64 m.c,.int .i64 m.most,v] 143 (0,0))∧Kd.R (Kd.int .u16) 79 w base (fun k=>k≠b) v m.l
theorem pU.below {w w':World} {b:Nat} {m:Img} (h:pU w b m) (hb:Below w.heap.size w w'):pU w' b m:=by
  obtain ⟨A,c,h1,h2,h3⟩:=h
  exact ⟨A,c,(hb.block b (bC h1)).trans h1,h2,Kd.bK h3 hb⟩
theorem rJ.reads {w:World} {base b:Nat} {m:Img} (h:rJ w base b m):pU w b m:=by
  obtain ⟨_,v,h1,h2⟩:=h
  obtain ⟨A,c,rfl,h3,h4⟩:=Kd.qZ h2
  exact ⟨A,c,h1,h3,h4⟩
theorem rJ.below {w w':World} {base b:Nat} {m:Img} (h:rJ w base b m) (hb:Below w.heap.size w w'):rJ w' base b m:=by
  obtain ⟨h0,v,h1,h2⟩:=h
  exact ⟨h0,v,(hb.block b (bC h1)).trans h1,Kd.ji h2 hb⟩
theorem rJ.lower {w:World} {base base' b:Nat} {m:Img} (h:rJ w base b m) (hl:base'≤base):rJ w base' b m:=by
  obtain ⟨h0,v,h1,h2⟩:=h
  exact ⟨Nat.le_trans hl h0,v,h1,Kd.fV h2 hl⟩
structure uK (m:Img):Prop where
  w1:1≤m.w
  w2:m.w≤65536
  h1:1≤m.h
  h2:m.h≤65536
  c1:m.c=1∨m.c=3
  m1:1≤m.most
  m2:m.most≤65535
  n:(m.l.length:Int)=m.w*m.h*m.c
  n2:m.w*m.h*m.c≤268435456
def inI (m:Img) (x y c:Int):Prop:=0≤x∧x < m.w∧0≤y∧y < m.h∧0≤c∧c < m.c
instance (m:Img) (x y c:Int):Decidable (inI m x y c):=by unfold inI;exact inferInstance
def plV (m:Img) (x y c:Int):Int:=(y*m.w+x)*m.c+c
theorem ahn {m:Img} (B:uK m) {x y c:Int} (h:inI m x y c):0≤y*m.w∧y*m.w≤4294967296∧0≤(y*m.w+x)*m.c∧(y*m.w+x)*m.c≤12884901888+65536*3∧0≤plV m x y c∧plV m x y c < m.l.length:=by
  obtain ⟨x0,x1,y0,y1,c0,c1⟩:=h
  have w1:=B.w1;have w2:=B.w2;have h2:=B.h2;have hc:=B.c1
  have a0:0≤y*m.w:=Int.mul_nonneg y0 (by omega)
  have a1:y*m.w≤65536*65536:=Int.mul_le_mul (by omega) w2 (by omega) (by decide)
  have a2:0≤(y*m.w+x)*m.c:=Int.mul_nonneg (by omega) (by omega)
  have a3:y*m.w+x+1≤m.h*m.w:=by
    have:(y+1)*m.w≤m.h*m.w:=Int.mul_le_mul_of_nonneg_right (by omega) (by omega)
    rw [Int.add_mul,Int.one_mul] at this;omega
  have a4:(y*m.w+x+1)*m.c≤m.h*m.w*m.c:=Int.mul_le_mul_of_nonneg_right a3 (by omega)
  rw [Int.add_mul,Int.one_mul,Int.mul_comm m.h m.w,← B.n] at a4
  unfold plV
  refine ⟨a0,by omega,a2,?_,by omega,by omega⟩
  rcases hc with e|e <;> rw [e] <;> omega
theorem oq {w:World} {b:Nat} {m:Img} {v:Value} (h:w.heap[b]? = some (.cells #[.int .i64 m.w,.int .i64 m.h,.int .i64 m.c,.int .i64 m.most,v] 143 (0,0))):w.cell? ⟨b,0,none⟩=some (.int .i64 m.w)∧w.cell? ⟨b,1,none⟩=some (.int .i64 m.h)∧w.cell? ⟨b,2,none⟩=some (.int .i64 m.c)∧w.cell? ⟨b,3,none⟩=some (.int .i64 m.most)∧w.cell? ⟨b,4,none⟩=some v :=
  ⟨(au h 0).trans rfl,(au h 1).trans rfl,(au h 2).trans rfl,(au h 3).trans rfl,(au h 4).trans rfl⟩
theorem uM (b:Nat) (m:Img) (w:World) (h:pU w b m):Calls Tryz.prog 46 #[.pointer (some ⟨b,0,none⟩)] w fun e w'=>e = .returned (.int .i64 m.w)∧w'=w:=by
  obtain ⟨A,cp,h0,_,_⟩:=h
  obtain ⟨z0,z1,z2,z3,z4⟩:=oq h0
  clear h0
  go_enter Tryz.func46,Tryz.ntmps46
  go_wp2
  go_ret
  exact ⟨rfl,rfl⟩
theorem sG (b:Nat) (m:Img) (w:World) (h:pU w b m):Calls Tryz.prog 45 #[.pointer (some ⟨b,0,none⟩)] w fun e w'=>e = .returned (.int .i64 m.h)∧w'=w:=by
  obtain ⟨A,cp,h0,_,_⟩:=h
  obtain ⟨z0,z1,z2,z3,z4⟩:=oq h0
  clear h0
  go_enter Tryz.func45,Tryz.ntmps45
  go_wp2
  go_ret
  exact ⟨rfl,rfl⟩
theorem uD (b:Nat) (m:Img) (w:World) (h:pU w b m):Calls Tryz.prog 47 #[.pointer (some ⟨b,0,none⟩)] w fun e w'=>e = .returned (.int .i64 m.c)∧w'=w:=by
  obtain ⟨A,cp,h0,_,_⟩:=h
  obtain ⟨z0,z1,z2,z3,z4⟩:=oq h0
  clear h0
  go_enter Tryz.func47,Tryz.ntmps47
  go_wp2
  go_ret
  exact ⟨rfl,rfl⟩
theorem abo (b:Nat) (m:Img) (w:World) (h:pU w b m):Calls Tryz.prog 44 #[.pointer (some ⟨b,0,none⟩)] w fun e w'=>e = .returned (.int .i64 m.most)∧w'=w:=by
  obtain ⟨A,cp,h0,_,_⟩:=h
  obtain ⟨z0,z1,z2,z3,z4⟩:=oq h0
  clear h0
  go_enter Tryz.func44,Tryz.ntmps44
  go_wp2
  go_ret
  exact ⟨rfl,rfl⟩
set_option maxHeartbeats 8000000 in
set_option maxRecDepth 100000 in
theorem acY (b:Nat) (m:Img) (x y c:Int) (w:World) (h:pU w b m) (B:uK m):Calls Tryz.prog 82 #[.pointer (some ⟨b,0,none⟩),.int .i64 x,.int .i64 y,.int .i64 c] w fun e w'=>e = .returned (.int .i64 (if inI m x y c then plV m x y c else -1))∧cO w w':=by
  obtain ⟨A,cp,h0,_,_⟩:=h
  obtain ⟨z0,z1,z2,z3,z4⟩:=oq h0
  by_cases hi:inI m x y c
  · rw [if_pos hi]
    obtain ⟨b0,b1,b2,b3,b4,b5⟩:=ahn B hi
    have hl:=B.n2
    rw [B.n] at b5
    obtain ⟨x0,x1,y0,y1,c0,c1⟩:=hi
    have w1:IntKind.i64.wrap (y*m.w)=y*m.w:=by rw [kU];exact aC (by omega) (by omega)
    have w1':wrap64 (y*m.w)=y*m.w:=aC (by omega) (by omega)
    have xb:=B.w2
    have w2:IntKind.i64.wrap (y*m.w+x)=y*m.w+x:=by rw [kU];exact aC (by omega) (by omega)
    have w3:IntKind.i64.wrap ((y*m.w+x)*m.c)=(y*m.w+x)*m.c:=by rw [kU];exact aC (by omega) (by omega)
    have w4:IntKind.i64.wrap ((y*m.w+x)*m.c+c)=plV m x y c:=by rw [kU];exact aC (by unfold plV at b4;omega) (by unfold plV at b5;omega)
    have n0:¬ x < 0:=by omega
    have n1:¬ m.w≤x:=by omega
    have n2:¬ y < 0:=by omega
    have n3:¬ m.h≤y:=by omega
    have n4:¬ c < 0:=by omega
    have n5:¬ m.c≤c:=by omega
    generalize plV m x y c=P at w4 ⊢
    obtain ⟨mw,hmw⟩:∃ v,v=m.w:=⟨_,rfl⟩
    obtain ⟨mh,hmh⟩:∃ v,v=m.h:=⟨_,rfl⟩
    obtain ⟨mc,hmc⟩:∃ v,v=m.c:=⟨_,rfl⟩
    rw [← hmw] at z0 n1 w1 w2 w3 w4
    rw [← hmh] at z1 n3
    rw [← hmc] at z2 n5 w3 w4
    clear h0 B b0 b1 b2 b3 b4 b5 hl x0 x1 y0 y1 c0 c1 w1' xb z3 z4 hmw hmh hmc
    go_enter Tryz.func82,Tryz.ntmps82
    go_wp2
    go_quiet (fail)
    go_wp2
    go_ret
    exact ⟨rfl,⟨⟨nq,rfl⟩⟩⟩
  · rw [if_neg hi]
    have hc:x < 0∨(¬ x < 0∧m.w≤x)∨(¬ x < 0∧¬ m.w≤x∧y < 0)∨(¬ x < 0∧¬ m.w≤x∧¬ y < 0∧m.h≤y)∨(¬ x < 0∧¬ m.w≤x∧¬ y < 0∧¬ m.h≤y∧c < 0)∨(¬ x < 0∧¬ m.w≤x∧¬ y < 0∧¬ m.h≤y∧¬ c < 0∧m.c≤c):=by unfold inI at hi;omega
    clear h0 B hi z3 z4
    obtain ⟨mw,hmw⟩:∃ v,v=m.w:=⟨_,rfl⟩
    obtain ⟨mh,hmh⟩:∃ v,v=m.h:=⟨_,rfl⟩
    obtain ⟨mc,hmc⟩:∃ v,v=m.c:=⟨_,rfl⟩
    rw [← hmw] at z0 hc
    rw [← hmh] at z1 hc
    rw [← hmc] at z2 hc
    clear hmw hmh hmc
    rcases hc with n0|⟨n0,n1⟩|⟨n0,n1,n2⟩|⟨n0,n1,n2,n3⟩|⟨n0,n1,n2,n3,n4⟩|⟨n0,n1,n2,n3,n4,n5⟩
    all_goals (
      go_enter Tryz.func82,Tryz.ntmps82
      go_wp2
      go_ret
      exact ⟨rfl,cO.refl _⟩)
def atV (m:Img) (x y c:Int):Int:=if inI m x y c then rd m.l (plV m x y c) else 0
set_option maxHeartbeats 8000000 in
set_option maxRecDepth 100000 in
theorem agc (b:Nat) (m:Img) (x y c:Int) (w:World) (h:pU w b m) (B:uK m):Calls Tryz.prog 71 #[.pointer (some ⟨b,0,none⟩),.int .i64 x,.int .i64 y,.int .i64 c] w fun e w'=>e = .returned (.int .u16 (atV m x y c))∧cO w w':=by
  have PL:=aj.mk (acY b m x y c w h B)
  obtain ⟨A,cp,h0,hcp,hC⟩:=h
  obtain ⟨z0,z1,z2,z3,z4⟩:=oq h0
  unfold atV
  by_cases hi:inI m x y c
  · rw [if_pos hi] at PL ⊢
    obtain ⟨b0,b1,b2,b3,b4,b5⟩:=ahn B hi
    obtain ⟨ad,eA,t7⟩:=Kd.iI hC (plV m x y c) b4 (by exact b5)
    subst eA
    generalize plV m x y c=P at PL b4 b5 t7 ⊢
    obtain ⟨p,rfl⟩:=Int.eq_ofNat_of_zero_le b4
    rw [Int.toNat_natCast] at t7
    obtain ⟨n,hn⟩:∃ n,n=m.l.length:=⟨_,rfl⟩
    rw [← hn] at z4 b5
    clear h0 hC hcp B hi b0 b1 b2 b3 z0 z1 z2 z3 hn
    go_enter Tryz.func71,Tryz.ntmps71
    go_wp2_with (go_at_call 82;(with_reducible refine PL.out.mono ?_);rintro e w' ⟨rfl,⟨nd,rfl⟩⟩)
    go_ret
    exact ⟨rfl,⟨⟨nd,rfl⟩⟩⟩
  · rw [if_neg hi] at PL ⊢
    clear h0 hC hcp B hi z0 z1 z2 z3 z4
    go_enter Tryz.func71,Tryz.ntmps71
    go_wp2_with (go_at_call 82;(with_reducible refine PL.out.mono ?_);rintro e w' ⟨rfl,⟨nd,rfl⟩⟩)
    go_ret
    exact ⟨rfl,⟨⟨nd,rfl⟩⟩⟩
end Go.Proofs.YtpondkggmcmpfaaGreatDoor.QA
namespace Go.Proofs.YtpondkggmcmpfaaGreatDoor.QA
open Go.RowKit Go.Proofs.YtpondkggmcmpfaaGreatDoorW.PrintWords Go.Proofs.YtpondkggmcmpfaaGreatDoorW.PrintLast Go.Proofs.YtpondkggmcmpfaaGreatDoorW.PrintMore Go.Proofs.YtpondkggmcmpfaaGreatDoor.T
set_option linter.unusedVariables false
set_option linter.unusedSimpArgs false
def Img.put (m:Img) (i:Int) (v:Int):Img:={ m with l:=m.l.set i.toNat v }
set_option maxHeartbeats 8000000 in
set_option maxRecDepth 100000 in
theorem ajn (b:Nat) (m:Img) (x y c v:Int) (w0 w:World) (HB:Below w0.heap.size w0 w) (hO:rJ w w0.heap.size b m) (B:uK m) (hi:inI m x y c) (hv:0≤v∧v≤m.most):Calls Tryz.prog 48 #[.pointer (some ⟨b,0,none⟩),.int .i64 x,.int .i64 y,.int .i64 c,.int .u16 v] w fun e w'=>e = .returned (.bool true)∧rJ w' w0.heap.size b (m.put (plV m x y c) v)∧Below w0.heap.size w0 w':=by
  have PL:=aj.mk (acY b m x y c w hO.reads B)
  rw [if_pos hi] at PL
  have hb:=ahn B hi
  obtain ⟨hb0,v0,h0,hR⟩:=hO
  obtain ⟨g,cap,rfl,g1,g2,cells,g3⟩:=Kd.adg hR (by omega)
  obtain ⟨k1,k2⟩:=Kd.akD (0:Int) hR (plV m x y c) hb.2.2.2.2.1 hb.2.2.2.2.2
  have hgb:g≠b:=hR.1 g (by simp [Value.ownBlock])
  have HP:=aj.mk (fun n=>(Kd.anj (Kd.aQ hR n) (plV m x y c) v).1)
  have ho:∀ n,(w.drewN n).heap[b]? = some (.cells #[.int .i64 m.w,.int .i64 m.h,.int .i64 m.c,.int .i64 m.most,.slice (some ⟨g,0,none⟩) m.l.length cap] 143 (0,0)):=fun n=>by rw [World.heap_drewN];exact h0
  have HO:=aj.mk ho
  have v2:v≤65535:=by have:=B.m2;omega
  obtain ⟨z0,z1,z2,z3,z4⟩:=oq h0
  have q0:=hb.2.2.2.2.1
  have q1:=hb.2.2.2.2.2
  have HS:=aj.mk (And.intro hb0 (And.intro g1 hgb))
  have HBB:=aj.mk HB
  unfold Img.put
  generalize plV m x y c=P at PL q0 q1 k1 k2 HP ⊢
  obtain ⟨p,rfl⟩:=Int.eq_ofNat_of_zero_le q0
  rw [Int.toNat_natCast] at k1 k2 HP
  obtain ⟨n,hn⟩:∃ n,n=m.l.length:=⟨_,rfl⟩
  obtain ⟨mo,hmo⟩:∃ n,n=m.most:=⟨_,rfl⟩
  rw [← hn] at z4 q1
  rw [← hmo] at z3 hv
  obtain ⟨v0,v1⟩:=hv
  have vn:¬ mo < v:=by omega
  have pn:¬ (p:Int) < 0:=by omega
  have HE:=aj.mk (And.intro hn hmo)
  clear h0 hR HB B hi hb z0 z1 z2 hb0 g1 g2 g3 hgb hn hmo v1 ho
  go_enter Tryz.func48,Tryz.ntmps48
  go_wp2_with (go_at_call 82;(with_reducible refine PL.out.mono ?_);rintro e w' ⟨rfl,⟨nd,rfl⟩⟩)
  go_ret
  have hx:((w.drewN nd).setCell ⟨g,p,none⟩ (.int .u16 v)).heap[b]? = some (.cells #[.int .i64 m.w,.int .i64 m.h,.int .i64 m.c,.int .i64 m.most,.slice (some ⟨g,0,none⟩) m.l.length cap] 143 (0,0)):=kR (HO.out nd) (p:=⟨g,p,none⟩) (Ne.symm HS.out.2.2) _
  refine ⟨rfl,⟨HS.out.1,_,hx,?_⟩,(aI HBB.out nd).setCell (p:=⟨g,p,none⟩) HS.out.2.1 _⟩
  have hy:=HP.out nd
  show Kd.R (Kd.int .u16) 79 _ _ _ _ (m.l.set (p:Int).toNat v)
  rw [Int.toNat_natCast]
  exact hy
set_option maxHeartbeats 8000000 in
set_option maxRecDepth 100000 in
theorem apb (b:Nat) (m:Img) (x y c v:Int) (w:World) (h:pU w b m) (B:uK m) (hv:0≤v∧v≤65535) (hn:¬ (inI m x y c∧v≤m.most)):Calls Tryz.prog 48 #[.pointer (some ⟨b,0,none⟩),.int .i64 x,.int .i64 y,.int .i64 c,.int .u16 v] w fun e w'=>e = .returned (.bool false)∧cO w w':=by
  have PL:=aj.mk (acY b m x y c w h B)
  obtain ⟨A,cp,h0,hcp,hC⟩:=h
  obtain ⟨z0,z1,z2,z3,z4⟩:=oq h0
  obtain ⟨v0,v1⟩:=hv
  by_cases hi:inI m x y c
  · rw [if_pos hi] at PL
    have hb:=ahn B hi
    have q0:=hb.2.2.2.2.1
    have hm:m.most < v:=by
      rcases Int.lt_or_le m.most v with q|q
      · exact q
      · exact absurd ⟨hi,q⟩ hn
    generalize plV m x y c=P at PL q0
    obtain ⟨p,rfl⟩:=Int.eq_ofNat_of_zero_le q0
    have pn:¬ (p:Int) < 0:=by omega
    obtain ⟨mo,hmo⟩:∃ n,n=m.most:=⟨_,rfl⟩
    rw [← hmo] at z3 hm
    clear h0 hC hcp B hi hn z0 z1 z2 z4 hb hmo
    go_enter Tryz.func48,Tryz.ntmps48
    go_wp2_with (go_at_call 82;(with_reducible refine PL.out.mono ?_);rintro e w' ⟨rfl,⟨nd,rfl⟩⟩)
    go_ret
    exact ⟨rfl,⟨⟨nd,rfl⟩⟩⟩
  · rw [if_neg hi] at PL
    clear h0 hC hcp B hi hn z0 z1 z2 z3 z4
    go_enter Tryz.func48,Tryz.ntmps48
    go_wp2_with (go_at_call 82;(with_reducible refine PL.out.mono ?_);rintro e w' ⟨rfl,⟨nd,rfl⟩⟩)
    go_ret
    exact ⟨rfl,⟨⟨nd,rfl⟩⟩⟩
theorem atF {a b c:Int} (ha:1≤a∧a≤65536) (hb:1≤b∧b≤65536) (hc:c=1∨c=3):jV.f a b c=some (decide (a*b*c≤268435456)):=by
  have h0:0≤a*b:=Int.mul_nonneg (by omega) (by omega)
  have h1:a*b≤65536*65536:=Int.mul_le_mul ha.2 hb.2 (by omega) (by decide)
  unfold jV.f
  rw [if_pos ha.1,if_pos ha.2,if_pos hb.1,if_pos hb.2,aC (show -9223372036854775808≤a*b by omega) (by omega)]
  rcases hc with rfl|rfl
  · rw [if_pos rfl,aC (by omega) (by omega)]
  · rw [if_neg (by decide),if_pos rfl,aC (by omega) (by omega)]
theorem av3:(Tryz.prog.info? 79).map (fun i=>(i.zero,i.size,i.bytes))=some (some (.int .u16 0),1,2):=by kernel_rfl
theorem apc (W:World) (base N:Nat) (hb:base≤W.heap.size) (hN:N≤9223372036854775807) (ok:Nat→Prop) (hok:ok W.heap.size):Kd.R (Kd.int .u16) 79 (W.alloc (.cells (madeCells #[.int .u16 0] N) 79)) base ok (.slice (some ⟨W.heap.size,0,none⟩) N N) (List.replicate N 0):=by
  have h:=ao4 W base 79 .u16 N hb hN
  have h2:=Kd.ug (h1:=fun _=>rfl) (ok:=ok) h (fun k hk=>by
    have:W.heap.size=k:=by simpa [Value.ownBlock] using hk
    subst this;exact hok)
  exact h2
def aiw (a b c mo:Int):Img:=⟨a,b,c,mo,List.replicate (a*b*c).toNat 0⟩
set_option maxHeartbeats 8000000 in
set_option maxRecDepth 100000 in
theorem aeC (a b c mo:Int) (w:World) (ha:1≤a∧a≤65536) (hb:1≤b∧b≤65536) (hc:c=1∨c=3) (hm:1≤mo∧mo≤65535) (hn:a*b*c≤268435456):Calls Tryz.prog 73 #[.int .i64 a,.int .i64 b,.int .i64 c,.int .i64 mo] w fun e w'=>Below w.heap.size w w'∧∃ g,e = .returned (.tuple #[.pointer (some ⟨g,0,none⟩),.int .i64 0])∧rJ w' w.heap.size g (aiw a b c mo):=by
  have hf:=atF ha hb hc
  rw [decide_eq_true hn] at hf
  have h0:0≤a*b:=Int.mul_nonneg (by omega) (by omega)
  have h1:a*b≤65536*65536:=Int.mul_le_mul ha.2 hb.2 (by omega) (by decide)
  have h2:0≤a*b*c:=Int.mul_nonneg h0 (by omega)
  have v1:wrap64 (a*b)=a*b:=aC (by omega) (by omega)
  have v2:wrap64 (a*b*c)=a*b*c:=aC (by omega) (by omega)
  have m0:¬ mo < 1:=by omega
  have m1:¬ 65535 < mo:=by omega
  unfold aiw
  obtain ⟨N,hN⟩:∃ N:Nat,a*b*c=(N:Int):=Int.eq_ofNat_of_zero_le h2
  rw [hN] at v2 hn h2 ⊢
  rw [Int.toNat_natCast]
  have v3:wrap64 (a*b*c)=(N:Int):=by rw [hN];exact v2
  clear v2
  have mk:=zx (P:=Tryz.prog) 80 79 .u16 2 (by kernel_rfl) (by kernel_rfl) (by decide) N (by omega)
  have HM:=aj.mk (And.intro ha (And.intro hb (And.intro h2 hn)))
  have bc:(c == 1)=true∨((c == 1)=false∧(c == 3)=true):=by rcases hc with rfl|rfl <;> simp
  have bd:(c != 1)=false∨((c != 1)=true∧(c != 3)=false):=by rcases hc with rfl|rfl <;> simp
  have HF:=aj.mk hf
  clear ha hb hm hf h0 h1 hN hc bc
  rcases bd with bd|⟨bd,be⟩
  all_goals (
    go_enter Tryz.func73,Tryz.ntmps73
    go_wp2_with (go_at_call 54;(with_reducible refine (jV.calls a b c true _ HF.out).mono ?_);rintro e w' ⟨rfl,⟨nd,rfl⟩⟩)
    go_ret2
    have hd:(w.drewN nd).heap.size=w.heap.size:=by rw [World.heap_drewN]
    have hR:=apc (w.drewN nd) w.heap.size N (by omega) (by have:=HM.out.2.2.2;omega) (fun k=>k≠w.heap.size+1) (by omega)
    rw [hd] at hR
    have hs:((w.drewN nd).alloc (.cells (madeCells #[.int .u16 0] N) 79)).heap.size=w.heap.size+1:=by rw [← hd,World.alloc];exact Array.size_push _
    have hn:=heap_alloc_new ((w.drewN nd).alloc (.cells (madeCells #[.int .u16 0] N) 79)) (.cells #[.int .i64 a,.int .i64 b,.int .i64 c,.int .i64 mo,.slice (some ⟨w.heap.size,0,none⟩) N N] 143)
    rw [hs] at hn
    have hB:Below w.heap.size w (((w.drewN nd).alloc (.cells (madeCells #[.int .u16 0] N) 79)).alloc (.cells #[.int .i64 a,.int .i64 b,.int .i64 c,.int .i64 mo,.slice (some ⟨w.heap.size,0,none⟩) N N] 143)):=aT (aT (aI (Below.refl _ _) nd) _) _
    refine ⟨hB,w.heap.size+1,rfl,by omega,.slice (some ⟨w.heap.size,0,none⟩) N N,hn,Kd.aK hR _⟩)
set_option maxHeartbeats 8000000 in
set_option maxRecDepth 100000 in
theorem aeD (A0:Option Addr) (c0:Nat) (l:List Int) (w:World) (hr0:Kd.C (Kd.int .u16) w A0 l.length l) (hc0:l.length≤c0) (hl:l.length≤268435456) :
    Calls Tryz.prog 83 #[.slice A0 l.length c0] w fun e w'=>∃ v,e = .returned v∧Kd.R (Kd.int .u16) 79 w' w.heap.size (fun _=>True) v l∧Below w.heap.size w w':=by
  have q:∀ (w:World) (a:Option Addr) (n c n' c':Nat),(binOp .eql 80 (.slice a n c) (.slice none n' c')).run Tryz.prog w = .ok (.bool a.isNone) w:=fun w a n c n' c'=>Lib.run_eql_slice_nil w _ _ a n c n' c' Tryz.underlying80
  cases A0 with
  | none =>
    have hn:l=[]:=by
      cases l with
      | nil=>rfl
      | cons x r=>obtain ⟨ad,e,_⟩:=Kd.iI hr0 0 (by omega) (by simp);cases e
    subst hn
    clear hr0
    go_enter Tryz.func83,Tryz.ntmps83
    go_wp2
    go_ret
    exact ⟨_,rfl,Kd.jW _ _ _ _ _,Below.refl _ _⟩
  | some ad =>
    have HR:=aj.mk hr0
    clear hr0
    go_enter Tryz.func83,Tryz.ntmps83
    go_wp2_with (at_builtin;refine Kd.aeu (Value.int .u16) (0:Int) (h1:=fun _=>rfl) (w0:=w) w.heap.size rfl (.tmp 5) (.tmp 6) 80 79 (.int .u16 0) 2 rfl Tryz.underlying80 av3 rfl (by omega) (.slice (some ⟨w.heap.size,0,none⟩) 0 0) [] l (some ad) l.length c0 (fun _=>True) rfl rfl (fun _ _=>trivial) (Kd.ug (World.ownsRow_made w #[] 0 (Nat.le_refl _) (Nat.zero_le _) rfl) (fun _ _=>trivial)) (Kd.jk HR.out _) (aT (Below.refl _ _) _) (by simp) (by simp;omega) ?_;intro v1 w1 ho hb hg hat;have HO:=aj.mk ho;have HB:=aj.mk hb;clear ho hb hg hat)
    go_ret
    exact ⟨_,rfl,HO.out,HB.out⟩
set_option maxHeartbeats 8000000 in
set_option maxRecDepth 100000 in
theorem abS (b:Nat) (m:Img) (w:World) (h:pU w b m) (hl:m.l.length≤268435456):Calls Tryz.prog 49 #[.pointer (some ⟨b,0,none⟩)] w fun e w'=>∃ v,e = .returned v∧Kd.R (Kd.int .u16) 79 w' w.heap.size (fun _=>True) v m.l∧Below w.heap.size w w':=by
  obtain ⟨A,cp,h0,hcp,hC⟩:=h
  have CL:=aj.mk (aeD A cp m.l w hC hcp hl)
  obtain ⟨z0,z1,z2,z3,z4⟩:=oq h0
  obtain ⟨n,hn⟩:∃ n,n=m.l.length:=⟨_,rfl⟩
  rw [← hn] at z4 CL
  clear h0 hC hcp hl hn z0 z1 z2 z3
  go_enter Tryz.func49,Tryz.ntmps49
  go_wp2_with (go_at_call 83;refine CL.out.mono ?_;rintro e w' ⟨v,rfl,hv,hb⟩;have HV:=aj.mk hv;have HB:=aj.mk hb;clear hv hb)
  go_ret
  exact ⟨_,rfl,HV.out,HB.out⟩
def aeE (x:Int) (l:List Int):Int:=l.foldl (fun m y=>mx m y) x
theorem amJ {b:Int}:∀ (l:List Int) (x:Int),x≤b→(∀ y ∈ l,y≤b)→aeE x l≤b
  | [],x,h,_=>h
  | y :: l,x,h,h2=>amJ l (mx x y) (by have:=h2 y (by simp);unfold mx;split <;> omega) (fun z hz=>h2 z (by simp [hz]))
theorem aed (l:List Int) (hl:l.length≤268435456):∀ (d i:Nat) (x:Int),i+d=l.length→dM.l0 (d+1) l x (i:Int)=some (aeE x (l.drop i))
  | 0,i,x,h=>by
    rw [dM.l0,if_neg (by omega),List.drop_eq_nil_of_le (by omega)];rfl
  | d+1,i,x,h=>by
    rw [dM.l0,if_pos (by omega),if_pos (by omega),aC (by omega) (by omega),show (i:Int)+1=((i+1:Nat):Int) by omega,aed l hl d (i+1) _ (by omega),List.drop_eq_getElem_cons (show i < l.length by omega)]
    show _=some (aeE (mx x l[i]) (l.drop (i+1)))
    congr 3
    unfold rd
    rw [Int.toNat_natCast,List.getD_eq_getElem?_getD,List.getElem?_eq_getElem (by omega)];rfl
theorem ajJ {l:List Int} (h1:1≤l.length) (hl:l.length≤268435456):dM.f l.length l=some (aeE (rd l 0) (l.drop 1)):=by
  obtain ⟨d,hd⟩:∃ d,l.length=d+1:=⟨l.length - 1,by omega⟩
  unfold dM.f
  rw [if_neg (by omega),if_pos (by omega),hd]
  exact aed l hl d 1 (rd l 0) (by omega)
set_option maxHeartbeats 8000000 in
set_option maxRecDepth 100000 in
theorem akW (a b c mo:Int) (A0:Option Addr) (c0:Nat) (l:List Int) (w:World) (ha:1≤a∧a≤65536) (hb:1≤b∧b≤65536) (hc:c=1∨c=3) (hm:1≤mo∧mo≤65535) (hn:a*b*c≤268435456) (hr0:Kd.C (Kd.int .u16) w A0 l.length l) (hc0:l.length≤c0) (hll:(l.length:Int)=a*b*c) (h1:1≤l.length) (hx:∀ x ∈ l,0≤x∧x≤mo):Calls Tryz.prog 69 #[.int .i64 a,.int .i64 b,.int .i64 c,.int .i64 mo,.slice A0 l.length c0] w fun e w'=>Below w.heap.size w w'∧∃ g,e = .returned (.tuple #[.pointer (some ⟨g,0,none⟩),.int .i64 0])∧rJ w' w.heap.size g ⟨a,b,c,mo,l⟩:=by
  have NW:=aj.mk (aeC a b c mo w ha hb hc hm hn)
  have hmax:=ajJ h1 (by omega)
  have hml:aeE (rd l 0) (l.drop 1)≤mo:=amJ _ _ (by
    have:rd l 0 ∈ l:=by
      unfold rd
      rw [List.getD_eq_getElem?_getD,show (0:Int).toNat=0 from rfl,List.getElem?_eq_getElem (by omega)]
      exact List.getElem_mem _
    exact (hx _ this).2) (fun y hy=>(hx y (List.mem_of_mem_drop hy)).2)
  have hm0:0≤aeE (rd l 0) (l.drop 1):=by
    have ge:∀ (l:List Int) (x:Int),0≤x→0≤aeE x l:=by
      intro l
      induction l with
      | nil=>intro x h;exact h
      | cons y l ih=>intro x h;exact ih (mx x y) (by unfold mx;split <;> omega)
    refine ge _ _ ?_
    have:rd l 0 ∈ l:=by
      unfold rd
      rw [List.getD_eq_getElem?_getD,show (0:Int).toNat=0 from rfl,List.getElem?_eq_getElem (by omega)]
      exact List.getElem_mem _
    exact (hx _ this).1
  have MX:=aj.mk (fun w' (hb2:Below w.heap.size w w')=>dM.calls l.length A0 c0 l _ w' (Kd.bK hr0 hb2) hc0 hmax)
  generalize aeE (rd l 0) (l.drop 1)=M at hml hm0 MX
  have HR:=aj.mk hr0
  have hN:(aiw a b c mo).l.length=l.length:=by show (List.replicate (a*b*c).toNat (0:Int)).length=_;rw [List.length_replicate];omega
  have HN:=aj.mk hN
  obtain ⟨N,hNl⟩:∃ N,N=l.length:=⟨_,rfl⟩
  have HL:=aj.mk hNl
  have hN1:1≤N∧N≤268435456:=by omega
  have mn:¬ mo < M:=by omega
  have m65:M≤65535:=by omega
  rw [← hNl] at MX ⊢
  have HC0:=aj.mk hc0
  clear ha hb hc hm hn hr0 hll h1 hx hmax hml hN hNl hc0
  go_enter Tryz.func69,Tryz.ntmps69
  go_upto_region 2 with (go_at_call 73;refine NW.out.mono ?_;rintro e w1 ⟨hb1,g,rfl,hO⟩;have B1:=aj.mk hb1;have HO:=aj.mk hO;clear hb1 hO)
  obtain ⟨hg0,v0,hg1,hR⟩:=HO.out
  obtain ⟨q,cap,rfl,q1,q2,cells,q3⟩:=Kd.adg hR (by rw [HN.out,← HL.out];omega)
  have hgq:q≠g:=hR.1 q (by simp [Value.ownBlock])
  rw [HN.out,← HL.out] at hg1 hR
  have z4:w1.cell? ⟨g,4,none⟩=some (.slice (some ⟨q,0,none⟩) N cap):=(au hg1 4).trans rfl
  have HG:=aj.mk hg1
  have HRR:=aj.mk hR
  have HQ:=aj.mk (And.intro hg0 (And.intro q1 hgq))
  have hNN:((N:Int) != (N:Int))=false:=by simp
  clear hg0 hg1 hR q1 q2 q3 hgq HO
  go_upto_region 8 with (go_at_call 98;refine (MX.out _ B1.out).mono ?_;rintro e w2 ⟨rfl,hb2⟩;have B2:=aj.mk (ak B1.out hb2);have hg2:=(hb2.block g (bC HG.out)).trans HG.out;have HG2:=aj.mk hg2;have HR2:=aj.mk (Kd.ji HRR.out hb2);clear z4;have z4:w2.cell? ⟨g,4,none⟩=some (.slice (some ⟨q,0,none⟩) N cap):=(au hg2 4).trans rfl;clear hb2 hg2)
  have HCL:=aj.mk (Kd.bK HR.out B2.out)
  rw [← HL.out] at HCL
  have HLL:=aj.mk (show (aiw a b c mo).l.length=N by rw [HN.out,← HL.out])
  go_wp2_with ((with_reducible refine bF (N:=46) rfl ?_);refine Kd.aup (enc:=Value.int .u16) (h1:=fun _=>rfl) (0:Int) (w0:=w) w.heap.size rfl (.tmp 44) (.tmp 45) 80 80 79 rfl Tryz.underlying80 (by kernel_rfl) (.slice (some ⟨q,0,none⟩) N cap) (aiw a b c mo).l l A0 N c0 (fun k=>k≠g) rfl rfl HR2.out HCL.out B2.out B2.out.size ?_;intro w3 ho hb hg;have HO3:=aj.mk ho;have B3:=aj.mk hb;have HG3:=aj.mk ((hg.block g (bC HG2.out) (by simp [Value.ownBlock];exact fun h=>HQ.out.2.2 h.symm)).trans HG2.out);clear ho hb hg)
  go_ret2
  refine ⟨B3.out,g,rfl,HQ.out.1,_,HG3.out,?_⟩
  have h:=HO3.out
  rw [HLL.out,Nat.min_self,List.take_of_length_le (by rw [← HL.out];exact Nat.le_refl _),List.drop_eq_nil_of_le (by rw [HLL.out];exact Nat.le_refl _),List.append_nil] at h
  exact h
end Go.Proofs.YtpondkggmcmpfaaGreatDoor.QA
namespace Go.Proofs.YtpondkggmcmpfaaGreatDoor.QA
open Go.RowKit Go.Proofs.YtpondkggmcmpfaaGreatDoorW.PrintWords Go.Proofs.YtpondkggmcmpfaaGreatDoorW.PrintLast Go.Proofs.YtpondkggmcmpfaaGreatDoorW.PrintMore Go.Proofs.YtpondkggmcmpfaaGreatDoor.T
set_option linter.unusedVariables false
set_option linter.unusedSimpArgs false
set_option maxHeartbeats 8000000 in
set_option maxRecDepth 100000 in
theorem ajK (b:Nat) (m:Img) (w:World) (h:pU w b m) (hl:m.l.length≤268435456):Calls Tryz.prog 81 #[.pointer (some ⟨b,0,none⟩)] w fun e w'=>∃ g,e = .returned (.pointer (some ⟨g,0,none⟩))∧rJ w' w.heap.size g m∧Below w.heap.size w w':=by
  obtain ⟨A,cp,h0,hcp,hC⟩:=h
  have CL:=aj.mk (fun w' (hb:Below w.heap.size w w')=>aeD A cp m.l w' (Kd.bK hC hb) hcp hl)
  have HK:=aj.mk (fun w' (hb:Below w.heap.size w w')=>oq ((hb.block b (bC h0)).trans h0))
  obtain ⟨z0,z1,z2,z3,z4⟩:=oq h0
  obtain ⟨n,hn⟩:∃ n,n=m.l.length:=⟨_,rfl⟩
  obtain ⟨mw,hmw⟩:∃ n,n=m.w:=⟨_,rfl⟩
  obtain ⟨mh,hmh⟩:∃ n,n=m.h:=⟨_,rfl⟩
  obtain ⟨mc,hmc⟩:∃ n,n=m.c:=⟨_,rfl⟩
  obtain ⟨mm,hmm⟩:∃ n,n=m.most:=⟨_,rfl⟩
  have HE:=aj.mk (And.intro hmw (And.intro hmh (And.intro hmc hmm)))
  rw [← hn] at z4 CL HK
  rw [← hmw] at z0 HK
  rw [← hmh] at z1 HK
  rw [← hmc] at z2 HK
  rw [← hmm] at z3 HK
  have mixed:Tryz.prog.follows .mixedOrders=true:=by kernel_rfl
  clear h0 hC hcp hl hn hmw hmh hmc hmm
  have S0:=Below.refl w.heap.size w
  go_enter Tryz.func81,Tryz.ntmps81
  go_upto_region 1 with fail
  go_region_held3 (fun w'=>w'.cell? ⟨b,0,none⟩=some (.int .i64 mw)∧w'.cell? ⟨b,1,none⟩=some (.int .i64 mh)∧w'.cell? ⟨b,2,none⟩=some (.int .i64 mc)∧w'.cell? ⟨b,3,none⟩=some (.int .i64 mm)∧w'.cell? ⟨b,4,none⟩=some (.slice A n cp))
    ((refine HK.out _ ?_;repeat (first|(with_reducible exact S0)|(with_reducible assumption)|(with_reducible apply aZ)|(with_reducible refine aT ?_ _))))
    ((go_at_call 83;(with_reducible refine (CL.out _ ?hh).mono ?_);(case hh=>(repeat (first|(with_reducible exact S0)|(with_reducible assumption)|(with_reducible apply aZ))));rintro e w4 ⟨v,rfl,hv,hb4⟩;have hb5:Below w.heap.size w w4:=ak (by repeat (first|(with_reducible exact S0)|(with_reducible apply aZ))) hb4;obtain ⟨A2,c2,rfl⟩:=Kd.fZ hv;have HV:=aj.mk hv;clear hv))
  (try simp only [Exit.inBlock,Exit.then])
  go_wp2
  go_ret
  obtain ⟨rfl,rfl,rfl,rfl⟩:=HE.out
  refine ⟨w4.heap.size,rfl,⟨hb5.size,.slice A2 m.l.length c2,heap_alloc_new w4 _,?_⟩,aT hb5 _⟩
  exact Kd.aK (Kd.aut rfl (Kd.fV HV.out (Nat.le_refl _)) (fun k hk=>by have:=Kd.lK HV.out k hk;omega)) _
theorem ajo (l:List Int) (hl:l.length≤268435456):∀ (d i:Nat),i+d=l.length→dJ.l0 (d+1) l l (l.length:Int) (i:Int)=some true
  | 0,i,h=>by
    rw [dJ.l0,if_neg (by omega)]
  | d+1,i,h=>by
    rw [dJ.l0,if_pos (by omega),if_pos (by omega),if_pos (by omega),if_pos (by omega),if_pos rfl,aC (by omega) (by omega),show (i:Int)+1=((i+1:Nat):Int) by omega]
    exact ajo l hl d (i+1) (by omega)
theorem apd {l:List Int} (hl:l.length≤268435456):dJ.f (l.length+1) l l=some true:=by
  unfold dJ.f
  rw [if_pos rfl]
  exact ajo l hl l.length 0 (by omega)
theorem akX {P:Program} {f:FuncId} {args:Array Value} {w:World} {n:Nat} {v:Value}
    (h:Calls P f args (w.drewN n) fun e w'=>e = .returned v∧cO (w.drewN n) w'):Calls P f args (w.drewN n) fun e w''=>e = .returned v∧∃ m,w''=w.drewN m :=
  Calls.quiet_of (h.mono fun _ _ ⟨he,hd⟩=>⟨he,hd.out⟩)
set_option maxHeartbeats 8000000 in
set_option maxRecDepth 100000 in
theorem ajL (b1 b2:Nat) (m:Img) (w:World) (h1:pU w b1 m) (h2:pU w b2 m) (hl:m.l.length≤268435456):Calls Tryz.prog 50 #[.pointer (some ⟨b1,0,none⟩),.pointer (some ⟨b2,0,none⟩)] w fun e w'=>e = .returned (.bool true)∧cO w w':=by
  obtain ⟨A1,c1,g1,l1,k1⟩:=h1
  obtain ⟨A2,c2,g2,l2,k2⟩:=h2
  have EQ:=aj.mk (fun n=>dJ.calls (m.l.length+1) A1 c1 m.l A2 c2 m.l true (w.drewN n) (Kd.bK k1 (aI (Below.refl _ _) n)) l1 (Kd.bK k2 (aI (Below.refl _ _) n)) l2 (apd hl))
  obtain ⟨z0,z1,z2,z3,z4⟩:=oq g1
  obtain ⟨y0,y1,y2,y3,y4⟩:=oq g2
  obtain ⟨n,hn⟩:∃ n,n=m.l.length:=⟨_,rfl⟩
  obtain ⟨mw,hmw⟩:∃ n,n=m.w:=⟨_,rfl⟩
  obtain ⟨mh,hmh⟩:∃ n,n=m.h:=⟨_,rfl⟩
  obtain ⟨mc,hmc⟩:∃ n,n=m.c:=⟨_,rfl⟩
  obtain ⟨mm,hmm⟩:∃ n,n=m.most:=⟨_,rfl⟩
  rw [← hn] at z4 y4 EQ
  rw [← hmw] at z0 y0
  rw [← hmh] at z1 y1
  rw [← hmc] at z2 y2
  rw [← hmm] at z3 y3
  have q0:(mw == mw)=true:=by simp
  have q1:(mh == mh)=true:=by simp
  have q2:(mc == mc)=true:=by simp
  have q3:(mm == mm)=true:=by simp
  clear g1 g2 l1 l2 k1 k2 hn hmw hmh hmc hmm hl
  go_enter Tryz.func50,Tryz.ntmps50
  go_upto_region 3 with fail
  go_quiet ((go_at_call 84;exact akX (EQ.out _)))
  go_wp2
  go_ret
  exact ⟨rfl,⟨⟨nq,rfl⟩⟩⟩
def drW (w:Int):Int:=1+w % 20
def drK (c:Int):Int:=1+2*(c % 2)
def drT (most:Int):Int:=1+most % 65535
def drV (top:Int) (l:List Int) (i:Nat):Int:=if l.length=0 then 0 else (rd l ((i % l.length:Nat):Int)+((i / l.length:Nat):Int)) % (top+1)
def drI (w h c most:Int) (l:List Int):Img:=⟨drW w,drW h,drK c,drT most,(List.range (drW w*drW h*drK c).toNat).map (drV (drT most) l)⟩
theorem akY {w h c most:Int} (h1:0≤w) (h2:0≤h) (h3:0≤c) (h4:0≤most):(1≤drW w∧drW w≤20)∧(1≤drW h∧drW h≤20)∧(drK c=1∨drK c=3)∧(1≤drT most∧drT most≤65535):=by
  unfold drW drK drT;omega
theorem auB {w h c:Int} (h1:0≤w) (h2:0≤h) (h3:0≤c):1≤drW w*drW h*drK c∧drW w*drW h*drK c≤1200∧1≤drW w*drW h∧drW w*drW h≤400:=by
  obtain ⟨a,b,d,_⟩:=akY (most:=0) h1 h2 h3 (by decide)
  have e1:drW w*drW h≤20*20:=Int.mul_le_mul a.2 b.2 (by omega) (by decide)
  have e2:1*1≤drW w*drW h:=Int.mul_le_mul a.1 b.1 (by omega) (by omega)
  rcases d with d|d <;> rw [d] <;> omega
theorem aix {top:Int} (ht:1≤top) (l:List Int) (i:Nat):0≤drV top l i∧drV top l i≤top:=by
  unfold drV
  split
  · omega
  · have:=Int.emod_nonneg (rd l ((i % l.length:Nat):Int)+((i / l.length:Nat):Int)) (show top+1≠0 by omega)
    have:=Int.emod_lt_of_pos (rd l ((i % l.length:Nat):Int)+((i / l.length:Nat):Int)) (show 0 < top+1 by omega)
    omega
def drF (top:Int) (l:List Int) (N i:Nat):List Int:=(List.range N).map (fun j=>if j < i then drV top l j else 0)
theorem aat (top:Int) (l:List Int) (N i:Nat):(drF top l N i).length=N:=by simp [drF]
theorem aqd (top:Int) (l:List Int) (N:Nat):drF top l N 0=List.replicate N 0:=by
  refine List.ext_getElem (by simp [drF]) (fun j h1 h2 => ?_)
  simp [drF]
theorem aqe (top:Int) (l:List Int) (N i:Nat):(drF top l N i).set i (drV top l i)=drF top l N (i+1):=by
  refine List.ext_getElem (by simp [drF]) (fun j h1 h2 => ?_)
  rw [List.getElem_set]
  simp only [drF,List.getElem_map,List.getElem_range]
  by_cases c:i=j
  · subst c;rw [if_pos rfl,if_pos (by omega)]
  · rw [if_neg c]
    by_cases d:j < i
    · rw [if_pos d,if_pos (by omega)]
    · rw [if_neg d,if_neg (by omega)]
theorem atG (top:Int) (l:List Int) (N i:Nat) (h:l.length=0):drF top l N i=drF top l N (i+1):=by
  unfold drF
  refine List.map_congr_left (fun j _ => ?_)
  have:drV top l j=0:=by unfold drV;rw [if_pos h]
  simp [this]
theorem amK (top:Int) (l:List Int) (N:Nat):drF top l N N=(List.range N).map (drV top l):=by
  unfold drF
  refine List.map_congr_left (fun j hj => ?_)
  rw [if_pos (List.mem_range.1 hj)]
set_option maxHeartbeats 8000000 in
set_option maxRecDepth 100000 in
theorem anu (wd ht c most:Int) (A0:Option Addr) (c0:Nat) (l:List Int) (w:World) (h1:0≤wd∧wd≤65535) (h2:0≤ht∧ht≤65535) (h3:0≤c∧c≤65535) (h4:0≤most∧most≤65535) (hr:Kd.C (Kd.int .u16) w A0 l.length l) (hc:l.length≤c0) (hv:∀ j:Nat,j < l.length→0≤rd l (j:Int)∧rd l (j:Int)≤65535) :
    Calls Tryz.prog 72 #[.int .u16 wd,.int .u16 ht,.int .u16 c,.int .u16 most,.slice A0 l.length c0] w fun e w'=>∃ g,e = .returned (.pointer (some ⟨g,0,none⟩))∧rJ w' w.heap.size g (drI wd ht c most l)∧Below w.heap.size w w':=by
  have lm:=hr.2.1
  obtain ⟨q1,q2,q3,q4⟩:=akY h1.1 h2.1 h3.1 h4.1
  obtain ⟨q5,q6,q7,q8⟩:=auB h1.1 h2.1 h3.1
  have HR:=aj.mk hr
  have HV:=aj.mk hv
  have HC:=aj.mk hc
  obtain ⟨X,hX⟩:∃ X,X=drW wd:=⟨_,rfl⟩
  obtain ⟨Y,hY⟩:∃ X,X=drW ht:=⟨_,rfl⟩
  obtain ⟨K,hK⟩:∃ X,X=drK c:=⟨_,rfl⟩
  obtain ⟨T,hT⟩:∃ X,X=drT most:=⟨_,rfl⟩
  rw [← hX,← hY] at q7 q8
  rw [← hX,← hY,← hK] at q5 q6
  rw [← hX] at q1
  rw [← hY] at q2
  rw [← hK] at q3
  rw [← hT] at q4
  obtain ⟨N,hN⟩:∃ N:Nat,X*Y*K=(N:Int):=Int.eq_ofNat_of_zero_le (by omega)
  have HE:=aj.mk (And.intro hX (And.intro hY (And.intro hK (And.intro hT hN))))
  have v1:wrap64 (X*Y)=X*Y:=aC (by omega) (by omega)
  have v3:wrap64 (X*Y*K)=(N:Int):=by rw [← hN];exact aC (by omega) (by omega)
  rw [hN] at q5 q6
  have mk:=zx (P:=Tryz.prog) 80 79 .u16 2 (by kernel_rfl) (by kernel_rfl) (by decide) N (by omega)
  have x1:1+wd % 20=X:=hX.symm
  have x2:1+ht % 20=Y:=hY.symm
  have x3:1+2*(c % 2)=K:=hK.symm
  have x4:1+most % 65535=T:=hT.symm
  obtain ⟨n,hn⟩:∃ n,n=l.length:=⟨_,rfl⟩
  have HL:=aj.mk hn
  rw [← hn] at lm ⊢
  clear hr hv hc hX hY hK hT hN hn
  have mixed:Tryz.prog.follows .mixedOrders=true:=by kernel_rfl
  go_enter Tryz.func72,Tryz.ntmps72
  go_upto_region 4 with fail
  have hR:=apc w w.heap.size N (Nat.le_refl _) (by omega) (fun _=>True) trivial
  have B1:=aj.mk (aT (Below.refl w.heap.size w) (.cells (madeCells #[.int .u16 0] N) 79))
  obtain ⟨g,hg⟩:∃ g,g=w.heap.size:=⟨_,rfl⟩
  rw [← hg] at hR ⊢
  generalize w.alloc (.cells (madeCells #[.int .u16 0] N) 79)=w1 at hR B1 ⊢
  rw [← aqd T l N] at hR
  have HS:=aj.mk hR
  have HG:=aj.mk hg
  clear hR hg v1 v3 mk x1 x2 x3 x4
  go_wp2
  go_loopg [16,44] N (fun kx s16 s44 wr=>∃ (i:Nat),s44 = .int .i64 i∧i≤N∧N - i≤kx∧aj (Below w.heap.size w wr)∧aj (Kd.R (Kd.int .u16) 79 wr g (fun _=>True) (.slice (some ⟨g,0,none⟩) N N) (drF T l N i)))
  case atStart=>exact ⟨0,rfl,by omega,by omega,B1,HS⟩
  case round =>
    clear B1 HS
    obtain ⟨i,rfl,i1,i2,HB,HS⟩:=hrel
    have wi:IntKind.i64.wrap ((i:Int)+1)=(i:Int)+1:=by rw [kU];exact aC (by omega) (by omega)
    by_cases hlt:(i:Int) < (N:Int)
    rotate_left
    · have hin:i=N:=by omega
      subst hin
      obtain ⟨r1,r2,r3⟩:=Kd.dB HS.out
      obtain ⟨eX,eY,eK,eT,eN⟩:=HE.out
      have io:=akW X Y K T (some ⟨g,0,none⟩) i (drF T l i i) wr ⟨q1.1,by omega⟩ ⟨q2.1,by omega⟩ q3 q4 (by omega) r3 (by rw [aat];exact Nat.le_refl _) (by rw [aat,eN]) (by rw [aat];omega) (fun x hx=>by
        rw [amK] at hx
        obtain ⟨j,_,rfl⟩:=List.mem_map.1 hx
        exact aix q4.1 l j)
      rw [aat] at io
      have IO:=aj.mk io
      clear io r1 r2 r3 eX eY eK eT eN
      go_wp2_with (go_at_call 69;refine IO.out.mono ?_;rintro e w2 ⟨hb2,g2,rfl,hi⟩;have B2:=aj.mk (ak HB.out hb2);have HI:=aj.mk (rJ.lower hi HB.out.size);clear hb2 hi)
      go_ret
      refine ⟨g2,rfl,?_,B2.out⟩
      have h:=HI.out
      obtain ⟨rfl,rfl,rfl,rfl,eN⟩:=HE.out
      rw [amK] at h
      unfold drI
      rw [eN,Int.toNat_natCast]
      exact h
    by_cases n0:n=0
    · subst n0
      go_wp2
      go_roundg (N - (i+1))
      case measure=>omega
      case rel=>exact ⟨i+1,by simp,by omega,Nat.le_refl _,HB,⟨by rw [← atG T l N i HL.out.symm];exact HS.out⟩⟩
    obtain ⟨j,hj⟩:∃ j,j=i % n:=⟨_,rfl⟩
    obtain ⟨q,hq⟩:∃ q,q=i / n:=⟨_,rfl⟩
    have hjn:j < n:=by rw [hj];exact Nat.mod_lt _ (by omega)
    have hqi:q≤i:=by rw [hq];exact Nat.div_le_self _ _
    obtain ⟨ad,eA,t7⟩:=Kd.iI HR.out (j:Int) (by omega) (by rw [← HL.out];omega)
    cases eA
    rw [Int.toNat_natCast] at t7
    have tb:=World.block_lt_of_cell? w _ t7
    have FN:ad.add j≠⟨g,i,none⟩:=fun e=>by rw [e] at tb;have h:=HG.out;simp only at tb;omega
    replace t7:=(HB.out.cell tb).trans t7
    clear tb
    have hs2:Kd.R (Kd.int .u16) 79 wr g (fun _=>True) (.slice (some ⟨g,0,none⟩) (drF T l N i).length N) (drF T l N i):=by rw [aat];exact HS.out
    obtain ⟨k1,k2⟩:=Kd.akD (0:Int) hs2 (i:Int) (by omega) (by rw [aat];exact hlt)
    rw [Int.toNat_natCast] at k1 k2
    have vb:=HV.out j (by rw [← HL.out];exact hjn)
    obtain ⟨v,hv⟩:∃ v,v=rd l (j:Int):=⟨_,rfl⟩
    rw [← hv] at vb t7
    obtain ⟨r,hr⟩:∃ r,r=drV T l i:=⟨_,rfl⟩
    have rb:=aix q4.1 l i
    rw [← hr] at rb
    have er:r=(v+(q:Int)) % (T+1):=by rw [hr];unfold drV;rw [if_neg (by rw [← HL.out];exact n0),← HL.out,← hj,← hq,← hv]
    have rt:Int.tmod (i:Int) (n:Int)=(j:Int):=by rw [hj];rfl
    have qt:Int.tdiv (i:Int) (n:Int)=(q:Int):=by rw [hq];rfl
    have rt2:Int.tmod (v+(q:Int)) (T+1)=r:=by rw [er];exact Int.tmod_eq_emod_of_nonneg (by omega)
    have wq:IntKind.i64.wrap (q:Int)=(q:Int):=by rw [kU];exact aC (by omega) (by omega)
    have ws:IntKind.i64.wrap (v+(q:Int))=v+(q:Int):=by rw [kU];exact aC (by omega) (by omega)
    have wv:IntKind.i64.wrap v=v:=by rw [kU];exact aC (by omega) (by omega)
    have wT:IntKind.i64.wrap (T+1)=T+1:=by rw [kU];exact aC (by omega) (by omega)
    have w16:IntKind.u16.wrap r=r:=by
      have h0:=rb.1
      have h1:r≤65535:=by omega
      unfold IntKind.wrap IntKind.bits IntKind.signed
      simp
      omega
    have nz:¬ (n:Int)=0:=by omega
    have nzb:((n:Int) == 0)=false:=by simpa using n0
    have tz:¬ T+1=0:=by omega
    have tzb:((T+1) == 0)=false:=by simpa using tz
    have np:(0:Int) < (n:Int):=by omega
    have HRR:=aj.mk hr
    have put:=Kd.aW (Kd.anj hs2 (i:Int) r).1
    rw [aat,Int.toNat_natCast,HRR.out,aqe,← HRR.out] at put
    have PUT:=aj.mk put
    have FAR:=aj.mk (aZ (HB.out.setCell (p:=⟨g,i,none⟩) (show w.heap.size≤g by rw [HG.out];exact Nat.le_refl _) (.int .u16 r)))
    clear hj hq hv hr er vb rb hs2 put
    have KEEP:=aj.mk (fun u=>(show ((wr.setCell ⟨g,i,none⟩ u).drew).cell? (ad.add j)=some (.int .u16 v) from (World.cell?_setCell_other _ _ _ _ (Ne.symm FN)).trans t7))
    go_wp2
    go_region_held3 (fun w'=>w'.cell? (ad.add j)=some (.int .u16 v)) ((first|exact KEEP.out _|go_keep)) (fail)
    (try simp only [Exit.inBlock,Exit.then])
    go_wp2
    go_roundg (N - (i+1))
    case measure=>omega
    case rel=>exact ⟨i+1,by simp,by omega,Nat.le_refl _,FAR,PUT⟩
end Go.Proofs.YtpondkggmcmpfaaGreatDoor.QA
namespace Go.Proofs.YtpondkggmcmpfaaGreatDoor.QA
open Go.RowKit Go.Proofs.YtpondkggmcmpfaaGreatDoorW.PrintWords Go.Proofs.YtpondkggmcmpfaaGreatDoorW.PrintLast Go.Proofs.YtpondkggmcmpfaaGreatDoorW.PrintMore Go.Proofs.YtpondkggmcmpfaaGreatDoor.T
set_option linter.unusedVariables false
set_option linter.unusedSimpArgs false
set_option maxHeartbeats 8000000 in
set_option maxRecDepth 100000 in
theorem ajM (wd ht c most:Int) (A0:Option Addr) (c0:Nat) (l:List Int) (w:World) (h1:0≤wd∧wd≤65535) (h2:0≤ht∧ht≤65535) (h3:0≤c∧c≤65535) (h4:0≤most∧most≤65535) (hr0:Kd.C (Kd.int .u16) w A0 l.length l) (hc:l.length≤c0) (hv:∀ j:Nat,j < l.length→0≤rd l (j:Int)∧rd l (j:Int)≤65535) :
    Calls Tryz.prog 33 #[.agg #[.int .u16 wd,.int .u16 ht,.int .u16 c,.int .u16 most,.slice A0 l.length c0]] w fun e w'=>∃ g,e = .returned (.pointer (some ⟨g,0,none⟩))∧pU w' g (drI (wd % 12) (ht % 12) c most l)∧Below w.heap.size w w':=by
  have DR:=aj.mk (fun w' (hb:Below w.heap.size w w')=>anu (wd % 12) (ht % 12) c most A0 c0 l w' ⟨by omega,by omega⟩ ⟨by omega,by omega⟩ h3 h4 (Kd.bK hr0 hb) hc hv)
  obtain ⟨n,hn⟩:∃ n,n=l.length:=⟨_,rfl⟩
  rw [← hn] at DR ⊢
  have BX:=aj.mk (aT (Below.refl w.heap.size w) (.cells #[.int .u16 wd,.int .u16 ht,.int .u16 c,.int .u16 most,.slice A0 n c0] 82))
  have hr:=heap_alloc_new w (.cells #[.int .u16 wd,.int .u16 ht,.int .u16 c,.int .u16 most,.slice A0 n c0] 82)
  have HR:=aj.mk hr
  clear hr hr0 hc hv hn
  go_enter Tryz.func33,Tryz.ntmps33
  go_upto_region 1 with fail
  obtain ⟨r,hrr⟩:∃ r,r=w.heap.size:=⟨_,rfl⟩
  have hr:=HR.out
  rw [← hrr] at hr ⊢
  generalize w.alloc (.cells #[.int .u16 wd,.int .u16 ht,.int .u16 c,.int .u16 most,.slice A0 n c0] 82)=w3 at hr BX ⊢
  have s0:w3.cell? ⟨r,0,none⟩=some (.int .u16 wd):=(au hr 0).trans rfl
  have s1:w3.cell? ⟨r,1,none⟩=some (.int .u16 ht):=(au hr 1).trans rfl
  have s2:w3.cell? ⟨r,2,none⟩=some (.int .u16 c):=(au hr 2).trans rfl
  have s3:w3.cell? ⟨r,3,none⟩=some (.int .u16 most):=(au hr 3).trans rfl
  have s4:w3.cell? ⟨r,4,none⟩=some (.slice A0 n c0):=(au hr 4).trans rfl
  have DR1:=aj.mk (DR.out _ BX.out)
  clear hr HR hrr
  go_wp2_with (go_at_call 72;refine DR1.out.mono ?_;rintro e w4 ⟨g,rfl,hi,hb4⟩;have B4:=aj.mk (ak BX.out hb4);have HI:=aj.mk hi.reads;clear hi hb4)
  go_ret
  exact ⟨g,rfl,HI.out,B4.out⟩
end Go.Proofs.YtpondkggmcmpfaaGreatDoor.QA
