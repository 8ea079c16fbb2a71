/- Joined by wip/tools/bundle.py out of: QAx19. -/
import Derived.Test.YtpondkggmcmpfaaGreatDoorBOpAll0
import Derived.Test.YtpondkggmcmpfaaGreatDoorBOpAll1
import Derived.Test.YtpondkggmcmpfaaGreatDoorBOpAll8
import Derived.Test.YtpondkggmcmpfaaGreatDoorBOpAll7
namespace Go.Proofs.YtpondkggmcmpfaaGreatDoor.QA
open Go.Proofs.YtpondkggmcmpfaaGreatDoor.T
open Go.RowKit Go.Proofs.YtpondkggmcmpfaaGreatDoorW.PrintWords Go.Proofs.YtpondkggmcmpfaaGreatDoorW.PrintLast Go.Proofs.YtpondkggmcmpfaaGreatDoorW.PrintMore
attribute [local go_sem] dZ dS dU fK fM
set_option linter.unusedVariables false
set_option linter.unusedSimpArgs false
def bG.l0:Nat→List Int→List Int→Int→Int→Option (Bool)
 | 0,_,_,_,_=>none
 | k+1,x0,x1,x12,x13=>if x13 < x12 then (if 0≤x13 then (if x13 < (x0.length:Int) then (if x13 < (x1.length:Int) then (if (rd x0 x13)=(rd x1 x13) then (bG.l0 k x0 x1 x12 (wrap64 (x13+1))) else (some false)) else (none)) else (none)) else (none)) else (some true)
def bG.f (k:Nat) (l0 l1:List Int):Option (Bool):=if (l0.length:Int)=(l1.length:Int) then (bG.l0 k l0 l1 (l0.length:Int) 0) else (some false)
theorem bG.iU:∀ k,(∀ y0 y1 y2 y3,LeO (bG.l0 k y0 y1 y2 y3) (bG.l0 (k+1) y0 y1 y2 y3))
 | 0=>fun _ _ _ _ r h=>by simp [bG.l0] at h
 | k+1=>by
  have ih0:=bG.iU k
  ·intro y0 y1 y2 y3
   unfold bG.l0
   repeat' (with_reducible first|exact ih0 _ _ _ _|exact zM|refine LeO.ite ?_ ?_|refine LeO.bind ?_ (fun _ => ?_))
theorem bG.mono:∀ a0 a1 k,LeO (bG.f k a0 a1) (bG.f (k+1) a0 a1):=by
 intro a0 a1 k
 have ih0:=bG.iU k
 unfold bG.f
 repeat' (with_reducible first|exact ih0 _ _ _ _|exact zM|refine LeO.ite ?_ ?_|refine LeO.bind ?_ (fun _ => ?_))
set_option maxHeartbeats 8000000 in
set_option maxRecDepth 100000 in
theorem bG.calls (k:Nat) (A0:Option Addr) (c0:Nat) (l0:List Int) (A1:Option Addr) (c1:Nat) (l1:List Int) (r:Bool) (w:World) (hr0:Kd.C (Kd.int .i64) w A0 l0.length l0) (hc0:l0.length≤c0) (hr1:Kd.C (Kd.int .i64) w A1 l1.length l1) (hc1:l1.length≤c1) (h:bG.f k l0 l1=some r) :
  Calls Tryz.prog 91 #[.slice A0 l0.length c0,.slice A1 l1.length c1] w fun e w'=>e = .returned (.bool r)∧dw w w':=by
 have HR0:=aj.mk hr0
 have HC0:=aj.mk hc0
 clear hr0 hc0
 have HR1:=aj.mk hr1
 have HC1:=aj.mk hc1
 clear hr1 hc1
 have H:=h
 clear h
 unfold bG.f at H
 by_cases c3:(l0.length:Int)=(l1.length:Int)
 ·rw [if_pos c3] at H
  have fP:((l0.length:Int) == (l1.length:Int))=true:=beq_iff_eq.mpr c3
  have xM:((l0.length:Int) != (l1.length:Int))=false:=bne_eq_false_iff_eq.mpr c3
  have awv:(l0.length == l1.length)=true:=by first|simpa using c3|(simp at c3 ⊢;omega)
  clear c3
  have H':=aj.mk H
  clear H
  go_enter Tryz.func91,Tryz.ntmps91
  go_wp2
  repeat (go_quiet (fail);try go_wp2)
  go_loopg [13] k (fun kq v13 w'=>∃ (kQ:Int),v13 = .int .i64 kQ∧aj (bG.l0 kq l0 l1 (l0.length:Int) kQ=some r)∧aj (kq≤k)∧dw w w')
  case atStart=>exact ⟨(0),zT,H',⟨Nat.le_refl _⟩,zW⟩
  case round =>
   clear H'
   obtain ⟨kQ,rfl,HA,HK1,⟨m1,rfl⟩⟩:=hrel
   cases gk with
   | zero=>exact absurd HA.out (by simp [bG.l0])
   | succ k1 =>
    have H:=HA.out
    clear HA
    simp only [bG.l0] at H
    by_cases c4:kQ < (l0.length:Int)
    ·rw [if_pos c4] at H
     have fE:=decide_eq_true c4
     clear c4
     by_cases c5:0≤kQ
     ·rw [if_pos c5] at H
      have iw:=decide_eq_true c5
      clear c5
      by_cases c6:kQ < (l0.length:Int)
      ·rw [if_pos c6] at H
       have gQ:=decide_eq_true c6
       clear c6
       by_cases c7:kQ < (l1.length:Int)
       ·rw [if_pos c7] at H
        have jc:=decide_eq_true c7
        clear c7
        by_cases c8:(rd l0 kQ)=(rd l1 kQ)
        ·rw [if_pos c8] at H
         have uy:((rd l0 kQ) == (rd l1 kQ))=true:=beq_iff_eq.mpr c8
         have abd:((rd l0 kQ) != (rd l1 kQ))=false:=bne_eq_false_iff_eq.mpr c8
         clear c8
         have H':=aj.mk H
         clear H
         have afY:0≤(kQ:Int):=of_decide_eq_true (by first|(with_reducible assumption)|assumption)
         have afZ:kQ < (l0.length:Int):=of_decide_eq_true (by first|(with_reducible assumption)|assumption)
         obtain ⟨avp,e238,arL⟩:=Kd.jF HR0.out kQ afY afZ
         cases e238
         replace afY:=eq_true afY
         replace afZ:=eq_true afZ
         have af0:0≤(kQ:Int):=of_decide_eq_true (by first|(with_reducible assumption)|assumption)
         have af2:kQ < (l1.length:Int):=of_decide_eq_true (by first|(with_reducible assumption)|assumption)
         obtain ⟨avq,ap7,arM⟩:=Kd.jF HR1.out kQ af0 af2
         cases ap7
         replace af0:=eq_true af0
         replace af2:=eq_true af2
         go_wp2
         repeat (go_quiet (fail);try go_wp2)
         go_roundg k1
         case measure=>have:=HK1.out;omega
         case rel=>exact ⟨(wrap64 (kQ+1)),zT,H',⟨by have:=HK1.out;omega⟩,zW⟩
        ·rw [if_neg c8] at H
         have uy:((rd l0 kQ) == (rd l1 kQ))=false:=beq_eq_false_iff_ne.mpr c8
         have abd:((rd l0 kQ) != (rd l1 kQ))=true:=bne_iff_ne.mpr c8
         obtain rfl:=Option.some.inj H
         have afY:0≤(kQ:Int):=of_decide_eq_true (by first|(with_reducible assumption)|assumption)
         have afZ:kQ < (l0.length:Int):=of_decide_eq_true (by first|(with_reducible assumption)|assumption)
         obtain ⟨avp,e238,arL⟩:=Kd.jF HR0.out kQ afY afZ
         cases e238
         replace afY:=eq_true afY
         replace afZ:=eq_true afZ
         have af0:0≤(kQ:Int):=of_decide_eq_true (by first|(with_reducible assumption)|assumption)
         have af2:kQ < (l1.length:Int):=of_decide_eq_true (by first|(with_reducible assumption)|assumption)
         obtain ⟨avq,ap7,arM⟩:=Kd.jF HR1.out kQ af0 af2
         cases ap7
         replace af0:=eq_true af0
         replace af2:=eq_true af2
         go_wp2
         repeat (go_quiet (fail);try go_wp2)
         go_ret
         exact ⟨zT,zW⟩
       ·rw [if_neg c7] at H
        exact absurd H (by simp)
      ·rw [if_neg c6] at H
       exact absurd H (by simp)
     ·rw [if_neg c5] at H
      exact absurd H (by simp)
    ·rw [if_neg c4] at H
     have fE:=decide_eq_false c4
     clear c4
     obtain rfl:=Option.some.inj H
     go_wp2
     repeat (go_quiet (fail);try go_wp2)
     go_ret
     exact ⟨zT,zW⟩
 ·rw [if_neg c3] at H
  have fP:((l0.length:Int) == (l1.length:Int))=false:=beq_eq_false_iff_ne.mpr c3
  have xM:((l0.length:Int) != (l1.length:Int))=true:=bne_iff_ne.mpr c3
  have awv:(l0.length == l1.length)=false:=by first|simpa using c3|(simp at c3 ⊢;omega)
  obtain rfl:=Option.some.inj H
  go_enter Tryz.func91,Tryz.ntmps91
  go_wp2
  repeat (go_quiet (fail);try go_wp2)
  go_ret
  exact ⟨zT,zW⟩
def jv.f (k:Nat):Option (Bool):=(iM.f (([536870912,536870912,536870912]:List Int))).bind fun ab5=>((bn.f k 65536).bind fun ab6=>(if ab5.2=0 then ((bG.f k ab5.1 (([5462,5461,5461]:List Int))).bind fun adi=>(if adi=true then (if ab6.2=0 then (some ((ab6.1.length:Int) == 7)) else (some false)) else (some false))) else (some false)))
theorem jv.mono:∀ k,LeO (jv.f k ) (jv.f (k+1) ):=by
 intro k
 unfold jv.f
 repeat' (with_reducible first|exact bG.mono _ _ _|exact bn.mono _ _|exact zM|refine LeO.ite ?_ ?_|refine LeO.bind ?_ (fun _ => ?_))
set_option maxHeartbeats 8000000 in
set_option maxRecDepth 100000 in
theorem jv.calls (k:Nat) (r:Bool) (w:World) (h:jv.f k=some r) :
  Calls Tryz.prog 89 #[] w fun e w'=>e = .returned (.bool r)∧Below w.heap.size w w':=by
 have HB:=aj.mk (Below.refl w.heap.size w)
 have H:((iM.f (([536870912,536870912,536870912]:List Int))).bind fun ab5=>((bn.f k 65536).bind fun ab6=>(if ab5.2=0 then ((bG.f k ab5.1 (([5462,5461,5461]:List Int))).bind fun adi=>(if adi=true then (if ab6.2=0 then (some ((ab6.1.length:Int) == 7)) else (some false)) else (some false))) else (some false))))=some r:=h
 clear h
 obtain ⟨adk,ag9⟩:∃ y_:List Int,y_=(([536870912,536870912,536870912]:List Int)):=⟨_,rfl⟩
 replace H:((iM.f adk).bind fun ab5=>((bn.f k 65536).bind fun ab6=>(if ab5.2=0 then ((bG.f k ab5.1 (([5462,5461,5461]:List Int))).bind fun adi=>(if adi=true then (if ab6.2=0 then (some ((ab6.1.length:Int) == 7)) else (some false)) else (some false))) else (some false))))=some r:=by first|(rw [ag9];with_reducible exact H)|(have H2_:=(Option.bind_some _ _).symm.trans H;rw [ag9];with_reducible exact H2_)|(have H2_:=(Option.bind_some _ _).symm.trans H;with_reducible exact H2_)|with_reducible exact H|(rw [ag9];exact H)|exact H
 have ab7:=aj.mk ag9
 clear ag9
 replace H:=zO H
 obtain ⟨⟨aez,adl⟩,A1,H⟩:=H
 try dsimp only at H
 replace H:=zO H
 obtain ⟨⟨akN,acp⟩,A2,H⟩:=H
 try dsimp only at H
 by_cases c3:adl=0
 ·rw [if_pos c3] at H
  have fP:(adl == 0)=true:=beq_iff_eq.mpr c3
  have xM:(adl != 0)=false:=bne_eq_false_iff_eq.mpr c3
  clear c3
  obtain ⟨ani,aha⟩:∃ y_:List Int,y_=(([5462,5461,5461]:List Int)):=⟨_,rfl⟩
  replace H:((bG.f k aez ani).bind fun adi=>(if adi=true then (if acp=0 then (some ((akN.length:Int) == 7)) else (some false)) else (some false)))=some r:=by first|(rw [aha];with_reducible exact H)|(have H2_:=(Option.bind_some _ _).symm.trans H;rw [aha];with_reducible exact H2_)|(have H2_:=(Option.bind_some _ _).symm.trans H;with_reducible exact H2_)|with_reducible exact H|(rw [aha];exact H)|exact H
  have ae0:=aj.mk aha
  clear aha
  replace H:=zO H
  obtain ⟨adi,A4,H⟩:=H
  try dsimp only at H
  by_cases c5:adi=true
  ·subst c5
   rw [if_pos rfl] at H;try dsimp only at H
   by_cases c6:acp=0
   ·rw [if_pos c6] at H
    have gQ:(acp == 0)=true:=beq_iff_eq.mpr c6
    have uw:(acp != 0)=false:=bne_eq_false_iff_eq.mpr c6
    clear c6
    obtain rfl:=Option.some.inj H
    go_enter Tryz.func89,Tryz.ntmps89
    go_wp2_with (first|((with_reducible refine bD (N:=6) rfl ?_);(try (refine kK (by rfl) ?_;dsimp only));refine Kd.abE (Kd.int .i64) _ 2 ?hg (N:=6) ?hd (xs:=([536870912,536870912,536870912]:List Int)) (inner:=[.int .i64 536870912,.int .i64 536870912,.int .i64 536870912]) (ok:=fun _=>True) (okp:=fun _=>True) ?hr ?hp (fun _ hk=>hk) trivial (Below.refl _ _) (Nat.le_refl _) (by simp) ?_;(case hd=>rfl);(case hg=>rfl);(case hr=>first|(go_simp;done)|(go_simp;rfl));(case hp=>exact (jk.one (show Kd.M (Kd.int .i64) _ _ _ 536870912 [.int .i64 536870912] from rfl) (jk.one (show Kd.M (Kd.int .i64) _ _ _ 536870912 [.int .i64 536870912] from rfl) (jk.one (show Kd.M (Kd.int .i64) _ _ _ 536870912 [.int .i64 536870912] from rfl) (jk.none _ _)))));intro ap8 w7 ho8 hb hg_ uN;clear hg_ uN;(first|rw [← ab7.out] at ho8|(simp only [Int.reduceToNat] at ho8;rw [← ab7.out] at ho8));obtain ⟨iD,HB⟩:=zA2 (Kd.fQ ho8 (bJ zB)) (ak zB hb);clear hb ho8;obtain ⟨Ao9,co9,eo9⟩:=Kd.fU iD.out;subst eo9)|((with_reducible refine ay (f:=109) rfl ?_);refine aH (some 7) rfl rfl Tryz.func109 (by kernel_rfl) rfl #[.slice Ao9 adk.length co9] rfl zL ?_;(with_reducible refine (iM.calls _ _ adk aez adl _ ?iI ?iJ A1.out).mono ?_);(case iI=>repeat (first|exact (Kd.dH iD.out).2.2|(with_reducible refine Kd.jh ?_ _)|(with_reducible refine Kd.jE ?_ _)|(with_reducible refine Kd.kN ?_)));(case iJ=>exact (Kd.dH iD.out).2.1);rintro e w10 ⟨ap9,rfl,ho0,hb⟩;refine ⟨_,rfl,?_⟩;obtain ⟨iD,jW,HB⟩:=zA3 (Kd.iE (by (with_reducible repeat (first|apply Kd.aJ|apply Kd.aK|apply Kd.aU));exact iD.out) (Kd.jf ho0) hb) (Kd.fQ (Kd.jO ho0 (Kd.lD (by (with_reducible repeat (first|apply Kd.aJ|apply Kd.aK|apply Kd.aU));exact iD.out))) (bJ zB)) (ak zB hb);(try clear hb);(try clear ho0))|((with_reducible refine ay (f:=110) rfl ?_);refine aH (some 11) rfl rfl Tryz.func110 (by kernel_rfl) rfl #[.int .i64 65536] rfl zL ?_;(with_reducible refine (bn.calls k 65536 akN acp _ A2.out).mono ?_);rintro e w11 ⟨aqa,rfl,ho0,hb⟩;refine ⟨_,rfl,?_⟩;obtain ⟨iD,jW,wQ,HB⟩:=zA4 (Kd.iE (by (with_reducible repeat (first|apply Kd.aJ|apply Kd.aK|apply Kd.aU));exact iD.out) (Kd.jf ho0) hb) (Kd.iE (by (with_reducible repeat (first|apply Kd.aJ|apply Kd.aK|apply Kd.aU));exact jW.out) (Kd.jf ho0) hb) (Kd.fQ (Kd.jO (Kd.jO ho0 (Kd.lD (by (with_reducible repeat (first|apply Kd.aJ|apply Kd.aK|apply Kd.aU));exact iD.out))) (Kd.lD (by (with_reducible repeat (first|apply Kd.aJ|apply Kd.aK|apply Kd.aU));exact jW.out))) (bJ zB)) (ak zB hb);(try clear hb);(try clear ho0))|((with_reducible refine bD (N:=18) rfl ?_);(try (refine kK (by rfl) ?_;dsimp only));refine Kd.abE (Kd.int .i64) _ 2 ?hg (N:=18) ?hd (xs:=([5462,5461,5461]:List Int)) (inner:=[.int .i64 5462,.int .i64 5461,.int .i64 5461]) (ok:=fun _=>True) (okp:=fun _=>True) ?hr ?hp (fun _ hk=>hk) trivial (Below.refl _ _) (Nat.le_refl _) (by simp) ?_;(case hd=>rfl);(case hg=>rfl);(case hr=>first|(go_simp;done)|(go_simp;rfl));(case hp=>exact (jk.one (show Kd.M (Kd.int .i64) _ _ _ 5462 [.int .i64 5462] from rfl) (jk.one (show Kd.M (Kd.int .i64) _ _ _ 5461 [.int .i64 5461] from rfl) (jk.one (show Kd.M (Kd.int .i64) _ _ _ 5461 [.int .i64 5461] from rfl) (jk.none _ _)))));intro atb w12 aeA hb hg_ uN;clear hg_ uN;(first|rw [← ae0.out] at aeA|(simp only [Int.reduceToNat] at aeA;rw [← ae0.out] at aeA));obtain ⟨iD,jW,wQ,zi,HB⟩:=zA5 (Kd.iE (by (with_reducible repeat (first|apply Kd.aJ|apply Kd.aK|apply Kd.aU));exact iD.out) (Kd.jf aeA) hb) (Kd.iE (by (with_reducible repeat (first|apply Kd.aJ|apply Kd.aK|apply Kd.aU));exact jW.out) (Kd.jf aeA) hb) (Kd.iE (by (with_reducible repeat (first|apply Kd.aJ|apply Kd.aK|apply Kd.aU));exact wQ.out) (Kd.jf aeA) hb) (Kd.fQ (Kd.jO (Kd.jO (Kd.jO aeA (Kd.lD (by (with_reducible repeat (first|apply Kd.aJ|apply Kd.aK|apply Kd.aU));exact iD.out))) (Kd.lD (by (with_reducible repeat (first|apply Kd.aJ|apply Kd.aK|apply Kd.aU));exact jW.out))) (Kd.lD (by (with_reducible repeat (first|apply Kd.aJ|apply Kd.aK|apply Kd.aU));exact wQ.out))) (bJ zB)) (ak zB hb);clear hb aeA;obtain ⟨aBp,aBq,aww⟩:=Kd.fU jW.out;subst aww;obtain ⟨aBr,aBs,awx⟩:=Kd.fU zi.out;subst awx)|(go_at_call 91;(with_reducible refine (bG.calls k _ _ aez _ _ ani true _ ?iI ?iJ ?ahb ?ahc A4.out).mono ?_);(case iI=>repeat (first|exact (Kd.dH jW.out).2.2|(with_reducible refine Kd.jh ?_ _)|(with_reducible refine Kd.jE ?_ _)|(with_reducible refine Kd.kN ?_)));(case iJ=>exact (Kd.dH jW.out).2.1);(case ahb=>repeat (first|exact (Kd.dH zi.out).2.2|(with_reducible refine Kd.jh ?_ _)|(with_reducible refine Kd.jE ?_ _)|(with_reducible refine Kd.kN ?_)));(case ahc=>exact (Kd.dH zi.out).2.1);rintro e w' ⟨rfl,⟨nd,rfl⟩⟩;obtain ⟨awq,awr,ap6⟩:=Kd.fU wQ.out;subst ap6))
    go_ret
    exact ⟨zS,zB⟩
   ·rw [if_neg c6] at H
    have gQ:(acp == 0)=false:=beq_eq_false_iff_ne.mpr c6
    have uw:(acp != 0)=true:=bne_iff_ne.mpr c6
    obtain rfl:=Option.some.inj H
    go_enter Tryz.func89,Tryz.ntmps89
    go_wp2_with (first|((with_reducible refine bD (N:=6) rfl ?_);(try (refine kK (by rfl) ?_;dsimp only));refine Kd.abE (Kd.int .i64) _ 2 ?hg (N:=6) ?hd (xs:=([536870912,536870912,536870912]:List Int)) (inner:=[.int .i64 536870912,.int .i64 536870912,.int .i64 536870912]) (ok:=fun _=>True) (okp:=fun _=>True) ?hr ?hp (fun _ hk=>hk) trivial (Below.refl _ _) (Nat.le_refl _) (by simp) ?_;(case hd=>rfl);(case hg=>rfl);(case hr=>first|(go_simp;done)|(go_simp;rfl));(case hp=>exact (jk.one (show Kd.M (Kd.int .i64) _ _ _ 536870912 [.int .i64 536870912] from rfl) (jk.one (show Kd.M (Kd.int .i64) _ _ _ 536870912 [.int .i64 536870912] from rfl) (jk.one (show Kd.M (Kd.int .i64) _ _ _ 536870912 [.int .i64 536870912] from rfl) (jk.none _ _)))));intro ap8 w17 akO hb hg_ uN;clear hg_ uN;(first|rw [← ab7.out] at akO|(simp only [Int.reduceToNat] at akO;rw [← ab7.out] at akO));obtain ⟨iD,HB⟩:=zA2 (Kd.fQ akO (bJ zB)) (ak zB hb);clear hb akO;obtain ⟨akb,akc,akd⟩:=Kd.fU iD.out;subst akd)|((with_reducible refine ay (f:=109) rfl ?_);refine aH (some 7) rfl rfl Tryz.func109 (by kernel_rfl) rfl #[.slice akb adk.length akc] rfl zL ?_;(with_reducible refine (iM.calls _ _ adk aez adl _ ?iI ?iJ A1.out).mono ?_);(case iI=>repeat (first|exact (Kd.dH iD.out).2.2|(with_reducible refine Kd.jh ?_ _)|(with_reducible refine Kd.jE ?_ _)|(with_reducible refine Kd.kN ?_)));(case iJ=>exact (Kd.dH iD.out).2.1);rintro e w20 ⟨ap9,rfl,ho0,hb⟩;refine ⟨_,rfl,?_⟩;obtain ⟨iD,jW,HB⟩:=zA3 (Kd.iE (by (with_reducible repeat (first|apply Kd.aJ|apply Kd.aK|apply Kd.aU));exact iD.out) (Kd.jf ho0) hb) (Kd.fQ (Kd.jO ho0 (Kd.lD (by (with_reducible repeat (first|apply Kd.aJ|apply Kd.aK|apply Kd.aU));exact iD.out))) (bJ zB)) (ak zB hb);(try clear hb);(try clear ho0))|((with_reducible refine ay (f:=110) rfl ?_);refine aH (some 11) rfl rfl Tryz.func110 (by kernel_rfl) rfl #[.int .i64 65536] rfl zL ?_;(with_reducible refine (bn.calls k 65536 akN acp _ A2.out).mono ?_);rintro e w21 ⟨aqa,rfl,ho0,hb⟩;refine ⟨_,rfl,?_⟩;obtain ⟨iD,jW,wQ,HB⟩:=zA4 (Kd.iE (by (with_reducible repeat (first|apply Kd.aJ|apply Kd.aK|apply Kd.aU));exact iD.out) (Kd.jf ho0) hb) (Kd.iE (by (with_reducible repeat (first|apply Kd.aJ|apply Kd.aK|apply Kd.aU));exact jW.out) (Kd.jf ho0) hb) (Kd.fQ (Kd.jO (Kd.jO ho0 (Kd.lD (by (with_reducible repeat (first|apply Kd.aJ|apply Kd.aK|apply Kd.aU));exact iD.out))) (Kd.lD (by (with_reducible repeat (first|apply Kd.aJ|apply Kd.aK|apply Kd.aU));exact jW.out))) (bJ zB)) (ak zB hb);(try clear hb);(try clear ho0))|((with_reducible refine bD (N:=18) rfl ?_);(try (refine kK (by rfl) ?_;dsimp only));refine Kd.abE (Kd.int .i64) _ 2 ?hg (N:=18) ?hd (xs:=([5462,5461,5461]:List Int)) (inner:=[.int .i64 5462,.int .i64 5461,.int .i64 5461]) (ok:=fun _=>True) (okp:=fun _=>True) ?hr ?hp (fun _ hk=>hk) trivial (Below.refl _ _) (Nat.le_refl _) (by simp) ?_;(case hd=>rfl);(case hg=>rfl);(case hr=>first|(go_simp;done)|(go_simp;rfl));(case hp=>exact (jk.one (show Kd.M (Kd.int .i64) _ _ _ 5462 [.int .i64 5462] from rfl) (jk.one (show Kd.M (Kd.int .i64) _ _ _ 5461 [.int .i64 5461] from rfl) (jk.one (show Kd.M (Kd.int .i64) _ _ _ 5461 [.int .i64 5461] from rfl) (jk.none _ _)))));intro atb w22 aeB hb hg_ uN;clear hg_ uN;(first|rw [← ae0.out] at aeB|(simp only [Int.reduceToNat] at aeB;rw [← ae0.out] at aeB));obtain ⟨iD,jW,wQ,zi,HB⟩:=zA5 (Kd.iE (by (with_reducible repeat (first|apply Kd.aJ|apply Kd.aK|apply Kd.aU));exact iD.out) (Kd.jf aeB) hb) (Kd.iE (by (with_reducible repeat (first|apply Kd.aJ|apply Kd.aK|apply Kd.aU));exact jW.out) (Kd.jf aeB) hb) (Kd.iE (by (with_reducible repeat (first|apply Kd.aJ|apply Kd.aK|apply Kd.aU));exact wQ.out) (Kd.jf aeB) hb) (Kd.fQ (Kd.jO (Kd.jO (Kd.jO aeB (Kd.lD (by (with_reducible repeat (first|apply Kd.aJ|apply Kd.aK|apply Kd.aU));exact iD.out))) (Kd.lD (by (with_reducible repeat (first|apply Kd.aJ|apply Kd.aK|apply Kd.aU));exact jW.out))) (Kd.lD (by (with_reducible repeat (first|apply Kd.aJ|apply Kd.aK|apply Kd.aU));exact wQ.out))) (bJ zB)) (ak zB hb);clear hb aeB;obtain ⟨aBt,aBu,awy⟩:=Kd.fU jW.out;subst awy;obtain ⟨aBv,aBw,awz⟩:=Kd.fU zi.out;subst awz)|(go_at_call 91;(with_reducible refine (bG.calls k _ _ aez _ _ ani true _ ?iI ?iJ ?ahb ?ahc A4.out).mono ?_);(case iI=>repeat (first|exact (Kd.dH jW.out).2.2|(with_reducible refine Kd.jh ?_ _)|(with_reducible refine Kd.jE ?_ _)|(with_reducible refine Kd.kN ?_)));(case iJ=>exact (Kd.dH jW.out).2.1);(case ahb=>repeat (first|exact (Kd.dH zi.out).2.2|(with_reducible refine Kd.jh ?_ _)|(with_reducible refine Kd.jE ?_ _)|(with_reducible refine Kd.kN ?_)));(case ahc=>exact (Kd.dH zi.out).2.1);rintro e w' ⟨rfl,⟨nd,rfl⟩⟩))
    go_ret
    exact ⟨zS,zB⟩
  ·replace c5:=Bool.eq_false_iff.mpr c5
   subst c5
   rw [if_neg (show ¬ (false=true) by decide)] at H;try dsimp only at H
   obtain rfl:=Option.some.inj H
   go_enter Tryz.func89,Tryz.ntmps89
   go_wp2_with (first|((with_reducible refine bD (N:=6) rfl ?_);(try (refine kK (by rfl) ?_;dsimp only));refine Kd.abE (Kd.int .i64) _ 2 ?hg (N:=6) ?hd (xs:=([536870912,536870912,536870912]:List Int)) (inner:=[.int .i64 536870912,.int .i64 536870912,.int .i64 536870912]) (ok:=fun _=>True) (okp:=fun _=>True) ?hr ?hp (fun _ hk=>hk) trivial (Below.refl _ _) (Nat.le_refl _) (by simp) ?_;(case hd=>rfl);(case hg=>rfl);(case hr=>first|(go_simp;done)|(go_simp;rfl));(case hp=>exact (jk.one (show Kd.M (Kd.int .i64) _ _ _ 536870912 [.int .i64 536870912] from rfl) (jk.one (show Kd.M (Kd.int .i64) _ _ _ 536870912 [.int .i64 536870912] from rfl) (jk.one (show Kd.M (Kd.int .i64) _ _ _ 536870912 [.int .i64 536870912] from rfl) (jk.none _ _)))));intro ap8 w26 akP hb hg_ uN;clear hg_ uN;(first|rw [← ab7.out] at akP|(simp only [Int.reduceToNat] at akP;rw [← ab7.out] at akP));obtain ⟨iD,HB⟩:=zA2 (Kd.fQ akP (bJ zB)) (ak zB hb);clear hb akP;obtain ⟨awC,awD,awE⟩:=Kd.fU iD.out;subst awE)|((with_reducible refine ay (f:=109) rfl ?_);refine aH (some 7) rfl rfl Tryz.func109 (by kernel_rfl) rfl #[.slice awC adk.length awD] rfl zL ?_;(with_reducible refine (iM.calls _ _ adk aez adl _ ?iI ?iJ A1.out).mono ?_);(case iI=>repeat (first|exact (Kd.dH iD.out).2.2|(with_reducible refine Kd.jh ?_ _)|(with_reducible refine Kd.jE ?_ _)|(with_reducible refine Kd.kN ?_)));(case iJ=>exact (Kd.dH iD.out).2.1);rintro e w29 ⟨ap9,rfl,ho0,hb⟩;refine ⟨_,rfl,?_⟩;obtain ⟨iD,jW,HB⟩:=zA3 (Kd.iE (by (with_reducible repeat (first|apply Kd.aJ|apply Kd.aK|apply Kd.aU));exact iD.out) (Kd.jf ho0) hb) (Kd.fQ (Kd.jO ho0 (Kd.lD (by (with_reducible repeat (first|apply Kd.aJ|apply Kd.aK|apply Kd.aU));exact iD.out))) (bJ zB)) (ak zB hb);(try clear hb);(try clear ho0))|((with_reducible refine ay (f:=110) rfl ?_);refine aH (some 11) rfl rfl Tryz.func110 (by kernel_rfl) rfl #[.int .i64 65536] rfl zL ?_;(with_reducible refine (bn.calls k 65536 akN acp _ A2.out).mono ?_);rintro e w30 ⟨aqa,rfl,ho0,hb⟩;refine ⟨_,rfl,?_⟩;obtain ⟨iD,jW,wQ,HB⟩:=zA4 (Kd.iE (by (with_reducible repeat (first|apply Kd.aJ|apply Kd.aK|apply Kd.aU));exact iD.out) (Kd.jf ho0) hb) (Kd.iE (by (with_reducible repeat (first|apply Kd.aJ|apply Kd.aK|apply Kd.aU));exact jW.out) (Kd.jf ho0) hb) (Kd.fQ (Kd.jO (Kd.jO ho0 (Kd.lD (by (with_reducible repeat (first|apply Kd.aJ|apply Kd.aK|apply Kd.aU));exact iD.out))) (Kd.lD (by (with_reducible repeat (first|apply Kd.aJ|apply Kd.aK|apply Kd.aU));exact jW.out))) (bJ zB)) (ak zB hb);(try clear hb);(try clear ho0))|((with_reducible refine bD (N:=18) rfl ?_);(try (refine kK (by rfl) ?_;dsimp only));refine Kd.abE (Kd.int .i64) _ 2 ?hg (N:=18) ?hd (xs:=([5462,5461,5461]:List Int)) (inner:=[.int .i64 5462,.int .i64 5461,.int .i64 5461]) (ok:=fun _=>True) (okp:=fun _=>True) ?hr ?hp (fun _ hk=>hk) trivial (Below.refl _ _) (Nat.le_refl _) (by simp) ?_;(case hd=>rfl);(case hg=>rfl);(case hr=>first|(go_simp;done)|(go_simp;rfl));(case hp=>exact (jk.one (show Kd.M (Kd.int .i64) _ _ _ 5462 [.int .i64 5462] from rfl) (jk.one (show Kd.M (Kd.int .i64) _ _ _ 5461 [.int .i64 5461] from rfl) (jk.one (show Kd.M (Kd.int .i64) _ _ _ 5461 [.int .i64 5461] from rfl) (jk.none _ _)))));intro atb w31 aeC hb hg_ uN;clear hg_ uN;(first|rw [← ae0.out] at aeC|(simp only [Int.reduceToNat] at aeC;rw [← ae0.out] at aeC));obtain ⟨iD,jW,wQ,zi,HB⟩:=zA5 (Kd.iE (by (with_reducible repeat (first|apply Kd.aJ|apply Kd.aK|apply Kd.aU));exact iD.out) (Kd.jf aeC) hb) (Kd.iE (by (with_reducible repeat (first|apply Kd.aJ|apply Kd.aK|apply Kd.aU));exact jW.out) (Kd.jf aeC) hb) (Kd.iE (by (with_reducible repeat (first|apply Kd.aJ|apply Kd.aK|apply Kd.aU));exact wQ.out) (Kd.jf aeC) hb) (Kd.fQ (Kd.jO (Kd.jO (Kd.jO aeC (Kd.lD (by (with_reducible repeat (first|apply Kd.aJ|apply Kd.aK|apply Kd.aU));exact iD.out))) (Kd.lD (by (with_reducible repeat (first|apply Kd.aJ|apply Kd.aK|apply Kd.aU));exact jW.out))) (Kd.lD (by (with_reducible repeat (first|apply Kd.aJ|apply Kd.aK|apply Kd.aU));exact wQ.out))) (bJ zB)) (ak zB hb);clear hb aeC;obtain ⟨aBx,apk,ach⟩:=Kd.fU jW.out;subst ach;obtain ⟨avH,uH,apf⟩:=Kd.fU zi.out;subst apf)|(go_at_call 91;(with_reducible refine (bG.calls k _ _ aez _ _ ani false _ ?iI ?iJ ?ahb ?ahc A4.out).mono ?_);(case iI=>repeat (first|exact (Kd.dH jW.out).2.2|(with_reducible refine Kd.jh ?_ _)|(with_reducible refine Kd.jE ?_ _)|(with_reducible refine Kd.kN ?_)));(case iJ=>exact (Kd.dH jW.out).2.1);(case ahb=>repeat (first|exact (Kd.dH zi.out).2.2|(with_reducible refine Kd.jh ?_ _)|(with_reducible refine Kd.jE ?_ _)|(with_reducible refine Kd.kN ?_)));(case ahc=>exact (Kd.dH zi.out).2.1);rintro e w' ⟨rfl,⟨nd,rfl⟩⟩))
   go_ret
   exact ⟨zS,zB⟩
 ·rw [if_neg c3] at H
  have fP:(adl == 0)=false:=beq_eq_false_iff_ne.mpr c3
  have xM:(adl != 0)=true:=bne_iff_ne.mpr c3
  obtain rfl:=Option.some.inj H
  go_enter Tryz.func89,Tryz.ntmps89
  go_wp2_with (first|((with_reducible refine bD (N:=6) rfl ?_);(try (refine kK (by rfl) ?_;dsimp only));refine Kd.abE (Kd.int .i64) _ 2 ?hg (N:=6) ?hd (xs:=([536870912,536870912,536870912]:List Int)) (inner:=[.int .i64 536870912,.int .i64 536870912,.int .i64 536870912]) (ok:=fun _=>True) (okp:=fun _=>True) ?hr ?hp (fun _ hk=>hk) trivial (Below.refl _ _) (Nat.le_refl _) (by simp) ?_;(case hd=>rfl);(case hg=>rfl);(case hr=>first|(go_simp;done)|(go_simp;rfl));(case hp=>exact (jk.one (show Kd.M (Kd.int .i64) _ _ _ 536870912 [.int .i64 536870912] from rfl) (jk.one (show Kd.M (Kd.int .i64) _ _ _ 536870912 [.int .i64 536870912] from rfl) (jk.one (show Kd.M (Kd.int .i64) _ _ _ 536870912 [.int .i64 536870912] from rfl) (jk.none _ _)))));intro ap8 w35 akQ hb hg_ uN;clear hg_ uN;(first|rw [← ab7.out] at akQ|(simp only [Int.reduceToNat] at akQ;rw [← ab7.out] at akQ));obtain ⟨iD,HB⟩:=zA2 (Kd.fQ akQ (bJ zB)) (ak zB hb);clear hb akQ;obtain ⟨awF,awG,awH⟩:=Kd.fU iD.out;subst awH)|((with_reducible refine ay (f:=109) rfl ?_);refine aH (some 7) rfl rfl Tryz.func109 (by kernel_rfl) rfl #[.slice awF adk.length awG] rfl zL ?_;(with_reducible refine (iM.calls _ _ adk aez adl _ ?iI ?iJ A1.out).mono ?_);(case iI=>repeat (first|exact (Kd.dH iD.out).2.2|(with_reducible refine Kd.jh ?_ _)|(with_reducible refine Kd.jE ?_ _)|(with_reducible refine Kd.kN ?_)));(case iJ=>exact (Kd.dH iD.out).2.1);rintro e w38 ⟨ap9,rfl,ho0,hb⟩;refine ⟨_,rfl,?_⟩;obtain ⟨iD,jW,HB⟩:=zA3 (Kd.iE (by (with_reducible repeat (first|apply Kd.aJ|apply Kd.aK|apply Kd.aU));exact iD.out) (Kd.jf ho0) hb) (Kd.fQ (Kd.jO ho0 (Kd.lD (by (with_reducible repeat (first|apply Kd.aJ|apply Kd.aK|apply Kd.aU));exact iD.out))) (bJ zB)) (ak zB hb);(try clear hb);(try clear ho0))|((with_reducible refine ay (f:=110) rfl ?_);refine aH (some 11) rfl rfl Tryz.func110 (by kernel_rfl) rfl #[.int .i64 65536] rfl zL ?_;(with_reducible refine (bn.calls k 65536 akN acp _ A2.out).mono ?_);rintro e w39 ⟨aqa,rfl,ho0,hb⟩;refine ⟨_,rfl,?_⟩;obtain ⟨iD,jW,wQ,HB⟩:=zA4 (Kd.iE (by (with_reducible repeat (first|apply Kd.aJ|apply Kd.aK|apply Kd.aU));exact iD.out) (Kd.jf ho0) hb) (Kd.iE (by (with_reducible repeat (first|apply Kd.aJ|apply Kd.aK|apply Kd.aU));exact jW.out) (Kd.jf ho0) hb) (Kd.fQ (Kd.jO (Kd.jO ho0 (Kd.lD (by (with_reducible repeat (first|apply Kd.aJ|apply Kd.aK|apply Kd.aU));exact iD.out))) (Kd.lD (by (with_reducible repeat (first|apply Kd.aJ|apply Kd.aK|apply Kd.aU));exact jW.out))) (bJ zB)) (ak zB hb);(try clear hb);(try clear ho0)))
  go_ret
  exact ⟨zS,zB⟩
end Go.Proofs.YtpondkggmcmpfaaGreatDoor.QA
