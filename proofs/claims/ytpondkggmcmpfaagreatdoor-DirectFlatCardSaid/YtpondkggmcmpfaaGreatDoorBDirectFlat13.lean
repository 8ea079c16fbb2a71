/- Joined by wip/tools/bundle.py out of: QAx28 QAx29 QAx30 QAx31 QAx32 QAx33 QAx34. -/
import Derived.Test.YtpondkggmcmpfaaGreatDoorBDirectFlat12
set_option maxHeartbeats 8000000
set_option maxRecDepth 100000
namespace Go.Proofs.YtpondkggmcmpfaaGreatDoor.QA
open Go.Proofs.YtpondkggmcmpfaaGreatDoor.T
open Go.RowKit Go.Proofs.YtpondkggmcmpfaaGreatDoorW.PrintWords Go.Proofs.YtpondkggmcmpfaaGreatDoorW.PrintLast Go.Proofs.YtpondkggmcmpfaaGreatDoorW.PrintMore
attribute [local go_sem] dV dN dO eP fA
set_option linter.unusedVariables false
set_option linter.unusedSimpArgs false
mutual
def aJ.l0:Nat->Int->Int->Int->Int->Int->Int->Option (Int)
 | 0,_,_,_,_,_,_=>none
 | k+1,x0,x1,x20,x21,rQ,rU=>if x21 < x20 then ((dM.f rQ rU 0).bind fun ati=>(aJ.l0 k x0 x1 x20 (wrap64 (x21+1)) ati.1 ati.2)) else ((dP.f x0).bind fun uI=>(aJ.l1 k x0 x1 127 rQ rU 0 uI 0 0))
def aJ.l1:Nat->Int->Int->Int->Int->Int->Int->Int->Int->Int->Option (Int)
 | 0,_,_,_,_,_,_,_,_,_=>none
 | k+1,x0,x1,x8,rQ,rU,uY,uZ,rV,rW=>if x8>=x1 then ((fK.f uY uZ x8).bind fun alv=>((dM.f rV rW alv).bind fun atj=>(aJ.l1 k x0 x1 (wrap64 (x8 - 1)) rQ rU uY uZ atj.1 atj.2))) else (aJ.l2 k x0 x1 rQ rU uY uZ rV rW uY uZ)
def aJ.l2:Nat->Int->Int->Int->Int->Int->Int->Int->Int->Int->Int->Option (Int)
 | 0,_,_,_,_,_,_,_,_,_,_=>none
 | k+1,x0,x10,rQ,rU,uY,uZ,rV,rW,aaK,aaL=>if x10 < 128 then ((fK.f uY uZ x10).bind fun adZ=>(if adZ=1 then (aJ.l3 k x0 x10 x10 0 rQ rU uY uZ rV rW aaK aaL 0 1) else (aJ.l2 k x0 (wrap64 (x10+1)) rQ rU uY uZ rV rW aaK aaL))) else ((iG.f aaK aaL rQ rU).bind fun aoj=>(if x0 < 0 then ((iG.f rQ rU aaK aaL).bind fun aok=>(aJ.j4 k x0 aok rV rW)) else (aJ.j4 k x0 (!aoj) rV rW)))
def aJ.l3:Nat->Int->Int->Int->Int->Int->Int->Int->Int->Int->Int->Int->Int->Int->Int->Option (Int)
 | 0,_,_,_,_,_,_,_,_,_,_,_,_,_,_=>none
 | k+1,x0,x10,x51,x52,rQ,rU,uY,uZ,rV,rW,aaK,aaL,ang,anh=>if x52 < x51 then ((dM.f ang anh 0).bind fun atl=>(aJ.l3 k x0 x10 x51 (wrap64 (x52+1)) rQ rU uY uZ rV rW aaK aaL atl.1 atl.2)) else ((kH.f aaK aaL ang anh).bind fun atm=>(aJ.l2 k x0 (wrap64 (x10+1)) rQ rU uY uZ rV rW atm.1 atm.2))
def aJ.j4:Nat->Int->Bool->Int->Int->Option (Int)
 | 0,_,_,_,_=>none
 | k+1,x0,x12,rV,rW=>if x12=true then ((gY.f rV rW 0 1).bind fun atn=>((bY.f k atn.1 atn.2 (decide (x0 < 0))).bind fun aqS=>(some aqS))) else ((bY.f k rV rW (decide (x0 < 0))).bind fun aqT=>(some aqT))
end
def aJ.f (k:Nat) (a0 a1:Int):Option (Int):=if a1 < 1 then (some a0) else (if a1 > 64 then (some 0) else (aJ.l0 k a0 a1 (wrap64 (a1 - 1)) 0 0 1))
theorem aJ.calls (k:Nat) (a0 a1 r:Int) (w:World) (h:aJ.f k a0 a1=some r) :
  Calls Tryz.prog 101 #[.int .i64 a0,.int .i64 a1] w fun e w'=>e = .returned (.int .i64 r)/\Below w.heap.size w w':=by
 have yJ:=Tryz.underlying179;have HB:=aj.mk (Below.refl w.heap.size w);have H:=h;clear h;unfold aJ.f at H;by_cases c3:a1 < 1
 ·rw [if_pos c3] at H;have gI:=decide_eq_true c3;clear c3;obtain rfl:=Option.some.inj H;go_enter Tryz.func101,Tryz.ntmps101;go_wp2;go_ret;exact ⟨zS,zB⟩
 ·rw [if_neg c3] at H;have gI:=decide_eq_false c3;clear c3;by_cases c4:a1 > 64
  ·rw [if_pos c4] at H;have fG:=decide_eq_true c4;clear c4;obtain rfl:=Option.some.inj H;go_enter Tryz.func101,Tryz.ntmps101;go_wp2;go_ret;exact ⟨zS,zB⟩
  ·rw [if_neg c4] at H;have fG:=decide_eq_false c4;clear c4;have H':=aj.mk H;clear H;go_enter Tryz.func101,Tryz.ntmps101;go_wp2_with (first|((with_reducible refine bG (N:=5) rfl ?_);refine bI zR (N:=5) zR (cs := #[.int .u64 0,.int .u64 0]) (t:=179) zG ?_;intro af6 hg w5 hbox hb;obtain ⟨HB,eF,aCf,aCg⟩:=zA4 (ak zB hb) hbox (zg hg zB) (zg hg zB);clear hb hbox hg;obtain ⟨_,_⟩:=zC2 eF.out;obtain ⟨_,_⟩:=zF2 eF.out));go_loopg [21] k (fun kq v21 w'=>∃ (wY:Int) (kF:Int) (jU:Int),v21 = .int .i64 wY/\aj (aJ.l0 kq a0 a1 (wrap64 (a1 - 1)) wY kF jU=some r)/\aj (kq<=k)/\aj (w'.heap[af6]? = some (.cells #[.int .u64 kF,.int .u64 jU] 179 (0,0)))/\aj (Below w.heap.size w w'))
   case atStart=>exact ⟨(0),(0),(1),zT,H',⟨Nat.le_refl _⟩,⟨by refine zD ?_;refine aY (cs := #[.int .u64 0,.int .u64 0]) ?_ 1 _ rfl;refine zD ?_;refine aY (cs := #[.int .u64 0,.int .u64 0]) ?_ 0 _ rfl;refine zD ?_;exact eF.out⟩,⟨zB⟩⟩
   case round =>
    clear H';obtain ⟨wY,kF,jU,rfl,HA,HK1,eF,HB⟩:=hrel;cases gk with
    | zero=>exact absurd HA.out (by simp [aJ.l0])
    | succ k1 =>
     have H:=HA.out;clear HA;simp only [aJ.l0] at H;by_cases c7:wY < (wrap64 (a1 - 1))
     ·rw [if_pos c7] at H;have jk:=decide_eq_true c7;clear c7;replace H:=zO H;obtain ⟨⟨aqU,avn⟩,A8,H⟩:=H;try dsimp only at H
      have H':=aj.mk H;clear H;obtain ⟨_,_⟩:=zC2 eF.out;obtain ⟨_,_⟩:=zF2 eF.out;go_wp2_with (first|((with_reducible refine ay (f:=119) rfl ?_);refine aH (some 24) rfl rfl Tryz.func119 (by kernel_rfl) rfl #[.agg #[.int .u64 kF,.int .u64 jU],.int .u64 0] rfl zL ?_;(with_reducible refine (dM.calls kF jU 0 aqU avn _ A8.out).mono ?_);rintro e w10 ⟨rfl,hb⟩;refine ⟨_,rfl,?_⟩;obtain ⟨eF,HB⟩:=zA2 (aA (zK eF) hb) (ak zB hb);(try clear hb);obtain ⟨_,_⟩:=zC2 eF.out;obtain ⟨_,_⟩:=zF2 eF.out));go_roundg k1
      case measure=>have:=HK1.out;omega
      case rel=>exact ⟨(wrap64 (wY+1)),(aqU),(avn),zT,H',⟨by have:=HK1.out;omega⟩,⟨by refine zD ?_;refine aY (cs := #[.int .u64 aqU,.int .u64 jU]) ?_ 1 _ rfl;refine zD ?_;refine aY (cs := #[.int .u64 kF,.int .u64 jU]) ?_ 0 _ rfl;refine zD ?_;exact eF.out⟩,⟨zB⟩⟩
     ·rw [if_neg c7] at H;have jk:=decide_eq_false c7;clear c7;replace H:=zO H;obtain ⟨uI,A12,H⟩:=H;try dsimp only at H
      have H':=aj.mk H;clear H;go_wp2_with (first|((with_reducible refine ay (f:=120) rfl ?_);refine aH (some 27) rfl rfl Tryz.func120 (by kernel_rfl) rfl #[.int .i64 a0] rfl zL ?_;(with_reducible refine (dP.calls a0 uI _ A12.out).mono ?_);rintro e w' ⟨rfl,⟨nd,rfl⟩⟩;refine ⟨_,rfl,?_⟩;(try (rw [oW wr];generalize hq_:World.drewN wr _=wr;have n0_:aj (wr.heap[af6]? = some (.cells #[.int .u64 kF,.int .u64 jU] 179 (0,0))):=⟨by rw [<- hq_];exact (zK eF)⟩;have n1_:aj (Below w.heap.size w wr):=⟨by rw [<- hq_];exact zB⟩;clear eF HB hq_;have eF:=n0_;have HB:=n1_;clear n0_ n1_)))|((with_reducible refine bG (N:=6) rfl ?_);refine bI zR (N:=6) zR (cs := #[.int .u64 0,.int .u64 0]) (t:=179) zG ?_;intro aam hg w13 hbox hb;obtain ⟨eF,HB,fM,aCh,aCi,zi,zk⟩:=zA7 (aA (zK eF) hb) (ak zB hb) hbox (zg hg zB) (zg hg zB) (zl hg (zK eF)) (zr hg (zK eF));clear hb hbox hg;have as1:=zk.out;have as2:=zi.out;obtain ⟨_,_⟩:=zC2 fM.out;obtain ⟨_,_⟩:=zF2 fM.out)|((with_reducible refine bG (N:=7) rfl ?_);refine bI zR (N:=7) zR (cs := #[.int .u64 0,.int .u64 0]) (t:=179) zG ?_;intro aan hg w16 hbox hb;obtain ⟨eF,fM,HB,fO,aCj,aCk,xC,xE,vK,vM⟩:=aeG (aA (zK eF) hb) (aA (g:=aam) (o := .cells #[.int .u64 0,.int .u64 uI] 179 (0,0)) (by refine zD ?_;refine aY (cs := #[.int .u64 0,.int .u64 0]) ?_ 1 _ rfl;refine zD ?_;refine aY (cs := #[.int .u64 0,.int .u64 0]) ?_ 0 _ rfl;refine zD ?_;exact fM.out) hb) (ak zB hb) hbox (zg hg zB) (zg hg zB) (zl hg (zK eF)) (zr hg (zK eF)) ((by rw [hg];exact Nat.ne_of_lt (bD (g:=aam) (o := .cells #[.int .u64 0,.int .u64 uI] 179 (0,0)) (by refine zD ?_;refine aY (cs := #[.int .u64 0,.int .u64 0]) ?_ 1 _ rfl;refine zD ?_;refine aY (cs := #[.int .u64 0,.int .u64 0]) ?_ 0 _ rfl;refine zD ?_;exact fM.out)):aam≠aan)) ((by rw [hg];exact Nat.ne_of_gt (bD (g:=aam) (o := .cells #[.int .u64 0,.int .u64 uI] 179 (0,0)) (by refine zD ?_;refine aY (cs := #[.int .u64 0,.int .u64 0]) ?_ 1 _ rfl;refine zD ?_;refine aY (cs := #[.int .u64 0,.int .u64 0]) ?_ 0 _ rfl;refine zD ?_;exact fM.out)):aan≠aam));clear hb hbox hg;have axJ:=xE.out;have axK:=xC.out;have aCl:=vM.out;have aCm:=vK.out;obtain ⟨_,_⟩:=zC2 fO.out;obtain ⟨_,_⟩:=zF2 fO.out));try simp only [Act.put,List.setIfInBounds_toArray,List.set_cons_succ,List.set_cons_zero]
      go_loopg [8] k1 (fun kq v8 w'=>∃ (lU:Int) (jV:Int) (jy:Int),v8 = .int .i64 lU/\aj (aJ.l1 kq a0 a1 lU kF jU 0 uI jV jy=some r)/\aj (kq<=k1)/\aj (w'.heap[af6]? = some (.cells #[.int .u64 kF,.int .u64 jU] 179 (0,0)))/\aj (w'.heap[aam]? = some (.cells #[.int .u64 0,.int .u64 uI] 179 (0,0)))/\aj (w'.heap[aan]? = some (.cells #[.int .u64 jV,.int .u64 jy] 179 (0,0)))/\aj (Below w.heap.size w w'))
      case atStart=>exact ⟨(127),(0),(0),zT,H',⟨Nat.le_refl _⟩,⟨zK eF⟩,⟨zK fM⟩,⟨by refine zD ?_;refine aY (cs := #[.int .u64 0,.int .u64 0]) ?_ 1 _ rfl;refine zD ?_;refine aY (cs := #[.int .u64 0,.int .u64 0]) ?_ 0 _ rfl;refine zD ?_;exact fO.out⟩,⟨zB⟩⟩
      case round =>
       clear H';obtain ⟨lU,jV,jy,rfl,HA,HK2,eF,fM,fO,HB⟩:=hrel;cases gk with
       | zero=>exact absurd HA.out (by simp [aJ.l1])
       | succ k2 =>
        have H:=HA.out;clear HA;simp only [aJ.l1] at H;by_cases c20:lU>=a1
        ·rw [if_pos c20] at H;have axM:=decide_eq_true c20;clear c20;replace H:=zO H;obtain ⟨alv,A21,H⟩:=H;try dsimp only at H
         replace H:=zO H;obtain ⟨⟨aqV,avo⟩,A22,H⟩:=H;try dsimp only at H
         have H':=aj.mk H;clear H;try go_wp2
         obtain ⟨eF,fM,fO,HB⟩:=zA4 (kP eF.out) (kP fM.out) (kP fO.out) (aZ HB.out);refine adr (n:=6) (S:=fun w'=>w'.cell? ⟨aan,0,none⟩=some (.int .u64 jV)/\w'.cell? ⟨aan,1,none⟩=some (.int .u64 jy)/\w'.cell? ⟨aam,0,none⟩=some (.int .u64 0)/\w'.cell? ⟨aam,1,none⟩=some (.int .u64 uI)) (ds:=[5]) #[false,false,false,false,false,false] (by kernel_rfl) rfl rfl ⟨(au fO.out 0).trans rfl,(au fO.out 1).trans rfl,(au fM.out 0).trans rfl,(au fM.out 1).trans rfl⟩ (fun hHeld => ?_);generalize wr.drew=w23 at eF fM fO HB hHeld ⊢;refine yE (i:=2) (N:=some 37) (v := ?_) (a' := ?_) #[false,false,true,false,false,false] rfl rfl (by kernel_rfl) (fun _ _ _ h=>h) (Or.inl ⟨by rfl,?_⟩) ?_ ?_;rotate_left
         ·intro w';go_simp
          with_reducible rfl
         rotate_left
         ·simp only [Act.put,List.setIfInBounds_toArray,List.set_cons_zero,List.set_cons_succ,cZ,dD];rfl
         refine zI (i:=0) (N:=some 35) (v := ?_) (a' := ?_) #[true,false,true,false,false,false] rfl rfl (by kernel_rfl) (fun _ _ _ h=>h) (Or.inl ⟨by rfl,?_⟩) hHeld ?_ ?_;rotate_left
         ·rintro w' ⟨s0,s1,s2,s3⟩;go_simp
          with_reducible rfl
         rotate_left
         ·simp only [Act.put,List.setIfInBounds_toArray,List.set_cons_zero,List.set_cons_succ,cZ,dD];rfl
         refine zI (i:=1) (N:=some 36) (v := ?_) (a' := ?_) #[true,true,true,false,false,false] rfl rfl (by kernel_rfl) (fun _ _ _ h=>h) (Or.inl ⟨by rfl,?_⟩) hHeld ?_ ?_;rotate_left
         ·rintro w' ⟨s0,s1,s2,s3⟩;go_simp
          with_reducible rfl
         rotate_left
         ·simp only [Act.put,List.setIfInBounds_toArray,List.set_cons_zero,List.set_cons_succ,cZ,dD];rfl
         refine abZ (i:=3) (N:=some 38) #[true,true,true,true,false,false] rfl rfl (by kernel_rfl) (by decide) (fun K hK => ?_);refine aaW Tryz.func121 (by kernel_rfl) rfl #[.agg #[.int .u64 0,.int .u64 uI],.int .i64 lU] (by rfl) rfl rfl zL ?_;with_reducible refine (fK.calls 0 uI lU alv _ A21.out).mono ?_
         rintro e w24 ⟨rfl,hb⟩;refine ⟨_,rfl,?_⟩;obtain ⟨eF,fM,fO,HB⟩:=zA4 (aA (zK eF) hb) (aA (zK fM) hb) (aA (zK fO) hb) (ak zB hb)
         (try clear hb)
         (try clear hb2)
         (try clear hk)
         (try clear hi)
         refine hK.out _ _ ⟨(au fO.out 0).trans rfl,(au fO.out 1).trans rfl,(au fM.out 0).trans rfl,(au fM.out 1).trans rfl⟩ (fun hHeld => ?_);clear hK K;refine aaV (a' := ?_) ?_ ?_;rotate_left
         ·show Act.put _ (some 38) _=_
          simp only [Act.put,List.setIfInBounds_toArray,List.set_cons_zero,List.set_cons_succ,cZ,dD];rfl
         refine abZ (i:=4) (N:=some 39) #[true,true,true,true,true,false] rfl rfl (by kernel_rfl) (by decide) (fun K hK => ?_);refine aaW Tryz.func119 (by kernel_rfl) rfl #[.agg #[.int .u64 jV,.int .u64 jy],.int .u64 alv] (by rfl) rfl rfl zL ?_;with_reducible refine (dM.calls jV jy alv aqV avo _ A22.out).mono ?_
         rintro e w25 ⟨rfl,hb⟩;refine ⟨_,rfl,?_⟩;obtain ⟨eF,fM,fO,HB⟩:=zA4 (aA (zK eF) hb) (aA (zK fM) hb) (aA (zK fO) hb) (ak zB hb)
         (try clear hb)
         (try clear hb2)
         (try clear hk)
         (try clear hi)
         refine hK.out _ _ ⟨(au fO.out 0).trans rfl,(au fO.out 1).trans rfl,(au fM.out 0).trans rfl,(au fM.out 1).trans rfl⟩ (fun hHeld => ?_);clear hK K;refine aaV (a' := ?_) ?_ ?_;rotate_left
         ·show Act.put _ (some 39) _=_
          simp only [Act.put,List.setIfInBounds_toArray,List.set_cons_zero,List.set_cons_succ,cZ,dD];rfl
         refine akn (i:=5) (N:=none) #[true,true,true,true,true,true] rfl rfl (by kernel_rfl) (by decide) (fun K hK => ?_);have aEi:w25.cell? ⟨aan,0,none⟩=some (.int .u64 jV):=(au fO.out 0).trans rfl;have aCn:=aN fO.out 0;have aAN:=xC.out;have aAO:=vK.out;have aAP:=xE.out;have aAQ:=vM.out;have aEj:w25.cell? ⟨aan,1,none⟩=some (.int .u64 jy):=(au fO.out 1).trans rfl;have aCo:=aN fO.out 1;have aAR:=xC.out;have aAS:=vK.out;have aAT:=xE.out;have aAU:=vM.out;refine aho (w1 := ?_) (by rfl) rfl ?_ ?_;rotate_left
         ·go_simp
          rfl
         refine hK.out _ _ ?_;clear hK K;refine afQ (by kernel_rfl) ?_;try go_wp2
         go_roundg k2
         case measure=>have:=HK1.out;have:=HK2.out;omega
         case rel=>exact ⟨(wrap64 (lU - 1)),(aqV),(avo),zT,H',⟨by have:=HK1.out;have:=HK2.out;omega⟩,⟨zK eF⟩,⟨zK fM⟩,⟨by refine zD ?_;refine aY (cs := #[.int .u64 aqV,.int .u64 jy]) ?_ 1 _ rfl;refine zD ?_;refine aY (cs := #[.int .u64 jV,.int .u64 jy]) ?_ 0 _ rfl;refine zD ?_;exact fO.out⟩,⟨zB⟩⟩
        ·rw [if_neg c20] at H;have axM:=decide_eq_false c20;clear c20;have H':=aj.mk H;clear H;have awT:=zk.out;have awU:=zi.out;have an9:=vK.out;have aoa:=vM.out;obtain ⟨_,_⟩:=zC2 fM.out;obtain ⟨_,_⟩:=zF2 fM.out;go_wp2_with (first|((with_reducible refine bG (N:=9) rfl ?_);refine bI zR (N:=9) zR (cs := #[.int .u64 0,.int .u64 0]) (t:=179) zG ?_;intro aol hg w31 hbox hb;obtain ⟨eF,fM,fO,HB,jf,aCp,aCq,acW,acX,zo,zu,zx,zy⟩:=agC (aA (zK eF) hb) (aA (zK fM) hb) (aA (zK fO) hb) (ak zB hb) hbox (zg hg zB) (zg hg zB) (zl hg (zK eF)) (zr hg (zK eF)) (zl hg (zK fM)) (zr hg (zK fM)) (zl hg (zK fO)) (zr hg (zK fO));clear hb hbox hg;have aCr:=acX.out;have aCs:=acW.out;have axN:=zu.out;have axO:=zo.out;have aCt:=zy.out;have aCu:=zx.out;obtain ⟨_,_⟩:=zC2 jf.out;obtain ⟨_,_⟩:=zF2 jf.out));try simp only [Act.put,List.setIfInBounds_toArray,List.set_cons_succ,List.set_cons_zero]
         go_loopg [10] k2 (fun kq v10 w'=>∃ (nT:Int) (nJ:Int) (l9:Int),v10 = .int .i64 nT/\aj (aJ.l2 kq a0 nT kF jU 0 uI jV jy nJ l9=some r)/\aj (kq<=k2)/\aj (w'.heap[af6]? = some (.cells #[.int .u64 kF,.int .u64 jU] 179 (0,0)))/\aj (w'.heap[aam]? = some (.cells #[.int .u64 0,.int .u64 uI] 179 (0,0)))/\aj (w'.heap[aan]? = some (.cells #[.int .u64 jV,.int .u64 jy] 179 (0,0)))/\aj (w'.heap[aol]? = some (.cells #[.int .u64 nJ,.int .u64 l9] 179 (0,0)))/\aj (Below w.heap.size w w'))
         case atStart=>exact ⟨(a1),(0),(uI),zT,H',⟨Nat.le_refl _⟩,⟨zK eF⟩,⟨zK fM⟩,⟨zK fO⟩,⟨by refine zD ?_;refine aY (cs := #[.int .u64 0,.int .u64 0]) ?_ 1 _ rfl;refine zD ?_;refine aY (cs := #[.int .u64 0,.int .u64 0]) ?_ 0 _ rfl;refine zD ?_;exact jf.out⟩,⟨zB⟩⟩
         case round =>
          clear H';obtain ⟨nT,nJ,l9,rfl,HA,HK3,eF,fM,fO,jf,HB⟩:=hrel;cases gk with
          | zero=>exact absurd HA.out (by simp [aJ.l2])
          | succ k3 =>
           have H:=HA.out;clear HA;simp only [aJ.l2] at H;by_cases c36:nT < 128
           ·rw [if_pos c36] at H;have axP:=decide_eq_true c36;clear c36;replace H:=zO H;obtain ⟨adZ,A37,H⟩:=H;try dsimp only at H
            by_cases c38:adZ=1
            ·rw [if_pos c38] at H;have ad1:(adZ == 1)=true:=beq_iff_eq.mpr c38;have aom:(adZ != 1)=false:=bne_eq_false_iff_eq.mpr c38;clear c38;have H':=aj.mk H;clear H;have aCv:=zk.out;have aCw:=zi.out;have atb:=vK.out;have atc:=vM.out;have axy:=zo.out;have axz:=zu.out;obtain ⟨_,_⟩:=zC2 fM.out;obtain ⟨_,_⟩:=zF2 fM.out;go_wp2_with (first|((with_reducible refine ay (f:=121) rfl ?_);refine aH (some 48) rfl rfl Tryz.func121 (by kernel_rfl) rfl #[.agg #[.int .u64 0,.int .u64 uI],.int .i64 nT] rfl zL ?_;(with_reducible refine (fK.calls 0 uI nT adZ _ A37.out).mono ?_);rintro e w43 ⟨rfl,hb⟩;refine ⟨_,rfl,?_⟩;obtain ⟨eF,fM,fO,jf,HB⟩:=zA5 (aA (zK eF) hb) (aA (zK fM) hb) (aA (zK fO) hb) (aA (zK jf) hb) (ak zB hb);(try clear hb))|((with_reducible refine bG (N:=11) rfl ?_);refine bI zR (N:=11) zR (cs := #[.int .u64 0,.int .u64 0]) (t:=179) zG ?_;intro axQ hg w44 hbox hb;have n0_:=aj.mk (aA (zK eF) hb);have n1_:=aj.mk (aA (zK fM) hb);have n2_:=aj.mk (aA (zK fO) hb);have n3_:=aj.mk (aA (zK jf) hb);have n4_:=aj.mk (ak zB hb);have n5_:=aj.mk (hbox);have n6_:=aj.mk (zg hg zB);have n7_:=aj.mk (zg hg zB);have n8_:=aj.mk (zl hg (zK eF));have n9_:=aj.mk (zr hg (zK eF));have avp:=aj.mk (zl hg (zK fM));have avq:=aj.mk (zr hg (zK fM));have avr:=aj.mk (zl hg (zK fO));have avs:=aj.mk (zr hg (zK fO));have avt:=aj.mk (zl hg (zK jf));have avu:=aj.mk (zr hg (zK jf));clear eF;clear fM;clear fO;clear jf;clear HB;have eF:=n0_;have fM:=n1_;have fO:=n2_;have jf:=n3_;have HB:=n4_;have vX:=n5_;have aCx:=n6_;have aCy:=n7_;have afo:=n8_;have afp:=n9_;have afq:=avp;have afr:=avq;have afs:=avr;have aft:=avs;have afu:=avt;have afv:=avu;clear n0_ n1_ n2_ n3_ n4_ n5_ n6_ n7_ n8_ n9_ avp avq avr avs avt avu;clear hb hbox hg;have aCz:=afp.out;have aCA:=afo.out;have atd:=afr.out;have ate:=afq.out;have axA:=aft.out;have axB:=afs.out;have aCB:=afv.out;have aCC:=afu.out;obtain ⟨_,_⟩:=zC2 vX.out;obtain ⟨_,_⟩:=zF2 vX.out));try simp only [Act.put,List.setIfInBounds_toArray,List.set_cons_succ,List.set_cons_zero]
             go_loopg [52] k3 (fun kq v52 w'=>∃ (ahM:Int) (vN:Int) (tZ:Int),v52 = .int .i64 ahM/\aj (aJ.l3 kq a0 nT nT ahM kF jU 0 uI jV jy nJ l9 vN tZ=some r)/\aj (kq<=k3)/\aj (w'.heap[af6]? = some (.cells #[.int .u64 kF,.int .u64 jU] 179 (0,0)))/\aj (w'.heap[aam]? = some (.cells #[.int .u64 0,.int .u64 uI] 179 (0,0)))/\aj (w'.heap[aan]? = some (.cells #[.int .u64 jV,.int .u64 jy] 179 (0,0)))/\aj (w'.heap[aol]? = some (.cells #[.int .u64 nJ,.int .u64 l9] 179 (0,0)))/\aj (w'.heap[axQ]? = some (.cells #[.int .u64 vN,.int .u64 tZ] 179 (0,0)))/\aj (Below w.heap.size w w'))
             case atStart=>exact ⟨(0),(0),(1),zT,H',⟨Nat.le_refl _⟩,⟨zK eF⟩,⟨zK fM⟩,⟨zK fO⟩,⟨zK jf⟩,⟨by refine zD ?_;refine aY (cs := #[.int .u64 0,.int .u64 0]) ?_ 1 _ rfl;refine zD ?_;refine aY (cs := #[.int .u64 0,.int .u64 0]) ?_ 0 _ rfl;refine zD ?_;exact vX.out⟩,⟨zB⟩⟩
             case round =>
              clear H';obtain ⟨ahM,vN,tZ,rfl,HA,HK4,eF,fM,fO,jf,vX,HB⟩:=hrel;cases gk with
              | zero=>exact absurd HA.out (by simp [aJ.l3])
              | succ k4 =>
               have H:=HA.out;clear HA;simp only [aJ.l3] at H;by_cases c50:ahM < nT
               ·rw [if_pos c50] at H;have axR:=decide_eq_true c50;clear c50;replace H:=zO H;obtain ⟨⟨aqW,avv⟩,A51,H⟩:=H;try dsimp only at H
                have H':=aj.mk H;clear H;have axS:=afp.out;have axT:=afo.out;have aCD:=afr.out;have aCE:=afq.out;have aCF:=aft.out;have aCG:=afs.out;have aCH:=afv.out;have aCI:=afu.out;obtain ⟨_,_⟩:=zC2 vX.out;obtain ⟨_,_⟩:=zF2 vX.out;go_wp2_with (first|((with_reducible refine ay (f:=119) rfl ?_);refine aH (some 55) rfl rfl Tryz.func119 (by kernel_rfl) rfl #[.agg #[.int .u64 vN,.int .u64 tZ],.int .u64 0] rfl zL ?_;(with_reducible refine (dM.calls vN tZ 0 aqW avv _ A51.out).mono ?_);rintro e w57 ⟨rfl,hb⟩;refine ⟨_,rfl,?_⟩;obtain ⟨eF,fM,fO,jf,vX,HB⟩:=zA6 (aA (zK eF) hb) (aA (zK fM) hb) (aA (zK fO) hb) (aA (zK jf) hb) (aA (zK vX) hb) (ak zB hb);(try clear hb);obtain ⟨_,_⟩:=zC2 vX.out;obtain ⟨_,_⟩:=zF2 vX.out));go_roundg k4
                case measure=>have:=HK1.out;have:=HK2.out;have:=HK3.out;have:=HK4.out;omega
                case rel=>exact ⟨(wrap64 (ahM+1)),(aqW),(avv),zT,H',⟨by have:=HK1.out;have:=HK2.out;have:=HK3.out;have:=HK4.out;omega⟩,⟨zK eF⟩,⟨zK fM⟩,⟨zK fO⟩,⟨zK jf⟩,⟨by refine zD ?_;refine aY (cs := #[.int .u64 aqW,.int .u64 tZ]) ?_ 1 _ rfl;refine zD ?_;refine aY (cs := #[.int .u64 vN,.int .u64 tZ]) ?_ 0 _ rfl;refine zD ?_;exact vX.out⟩,⟨zB⟩⟩
               ·rw [if_neg c50] at H;have axR:=decide_eq_false c50;clear c50;replace H:=zO H;obtain ⟨⟨aqX,avw⟩,A59,H⟩:=H;try dsimp only at H
                have H':=aj.mk H;clear H;have aCJ:=acX.out;have aCK:=acW.out;have aCL:=zu.out;have aCM:=zo.out;have axE:=zy.out;have axF:=zx.out;have axG:=afu.out;have axH:=afv.out;obtain ⟨_,_⟩:=zC2 jf.out;obtain ⟨_,_⟩:=zF2 jf.out;have aCN:=afp.out;have aCO:=afo.out;have aCP:=afr.out;have aCQ:=afq.out;have aCR:=aft.out;have aCS:=afs.out;obtain ⟨_,_⟩:=zC2 vX.out;obtain ⟨_,_⟩:=zF2 vX.out;go_wp2_with (first|((with_reducible refine ay (f:=122) rfl ?_);refine aH (some 59) rfl rfl Tryz.func122 (by kernel_rfl) rfl #[.agg #[.int .u64 nJ,.int .u64 l9],.agg #[.int .u64 vN,.int .u64 tZ]] rfl zL ?_;(with_reducible refine (kH.calls nJ l9 vN tZ aqX avw _ A59.out).mono ?_);rintro e w69 ⟨rfl,hb⟩;refine ⟨_,rfl,?_⟩;obtain ⟨eF,fM,fO,jf,vX,HB⟩:=zA6 (aA (zK eF) hb) (aA (zK fM) hb) (aA (zK fO) hb) (aA (zK jf) hb) (aA (zK vX) hb) (ak zB hb);(try clear hb);obtain ⟨_,_⟩:=zC2 jf.out;obtain ⟨_,_⟩:=zF2 jf.out));go_roundg k4
                case measure=>have:=HK1.out;have:=HK2.out;have:=HK3.out;have:=HK4.out;omega
                case rel=>exact ⟨(wrap64 (nT+1)),(aqX),(avw),zT,H',⟨by have:=HK1.out;have:=HK2.out;have:=HK3.out;have:=HK4.out;omega⟩,⟨zK eF⟩,⟨zK fM⟩,⟨zK fO⟩,⟨by refine zD ?_;refine aY (cs := #[.int .u64 aqX,.int .u64 l9]) ?_ 1 _ rfl;refine zD ?_;refine aY (cs := #[.int .u64 nJ,.int .u64 l9]) ?_ 0 _ rfl;refine zD ?_;exact jf.out⟩,⟨zB⟩⟩
            ·rw [if_neg c38] at H;have ad1:(adZ == 1)=false:=beq_eq_false_iff_ne.mpr c38;have aom:(adZ != 1)=true:=bne_iff_ne.mpr c38;have H':=aj.mk H;clear H;have aCT:=zk.out;have aCU:=zi.out;have aCV:=vK.out;have aCW:=vM.out;have aCX:=zo.out;have aCY:=zu.out;obtain ⟨_,_⟩:=zC2 fM.out;obtain ⟨_,_⟩:=zF2 fM.out;go_wp2_with (first|((with_reducible refine ay (f:=121) rfl ?_);refine aH (some 48) rfl rfl Tryz.func121 (by kernel_rfl) rfl #[.agg #[.int .u64 0,.int .u64 uI],.int .i64 nT] rfl zL ?_;(with_reducible refine (fK.calls 0 uI nT adZ _ A37.out).mono ?_);rintro e w75 ⟨rfl,hb⟩;refine ⟨_,rfl,?_⟩;obtain ⟨eF,fM,fO,jf,HB⟩:=zA5 (aA (zK eF) hb) (aA (zK fM) hb) (aA (zK fO) hb) (aA (zK jf) hb) (ak zB hb);(try clear hb)));go_roundg k3
             case measure=>have:=HK1.out;have:=HK2.out;have:=HK3.out;omega
             case rel=>exact ⟨(wrap64 (nT+1)),(nJ),(l9),zT,H',⟨by have:=HK1.out;have:=HK2.out;have:=HK3.out;omega⟩,⟨zK eF⟩,⟨zK fM⟩,⟨zK fO⟩,⟨zK jf⟩,⟨zB⟩⟩
           ·rw [if_neg c36] at H;have axP:=decide_eq_false c36;clear c36;replace H:=zO H;obtain ⟨aoj,A76,H⟩:=H;try dsimp only at H
            have aqY:=aj.mk H;clear H;have aCZ:=acX.out;have aC0:=acW.out;have aC1:=zu.out;have aC2:=zo.out;have aC3:=zy.out;have aC4:=zx.out;obtain ⟨_,_⟩:=zC2 jf.out;obtain ⟨_,_⟩:=zF2 jf.out;have aC5:=zi.out;have aC6:=zk.out;have aC7:=xC.out;have aC8:=xE.out;obtain ⟨_,_⟩:=zC2 eF.out;obtain ⟨_,_⟩:=zF2 eF.out;go_upto_if 65 with (first|((with_reducible refine ay (f:=123) rfl ?_);refine aH (some 62) rfl rfl Tryz.func123 (by kernel_rfl) rfl #[.agg #[.int .u64 nJ,.int .u64 l9],.agg #[.int .u64 kF,.int .u64 jU]] rfl zL ?_;(with_reducible refine (iG.calls nJ l9 kF jU aoj _ A76.out).mono ?_);rintro e w85 ⟨rfl,hb⟩;refine ⟨_,rfl,?_⟩;obtain ⟨eF,fM,fO,jf,HB⟩:=zA5 (aA (zK eF) hb) (aA (zK fM) hb) (aA (zK fO) hb) (aA (zK jf) hb) (ak zB hb);(try clear hb)))
            (try simp only [Act.put,List.setIfInBounds_toArray,List.set_cons_zero,List.set_cons_succ])
            go_cut [12] (fun v12 wc=>∃ (kq:Nat) (ahN:Bool),v12 = .bool ahN/\aj (aJ.j4 kq a0 ahN jV jy=some r)/\aj (kq<=k3)/\aj (wc.heap[af6]? = some (.cells #[.int .u64 kF,.int .u64 jU] 179 (0,0)))/\aj (wc.heap[aam]? = some (.cells #[.int .u64 0,.int .u64 uI] 179 (0,0)))/\aj (wc.heap[aan]? = some (.cells #[.int .u64 jV,.int .u64 jy] 179 (0,0)))/\aj (wc.heap[aol]? = some (.cells #[.int .u64 nJ,.int .u64 l9] 179 (0,0)))/\aj (Below w.heap.size w wc))
            case first =>
             have H:=aqY.out;clear aqY;by_cases c86:a0 < 0
             ·rw [if_pos c86] at H;have ahO:=decide_eq_true c86;clear c86
              (first|rw [ahO]|(simp only [cZ,dD];rw [ahO])|skip)
              replace H:=zO H;obtain ⟨aok,A87,H⟩:=H;try dsimp only at H
              have H':=aj.mk H;clear H;have aC9:=zi.out;have aDa:=zk.out;have aDb:=xC.out;have aDc:=xE.out;have aDd:=acW.out;have aDe:=acX.out;obtain ⟨_,_⟩:=zC2 eF.out;obtain ⟨_,_⟩:=zF2 eF.out;have aDf:=zu.out;have aDg:=zo.out;have aDh:=zy.out;have aDi:=zx.out;obtain ⟨_,_⟩:=zC2 jf.out;obtain ⟨_,_⟩:=zF2 jf.out;go_wp2_with (first|((with_reducible refine ay (f:=123) rfl ?_);refine aH (some 68) rfl rfl Tryz.func123 (by kernel_rfl) rfl #[.agg #[.int .u64 kF,.int .u64 jU],.agg #[.int .u64 nJ,.int .u64 l9]] rfl zL ?_;(with_reducible refine (iG.calls kF jU nJ l9 aok _ A87.out).mono ?_);rintro e w95 ⟨rfl,hb⟩;refine ⟨_,rfl,?_⟩;obtain ⟨eF,fM,fO,jf,HB⟩:=zA5 (aA (zK eF) hb) (aA (zK fM) hb) (aA (zK fO) hb) (aA (zK jf) hb) (ak zB hb);(try clear hb)));go_meet
              case rel=>exact ⟨_,(aok),zT,H',⟨by have:=HK1.out;have:=HK2.out;have:=HK3.out;first|omega|exact Nat.le_refl _⟩,⟨zK eF⟩,⟨zK fM⟩,⟨zK fO⟩,⟨zK jf⟩,⟨zB⟩⟩
             ·rw [if_neg c86] at H;have ahO:=decide_eq_false c86;clear c86
              (first|rw [ahO]|(simp only [cZ,dD];rw [ahO])|skip)
              have H':=aj.mk H;clear H;go_wp2;go_meet
              case rel=>exact ⟨_,(!aoj),zT,H',⟨by have:=HK1.out;have:=HK2.out;have:=HK3.out;first|omega|exact Nat.le_refl _⟩,⟨zK eF⟩,⟨zK fM⟩,⟨zK fO⟩,⟨zK jf⟩,⟨zB⟩⟩
            case rest =>
             clear aqY;obtain ⟨kq,ahN,rfl,HA,aEk,eF,fM,fO,jf,HB⟩:=hcut;cases kq with
             | zero=>exact absurd HA.out (by simp [aJ.j4])
             | succ avx =>
              have H:=HA.out;clear HA;simp only [aJ.j4] at H;by_cases c96:ahN=true
              ·subst c96;rw [if_pos rfl] at H;(try dsimp only at H);replace H:=zO H;obtain ⟨⟨alx,aon⟩,A97,H⟩:=H;try dsimp only at H
               replace H:=zO H;obtain ⟨aqS,A98,H⟩:=H;try dsimp only at H
               obtain rfl:=Option.some.inj H;have aDj:=xE.out;have aDk:=xC.out;have aA2:=vM.out;have aA3:=vK.out;have aA4:=zx.out;have aA5:=zy.out;obtain ⟨_,_⟩:=zC2 fO.out;obtain ⟨_,_⟩:=zF2 fO.out;go_wp2_with (first|((with_reducible refine ay (f:=124) rfl ?_);refine aH (some 72) rfl rfl Tryz.func124 (by kernel_rfl) rfl #[.agg #[.int .u64 jV,.int .u64 jy],.agg #[.int .u64 0,.int .u64 1]] rfl zL ?_;(with_reducible refine (gY.calls jV jy 0 1 alx aon _ A97.out).mono ?_);rintro e aEl ⟨rfl,hb⟩;refine ⟨_,rfl,?_⟩;obtain ⟨eF,fM,fO,jf,HB⟩:=zA5 (aA (zK eF) hb) (aA (zK fM) hb) (aA (zK fO) hb) (aA (zK jf) hb) (ak zB hb);(try clear hb);obtain ⟨_,_⟩:=zC2 fO.out;obtain ⟨_,_⟩:=zF2 fO.out)|((with_reducible refine ay (f:=125) rfl ?_);refine aH (some 76) rfl rfl Tryz.func125 (by kernel_rfl) rfl #[.agg #[.int .u64 alx,.int .u64 aon],.bool (decide (a0 < 0))] rfl zL ?_;(with_reducible refine (bY.calls avx alx aon (decide (a0 < 0)) aqS _ A98.out).mono ?_);rintro e aEm ⟨rfl,hb⟩;refine ⟨_,rfl,?_⟩;obtain ⟨eF,fM,fO,jf,HB⟩:=zA5 (aA (zK eF) hb) (aA (zK fM) hb) (aA (g:=aan) (o := .cells #[.int .u64 alx,.int .u64 aon] 179 (0,0)) (by refine zD ?_;refine aY (cs := #[.int .u64 alx,.int .u64 jy]) ?_ 1 _ rfl;refine zD ?_;refine aY (cs := #[.int .u64 jV,.int .u64 jy]) ?_ 0 _ rfl;refine zD ?_;exact fO.out) hb) (aA (zK jf) hb) (ak zB hb);(try clear hb)));go_ret;exact ⟨zS,zB⟩
              ·replace c96:=Bool.eq_false_iff.mpr c96;subst c96;rw [if_neg (show ¬ (false=true) by decide)] at H;(try dsimp only at H);replace H:=zO H;obtain ⟨aqT,ay3,H⟩:=H;try dsimp only at H
               obtain rfl:=Option.some.inj H;have aA6:=xE.out;have aA7:=xC.out;have aA8:=vM.out;have aA9:=vK.out;have aBa:=zx.out;have aBb:=zy.out;obtain ⟨_,_⟩:=zC2 fO.out;obtain ⟨_,_⟩:=zF2 fO.out;go_wp2_with (first|((with_reducible refine ay (f:=125) rfl ?_);refine aH (some 76) rfl rfl Tryz.func125 (by kernel_rfl) rfl #[.agg #[.int .u64 jV,.int .u64 jy],.bool (decide (a0 < 0))] rfl zL ?_;(with_reducible refine (bY.calls avx jV jy (decide (a0 < 0)) aqT _ ay3.out).mono ?_);rintro e aEn ⟨rfl,hb⟩;refine ⟨_,rfl,?_⟩;obtain ⟨eF,fM,fO,jf,HB⟩:=zA5 (aA (zK eF) hb) (aA (zK fM) hb) (aA (zK fO) hb) (aA (zK jf) hb) (ak zB hb);(try clear hb)));go_ret;exact ⟨zS,zB⟩
def lQ.f (a0 a1:Int):Option (Bool):=if a1 < 1 then (some false) else (if a1 > 1048576 then (some false) else (if a0<=(wrap64 (4*a1)) then (some (decide (a0>=(wrap64 ((-4)*a1))))) else (some false)))
theorem lQ.calls (a0 a1:Int) (r:Bool) (w:World) (h:lQ.f a0 a1=some r) :
  Calls Tryz.prog 184 #[.int .i64 a0,.int .i64 a1] w fun e w'=>e = .returned (.bool r)/\dG w w':=by
 have H:=h;clear h;unfold lQ.f at H;by_cases c3:a1 < 1
 ·rw [if_pos c3] at H;have gI:=decide_eq_true c3;clear c3;obtain rfl:=Option.some.inj H;go_enter Tryz.func184,Tryz.ntmps184;go_wp2;go_ret;exact ⟨zT,zW⟩
 ·rw [if_neg c3] at H;have gI:=decide_eq_false c3;clear c3;by_cases c4:a1 > 1048576
  ·rw [if_pos c4] at H;have fG:=decide_eq_true c4;clear c4;obtain rfl:=Option.some.inj H;go_enter Tryz.func184,Tryz.ntmps184;go_wp2;go_ret;exact ⟨zT,zW⟩
  ·rw [if_neg c4] at H;have fG:=decide_eq_false c4;clear c4;by_cases c5:a0<=(wrap64 (4*a1))
   ·rw [if_pos c5] at H;have iy:=decide_eq_true c5;clear c5;obtain rfl:=Option.some.inj H;go_enter Tryz.func184,Tryz.ntmps184;go_wp2;go_ret;exact ⟨zT,zW⟩
   ·rw [if_neg c5] at H;have iy:=decide_eq_false c5;clear c5;obtain rfl:=Option.some.inj H;go_enter Tryz.func184,Tryz.ntmps184;go_wp2;go_ret;exact ⟨zT,zW⟩
mutual
def aU.j0:Nat->Int->Int->Int->Option (Int)
 | 0,_,_,_=>none
 | k+1,x0,x1,x2=>if x2 > 127 then (some 0) else ((dP.f x0).bind fun afw=>((dP.f x1).bind fun afx=>((dW.f k afw afx).bind fun akz=>(if x2=0 then ((bY.f k akz.1 akz.2 ((decide (x0 < 0)) != (decide (x1 < 0)))).bind fun aqZ=>(some aqZ)) else (aU.l0 k x2 ((decide (x0 < 0)) != (decide (x1 < 0))) 127 akz.1 akz.2 0 0)))))
def aU.l0:Nat->Int->Bool->Int->Int->Int->Int->Int->Option (Int)
 | 0,_,_,_,_,_,_,_=>none
 | k+1,x2,x7,x10,zA,zC,vg,vk=>if x10>=x2 then ((fK.f zA zC x10).bind fun aly=>((dM.f vg vk aly).bind fun ato=>(aU.l0 k x2 x7 (wrap64 (x10 - 1)) zA zC ato.1 ato.2))) else (aU.l1 k x2 x7 false (wrap64 (x2 - 1)) 0 zA zC vg vk)
def aU.l1:Nat->Int->Bool->Bool->Int->Int->Int->Int->Int->Int->Option (Int)
 | 0,_,_,_,_,_,_,_,_,_=>none
 | k+1,x2,x7,x11,x44,x45,zA,zC,vg,vk=>if x45 < x44 then (if x11=true then (aU.l1 k x2 x7 true x44 (wrap64 (x45+1)) zA zC vg vk) else ((fK.f zA zC x45).bind fun aoo=>(aU.l1 k x2 x7 (aoo == 1) x44 (wrap64 (x45+1)) zA zC vg vk))) else ((fK.f zA zC (wrap64 (x2 - 1))).bind fun adg=>(if adg=1 then (if x11=true then (aU.j3 k x7 true vg vk) else (aU.j3 k x7 (!x7) vg vk)) else (aU.j3 k x7 false vg vk)))
def aU.j3:Nat->Bool->Bool->Int->Int->Option (Int)
 | 0,_,_,_,_=>none
 | k+1,x7,x67,vg,vk=>if x67=true then ((gY.f vg vk 0 1).bind fun atp=>((bY.f k atp.1 atp.2 x7).bind fun aq0=>(some aq0))) else ((bY.f k vg vk x7).bind fun aq1=>(some aq1))
end
def aU.f (k:Nat) (a0 a1 a2:Int):Option (Int):=if a2 < 0 then (aU.j0 k a0 a1 0) else (aU.j0 k a0 a1 a2)
theorem aU.calls (k:Nat) (a0 a1 a2 r:Int) (w:World) (h:aU.f k a0 a1 a2=some r) :
  Calls Tryz.prog 185 #[.int .i64 a0,.int .i64 a1,.int .i64 a2] w fun e w'=>e = .returned (.int .i64 r)/\Below w.heap.size w w':=by
 have yJ:=Tryz.underlying179;have HB:=aj.mk (Below.refl w.heap.size w);have H:=h;clear h;unfold aU.f at H;have HC4:=aj.mk H;clear H;go_enter Tryz.func185,Tryz.ntmps185;go_upto_if 14 with (fail)
 go_cut [2] (fun v2 wc=>∃ (kq:Nat) (vw:Int),v2 = .int .i64 vw/\aj (aU.j0 kq a0 a1 vw=some r)/\aj (kq<=k)/\aj (Below w.heap.size w wc))
 case first =>
  have H:=HC4.out;clear HC4;by_cases c5:a2 < 0
  ·rw [if_pos c5] at H;have iy:=decide_eq_true c5;clear c5
   (first|rw [iy]|(simp only [cZ,dD];rw [iy])|skip)
   have H':=aj.mk H;clear H;go_wp2;go_meet
   case rel=>exact ⟨_,(0),zT,H',⟨by first|omega|exact Nat.le_refl _⟩,⟨zB⟩⟩
  ·rw [if_neg c5] at H;have iy:=decide_eq_false c5;clear c5
   (first|rw [iy]|(simp only [cZ,dD];rw [iy])|skip)
   have H':=aj.mk H;clear H;go_wp2;go_meet
   case rel=>exact ⟨_,(a2),zT,H',⟨by first|omega|exact Nat.le_refl _⟩,⟨zB⟩⟩
 case rest =>
  clear HC4;obtain ⟨kq,vw,rfl,HA,HJ3,HB⟩:=hcut;cases kq with
  | zero=>exact absurd HA.out (by simp [aU.j0])
  | succ kj3 =>
   have H:=HA.out;clear HA;simp only [aU.j0] at H;by_cases c6:vw > 127
   ·rw [if_pos c6] at H;have iF:=decide_eq_true c6;clear c6;obtain rfl:=Option.some.inj H;go_wp2;go_ret;exact ⟨zS,zB⟩
   ·rw [if_neg c6] at H;have iF:=decide_eq_false c6;clear c6;replace H:=zO H;obtain ⟨afw,A7,H⟩:=H;try dsimp only at H
    replace H:=zO H;obtain ⟨afx,A8,H⟩:=H;try dsimp only at H
    replace H:=zO H;obtain ⟨⟨qp,sG⟩,A9,H⟩:=H;try dsimp only at H
    by_cases c10:vw=0
    ·rw [if_pos c10] at H;have pX:(vw == 0)=true:=beq_iff_eq.mpr c10;have ahP:(vw != 0)=false:=bne_eq_false_iff_eq.mpr c10;clear c10;replace H:=zO H;obtain ⟨aqZ,A11,H⟩:=H;try dsimp only at H
     obtain rfl:=Option.some.inj H;go_wp2_with (first|((with_reducible refine ay (f:=120) rfl ?_);refine aH (some 23) rfl rfl Tryz.func120 (by kernel_rfl) rfl #[.int .i64 a0] rfl zL ?_;(with_reducible refine (dP.calls a0 afw _ A7.out).mono ?_);rintro e w' ⟨rfl,⟨nd,rfl⟩⟩;refine ⟨_,rfl,?_⟩;(try (rw [oW wc];generalize hq_:World.drewN wc _=wc;have n0_:aj (Below w.heap.size w wc):=⟨by rw [<- hq_];exact zB⟩;clear HB hq_;have HB:=n0_;clear n0_)))|((with_reducible refine ay (f:=120) rfl ?_);refine aH (some 25) rfl rfl Tryz.func120 (by kernel_rfl) rfl #[.int .i64 a1] rfl zL ?_;(with_reducible refine (dP.calls a1 afx _ A8.out).mono ?_);rintro e w' ⟨rfl,⟨nd,rfl⟩⟩;refine ⟨_,rfl,?_⟩;(try (rw [oW wc];generalize hq_:World.drewN wc _=wc;have n0_:aj (Below w.heap.size w wc):=⟨by rw [<- hq_];exact zB⟩;clear HB hq_;have HB:=n0_;clear n0_)))|((with_reducible refine ay (f:=148) rfl ?_);refine aH (some 26) rfl rfl Tryz.func148 (by kernel_rfl) rfl #[.int .u64 afw,.int .u64 afx] rfl zL ?_;(with_reducible refine (dW.calls kj3 afw afx qp sG _ A9.out).mono ?_);rintro e w12 ⟨rfl,hb⟩;refine ⟨_,rfl,?_⟩;replace HB:=aj.mk (ak zB hb);(try clear hb))|((with_reducible refine bG (N:=8) rfl ?_);refine bI zR (N:=8) zR (cs := #[.int .u64 0,.int .u64 0]) (t:=179) zG ?_;intro yK hg w13 hbox hb;obtain ⟨HB,gU,axU,axV⟩:=zA4 (ak zB hb) hbox (zg hg zB) (zg hg zB);clear hb hbox hg;obtain ⟨_,_⟩:=zC2 gU.out;obtain ⟨_,_⟩:=zF2 gU.out)|((with_reducible refine ay (f:=125) rfl ?_);refine aH (some 31) rfl rfl Tryz.func125 (by kernel_rfl) rfl #[.agg #[.int .u64 qp,.int .u64 sG],.bool ((decide (a0 < 0)) != (decide (a1 < 0)))] rfl zL ?_;(with_reducible refine (bY.calls kj3 qp sG ((decide (a0 < 0)) != (decide (a1 < 0))) aqZ _ A11.out).mono ?_);rintro e w15 ⟨rfl,hb⟩;refine ⟨_,rfl,?_⟩;obtain ⟨gU,HB⟩:=zA2 (aA (g:=yK) (o := .cells #[.int .u64 qp,.int .u64 sG] 179 (0,0)) (by refine zD ?_;refine aY (cs := #[.int .u64 qp,.int .u64 0]) ?_ 1 _ rfl;refine zD ?_;refine aY (cs := #[.int .u64 0,.int .u64 0]) ?_ 0 _ rfl;refine zD ?_;exact gU.out) hb) (ak zB hb);(try clear hb)));go_ret;exact ⟨zS,zB⟩
    ·rw [if_neg c10] at H;have pX:(vw == 0)=false:=beq_eq_false_iff_ne.mpr c10;have ahP:(vw != 0)=true:=bne_iff_ne.mpr c10;have H':=aj.mk H;clear H;go_wp2_with (first|((with_reducible refine ay (f:=120) rfl ?_);refine aH (some 23) rfl rfl Tryz.func120 (by kernel_rfl) rfl #[.int .i64 a0] rfl zL ?_;(with_reducible refine (dP.calls a0 afw _ A7.out).mono ?_);rintro e w' ⟨rfl,⟨nd,rfl⟩⟩;refine ⟨_,rfl,?_⟩;(try (rw [oW wc];generalize hq_:World.drewN wc _=wc;have n0_:aj (Below w.heap.size w wc):=⟨by rw [<- hq_];exact zB⟩;clear HB hq_;have HB:=n0_;clear n0_)))|((with_reducible refine ay (f:=120) rfl ?_);refine aH (some 25) rfl rfl Tryz.func120 (by kernel_rfl) rfl #[.int .i64 a1] rfl zL ?_;(with_reducible refine (dP.calls a1 afx _ A8.out).mono ?_);rintro e w' ⟨rfl,⟨nd,rfl⟩⟩;refine ⟨_,rfl,?_⟩;(try (rw [oW wc];generalize hq_:World.drewN wc _=wc;have n0_:aj (Below w.heap.size w wc):=⟨by rw [<- hq_];exact zB⟩;clear HB hq_;have HB:=n0_;clear n0_)))|((with_reducible refine ay (f:=148) rfl ?_);refine aH (some 26) rfl rfl Tryz.func148 (by kernel_rfl) rfl #[.int .u64 afw,.int .u64 afx] rfl zL ?_;(with_reducible refine (dW.calls kj3 afw afx qp sG _ A9.out).mono ?_);rintro e w16 ⟨rfl,hb⟩;refine ⟨_,rfl,?_⟩;replace HB:=aj.mk (ak zB hb);(try clear hb))|((with_reducible refine bG (N:=8) rfl ?_);refine bI zR (N:=8) zR (cs := #[.int .u64 0,.int .u64 0]) (t:=179) zG ?_;intro yK hg w17 hbox hb;obtain ⟨HB,gU,axU,axV⟩:=zA4 (ak zB hb) hbox (zg hg zB) (zg hg zB);clear hb hbox hg;obtain ⟨_,_⟩:=zC2 gU.out;obtain ⟨_,_⟩:=zF2 gU.out)|((with_reducible refine bG (N:=9) rfl ?_);refine bI zR (N:=9) zR (cs := #[.int .u64 0,.int .u64 0]) (t:=179) zG ?_;intro aa0 hg w19 hbox hb;obtain ⟨gU,HB,iJ,aDl,aDm,uf,ug⟩:=zA7 (aA (g:=yK) (o := .cells #[.int .u64 qp,.int .u64 sG] 179 (0,0)) (by refine zD ?_;refine aY (cs := #[.int .u64 qp,.int .u64 0]) ?_ 1 _ rfl;refine zD ?_;refine aY (cs := #[.int .u64 0,.int .u64 0]) ?_ 0 _ rfl;refine zD ?_;exact gU.out) hb) (ak zB hb) hbox (zg hg zB) (zg hg zB) ((by rw [hg];exact Nat.ne_of_lt (bD (g:=yK) (o := .cells #[.int .u64 qp,.int .u64 sG] 179 (0,0)) (by refine zD ?_;refine aY (cs := #[.int .u64 qp,.int .u64 0]) ?_ 1 _ rfl;refine zD ?_;refine aY (cs := #[.int .u64 0,.int .u64 0]) ?_ 0 _ rfl;refine zD ?_;exact gU.out)):yK≠aa0)) ((by rw [hg];exact Nat.ne_of_gt (bD (g:=yK) (o := .cells #[.int .u64 qp,.int .u64 sG] 179 (0,0)) (by refine zD ?_;refine aY (cs := #[.int .u64 qp,.int .u64 0]) ?_ 1 _ rfl;refine zD ?_;refine aY (cs := #[.int .u64 0,.int .u64 0]) ?_ 0 _ rfl;refine zD ?_;exact gU.out)):aa0≠yK));clear hb hbox hg;have aDn:=ug.out;have aDo:=uf.out;obtain ⟨_,_⟩:=zC2 iJ.out;obtain ⟨_,_⟩:=zF2 iJ.out));go_loopg [10] kj3 (fun kq v10 w'=>∃ (jv:Int) (kV:Int) (jW:Int),v10 = .int .i64 jv/\aj (aU.l0 kq vw ((decide (a0 < 0)) != (decide (a1 < 0))) jv qp sG kV jW=some r)/\aj (kq<=kj3)/\aj (w'.heap[yK]? = some (.cells #[.int .u64 qp,.int .u64 sG] 179 (0,0)))/\aj (w'.heap[aa0]? = some (.cells #[.int .u64 kV,.int .u64 jW] 179 (0,0)))/\aj (Below w.heap.size w w'))
     case atStart=>exact ⟨(127),(0),(0),zT,H',⟨Nat.le_refl _⟩,⟨zK gU⟩,⟨by refine zD ?_;refine aY (cs := #[.int .u64 0,.int .u64 0]) ?_ 1 _ rfl;refine zD ?_;refine aY (cs := #[.int .u64 0,.int .u64 0]) ?_ 0 _ rfl;refine zD ?_;exact iJ.out⟩,⟨zB⟩⟩
     case round =>
      clear H';obtain ⟨jv,kV,jW,rfl,HA,HK2,gU,iJ,HB⟩:=hrel;cases gk with
      | zero=>exact absurd HA.out (by simp [aU.l0])
      | succ k2 =>
       have H:=HA.out;clear HA;simp only [aU.l0] at H;by_cases c22:jv>=vw
       ·rw [if_pos c22] at H;have axW:=decide_eq_true c22;clear c22;replace H:=zO H;obtain ⟨aly,A23,H⟩:=H;try dsimp only at H
        replace H:=zO H;obtain ⟨⟨aq2,avy⟩,A24,H⟩:=H;try dsimp only at H
        have H':=aj.mk H;clear H;try go_wp2
        obtain ⟨gU,iJ,HB⟩:=zA3 (kP gU.out) (kP iJ.out) (aZ HB.out);refine adr (n:=6) (S:=fun w'=>w'.cell? ⟨aa0,0,none⟩=some (.int .u64 kV)/\w'.cell? ⟨aa0,1,none⟩=some (.int .u64 jW)/\w'.cell? ⟨yK,0,none⟩=some (.int .u64 qp)/\w'.cell? ⟨yK,1,none⟩=some (.int .u64 sG)) (ds:=[5]) #[false,false,false,false,false,false] (by kernel_rfl) rfl rfl ⟨(au iJ.out 0).trans rfl,(au iJ.out 1).trans rfl,(au gU.out 0).trans rfl,(au gU.out 1).trans rfl⟩ (fun hHeld => ?_);generalize wr.drew=w25 at gU iJ HB hHeld ⊢;refine yE (i:=2) (N:=some 40) (v := ?_) (a' := ?_) #[false,false,true,false,false,false] rfl rfl (by kernel_rfl) (fun _ _ _ h=>h) (Or.inl ⟨by rfl,?_⟩) ?_ ?_;rotate_left
        ·intro w';go_simp
         with_reducible rfl
        rotate_left
        ·simp only [Act.put,List.setIfInBounds_toArray,List.set_cons_zero,List.set_cons_succ,cZ,dD];rfl
        refine zI (i:=0) (N:=some 38) (v := ?_) (a' := ?_) #[true,false,true,false,false,false] rfl rfl (by kernel_rfl) (fun _ _ _ h=>h) (Or.inl ⟨by rfl,?_⟩) hHeld ?_ ?_;rotate_left
        ·rintro w' ⟨s0,s1,s2,s3⟩;go_simp
         with_reducible rfl
        rotate_left
        ·simp only [Act.put,List.setIfInBounds_toArray,List.set_cons_zero,List.set_cons_succ,cZ,dD];rfl
        refine zI (i:=1) (N:=some 39) (v := ?_) (a' := ?_) #[true,true,true,false,false,false] rfl rfl (by kernel_rfl) (fun _ _ _ h=>h) (Or.inl ⟨by rfl,?_⟩) hHeld ?_ ?_;rotate_left
        ·rintro w' ⟨s0,s1,s2,s3⟩;go_simp
         with_reducible rfl
        rotate_left
        ·simp only [Act.put,List.setIfInBounds_toArray,List.set_cons_zero,List.set_cons_succ,cZ,dD];rfl
        refine abZ (i:=3) (N:=some 41) #[true,true,true,true,false,false] rfl rfl (by kernel_rfl) (by decide) (fun K hK => ?_);refine aaW Tryz.func121 (by kernel_rfl) rfl #[.agg #[.int .u64 qp,.int .u64 sG],.int .i64 jv] (by rfl) rfl rfl zL ?_;with_reducible refine (fK.calls qp sG jv aly _ A23.out).mono ?_
        rintro e w26 ⟨rfl,hb⟩;refine ⟨_,rfl,?_⟩;obtain ⟨gU,iJ,HB⟩:=zA3 (aA (zK gU) hb) (aA (zK iJ) hb) (ak zB hb)
        (try clear hb)
        (try clear hb2)
        (try clear hk)
        (try clear hi)
        refine hK.out _ _ ⟨(au iJ.out 0).trans rfl,(au iJ.out 1).trans rfl,(au gU.out 0).trans rfl,(au gU.out 1).trans rfl⟩ (fun hHeld => ?_);clear hK K;refine aaV (a' := ?_) ?_ ?_;rotate_left
        ·show Act.put _ (some 41) _=_
         simp only [Act.put,List.setIfInBounds_toArray,List.set_cons_zero,List.set_cons_succ,cZ,dD];rfl
        refine abZ (i:=4) (N:=some 42) #[true,true,true,true,true,false] rfl rfl (by kernel_rfl) (by decide) (fun K hK => ?_);refine aaW Tryz.func119 (by kernel_rfl) rfl #[.agg #[.int .u64 kV,.int .u64 jW],.int .u64 aly] (by rfl) rfl rfl zL ?_;with_reducible refine (dM.calls kV jW aly aq2 avy _ A24.out).mono ?_
        rintro e w27 ⟨rfl,hb⟩;refine ⟨_,rfl,?_⟩;obtain ⟨gU,iJ,HB⟩:=zA3 (aA (zK gU) hb) (aA (zK iJ) hb) (ak zB hb)
        (try clear hb)
        (try clear hb2)
        (try clear hk)
        (try clear hi)
        refine hK.out _ _ ⟨(au iJ.out 0).trans rfl,(au iJ.out 1).trans rfl,(au gU.out 0).trans rfl,(au gU.out 1).trans rfl⟩ (fun hHeld => ?_);clear hK K;refine aaV (a' := ?_) ?_ ?_;rotate_left
        ·show Act.put _ (some 42) _=_
         simp only [Act.put,List.setIfInBounds_toArray,List.set_cons_zero,List.set_cons_succ,cZ,dD];rfl
        refine akn (i:=5) (N:=none) #[true,true,true,true,true,true] rfl rfl (by kernel_rfl) (by decide) (fun K hK => ?_);have aEo:w27.cell? ⟨aa0,0,none⟩=some (.int .u64 kV):=(au iJ.out 0).trans rfl;have aDp:=aN iJ.out 0;have aAV:=uf.out;have aAW:=ug.out;have aEp:w27.cell? ⟨aa0,1,none⟩=some (.int .u64 jW):=(au iJ.out 1).trans rfl;have aDq:=aN iJ.out 1;have aAX:=uf.out;have aAY:=ug.out;refine aho (w1 := ?_) (by rfl) rfl ?_ ?_;rotate_left
        ·go_simp
         rfl
        refine hK.out _ _ ?_;clear hK K;refine afQ (by kernel_rfl) ?_;try go_wp2
        go_roundg k2
        case measure=>have:=HJ3.out;have:=HK2.out;omega
        case rel=>exact ⟨(wrap64 (jv - 1)),(aq2),(avy),zT,H',⟨by have:=HJ3.out;have:=HK2.out;omega⟩,⟨zK gU⟩,⟨by refine zD ?_;refine aY (cs := #[.int .u64 aq2,.int .u64 jW]) ?_ 1 _ rfl;refine zD ?_;refine aY (cs := #[.int .u64 kV,.int .u64 jW]) ?_ 0 _ rfl;refine zD ?_;exact iJ.out⟩,⟨zB⟩⟩
       ·rw [if_neg c22] at H;have axW:=decide_eq_false c22;clear c22;have H':=aj.mk H;clear H;go_wp2;try simp only [Act.put,List.setIfInBounds_toArray,List.set_cons_succ,List.set_cons_zero]
        go_loopg [11,45] k2 (fun kq v11 v45 w'=>∃ (ahQ:Bool) (ad3:Int),v11 = .bool ahQ/\v45 = .int .i64 ad3/\aj (aU.l1 kq vw ((decide (a0 < 0)) != (decide (a1 < 0))) ahQ (wrap64 (vw - 1)) ad3 qp sG kV jW=some r)/\aj (kq<=k2)/\aj (w'.heap[yK]? = some (.cells #[.int .u64 qp,.int .u64 sG] 179 (0,0)))/\aj (w'.heap[aa0]? = some (.cells #[.int .u64 kV,.int .u64 jW] 179 (0,0)))/\aj (Below w.heap.size w w'))
        case atStart=>exact ⟨(false),(0),zT,zT,H',⟨Nat.le_refl _⟩,⟨zK gU⟩,⟨zK iJ⟩,⟨zB⟩⟩
        case round =>
         clear H';obtain ⟨ahQ,ad3,rfl,rfl,HA,HK3,gU,iJ,HB⟩:=hrel;cases gk with
         | zero=>exact absurd HA.out (by simp [aU.l1])
         | succ k3 =>
          have H:=HA.out;clear HA;simp only [aU.l1] at H;by_cases c30:ad3 < (wrap64 (vw - 1))
          ·rw [if_pos c30] at H;have atq:=decide_eq_true c30;clear c30;by_cases c31:ahQ=true
           ·subst c31;rw [if_pos rfl] at H;(try dsimp only at H);have H':=aj.mk H;clear H;go_wp2;go_roundg k3
            case measure=>have:=HJ3.out;have:=HK2.out;have:=HK3.out;omega
            case rel=>exact ⟨(true),(wrap64 (ad3+1)),zT,zT,H',⟨by have:=HJ3.out;have:=HK2.out;have:=HK3.out;omega⟩,⟨zK gU⟩,⟨zK iJ⟩,⟨zB⟩⟩
           ·replace c31:=Bool.eq_false_iff.mpr c31;subst c31;rw [if_neg (show ¬ (false=true) by decide)] at H;(try dsimp only at H);replace H:=zO H;obtain ⟨aoo,A32,H⟩:=H;try dsimp only at H
            have H':=aj.mk H;clear H;have axN:=uf.out;have axO:=ug.out;obtain ⟨_,_⟩:=zC2 gU.out;obtain ⟨_,_⟩:=zF2 gU.out;go_wp2_with (first|(go_at_call 121;(with_reducible refine (fK.calls qp sG ad3 aoo _ A32.out).mono ?_);rintro e w35 ⟨rfl,hb⟩;obtain ⟨gU,iJ,HB⟩:=zA3 (aA (zK gU) hb) (aA (zK iJ) hb) (ak zB hb);(try clear hb)));go_roundg k3
            case measure=>have:=HJ3.out;have:=HK2.out;have:=HK3.out;omega
            case rel=>exact ⟨((aoo == 1)),(wrap64 (ad3+1)),zT,zT,H',⟨by have:=HJ3.out;have:=HK2.out;have:=HK3.out;omega⟩,⟨zK gU⟩,⟨zK iJ⟩,⟨zB⟩⟩
          ·rw [if_neg c30] at H;have atq:=decide_eq_false c30;clear c30;have aq3:=aj.mk H;clear H;go_upto_region 20 with (fail);go_cut [67] (fun v67 wc=>∃ (kq:Nat) (ahR:Bool),v67 = .bool ahR/\aj (aU.j3 kq ((decide (a0 < 0)) != (decide (a1 < 0))) ahR kV jW=some r)/\aj (kq<=k3)/\aj (wc.heap[yK]? = some (.cells #[.int .u64 qp,.int .u64 sG] 179 (0,0)))/\aj (wc.heap[aa0]? = some (.cells #[.int .u64 kV,.int .u64 jW] 179 (0,0)))/\aj (Below w.heap.size w wc))
           case first =>
            have H:=aq3.out;clear aq3;replace H:=zO H;obtain ⟨adg,A37,H⟩:=H;try dsimp only at H
            by_cases c38:adg=1
            ·rw [if_pos c38] at H;have ad1:(adg == 1)=true:=beq_iff_eq.mpr c38;have aom:(adg != 1)=false:=bne_eq_false_iff_eq.mpr c38;clear c38
             (first|rw [ad1]|(simp only [cZ,dD];rw [ad1])|skip)
             by_cases c39:ahQ=true
             ·subst c39;rw [if_pos rfl] at H;(try dsimp only at H);have H':=aj.mk H;clear H;have atb:=uf.out;have atc:=ug.out;obtain ⟨_,_⟩:=zC2 gU.out;obtain ⟨_,_⟩:=zF2 gU.out;go_wp2_with (first|((with_reducible refine ay (f:=121) rfl ?_);refine aH (some 59) rfl rfl Tryz.func121 (by kernel_rfl) rfl #[.agg #[.int .u64 qp,.int .u64 sG],.int .i64 (wrap64 (vw - 1))] rfl zL ?_;(with_reducible refine (fK.calls qp sG (wrap64 (vw - 1)) adg _ A37.out).mono ?_);rintro e w42 ⟨rfl,hb⟩;refine ⟨_,rfl,?_⟩;obtain ⟨gU,iJ,HB⟩:=zA3 (aA (zK gU) hb) (aA (zK iJ) hb) (ak zB hb);(try clear hb)));go_meet
              case rel=>exact ⟨_,(true),zT,H',⟨by have:=HJ3.out;have:=HK2.out;have:=HK3.out;first|omega|exact Nat.le_refl _⟩,⟨zK gU⟩,⟨zK iJ⟩,⟨zB⟩⟩
             ·replace c39:=Bool.eq_false_iff.mpr c39;subst c39;rw [if_neg (show ¬ (false=true) by decide)] at H;(try dsimp only at H);have H':=aj.mk H;clear H;have aDr:=uf.out;have aDs:=ug.out;obtain ⟨_,_⟩:=zC2 gU.out;obtain ⟨_,_⟩:=zF2 gU.out;go_wp2_with (first|((with_reducible refine ay (f:=121) rfl ?_);refine aH (some 59) rfl rfl Tryz.func121 (by kernel_rfl) rfl #[.agg #[.int .u64 qp,.int .u64 sG],.int .i64 (wrap64 (vw - 1))] rfl zL ?_;(with_reducible refine (fK.calls qp sG (wrap64 (vw - 1)) adg _ A37.out).mono ?_);rintro e w45 ⟨rfl,hb⟩;refine ⟨_,rfl,?_⟩;obtain ⟨gU,iJ,HB⟩:=zA3 (aA (zK gU) hb) (aA (zK iJ) hb) (ak zB hb);(try clear hb)));go_meet
              case rel=>exact ⟨_,(!((decide (a0 < 0)) != (decide (a1 < 0)))),(by first|rfl|(simp;done)|(simp [*];done)|(generalize decide (a0 < 0)=p_;generalize decide (a1 < 0)=q_;cases p_ <;> cases q_ <;> rfl)),H',⟨by have:=HJ3.out;have:=HK2.out;have:=HK3.out;first|omega|exact Nat.le_refl _⟩,⟨zK gU⟩,⟨zK iJ⟩,⟨zB⟩⟩
            ·rw [if_neg c38] at H;have ad1:(adg == 1)=false:=beq_eq_false_iff_ne.mpr c38;have aom:(adg != 1)=true:=bne_iff_ne.mpr c38
             (first|rw [ad1]|(simp only [cZ,dD];rw [ad1])|skip)
             have H':=aj.mk H;clear H;have atd:=uf.out;have ate:=ug.out;obtain ⟨_,_⟩:=zC2 gU.out;obtain ⟨_,_⟩:=zF2 gU.out;go_wp2_with (first|((with_reducible refine ay (f:=121) rfl ?_);refine aH (some 59) rfl rfl Tryz.func121 (by kernel_rfl) rfl #[.agg #[.int .u64 qp,.int .u64 sG],.int .i64 (wrap64 (vw - 1))] rfl zL ?_;(with_reducible refine (fK.calls qp sG (wrap64 (vw - 1)) adg _ A37.out).mono ?_);rintro e w48 ⟨rfl,hb⟩;refine ⟨_,rfl,?_⟩;obtain ⟨gU,iJ,HB⟩:=zA3 (aA (zK gU) hb) (aA (zK iJ) hb) (ak zB hb);(try clear hb)));go_meet
             case rel=>exact ⟨_,(false),zT,H',⟨by have:=HJ3.out;have:=HK2.out;have:=HK3.out;first|omega|exact Nat.le_refl _⟩,⟨zK gU⟩,⟨zK iJ⟩,⟨zB⟩⟩
           case rest =>
            clear aq3;obtain ⟨kq,ahR,rfl,HA,aEq,gU,iJ,HB⟩:=hcut;cases kq with
            | zero=>exact absurd HA.out (by simp [aU.j3])
            | succ avz =>
             have H:=HA.out;clear HA;simp only [aU.j3] at H;by_cases c49:ahR=true
             ·subst c49;rw [if_pos rfl] at H;(try dsimp only at H);replace H:=zO H;obtain ⟨⟨alz,aop⟩,A50,H⟩:=H;try dsimp only at H
              replace H:=zO H;obtain ⟨aq0,A51,H⟩:=H;try dsimp only at H
              obtain rfl:=Option.some.inj H;have axS:=ug.out;have axT:=uf.out;obtain ⟨_,_⟩:=zC2 iJ.out;obtain ⟨_,_⟩:=zF2 iJ.out;go_wp2_with (first|((with_reducible refine ay (f:=124) rfl ?_);refine aH (some 70) rfl rfl Tryz.func124 (by kernel_rfl) rfl #[.agg #[.int .u64 kV,.int .u64 jW],.agg #[.int .u64 0,.int .u64 1]] rfl zL ?_;(with_reducible refine (gY.calls kV jW 0 1 alz aop _ A50.out).mono ?_);rintro e w54 ⟨rfl,hb⟩;refine ⟨_,rfl,?_⟩;obtain ⟨gU,iJ,HB⟩:=zA3 (aA (zK gU) hb) (aA (zK iJ) hb) (ak zB hb);(try clear hb);obtain ⟨_,_⟩:=zC2 iJ.out;obtain ⟨_,_⟩:=zF2 iJ.out)|((with_reducible refine ay (f:=125) rfl ?_);refine aH (some 73) rfl rfl Tryz.func125 (by kernel_rfl) rfl #[.agg #[.int .u64 alz,.int .u64 aop],.bool ((decide (a0 < 0)) != (decide (a1 < 0)))] rfl zL ?_;(with_reducible refine (bY.calls avz alz aop ((decide (a0 < 0)) != (decide (a1 < 0))) aq0 _ A51.out).mono ?_);rintro e w56 ⟨rfl,hb⟩;refine ⟨_,rfl,?_⟩;obtain ⟨gU,iJ,HB⟩:=zA3 (aA (zK gU) hb) (aA (g:=aa0) (o := .cells #[.int .u64 alz,.int .u64 aop] 179 (0,0)) (by refine zD ?_;refine aY (cs := #[.int .u64 alz,.int .u64 jW]) ?_ 1 _ rfl;refine zD ?_;refine aY (cs := #[.int .u64 kV,.int .u64 jW]) ?_ 0 _ rfl;refine zD ?_;exact iJ.out) hb) (ak zB hb);(try clear hb)));go_ret;exact ⟨zS,zB⟩
             ·replace c49:=Bool.eq_false_iff.mpr c49;subst c49;rw [if_neg (show ¬ (false=true) by decide)] at H;(try dsimp only at H);replace H:=zO H;obtain ⟨aq1,A57,H⟩:=H;try dsimp only at H
              obtain rfl:=Option.some.inj H;have axC:=ug.out;have axD:=uf.out;obtain ⟨_,_⟩:=zC2 iJ.out;obtain ⟨_,_⟩:=zF2 iJ.out;go_wp2_with (first|((with_reducible refine ay (f:=125) rfl ?_);refine aH (some 73) rfl rfl Tryz.func125 (by kernel_rfl) rfl #[.agg #[.int .u64 kV,.int .u64 jW],.bool ((decide (a0 < 0)) != (decide (a1 < 0)))] rfl zL ?_;(with_reducible refine (bY.calls avz kV jW ((decide (a0 < 0)) != (decide (a1 < 0))) aq1 _ A57.out).mono ?_);rintro e w60 ⟨rfl,hb⟩;refine ⟨_,rfl,?_⟩;obtain ⟨gU,iJ,HB⟩:=zA3 (aA (zK gU) hb) (aA (zK iJ) hb) (ak zB hb);(try clear hb)));go_ret;exact ⟨zS,zB⟩
mutual
def dw.j0:Nat->Int->Int->Option (Int)
 | 0,_,_=>none
 | k+1,x0,x1=>(aX.f k 10851744800547 x0 x1).bind fun alA=>((aX.f k alA x0 x1).bind fun afy=>(dw.l0 k afy 1099511627776 0 1099511627776 1))
def dw.l0:Nat->Int->Int->Int->Int->Int->Option (Int)
 | 0,_,_,_,_,_=>none
 | k+1,x6,x7,x8,x9,x10=>if x10<=30 then ((aX.f k x9 x6 (wrap64 ((wrap64 ((wrap64 (2*x10))*(wrap64 ((wrap64 (2*x10))+1))))*1099511627776))).bind fun aco=>(if (Int.tmod x10 2)=1 then (dw.l0 k x6 x7 (wrap64 (x8+aco)) aco (wrap64 (x10+1))) else (dw.l0 k x6 (wrap64 (x7+aco)) x8 aco (wrap64 (x10+1))))) else (some (wrap64 (x7 - x8)))
end
def dw.f (k:Nat) (a0 a1:Int):Option (Int):=if a0 < 0 then (dw.j0 k (wrap64 (-a0)) a1) else (dw.j0 k a0 a1)
theorem dw.calls (k:Nat) (a0 a1 r:Int) (w:World) (h:dw.f k a0 a1=some r) :
  Calls Tryz.prog 186 #[.int .i64 a0,.int .i64 a1] w fun e w'=>e = .returned (.int .i64 r)/\Below w.heap.size w w':=by
 have HB:=aj.mk (Below.refl w.heap.size w);have H:=h;clear h;unfold dw.f at H;have HC3:=aj.mk H;clear H;go_enter Tryz.func186,Tryz.ntmps186;go_upto_if 13 with (fail)
 go_cut [0] (fun v0 wc=>∃ (kq:Nat) (agR:Int),v0 = .int .i64 agR/\aj (dw.j0 kq agR a1=some r)/\aj (kq<=k)/\aj (Below w.heap.size w wc))
 case first =>
  have H:=HC3.out;clear HC3;by_cases c4:a0 < 0
  ·rw [if_pos c4] at H;have fG:=decide_eq_true c4;clear c4
   (first|rw [fG]|(simp only [cZ,dD];rw [fG])|skip)
   have H':=aj.mk H;clear H;go_wp2;go_meet
   case rel=>exact ⟨_,(wrap64 (-a0)),zT,H',⟨by first|omega|exact Nat.le_refl _⟩,⟨zB⟩⟩
  ·rw [if_neg c4] at H;have fG:=decide_eq_false c4;clear c4
   (first|rw [fG]|(simp only [cZ,dD];rw [fG])|skip)
   have H':=aj.mk H;clear H;go_wp2;go_meet
   case rel=>exact ⟨_,(a0),zT,H',⟨by first|omega|exact Nat.le_refl _⟩,⟨zB⟩⟩
 case rest =>
  clear HC3;obtain ⟨kq,agR,rfl,HA,HJ2,HB⟩:=hcut;cases kq with
  | zero=>exact absurd HA.out (by simp [dw.j0])
  | succ kj2 =>
   have H:=HA.out;clear HA;simp only [dw.j0] at H;replace H:=zO H;obtain ⟨alA,A5,H⟩:=H;try dsimp only at H
   replace H:=zO H;obtain ⟨afy,A6,H⟩:=H;try dsimp only at H
   have H':=aj.mk H;clear H;go_wp2_with (first|((with_reducible refine ay (f:=118) rfl ?_);refine aH (some 18) rfl rfl Tryz.func118 (by kernel_rfl) rfl #[.int .i64 10851744800547,.int .i64 agR,.int .i64 a1] rfl zL ?_;(with_reducible refine (aX.calls kj2 10851744800547 agR a1 alA _ A5.out).mono ?_);rintro e w7 ⟨rfl,hb⟩;refine ⟨_,rfl,?_⟩;replace HB:=aj.mk (ak zB hb);(try clear hb))|((with_reducible refine ay (f:=118) rfl ?_);refine aH (some 22) rfl rfl Tryz.func118 (by kernel_rfl) rfl #[.int .i64 alA,.int .i64 agR,.int .i64 a1] rfl zL ?_;(with_reducible refine (aX.calls kj2 alA agR a1 afy _ A6.out).mono ?_);rintro e w8 ⟨rfl,hb⟩;refine ⟨_,rfl,?_⟩;replace HB:=aj.mk (ak zB hb);(try clear hb)));go_loopg [7,8,9,10] kj2 (fun kq v7 v8 v9 v10 w'=>∃ (aaM:Int) (lU:Int) (abz:Int) (jv:Int),v7 = .int .i64 aaM/\v8 = .int .i64 lU/\v9 = .int .i64 abz/\v10 = .int .i64 jv/\aj (dw.l0 kq afy aaM lU abz jv=some r)/\aj (kq<=kj2)/\aj (Below w.heap.size w w'))
   case atStart=>exact ⟨(1099511627776),(0),(1099511627776),(1),zT,zT,zT,zT,H',⟨Nat.le_refl _⟩,⟨zB⟩⟩
   case round =>
    clear H';obtain ⟨aaM,lU,abz,jv,rfl,rfl,rfl,rfl,HA,HK2,HB⟩:=hrel;cases gk with
    | zero=>exact absurd HA.out (by simp [dw.l0])
    | succ k2 =>
     have H:=HA.out;clear HA;simp only [dw.l0] at H;by_cases c9:jv<=30
     ·rw [if_pos c9] at H;have qH:=decide_eq_true c9;clear c9;replace H:=zO H;obtain ⟨aco,A10,H⟩:=H;try dsimp only at H
      by_cases c11:(Int.tmod jv 2)=1
      ·rw [if_pos c11] at H;have iV:((Int.tmod jv 2) == 1)=true:=beq_iff_eq.mpr c11;have xM:((Int.tmod jv 2) != 1)=false:=bne_eq_false_iff_eq.mpr c11;clear c11;have H':=aj.mk H;clear H;go_wp2_with (first|((with_reducible refine ay (f:=118) rfl ?_);refine aH (some 37) rfl rfl Tryz.func118 (by kernel_rfl) rfl #[.int .i64 abz,.int .i64 afy,.int .i64 (wrap64 ((wrap64 ((wrap64 (2*jv))*(wrap64 ((wrap64 (2*jv))+1))))*1099511627776))] rfl zL ?_;(with_reducible refine (aX.calls k2 abz afy (wrap64 ((wrap64 ((wrap64 (2*jv))*(wrap64 ((wrap64 (2*jv))+1))))*1099511627776)) aco _ A10.out).mono ?_);rintro e w12 ⟨rfl,hb⟩;refine ⟨_,rfl,?_⟩;replace HB:=aj.mk (ak zB hb);(try clear hb)));go_roundg k2
       case measure=>have:=HJ2.out;have:=HK2.out;omega
       case rel=>exact ⟨(aaM),(wrap64 (lU+aco)),(aco),(wrap64 (jv+1)),zT,zT,zT,zT,H',⟨by have:=HJ2.out;have:=HK2.out;omega⟩,⟨zB⟩⟩
      ·rw [if_neg c11] at H;have iV:((Int.tmod jv 2) == 1)=false:=beq_eq_false_iff_ne.mpr c11;have xM:((Int.tmod jv 2) != 1)=true:=bne_iff_ne.mpr c11;have H':=aj.mk H;clear H;go_wp2_with (first|((with_reducible refine ay (f:=118) rfl ?_);refine aH (some 37) rfl rfl Tryz.func118 (by kernel_rfl) rfl #[.int .i64 abz,.int .i64 afy,.int .i64 (wrap64 ((wrap64 ((wrap64 (2*jv))*(wrap64 ((wrap64 (2*jv))+1))))*1099511627776))] rfl zL ?_;(with_reducible refine (aX.calls k2 abz afy (wrap64 ((wrap64 ((wrap64 (2*jv))*(wrap64 ((wrap64 (2*jv))+1))))*1099511627776)) aco _ A10.out).mono ?_);rintro e w13 ⟨rfl,hb⟩;refine ⟨_,rfl,?_⟩;replace HB:=aj.mk (ak zB hb);(try clear hb)));go_roundg k2
       case measure=>have:=HJ2.out;have:=HK2.out;omega
       case rel=>exact ⟨(wrap64 (aaM+aco)),(lU),(aco),(wrap64 (jv+1)),zT,zT,zT,zT,H',⟨by have:=HJ2.out;have:=HK2.out;omega⟩,⟨zB⟩⟩
     ·rw [if_neg c9] at H;have qH:=decide_eq_false c9;clear c9;obtain rfl:=Option.some.inj H;go_wp2;go_ret;exact ⟨zS,zB⟩
def fB.j0:Nat->Int->Int->Bool->Option (Int)
 | 0,_,_,_=>none
 | k+1,x0,x1,x21=>if x21=true then (some 0) else ((dw.f k x0 x1).bind fun alB=>((dw.f k x0 (wrap64 (3*x1))).bind fun alC=>((aU.f k alB alC 40).bind fun alD=>((aJ.f k alD 10).bind fun aq4=>(some aq4)))))
def fB.f (k:Nat) (a0 a1:Int):Option (Int):=(lQ.f a0 a1).bind fun aq5=>(if aq5=true then (if a0>=(wrap64 (3*a1)) then (fB.j0 k a0 a1 true) else (fB.j0 k a0 a1 (decide (a0<=(wrap64 ((-3)*a1)))))) else (fB.j0 k a0 a1 true))
theorem fB.calls (k:Nat) (a0 a1 r:Int) (w:World) (h:fB.f k a0 a1=some r) :
  Calls Tryz.prog 171 #[.int .i64 a0,.int .i64 a1] w fun e w'=>e = .returned (.int .i64 r)/\Below w.heap.size w w':=by
 have HB:=aj.mk (Below.refl w.heap.size w);have H:=h;clear h;unfold fB.f at H;have HC3:=aj.mk H;clear H;go_enter Tryz.func171,Tryz.ntmps171;go_upto_region 1 with (fail);go_cut [21] (fun v21 wc=>∃ (kq:Nat) (akA:Bool),v21 = .bool akA/\aj (fB.j0 kq a0 a1 akA=some r)/\aj (kq<=k)/\aj (Below w.heap.size w wc))
 case first =>
  have H:=HC3.out;clear HC3;replace H:=zO H;obtain ⟨aq5,A4,H⟩:=H;try dsimp only at H
  by_cases c5:aq5=true
  ·subst c5;rw [if_pos rfl] at H;(try dsimp only at H);by_cases c6:a0>=(wrap64 (3*a1))
   ·rw [if_pos c6] at H;have iF:=decide_eq_true c6;clear c6
    (first|rw [iF]|(simp only [cZ,dD];rw [iF])|skip)
    have H':=aj.mk H;clear H;go_wp2_with (first|((with_reducible refine ay (f:=184) rfl ?_);refine aH (some 8) rfl rfl Tryz.func184 (by kernel_rfl) rfl #[.int .i64 a0,.int .i64 a1] rfl zL ?_;(with_reducible refine (lQ.calls a0 a1 true _ A4.out).mono ?_);rintro e w' ⟨rfl,⟨nd,rfl⟩⟩;refine ⟨_,rfl,?_⟩));go_meet
    case rel=>exact ⟨_,(true),zT,H',⟨by first|omega|exact Nat.le_refl _⟩,⟨zB⟩⟩
   ·rw [if_neg c6] at H;have iF:=decide_eq_false c6;clear c6
    (first|rw [iF]|(simp only [cZ,dD];rw [iF])|skip)
    have H':=aj.mk H;clear H;go_wp2_with (first|((with_reducible refine ay (f:=184) rfl ?_);refine aH (some 8) rfl rfl Tryz.func184 (by kernel_rfl) rfl #[.int .i64 a0,.int .i64 a1] rfl zL ?_;(with_reducible refine (lQ.calls a0 a1 true _ A4.out).mono ?_);rintro e w' ⟨rfl,⟨nd,rfl⟩⟩;refine ⟨_,rfl,?_⟩));go_meet
    case rel=>exact ⟨_,(decide (a0<=(wrap64 ((-3)*a1)))),zT,H',⟨by first|omega|exact Nat.le_refl _⟩,⟨zB⟩⟩
  ·replace c5:=Bool.eq_false_iff.mpr c5;subst c5;rw [if_neg (show ¬ (false=true) by decide)] at H;(try dsimp only at H);have H':=aj.mk H;clear H;go_wp2_with (first|((with_reducible refine ay (f:=184) rfl ?_);refine aH (some 8) rfl rfl Tryz.func184 (by kernel_rfl) rfl #[.int .i64 a0,.int .i64 a1] rfl zL ?_;(with_reducible refine (lQ.calls a0 a1 false _ A4.out).mono ?_);rintro e w' ⟨rfl,⟨nd,rfl⟩⟩;refine ⟨_,rfl,?_⟩));go_meet
   case rel=>exact ⟨_,(true),zT,H',⟨by first|omega|exact Nat.le_refl _⟩,⟨zB⟩⟩
 case rest =>
  clear HC3;obtain ⟨kq,akA,rfl,HA,HJ2,HB⟩:=hcut;cases kq with
  | zero=>exact absurd HA.out (by simp [fB.j0])
  | succ kj2 =>
   have H:=HA.out;clear HA;simp only [fB.j0] at H;by_cases c7:akA=true
   ·subst c7;rw [if_pos rfl] at H;(try dsimp only at H);obtain rfl:=Option.some.inj H;go_wp2;go_ret;exact ⟨zS,zB⟩
   ·replace c7:=Bool.eq_false_iff.mpr c7;subst c7;rw [if_neg (show ¬ (false=true) by decide)] at H;(try dsimp only at H);replace H:=zO H;obtain ⟨alB,A8,H⟩:=H;try dsimp only at H
    replace H:=zO H;obtain ⟨alC,A9,H⟩:=H;try dsimp only at H
    replace H:=zO H;obtain ⟨alD,A10,H⟩:=H;try dsimp only at H
    replace H:=zO H;obtain ⟨aq4,A11,H⟩:=H;try dsimp only at H
    obtain rfl:=Option.some.inj H;go_wp2_with (first|((with_reducible refine ay (f:=186) rfl ?_);refine aH (some 24) rfl rfl Tryz.func186 (by kernel_rfl) rfl #[.int .i64 a0,.int .i64 a1] rfl zL ?_;(with_reducible refine (dw.calls kj2 a0 a1 alB _ A8.out).mono ?_);rintro e w12 ⟨rfl,hb⟩;refine ⟨_,rfl,?_⟩;replace HB:=aj.mk (ak zB hb);(try clear hb))|((with_reducible refine ay (f:=186) rfl ?_);refine aH (some 28) rfl rfl Tryz.func186 (by kernel_rfl) rfl #[.int .i64 a0,.int .i64 (wrap64 (3*a1))] rfl zL ?_;(with_reducible refine (dw.calls kj2 a0 (wrap64 (3*a1)) alC _ A9.out).mono ?_);rintro e w13 ⟨rfl,hb⟩;refine ⟨_,rfl,?_⟩;replace HB:=aj.mk (ak zB hb);(try clear hb))|((with_reducible refine ay (f:=185) rfl ?_);refine aH (some 29) rfl rfl Tryz.func185 (by kernel_rfl) rfl #[.int .i64 alB,.int .i64 alC,.int .i64 40] rfl zL ?_;(with_reducible refine (aU.calls kj2 alB alC 40 alD _ A10.out).mono ?_);rintro e w14 ⟨rfl,hb⟩;refine ⟨_,rfl,?_⟩;replace HB:=aj.mk (ak zB hb);(try clear hb))|((with_reducible refine ay (f:=101) rfl ?_);refine aH (some 31) rfl rfl Tryz.func101 (by kernel_rfl) rfl #[.int .i64 alD,.int .i64 10] rfl zL ?_;(with_reducible refine (aJ.calls kj2 alD 10 aq4 _ A11.out).mono ?_);rintro e w15 ⟨rfl,hb⟩;refine ⟨_,rfl,?_⟩;replace HB:=aj.mk (ak zB hb);(try clear hb)));go_ret;exact ⟨zS,zB⟩
def mg.f (k:Nat) (a0 a1 a2 a3 a4:Int):Option (Int):=if a0=0 then (if (wrap64 (a4*a2)) > (wrap64 (a3*a1)) then (if (wrap64 ((wrap64 (a4+1))*a2)) < (wrap64 ((wrap64 (a3+1))*a1)) then ((aX.f k (wrap64 ((wrap64 ((wrap64 (a4+1))*a2)) - (wrap64 (a4*a2)))) 1073741824 a1).bind fun aq6=>(some aq6)) else ((aX.f k (wrap64 ((wrap64 ((wrap64 (a3+1))*a1)) - (wrap64 (a4*a2)))) 1073741824 a1).bind fun aq7=>(some aq7))) else (if (wrap64 ((wrap64 (a4+1))*a2)) < (wrap64 ((wrap64 (a3+1))*a1)) then ((aX.f k (wrap64 ((wrap64 ((wrap64 (a4+1))*a2)) - (wrap64 (a3*a1)))) 1073741824 a1).bind fun aq8=>(some aq8)) else ((aX.f k (wrap64 ((wrap64 ((wrap64 (a3+1))*a1)) - (wrap64 (a3*a1)))) 1073741824 a1).bind fun aq9=>(some aq9)))) else ((gG.f a1 a2 a3 a4).bind fun akB=>(if a0=1 then ((bU.f k akB.1 akB.2).bind fun ara=>(some ara)) else ((fB.f k akB.1 akB.2).bind fun arb=>(some arb))))
theorem mg.calls (k:Nat) (a0 a1 a2 a3 a4 r:Int) (w:World) (h:mg.f k a0 a1 a2 a3 a4=some r) :
  Calls Tryz.prog 141 #[.int .i64 a0,.int .i64 a1,.int .i64 a2,.int .i64 a3,.int .i64 a4] w fun e w'=>e = .returned (.int .i64 r)/\Below w.heap.size w w':=by
 have HB:=aj.mk (Below.refl w.heap.size w);have H:=h;clear h;unfold mg.f at H;by_cases c6:a0=0
 ·rw [if_pos c6] at H;have iF:(a0 == 0)=true:=beq_iff_eq.mpr c6;have vP:(a0 != 0)=false:=bne_eq_false_iff_eq.mpr c6;clear c6;by_cases c7:(wrap64 (a4*a2)) > (wrap64 (a3*a1))
  ·rw [if_pos c7] at H;have jk:=decide_eq_true c7;clear c7;by_cases c8:(wrap64 ((wrap64 (a4+1))*a2)) < (wrap64 ((wrap64 (a3+1))*a1))
   ·rw [if_pos c8] at H;have vS:=decide_eq_true c8;clear c8;replace H:=zO H;obtain ⟨aq6,A9,H⟩:=H;try dsimp only at H
    obtain rfl:=Option.some.inj H;go_enter Tryz.func141,Tryz.ntmps141;go_wp2_with (first|((with_reducible refine ay (f:=118) rfl ?_);refine aH (some 46) rfl rfl Tryz.func118 (by kernel_rfl) rfl #[.int .i64 (wrap64 ((wrap64 ((wrap64 (a4+1))*a2)) - (wrap64 (a4*a2)))),.int .i64 1073741824,.int .i64 a1] rfl zL ?_;(with_reducible refine (aX.calls k (wrap64 ((wrap64 ((wrap64 (a4+1))*a2)) - (wrap64 (a4*a2)))) 1073741824 a1 aq6 _ A9.out).mono ?_);rintro e w10 ⟨rfl,hb⟩;refine ⟨_,rfl,?_⟩;replace HB:=aj.mk (ak zB hb);(try clear hb)));go_ret;exact ⟨zS,zB⟩
   ·rw [if_neg c8] at H;have vS:=decide_eq_false c8;clear c8;replace H:=zO H;obtain ⟨aq7,A11,H⟩:=H;try dsimp only at H
    obtain rfl:=Option.some.inj H;go_enter Tryz.func141,Tryz.ntmps141;go_wp2_with (first|((with_reducible refine ay (f:=118) rfl ?_);refine aH (some 46) rfl rfl Tryz.func118 (by kernel_rfl) rfl #[.int .i64 (wrap64 ((wrap64 ((wrap64 (a3+1))*a1)) - (wrap64 (a4*a2)))),.int .i64 1073741824,.int .i64 a1] rfl zL ?_;(with_reducible refine (aX.calls k (wrap64 ((wrap64 ((wrap64 (a3+1))*a1)) - (wrap64 (a4*a2)))) 1073741824 a1 aq7 _ A11.out).mono ?_);rintro e w12 ⟨rfl,hb⟩;refine ⟨_,rfl,?_⟩;replace HB:=aj.mk (ak zB hb);(try clear hb)));go_ret;exact ⟨zS,zB⟩
  ·rw [if_neg c7] at H;have jk:=decide_eq_false c7;clear c7;by_cases c13:(wrap64 ((wrap64 (a4+1))*a2)) < (wrap64 ((wrap64 (a3+1))*a1))
   ·rw [if_pos c13] at H;have aa1:=decide_eq_true c13;clear c13;replace H:=zO H;obtain ⟨aq8,A14,H⟩:=H;try dsimp only at H
    obtain rfl:=Option.some.inj H;go_enter Tryz.func141,Tryz.ntmps141;go_wp2_with (first|((with_reducible refine ay (f:=118) rfl ?_);refine aH (some 46) rfl rfl Tryz.func118 (by kernel_rfl) rfl #[.int .i64 (wrap64 ((wrap64 ((wrap64 (a4+1))*a2)) - (wrap64 (a3*a1)))),.int .i64 1073741824,.int .i64 a1] rfl zL ?_;(with_reducible refine (aX.calls k (wrap64 ((wrap64 ((wrap64 (a4+1))*a2)) - (wrap64 (a3*a1)))) 1073741824 a1 aq8 _ A14.out).mono ?_);rintro e w15 ⟨rfl,hb⟩;refine ⟨_,rfl,?_⟩;replace HB:=aj.mk (ak zB hb);(try clear hb)));go_ret;exact ⟨zS,zB⟩
   ·rw [if_neg c13] at H;have aa1:=decide_eq_false c13;clear c13;replace H:=zO H;obtain ⟨aq9,A16,H⟩:=H;try dsimp only at H
    obtain rfl:=Option.some.inj H;go_enter Tryz.func141,Tryz.ntmps141;go_wp2_with (first|((with_reducible refine ay (f:=118) rfl ?_);refine aH (some 46) rfl rfl Tryz.func118 (by kernel_rfl) rfl #[.int .i64 (wrap64 ((wrap64 ((wrap64 (a3+1))*a1)) - (wrap64 (a3*a1)))),.int .i64 1073741824,.int .i64 a1] rfl zL ?_;(with_reducible refine (aX.calls k (wrap64 ((wrap64 ((wrap64 (a3+1))*a1)) - (wrap64 (a3*a1)))) 1073741824 a1 aq9 _ A16.out).mono ?_);rintro e w17 ⟨rfl,hb⟩;refine ⟨_,rfl,?_⟩;replace HB:=aj.mk (ak zB hb);(try clear hb)));go_ret;exact ⟨zS,zB⟩
 ·rw [if_neg c6] at H;have iF:(a0 == 0)=false:=beq_eq_false_iff_ne.mpr c6;have vP:(a0 != 0)=true:=bne_iff_ne.mpr c6;replace H:=zO H;obtain ⟨⟨aiU,aiV⟩,A18,H⟩:=H;try dsimp only at H
  by_cases c19:a0=1
  ·rw [if_pos c19] at H;have axX:(a0 == 1)=true:=beq_iff_eq.mpr c19;have axY:(a0 != 1)=false:=bne_eq_false_iff_eq.mpr c19;clear c19;replace H:=zO H;obtain ⟨ara,A20,H⟩:=H;try dsimp only at H
   obtain rfl:=Option.some.inj H;go_enter Tryz.func141,Tryz.ntmps141;go_wp2_with (first|((with_reducible refine ay (f:=169) rfl ?_);refine aH (some 52) rfl rfl Tryz.func169 (by kernel_rfl) rfl #[.int .i64 a1,.int .i64 a2,.int .i64 a3,.int .i64 a4] rfl zL ?_;(with_reducible refine (gG.calls a1 a2 a3 a4 aiU aiV _ A18.out).mono ?_);rintro e w' ⟨rfl,⟨nd,rfl⟩⟩;refine ⟨_,rfl,?_⟩)|((with_reducible refine ay (f:=170) rfl ?_);refine aH (some 59) rfl rfl Tryz.func170 (by kernel_rfl) rfl #[.int .i64 aiU,.int .i64 aiV] rfl zL ?_;(with_reducible refine (bU.calls k aiU aiV ara _ A20.out).mono ?_);rintro e w21 ⟨rfl,hb⟩;refine ⟨_,rfl,?_⟩;replace HB:=aj.mk (ak zB hb);(try clear hb)));go_ret;exact ⟨zS,zB⟩
  ·rw [if_neg c19] at H;have axX:(a0 == 1)=false:=beq_eq_false_iff_ne.mpr c19;have axY:(a0 != 1)=true:=bne_iff_ne.mpr c19;replace H:=zO H;obtain ⟨arb,A22,H⟩:=H;try dsimp only at H
   obtain rfl:=Option.some.inj H;go_enter Tryz.func141,Tryz.ntmps141;go_wp2_with (first|((with_reducible refine ay (f:=169) rfl ?_);refine aH (some 52) rfl rfl Tryz.func169 (by kernel_rfl) rfl #[.int .i64 a1,.int .i64 a2,.int .i64 a3,.int .i64 a4] rfl zL ?_;(with_reducible refine (gG.calls a1 a2 a3 a4 aiU aiV _ A18.out).mono ?_);rintro e w' ⟨rfl,⟨nd,rfl⟩⟩;refine ⟨_,rfl,?_⟩)|((with_reducible refine ay (f:=171) rfl ?_);refine aH (some 62) rfl rfl Tryz.func171 (by kernel_rfl) rfl #[.int .i64 aiU,.int .i64 aiV] rfl zL ?_;(with_reducible refine (fB.calls k aiU aiV arb _ A22.out).mono ?_);rintro e w23 ⟨rfl,hb⟩;refine ⟨_,rfl,?_⟩;replace HB:=aj.mk (ak zB hb);(try clear hb)));go_ret;exact ⟨zS,zB⟩
mutual
def bZ.l0:Nat->Int->Int->Int->Int->Int->Option (Int × List Int)
 | 0,_,_,_,_,_=>none
 | k+1,x0,x1,x2,x3,x10=>(ji.f x0 x1 x2 x3 (wrap64 (x10 - 1))).bind fun ard=>(if ard=true then (bZ.l0 k x0 x1 x2 x3 (wrap64 (x10 - 1))) else (bZ.l1 k x0 x1 x2 x3 x10))
def bZ.l1:Nat->Int->Int->Int->Int->Int->Option (Int × List Int)
 | 0,_,_,_,_,_=>none
 | k+1,x0,x1,x2,x3,x10=>(ji.f x0 x1 x2 x3 x10).bind fun arf=>(if arf=true then (bZ.l2 k x0 x1 x2 x3 x10 x10 ([]:List Int)) else (bZ.l1 k x0 x1 x2 x3 (wrap64 (x10+1))))
def bZ.l2:Nat->Int->Int->Int->Int->Int->Int->List Int->Option (Int × List Int)
 | 0,_,_,_,_,_,_,_=>none
 | k+1,x0,x1,x2,x3,x10,x11,x12=>(ji.f x0 x1 x2 x3 x10).bind fun arh=>(if arh=true then ((mg.f k x0 x1 x2 x3 x10).bind fun aiW=>(if x12.length < 17592186044416 then (bZ.l2 k x0 x1 x2 x3 (wrap64 (x10+1)) x11 (x12 ++ [aiW])) else (none))) else (some (x11,x12)))
end
def bZ.f (k:Nat) (a0 a1 a2 a3:Int):Option (Int × List Int):=(lM.f a0 a1 a2 a3).bind fun ari=>(if ari=true then (if a2=0 then (none) else (bZ.l0 k a0 a1 a2 a3 (wrap64 (Int.tdiv (wrap64 (a3*a1)) a2)))) else (some (0,([]:List Int))))
theorem bZ.calls (k:Nat) (a0 a1 a2 a3 r1:Int) (r2:List Int) (w:World) (h:bZ.f k a0 a1 a2 a3=some (r1,r2)) :
  Calls Tryz.prog 114 #[.int .i64 a0,.int .i64 a1,.int .i64 a2,.int .i64 a3] w fun e w'=>∃ v1_:Value,e = .returned (.tuple #[.int .i64 r1,v1_])/\Kd.R (Kd.int .i64) 2 w' w.heap.size (fun _=>True) v1_ r2/\Below w.heap.size w w':=by
 have HB:=aj.mk (Below.refl w.heap.size w);have H:=h;clear h;unfold bZ.f at H;replace H:=zO H;obtain ⟨ari,A5,H⟩:=H;try dsimp only at H
 by_cases c6:ari=true
 ·subst c6;rw [if_pos rfl] at H;(try dsimp only at H);by_cases c7:a2=0
  ·rw [if_pos c7] at H;exact absurd H (by simp)
  ·rw [if_neg c7] at H;have jk:(a2 == 0)=false:=beq_eq_false_iff_ne.mpr c7;have aaB:(a2 != 0)=true:=bne_iff_ne.mpr c7;have H':=aj.mk H;clear H;go_enter Tryz.func114,Tryz.ntmps114;go_wp2_with (first|((with_reducible refine ay (f:=139) rfl ?_);refine aH (some 17) rfl rfl Tryz.func139 (by kernel_rfl) rfl #[.int .i64 a0,.int .i64 a1,.int .i64 a2,.int .i64 a3] rfl zL ?_;(with_reducible refine (lM.calls a0 a1 a2 a3 true _ A5.out).mono ?_);rintro e w' ⟨rfl,⟨nd,rfl⟩⟩;refine ⟨_,rfl,?_⟩));go_loopg [10] k (fun kq v10 w'=>∃ (wZ:Int),v10 = .int .i64 wZ/\aj (bZ.l0 kq a0 a1 a2 a3 wZ=some (r1,r2))/\aj (kq<=k)/\aj (Below w.heap.size w w'))
   case atStart=>exact ⟨(wrap64 (Int.tdiv (wrap64 (a3*a1)) a2)),zT,H',⟨Nat.le_refl _⟩,⟨zB⟩⟩
   case round =>
    clear H';obtain ⟨wZ,rfl,HA,HK1,HB⟩:=hrel;cases gk with
    | zero=>exact absurd HA.out (by simp [bZ.l0])
    | succ k1 =>
     have H:=HA.out;clear HA;simp only [bZ.l0] at H;replace H:=zO H;obtain ⟨ard,A8,H⟩:=H;try dsimp only at H
     by_cases c9:ard=true
     ·subst c9;rw [if_pos rfl] at H;(try dsimp only at H);have H':=aj.mk H;clear H;go_wp2_with (first|((with_reducible refine ay (f:=140) rfl ?_);refine aH (some 30) rfl rfl Tryz.func140 (by kernel_rfl) rfl #[.int .i64 a0,.int .i64 a1,.int .i64 a2,.int .i64 a3,.int .i64 (wrap64 (wZ - 1))] rfl zL ?_;(with_reducible refine (ji.calls a0 a1 a2 a3 (wrap64 (wZ - 1)) true _ A8.out).mono ?_);rintro e w' ⟨rfl,⟨nd,rfl⟩⟩;refine ⟨_,rfl,?_⟩));go_roundg k1
      case measure=>have:=HK1.out;omega
      case rel=>exact ⟨(wrap64 (wZ - 1)),zT,H',⟨by have:=HK1.out;omega⟩,⟨zB⟩⟩
     ·replace c9:=Bool.eq_false_iff.mpr c9;subst c9;rw [if_neg (show ¬ (false=true) by decide)] at H;(try dsimp only at H);have H':=aj.mk H;clear H;go_wp2_with (first|((with_reducible refine ay (f:=140) rfl ?_);refine aH (some 30) rfl rfl Tryz.func140 (by kernel_rfl) rfl #[.int .i64 a0,.int .i64 a1,.int .i64 a2,.int .i64 a3,.int .i64 (wrap64 (wZ - 1))] rfl zL ?_;(with_reducible refine (ji.calls a0 a1 a2 a3 (wrap64 (wZ - 1)) false _ A8.out).mono ?_);rintro e w' ⟨rfl,⟨nd,rfl⟩⟩;refine ⟨_,rfl,?_⟩));try simp only [Act.put,List.setIfInBounds_toArray,List.set_cons_succ,List.set_cons_zero]
      go_loopg [10] k1 (fun kq v10 w'=>∃ (jv:Int),v10 = .int .i64 jv/\aj (bZ.l1 kq a0 a1 a2 a3 jv=some (r1,r2))/\aj (kq<=k1)/\aj (Below w.heap.size w w'))
      case atStart=>exact ⟨(wZ),zT,H',⟨Nat.le_refl _⟩,⟨zB⟩⟩
      case round =>
       clear H';obtain ⟨jv,rfl,HA,HK2,HB⟩:=hrel;cases gk with
       | zero=>exact absurd HA.out (by simp [bZ.l1])
       | succ k2 =>
        have H:=HA.out;clear HA;simp only [bZ.l1] at H;replace H:=zO H;obtain ⟨arf,A10,H⟩:=H;try dsimp only at H
        by_cases c11:arf=true
        ·subst c11;rw [if_pos rfl] at H;(try dsimp only at H);have H':=aj.mk H;clear H;go_wp2_with (first|((with_reducible refine ay (f:=140) rfl ?_);refine aH (some 38) rfl rfl Tryz.func140 (by kernel_rfl) rfl #[.int .i64 a0,.int .i64 a1,.int .i64 a2,.int .i64 a3,.int .i64 jv] rfl zL ?_;(with_reducible refine (ji.calls a0 a1 a2 a3 jv true _ A10.out).mono ?_);rintro e w' ⟨rfl,⟨nd,rfl⟩⟩;refine ⟨_,rfl,?_⟩));try simp only [Act.put,List.setIfInBounds_toArray,List.set_cons_succ,List.set_cons_zero]
         go_loopg [10,12] k2 (fun kq v10 v12 w'=>∃ (nT:Int) (af7:List Int),v10 = .int .i64 nT/\aj (bZ.l2 kq a0 a1 a2 a3 nT jv af7=some (r1,r2))/\aj (kq<=k2)/\aj (Kd.R (Kd.int .i64) 2 w' w.heap.size (fun _=>True) v12 af7)/\aj (Below w.heap.size w w'))
         case atStart=>exact ⟨(jv),(([]:List Int)),zT,H',⟨Nat.le_refl _⟩,⟨by first|exact Kd.jY _ _ _ _ _|exact Kd.qB _ _ _ _ _|exact Kd.oL _ _ _ _ _|exact Kd.qC _ _ _ _ _|exact Kd.pW _ _ _ _ _⟩,⟨zB⟩⟩
         case round =>
          clear H';obtain ⟨nT,af7,rfl,HA,HK3,akC,HB⟩:=hrel;cases gk with
          | zero=>exact absurd HA.out (by simp [bZ.l2])
          | succ k3 =>
           have H:=HA.out;clear HA;simp only [bZ.l2] at H;replace H:=zO H;obtain ⟨arh,A12,H⟩:=H;try dsimp only at H
           by_cases c13:arh=true
           ·subst c13;rw [if_pos rfl] at H;(try dsimp only at H);replace H:=zO H;obtain ⟨aiW,A14,H⟩:=H;try dsimp only at H
            by_cases c15:af7.length < 17592186044416
            ·rw [if_pos c15] at H;have aoq:=aj.mk c15;clear c15;obtain ⟨avA,ahS⟩:∃ y_:List Int,y_=(af7 ++ [aiW]):=⟨_,rfl⟩;replace H:(bZ.l2 k3 a0 a1 a2 a3 (wrap64 (nT+1)) jv avA)=some (r1,r2):=(by first|(rw [ahS];with_reducible exact H)|(have H2_:=(Option.bind_some _ _).symm.trans H;rw [ahS];with_reducible exact H2_)|(have H2_:=(Option.bind_some _ _).symm.trans H;with_reducible exact H2_)|with_reducible exact H|(rw [ahS];exact H)|exact H);have axZ:=aj.mk ahS;clear ahS;have H':=aj.mk H;clear H;go_wp2_with (first|((with_reducible refine ay (f:=140) rfl ?_);refine aH (some 48) rfl rfl Tryz.func140 (by kernel_rfl) rfl #[.int .i64 a0,.int .i64 a1,.int .i64 a2,.int .i64 a3,.int .i64 nT] rfl zL ?_;(with_reducible refine (ji.calls a0 a1 a2 a3 nT true _ A12.out).mono ?_);rintro e w' ⟨rfl,⟨nd,rfl⟩⟩;refine ⟨_,rfl,?_⟩)|((with_reducible refine ay (f:=141) rfl ?_);refine aH (some 55) rfl rfl Tryz.func141 (by kernel_rfl) rfl #[.int .i64 a0,.int .i64 a1,.int .i64 a2,.int .i64 a3,.int .i64 nT] rfl zL ?_;(with_reducible refine (mg.calls k3 a0 a1 a2 a3 nT aiW _ A14.out).mono ?_);rintro e w16 ⟨rfl,hb⟩;refine ⟨_,rfl,?_⟩;obtain ⟨akC,HB⟩:=zA2 (Kd.jc (by (with_reducible repeat (first|apply Kd.aK|apply Kd.aQ|apply Kd.aW));exact akC.out) hb) (ak zB hb);(try clear hb))|((with_reducible refine jQ (b := .append) (xs := #[.tmp 49,.tmp 56]) rfl ?_);at_builtin;refine Kd.kW (Kd.int .i64) (w0:=w) w.heap.size rfl (.tmp 49) (.tmp 56) 44 2 (.int .i64 0) 8 rfl Tryz.underlying44 wQ rfl (by decide) (by omega) u12 af7 aiW [.int .i64 aiW] (fun _=>True) (fun _=>False) rfl rfl ?aP (fun _ hk=>hk.elim) ?aF ?aO ?aB ?aS ?aL ?_;(case aP=>exact rfl);(case aB=>exact zB);(case aF=>exact (fun _ _=>trivial));(case aO=>exact (by (with_reducible repeat (first|apply Kd.aK|apply Kd.aQ|apply Kd.aW));exact akC.out));(case aS=>exact (bT zB));(case aL=>have:=aoq.out;omega);intro aEr w17 ho hb hg hat;rw [<- axZ.out] at ho;obtain ⟨HB,ax0⟩:=zA2 hb ho;clear ho hb hg hat));go_roundg k3
             case measure=>have:=HK1.out;have:=HK2.out;have:=HK3.out;omega
             case rel=>exact ⟨(wrap64 (nT+1)),(avA),zT,H',⟨by have:=HK1.out;have:=HK2.out;have:=HK3.out;omega⟩,⟨by (with_reducible repeat (first|apply Kd.aK|apply Kd.aQ|apply Kd.aW));exact ax0.out⟩,⟨zB⟩⟩
            ·rw [if_neg c15] at H;exact absurd H (by simp)
           ·replace c13:=Bool.eq_false_iff.mpr c13;subst c13;rw [if_neg (show ¬ (false=true) by decide)] at H;(try dsimp only at H);simp only [Option.some.injEq,Prod.mk.injEq] at H;obtain ⟨rfl,rfl⟩:=H;go_wp2_with (first|((with_reducible refine ay (f:=140) rfl ?_);refine aH (some 48) rfl rfl Tryz.func140 (by kernel_rfl) rfl #[.int .i64 a0,.int .i64 a1,.int .i64 a2,.int .i64 a3,.int .i64 nT] rfl zL ?_;(with_reducible refine (ji.calls a0 a1 a2 a3 nT false _ A12.out).mono ?_);rintro e w' ⟨rfl,⟨nd,rfl⟩⟩;refine ⟨_,rfl,?_⟩));go_ret2;exact ⟨_,zS,by (with_reducible repeat (first|apply Kd.aK|apply Kd.aQ|apply Kd.aW));exact akC.out,zB⟩
        ·replace c11:=Bool.eq_false_iff.mpr c11;subst c11;rw [if_neg (show ¬ (false=true) by decide)] at H;(try dsimp only at H);have H':=aj.mk H;clear H;go_wp2_with (first|((with_reducible refine ay (f:=140) rfl ?_);refine aH (some 38) rfl rfl Tryz.func140 (by kernel_rfl) rfl #[.int .i64 a0,.int .i64 a1,.int .i64 a2,.int .i64 a3,.int .i64 jv] rfl zL ?_;(with_reducible refine (ji.calls a0 a1 a2 a3 jv false _ A10.out).mono ?_);rintro e w' ⟨rfl,⟨nd,rfl⟩⟩;refine ⟨_,rfl,?_⟩));go_roundg k2
         case measure=>have:=HK1.out;have:=HK2.out;omega
         case rel=>exact ⟨(wrap64 (jv+1)),zT,H',⟨by have:=HK1.out;have:=HK2.out;omega⟩,⟨zB⟩⟩
 ·replace c6:=Bool.eq_false_iff.mpr c6;subst c6;rw [if_neg (show ¬ (false=true) by decide)] at H;(try dsimp only at H);simp only [Option.some.injEq,Prod.mk.injEq] at H;obtain ⟨rfl,rfl⟩:=H;go_enter Tryz.func114,Tryz.ntmps114;go_wp2_with (first|((with_reducible refine ay (f:=139) rfl ?_);refine aH (some 17) rfl rfl Tryz.func139 (by kernel_rfl) rfl #[.int .i64 a0,.int .i64 a1,.int .i64 a2,.int .i64 a3] rfl zL ?_;(with_reducible refine (lM.calls a0 a1 a2 a3 false _ A5.out).mono ?_);rintro e w' ⟨rfl,⟨nd,rfl⟩⟩;refine ⟨_,rfl,?_⟩));go_ret2;exact ⟨_,zS,by first|exact Kd.jY _ _ _ _ _|exact Kd.qB _ _ _ _ _|exact Kd.oL _ _ _ _ _|exact Kd.qC _ _ _ _ _|exact Kd.pW _ _ _ _ _,zB⟩
def iT.f (a0:Int):Option (Int):=if a0>=0 then (some a0) else (if a0 < (-9223372036854775807) then (some 9223372036854775807) else (some (wrap64 (-a0))))
theorem iT.calls (a0 r:Int) (w:World) (h:iT.f a0=some r) :
  Calls Tryz.prog 142 #[.int .i64 a0] w fun e w'=>e = .returned (.int .i64 r)/\dG w w':=by
 have H:=h;clear h;unfold iT.f at H;by_cases c2:a0>=0
 ·rw [if_pos c2] at H;have nK:=decide_eq_true c2;clear c2;obtain rfl:=Option.some.inj H;go_enter Tryz.func142,Tryz.ntmps142;go_wp2;go_ret;exact ⟨zT,zW⟩
 ·rw [if_neg c2] at H;have nK:=decide_eq_false c2;clear c2;by_cases c3:a0 < (-9223372036854775807)
  ·rw [if_pos c3] at H;have gI:=decide_eq_true c3;clear c3;obtain rfl:=Option.some.inj H;go_enter Tryz.func142,Tryz.ntmps142;go_wp2;go_ret;exact ⟨zT,zW⟩
  ·rw [if_neg c3] at H;have gI:=decide_eq_false c3;clear c3;obtain rfl:=Option.some.inj H;go_enter Tryz.func142,Tryz.ntmps142;go_wp2;go_ret;exact ⟨zT,zW⟩
def gZ.j0:Nat->Int->Int->Bool->Option (Int)
 | 0,_,_,_=>none
 | k+1,x0,x1,x12=>if x12=true then (some 9223372036854775807) else (if x1 < 0 then (if x0 < (wrap64 ((-9223372036854775808) - x1)) then (some (-9223372036854775808)) else (some (wrap64 (x0+x1)))) else (some (wrap64 (x0+x1))))
def gZ.f (k:Nat) (a0 a1:Int):Option (Int):=if a1 > 0 then (gZ.j0 k a0 a1 (decide (a0 > (wrap64 (9223372036854775807 - a1))))) else (gZ.j0 k a0 a1 false)
theorem gZ.calls (k:Nat) (a0 a1 r:Int) (w:World) (h:gZ.f k a0 a1=some r) :
  Calls Tryz.prog 147 #[.int .i64 a0,.int .i64 a1] w fun e w'=>e = .returned (.int .i64 r)/\dG w w':=by
 have H:=h;clear h;unfold gZ.f at H;have HC3:=aj.mk H;clear H;go_enter Tryz.func147,Tryz.ntmps147;go_upto_region 1 with (fail);go_cut [12] (fun v12 wc=>∃ (kq:Nat) (akD:Bool),v12 = .bool akD/\aj (gZ.j0 kq a0 a1 akD=some r)/\aj (kq<=k)/\dG w wc)
 case first =>
  have H:=HC3.out;clear HC3;by_cases c4:a1 > 0
  ·rw [if_pos c4] at H;have fG:=decide_eq_true c4;clear c4
   (first|rw [fG]|(simp only [cZ,dD];rw [fG])|skip)
   have H':=aj.mk H;clear H;go_wp2;go_meet
   case rel=>exact ⟨_,(decide (a0 > (wrap64 (9223372036854775807 - a1)))),zT,H',⟨by first|omega|exact Nat.le_refl _⟩,zW⟩
  ·rw [if_neg c4] at H;have fG:=decide_eq_false c4;clear c4
   (first|rw [fG]|(simp only [cZ,dD];rw [fG])|skip)
   have H':=aj.mk H;clear H;go_wp2;go_meet
   case rel=>exact ⟨_,(false),zT,H',⟨by first|omega|exact Nat.le_refl _⟩,zW⟩
 case rest =>
  clear HC3;obtain ⟨kq,akD,rfl,HA,HJ2,⟨mc2,rfl⟩⟩:=hcut;cases kq with
  | zero=>exact absurd HA.out (by simp [gZ.j0])
  | succ kj2 =>
   have H:=HA.out;clear HA;simp only [gZ.j0] at H;by_cases c5:akD=true
   ·subst c5;rw [if_pos rfl] at H;(try dsimp only at H);obtain rfl:=Option.some.inj H;go_wp2;go_ret;exact ⟨zT,zW⟩
   ·replace c5:=Bool.eq_false_iff.mpr c5;subst c5;rw [if_neg (show ¬ (false=true) by decide)] at H;(try dsimp only at H);by_cases c6:a1 < 0
    ·rw [if_pos c6] at H;have iF:=decide_eq_true c6;clear c6;by_cases c7:a0 < (wrap64 ((-9223372036854775808) - a1))
     ·rw [if_pos c7] at H;have jk:=decide_eq_true c7;clear c7;obtain rfl:=Option.some.inj H;go_wp2;go_ret;exact ⟨zT,zW⟩
     ·rw [if_neg c7] at H;have jk:=decide_eq_false c7;clear c7;obtain rfl:=Option.some.inj H;go_wp2;go_ret;exact ⟨zT,zW⟩
    ·rw [if_neg c6] at H;have iF:=decide_eq_false c6;clear c6;obtain rfl:=Option.some.inj H;go_wp2;go_ret;exact ⟨zT,zW⟩
def fF.l0:Nat->Int->List Int->Int->Int->Option (Int)
 | 0,_,_,_,_=>none
 | k+1,x3,x6,x7,x8=>if x8 < x7 then (if 0<=x8 then (if x8 < (x6.length:Int) then ((gZ.f k x3 (rd x6 x8)).bind fun aor=>(fF.l0 k aor x6 x7 (wrap64 (x8+1)))) else (none)) else (none)) else (some x3)
def fF.f (k:Nat) (l0:List Int):Option (Int):=fF.l0 k 0 l0 (l0.length:Int) 0
theorem fF.calls (k:Nat) (A0:Option Addr) (c0:Nat) (l0:List Int) (r:Int) (w:World) (hr0:Kd.C (Kd.int .i64) w A0 l0.length l0) (hc0:l0.length<=c0) (h:fF.f k l0=some r) :
  Calls Tryz.prog 143 #[.slice A0 l0.length c0] w fun e w'=>e = .returned (.int .i64 r)/\dG w w':=by
 have HR0:=aj.mk hr0;have HC0:=aj.mk hc0;clear hr0 hc0;have H:=h;clear h;unfold fF.f at H;have H':=aj.mk H;clear H;go_enter Tryz.func143,Tryz.ntmps143;go_wp2;go_loopg [3,8] k (fun kq v3 v8 w'=>∃ (oU:Int) (iE:Int),v3 = .int .i64 oU/\v8 = .int .i64 iE/\aj (fF.l0 kq oU l0 (l0.length:Int) iE=some r)/\aj (kq<=k)/\dG w w')
 case atStart=>exact ⟨(0),(0),zT,zT,H',⟨Nat.le_refl _⟩,zW⟩
 case round =>
  clear H';obtain ⟨oU,iE,rfl,rfl,HA,HK1,⟨m1,rfl⟩⟩:=hrel;cases gk with
  | zero=>exact absurd HA.out (by simp [fF.l0])
  | succ k1 =>
   have H:=HA.out;clear HA;simp only [fF.l0] at H;by_cases c2:iE < (l0.length:Int)
   ·rw [if_pos c2] at H;have nK:=decide_eq_true c2;clear c2;by_cases c3:0<=iE
    ·rw [if_pos c3] at H;have gI:=decide_eq_true c3;clear c3;by_cases c4:iE < (l0.length:Int)
     ·rw [if_pos c4] at H;have fG:=decide_eq_true c4;clear c4;replace H:=zO H;obtain ⟨aor,A5,H⟩:=H;try dsimp only at H
      have H':=aj.mk H;clear H;have arj:0<=(iE:Int):=of_decide_eq_true (by first|(with_reducible assumption)|assumption);have ark:iE < (l0.length:Int):=of_decide_eq_true (by first|(with_reducible assumption)|assumption);obtain ⟨aDt,ay4,aAZ⟩:=Kd.iZ HR0.out iE arj ark;cases ay4;replace arj:=eq_true arj;replace ark:=eq_true ark;go_wp2_with (first|((with_reducible refine ay (f:=147) rfl ?_);refine aH (some 14) rfl rfl Tryz.func147 (by kernel_rfl) rfl #[.int .i64 oU,.int .i64 (rd l0 iE)] rfl zL ?_;(with_reducible refine (gZ.calls k1 oU (rd l0 iE) aor _ A5.out).mono ?_);rintro e w' ⟨rfl,⟨nd,rfl⟩⟩;refine ⟨_,rfl,?_⟩));go_roundg k1
      case measure=>have:=HK1.out;omega
      case rel=>exact ⟨(aor),(wrap64 (iE+1)),zT,zT,H',⟨by have:=HK1.out;omega⟩,zW⟩
     ·rw [if_neg c4] at H;exact absurd H (by simp)
    ·rw [if_neg c3] at H;exact absurd H (by simp)
   ·rw [if_neg c2] at H;have nK:=decide_eq_false c2;clear c2;obtain rfl:=Option.some.inj H;go_wp2;go_ret;exact ⟨zT,zW⟩
end Go.Proofs.YtpondkggmcmpfaaGreatDoor.QA
