/- Joined by wip/tools/bundle.py out of: QAx28 QAx29 QAx30 QAx31 QAx32 QAx33 QAx34. -/
import Derived.Test.YtpondkggmcmpfaaGreatDoorBDirectApplies12
set_option maxHeartbeats 8000000
set_option maxRecDepth 100000
namespace Go.Proofs.YtpondkggmcmpfaaGreatDoor.QA
open Go.Proofs.YtpondkggmcmpfaaGreatDoor.T
open Go.RowKit Go.Proofs.YtpondkggmcmpfaaGreatDoorW.PrintWords Go.Proofs.YtpondkggmcmpfaaGreatDoorW.PrintLast Go.Proofs.YtpondkggmcmpfaaGreatDoorW.PrintMore
attribute [local go_sem] dV dN dO fA fB
set_option linter.unusedVariables false
set_option linter.unusedSimpArgs false
mutual
def aQ.l0:Nat->Int->Int->Int->Int->Int->Int->Option (Int)
 | 0,_,_,_,_,_,_=>none
 | k+1,x0,x1,x20,x21,tC,tH=>if x21 < x20 then ((dS.f tC tH 0).bind fun aw7=>(aQ.l0 k x0 x1 x20 (wrap64 (x21+1)) aw7.1 aw7.2)) else ((dW.f x0).bind fun vX=>(aQ.l1 k x0 x1 127 tC tH 0 vX 0 0))
def aQ.l1:Nat->Int->Int->Int->Int->Int->Int->Int->Int->Int->Option (Int)
 | 0,_,_,_,_,_,_,_,_,_=>none
 | k+1,x0,x1,x8,tC,tH,wX,wY,tJ,tK=>if x8>=x1 then ((fV.f wX wY x8).bind fun aot=>((dS.f tJ tK aot).bind fun aw8=>(aQ.l1 k x0 x1 (wrap64 (x8 - 1)) tC tH wX wY aw8.1 aw8.2))) else (aQ.l2 k x0 x1 tC tH wX wY tJ tK wX wY)
def aQ.l2:Nat->Int->Int->Int->Int->Int->Int->Int->Int->Int->Int->Option (Int)
 | 0,_,_,_,_,_,_,_,_,_,_=>none
 | k+1,x0,x10,tC,tH,wX,wY,tJ,tK,acd,ace=>if x10 < 128 then ((fV.f wX wY x10).bind fun afG=>(if afG=1 then (aQ.l3 k x0 x10 x10 0 tC tH wX wY tJ tK acd ace 0 1) else (aQ.l2 k x0 (wrap64 (x10+1)) tC tH wX wY tJ tK acd ace))) else ((iV.f acd ace tC tH).bind fun arv=>(if x0 < 0 then ((iV.f tC tH acd ace).bind fun arw=>(aQ.j4 k x0 arw tJ tK)) else (aQ.j4 k x0 (!arv) tJ tK)))
def aQ.l3:Nat->Int->Int->Int->Int->Int->Int->Int->Int->Int->Int->Int->Int->Int->Int->Option (Int)
 | 0,_,_,_,_,_,_,_,_,_,_,_,_,_,_=>none
 | k+1,x0,x10,x51,x52,tC,tH,wX,wY,tJ,tK,acd,ace,aqj,aqk=>if x52 < x51 then ((dS.f aqj aqk 0).bind fun aw9=>(aQ.l3 k x0 x10 x51 (wrap64 (x52+1)) tC tH wX wY tJ tK acd ace aw9.1 aw9.2)) else ((lH.f acd ace aqj aqk).bind fun axa=>(aQ.l2 k x0 (wrap64 (x10+1)) tC tH wX wY tJ tK axa.1 axa.2))
def aQ.j4:Nat->Int->Bool->Int->Int->Option (Int)
 | 0,_,_,_,_=>none
 | k+1,x0,x12,tJ,tK=>if x12=true then ((iL.f tJ tK 0 1).bind fun axb=>((cZ.f k axb.1 axb.2 (decide (x0 < 0))).bind fun auC=>(some auC))) else ((cZ.f k tJ tK (decide (x0 < 0))).bind fun auD=>(some auD))
end
def aQ.f (k:Nat) (a0 a1:Int):Option (Int):=if a1 < 1 then (some a0) else (if a1 > 64 then (some 0) else (aQ.l0 k a0 a1 (wrap64 (a1 - 1)) 0 0 1))
theorem aQ.calls (k:Nat) (a0 a1 r:Int) (w:World) (h:aQ.f k a0 a1=some r) :
  Calls Tryz.prog 101 #[.int .i64 a0,.int .i64 a1] w fun e w'=>e = .returned (.int .i64 r)/\Below w.heap.size w w':=by
 have aaJ:=Tryz.underlying179;have HB:=aj.mk (Below.refl w.heap.size w);have H:=h;clear h;unfold aQ.f at H;by_cases c3:a1 < 1
 ·rw [if_pos c3] at H;have fU:=decide_eq_true c3;clear c3;obtain rfl:=Option.some.inj H;go_enter Tryz.func101,Tryz.ntmps101;go_wp2;go_ret;exact ⟨zS,zB⟩
 ·rw [if_neg c3] at H;have fU:=decide_eq_false c3;clear c3;by_cases c4:a1 > 64
  ·rw [if_pos c4] at H;have fH:=decide_eq_true c4;clear c4;obtain rfl:=Option.some.inj H;go_enter Tryz.func101,Tryz.ntmps101;go_wp2;go_ret;exact ⟨zS,zB⟩
  ·rw [if_neg c4] at H;have fH:=decide_eq_false c4;clear c4;have H':=aj.mk H;clear H;go_enter Tryz.func101,Tryz.ntmps101;go_wp2_with (first|((with_reducible refine aZ (N:=5) rfl ?_);refine aX zR (N:=5) zR (cs := #[.int .u64 0,.int .u64 0]) (t:=179) zG ?_;intro ah1 hg w5 hbox hb;obtain ⟨HB,fD,aGI,aGJ⟩:=zA4 (ak zB hb) hbox (zg hg zB) (zg hg zB);clear hb hbox hg;obtain ⟨_,_⟩:=zC2 fD.out;obtain ⟨_,_⟩:=zF2 fD.out));go_loopg [21] k (fun kq v21 w'=>∃ (yS:Int) (lF:Int) (kU:Int),v21 = .int .i64 yS/\aj (aQ.l0 kq a0 a1 (wrap64 (a1 - 1)) yS lF kU=some r)/\aj (kq<=k)/\aj (w'.heap[ah1]? = some (.cells #[.int .u64 lF,.int .u64 kU] 179 (0,0)))/\aj (Below w.heap.size w w'))
   case atStart=>exact ⟨(0),(0),(1),zT,H',⟨Nat.le_refl _⟩,⟨by refine zD ?_;refine bg (cs := #[.int .u64 0,.int .u64 0]) ?_ 1 _ rfl;refine zD ?_;refine bg (cs := #[.int .u64 0,.int .u64 0]) ?_ 0 _ rfl;refine zD ?_;exact fD.out⟩,⟨zB⟩⟩
   case round =>
    clear H';obtain ⟨yS,lF,kU,rfl,HA,HK1,fD,HB⟩:=hrel;cases gk with
    | zero=>exact absurd HA.out (by simp [aQ.l0])
    | succ k1 =>
     have H:=HA.out;clear HA;simp only [aQ.l0] at H;by_cases c7:yS < (wrap64 (a1 - 1))
     ·rw [if_pos c7] at H;have jw:=decide_eq_true c7;clear c7;replace H:=zO H;obtain ⟨⟨auE,azb⟩,A8,H⟩:=H;try dsimp only at H
      have H':=aj.mk H;clear H;obtain ⟨_,_⟩:=zC2 fD.out;obtain ⟨_,_⟩:=zF2 fD.out;go_wp2_with (first|((with_reducible refine ay (f:=119) rfl ?_);refine aH (some 24) rfl rfl Tryz.func119 (by kernel_rfl) rfl #[.agg #[.int .u64 lF,.int .u64 kU],.int .u64 0] rfl zL ?_;(with_reducible refine (dS.calls lF kU 0 auE azb _ A8.out).mono ?_);rintro e w10 ⟨rfl,hb⟩;refine ⟨_,rfl,?_⟩;obtain ⟨fD,HB⟩:=zA2 (aA (zK fD) hb) (ak zB hb);(try clear hb);obtain ⟨_,_⟩:=zC2 fD.out;obtain ⟨_,_⟩:=zF2 fD.out));go_roundg k1
      case measure=>have:=HK1.out;omega
      case rel=>exact ⟨(wrap64 (yS+1)),(auE),(azb),zT,H',⟨by have:=HK1.out;omega⟩,⟨by refine zD ?_;refine bg (cs := #[.int .u64 auE,.int .u64 kU]) ?_ 1 _ rfl;refine zD ?_;refine bg (cs := #[.int .u64 lF,.int .u64 kU]) ?_ 0 _ rfl;refine zD ?_;exact fD.out⟩,⟨zB⟩⟩
     ·rw [if_neg c7] at H;have jw:=decide_eq_false c7;clear c7;replace H:=zO H;obtain ⟨vX,A12,H⟩:=H;try dsimp only at H
      have H':=aj.mk H;clear H;go_wp2_with (first|((with_reducible refine ay (f:=120) rfl ?_);refine aH (some 27) rfl rfl Tryz.func120 (by kernel_rfl) rfl #[.int .i64 a0] rfl zL ?_;(with_reducible refine (dW.calls a0 vX _ A12.out).mono ?_);rintro e w' ⟨rfl,⟨nd,rfl⟩⟩;refine ⟨_,rfl,?_⟩;(try (rw [qw wr];generalize hq_:World.drewN wr _=wr;have n0_:aj (wr.heap[ah1]? = some (.cells #[.int .u64 lF,.int .u64 kU] 179 (0,0))):=⟨by rw [<- hq_];exact (zK fD)⟩;have n1_:aj (Below w.heap.size w wr):=⟨by rw [<- hq_];exact zB⟩;clear fD HB hq_;have fD:=n0_;have HB:=n1_;clear n0_ n1_)))|((with_reducible refine aZ (N:=6) rfl ?_);refine aX zR (N:=6) zR (cs := #[.int .u64 0,.int .u64 0]) (t:=179) zG ?_;intro abG hg w13 hbox hb;obtain ⟨fD,HB,fZ,aGK,aGL,aa3,aa4⟩:=zA7 (aA (zK fD) hb) (ak zB hb) hbox (zg hg zB) (zg hg zB) (zl hg (zK fD)) (zr hg (zK fD));clear hb hbox hg;have arb:=aa4.out;have ard:=aa3.out;obtain ⟨_,_⟩:=zC2 fZ.out;obtain ⟨_,_⟩:=zF2 fZ.out)|((with_reducible refine aZ (N:=7) rfl ?_);refine aX zR (N:=7) zR (cs := #[.int .u64 0,.int .u64 0]) (t:=179) zG ?_;intro abH hg w16 hbox hb;obtain ⟨fD,fZ,HB,gq,aGM,aGN,zy,zA,xI,xJ⟩:=afn (aA (zK fD) hb) (aA (g:=abG) (o := .cells #[.int .u64 0,.int .u64 vX] 179 (0,0)) (by refine zD ?_;refine bg (cs := #[.int .u64 0,.int .u64 0]) ?_ 1 _ rfl;refine zD ?_;refine bg (cs := #[.int .u64 0,.int .u64 0]) ?_ 0 _ rfl;refine zD ?_;exact fZ.out) hb) (ak zB hb) hbox (zg hg zB) (zg hg zB) (zl hg (zK fD)) (zr hg (zK fD)) ((by rw [hg];exact Nat.ne_of_lt (bI (g:=abG) (o := .cells #[.int .u64 0,.int .u64 vX] 179 (0,0)) (by refine zD ?_;refine bg (cs := #[.int .u64 0,.int .u64 0]) ?_ 1 _ rfl;refine zD ?_;refine bg (cs := #[.int .u64 0,.int .u64 0]) ?_ 0 _ rfl;refine zD ?_;exact fZ.out)):abG≠abH)) ((by rw [hg];exact Nat.ne_of_gt (bI (g:=abG) (o := .cells #[.int .u64 0,.int .u64 vX] 179 (0,0)) (by refine zD ?_;refine bg (cs := #[.int .u64 0,.int .u64 0]) ?_ 1 _ rfl;refine zD ?_;refine bg (cs := #[.int .u64 0,.int .u64 0]) ?_ 0 _ rfl;refine zD ?_;exact fZ.out)):abH≠abG));clear hb hbox hg;have aBv:=zA.out;have aBw:=zy.out;have aBA:=xJ.out;have aBB:=xI.out;obtain ⟨_,_⟩:=zC2 gq.out;obtain ⟨_,_⟩:=zF2 gq.out));try simp only [Act.put,List.setIfInBounds_toArray,List.set_cons_succ,List.set_cons_zero]
      go_loopg [8] k1 (fun kq v8 w'=>∃ (mY:Int) (kV:Int) (jU:Int),v8 = .int .i64 mY/\aj (aQ.l1 kq a0 a1 mY lF kU 0 vX kV jU=some r)/\aj (kq<=k1)/\aj (w'.heap[ah1]? = some (.cells #[.int .u64 lF,.int .u64 kU] 179 (0,0)))/\aj (w'.heap[abG]? = some (.cells #[.int .u64 0,.int .u64 vX] 179 (0,0)))/\aj (w'.heap[abH]? = some (.cells #[.int .u64 kV,.int .u64 jU] 179 (0,0)))/\aj (Below w.heap.size w w'))
      case atStart=>exact ⟨(127),(0),(0),zT,H',⟨Nat.le_refl _⟩,⟨zK fD⟩,⟨zK fZ⟩,⟨by refine zD ?_;refine bg (cs := #[.int .u64 0,.int .u64 0]) ?_ 1 _ rfl;refine zD ?_;refine bg (cs := #[.int .u64 0,.int .u64 0]) ?_ 0 _ rfl;refine zD ?_;exact gq.out⟩,⟨zB⟩⟩
      case round =>
       clear H';obtain ⟨mY,kV,jU,rfl,HA,HK2,fD,fZ,gq,HB⟩:=hrel;cases gk with
       | zero=>exact absurd HA.out (by simp [aQ.l1])
       | succ k2 =>
        have H:=HA.out;clear HA;simp only [aQ.l1] at H;by_cases c20:mY>=a1
        ·rw [if_pos c20] at H;have aBC:=decide_eq_true c20;clear c20;replace H:=zO H;obtain ⟨aot,A21,H⟩:=H;try dsimp only at H
         replace H:=zO H;obtain ⟨⟨auF,azc⟩,A22,H⟩:=H;try dsimp only at H
         have H':=aj.mk H;clear H;try go_wp2
         obtain ⟨fD,fZ,gq,HB⟩:=zA4 (jP fD.out) (jP fZ.out) (jP gq.out) (bC HB.out);refine adC (n:=6) (S:=fun w'=>w'.cell? ⟨abH,0,none⟩=some (.int .u64 kV)/\w'.cell? ⟨abH,1,none⟩=some (.int .u64 jU)/\w'.cell? ⟨abG,0,none⟩=some (.int .u64 0)/\w'.cell? ⟨abG,1,none⟩=some (.int .u64 vX)) (ds:=[5]) #[false,false,false,false,false,false] (by kernel_rfl) rfl rfl ⟨(au gq.out 0).trans rfl,(au gq.out 1).trans rfl,(au fZ.out 0).trans rfl,(au fZ.out 1).trans rfl⟩ (fun hHeld => ?_);generalize wr.drew=w23 at fD fZ gq HB hHeld ⊢;refine uj (i:=2) (N:=some 37) (v := ?_) (a' := ?_) #[false,false,true,false,false,false] rfl rfl (by kernel_rfl) (fun _ _ _ h=>h) (Or.inl ⟨by rfl,?_⟩) ?_ ?_;rotate_left
         ·intro w';go_simp
          with_reducible rfl
         rotate_left
         ·simp only [Act.put,List.setIfInBounds_toArray,List.set_cons_zero,List.set_cons_succ,bP,bU];rfl
         refine xO (i:=0) (N:=some 35) (v := ?_) (a' := ?_) #[true,false,true,false,false,false] rfl rfl (by kernel_rfl) (fun _ _ _ h=>h) (Or.inl ⟨by rfl,?_⟩) hHeld ?_ ?_;rotate_left
         ·rintro w' ⟨s0,s1,s2,s3⟩;go_simp
          with_reducible rfl
         rotate_left
         ·simp only [Act.put,List.setIfInBounds_toArray,List.set_cons_zero,List.set_cons_succ,bP,bU];rfl
         refine xO (i:=1) (N:=some 36) (v := ?_) (a' := ?_) #[true,true,true,false,false,false] rfl rfl (by kernel_rfl) (fun _ _ _ h=>h) (Or.inl ⟨by rfl,?_⟩) hHeld ?_ ?_;rotate_left
         ·rintro w' ⟨s0,s1,s2,s3⟩;go_simp
          with_reducible rfl
         rotate_left
         ·simp only [Act.put,List.setIfInBounds_toArray,List.set_cons_zero,List.set_cons_succ,bP,bU];rfl
         refine aaP (i:=3) (N:=some 38) #[true,true,true,true,false,false] rfl rfl (by kernel_rfl) (by decide) (fun K hK => ?_);refine aaF Tryz.func121 (by kernel_rfl) rfl #[.agg #[.int .u64 0,.int .u64 vX],.int .i64 mY] (by rfl) rfl rfl zL ?_;with_reducible refine (fV.calls 0 vX mY aot _ A21.out).mono ?_
         rintro e w24 ⟨rfl,hb⟩;refine ⟨_,rfl,?_⟩;obtain ⟨fD,fZ,gq,HB⟩:=zA4 (aA (zK fD) hb) (aA (zK fZ) hb) (aA (zK gq) hb) (ak zB hb)
         (try clear hb)
         (try clear hb2)
         (try clear hk)
         (try clear hi)
         refine hK.out _ _ ⟨(au gq.out 0).trans rfl,(au gq.out 1).trans rfl,(au fZ.out 0).trans rfl,(au fZ.out 1).trans rfl⟩ (fun hHeld => ?_);clear hK K;refine yK (a' := ?_) ?_ ?_;rotate_left
         ·show Act.put _ (some 38) _=_
          simp only [Act.put,List.setIfInBounds_toArray,List.set_cons_zero,List.set_cons_succ,bP,bU];rfl
         refine aaP (i:=4) (N:=some 39) #[true,true,true,true,true,false] rfl rfl (by kernel_rfl) (by decide) (fun K hK => ?_);refine aaF Tryz.func119 (by kernel_rfl) rfl #[.agg #[.int .u64 kV,.int .u64 jU],.int .u64 aot] (by rfl) rfl rfl zL ?_;with_reducible refine (dS.calls kV jU aot auF azc _ A22.out).mono ?_
         rintro e w25 ⟨rfl,hb⟩;refine ⟨_,rfl,?_⟩;obtain ⟨fD,fZ,gq,HB⟩:=zA4 (aA (zK fD) hb) (aA (zK fZ) hb) (aA (zK gq) hb) (ak zB hb)
         (try clear hb)
         (try clear hb2)
         (try clear hk)
         (try clear hi)
         refine hK.out _ _ ⟨(au gq.out 0).trans rfl,(au gq.out 1).trans rfl,(au fZ.out 0).trans rfl,(au fZ.out 1).trans rfl⟩ (fun hHeld => ?_);clear hK K;refine yK (a' := ?_) ?_ ?_;rotate_left
         ·show Act.put _ (some 39) _=_
          simp only [Act.put,List.setIfInBounds_toArray,List.set_cons_zero,List.set_cons_succ,bP,bU];rfl
         refine ajz (i:=5) (N:=none) #[true,true,true,true,true,true] rfl rfl (by kernel_rfl) (by decide) (fun K hK => ?_);have aIM:w25.cell? ⟨abH,0,none⟩=some (.int .u64 kV):=(au gq.out 0).trans rfl;have aGO:=aI gq.out 0;have aFa:=zy.out;have aFb:=xI.out;have aFc:=zA.out;have aFd:=xJ.out;have aIN:w25.cell? ⟨abH,1,none⟩=some (.int .u64 jU):=(au gq.out 1).trans rfl;have aGP:=aI gq.out 1;have aFe:=zy.out;have aFf:=xI.out;have aFg:=zA.out;have aFh:=xJ.out;refine ahK (w1 := ?_) (by rfl) rfl ?_ ?_;rotate_left
         ·go_simp
          rfl
         refine hK.out _ _ ?_;clear hK K;refine afj (by kernel_rfl) ?_;try go_wp2
         go_roundg k2
         case measure=>have:=HK1.out;have:=HK2.out;omega
         case rel=>exact ⟨(wrap64 (mY - 1)),(auF),(azc),zT,H',⟨by have:=HK1.out;have:=HK2.out;omega⟩,⟨zK fD⟩,⟨zK fZ⟩,⟨by refine zD ?_;refine bg (cs := #[.int .u64 auF,.int .u64 jU]) ?_ 1 _ rfl;refine zD ?_;refine bg (cs := #[.int .u64 kV,.int .u64 jU]) ?_ 0 _ rfl;refine zD ?_;exact gq.out⟩,⟨zB⟩⟩
        ·rw [if_neg c20] at H;have aBC:=decide_eq_false c20;clear c20;have H':=aj.mk H;clear H;have aAE:=aa4.out;have aAF:=aa3.out;have ari:=xI.out;have arj:=xJ.out;obtain ⟨_,_⟩:=zC2 fZ.out;obtain ⟨_,_⟩:=zF2 fZ.out;go_wp2_with (first|((with_reducible refine aZ (N:=9) rfl ?_);refine aX zR (N:=9) zR (cs := #[.int .u64 0,.int .u64 0]) (t:=179) zG ?_;intro arx hg w31 hbox hb;obtain ⟨fD,fZ,gq,HB,jE,aGQ,aGR,aes,aeu,aa5,aa6,aa7,aa8⟩:=agt (aA (zK fD) hb) (aA (zK fZ) hb) (aA (zK gq) hb) (ak zB hb) hbox (zg hg zB) (zg hg zB) (zl hg (zK fD)) (zr hg (zK fD)) (zl hg (zK fZ)) (zr hg (zK fZ)) (zl hg (zK gq)) (zr hg (zK gq));clear hb hbox hg;have aGS:=aeu.out;have aGT:=aes.out;have aBD:=aa6.out;have aBE:=aa5.out;have aGU:=aa8.out;have aGV:=aa7.out;obtain ⟨_,_⟩:=zC2 jE.out;obtain ⟨_,_⟩:=zF2 jE.out));try simp only [Act.put,List.setIfInBounds_toArray,List.set_cons_succ,List.set_cons_zero]
         go_loopg [10] k2 (fun kq v10 w'=>∃ (o7:Int) (oL:Int) (nH:Int),v10 = .int .i64 o7/\aj (aQ.l2 kq a0 o7 lF kU 0 vX kV jU oL nH=some r)/\aj (kq<=k2)/\aj (w'.heap[ah1]? = some (.cells #[.int .u64 lF,.int .u64 kU] 179 (0,0)))/\aj (w'.heap[abG]? = some (.cells #[.int .u64 0,.int .u64 vX] 179 (0,0)))/\aj (w'.heap[abH]? = some (.cells #[.int .u64 kV,.int .u64 jU] 179 (0,0)))/\aj (w'.heap[arx]? = some (.cells #[.int .u64 oL,.int .u64 nH] 179 (0,0)))/\aj (Below w.heap.size w w'))
         case atStart=>exact ⟨(a1),(0),(vX),zT,H',⟨Nat.le_refl _⟩,⟨zK fD⟩,⟨zK fZ⟩,⟨zK gq⟩,⟨by refine zD ?_;refine bg (cs := #[.int .u64 0,.int .u64 0]) ?_ 1 _ rfl;refine zD ?_;refine bg (cs := #[.int .u64 0,.int .u64 0]) ?_ 0 _ rfl;refine zD ?_;exact jE.out⟩,⟨zB⟩⟩
         case round =>
          clear H';obtain ⟨o7,oL,nH,rfl,HA,HK3,fD,fZ,gq,jE,HB⟩:=hrel;cases gk with
          | zero=>exact absurd HA.out (by simp [aQ.l2])
          | succ k3 =>
           have H:=HA.out;clear HA;simp only [aQ.l2] at H;by_cases c36:o7 < 128
           ·rw [if_pos c36] at H;have aBF:=decide_eq_true c36;clear c36;replace H:=zO H;obtain ⟨afG,A37,H⟩:=H;try dsimp only at H
            by_cases c38:afG=1
            ·rw [if_pos c38] at H;have afH:(afG == 1)=true:=beq_iff_eq.mpr c38;have arz:(afG != 1)=false:=bne_eq_false_iff_eq.mpr c38;clear c38;have H':=aj.mk H;clear H;have aBG:=aa4.out;have aBH:=aa3.out;have awY:=xI.out;have awZ:=xJ.out;have aw0:=aa5.out;have aw1:=aa6.out;obtain ⟨_,_⟩:=zC2 fZ.out;obtain ⟨_,_⟩:=zF2 fZ.out;go_wp2_with (first|((with_reducible refine ay (f:=121) rfl ?_);refine aH (some 48) rfl rfl Tryz.func121 (by kernel_rfl) rfl #[.agg #[.int .u64 0,.int .u64 vX],.int .i64 o7] rfl zL ?_;(with_reducible refine (fV.calls 0 vX o7 afG _ A37.out).mono ?_);rintro e w43 ⟨rfl,hb⟩;refine ⟨_,rfl,?_⟩;obtain ⟨fD,fZ,gq,jE,HB⟩:=zA5 (aA (zK fD) hb) (aA (zK fZ) hb) (aA (zK gq) hb) (aA (zK jE) hb) (ak zB hb);(try clear hb))|((with_reducible refine aZ (N:=11) rfl ?_);refine aX zR (N:=11) zR (cs := #[.int .u64 0,.int .u64 0]) (t:=179) zG ?_;intro aBI hg w44 hbox hb;have n0_:=aj.mk (aA (zK fD) hb);have n1_:=aj.mk (aA (zK fZ) hb);have n2_:=aj.mk (aA (zK gq) hb);have n3_:=aj.mk (aA (zK jE) hb);have n4_:=aj.mk (ak zB hb);have n5_:=aj.mk (hbox);have n6_:=aj.mk (zg hg zB);have n7_:=aj.mk (zg hg zB);have n8_:=aj.mk (zl hg (zK fD));have n9_:=aj.mk (zr hg (zK fD));have azd:=aj.mk (zl hg (zK fZ));have aze:=aj.mk (zr hg (zK fZ));have azf:=aj.mk (zl hg (zK gq));have azg:=aj.mk (zr hg (zK gq));have azh:=aj.mk (zl hg (zK jE));have azi:=aj.mk (zr hg (zK jE));clear fD;clear fZ;clear gq;clear jE;clear HB;have fD:=n0_;have fZ:=n1_;have gq:=n2_;have jE:=n3_;have HB:=n4_;have xW:=n5_;have aGW:=n6_;have aGX:=n7_;have ag8:=n8_;have ag9:=n9_;have aha:=azd;have ahb:=aze;have ahc:=azf;have ahd:=azg;have ahe:=azh;have ahf:=azi;clear n0_ n1_ n2_ n3_ n4_ n5_ n6_ n7_ n8_ n9_ azd aze azf azg azh azi;clear hb hbox hg;have aGY:=ag9.out;have aGZ:=ag8.out;have aw2:=ahb.out;have aw3:=aha.out;have aBm:=ahd.out;have aBn:=ahc.out;have aG0:=ahf.out;have aG1:=ahe.out;obtain ⟨_,_⟩:=zC2 xW.out;obtain ⟨_,_⟩:=zF2 xW.out));try simp only [Act.put,List.setIfInBounds_toArray,List.set_cons_succ,List.set_cons_zero]
             go_loopg [52] k3 (fun kq v52 w'=>∃ (ajX:Int) (xK:Int) (vg:Int),v52 = .int .i64 ajX/\aj (aQ.l3 kq a0 o7 o7 ajX lF kU 0 vX kV jU oL nH xK vg=some r)/\aj (kq<=k3)/\aj (w'.heap[ah1]? = some (.cells #[.int .u64 lF,.int .u64 kU] 179 (0,0)))/\aj (w'.heap[abG]? = some (.cells #[.int .u64 0,.int .u64 vX] 179 (0,0)))/\aj (w'.heap[abH]? = some (.cells #[.int .u64 kV,.int .u64 jU] 179 (0,0)))/\aj (w'.heap[arx]? = some (.cells #[.int .u64 oL,.int .u64 nH] 179 (0,0)))/\aj (w'.heap[aBI]? = some (.cells #[.int .u64 xK,.int .u64 vg] 179 (0,0)))/\aj (Below w.heap.size w w'))
             case atStart=>exact ⟨(0),(0),(1),zT,H',⟨Nat.le_refl _⟩,⟨zK fD⟩,⟨zK fZ⟩,⟨zK gq⟩,⟨zK jE⟩,⟨by refine zD ?_;refine bg (cs := #[.int .u64 0,.int .u64 0]) ?_ 1 _ rfl;refine zD ?_;refine bg (cs := #[.int .u64 0,.int .u64 0]) ?_ 0 _ rfl;refine zD ?_;exact xW.out⟩,⟨zB⟩⟩
             case round =>
              clear H';obtain ⟨ajX,xK,vg,rfl,HA,HK4,fD,fZ,gq,jE,xW,HB⟩:=hrel;cases gk with
              | zero=>exact absurd HA.out (by simp [aQ.l3])
              | succ k4 =>
               have H:=HA.out;clear HA;simp only [aQ.l3] at H;by_cases c50:ajX < o7
               ·rw [if_pos c50] at H;have aBJ:=decide_eq_true c50;clear c50;replace H:=zO H;obtain ⟨⟨auG,azj⟩,A51,H⟩:=H;try dsimp only at H
                have H':=aj.mk H;clear H;have aBK:=ag9.out;have aBL:=ag8.out;have aG2:=ahb.out;have aG3:=aha.out;have aG4:=ahd.out;have aG5:=ahc.out;have aG6:=ahf.out;have aG7:=ahe.out;obtain ⟨_,_⟩:=zC2 xW.out;obtain ⟨_,_⟩:=zF2 xW.out;go_wp2_with (first|((with_reducible refine ay (f:=119) rfl ?_);refine aH (some 55) rfl rfl Tryz.func119 (by kernel_rfl) rfl #[.agg #[.int .u64 xK,.int .u64 vg],.int .u64 0] rfl zL ?_;(with_reducible refine (dS.calls xK vg 0 auG azj _ A51.out).mono ?_);rintro e w57 ⟨rfl,hb⟩;refine ⟨_,rfl,?_⟩;obtain ⟨fD,fZ,gq,jE,xW,HB⟩:=zA6 (aA (zK fD) hb) (aA (zK fZ) hb) (aA (zK gq) hb) (aA (zK jE) hb) (aA (zK xW) hb) (ak zB hb);(try clear hb);obtain ⟨_,_⟩:=zC2 xW.out;obtain ⟨_,_⟩:=zF2 xW.out));go_roundg k4
                case measure=>have:=HK1.out;have:=HK2.out;have:=HK3.out;have:=HK4.out;omega
                case rel=>exact ⟨(wrap64 (ajX+1)),(auG),(azj),zT,H',⟨by have:=HK1.out;have:=HK2.out;have:=HK3.out;have:=HK4.out;omega⟩,⟨zK fD⟩,⟨zK fZ⟩,⟨zK gq⟩,⟨zK jE⟩,⟨by refine zD ?_;refine bg (cs := #[.int .u64 auG,.int .u64 vg]) ?_ 1 _ rfl;refine zD ?_;refine bg (cs := #[.int .u64 xK,.int .u64 vg]) ?_ 0 _ rfl;refine zD ?_;exact xW.out⟩,⟨zB⟩⟩
               ·rw [if_neg c50] at H;have aBJ:=decide_eq_false c50;clear c50;replace H:=zO H;obtain ⟨⟨auH,azk⟩,A59,H⟩:=H;try dsimp only at H
                have H':=aj.mk H;clear H;have aG8:=aeu.out;have aG9:=aes.out;have aHa:=aa6.out;have aHb:=aa5.out;have aBq:=aa8.out;have aBr:=aa7.out;have aBs:=ahe.out;have aBt:=ahf.out;obtain ⟨_,_⟩:=zC2 jE.out;obtain ⟨_,_⟩:=zF2 jE.out;have aHc:=ag9.out;have aHd:=ag8.out;have aHe:=ahb.out;have aHf:=aha.out;have aHg:=ahd.out;have aHh:=ahc.out;obtain ⟨_,_⟩:=zC2 xW.out;obtain ⟨_,_⟩:=zF2 xW.out;go_wp2_with (first|((with_reducible refine ay (f:=122) rfl ?_);refine aH (some 59) rfl rfl Tryz.func122 (by kernel_rfl) rfl #[.agg #[.int .u64 oL,.int .u64 nH],.agg #[.int .u64 xK,.int .u64 vg]] rfl zL ?_;(with_reducible refine (lH.calls oL nH xK vg auH azk _ A59.out).mono ?_);rintro e w69 ⟨rfl,hb⟩;refine ⟨_,rfl,?_⟩;obtain ⟨fD,fZ,gq,jE,xW,HB⟩:=zA6 (aA (zK fD) hb) (aA (zK fZ) hb) (aA (zK gq) hb) (aA (zK jE) hb) (aA (zK xW) hb) (ak zB hb);(try clear hb);obtain ⟨_,_⟩:=zC2 jE.out;obtain ⟨_,_⟩:=zF2 jE.out));go_roundg k4
                case measure=>have:=HK1.out;have:=HK2.out;have:=HK3.out;have:=HK4.out;omega
                case rel=>exact ⟨(wrap64 (o7+1)),(auH),(azk),zT,H',⟨by have:=HK1.out;have:=HK2.out;have:=HK3.out;have:=HK4.out;omega⟩,⟨zK fD⟩,⟨zK fZ⟩,⟨zK gq⟩,⟨by refine zD ?_;refine bg (cs := #[.int .u64 auH,.int .u64 nH]) ?_ 1 _ rfl;refine zD ?_;refine bg (cs := #[.int .u64 oL,.int .u64 nH]) ?_ 0 _ rfl;refine zD ?_;exact jE.out⟩,⟨zB⟩⟩
            ·rw [if_neg c38] at H;have afH:(afG == 1)=false:=beq_eq_false_iff_ne.mpr c38;have arz:(afG != 1)=true:=bne_iff_ne.mpr c38;have H':=aj.mk H;clear H;have aHi:=aa4.out;have aHj:=aa3.out;have aHk:=xI.out;have aHl:=xJ.out;have aHm:=aa5.out;have aHn:=aa6.out;obtain ⟨_,_⟩:=zC2 fZ.out;obtain ⟨_,_⟩:=zF2 fZ.out;go_wp2_with (first|((with_reducible refine ay (f:=121) rfl ?_);refine aH (some 48) rfl rfl Tryz.func121 (by kernel_rfl) rfl #[.agg #[.int .u64 0,.int .u64 vX],.int .i64 o7] rfl zL ?_;(with_reducible refine (fV.calls 0 vX o7 afG _ A37.out).mono ?_);rintro e w75 ⟨rfl,hb⟩;refine ⟨_,rfl,?_⟩;obtain ⟨fD,fZ,gq,jE,HB⟩:=zA5 (aA (zK fD) hb) (aA (zK fZ) hb) (aA (zK gq) hb) (aA (zK jE) hb) (ak zB hb);(try clear hb)));go_roundg k3
             case measure=>have:=HK1.out;have:=HK2.out;have:=HK3.out;omega
             case rel=>exact ⟨(wrap64 (o7+1)),(oL),(nH),zT,H',⟨by have:=HK1.out;have:=HK2.out;have:=HK3.out;omega⟩,⟨zK fD⟩,⟨zK fZ⟩,⟨zK gq⟩,⟨zK jE⟩,⟨zB⟩⟩
           ·rw [if_neg c36] at H;have aBF:=decide_eq_false c36;clear c36;replace H:=zO H;obtain ⟨arv,A76,H⟩:=H;try dsimp only at H
            have auI:=aj.mk H;clear H;have aHo:=aeu.out;have aHp:=aes.out;have aHq:=aa6.out;have aHr:=aa5.out;have aHs:=aa8.out;have aHt:=aa7.out;obtain ⟨_,_⟩:=zC2 jE.out;obtain ⟨_,_⟩:=zF2 jE.out;have aHu:=aa3.out;have aHv:=aa4.out;have aHw:=zy.out;have aHx:=zA.out;obtain ⟨_,_⟩:=zC2 fD.out;obtain ⟨_,_⟩:=zF2 fD.out;go_upto_if 65 with (first|((with_reducible refine ay (f:=123) rfl ?_);refine aH (some 62) rfl rfl Tryz.func123 (by kernel_rfl) rfl #[.agg #[.int .u64 oL,.int .u64 nH],.agg #[.int .u64 lF,.int .u64 kU]] rfl zL ?_;(with_reducible refine (iV.calls oL nH lF kU arv _ A76.out).mono ?_);rintro e w85 ⟨rfl,hb⟩;refine ⟨_,rfl,?_⟩;obtain ⟨fD,fZ,gq,jE,HB⟩:=zA5 (aA (zK fD) hb) (aA (zK fZ) hb) (aA (zK gq) hb) (aA (zK jE) hb) (ak zB hb);(try clear hb)))
            (try simp only [Act.put,List.setIfInBounds_toArray,List.set_cons_zero,List.set_cons_succ])
            go_cut [12] (fun v12 wc=>∃ (kq:Nat) (ajY:Bool),v12 = .bool ajY/\aj (aQ.j4 kq a0 ajY kV jU=some r)/\aj (kq<=k3)/\aj (wc.heap[ah1]? = some (.cells #[.int .u64 lF,.int .u64 kU] 179 (0,0)))/\aj (wc.heap[abG]? = some (.cells #[.int .u64 0,.int .u64 vX] 179 (0,0)))/\aj (wc.heap[abH]? = some (.cells #[.int .u64 kV,.int .u64 jU] 179 (0,0)))/\aj (wc.heap[arx]? = some (.cells #[.int .u64 oL,.int .u64 nH] 179 (0,0)))/\aj (Below w.heap.size w wc))
            case first =>
             have H:=auI.out;clear auI;by_cases c86:a0 < 0
             ·rw [if_pos c86] at H;have ajZ:=decide_eq_true c86;clear c86
              (first|rw [ajZ]|(simp only [bP,bU];rw [ajZ])|skip)
              replace H:=zO H;obtain ⟨arw,A87,H⟩:=H;try dsimp only at H
              have H':=aj.mk H;clear H;have aHy:=aa3.out;have aHz:=aa4.out;have aHA:=zy.out;have aHB:=zA.out;have aHC:=aes.out;have aHD:=aeu.out;obtain ⟨_,_⟩:=zC2 fD.out;obtain ⟨_,_⟩:=zF2 fD.out;have aHE:=aa6.out;have aHF:=aa5.out;have aHG:=aa8.out;have aHH:=aa7.out;obtain ⟨_,_⟩:=zC2 jE.out;obtain ⟨_,_⟩:=zF2 jE.out;go_wp2_with (first|((with_reducible refine ay (f:=123) rfl ?_);refine aH (some 68) rfl rfl Tryz.func123 (by kernel_rfl) rfl #[.agg #[.int .u64 lF,.int .u64 kU],.agg #[.int .u64 oL,.int .u64 nH]] rfl zL ?_;(with_reducible refine (iV.calls lF kU oL nH arw _ A87.out).mono ?_);rintro e w95 ⟨rfl,hb⟩;refine ⟨_,rfl,?_⟩;obtain ⟨fD,fZ,gq,jE,HB⟩:=zA5 (aA (zK fD) hb) (aA (zK fZ) hb) (aA (zK gq) hb) (aA (zK jE) hb) (ak zB hb);(try clear hb)));go_meet
              case rel=>exact ⟨_,(arw),zT,H',⟨by have:=HK1.out;have:=HK2.out;have:=HK3.out;first|omega|exact Nat.le_refl _⟩,⟨zK fD⟩,⟨zK fZ⟩,⟨zK gq⟩,⟨zK jE⟩,⟨zB⟩⟩
             ·rw [if_neg c86] at H;have ajZ:=decide_eq_false c86;clear c86
              (first|rw [ajZ]|(simp only [bP,bU];rw [ajZ])|skip)
              have H':=aj.mk H;clear H;go_wp2;go_meet
              case rel=>exact ⟨_,(!arv),zT,H',⟨by have:=HK1.out;have:=HK2.out;have:=HK3.out;first|omega|exact Nat.le_refl _⟩,⟨zK fD⟩,⟨zK fZ⟩,⟨zK gq⟩,⟨zK jE⟩,⟨zB⟩⟩
            case rest =>
             clear auI;obtain ⟨kq,ajY,rfl,HA,aIO,fD,fZ,gq,jE,HB⟩:=hcut;cases kq with
             | zero=>exact absurd HA.out (by simp [aQ.j4])
             | succ azl =>
              have H:=HA.out;clear HA;simp only [aQ.j4] at H;by_cases c96:ajY=true
              ·subst c96;rw [if_pos rfl] at H;(try dsimp only at H);replace H:=zO H;obtain ⟨⟨aou,arA⟩,A97,H⟩:=H;try dsimp only at H
               replace H:=zO H;obtain ⟨auC,A98,H⟩:=H;try dsimp only at H
               obtain rfl:=Option.some.inj H;have aHI:=zA.out;have aHJ:=zy.out;have aFA:=xJ.out;have aFB:=xI.out;have aFC:=aa7.out;have aFD:=aa8.out;obtain ⟨_,_⟩:=zC2 gq.out;obtain ⟨_,_⟩:=zF2 gq.out;go_wp2_with (first|((with_reducible refine ay (f:=124) rfl ?_);refine aH (some 72) rfl rfl Tryz.func124 (by kernel_rfl) rfl #[.agg #[.int .u64 kV,.int .u64 jU],.agg #[.int .u64 0,.int .u64 1]] rfl zL ?_;(with_reducible refine (iL.calls kV jU 0 1 aou arA _ A97.out).mono ?_);rintro e aIP ⟨rfl,hb⟩;refine ⟨_,rfl,?_⟩;obtain ⟨fD,fZ,gq,jE,HB⟩:=zA5 (aA (zK fD) hb) (aA (zK fZ) hb) (aA (zK gq) hb) (aA (zK jE) hb) (ak zB hb);(try clear hb);obtain ⟨_,_⟩:=zC2 gq.out;obtain ⟨_,_⟩:=zF2 gq.out)|((with_reducible refine ay (f:=125) rfl ?_);refine aH (some 76) rfl rfl Tryz.func125 (by kernel_rfl) rfl #[.agg #[.int .u64 aou,.int .u64 arA],.bool (decide (a0 < 0))] rfl zL ?_;(with_reducible refine (cZ.calls azl aou arA (decide (a0 < 0)) auC _ A98.out).mono ?_);rintro e aIQ ⟨rfl,hb⟩;refine ⟨_,rfl,?_⟩;obtain ⟨fD,fZ,gq,jE,HB⟩:=zA5 (aA (zK fD) hb) (aA (zK fZ) hb) (aA (g:=abH) (o := .cells #[.int .u64 aou,.int .u64 arA] 179 (0,0)) (by refine zD ?_;refine bg (cs := #[.int .u64 aou,.int .u64 jU]) ?_ 1 _ rfl;refine zD ?_;refine bg (cs := #[.int .u64 kV,.int .u64 jU]) ?_ 0 _ rfl;refine zD ?_;exact gq.out) hb) (aA (zK jE) hb) (ak zB hb);(try clear hb)));go_ret;exact ⟨zS,zB⟩
              ·replace c96:=Bool.eq_false_iff.mpr c96;subst c96;rw [if_neg (show ¬ (false=true) by decide)] at H;(try dsimp only at H);replace H:=zO H;obtain ⟨auD,aDj,H⟩:=H;try dsimp only at H
               obtain rfl:=Option.some.inj H;have aFE:=zA.out;have aFF:=zy.out;have aFG:=xJ.out;have aFH:=xI.out;have aFI:=aa7.out;have aFJ:=aa8.out;obtain ⟨_,_⟩:=zC2 gq.out;obtain ⟨_,_⟩:=zF2 gq.out;go_wp2_with (first|((with_reducible refine ay (f:=125) rfl ?_);refine aH (some 76) rfl rfl Tryz.func125 (by kernel_rfl) rfl #[.agg #[.int .u64 kV,.int .u64 jU],.bool (decide (a0 < 0))] rfl zL ?_;(with_reducible refine (cZ.calls azl kV jU (decide (a0 < 0)) auD _ aDj.out).mono ?_);rintro e aIR ⟨rfl,hb⟩;refine ⟨_,rfl,?_⟩;obtain ⟨fD,fZ,gq,jE,HB⟩:=zA5 (aA (zK fD) hb) (aA (zK fZ) hb) (aA (zK gq) hb) (aA (zK jE) hb) (ak zB hb);(try clear hb)));go_ret;exact ⟨zS,zB⟩
def mW.f (a0 a1:Int):Option (Bool):=if a1 < 1 then (some false) else (if a1 > 1048576 then (some false) else (if a0<=(wrap64 (4*a1)) then (some (decide (a0>=(wrap64 ((-4)*a1))))) else (some false)))
theorem mW.calls (a0 a1:Int) (r:Bool) (w:World) (h:mW.f a0 a1=some r) :
  Calls Tryz.prog 184 #[.int .i64 a0,.int .i64 a1] w fun e w'=>e = .returned (.bool r)/\dA w w':=by
 have H:=h;clear h;unfold mW.f at H;by_cases c3:a1 < 1
 ·rw [if_pos c3] at H;have fU:=decide_eq_true c3;clear c3;obtain rfl:=Option.some.inj H;go_enter Tryz.func184,Tryz.ntmps184;go_wp2;go_ret;exact ⟨zT,zW⟩
 ·rw [if_neg c3] at H;have fU:=decide_eq_false c3;clear c3;by_cases c4:a1 > 1048576
  ·rw [if_pos c4] at H;have fH:=decide_eq_true c4;clear c4;obtain rfl:=Option.some.inj H;go_enter Tryz.func184,Tryz.ntmps184;go_wp2;go_ret;exact ⟨zT,zW⟩
  ·rw [if_neg c4] at H;have fH:=decide_eq_false c4;clear c4;by_cases c5:a0<=(wrap64 (4*a1))
   ·rw [if_pos c5] at H;have gJ:=decide_eq_true c5;clear c5;obtain rfl:=Option.some.inj H;go_enter Tryz.func184,Tryz.ntmps184;go_wp2;go_ret;exact ⟨zT,zW⟩
   ·rw [if_neg c5] at H;have gJ:=decide_eq_false c5;clear c5;obtain rfl:=Option.some.inj H;go_enter Tryz.func184,Tryz.ntmps184;go_wp2;go_ret;exact ⟨zT,zW⟩
mutual
def aW.j0:Nat->Int->Int->Int->Option (Int)
 | 0,_,_,_=>none
 | k+1,x0,x1,x2=>if x2 > 127 then (some 0) else ((dW.f x0).bind fun ahg=>((dW.f x1).bind fun ahh=>((eG.f k ahg ahh).bind fun anh=>(if x2=0 then ((cZ.f k anh.1 anh.2 ((decide (x0 < 0)) != (decide (x1 < 0)))).bind fun auJ=>(some auJ)) else (aW.l0 k x2 ((decide (x0 < 0)) != (decide (x1 < 0))) 127 anh.1 anh.2 0 0)))))
def aW.l0:Nat->Int->Bool->Int->Int->Int->Int->Int->Option (Int)
 | 0,_,_,_,_,_,_,_=>none
 | k+1,x2,x7,x10,aa9,abb,wZ,xg=>if x10>=x2 then ((fV.f aa9 abb x10).bind fun aov=>((dS.f wZ xg aov).bind fun axc=>(aW.l0 k x2 x7 (wrap64 (x10 - 1)) aa9 abb axc.1 axc.2))) else (aW.l1 k x2 x7 false (wrap64 (x2 - 1)) 0 aa9 abb wZ xg)
def aW.l1:Nat->Int->Bool->Bool->Int->Int->Int->Int->Int->Int->Option (Int)
 | 0,_,_,_,_,_,_,_,_,_=>none
 | k+1,x2,x7,x11,x44,x45,aa9,abb,wZ,xg=>if x45 < x44 then (if x11=true then (aW.l1 k x2 x7 true x44 (wrap64 (x45+1)) aa9 abb wZ xg) else ((fV.f aa9 abb x45).bind fun arB=>(aW.l1 k x2 x7 (arB == 1) x44 (wrap64 (x45+1)) aa9 abb wZ xg))) else ((fV.f aa9 abb (wrap64 (x2 - 1))).bind fun aeP=>(if aeP=1 then (if x11=true then (aW.j3 k x7 true wZ xg) else (aW.j3 k x7 (!x7) wZ xg)) else (aW.j3 k x7 false wZ xg)))
def aW.j3:Nat->Bool->Bool->Int->Int->Option (Int)
 | 0,_,_,_,_=>none
 | k+1,x7,x67,wZ,xg=>if x67=true then ((iL.f wZ xg 0 1).bind fun axd=>((cZ.f k axd.1 axd.2 x7).bind fun auK=>(some auK))) else ((cZ.f k wZ xg x7).bind fun auL=>(some auL))
end
def aW.f (k:Nat) (a0 a1 a2:Int):Option (Int):=if a2 < 0 then (aW.j0 k a0 a1 0) else (aW.j0 k a0 a1 a2)
theorem aW.calls (k:Nat) (a0 a1 a2 r:Int) (w:World) (h:aW.f k a0 a1 a2=some r) :
  Calls Tryz.prog 185 #[.int .i64 a0,.int .i64 a1,.int .i64 a2] w fun e w'=>e = .returned (.int .i64 r)/\Below w.heap.size w w':=by
 have aaJ:=Tryz.underlying179;have HB:=aj.mk (Below.refl w.heap.size w);have H:=h;clear h;unfold aW.f at H;have HC4:=aj.mk H;clear H;go_enter Tryz.func185,Tryz.ntmps185;go_upto_if 14 with (fail)
 go_cut [2] (fun v2 wc=>∃ (kq:Nat) (xk:Int),v2 = .int .i64 xk/\aj (aW.j0 kq a0 a1 xk=some r)/\aj (kq<=k)/\aj (Below w.heap.size w wc))
 case first =>
  have H:=HC4.out;clear HC4;by_cases c5:a2 < 0
  ·rw [if_pos c5] at H;have gJ:=decide_eq_true c5;clear c5
   (first|rw [gJ]|(simp only [bP,bU];rw [gJ])|skip)
   have H':=aj.mk H;clear H;go_wp2;go_meet
   case rel=>exact ⟨_,(0),zT,H',⟨by first|omega|exact Nat.le_refl _⟩,⟨zB⟩⟩
  ·rw [if_neg c5] at H;have gJ:=decide_eq_false c5;clear c5
   (first|rw [gJ]|(simp only [bP,bU];rw [gJ])|skip)
   have H':=aj.mk H;clear H;go_wp2;go_meet
   case rel=>exact ⟨_,(a2),zT,H',⟨by first|omega|exact Nat.le_refl _⟩,⟨zB⟩⟩
 case rest =>
  clear HC4;obtain ⟨kq,xk,rfl,HA,HJ3,HB⟩:=hcut;cases kq with
  | zero=>exact absurd HA.out (by simp [aW.j0])
  | succ kj3 =>
   have H:=HA.out;clear HA;simp only [aW.j0] at H;by_cases c6:xk > 127
   ·rw [if_pos c6] at H;have gI:=decide_eq_true c6;clear c6;obtain rfl:=Option.some.inj H;go_wp2;go_ret;exact ⟨zS,zB⟩
   ·rw [if_neg c6] at H;have gI:=decide_eq_false c6;clear c6;replace H:=zO H;obtain ⟨ahg,A7,H⟩:=H;try dsimp only at H
    replace H:=zO H;obtain ⟨ahh,A8,H⟩:=H;try dsimp only at H
    replace H:=zO H;obtain ⟨⟨qZ,uh⟩,A9,H⟩:=H;try dsimp only at H
    by_cases c10:xk=0
    ·rw [if_pos c10] at H;have l9:(xk == 0)=true:=beq_iff_eq.mpr c10;have aj0:(xk != 0)=false:=bne_eq_false_iff_eq.mpr c10;clear c10;replace H:=zO H;obtain ⟨auJ,A11,H⟩:=H;try dsimp only at H
     obtain rfl:=Option.some.inj H;go_wp2_with (first|((with_reducible refine ay (f:=120) rfl ?_);refine aH (some 23) rfl rfl Tryz.func120 (by kernel_rfl) rfl #[.int .i64 a0] rfl zL ?_;(with_reducible refine (dW.calls a0 ahg _ A7.out).mono ?_);rintro e w' ⟨rfl,⟨nd,rfl⟩⟩;refine ⟨_,rfl,?_⟩;(try (rw [qw wc];generalize hq_:World.drewN wc _=wc;have n0_:aj (Below w.heap.size w wc):=⟨by rw [<- hq_];exact zB⟩;clear HB hq_;have HB:=n0_;clear n0_)))|((with_reducible refine ay (f:=120) rfl ?_);refine aH (some 25) rfl rfl Tryz.func120 (by kernel_rfl) rfl #[.int .i64 a1] rfl zL ?_;(with_reducible refine (dW.calls a1 ahh _ A8.out).mono ?_);rintro e w' ⟨rfl,⟨nd,rfl⟩⟩;refine ⟨_,rfl,?_⟩;(try (rw [qw wc];generalize hq_:World.drewN wc _=wc;have n0_:aj (Below w.heap.size w wc):=⟨by rw [<- hq_];exact zB⟩;clear HB hq_;have HB:=n0_;clear n0_)))|((with_reducible refine ay (f:=148) rfl ?_);refine aH (some 26) rfl rfl Tryz.func148 (by kernel_rfl) rfl #[.int .u64 ahg,.int .u64 ahh] rfl zL ?_;(with_reducible refine (eG.calls kj3 ahg ahh qZ uh _ A9.out).mono ?_);rintro e w12 ⟨rfl,hb⟩;refine ⟨_,rfl,?_⟩;replace HB:=aj.mk (ak zB hb);(try clear hb))|((with_reducible refine aZ (N:=8) rfl ?_);refine aX zR (N:=8) zR (cs := #[.int .u64 0,.int .u64 0]) (t:=179) zG ?_;intro aaK hg w13 hbox hb;obtain ⟨HB,iJ,aBM,aBN⟩:=zA4 (ak zB hb) hbox (zg hg zB) (zg hg zB);clear hb hbox hg;obtain ⟨_,_⟩:=zC2 iJ.out;obtain ⟨_,_⟩:=zF2 iJ.out)|((with_reducible refine ay (f:=125) rfl ?_);refine aH (some 31) rfl rfl Tryz.func125 (by kernel_rfl) rfl #[.agg #[.int .u64 qZ,.int .u64 uh],.bool ((decide (a0 < 0)) != (decide (a1 < 0)))] rfl zL ?_;(with_reducible refine (cZ.calls kj3 qZ uh ((decide (a0 < 0)) != (decide (a1 < 0))) auJ _ A11.out).mono ?_);rintro e w15 ⟨rfl,hb⟩;refine ⟨_,rfl,?_⟩;obtain ⟨iJ,HB⟩:=zA2 (aA (g:=aaK) (o := .cells #[.int .u64 qZ,.int .u64 uh] 179 (0,0)) (by refine zD ?_;refine bg (cs := #[.int .u64 qZ,.int .u64 0]) ?_ 1 _ rfl;refine zD ?_;refine bg (cs := #[.int .u64 0,.int .u64 0]) ?_ 0 _ rfl;refine zD ?_;exact iJ.out) hb) (ak zB hb);(try clear hb)));go_ret;exact ⟨zS,zB⟩
    ·rw [if_neg c10] at H;have l9:(xk == 0)=false:=beq_eq_false_iff_ne.mpr c10;have aj0:(xk != 0)=true:=bne_iff_ne.mpr c10;have H':=aj.mk H;clear H;go_wp2_with (first|((with_reducible refine ay (f:=120) rfl ?_);refine aH (some 23) rfl rfl Tryz.func120 (by kernel_rfl) rfl #[.int .i64 a0] rfl zL ?_;(with_reducible refine (dW.calls a0 ahg _ A7.out).mono ?_);rintro e w' ⟨rfl,⟨nd,rfl⟩⟩;refine ⟨_,rfl,?_⟩;(try (rw [qw wc];generalize hq_:World.drewN wc _=wc;have n0_:aj (Below w.heap.size w wc):=⟨by rw [<- hq_];exact zB⟩;clear HB hq_;have HB:=n0_;clear n0_)))|((with_reducible refine ay (f:=120) rfl ?_);refine aH (some 25) rfl rfl Tryz.func120 (by kernel_rfl) rfl #[.int .i64 a1] rfl zL ?_;(with_reducible refine (dW.calls a1 ahh _ A8.out).mono ?_);rintro e w' ⟨rfl,⟨nd,rfl⟩⟩;refine ⟨_,rfl,?_⟩;(try (rw [qw wc];generalize hq_:World.drewN wc _=wc;have n0_:aj (Below w.heap.size w wc):=⟨by rw [<- hq_];exact zB⟩;clear HB hq_;have HB:=n0_;clear n0_)))|((with_reducible refine ay (f:=148) rfl ?_);refine aH (some 26) rfl rfl Tryz.func148 (by kernel_rfl) rfl #[.int .u64 ahg,.int .u64 ahh] rfl zL ?_;(with_reducible refine (eG.calls kj3 ahg ahh qZ uh _ A9.out).mono ?_);rintro e w16 ⟨rfl,hb⟩;refine ⟨_,rfl,?_⟩;replace HB:=aj.mk (ak zB hb);(try clear hb))|((with_reducible refine aZ (N:=8) rfl ?_);refine aX zR (N:=8) zR (cs := #[.int .u64 0,.int .u64 0]) (t:=179) zG ?_;intro aaK hg w17 hbox hb;obtain ⟨HB,iJ,aBM,aBN⟩:=zA4 (ak zB hb) hbox (zg hg zB) (zg hg zB);clear hb hbox hg;obtain ⟨_,_⟩:=zC2 iJ.out;obtain ⟨_,_⟩:=zF2 iJ.out)|((with_reducible refine aZ (N:=9) rfl ?_);refine aX zR (N:=9) zR (cs := #[.int .u64 0,.int .u64 0]) (t:=179) zG ?_;intro acv hg w19 hbox hb;obtain ⟨iJ,HB,jg,aHK,aHL,vk,vw⟩:=zA7 (aA (g:=aaK) (o := .cells #[.int .u64 qZ,.int .u64 uh] 179 (0,0)) (by refine zD ?_;refine bg (cs := #[.int .u64 qZ,.int .u64 0]) ?_ 1 _ rfl;refine zD ?_;refine bg (cs := #[.int .u64 0,.int .u64 0]) ?_ 0 _ rfl;refine zD ?_;exact iJ.out) hb) (ak zB hb) hbox (zg hg zB) (zg hg zB) ((by rw [hg];exact Nat.ne_of_lt (bI (g:=aaK) (o := .cells #[.int .u64 qZ,.int .u64 uh] 179 (0,0)) (by refine zD ?_;refine bg (cs := #[.int .u64 qZ,.int .u64 0]) ?_ 1 _ rfl;refine zD ?_;refine bg (cs := #[.int .u64 0,.int .u64 0]) ?_ 0 _ rfl;refine zD ?_;exact iJ.out)):aaK≠acv)) ((by rw [hg];exact Nat.ne_of_gt (bI (g:=aaK) (o := .cells #[.int .u64 qZ,.int .u64 uh] 179 (0,0)) (by refine zD ?_;refine bg (cs := #[.int .u64 qZ,.int .u64 0]) ?_ 1 _ rfl;refine zD ?_;refine bg (cs := #[.int .u64 0,.int .u64 0]) ?_ 0 _ rfl;refine zD ?_;exact iJ.out)):acv≠aaK));clear hb hbox hg;have arC:=vw.out;have arD:=vk.out;obtain ⟨_,_⟩:=zC2 jg.out;obtain ⟨_,_⟩:=zF2 jg.out));go_loopg [10] kj3 (fun kq v10 w'=>∃ (jR:Int) (lT:Int) (kW:Int),v10 = .int .i64 jR/\aj (aW.l0 kq xk ((decide (a0 < 0)) != (decide (a1 < 0))) jR qZ uh lT kW=some r)/\aj (kq<=kj3)/\aj (w'.heap[aaK]? = some (.cells #[.int .u64 qZ,.int .u64 uh] 179 (0,0)))/\aj (w'.heap[acv]? = some (.cells #[.int .u64 lT,.int .u64 kW] 179 (0,0)))/\aj (Below w.heap.size w w'))
     case atStart=>exact ⟨(127),(0),(0),zT,H',⟨Nat.le_refl _⟩,⟨zK iJ⟩,⟨by refine zD ?_;refine bg (cs := #[.int .u64 0,.int .u64 0]) ?_ 1 _ rfl;refine zD ?_;refine bg (cs := #[.int .u64 0,.int .u64 0]) ?_ 0 _ rfl;refine zD ?_;exact jg.out⟩,⟨zB⟩⟩
     case round =>
      clear H';obtain ⟨jR,lT,kW,rfl,HA,HK2,iJ,jg,HB⟩:=hrel;cases gk with
      | zero=>exact absurd HA.out (by simp [aW.l0])
      | succ k2 =>
       have H:=HA.out;clear HA;simp only [aW.l0] at H;by_cases c22:jR>=xk
       ·rw [if_pos c22] at H;have arE:=decide_eq_true c22;clear c22;replace H:=zO H;obtain ⟨aov,A23,H⟩:=H;try dsimp only at H
        replace H:=zO H;obtain ⟨⟨auM,azm⟩,A24,H⟩:=H;try dsimp only at H
        have H':=aj.mk H;clear H;try go_wp2
        obtain ⟨iJ,jg,HB⟩:=zA3 (jP iJ.out) (jP jg.out) (bC HB.out);refine adC (n:=6) (S:=fun w'=>w'.cell? ⟨acv,0,none⟩=some (.int .u64 lT)/\w'.cell? ⟨acv,1,none⟩=some (.int .u64 kW)/\w'.cell? ⟨aaK,0,none⟩=some (.int .u64 qZ)/\w'.cell? ⟨aaK,1,none⟩=some (.int .u64 uh)) (ds:=[5]) #[false,false,false,false,false,false] (by kernel_rfl) rfl rfl ⟨(au jg.out 0).trans rfl,(au jg.out 1).trans rfl,(au iJ.out 0).trans rfl,(au iJ.out 1).trans rfl⟩ (fun hHeld => ?_);generalize wr.drew=w25 at iJ jg HB hHeld ⊢;refine uj (i:=2) (N:=some 40) (v := ?_) (a' := ?_) #[false,false,true,false,false,false] rfl rfl (by kernel_rfl) (fun _ _ _ h=>h) (Or.inl ⟨by rfl,?_⟩) ?_ ?_;rotate_left
        ·intro w';go_simp
         with_reducible rfl
        rotate_left
        ·simp only [Act.put,List.setIfInBounds_toArray,List.set_cons_zero,List.set_cons_succ,bP,bU];rfl
        refine xO (i:=0) (N:=some 38) (v := ?_) (a' := ?_) #[true,false,true,false,false,false] rfl rfl (by kernel_rfl) (fun _ _ _ h=>h) (Or.inl ⟨by rfl,?_⟩) hHeld ?_ ?_;rotate_left
        ·rintro w' ⟨s0,s1,s2,s3⟩;go_simp
         with_reducible rfl
        rotate_left
        ·simp only [Act.put,List.setIfInBounds_toArray,List.set_cons_zero,List.set_cons_succ,bP,bU];rfl
        refine xO (i:=1) (N:=some 39) (v := ?_) (a' := ?_) #[true,true,true,false,false,false] rfl rfl (by kernel_rfl) (fun _ _ _ h=>h) (Or.inl ⟨by rfl,?_⟩) hHeld ?_ ?_;rotate_left
        ·rintro w' ⟨s0,s1,s2,s3⟩;go_simp
         with_reducible rfl
        rotate_left
        ·simp only [Act.put,List.setIfInBounds_toArray,List.set_cons_zero,List.set_cons_succ,bP,bU];rfl
        refine aaP (i:=3) (N:=some 41) #[true,true,true,true,false,false] rfl rfl (by kernel_rfl) (by decide) (fun K hK => ?_);refine aaF Tryz.func121 (by kernel_rfl) rfl #[.agg #[.int .u64 qZ,.int .u64 uh],.int .i64 jR] (by rfl) rfl rfl zL ?_;with_reducible refine (fV.calls qZ uh jR aov _ A23.out).mono ?_
        rintro e w26 ⟨rfl,hb⟩;refine ⟨_,rfl,?_⟩;obtain ⟨iJ,jg,HB⟩:=zA3 (aA (zK iJ) hb) (aA (zK jg) hb) (ak zB hb)
        (try clear hb)
        (try clear hb2)
        (try clear hk)
        (try clear hi)
        refine hK.out _ _ ⟨(au jg.out 0).trans rfl,(au jg.out 1).trans rfl,(au iJ.out 0).trans rfl,(au iJ.out 1).trans rfl⟩ (fun hHeld => ?_);clear hK K;refine yK (a' := ?_) ?_ ?_;rotate_left
        ·show Act.put _ (some 41) _=_
         simp only [Act.put,List.setIfInBounds_toArray,List.set_cons_zero,List.set_cons_succ,bP,bU];rfl
        refine aaP (i:=4) (N:=some 42) #[true,true,true,true,true,false] rfl rfl (by kernel_rfl) (by decide) (fun K hK => ?_);refine aaF Tryz.func119 (by kernel_rfl) rfl #[.agg #[.int .u64 lT,.int .u64 kW],.int .u64 aov] (by rfl) rfl rfl zL ?_;with_reducible refine (dS.calls lT kW aov auM azm _ A24.out).mono ?_
        rintro e w27 ⟨rfl,hb⟩;refine ⟨_,rfl,?_⟩;obtain ⟨iJ,jg,HB⟩:=zA3 (aA (zK iJ) hb) (aA (zK jg) hb) (ak zB hb)
        (try clear hb)
        (try clear hb2)
        (try clear hk)
        (try clear hi)
        refine hK.out _ _ ⟨(au jg.out 0).trans rfl,(au jg.out 1).trans rfl,(au iJ.out 0).trans rfl,(au iJ.out 1).trans rfl⟩ (fun hHeld => ?_);clear hK K;refine yK (a' := ?_) ?_ ?_;rotate_left
        ·show Act.put _ (some 42) _=_
         simp only [Act.put,List.setIfInBounds_toArray,List.set_cons_zero,List.set_cons_succ,bP,bU];rfl
        refine ajz (i:=5) (N:=none) #[true,true,true,true,true,true] rfl rfl (by kernel_rfl) (by decide) (fun K hK => ?_);have aIS:w27.cell? ⟨acv,0,none⟩=some (.int .u64 lT):=(au jg.out 0).trans rfl;have aHM:=aI jg.out 0;have aFi:=vk.out;have aFj:=vw.out;have aIT:w27.cell? ⟨acv,1,none⟩=some (.int .u64 kW):=(au jg.out 1).trans rfl;have aHN:=aI jg.out 1;have aFk:=vk.out;have aFl:=vw.out;refine ahK (w1 := ?_) (by rfl) rfl ?_ ?_;rotate_left
        ·go_simp
         rfl
        refine hK.out _ _ ?_;clear hK K;refine afj (by kernel_rfl) ?_;try go_wp2
        go_roundg k2
        case measure=>have:=HJ3.out;have:=HK2.out;omega
        case rel=>exact ⟨(wrap64 (jR - 1)),(auM),(azm),zT,H',⟨by have:=HJ3.out;have:=HK2.out;omega⟩,⟨zK iJ⟩,⟨by refine zD ?_;refine bg (cs := #[.int .u64 auM,.int .u64 kW]) ?_ 1 _ rfl;refine zD ?_;refine bg (cs := #[.int .u64 lT,.int .u64 kW]) ?_ 0 _ rfl;refine zD ?_;exact jg.out⟩,⟨zB⟩⟩
       ·rw [if_neg c22] at H;have arE:=decide_eq_false c22;clear c22;have H':=aj.mk H;clear H;go_wp2;try simp only [Act.put,List.setIfInBounds_toArray,List.set_cons_succ,List.set_cons_zero]
        go_loopg [11,45] k2 (fun kq v11 v45 w'=>∃ (aj1:Bool) (afI:Int),v11 = .bool aj1/\v45 = .int .i64 afI/\aj (aW.l1 kq xk ((decide (a0 < 0)) != (decide (a1 < 0))) aj1 (wrap64 (xk - 1)) afI qZ uh lT kW=some r)/\aj (kq<=k2)/\aj (w'.heap[aaK]? = some (.cells #[.int .u64 qZ,.int .u64 uh] 179 (0,0)))/\aj (w'.heap[acv]? = some (.cells #[.int .u64 lT,.int .u64 kW] 179 (0,0)))/\aj (Below w.heap.size w w'))
        case atStart=>exact ⟨(false),(0),zT,zT,H',⟨Nat.le_refl _⟩,⟨zK iJ⟩,⟨zK jg⟩,⟨zB⟩⟩
        case round =>
         clear H';obtain ⟨aj1,afI,rfl,rfl,HA,HK3,iJ,jg,HB⟩:=hrel;cases gk with
         | zero=>exact absurd HA.out (by simp [aW.l1])
         | succ k3 =>
          have H:=HA.out;clear HA;simp only [aW.l1] at H;by_cases c30:afI < (wrap64 (xk - 1))
          ·rw [if_pos c30] at H;have axe:=decide_eq_true c30;clear c30;by_cases c31:aj1=true
           ·subst c31;rw [if_pos rfl] at H;(try dsimp only at H);have H':=aj.mk H;clear H;go_wp2;go_roundg k3
            case measure=>have:=HJ3.out;have:=HK2.out;have:=HK3.out;omega
            case rel=>exact ⟨(true),(wrap64 (afI+1)),zT,zT,H',⟨by have:=HJ3.out;have:=HK2.out;have:=HK3.out;omega⟩,⟨zK iJ⟩,⟨zK jg⟩,⟨zB⟩⟩
           ·replace c31:=Bool.eq_false_iff.mpr c31;subst c31;rw [if_neg (show ¬ (false=true) by decide)] at H;(try dsimp only at H);replace H:=zO H;obtain ⟨arB,A32,H⟩:=H;try dsimp only at H
            have H':=aj.mk H;clear H;have aBD:=vk.out;have aBE:=vw.out;obtain ⟨_,_⟩:=zC2 iJ.out;obtain ⟨_,_⟩:=zF2 iJ.out;go_wp2_with (first|(go_at_call 121;(with_reducible refine (fV.calls qZ uh afI arB _ A32.out).mono ?_);rintro e w35 ⟨rfl,hb⟩;obtain ⟨iJ,jg,HB⟩:=zA3 (aA (zK iJ) hb) (aA (zK jg) hb) (ak zB hb);(try clear hb)));go_roundg k3
            case measure=>have:=HJ3.out;have:=HK2.out;have:=HK3.out;omega
            case rel=>exact ⟨((arB == 1)),(wrap64 (afI+1)),zT,zT,H',⟨by have:=HJ3.out;have:=HK2.out;have:=HK3.out;omega⟩,⟨zK iJ⟩,⟨zK jg⟩,⟨zB⟩⟩
          ·rw [if_neg c30] at H;have axe:=decide_eq_false c30;clear c30;have auN:=aj.mk H;clear H;go_upto_region 20 with (fail);go_cut [67] (fun v67 wc=>∃ (kq:Nat) (aj2:Bool),v67 = .bool aj2/\aj (aW.j3 kq ((decide (a0 < 0)) != (decide (a1 < 0))) aj2 lT kW=some r)/\aj (kq<=k3)/\aj (wc.heap[aaK]? = some (.cells #[.int .u64 qZ,.int .u64 uh] 179 (0,0)))/\aj (wc.heap[acv]? = some (.cells #[.int .u64 lT,.int .u64 kW] 179 (0,0)))/\aj (Below w.heap.size w wc))
           case first =>
            have H:=auN.out;clear auN;replace H:=zO H;obtain ⟨aeP,A37,H⟩:=H;try dsimp only at H
            by_cases c38:aeP=1
            ·rw [if_pos c38] at H;have afH:(aeP == 1)=true:=beq_iff_eq.mpr c38;have arz:(aeP != 1)=false:=bne_eq_false_iff_eq.mpr c38;clear c38
             (first|rw [afH]|(simp only [bP,bU];rw [afH])|skip)
             by_cases c39:aj1=true
             ·subst c39;rw [if_pos rfl] at H;(try dsimp only at H);have H':=aj.mk H;clear H;have awY:=vk.out;have awZ:=vw.out;obtain ⟨_,_⟩:=zC2 iJ.out;obtain ⟨_,_⟩:=zF2 iJ.out;go_wp2_with (first|((with_reducible refine ay (f:=121) rfl ?_);refine aH (some 59) rfl rfl Tryz.func121 (by kernel_rfl) rfl #[.agg #[.int .u64 qZ,.int .u64 uh],.int .i64 (wrap64 (xk - 1))] rfl zL ?_;(with_reducible refine (fV.calls qZ uh (wrap64 (xk - 1)) aeP _ A37.out).mono ?_);rintro e w42 ⟨rfl,hb⟩;refine ⟨_,rfl,?_⟩;obtain ⟨iJ,jg,HB⟩:=zA3 (aA (zK iJ) hb) (aA (zK jg) hb) (ak zB hb);(try clear hb)));go_meet
              case rel=>exact ⟨_,(true),zT,H',⟨by have:=HJ3.out;have:=HK2.out;have:=HK3.out;first|omega|exact Nat.le_refl _⟩,⟨zK iJ⟩,⟨zK jg⟩,⟨zB⟩⟩
             ·replace c39:=Bool.eq_false_iff.mpr c39;subst c39;rw [if_neg (show ¬ (false=true) by decide)] at H;(try dsimp only at H);have H':=aj.mk H;clear H;have aHO:=vk.out;have aHP:=vw.out;obtain ⟨_,_⟩:=zC2 iJ.out;obtain ⟨_,_⟩:=zF2 iJ.out;go_wp2_with (first|((with_reducible refine ay (f:=121) rfl ?_);refine aH (some 59) rfl rfl Tryz.func121 (by kernel_rfl) rfl #[.agg #[.int .u64 qZ,.int .u64 uh],.int .i64 (wrap64 (xk - 1))] rfl zL ?_;(with_reducible refine (fV.calls qZ uh (wrap64 (xk - 1)) aeP _ A37.out).mono ?_);rintro e w45 ⟨rfl,hb⟩;refine ⟨_,rfl,?_⟩;obtain ⟨iJ,jg,HB⟩:=zA3 (aA (zK iJ) hb) (aA (zK jg) hb) (ak zB hb);(try clear hb)));go_meet
              case rel=>exact ⟨_,(!((decide (a0 < 0)) != (decide (a1 < 0)))),(by first|rfl|(simp;done)|(simp [*];done)|(generalize decide (a0 < 0)=p_;generalize decide (a1 < 0)=q_;cases p_ <;> cases q_ <;> rfl)),H',⟨by have:=HJ3.out;have:=HK2.out;have:=HK3.out;first|omega|exact Nat.le_refl _⟩,⟨zK iJ⟩,⟨zK jg⟩,⟨zB⟩⟩
            ·rw [if_neg c38] at H;have afH:(aeP == 1)=false:=beq_eq_false_iff_ne.mpr c38;have arz:(aeP != 1)=true:=bne_iff_ne.mpr c38
             (first|rw [afH]|(simp only [bP,bU];rw [afH])|skip)
             have H':=aj.mk H;clear H;have aw2:=vk.out;have aw3:=vw.out;obtain ⟨_,_⟩:=zC2 iJ.out;obtain ⟨_,_⟩:=zF2 iJ.out;go_wp2_with (first|((with_reducible refine ay (f:=121) rfl ?_);refine aH (some 59) rfl rfl Tryz.func121 (by kernel_rfl) rfl #[.agg #[.int .u64 qZ,.int .u64 uh],.int .i64 (wrap64 (xk - 1))] rfl zL ?_;(with_reducible refine (fV.calls qZ uh (wrap64 (xk - 1)) aeP _ A37.out).mono ?_);rintro e w48 ⟨rfl,hb⟩;refine ⟨_,rfl,?_⟩;obtain ⟨iJ,jg,HB⟩:=zA3 (aA (zK iJ) hb) (aA (zK jg) hb) (ak zB hb);(try clear hb)));go_meet
             case rel=>exact ⟨_,(false),zT,H',⟨by have:=HJ3.out;have:=HK2.out;have:=HK3.out;first|omega|exact Nat.le_refl _⟩,⟨zK iJ⟩,⟨zK jg⟩,⟨zB⟩⟩
           case rest =>
            clear auN;obtain ⟨kq,aj2,rfl,HA,aIU,iJ,jg,HB⟩:=hcut;cases kq with
            | zero=>exact absurd HA.out (by simp [aW.j3])
            | succ azn =>
             have H:=HA.out;clear HA;simp only [aW.j3] at H;by_cases c49:aj2=true
             ·subst c49;rw [if_pos rfl] at H;(try dsimp only at H);replace H:=zO H;obtain ⟨⟨aow,arF⟩,A50,H⟩:=H;try dsimp only at H
              replace H:=zO H;obtain ⟨auK,A51,H⟩:=H;try dsimp only at H
              obtain rfl:=Option.some.inj H;have aBK:=vw.out;have aBL:=vk.out;obtain ⟨_,_⟩:=zC2 jg.out;obtain ⟨_,_⟩:=zF2 jg.out;go_wp2_with (first|((with_reducible refine ay (f:=124) rfl ?_);refine aH (some 70) rfl rfl Tryz.func124 (by kernel_rfl) rfl #[.agg #[.int .u64 lT,.int .u64 kW],.agg #[.int .u64 0,.int .u64 1]] rfl zL ?_;(with_reducible refine (iL.calls lT kW 0 1 aow arF _ A50.out).mono ?_);rintro e w54 ⟨rfl,hb⟩;refine ⟨_,rfl,?_⟩;obtain ⟨iJ,jg,HB⟩:=zA3 (aA (zK iJ) hb) (aA (zK jg) hb) (ak zB hb);(try clear hb);obtain ⟨_,_⟩:=zC2 jg.out;obtain ⟨_,_⟩:=zF2 jg.out)|((with_reducible refine ay (f:=125) rfl ?_);refine aH (some 73) rfl rfl Tryz.func125 (by kernel_rfl) rfl #[.agg #[.int .u64 aow,.int .u64 arF],.bool ((decide (a0 < 0)) != (decide (a1 < 0)))] rfl zL ?_;(with_reducible refine (cZ.calls azn aow arF ((decide (a0 < 0)) != (decide (a1 < 0))) auK _ A51.out).mono ?_);rintro e w56 ⟨rfl,hb⟩;refine ⟨_,rfl,?_⟩;obtain ⟨iJ,jg,HB⟩:=zA3 (aA (zK iJ) hb) (aA (g:=acv) (o := .cells #[.int .u64 aow,.int .u64 arF] 179 (0,0)) (by refine zD ?_;refine bg (cs := #[.int .u64 aow,.int .u64 kW]) ?_ 1 _ rfl;refine zD ?_;refine bg (cs := #[.int .u64 lT,.int .u64 kW]) ?_ 0 _ rfl;refine zD ?_;exact jg.out) hb) (ak zB hb);(try clear hb)));go_ret;exact ⟨zS,zB⟩
             ·replace c49:=Bool.eq_false_iff.mpr c49;subst c49;rw [if_neg (show ¬ (false=true) by decide)] at H;(try dsimp only at H);replace H:=zO H;obtain ⟨auL,A57,H⟩:=H;try dsimp only at H
              obtain rfl:=Option.some.inj H;have aBo:=vw.out;have aBp:=vk.out;obtain ⟨_,_⟩:=zC2 jg.out;obtain ⟨_,_⟩:=zF2 jg.out;go_wp2_with (first|((with_reducible refine ay (f:=125) rfl ?_);refine aH (some 73) rfl rfl Tryz.func125 (by kernel_rfl) rfl #[.agg #[.int .u64 lT,.int .u64 kW],.bool ((decide (a0 < 0)) != (decide (a1 < 0)))] rfl zL ?_;(with_reducible refine (cZ.calls azn lT kW ((decide (a0 < 0)) != (decide (a1 < 0))) auL _ A57.out).mono ?_);rintro e w60 ⟨rfl,hb⟩;refine ⟨_,rfl,?_⟩;obtain ⟨iJ,jg,HB⟩:=zA3 (aA (zK iJ) hb) (aA (zK jg) hb) (ak zB hb);(try clear hb)));go_ret;exact ⟨zS,zB⟩
mutual
def dD.j0:Nat->Int->Int->Option (Int)
 | 0,_,_=>none
 | k+1,x0,x1=>(bF.f k 10851744800547 x0 x1).bind fun aox=>((bF.f k aox x0 x1).bind fun ahi=>(dD.l0 k ahi 1099511627776 0 1099511627776 1))
def dD.l0:Nat->Int->Int->Int->Int->Int->Option (Int)
 | 0,_,_,_,_,_=>none
 | k+1,x6,x7,x8,x9,x10=>if x10<=30 then ((bF.f k x9 x6 (wrap64 ((wrap64 ((wrap64 (2*x10))*(wrap64 ((wrap64 (2*x10))+1))))*1099511627776))).bind fun adT=>(if (Int.tmod x10 2)=1 then (dD.l0 k x6 x7 (wrap64 (x8+adT)) adT (wrap64 (x10+1))) else (dD.l0 k x6 (wrap64 (x7+adT)) x8 adT (wrap64 (x10+1))))) else (some (wrap64 (x7 - x8)))
end
def dD.f (k:Nat) (a0 a1:Int):Option (Int):=if a0 < 0 then (dD.j0 k (wrap64 (-a0)) a1) else (dD.j0 k a0 a1)
theorem dD.calls (k:Nat) (a0 a1 r:Int) (w:World) (h:dD.f k a0 a1=some r) :
  Calls Tryz.prog 186 #[.int .i64 a0,.int .i64 a1] w fun e w'=>e = .returned (.int .i64 r)/\Below w.heap.size w w':=by
 have HB:=aj.mk (Below.refl w.heap.size w);have H:=h;clear h;unfold dD.f at H;have HC3:=aj.mk H;clear H;go_enter Tryz.func186,Tryz.ntmps186;go_upto_if 13 with (fail)
 go_cut [0] (fun v0 wc=>∃ (kq:Nat) (aiT:Int),v0 = .int .i64 aiT/\aj (dD.j0 kq aiT a1=some r)/\aj (kq<=k)/\aj (Below w.heap.size w wc))
 case first =>
  have H:=HC3.out;clear HC3;by_cases c4:a0 < 0
  ·rw [if_pos c4] at H;have fH:=decide_eq_true c4;clear c4
   (first|rw [fH]|(simp only [bP,bU];rw [fH])|skip)
   have H':=aj.mk H;clear H;go_wp2;go_meet
   case rel=>exact ⟨_,(wrap64 (-a0)),zT,H',⟨by first|omega|exact Nat.le_refl _⟩,⟨zB⟩⟩
  ·rw [if_neg c4] at H;have fH:=decide_eq_false c4;clear c4
   (first|rw [fH]|(simp only [bP,bU];rw [fH])|skip)
   have H':=aj.mk H;clear H;go_wp2;go_meet
   case rel=>exact ⟨_,(a0),zT,H',⟨by first|omega|exact Nat.le_refl _⟩,⟨zB⟩⟩
 case rest =>
  clear HC3;obtain ⟨kq,aiT,rfl,HA,HJ2,HB⟩:=hcut;cases kq with
  | zero=>exact absurd HA.out (by simp [dD.j0])
  | succ kj2 =>
   have H:=HA.out;clear HA;simp only [dD.j0] at H;replace H:=zO H;obtain ⟨aox,A5,H⟩:=H;try dsimp only at H
   replace H:=zO H;obtain ⟨ahi,A6,H⟩:=H;try dsimp only at H
   have H':=aj.mk H;clear H;go_wp2_with (first|((with_reducible refine ay (f:=118) rfl ?_);refine aH (some 18) rfl rfl Tryz.func118 (by kernel_rfl) rfl #[.int .i64 10851744800547,.int .i64 aiT,.int .i64 a1] rfl zL ?_;(with_reducible refine (bF.calls kj2 10851744800547 aiT a1 aox _ A5.out).mono ?_);rintro e w7 ⟨rfl,hb⟩;refine ⟨_,rfl,?_⟩;replace HB:=aj.mk (ak zB hb);(try clear hb))|((with_reducible refine ay (f:=118) rfl ?_);refine aH (some 22) rfl rfl Tryz.func118 (by kernel_rfl) rfl #[.int .i64 aox,.int .i64 aiT,.int .i64 a1] rfl zL ?_;(with_reducible refine (bF.calls kj2 aox aiT a1 ahi _ A6.out).mono ?_);rintro e w8 ⟨rfl,hb⟩;refine ⟨_,rfl,?_⟩;replace HB:=aj.mk (ak zB hb);(try clear hb)));go_loopg [7,8,9,10] kj2 (fun kq v7 v8 v9 v10 w'=>∃ (acf:Int) (mY:Int) (ac1:Int) (jR:Int),v7 = .int .i64 acf/\v8 = .int .i64 mY/\v9 = .int .i64 ac1/\v10 = .int .i64 jR/\aj (dD.l0 kq ahi acf mY ac1 jR=some r)/\aj (kq<=kj2)/\aj (Below w.heap.size w w'))
   case atStart=>exact ⟨(1099511627776),(0),(1099511627776),(1),zT,zT,zT,zT,H',⟨Nat.le_refl _⟩,⟨zB⟩⟩
   case round =>
    clear H';obtain ⟨acf,mY,ac1,jR,rfl,rfl,rfl,rfl,HA,HK2,HB⟩:=hrel;cases gk with
    | zero=>exact absurd HA.out (by simp [dD.l0])
    | succ k2 =>
     have H:=HA.out;clear HA;simp only [dD.l0] at H;by_cases c9:jR<=30
     ·rw [if_pos c9] at H;have o8:=decide_eq_true c9;clear c9;replace H:=zO H;obtain ⟨adT,A10,H⟩:=H;try dsimp only at H
      by_cases c11:(Int.tmod jR 2)=1
      ·rw [if_pos c11] at H;have jy:((Int.tmod jR 2) == 1)=true:=beq_iff_eq.mpr c11;have aac:((Int.tmod jR 2) != 1)=false:=bne_eq_false_iff_eq.mpr c11;clear c11;have H':=aj.mk H;clear H;go_wp2_with (first|((with_reducible refine ay (f:=118) rfl ?_);refine aH (some 37) rfl rfl Tryz.func118 (by kernel_rfl) rfl #[.int .i64 ac1,.int .i64 ahi,.int .i64 (wrap64 ((wrap64 ((wrap64 (2*jR))*(wrap64 ((wrap64 (2*jR))+1))))*1099511627776))] rfl zL ?_;(with_reducible refine (bF.calls k2 ac1 ahi (wrap64 ((wrap64 ((wrap64 (2*jR))*(wrap64 ((wrap64 (2*jR))+1))))*1099511627776)) adT _ A10.out).mono ?_);rintro e w12 ⟨rfl,hb⟩;refine ⟨_,rfl,?_⟩;replace HB:=aj.mk (ak zB hb);(try clear hb)));go_roundg k2
       case measure=>have:=HJ2.out;have:=HK2.out;omega
       case rel=>exact ⟨(acf),(wrap64 (mY+adT)),(adT),(wrap64 (jR+1)),zT,zT,zT,zT,H',⟨by have:=HJ2.out;have:=HK2.out;omega⟩,⟨zB⟩⟩
      ·rw [if_neg c11] at H;have jy:((Int.tmod jR 2) == 1)=false:=beq_eq_false_iff_ne.mpr c11;have aac:((Int.tmod jR 2) != 1)=true:=bne_iff_ne.mpr c11;have H':=aj.mk H;clear H;go_wp2_with (first|((with_reducible refine ay (f:=118) rfl ?_);refine aH (some 37) rfl rfl Tryz.func118 (by kernel_rfl) rfl #[.int .i64 ac1,.int .i64 ahi,.int .i64 (wrap64 ((wrap64 ((wrap64 (2*jR))*(wrap64 ((wrap64 (2*jR))+1))))*1099511627776))] rfl zL ?_;(with_reducible refine (bF.calls k2 ac1 ahi (wrap64 ((wrap64 ((wrap64 (2*jR))*(wrap64 ((wrap64 (2*jR))+1))))*1099511627776)) adT _ A10.out).mono ?_);rintro e w13 ⟨rfl,hb⟩;refine ⟨_,rfl,?_⟩;replace HB:=aj.mk (ak zB hb);(try clear hb)));go_roundg k2
       case measure=>have:=HJ2.out;have:=HK2.out;omega
       case rel=>exact ⟨(wrap64 (acf+adT)),(mY),(adT),(wrap64 (jR+1)),zT,zT,zT,zT,H',⟨by have:=HJ2.out;have:=HK2.out;omega⟩,⟨zB⟩⟩
     ·rw [if_neg c9] at H;have o8:=decide_eq_false c9;clear c9;obtain rfl:=Option.some.inj H;go_wp2;go_ret;exact ⟨zS,zB⟩
def fF.j0:Nat->Int->Int->Bool->Option (Int)
 | 0,_,_,_=>none
 | k+1,x0,x1,x21=>if x21=true then (some 0) else ((dD.f k x0 x1).bind fun aoy=>((dD.f k x0 (wrap64 (3*x1))).bind fun aoz=>((aW.f k aoy aoz 40).bind fun aoA=>((aQ.f k aoA 10).bind fun auO=>(some auO)))))
def fF.f (k:Nat) (a0 a1:Int):Option (Int):=(mW.f a0 a1).bind fun auP=>(if auP=true then (if a0>=(wrap64 (3*a1)) then (fF.j0 k a0 a1 true) else (fF.j0 k a0 a1 (decide (a0<=(wrap64 ((-3)*a1)))))) else (fF.j0 k a0 a1 true))
theorem fF.calls (k:Nat) (a0 a1 r:Int) (w:World) (h:fF.f k a0 a1=some r) :
  Calls Tryz.prog 171 #[.int .i64 a0,.int .i64 a1] w fun e w'=>e = .returned (.int .i64 r)/\Below w.heap.size w w':=by
 have HB:=aj.mk (Below.refl w.heap.size w);have H:=h;clear h;unfold fF.f at H;have HC3:=aj.mk H;clear H;go_enter Tryz.func171,Tryz.ntmps171;go_upto_region 1 with (fail);go_cut [21] (fun v21 wc=>∃ (kq:Nat) (ani:Bool),v21 = .bool ani/\aj (fF.j0 kq a0 a1 ani=some r)/\aj (kq<=k)/\aj (Below w.heap.size w wc))
 case first =>
  have H:=HC3.out;clear HC3;replace H:=zO H;obtain ⟨auP,A4,H⟩:=H;try dsimp only at H
  by_cases c5:auP=true
  ·subst c5;rw [if_pos rfl] at H;(try dsimp only at H);by_cases c6:a0>=(wrap64 (3*a1))
   ·rw [if_pos c6] at H;have gI:=decide_eq_true c6;clear c6
    (first|rw [gI]|(simp only [bP,bU];rw [gI])|skip)
    have H':=aj.mk H;clear H;go_wp2_with (first|((with_reducible refine ay (f:=184) rfl ?_);refine aH (some 8) rfl rfl Tryz.func184 (by kernel_rfl) rfl #[.int .i64 a0,.int .i64 a1] rfl zL ?_;(with_reducible refine (mW.calls a0 a1 true _ A4.out).mono ?_);rintro e w' ⟨rfl,⟨nd,rfl⟩⟩;refine ⟨_,rfl,?_⟩));go_meet
    case rel=>exact ⟨_,(true),zT,H',⟨by first|omega|exact Nat.le_refl _⟩,⟨zB⟩⟩
   ·rw [if_neg c6] at H;have gI:=decide_eq_false c6;clear c6
    (first|rw [gI]|(simp only [bP,bU];rw [gI])|skip)
    have H':=aj.mk H;clear H;go_wp2_with (first|((with_reducible refine ay (f:=184) rfl ?_);refine aH (some 8) rfl rfl Tryz.func184 (by kernel_rfl) rfl #[.int .i64 a0,.int .i64 a1] rfl zL ?_;(with_reducible refine (mW.calls a0 a1 true _ A4.out).mono ?_);rintro e w' ⟨rfl,⟨nd,rfl⟩⟩;refine ⟨_,rfl,?_⟩));go_meet
    case rel=>exact ⟨_,(decide (a0<=(wrap64 ((-3)*a1)))),zT,H',⟨by first|omega|exact Nat.le_refl _⟩,⟨zB⟩⟩
  ·replace c5:=Bool.eq_false_iff.mpr c5;subst c5;rw [if_neg (show ¬ (false=true) by decide)] at H;(try dsimp only at H);have H':=aj.mk H;clear H;go_wp2_with (first|((with_reducible refine ay (f:=184) rfl ?_);refine aH (some 8) rfl rfl Tryz.func184 (by kernel_rfl) rfl #[.int .i64 a0,.int .i64 a1] rfl zL ?_;(with_reducible refine (mW.calls a0 a1 false _ A4.out).mono ?_);rintro e w' ⟨rfl,⟨nd,rfl⟩⟩;refine ⟨_,rfl,?_⟩));go_meet
   case rel=>exact ⟨_,(true),zT,H',⟨by first|omega|exact Nat.le_refl _⟩,⟨zB⟩⟩
 case rest =>
  clear HC3;obtain ⟨kq,ani,rfl,HA,HJ2,HB⟩:=hcut;cases kq with
  | zero=>exact absurd HA.out (by simp [fF.j0])
  | succ kj2 =>
   have H:=HA.out;clear HA;simp only [fF.j0] at H;by_cases c7:ani=true
   ·subst c7;rw [if_pos rfl] at H;(try dsimp only at H);obtain rfl:=Option.some.inj H;go_wp2;go_ret;exact ⟨zS,zB⟩
   ·replace c7:=Bool.eq_false_iff.mpr c7;subst c7;rw [if_neg (show ¬ (false=true) by decide)] at H;(try dsimp only at H);replace H:=zO H;obtain ⟨aoy,A8,H⟩:=H;try dsimp only at H
    replace H:=zO H;obtain ⟨aoz,A9,H⟩:=H;try dsimp only at H
    replace H:=zO H;obtain ⟨aoA,A10,H⟩:=H;try dsimp only at H
    replace H:=zO H;obtain ⟨auO,A11,H⟩:=H;try dsimp only at H
    obtain rfl:=Option.some.inj H;go_wp2_with (first|((with_reducible refine ay (f:=186) rfl ?_);refine aH (some 24) rfl rfl Tryz.func186 (by kernel_rfl) rfl #[.int .i64 a0,.int .i64 a1] rfl zL ?_;(with_reducible refine (dD.calls kj2 a0 a1 aoy _ A8.out).mono ?_);rintro e w12 ⟨rfl,hb⟩;refine ⟨_,rfl,?_⟩;replace HB:=aj.mk (ak zB hb);(try clear hb))|((with_reducible refine ay (f:=186) rfl ?_);refine aH (some 28) rfl rfl Tryz.func186 (by kernel_rfl) rfl #[.int .i64 a0,.int .i64 (wrap64 (3*a1))] rfl zL ?_;(with_reducible refine (dD.calls kj2 a0 (wrap64 (3*a1)) aoz _ A9.out).mono ?_);rintro e w13 ⟨rfl,hb⟩;refine ⟨_,rfl,?_⟩;replace HB:=aj.mk (ak zB hb);(try clear hb))|((with_reducible refine ay (f:=185) rfl ?_);refine aH (some 29) rfl rfl Tryz.func185 (by kernel_rfl) rfl #[.int .i64 aoy,.int .i64 aoz,.int .i64 40] rfl zL ?_;(with_reducible refine (aW.calls kj2 aoy aoz 40 aoA _ A10.out).mono ?_);rintro e w14 ⟨rfl,hb⟩;refine ⟨_,rfl,?_⟩;replace HB:=aj.mk (ak zB hb);(try clear hb))|((with_reducible refine ay (f:=101) rfl ?_);refine aH (some 31) rfl rfl Tryz.func101 (by kernel_rfl) rfl #[.int .i64 aoA,.int .i64 10] rfl zL ?_;(with_reducible refine (aQ.calls kj2 aoA 10 auO _ A11.out).mono ?_);rintro e w15 ⟨rfl,hb⟩;refine ⟨_,rfl,?_⟩;replace HB:=aj.mk (ak zB hb);(try clear hb)));go_ret;exact ⟨zS,zB⟩
def nI.f (k:Nat) (a0 a1 a2 a3 a4:Int):Option (Int):=if a0=0 then (if (wrap64 (a4*a2)) > (wrap64 (a3*a1)) then (if (wrap64 ((wrap64 (a4+1))*a2)) < (wrap64 ((wrap64 (a3+1))*a1)) then ((bF.f k (wrap64 ((wrap64 ((wrap64 (a4+1))*a2)) - (wrap64 (a4*a2)))) 1073741824 a1).bind fun auQ=>(some auQ)) else ((bF.f k (wrap64 ((wrap64 ((wrap64 (a3+1))*a1)) - (wrap64 (a4*a2)))) 1073741824 a1).bind fun auR=>(some auR))) else (if (wrap64 ((wrap64 (a4+1))*a2)) < (wrap64 ((wrap64 (a3+1))*a1)) then ((bF.f k (wrap64 ((wrap64 ((wrap64 (a4+1))*a2)) - (wrap64 (a3*a1)))) 1073741824 a1).bind fun auS=>(some auS)) else ((bF.f k (wrap64 ((wrap64 ((wrap64 (a3+1))*a1)) - (wrap64 (a3*a1)))) 1073741824 a1).bind fun auT=>(some auT)))) else ((gY.f a1 a2 a3 a4).bind fun anj=>(if a0=1 then ((cO.f k anj.1 anj.2).bind fun auU=>(some auU)) else ((fF.f k anj.1 anj.2).bind fun auV=>(some auV))))
theorem nI.calls (k:Nat) (a0 a1 a2 a3 a4 r:Int) (w:World) (h:nI.f k a0 a1 a2 a3 a4=some r) :
  Calls Tryz.prog 141 #[.int .i64 a0,.int .i64 a1,.int .i64 a2,.int .i64 a3,.int .i64 a4] w fun e w'=>e = .returned (.int .i64 r)/\Below w.heap.size w w':=by
 have HB:=aj.mk (Below.refl w.heap.size w);have H:=h;clear h;unfold nI.f at H;by_cases c6:a0=0
 ·rw [if_pos c6] at H;have gI:(a0 == 0)=true:=beq_iff_eq.mpr c6;have vU:(a0 != 0)=false:=bne_eq_false_iff_eq.mpr c6;clear c6;by_cases c7:(wrap64 (a4*a2)) > (wrap64 (a3*a1))
  ·rw [if_pos c7] at H;have jw:=decide_eq_true c7;clear c7;by_cases c8:(wrap64 ((wrap64 (a4+1))*a2)) < (wrap64 ((wrap64 (a3+1))*a1))
   ·rw [if_pos c8] at H;have qj:=decide_eq_true c8;clear c8;replace H:=zO H;obtain ⟨auQ,A9,H⟩:=H;try dsimp only at H
    obtain rfl:=Option.some.inj H;go_enter Tryz.func141,Tryz.ntmps141;go_wp2_with (first|((with_reducible refine ay (f:=118) rfl ?_);refine aH (some 46) rfl rfl Tryz.func118 (by kernel_rfl) rfl #[.int .i64 (wrap64 ((wrap64 ((wrap64 (a4+1))*a2)) - (wrap64 (a4*a2)))),.int .i64 1073741824,.int .i64 a1] rfl zL ?_;(with_reducible refine (bF.calls k (wrap64 ((wrap64 ((wrap64 (a4+1))*a2)) - (wrap64 (a4*a2)))) 1073741824 a1 auQ _ A9.out).mono ?_);rintro e w10 ⟨rfl,hb⟩;refine ⟨_,rfl,?_⟩;replace HB:=aj.mk (ak zB hb);(try clear hb)));go_ret;exact ⟨zS,zB⟩
   ·rw [if_neg c8] at H;have qj:=decide_eq_false c8;clear c8;replace H:=zO H;obtain ⟨auR,A11,H⟩:=H;try dsimp only at H
    obtain rfl:=Option.some.inj H;go_enter Tryz.func141,Tryz.ntmps141;go_wp2_with (first|((with_reducible refine ay (f:=118) rfl ?_);refine aH (some 46) rfl rfl Tryz.func118 (by kernel_rfl) rfl #[.int .i64 (wrap64 ((wrap64 ((wrap64 (a3+1))*a1)) - (wrap64 (a4*a2)))),.int .i64 1073741824,.int .i64 a1] rfl zL ?_;(with_reducible refine (bF.calls k (wrap64 ((wrap64 ((wrap64 (a3+1))*a1)) - (wrap64 (a4*a2)))) 1073741824 a1 auR _ A11.out).mono ?_);rintro e w12 ⟨rfl,hb⟩;refine ⟨_,rfl,?_⟩;replace HB:=aj.mk (ak zB hb);(try clear hb)));go_ret;exact ⟨zS,zB⟩
  ·rw [if_neg c7] at H;have jw:=decide_eq_false c7;clear c7;by_cases c13:(wrap64 ((wrap64 (a4+1))*a2)) < (wrap64 ((wrap64 (a3+1))*a1))
   ·rw [if_pos c13] at H;have aaf:=decide_eq_true c13;clear c13;replace H:=zO H;obtain ⟨auS,A14,H⟩:=H;try dsimp only at H
    obtain rfl:=Option.some.inj H;go_enter Tryz.func141,Tryz.ntmps141;go_wp2_with (first|((with_reducible refine ay (f:=118) rfl ?_);refine aH (some 46) rfl rfl Tryz.func118 (by kernel_rfl) rfl #[.int .i64 (wrap64 ((wrap64 ((wrap64 (a4+1))*a2)) - (wrap64 (a3*a1)))),.int .i64 1073741824,.int .i64 a1] rfl zL ?_;(with_reducible refine (bF.calls k (wrap64 ((wrap64 ((wrap64 (a4+1))*a2)) - (wrap64 (a3*a1)))) 1073741824 a1 auS _ A14.out).mono ?_);rintro e w15 ⟨rfl,hb⟩;refine ⟨_,rfl,?_⟩;replace HB:=aj.mk (ak zB hb);(try clear hb)));go_ret;exact ⟨zS,zB⟩
   ·rw [if_neg c13] at H;have aaf:=decide_eq_false c13;clear c13;replace H:=zO H;obtain ⟨auT,A16,H⟩:=H;try dsimp only at H
    obtain rfl:=Option.some.inj H;go_enter Tryz.func141,Tryz.ntmps141;go_wp2_with (first|((with_reducible refine ay (f:=118) rfl ?_);refine aH (some 46) rfl rfl Tryz.func118 (by kernel_rfl) rfl #[.int .i64 (wrap64 ((wrap64 ((wrap64 (a3+1))*a1)) - (wrap64 (a3*a1)))),.int .i64 1073741824,.int .i64 a1] rfl zL ?_;(with_reducible refine (bF.calls k (wrap64 ((wrap64 ((wrap64 (a3+1))*a1)) - (wrap64 (a3*a1)))) 1073741824 a1 auT _ A16.out).mono ?_);rintro e w17 ⟨rfl,hb⟩;refine ⟨_,rfl,?_⟩;replace HB:=aj.mk (ak zB hb);(try clear hb)));go_ret;exact ⟨zS,zB⟩
 ·rw [if_neg c6] at H;have gI:(a0 == 0)=false:=beq_eq_false_iff_ne.mpr c6;have vU:(a0 != 0)=true:=bne_iff_ne.mpr c6;replace H:=zO H;obtain ⟨⟨alh,ali⟩,A18,H⟩:=H;try dsimp only at H
  by_cases c19:a0=1
  ·rw [if_pos c19] at H;have axf:(a0 == 1)=true:=beq_iff_eq.mpr c19;have aBO:(a0 != 1)=false:=bne_eq_false_iff_eq.mpr c19;clear c19;replace H:=zO H;obtain ⟨auU,A20,H⟩:=H;try dsimp only at H
   obtain rfl:=Option.some.inj H;go_enter Tryz.func141,Tryz.ntmps141;go_wp2_with (first|((with_reducible refine ay (f:=169) rfl ?_);refine aH (some 52) rfl rfl Tryz.func169 (by kernel_rfl) rfl #[.int .i64 a1,.int .i64 a2,.int .i64 a3,.int .i64 a4] rfl zL ?_;(with_reducible refine (gY.calls a1 a2 a3 a4 alh ali _ A18.out).mono ?_);rintro e w' ⟨rfl,⟨nd,rfl⟩⟩;refine ⟨_,rfl,?_⟩)|((with_reducible refine ay (f:=170) rfl ?_);refine aH (some 59) rfl rfl Tryz.func170 (by kernel_rfl) rfl #[.int .i64 alh,.int .i64 ali] rfl zL ?_;(with_reducible refine (cO.calls k alh ali auU _ A20.out).mono ?_);rintro e w21 ⟨rfl,hb⟩;refine ⟨_,rfl,?_⟩;replace HB:=aj.mk (ak zB hb);(try clear hb)));go_ret;exact ⟨zS,zB⟩
  ·rw [if_neg c19] at H;have axf:(a0 == 1)=false:=beq_eq_false_iff_ne.mpr c19;have aBO:(a0 != 1)=true:=bne_iff_ne.mpr c19;replace H:=zO H;obtain ⟨auV,A22,H⟩:=H;try dsimp only at H
   obtain rfl:=Option.some.inj H;go_enter Tryz.func141,Tryz.ntmps141;go_wp2_with (first|((with_reducible refine ay (f:=169) rfl ?_);refine aH (some 52) rfl rfl Tryz.func169 (by kernel_rfl) rfl #[.int .i64 a1,.int .i64 a2,.int .i64 a3,.int .i64 a4] rfl zL ?_;(with_reducible refine (gY.calls a1 a2 a3 a4 alh ali _ A18.out).mono ?_);rintro e w' ⟨rfl,⟨nd,rfl⟩⟩;refine ⟨_,rfl,?_⟩)|((with_reducible refine ay (f:=171) rfl ?_);refine aH (some 62) rfl rfl Tryz.func171 (by kernel_rfl) rfl #[.int .i64 alh,.int .i64 ali] rfl zL ?_;(with_reducible refine (fF.calls k alh ali auV _ A22.out).mono ?_);rintro e w23 ⟨rfl,hb⟩;refine ⟨_,rfl,?_⟩;replace HB:=aj.mk (ak zB hb);(try clear hb)));go_ret;exact ⟨zS,zB⟩
mutual
def dh.l0:Nat->Int->Int->Int->Int->Int->Option (Int × List Int)
 | 0,_,_,_,_,_=>none
 | k+1,x0,x1,x2,x3,x10=>(jK.f x0 x1 x2 x3 (wrap64 (x10 - 1))).bind fun auW=>(if auW=true then (dh.l0 k x0 x1 x2 x3 (wrap64 (x10 - 1))) else (dh.l1 k x0 x1 x2 x3 x10))
def dh.l1:Nat->Int->Int->Int->Int->Int->Option (Int × List Int)
 | 0,_,_,_,_,_=>none
 | k+1,x0,x1,x2,x3,x10=>(jK.f x0 x1 x2 x3 x10).bind fun auX=>(if auX=true then (dh.l2 k x0 x1 x2 x3 x10 x10 ([]:List Int)) else (dh.l1 k x0 x1 x2 x3 (wrap64 (x10+1))))
def dh.l2:Nat->Int->Int->Int->Int->Int->Int->List Int->Option (Int × List Int)
 | 0,_,_,_,_,_,_,_=>none
 | k+1,x0,x1,x2,x3,x10,x11,x12=>(jK.f x0 x1 x2 x3 x10).bind fun auY=>(if auY=true then ((nI.f k x0 x1 x2 x3 x10).bind fun alj=>(if x12.length < 17592186044416 then (dh.l2 k x0 x1 x2 x3 (wrap64 (x10+1)) x11 (x12 ++ [alj])) else (none))) else (some (x11,x12)))
end
def dh.f (k:Nat) (a0 a1 a2 a3:Int):Option (Int × List Int):=(mQ.f a0 a1 a2 a3).bind fun auZ=>(if auZ=true then (if a2=0 then (none) else (dh.l0 k a0 a1 a2 a3 (wrap64 (Int.tdiv (wrap64 (a3*a1)) a2)))) else (some (0,([]:List Int))))
theorem dh.calls (k:Nat) (a0 a1 a2 a3 r1:Int) (r2:List Int) (w:World) (h:dh.f k a0 a1 a2 a3=some (r1,r2)) :
  Calls Tryz.prog 114 #[.int .i64 a0,.int .i64 a1,.int .i64 a2,.int .i64 a3] w fun e w'=>∃ v1_:Value,e = .returned (.tuple #[.int .i64 r1,v1_])/\Kd.R (Kd.int .i64) 2 w' w.heap.size (fun _=>True) v1_ r2/\Below w.heap.size w w':=by
 have HB:=aj.mk (Below.refl w.heap.size w);have H:=h;clear h;unfold dh.f at H;replace H:=zO H;obtain ⟨auZ,A5,H⟩:=H;try dsimp only at H
 by_cases c6:auZ=true
 ·subst c6;rw [if_pos rfl] at H;(try dsimp only at H);by_cases c7:a2=0
  ·rw [if_pos c7] at H;exact absurd H (by simp)
  ·rw [if_neg c7] at H;have jw:(a2 == 0)=false:=beq_eq_false_iff_ne.mpr c7;have abY:(a2 != 0)=true:=bne_iff_ne.mpr c7;have H':=aj.mk H;clear H;go_enter Tryz.func114,Tryz.ntmps114;go_wp2_with (first|((with_reducible refine ay (f:=139) rfl ?_);refine aH (some 17) rfl rfl Tryz.func139 (by kernel_rfl) rfl #[.int .i64 a0,.int .i64 a1,.int .i64 a2,.int .i64 a3] rfl zL ?_;(with_reducible refine (mQ.calls a0 a1 a2 a3 true _ A5.out).mono ?_);rintro e w' ⟨rfl,⟨nd,rfl⟩⟩;refine ⟨_,rfl,?_⟩));go_loopg [10] k (fun kq v10 w'=>∃ (yT:Int),v10 = .int .i64 yT/\aj (dh.l0 kq a0 a1 a2 a3 yT=some (r1,r2))/\aj (kq<=k)/\aj (Below w.heap.size w w'))
   case atStart=>exact ⟨(wrap64 (Int.tdiv (wrap64 (a3*a1)) a2)),zT,H',⟨Nat.le_refl _⟩,⟨zB⟩⟩
   case round =>
    clear H';obtain ⟨yT,rfl,HA,HK1,HB⟩:=hrel;cases gk with
    | zero=>exact absurd HA.out (by simp [dh.l0])
    | succ k1 =>
     have H:=HA.out;clear HA;simp only [dh.l0] at H;replace H:=zO H;obtain ⟨auW,A8,H⟩:=H;try dsimp only at H
     by_cases c9:auW=true
     ·subst c9;rw [if_pos rfl] at H;(try dsimp only at H);have H':=aj.mk H;clear H;go_wp2_with (first|((with_reducible refine ay (f:=140) rfl ?_);refine aH (some 30) rfl rfl Tryz.func140 (by kernel_rfl) rfl #[.int .i64 a0,.int .i64 a1,.int .i64 a2,.int .i64 a3,.int .i64 (wrap64 (yT - 1))] rfl zL ?_;(with_reducible refine (jK.calls a0 a1 a2 a3 (wrap64 (yT - 1)) true _ A8.out).mono ?_);rintro e w' ⟨rfl,⟨nd,rfl⟩⟩;refine ⟨_,rfl,?_⟩));go_roundg k1
      case measure=>have:=HK1.out;omega
      case rel=>exact ⟨(wrap64 (yT - 1)),zT,H',⟨by have:=HK1.out;omega⟩,⟨zB⟩⟩
     ·replace c9:=Bool.eq_false_iff.mpr c9;subst c9;rw [if_neg (show ¬ (false=true) by decide)] at H;(try dsimp only at H);have H':=aj.mk H;clear H;go_wp2_with (first|((with_reducible refine ay (f:=140) rfl ?_);refine aH (some 30) rfl rfl Tryz.func140 (by kernel_rfl) rfl #[.int .i64 a0,.int .i64 a1,.int .i64 a2,.int .i64 a3,.int .i64 (wrap64 (yT - 1))] rfl zL ?_;(with_reducible refine (jK.calls a0 a1 a2 a3 (wrap64 (yT - 1)) false _ A8.out).mono ?_);rintro e w' ⟨rfl,⟨nd,rfl⟩⟩;refine ⟨_,rfl,?_⟩));try simp only [Act.put,List.setIfInBounds_toArray,List.set_cons_succ,List.set_cons_zero]
      go_loopg [10] k1 (fun kq v10 w'=>∃ (jR:Int),v10 = .int .i64 jR/\aj (dh.l1 kq a0 a1 a2 a3 jR=some (r1,r2))/\aj (kq<=k1)/\aj (Below w.heap.size w w'))
      case atStart=>exact ⟨(yT),zT,H',⟨Nat.le_refl _⟩,⟨zB⟩⟩
      case round =>
       clear H';obtain ⟨jR,rfl,HA,HK2,HB⟩:=hrel;cases gk with
       | zero=>exact absurd HA.out (by simp [dh.l1])
       | succ k2 =>
        have H:=HA.out;clear HA;simp only [dh.l1] at H;replace H:=zO H;obtain ⟨auX,A10,H⟩:=H;try dsimp only at H
        by_cases c11:auX=true
        ·subst c11;rw [if_pos rfl] at H;(try dsimp only at H);have H':=aj.mk H;clear H;go_wp2_with (first|((with_reducible refine ay (f:=140) rfl ?_);refine aH (some 38) rfl rfl Tryz.func140 (by kernel_rfl) rfl #[.int .i64 a0,.int .i64 a1,.int .i64 a2,.int .i64 a3,.int .i64 jR] rfl zL ?_;(with_reducible refine (jK.calls a0 a1 a2 a3 jR true _ A10.out).mono ?_);rintro e w' ⟨rfl,⟨nd,rfl⟩⟩;refine ⟨_,rfl,?_⟩));try simp only [Act.put,List.setIfInBounds_toArray,List.set_cons_succ,List.set_cons_zero]
         go_loopg [10,12] k2 (fun kq v10 v12 w'=>∃ (o7:Int) (ah2:List Int),v10 = .int .i64 o7/\aj (dh.l2 kq a0 a1 a2 a3 o7 jR ah2=some (r1,r2))/\aj (kq<=k2)/\aj (Kd.R (Kd.int .i64) 2 w' w.heap.size (fun _=>True) v12 ah2)/\aj (Below w.heap.size w w'))
         case atStart=>exact ⟨(jR),(([]:List Int)),zT,H',⟨Nat.le_refl _⟩,⟨by first|exact Kd.kJ _ _ _ _ _|exact Kd.qO _ _ _ _ _|exact Kd.oU _ _ _ _ _|exact Kd.qP _ _ _ _ _|exact Kd.qp _ _ _ _ _⟩,⟨zB⟩⟩
         case round =>
          clear H';obtain ⟨o7,ah2,rfl,HA,HK3,ank,HB⟩:=hrel;cases gk with
          | zero=>exact absurd HA.out (by simp [dh.l2])
          | succ k3 =>
           have H:=HA.out;clear HA;simp only [dh.l2] at H;replace H:=zO H;obtain ⟨auY,A12,H⟩:=H;try dsimp only at H
           by_cases c13:auY=true
           ·subst c13;rw [if_pos rfl] at H;(try dsimp only at H);replace H:=zO H;obtain ⟨alj,A14,H⟩:=H;try dsimp only at H
            by_cases c15:ah2.length < 17592186044416
            ·rw [if_pos c15] at H;have arG:=aj.mk c15;clear c15;obtain ⟨azo,aj3⟩:∃ y_:List Int,y_=(ah2 ++ [alj]):=⟨_,rfl⟩;replace H:(dh.l2 k3 a0 a1 a2 a3 (wrap64 (o7+1)) jR azo)=some (r1,r2):=(by first|(rw [aj3];with_reducible exact H)|(have H2_:=(Option.bind_some _ _).symm.trans H;rw [aj3];with_reducible exact H2_)|(have H2_:=(Option.bind_some _ _).symm.trans H;with_reducible exact H2_)|with_reducible exact H|(rw [aj3];exact H)|exact H);have aBP:=aj.mk aj3;clear aj3;have H':=aj.mk H;clear H;go_wp2_with (first|((with_reducible refine ay (f:=140) rfl ?_);refine aH (some 48) rfl rfl Tryz.func140 (by kernel_rfl) rfl #[.int .i64 a0,.int .i64 a1,.int .i64 a2,.int .i64 a3,.int .i64 o7] rfl zL ?_;(with_reducible refine (jK.calls a0 a1 a2 a3 o7 true _ A12.out).mono ?_);rintro e w' ⟨rfl,⟨nd,rfl⟩⟩;refine ⟨_,rfl,?_⟩)|((with_reducible refine ay (f:=141) rfl ?_);refine aH (some 55) rfl rfl Tryz.func141 (by kernel_rfl) rfl #[.int .i64 a0,.int .i64 a1,.int .i64 a2,.int .i64 a3,.int .i64 o7] rfl zL ?_;(with_reducible refine (nI.calls k3 a0 a1 a2 a3 o7 alj _ A14.out).mono ?_);rintro e w16 ⟨rfl,hb⟩;refine ⟨_,rfl,?_⟩;obtain ⟨ank,HB⟩:=zA2 (Kd.jF (by (with_reducible repeat (first|apply Kd.aN|apply Kd.aT|apply Kd.aV));exact ank.out) hb) (ak zB hb);(try clear hb))|((with_reducible refine kR (b := .append) (xs := #[.tmp 49,.tmp 56]) rfl ?_);at_builtin;refine Kd.lU (Kd.int .i64) (w0:=w) w.heap.size rfl (.tmp 49) (.tmp 56) 44 2 (.int .i64 0) 8 rfl Tryz.underlying44 yM rfl (by decide) (by omega) u12 ah2 alj [.int .i64 alj] (fun _=>True) (fun _=>False) rfl rfl ?aP (fun _ hk=>hk.elim) ?aF ?aO ?aB ?aS ?aL ?_;(case aP=>exact rfl);(case aB=>exact zB);(case aF=>exact (fun _ _=>trivial));(case aO=>exact (by (with_reducible repeat (first|apply Kd.aN|apply Kd.aT|apply Kd.aV));exact ank.out));(case aS=>exact (bW zB));(case aL=>have:=arG.out;omega);intro aIV w17 ho hb hg hat;rw [<- aBP.out] at ho;obtain ⟨HB,aBQ⟩:=zA2 hb ho;clear ho hb hg hat));go_roundg k3
             case measure=>have:=HK1.out;have:=HK2.out;have:=HK3.out;omega
             case rel=>exact ⟨(wrap64 (o7+1)),(azo),zT,H',⟨by have:=HK1.out;have:=HK2.out;have:=HK3.out;omega⟩,⟨by (with_reducible repeat (first|apply Kd.aN|apply Kd.aT|apply Kd.aV));exact aBQ.out⟩,⟨zB⟩⟩
            ·rw [if_neg c15] at H;exact absurd H (by simp)
           ·replace c13:=Bool.eq_false_iff.mpr c13;subst c13;rw [if_neg (show ¬ (false=true) by decide)] at H;(try dsimp only at H);simp only [Option.some.injEq,Prod.mk.injEq] at H;obtain ⟨rfl,rfl⟩:=H;go_wp2_with (first|((with_reducible refine ay (f:=140) rfl ?_);refine aH (some 48) rfl rfl Tryz.func140 (by kernel_rfl) rfl #[.int .i64 a0,.int .i64 a1,.int .i64 a2,.int .i64 a3,.int .i64 o7] rfl zL ?_;(with_reducible refine (jK.calls a0 a1 a2 a3 o7 false _ A12.out).mono ?_);rintro e w' ⟨rfl,⟨nd,rfl⟩⟩;refine ⟨_,rfl,?_⟩));go_ret2;exact ⟨_,zS,by (with_reducible repeat (first|apply Kd.aN|apply Kd.aT|apply Kd.aV));exact ank.out,zB⟩
        ·replace c11:=Bool.eq_false_iff.mpr c11;subst c11;rw [if_neg (show ¬ (false=true) by decide)] at H;(try dsimp only at H);have H':=aj.mk H;clear H;go_wp2_with (first|((with_reducible refine ay (f:=140) rfl ?_);refine aH (some 38) rfl rfl Tryz.func140 (by kernel_rfl) rfl #[.int .i64 a0,.int .i64 a1,.int .i64 a2,.int .i64 a3,.int .i64 jR] rfl zL ?_;(with_reducible refine (jK.calls a0 a1 a2 a3 jR false _ A10.out).mono ?_);rintro e w' ⟨rfl,⟨nd,rfl⟩⟩;refine ⟨_,rfl,?_⟩));go_roundg k2
         case measure=>have:=HK1.out;have:=HK2.out;omega
         case rel=>exact ⟨(wrap64 (jR+1)),zT,H',⟨by have:=HK1.out;have:=HK2.out;omega⟩,⟨zB⟩⟩
 ·replace c6:=Bool.eq_false_iff.mpr c6;subst c6;rw [if_neg (show ¬ (false=true) by decide)] at H;(try dsimp only at H);simp only [Option.some.injEq,Prod.mk.injEq] at H;obtain ⟨rfl,rfl⟩:=H;go_enter Tryz.func114,Tryz.ntmps114;go_wp2_with (first|((with_reducible refine ay (f:=139) rfl ?_);refine aH (some 17) rfl rfl Tryz.func139 (by kernel_rfl) rfl #[.int .i64 a0,.int .i64 a1,.int .i64 a2,.int .i64 a3] rfl zL ?_;(with_reducible refine (mQ.calls a0 a1 a2 a3 false _ A5.out).mono ?_);rintro e w' ⟨rfl,⟨nd,rfl⟩⟩;refine ⟨_,rfl,?_⟩));go_ret2;exact ⟨_,zS,by first|exact Kd.kJ _ _ _ _ _|exact Kd.qO _ _ _ _ _|exact Kd.oU _ _ _ _ _|exact Kd.qP _ _ _ _ _|exact Kd.qp _ _ _ _ _,zB⟩
def jo.f (a0:Int):Option (Int):=if a0>=0 then (some a0) else (if a0 < (-9223372036854775807) then (some 9223372036854775807) else (some (wrap64 (-a0))))
theorem jo.calls (a0 r:Int) (w:World) (h:jo.f a0=some r) :
  Calls Tryz.prog 142 #[.int .i64 a0] w fun e w'=>e = .returned (.int .i64 r)/\dA w w':=by
 have H:=h;clear h;unfold jo.f at H;by_cases c2:a0>=0
 ·rw [if_pos c2] at H;have oM:=decide_eq_true c2;clear c2;obtain rfl:=Option.some.inj H;go_enter Tryz.func142,Tryz.ntmps142;go_wp2;go_ret;exact ⟨zT,zW⟩
 ·rw [if_neg c2] at H;have oM:=decide_eq_false c2;clear c2;by_cases c3:a0 < (-9223372036854775807)
  ·rw [if_pos c3] at H;have fU:=decide_eq_true c3;clear c3;obtain rfl:=Option.some.inj H;go_enter Tryz.func142,Tryz.ntmps142;go_wp2;go_ret;exact ⟨zT,zW⟩
  ·rw [if_neg c3] at H;have fU:=decide_eq_false c3;clear c3;obtain rfl:=Option.some.inj H;go_enter Tryz.func142,Tryz.ntmps142;go_wp2;go_ret;exact ⟨zT,zW⟩
def iM.j0:Nat->Int->Int->Bool->Option (Int)
 | 0,_,_,_=>none
 | k+1,x0,x1,x12=>if x12=true then (some 9223372036854775807) else (if x1 < 0 then (if x0 < (wrap64 ((-9223372036854775808) - x1)) then (some (-9223372036854775808)) else (some (wrap64 (x0+x1)))) else (some (wrap64 (x0+x1))))
def iM.f (k:Nat) (a0 a1:Int):Option (Int):=if a1 > 0 then (iM.j0 k a0 a1 (decide (a0 > (wrap64 (9223372036854775807 - a1))))) else (iM.j0 k a0 a1 false)
theorem iM.calls (k:Nat) (a0 a1 r:Int) (w:World) (h:iM.f k a0 a1=some r) :
  Calls Tryz.prog 147 #[.int .i64 a0,.int .i64 a1] w fun e w'=>e = .returned (.int .i64 r)/\dA w w':=by
 have H:=h;clear h;unfold iM.f at H;have HC3:=aj.mk H;clear H;go_enter Tryz.func147,Tryz.ntmps147;go_upto_region 1 with (fail);go_cut [12] (fun v12 wc=>∃ (kq:Nat) (anl:Bool),v12 = .bool anl/\aj (iM.j0 kq a0 a1 anl=some r)/\aj (kq<=k)/\dA w wc)
 case first =>
  have H:=HC3.out;clear HC3;by_cases c4:a1 > 0
  ·rw [if_pos c4] at H;have fH:=decide_eq_true c4;clear c4
   (first|rw [fH]|(simp only [bP,bU];rw [fH])|skip)
   have H':=aj.mk H;clear H;go_wp2;go_meet
   case rel=>exact ⟨_,(decide (a0 > (wrap64 (9223372036854775807 - a1)))),zT,H',⟨by first|omega|exact Nat.le_refl _⟩,zW⟩
  ·rw [if_neg c4] at H;have fH:=decide_eq_false c4;clear c4
   (first|rw [fH]|(simp only [bP,bU];rw [fH])|skip)
   have H':=aj.mk H;clear H;go_wp2;go_meet
   case rel=>exact ⟨_,(false),zT,H',⟨by first|omega|exact Nat.le_refl _⟩,zW⟩
 case rest =>
  clear HC3;obtain ⟨kq,anl,rfl,HA,HJ2,⟨mc2,rfl⟩⟩:=hcut;cases kq with
  | zero=>exact absurd HA.out (by simp [iM.j0])
  | succ kj2 =>
   have H:=HA.out;clear HA;simp only [iM.j0] at H;by_cases c5:anl=true
   ·subst c5;rw [if_pos rfl] at H;(try dsimp only at H);obtain rfl:=Option.some.inj H;go_wp2;go_ret;exact ⟨zT,zW⟩
   ·replace c5:=Bool.eq_false_iff.mpr c5;subst c5;rw [if_neg (show ¬ (false=true) by decide)] at H;(try dsimp only at H);by_cases c6:a1 < 0
    ·rw [if_pos c6] at H;have gI:=decide_eq_true c6;clear c6;by_cases c7:a0 < (wrap64 ((-9223372036854775808) - a1))
     ·rw [if_pos c7] at H;have jw:=decide_eq_true c7;clear c7;obtain rfl:=Option.some.inj H;go_wp2;go_ret;exact ⟨zT,zW⟩
     ·rw [if_neg c7] at H;have jw:=decide_eq_false c7;clear c7;obtain rfl:=Option.some.inj H;go_wp2;go_ret;exact ⟨zT,zW⟩
    ·rw [if_neg c6] at H;have gI:=decide_eq_false c6;clear c6;obtain rfl:=Option.some.inj H;go_wp2;go_ret;exact ⟨zT,zW⟩
def fO.l0:Nat->Int->List Int->Int->Int->Option (Int)
 | 0,_,_,_,_=>none
 | k+1,x3,x6,x7,x8=>if x8 < x7 then (if 0<=x8 then (if x8 < (x6.length:Int) then ((iM.f k x3 (rd x6 x8)).bind fun arH=>(fO.l0 k arH x6 x7 (wrap64 (x8+1)))) else (none)) else (none)) else (some x3)
def fO.f (k:Nat) (l0:List Int):Option (Int):=fO.l0 k 0 l0 (l0.length:Int) 0
theorem fO.calls (k:Nat) (A0:Option Addr) (c0:Nat) (l0:List Int) (r:Int) (w:World) (hr0:Kd.C (Kd.int .i64) w A0 l0.length l0) (hc0:l0.length<=c0) (h:fO.f k l0=some r) :
  Calls Tryz.prog 143 #[.slice A0 l0.length c0] w fun e w'=>e = .returned (.int .i64 r)/\dA w w':=by
 have HR0:=aj.mk hr0;have HC0:=aj.mk hc0;clear hr0 hc0;have H:=h;clear h;unfold fO.f at H;have H':=aj.mk H;clear H;go_enter Tryz.func143,Tryz.ntmps143;go_wp2;go_loopg [3,8] k (fun kq v3 v8 w'=>∃ (qm:Int) (iT:Int),v3 = .int .i64 qm/\v8 = .int .i64 iT/\aj (fO.l0 kq qm l0 (l0.length:Int) iT=some r)/\aj (kq<=k)/\dA w w')
 case atStart=>exact ⟨(0),(0),zT,zT,H',⟨Nat.le_refl _⟩,zW⟩
 case round =>
  clear H';obtain ⟨qm,iT,rfl,rfl,HA,HK1,⟨m1,rfl⟩⟩:=hrel;cases gk with
  | zero=>exact absurd HA.out (by simp [fO.l0])
  | succ k1 =>
   have H:=HA.out;clear HA;simp only [fO.l0] at H;by_cases c2:iT < (l0.length:Int)
   ·rw [if_pos c2] at H;have oM:=decide_eq_true c2;clear c2;by_cases c3:0<=iT
    ·rw [if_pos c3] at H;have fU:=decide_eq_true c3;clear c3;by_cases c4:iT < (l0.length:Int)
     ·rw [if_pos c4] at H;have fH:=decide_eq_true c4;clear c4;replace H:=zO H;obtain ⟨arH,A5,H⟩:=H;try dsimp only at H
      have H':=aj.mk H;clear H;have au0:0<=(iT:Int):=of_decide_eq_true (by first|(with_reducible assumption)|assumption);have au1:iT < (l0.length:Int):=of_decide_eq_true (by first|(with_reducible assumption)|assumption);obtain ⟨aHQ,aDk,aFm⟩:=Kd.iZ HR0.out iT au0 au1;cases aDk;replace au0:=eq_true au0;replace au1:=eq_true au1;go_wp2_with (first|((with_reducible refine ay (f:=147) rfl ?_);refine aH (some 14) rfl rfl Tryz.func147 (by kernel_rfl) rfl #[.int .i64 qm,.int .i64 (rd l0 iT)] rfl zL ?_;(with_reducible refine (iM.calls k1 qm (rd l0 iT) arH _ A5.out).mono ?_);rintro e w' ⟨rfl,⟨nd,rfl⟩⟩;refine ⟨_,rfl,?_⟩));go_roundg k1
      case measure=>have:=HK1.out;omega
      case rel=>exact ⟨(arH),(wrap64 (iT+1)),zT,zT,H',⟨by have:=HK1.out;omega⟩,zW⟩
     ·rw [if_neg c4] at H;exact absurd H (by simp)
    ·rw [if_neg c3] at H;exact absurd H (by simp)
   ·rw [if_neg c2] at H;have oM:=decide_eq_false c2;clear c2;obtain rfl:=Option.some.inj H;go_wp2;go_ret;exact ⟨zT,zW⟩
end Go.Proofs.YtpondkggmcmpfaaGreatDoor.QA
