/- Joined by wip/tools/bundle.py out of: QAx28 QAx29 QAx30 QAx31 QAx32 QAx33 QAx34. -/
import Derived.Test.YtpondkggmcmpfaaGreatDoorBDirectComposes12
set_option maxHeartbeats 8000000
set_option maxRecDepth 100000
namespace Go.Proofs.YtpondkggmcmpfaaGreatDoor.QA
open Go.Proofs.YtpondkggmcmpfaaGreatDoor.T
open Go.RowKit Go.Proofs.YtpondkggmcmpfaaGreatDoorW.PrintWords Go.Proofs.YtpondkggmcmpfaaGreatDoorW.PrintLast Go.Proofs.YtpondkggmcmpfaaGreatDoorW.PrintMore
attribute [local go_sem] dU dM dN fA fB
set_option linter.unusedVariables false
set_option linter.unusedSimpArgs false
mutual
def aK.l0:Nat→Int→Int→Int→Int→Int→Int→Option (Int)
 | 0,_,_,_,_,_,_=>none
 | k+1,x0,x1,x20,x21,tu,tC=>if x21 < x20 then ((dR.f tu tC 0).bind fun aw0=>(aK.l0 k x0 x1 x20 (wrap64 (x21+1)) aw0.1 aw0.2)) else ((dW.f x0).bind fun vV=>(aK.l1 k x0 x1 127 tu tC 0 vV 0 0))
def aK.l1:Nat→Int→Int→Int→Int→Int→Int→Int→Int→Int→Option (Int)
 | 0,_,_,_,_,_,_,_,_,_=>none
 | k+1,x0,x1,x8,tu,tC,wM,wO,tH,tJ=>if x8≥x1 then ((fZ.f wM wO x8).bind fun aol=>((dR.f tH tJ aol).bind fun aw1=>(aK.l1 k x0 x1 (wrap64 (x8 - 1)) tu tC wM wO aw1.1 aw1.2))) else (aK.l2 k x0 x1 tu tC wM wO tH tJ wM wO)
def aK.l2:Nat→Int→Int→Int→Int→Int→Int→Int→Int→Int→Int→Option (Int)
 | 0,_,_,_,_,_,_,_,_,_,_=>none
 | k+1,x0,x10,tu,tC,wM,wO,tH,tJ,ab1,ab3=>if x10 < 128 then ((fZ.f wM wO x10).bind fun afy=>(if afy=1 then (aK.l3 k x0 x10 x10 0 tu tC wM wO tH tJ ab1 ab3 0 1) else (aK.l2 k x0 (wrap64 (x10+1)) tu tC wM wO tH tJ ab1 ab3))) else ((iU.f ab1 ab3 tu tC).bind fun aro=>(if x0 < 0 then ((iU.f tu tC ab1 ab3).bind fun arp=>(aK.j4 k x0 arp tH tJ)) else (aK.j4 k x0 (!aro) tH tJ)))
def aK.l3:Nat→Int→Int→Int→Int→Int→Int→Int→Int→Int→Int→Int→Int→Int→Int→Option (Int)
 | 0,_,_,_,_,_,_,_,_,_,_,_,_,_,_=>none
 | k+1,x0,x10,x51,x52,tu,tC,wM,wO,tH,tJ,ab1,ab3,aqd,aqe=>if x52 < x51 then ((dR.f aqd aqe 0).bind fun aw2=>(aK.l3 k x0 x10 x51 (wrap64 (x52+1)) tu tC wM wO tH tJ ab1 ab3 aw2.1 aw2.2)) else ((lH.f ab1 ab3 aqd aqe).bind fun aw3=>(aK.l2 k x0 (wrap64 (x10+1)) tu tC wM wO tH tJ aw3.1 aw3.2))
def aK.j4:Nat→Int→Bool→Int→Int→Option (Int)
 | 0,_,_,_,_=>none
 | k+1,x0,x12,tH,tJ=>if x12=true then ((iK.f tH tJ 0 1).bind fun aw4=>((cZ.f k aw4.1 aw4.2 (decide (x0 < 0))).bind fun aut=>(some aut))) else ((cZ.f k tH tJ (decide (x0 < 0))).bind fun auu=>(some auu))
end
def aK.f (k:Nat) (a0 a1:Int):Option (Int):=if a1 < 1 then (some a0) else (if a1 > 64 then (some 0) else (aK.l0 k a0 a1 (wrap64 (a1 - 1)) 0 0 1))
theorem aK.calls (k:Nat) (a0 a1 r:Int) (w:World) (h:aK.f k a0 a1=some r) :
  Calls Tryz.prog 101 #[.int .i64 a0,.int .i64 a1] w fun e w'=>e = .returned (.int .i64 r)∧Below w.heap.size w w':=by
 have aaB:=Tryz.underlying179;have HB:=aj.mk (Below.refl w.heap.size w);have H:=h;clear h;unfold aK.f at H;by_cases c3:a1 < 1
 ·rw [if_pos c3] at H;have fV:=decide_eq_true c3;clear c3;obtain rfl:=Option.some.inj H;go_enter Tryz.func101,Tryz.ntmps101;go_wp2;go_ret;exact ⟨zS,zB⟩
 ·rw [if_neg c3] at H;have fV:=decide_eq_false c3;clear c3;by_cases c4:a1 > 64
  ·rw [if_pos c4] at H;have fH:=decide_eq_true c4;clear c4;obtain rfl:=Option.some.inj H;go_enter Tryz.func101,Tryz.ntmps101;go_wp2;go_ret;exact ⟨zS,zB⟩
  ·rw [if_neg c4] at H;have fH:=decide_eq_false c4;clear c4;have H':=aj.mk H;clear H;go_enter Tryz.func101,Tryz.ntmps101;go_wp2_with (first|((with_reducible refine aZ (N:=5) rfl ?_);refine aX zR (N:=5) zR (cs := #[.int .u64 0,.int .u64 0]) (t:=179) zG ?_;intro ahT hg w5 hbox hb;obtain ⟨HB,fE,aGu,aGv⟩:=zA4 (ak zB hb) hbox (zg hg zB) (zg hg zB);clear hb hbox hg;obtain ⟨_,_⟩:=zC2 fE.out;obtain ⟨_,_⟩:=zF2 fE.out));go_loopg [21] k (fun kq v21 w'=>∃ (yJ:Int) (lF:Int) (kU:Int),v21 = .int .i64 yJ∧aj (aK.l0 kq a0 a1 (wrap64 (a1 - 1)) yJ lF kU=some r)∧aj (kq≤k)∧aj (w'.heap[ahT]? = some (.cells #[.int .u64 lF,.int .u64 kU] 179 (0,0)))∧aj (Below w.heap.size w w'))
   case atStart=>exact ⟨(0),(0),(1),zT,H',⟨Nat.le_refl _⟩,⟨by refine zD ?_;refine bg (cs := #[.int .u64 0,.int .u64 0]) ?_ 1 _ rfl;refine zD ?_;refine bg (cs := #[.int .u64 0,.int .u64 0]) ?_ 0 _ rfl;refine zD ?_;exact fE.out⟩,⟨zB⟩⟩
   case round =>
    clear H';obtain ⟨yJ,lF,kU,rfl,HA,HK1,fE,HB⟩:=hrel;cases gk with
    | zero=>exact absurd HA.out (by simp [aK.l0])
    | succ k1 =>
     have H:=HA.out;clear HA;simp only [aK.l0] at H;by_cases c7:yJ < (wrap64 (a1 - 1))
     ·rw [if_pos c7] at H;have jr:=decide_eq_true c7;clear c7;replace H:=zO H;obtain ⟨⟨auv,ay5⟩,A8,H⟩:=H;try dsimp only at H
      have H':=aj.mk H;clear H;obtain ⟨_,_⟩:=zC2 fE.out;obtain ⟨_,_⟩:=zF2 fE.out;go_wp2_with (first|((with_reducible refine ay (f:=119) rfl ?_);refine aH (some 24) rfl rfl Tryz.func119 (by kernel_rfl) rfl #[.agg #[.int .u64 lF,.int .u64 kU],.int .u64 0] rfl zL ?_;(with_reducible refine (dR.calls lF kU 0 auv ay5 _ A8.out).mono ?_);rintro e w10 ⟨rfl,hb⟩;refine ⟨_,rfl,?_⟩;obtain ⟨fE,HB⟩:=zA2 (aA (zK fE) hb) (ak zB hb);(try clear hb);obtain ⟨_,_⟩:=zC2 fE.out;obtain ⟨_,_⟩:=zF2 fE.out));go_roundg k1
      case measure=>have:=HK1.out;omega
      case rel=>exact ⟨(wrap64 (yJ+1)),(auv),(ay5),zT,H',⟨by have:=HK1.out;omega⟩,⟨by refine zD ?_;refine bg (cs := #[.int .u64 auv,.int .u64 kU]) ?_ 1 _ rfl;refine zD ?_;refine bg (cs := #[.int .u64 lF,.int .u64 kU]) ?_ 0 _ rfl;refine zD ?_;exact fE.out⟩,⟨zB⟩⟩
     ·rw [if_neg c7] at H;have jr:=decide_eq_false c7;clear c7;replace H:=zO H;obtain ⟨vV,A12,H⟩:=H;try dsimp only at H
      have H':=aj.mk H;clear H;go_wp2_with (first|((with_reducible refine ay (f:=120) rfl ?_);refine aH (some 27) rfl rfl Tryz.func120 (by kernel_rfl) rfl #[.int .i64 a0] rfl zL ?_;(with_reducible refine (dW.calls a0 vV _ A12.out).mono ?_);rintro e w' ⟨rfl,⟨nd,rfl⟩⟩;refine ⟨_,rfl,?_⟩;(try (rw [qp wr];generalize hq_:World.drewN wr _=wr;have n0_:aj (wr.heap[ahT]? = some (.cells #[.int .u64 lF,.int .u64 kU] 179 (0,0))):=⟨by rw [← hq_];exact (zK fE)⟩;have n1_:aj (Below w.heap.size w wr):=⟨by rw [← hq_];exact zB⟩;clear fE HB hq_;have fE:=n0_;have HB:=n1_;clear n0_ n1_)))|((with_reducible refine aZ (N:=6) rfl ?_);refine aX zR (N:=6) zR (cs := #[.int .u64 0,.int .u64 0]) (t:=179) zG ?_;intro abx hg w13 hbox hb;obtain ⟨fE,HB,gq,aGw,aGx,aaU,aaV⟩:=zA7 (aA (zK fE) hb) (ak zB hb) hbox (zg hg zB) (zg hg zB) (zl hg (zK fE)) (zr hg (zK fE));clear hb hbox hg;have aq6:=aaV.out;have aq7:=aaU.out;obtain ⟨_,_⟩:=zC2 gq.out;obtain ⟨_,_⟩:=zF2 gq.out)|((with_reducible refine aZ (N:=7) rfl ?_);refine aX zR (N:=7) zR (cs := #[.int .u64 0,.int .u64 0]) (t:=179) zG ?_;intro aby hg w16 hbox hb;obtain ⟨fE,gq,HB,gB,aGy,aGz,yX,yY,xu,xw⟩:=aff (aA (zK fE) hb) (aA (g:=abx) (o := .cells #[.int .u64 0,.int .u64 vV] 179 (0,0)) (by refine zD ?_;refine bg (cs := #[.int .u64 0,.int .u64 0]) ?_ 1 _ rfl;refine zD ?_;refine bg (cs := #[.int .u64 0,.int .u64 0]) ?_ 0 _ rfl;refine zD ?_;exact gq.out) hb) (ak zB hb) hbox (zg hg zB) (zg hg zB) (zl hg (zK fE)) (zr hg (zK fE)) ((by rw [hg];exact Nat.ne_of_lt (bI (g:=abx) (o := .cells #[.int .u64 0,.int .u64 vV] 179 (0,0)) (by refine zD ?_;refine bg (cs := #[.int .u64 0,.int .u64 0]) ?_ 1 _ rfl;refine zD ?_;refine bg (cs := #[.int .u64 0,.int .u64 0]) ?_ 0 _ rfl;refine zD ?_;exact gq.out)):abx≠aby)) ((by rw [hg];exact Nat.ne_of_gt (bI (g:=abx) (o := .cells #[.int .u64 0,.int .u64 vV] 179 (0,0)) (by refine zD ?_;refine bg (cs := #[.int .u64 0,.int .u64 0]) ?_ 1 _ rfl;refine zD ?_;refine bg (cs := #[.int .u64 0,.int .u64 0]) ?_ 0 _ rfl;refine zD ?_;exact gq.out)):aby≠abx));clear hb hbox hg;have aBn:=yY.out;have aBo:=yX.out;have aBs:=xw.out;have aBt:=xu.out;obtain ⟨_,_⟩:=zC2 gB.out;obtain ⟨_,_⟩:=zF2 gB.out));try simp only [Act.put,List.setIfInBounds_toArray,List.set_cons_succ,List.set_cons_zero]
      go_loopg [8] k1 (fun kq v8 w'=>∃ (mZ:Int) (kV:Int) (jU:Int),v8 = .int .i64 mZ∧aj (aK.l1 kq a0 a1 mZ lF kU 0 vV kV jU=some r)∧aj (kq≤k1)∧aj (w'.heap[ahT]? = some (.cells #[.int .u64 lF,.int .u64 kU] 179 (0,0)))∧aj (w'.heap[abx]? = some (.cells #[.int .u64 0,.int .u64 vV] 179 (0,0)))∧aj (w'.heap[aby]? = some (.cells #[.int .u64 kV,.int .u64 jU] 179 (0,0)))∧aj (Below w.heap.size w w'))
      case atStart=>exact ⟨(127),(0),(0),zT,H',⟨Nat.le_refl _⟩,⟨zK fE⟩,⟨zK gq⟩,⟨by refine zD ?_;refine bg (cs := #[.int .u64 0,.int .u64 0]) ?_ 1 _ rfl;refine zD ?_;refine bg (cs := #[.int .u64 0,.int .u64 0]) ?_ 0 _ rfl;refine zD ?_;exact gB.out⟩,⟨zB⟩⟩
      case round =>
       clear H';obtain ⟨mZ,kV,jU,rfl,HA,HK2,fE,gq,gB,HB⟩:=hrel;cases gk with
       | zero=>exact absurd HA.out (by simp [aK.l1])
       | succ k2 =>
        have H:=HA.out;clear HA;simp only [aK.l1] at H;by_cases c20:mZ≥a1
        ·rw [if_pos c20] at H;have aBu:=decide_eq_true c20;clear c20;replace H:=zO H;obtain ⟨aol,A21,H⟩:=H;try dsimp only at H
         replace H:=zO H;obtain ⟨⟨auw,ay6⟩,A22,H⟩:=H;try dsimp only at H
         have H':=aj.mk H;clear H;try go_wp2
         obtain ⟨fE,gq,gB,HB⟩:=zA4 (jO fE.out) (jO gq.out) (jO gB.out) (bD HB.out);refine adw (n:=6) (S:=fun w'=>w'.cell? ⟨aby,0,none⟩=some (.int .u64 kV)∧w'.cell? ⟨aby,1,none⟩=some (.int .u64 jU)∧w'.cell? ⟨abx,0,none⟩=some (.int .u64 0)∧w'.cell? ⟨abx,1,none⟩=some (.int .u64 vV)) (ds:=[5]) #[false,false,false,false,false,false] (by kernel_rfl) rfl rfl ⟨(au gB.out 0).trans rfl,(au gB.out 1).trans rfl,(au gq.out 0).trans rfl,(au gq.out 1).trans rfl⟩ (fun hHeld => ?_);generalize wr.drew=w23 at fE gq gB HB hHeld ⊢;refine uj (i:=2) (N:=some 37) (v := ?_) (a' := ?_) #[false,false,true,false,false,false] rfl rfl (by kernel_rfl) (fun _ _ _ h=>h) (Or.inl ⟨by rfl,?_⟩) ?_ ?_;rotate_left
         ·intro w';go_simp
          with_reducible rfl
         rotate_left
         ·simp only [Act.put,List.setIfInBounds_toArray,List.set_cons_zero,List.set_cons_succ,bP,bU];rfl
         refine xC (i:=0) (N:=some 35) (v := ?_) (a' := ?_) #[true,false,true,false,false,false] rfl rfl (by kernel_rfl) (fun _ _ _ h=>h) (Or.inl ⟨by rfl,?_⟩) hHeld ?_ ?_;rotate_left
         ·rintro w' ⟨s0,s1,s2,s3⟩;go_simp
          with_reducible rfl
         rotate_left
         ·simp only [Act.put,List.setIfInBounds_toArray,List.set_cons_zero,List.set_cons_succ,bP,bU];rfl
         refine xC (i:=1) (N:=some 36) (v := ?_) (a' := ?_) #[true,true,true,false,false,false] rfl rfl (by kernel_rfl) (fun _ _ _ h=>h) (Or.inl ⟨by rfl,?_⟩) hHeld ?_ ?_;rotate_left
         ·rintro w' ⟨s0,s1,s2,s3⟩;go_simp
          with_reducible rfl
         rotate_left
         ·simp only [Act.put,List.setIfInBounds_toArray,List.set_cons_zero,List.set_cons_succ,bP,bU];rfl
         refine aaH (i:=3) (N:=some 38) #[true,true,true,true,false,false] rfl rfl (by kernel_rfl) (by decide) (fun K hK => ?_);refine aay Tryz.func121 (by kernel_rfl) rfl #[.agg #[.int .u64 0,.int .u64 vV],.int .i64 mZ] (by rfl) rfl rfl zL ?_;with_reducible refine (fZ.calls 0 vV mZ aol _ A21.out).mono ?_
         rintro e w24 ⟨rfl,hb⟩;refine ⟨_,rfl,?_⟩;obtain ⟨fE,gq,gB,HB⟩:=zA4 (aA (zK fE) hb) (aA (zK gq) hb) (aA (zK gB) hb) (ak zB hb)
         (try clear hb)
         (try clear hb2)
         (try clear hk)
         (try clear hi)
         refine hK.out _ _ ⟨(au gB.out 0).trans rfl,(au gB.out 1).trans rfl,(au gq.out 0).trans rfl,(au gq.out 1).trans rfl⟩ (fun hHeld => ?_);clear hK K;refine yB (a' := ?_) ?_ ?_;rotate_left
         ·show Act.put _ (some 38) _=_
          simp only [Act.put,List.setIfInBounds_toArray,List.set_cons_zero,List.set_cons_succ,bP,bU];rfl
         refine aaH (i:=4) (N:=some 39) #[true,true,true,true,true,false] rfl rfl (by kernel_rfl) (by decide) (fun K hK => ?_);refine aay Tryz.func119 (by kernel_rfl) rfl #[.agg #[.int .u64 kV,.int .u64 jU],.int .u64 aol] (by rfl) rfl rfl zL ?_;with_reducible refine (dR.calls kV jU aol auw ay6 _ A22.out).mono ?_
         rintro e w25 ⟨rfl,hb⟩;refine ⟨_,rfl,?_⟩;obtain ⟨fE,gq,gB,HB⟩:=zA4 (aA (zK fE) hb) (aA (zK gq) hb) (aA (zK gB) hb) (ak zB hb)
         (try clear hb)
         (try clear hb2)
         (try clear hk)
         (try clear hi)
         refine hK.out _ _ ⟨(au gB.out 0).trans rfl,(au gB.out 1).trans rfl,(au gq.out 0).trans rfl,(au gq.out 1).trans rfl⟩ (fun hHeld => ?_);clear hK K;refine yB (a' := ?_) ?_ ?_;rotate_left
         ·show Act.put _ (some 39) _=_
          simp only [Act.put,List.setIfInBounds_toArray,List.set_cons_zero,List.set_cons_succ,bP,bU];rfl
         refine ajr (i:=5) (N:=none) #[true,true,true,true,true,true] rfl rfl (by kernel_rfl) (by decide) (fun K hK => ?_);have aIy:w25.cell? ⟨aby,0,none⟩=some (.int .u64 kV):=(au gB.out 0).trans rfl;have aGA:=aI gB.out 0;have aEW:=yX.out;have aEX:=xu.out;have aEY:=yY.out;have aEZ:=xw.out;have aIz:w25.cell? ⟨aby,1,none⟩=some (.int .u64 jU):=(au gB.out 1).trans rfl;have aGB:=aI gB.out 1;have aE0:=yX.out;have aE1:=xu.out;have aE2:=yY.out;have aE3:=xw.out;refine ahC (w1 := ?_) (by rfl) rfl ?_ ?_;rotate_left
         ·go_simp
          rfl
         refine hK.out _ _ ?_;clear hK K;refine afb (by kernel_rfl) ?_;try go_wp2
         go_roundg k2
         case measure=>have:=HK1.out;have:=HK2.out;omega
         case rel=>exact ⟨(wrap64 (mZ - 1)),(auw),(ay6),zT,H',⟨by have:=HK1.out;have:=HK2.out;omega⟩,⟨zK fE⟩,⟨zK gq⟩,⟨by refine zD ?_;refine bg (cs := #[.int .u64 auw,.int .u64 jU]) ?_ 1 _ rfl;refine zD ?_;refine bg (cs := #[.int .u64 kV,.int .u64 jU]) ?_ 0 _ rfl;refine zD ?_;exact gB.out⟩,⟨zB⟩⟩
        ·rw [if_neg c20] at H;have aBu:=decide_eq_false c20;clear c20;have H':=aj.mk H;clear H;have aAw:=aaV.out;have aAx:=aaU.out;have ara:=xu.out;have arb:=xw.out;obtain ⟨_,_⟩:=zC2 gq.out;obtain ⟨_,_⟩:=zF2 gq.out;go_wp2_with (first|((with_reducible refine aZ (N:=9) rfl ?_);refine aX zR (N:=9) zR (cs := #[.int .u64 0,.int .u64 0]) (t:=179) zG ?_;intro arq hg w31 hbox hb;obtain ⟨fE,gq,gB,HB,jD,aGC,aGD,ael,aem,aaW,aaX,aaY,aaZ⟩:=agj (aA (zK fE) hb) (aA (zK gq) hb) (aA (zK gB) hb) (ak zB hb) hbox (zg hg zB) (zg hg zB) (zl hg (zK fE)) (zr hg (zK fE)) (zl hg (zK gq)) (zr hg (zK gq)) (zl hg (zK gB)) (zr hg (zK gB));clear hb hbox hg;have aGE:=aem.out;have aGF:=ael.out;have aBv:=aaX.out;have aBw:=aaW.out;have aGG:=aaZ.out;have aGH:=aaY.out;obtain ⟨_,_⟩:=zC2 jD.out;obtain ⟨_,_⟩:=zF2 jD.out));try simp only [Act.put,List.setIfInBounds_toArray,List.set_cons_succ,List.set_cons_zero]
         go_loopg [10] k2 (fun kq v10 w'=>∃ (o7:Int) (oK:Int) (nH:Int),v10 = .int .i64 o7∧aj (aK.l2 kq a0 o7 lF kU 0 vV kV jU oK nH=some r)∧aj (kq≤k2)∧aj (w'.heap[ahT]? = some (.cells #[.int .u64 lF,.int .u64 kU] 179 (0,0)))∧aj (w'.heap[abx]? = some (.cells #[.int .u64 0,.int .u64 vV] 179 (0,0)))∧aj (w'.heap[aby]? = some (.cells #[.int .u64 kV,.int .u64 jU] 179 (0,0)))∧aj (w'.heap[arq]? = some (.cells #[.int .u64 oK,.int .u64 nH] 179 (0,0)))∧aj (Below w.heap.size w w'))
         case atStart=>exact ⟨(a1),(0),(vV),zT,H',⟨Nat.le_refl _⟩,⟨zK fE⟩,⟨zK gq⟩,⟨zK gB⟩,⟨by refine zD ?_;refine bg (cs := #[.int .u64 0,.int .u64 0]) ?_ 1 _ rfl;refine zD ?_;refine bg (cs := #[.int .u64 0,.int .u64 0]) ?_ 0 _ rfl;refine zD ?_;exact jD.out⟩,⟨zB⟩⟩
         case round =>
          clear H';obtain ⟨o7,oK,nH,rfl,HA,HK3,fE,gq,gB,jD,HB⟩:=hrel;cases gk with
          | zero=>exact absurd HA.out (by simp [aK.l2])
          | succ k3 =>
           have H:=HA.out;clear HA;simp only [aK.l2] at H;by_cases c36:o7 < 128
           ·rw [if_pos c36] at H;have aBx:=decide_eq_true c36;clear c36;replace H:=zO H;obtain ⟨afy,A37,H⟩:=H;try dsimp only at H
            by_cases c38:afy=1
            ·rw [if_pos c38] at H;have afz:(afy == 1)=true:=beq_iff_eq.mpr c38;have ars:(afy != 1)=false:=bne_eq_false_iff_eq.mpr c38;clear c38;have H':=aj.mk H;clear H;have aBy:=aaV.out;have aBz:=aaU.out;have awR:=xu.out;have awS:=xw.out;have awT:=aaW.out;have awU:=aaX.out;obtain ⟨_,_⟩:=zC2 gq.out;obtain ⟨_,_⟩:=zF2 gq.out;go_wp2_with (first|((with_reducible refine ay (f:=121) rfl ?_);refine aH (some 48) rfl rfl Tryz.func121 (by kernel_rfl) rfl #[.agg #[.int .u64 0,.int .u64 vV],.int .i64 o7] rfl zL ?_;(with_reducible refine (fZ.calls 0 vV o7 afy _ A37.out).mono ?_);rintro e w43 ⟨rfl,hb⟩;refine ⟨_,rfl,?_⟩;obtain ⟨fE,gq,gB,jD,HB⟩:=zA5 (aA (zK fE) hb) (aA (zK gq) hb) (aA (zK gB) hb) (aA (zK jD) hb) (ak zB hb);(try clear hb))|((with_reducible refine aZ (N:=11) rfl ?_);refine aX zR (N:=11) zR (cs := #[.int .u64 0,.int .u64 0]) (t:=179) zG ?_;intro aBA hg w44 hbox hb;have n0_:=aj.mk (aA (zK fE) hb);have n1_:=aj.mk (aA (zK gq) hb);have n2_:=aj.mk (aA (zK gB) hb);have n3_:=aj.mk (aA (zK jD) hb);have n4_:=aj.mk (ak zB hb);have n5_:=aj.mk (hbox);have n6_:=aj.mk (zg hg zB);have n7_:=aj.mk (zg hg zB);have n8_:=aj.mk (zl hg (zK fE));have n9_:=aj.mk (zr hg (zK fE));have ay7:=aj.mk (zl hg (zK gq));have ay8:=aj.mk (zr hg (zK gq));have ay9:=aj.mk (zl hg (zK gB));have aza:=aj.mk (zr hg (zK gB));have azb:=aj.mk (zl hg (zK jD));have azc:=aj.mk (zr hg (zK jD));clear fE;clear gq;clear gB;clear jD;clear HB;have fE:=n0_;have gq:=n1_;have gB:=n2_;have jD:=n3_;have HB:=n4_;have xJ:=n5_;have aGI:=n6_;have aGJ:=n7_;have ag0:=n8_;have ag1:=n9_;have ag2:=ay7;have ag3:=ay8;have ag4:=ay9;have ag5:=aza;have ag6:=azb;have ag7:=azc;clear n0_ n1_ n2_ n3_ n4_ n5_ n6_ n7_ n8_ n9_ ay7 ay8 ay9 aza azb azc;clear hb hbox hg;have aGK:=ag1.out;have aGL:=ag0.out;have awV:=ag3.out;have awW:=ag2.out;have aBe:=ag5.out;have aBf:=ag4.out;have aGM:=ag7.out;have aGN:=ag6.out;obtain ⟨_,_⟩:=zC2 xJ.out;obtain ⟨_,_⟩:=zF2 xJ.out));try simp only [Act.put,List.setIfInBounds_toArray,List.set_cons_succ,List.set_cons_zero]
             go_loopg [52] k3 (fun kq v52 w'=>∃ (ajN:Int) (xA:Int) (uZ:Int),v52 = .int .i64 ajN∧aj (aK.l3 kq a0 o7 o7 ajN lF kU 0 vV kV jU oK nH xA uZ=some r)∧aj (kq≤k3)∧aj (w'.heap[ahT]? = some (.cells #[.int .u64 lF,.int .u64 kU] 179 (0,0)))∧aj (w'.heap[abx]? = some (.cells #[.int .u64 0,.int .u64 vV] 179 (0,0)))∧aj (w'.heap[aby]? = some (.cells #[.int .u64 kV,.int .u64 jU] 179 (0,0)))∧aj (w'.heap[arq]? = some (.cells #[.int .u64 oK,.int .u64 nH] 179 (0,0)))∧aj (w'.heap[aBA]? = some (.cells #[.int .u64 xA,.int .u64 uZ] 179 (0,0)))∧aj (Below w.heap.size w w'))
             case atStart=>exact ⟨(0),(0),(1),zT,H',⟨Nat.le_refl _⟩,⟨zK fE⟩,⟨zK gq⟩,⟨zK gB⟩,⟨zK jD⟩,⟨by refine zD ?_;refine bg (cs := #[.int .u64 0,.int .u64 0]) ?_ 1 _ rfl;refine zD ?_;refine bg (cs := #[.int .u64 0,.int .u64 0]) ?_ 0 _ rfl;refine zD ?_;exact xJ.out⟩,⟨zB⟩⟩
             case round =>
              clear H';obtain ⟨ajN,xA,uZ,rfl,HA,HK4,fE,gq,gB,jD,xJ,HB⟩:=hrel;cases gk with
              | zero=>exact absurd HA.out (by simp [aK.l3])
              | succ k4 =>
               have H:=HA.out;clear HA;simp only [aK.l3] at H;by_cases c50:ajN < o7
               ·rw [if_pos c50] at H;have aBB:=decide_eq_true c50;clear c50;replace H:=zO H;obtain ⟨⟨auy,azd⟩,A51,H⟩:=H;try dsimp only at H
                have H':=aj.mk H;clear H;have aBC:=ag1.out;have aBD:=ag0.out;have aGO:=ag3.out;have aGP:=ag2.out;have aGQ:=ag5.out;have aGR:=ag4.out;have aGS:=ag7.out;have aGT:=ag6.out;obtain ⟨_,_⟩:=zC2 xJ.out;obtain ⟨_,_⟩:=zF2 xJ.out;go_wp2_with (first|((with_reducible refine ay (f:=119) rfl ?_);refine aH (some 55) rfl rfl Tryz.func119 (by kernel_rfl) rfl #[.agg #[.int .u64 xA,.int .u64 uZ],.int .u64 0] rfl zL ?_;(with_reducible refine (dR.calls xA uZ 0 auy azd _ A51.out).mono ?_);rintro e w57 ⟨rfl,hb⟩;refine ⟨_,rfl,?_⟩;obtain ⟨fE,gq,gB,jD,xJ,HB⟩:=zA6 (aA (zK fE) hb) (aA (zK gq) hb) (aA (zK gB) hb) (aA (zK jD) hb) (aA (zK xJ) hb) (ak zB hb);(try clear hb);obtain ⟨_,_⟩:=zC2 xJ.out;obtain ⟨_,_⟩:=zF2 xJ.out));go_roundg k4
                case measure=>have:=HK1.out;have:=HK2.out;have:=HK3.out;have:=HK4.out;omega
                case rel=>exact ⟨(wrap64 (ajN+1)),(auy),(azd),zT,H',⟨by have:=HK1.out;have:=HK2.out;have:=HK3.out;have:=HK4.out;omega⟩,⟨zK fE⟩,⟨zK gq⟩,⟨zK gB⟩,⟨zK jD⟩,⟨by refine zD ?_;refine bg (cs := #[.int .u64 auy,.int .u64 uZ]) ?_ 1 _ rfl;refine zD ?_;refine bg (cs := #[.int .u64 xA,.int .u64 uZ]) ?_ 0 _ rfl;refine zD ?_;exact xJ.out⟩,⟨zB⟩⟩
               ·rw [if_neg c50] at H;have aBB:=decide_eq_false c50;clear c50;replace H:=zO H;obtain ⟨⟨auz,aze⟩,A59,H⟩:=H;try dsimp only at H
                have H':=aj.mk H;clear H;have aGU:=aem.out;have aGV:=ael.out;have aGW:=aaX.out;have aGX:=aaW.out;have aBi:=aaZ.out;have aBj:=aaY.out;have aBk:=ag6.out;have aBl:=ag7.out;obtain ⟨_,_⟩:=zC2 jD.out;obtain ⟨_,_⟩:=zF2 jD.out;have aGY:=ag1.out;have aGZ:=ag0.out;have aG0:=ag3.out;have aG1:=ag2.out;have aG2:=ag5.out;have aG3:=ag4.out;obtain ⟨_,_⟩:=zC2 xJ.out;obtain ⟨_,_⟩:=zF2 xJ.out;go_wp2_with (first|((with_reducible refine ay (f:=122) rfl ?_);refine aH (some 59) rfl rfl Tryz.func122 (by kernel_rfl) rfl #[.agg #[.int .u64 oK,.int .u64 nH],.agg #[.int .u64 xA,.int .u64 uZ]] rfl zL ?_;(with_reducible refine (lH.calls oK nH xA uZ auz aze _ A59.out).mono ?_);rintro e w69 ⟨rfl,hb⟩;refine ⟨_,rfl,?_⟩;obtain ⟨fE,gq,gB,jD,xJ,HB⟩:=zA6 (aA (zK fE) hb) (aA (zK gq) hb) (aA (zK gB) hb) (aA (zK jD) hb) (aA (zK xJ) hb) (ak zB hb);(try clear hb);obtain ⟨_,_⟩:=zC2 jD.out;obtain ⟨_,_⟩:=zF2 jD.out));go_roundg k4
                case measure=>have:=HK1.out;have:=HK2.out;have:=HK3.out;have:=HK4.out;omega
                case rel=>exact ⟨(wrap64 (o7+1)),(auz),(aze),zT,H',⟨by have:=HK1.out;have:=HK2.out;have:=HK3.out;have:=HK4.out;omega⟩,⟨zK fE⟩,⟨zK gq⟩,⟨zK gB⟩,⟨by refine zD ?_;refine bg (cs := #[.int .u64 auz,.int .u64 nH]) ?_ 1 _ rfl;refine zD ?_;refine bg (cs := #[.int .u64 oK,.int .u64 nH]) ?_ 0 _ rfl;refine zD ?_;exact jD.out⟩,⟨zB⟩⟩
            ·rw [if_neg c38] at H;have afz:(afy == 1)=false:=beq_eq_false_iff_ne.mpr c38;have ars:(afy != 1)=true:=bne_iff_ne.mpr c38;have H':=aj.mk H;clear H;have aG4:=aaV.out;have aG5:=aaU.out;have aG6:=xu.out;have aG7:=xw.out;have aG8:=aaW.out;have aG9:=aaX.out;obtain ⟨_,_⟩:=zC2 gq.out;obtain ⟨_,_⟩:=zF2 gq.out;go_wp2_with (first|((with_reducible refine ay (f:=121) rfl ?_);refine aH (some 48) rfl rfl Tryz.func121 (by kernel_rfl) rfl #[.agg #[.int .u64 0,.int .u64 vV],.int .i64 o7] rfl zL ?_;(with_reducible refine (fZ.calls 0 vV o7 afy _ A37.out).mono ?_);rintro e w75 ⟨rfl,hb⟩;refine ⟨_,rfl,?_⟩;obtain ⟨fE,gq,gB,jD,HB⟩:=zA5 (aA (zK fE) hb) (aA (zK gq) hb) (aA (zK gB) hb) (aA (zK jD) hb) (ak zB hb);(try clear hb)));go_roundg k3
             case measure=>have:=HK1.out;have:=HK2.out;have:=HK3.out;omega
             case rel=>exact ⟨(wrap64 (o7+1)),(oK),(nH),zT,H',⟨by have:=HK1.out;have:=HK2.out;have:=HK3.out;omega⟩,⟨zK fE⟩,⟨zK gq⟩,⟨zK gB⟩,⟨zK jD⟩,⟨zB⟩⟩
           ·rw [if_neg c36] at H;have aBx:=decide_eq_false c36;clear c36;replace H:=zO H;obtain ⟨aro,A76,H⟩:=H;try dsimp only at H
            have auA:=aj.mk H;clear H;have aHa:=aem.out;have aHb:=ael.out;have aHc:=aaX.out;have aHd:=aaW.out;have aHe:=aaZ.out;have aHf:=aaY.out;obtain ⟨_,_⟩:=zC2 jD.out;obtain ⟨_,_⟩:=zF2 jD.out;have aHg:=aaU.out;have aHh:=aaV.out;have aHi:=yX.out;have aHj:=yY.out;obtain ⟨_,_⟩:=zC2 fE.out;obtain ⟨_,_⟩:=zF2 fE.out;go_upto_if 65 with (first|((with_reducible refine ay (f:=123) rfl ?_);refine aH (some 62) rfl rfl Tryz.func123 (by kernel_rfl) rfl #[.agg #[.int .u64 oK,.int .u64 nH],.agg #[.int .u64 lF,.int .u64 kU]] rfl zL ?_;(with_reducible refine (iU.calls oK nH lF kU aro _ A76.out).mono ?_);rintro e w85 ⟨rfl,hb⟩;refine ⟨_,rfl,?_⟩;obtain ⟨fE,gq,gB,jD,HB⟩:=zA5 (aA (zK fE) hb) (aA (zK gq) hb) (aA (zK gB) hb) (aA (zK jD) hb) (ak zB hb);(try clear hb)))
            (try simp only [Act.put,List.setIfInBounds_toArray,List.set_cons_zero,List.set_cons_succ])
            go_cut [12] (fun v12 wc=>∃ (kq:Nat) (ajO:Bool),v12 = .bool ajO∧aj (aK.j4 kq a0 ajO kV jU=some r)∧aj (kq≤k3)∧aj (wc.heap[ahT]? = some (.cells #[.int .u64 lF,.int .u64 kU] 179 (0,0)))∧aj (wc.heap[abx]? = some (.cells #[.int .u64 0,.int .u64 vV] 179 (0,0)))∧aj (wc.heap[aby]? = some (.cells #[.int .u64 kV,.int .u64 jU] 179 (0,0)))∧aj (wc.heap[arq]? = some (.cells #[.int .u64 oK,.int .u64 nH] 179 (0,0)))∧aj (Below w.heap.size w wc))
            case first =>
             have H:=auA.out;clear auA;by_cases c86:a0 < 0
             ·rw [if_pos c86] at H;have ajP:=decide_eq_true c86;clear c86
              (first|rw [ajP]|(simp only [bP,bU];rw [ajP])|skip)
              replace H:=zO H;obtain ⟨arp,A87,H⟩:=H;try dsimp only at H
              have H':=aj.mk H;clear H;have aHk:=aaU.out;have aHl:=aaV.out;have aHm:=yX.out;have aHn:=yY.out;have aHo:=ael.out;have aHp:=aem.out;obtain ⟨_,_⟩:=zC2 fE.out;obtain ⟨_,_⟩:=zF2 fE.out;have aHq:=aaX.out;have aHr:=aaW.out;have aHs:=aaZ.out;have aHt:=aaY.out;obtain ⟨_,_⟩:=zC2 jD.out;obtain ⟨_,_⟩:=zF2 jD.out;go_wp2_with (first|((with_reducible refine ay (f:=123) rfl ?_);refine aH (some 68) rfl rfl Tryz.func123 (by kernel_rfl) rfl #[.agg #[.int .u64 lF,.int .u64 kU],.agg #[.int .u64 oK,.int .u64 nH]] rfl zL ?_;(with_reducible refine (iU.calls lF kU oK nH arp _ A87.out).mono ?_);rintro e w95 ⟨rfl,hb⟩;refine ⟨_,rfl,?_⟩;obtain ⟨fE,gq,gB,jD,HB⟩:=zA5 (aA (zK fE) hb) (aA (zK gq) hb) (aA (zK gB) hb) (aA (zK jD) hb) (ak zB hb);(try clear hb)));go_meet
              case rel=>exact ⟨_,(arp),zT,H',⟨by have:=HK1.out;have:=HK2.out;have:=HK3.out;first|omega|exact Nat.le_refl _⟩,⟨zK fE⟩,⟨zK gq⟩,⟨zK gB⟩,⟨zK jD⟩,⟨zB⟩⟩
             ·rw [if_neg c86] at H;have ajP:=decide_eq_false c86;clear c86
              (first|rw [ajP]|(simp only [bP,bU];rw [ajP])|skip)
              have H':=aj.mk H;clear H;go_wp2;go_meet
              case rel=>exact ⟨_,(!aro),zT,H',⟨by have:=HK1.out;have:=HK2.out;have:=HK3.out;first|omega|exact Nat.le_refl _⟩,⟨zK fE⟩,⟨zK gq⟩,⟨zK gB⟩,⟨zK jD⟩,⟨zB⟩⟩
            case rest =>
             clear auA;obtain ⟨kq,ajO,rfl,HA,aIA,fE,gq,gB,jD,HB⟩:=hcut;cases kq with
             | zero=>exact absurd HA.out (by simp [aK.j4])
             | succ azf =>
              have H:=HA.out;clear HA;simp only [aK.j4] at H;by_cases c96:ajO=true
              ·subst c96;rw [if_pos rfl] at H;(try dsimp only at H);replace H:=zO H;obtain ⟨⟨aom,aru⟩,A97,H⟩:=H;try dsimp only at H
               replace H:=zO H;obtain ⟨aut,A98,H⟩:=H;try dsimp only at H
               obtain rfl:=Option.some.inj H;have aHu:=yY.out;have aHv:=yX.out;have aFl:=xw.out;have aFm:=xu.out;have aFo:=aaY.out;have aFp:=aaZ.out;obtain ⟨_,_⟩:=zC2 gB.out;obtain ⟨_,_⟩:=zF2 gB.out;go_wp2_with (first|((with_reducible refine ay (f:=124) rfl ?_);refine aH (some 72) rfl rfl Tryz.func124 (by kernel_rfl) rfl #[.agg #[.int .u64 kV,.int .u64 jU],.agg #[.int .u64 0,.int .u64 1]] rfl zL ?_;(with_reducible refine (iK.calls kV jU 0 1 aom aru _ A97.out).mono ?_);rintro e aIB ⟨rfl,hb⟩;refine ⟨_,rfl,?_⟩;obtain ⟨fE,gq,gB,jD,HB⟩:=zA5 (aA (zK fE) hb) (aA (zK gq) hb) (aA (zK gB) hb) (aA (zK jD) hb) (ak zB hb);(try clear hb);obtain ⟨_,_⟩:=zC2 gB.out;obtain ⟨_,_⟩:=zF2 gB.out)|((with_reducible refine ay (f:=125) rfl ?_);refine aH (some 76) rfl rfl Tryz.func125 (by kernel_rfl) rfl #[.agg #[.int .u64 aom,.int .u64 aru],.bool (decide (a0 < 0))] rfl zL ?_;(with_reducible refine (cZ.calls azf aom aru (decide (a0 < 0)) aut _ A98.out).mono ?_);rintro e aIC ⟨rfl,hb⟩;refine ⟨_,rfl,?_⟩;obtain ⟨fE,gq,gB,jD,HB⟩:=zA5 (aA (zK fE) hb) (aA (zK gq) hb) (aA (g:=aby) (o := .cells #[.int .u64 aom,.int .u64 aru] 179 (0,0)) (by refine zD ?_;refine bg (cs := #[.int .u64 aom,.int .u64 jU]) ?_ 1 _ rfl;refine zD ?_;refine bg (cs := #[.int .u64 kV,.int .u64 jU]) ?_ 0 _ rfl;refine zD ?_;exact gB.out) hb) (aA (zK jD) hb) (ak zB hb);(try clear hb)));go_ret;exact ⟨zS,zB⟩
              ·replace c96:=Bool.eq_false_iff.mpr c96;subst c96;rw [if_neg (show ¬ (false=true) by decide)] at H;(try dsimp only at H);replace H:=zO H;obtain ⟨auu,aC6,H⟩:=H;try dsimp only at H
               obtain rfl:=Option.some.inj H;have aFq:=yY.out;have aFr:=yX.out;have aFs:=xw.out;have aFt:=xu.out;have aFu:=aaY.out;have aFv:=aaZ.out;obtain ⟨_,_⟩:=zC2 gB.out;obtain ⟨_,_⟩:=zF2 gB.out;go_wp2_with (first|((with_reducible refine ay (f:=125) rfl ?_);refine aH (some 76) rfl rfl Tryz.func125 (by kernel_rfl) rfl #[.agg #[.int .u64 kV,.int .u64 jU],.bool (decide (a0 < 0))] rfl zL ?_;(with_reducible refine (cZ.calls azf kV jU (decide (a0 < 0)) auu _ aC6.out).mono ?_);rintro e aID ⟨rfl,hb⟩;refine ⟨_,rfl,?_⟩;obtain ⟨fE,gq,gB,jD,HB⟩:=zA5 (aA (zK fE) hb) (aA (zK gq) hb) (aA (zK gB) hb) (aA (zK jD) hb) (ak zB hb);(try clear hb)));go_ret;exact ⟨zS,zB⟩
def mX.f (a0 a1:Int):Option (Bool):=if a1 < 1 then (some false) else (if a1 > 1048576 then (some false) else (if a0≤(wrap64 (4*a1)) then (some (decide (a0≥(wrap64 ((-4)*a1))))) else (some false)))
theorem mX.calls (a0 a1:Int) (r:Bool) (w:World) (h:mX.f a0 a1=some r) :
  Calls Tryz.prog 184 #[.int .i64 a0,.int .i64 a1] w fun e w'=>e = .returned (.bool r)∧dA w w':=by
 have H:=h;clear h;unfold mX.f at H;by_cases c3:a1 < 1
 ·rw [if_pos c3] at H;have fV:=decide_eq_true c3;clear c3;obtain rfl:=Option.some.inj H;go_enter Tryz.func184,Tryz.ntmps184;go_wp2;go_ret;exact ⟨zT,zW⟩
 ·rw [if_neg c3] at H;have fV:=decide_eq_false c3;clear c3;by_cases c4:a1 > 1048576
  ·rw [if_pos c4] at H;have fH:=decide_eq_true c4;clear c4;obtain rfl:=Option.some.inj H;go_enter Tryz.func184,Tryz.ntmps184;go_wp2;go_ret;exact ⟨zT,zW⟩
  ·rw [if_neg c4] at H;have fH:=decide_eq_false c4;clear c4;by_cases c5:a0≤(wrap64 (4*a1))
   ·rw [if_pos c5] at H;have gJ:=decide_eq_true c5;clear c5;obtain rfl:=Option.some.inj H;go_enter Tryz.func184,Tryz.ntmps184;go_wp2;go_ret;exact ⟨zT,zW⟩
   ·rw [if_neg c5] at H;have gJ:=decide_eq_false c5;clear c5;obtain rfl:=Option.some.inj H;go_enter Tryz.func184,Tryz.ntmps184;go_wp2;go_ret;exact ⟨zT,zW⟩
mutual
def aW.j0:Nat→Int→Int→Int→Option (Int)
 | 0,_,_,_=>none
 | k+1,x0,x1,x2=>if x2 > 127 then (some 0) else ((dW.f x0).bind fun ag8=>((dW.f x1).bind fun ag9=>((eG.f k ag8 ag9).bind fun ana=>(if x2=0 then ((cZ.f k ana.1 ana.2 ((decide (x0 < 0)) != (decide (x1 < 0)))).bind fun auB=>(some auB)) else (aW.l0 k x2 ((decide (x0 < 0)) != (decide (x1 < 0))) 127 ana.1 ana.2 0 0)))))
def aW.l0:Nat→Int→Bool→Int→Int→Int→Int→Int→Option (Int)
 | 0,_,_,_,_,_,_,_=>none
 | k+1,x2,x7,x10,aa0,aa1,wP,wQ=>if x10≥x2 then ((fZ.f aa0 aa1 x10).bind fun aon=>((dR.f wP wQ aon).bind fun aw5=>(aW.l0 k x2 x7 (wrap64 (x10 - 1)) aa0 aa1 aw5.1 aw5.2))) else (aW.l1 k x2 x7 false (wrap64 (x2 - 1)) 0 aa0 aa1 wP wQ)
def aW.l1:Nat→Int→Bool→Bool→Int→Int→Int→Int→Int→Int→Option (Int)
 | 0,_,_,_,_,_,_,_,_,_=>none
 | k+1,x2,x7,x11,x44,x45,aa0,aa1,wP,wQ=>if x45 < x44 then (if x11=true then (aW.l1 k x2 x7 true x44 (wrap64 (x45+1)) aa0 aa1 wP wQ) else ((fZ.f aa0 aa1 x45).bind fun arv=>(aW.l1 k x2 x7 (arv == 1) x44 (wrap64 (x45+1)) aa0 aa1 wP wQ))) else ((fZ.f aa0 aa1 (wrap64 (x2 - 1))).bind fun aeJ=>(if aeJ=1 then (if x11=true then (aW.j3 k x7 true wP wQ) else (aW.j3 k x7 (!x7) wP wQ)) else (aW.j3 k x7 false wP wQ)))
def aW.j3:Nat→Bool→Bool→Int→Int→Option (Int)
 | 0,_,_,_,_=>none
 | k+1,x7,x67,wP,wQ=>if x67=true then ((iK.f wP wQ 0 1).bind fun aw6=>((cZ.f k aw6.1 aw6.2 x7).bind fun auC=>(some auC))) else ((cZ.f k wP wQ x7).bind fun auD=>(some auD))
end
def aW.f (k:Nat) (a0 a1 a2:Int):Option (Int):=if a2 < 0 then (aW.j0 k a0 a1 0) else (aW.j0 k a0 a1 a2)
theorem aW.calls (k:Nat) (a0 a1 a2 r:Int) (w:World) (h:aW.f k a0 a1 a2=some r) :
  Calls Tryz.prog 185 #[.int .i64 a0,.int .i64 a1,.int .i64 a2] w fun e w'=>e = .returned (.int .i64 r)∧Below w.heap.size w w':=by
 have aaB:=Tryz.underlying179;have HB:=aj.mk (Below.refl w.heap.size w);have H:=h;clear h;unfold aW.f at H;have HC4:=aj.mk H;clear H;go_enter Tryz.func185,Tryz.ntmps185;go_upto_if 14 with (fail)
 go_cut [2] (fun v2 wc=>∃ (kq:Nat) (wR:Int),v2 = .int .i64 wR∧aj (aW.j0 kq a0 a1 wR=some r)∧aj (kq≤k)∧aj (Below w.heap.size w wc))
 case first =>
  have H:=HC4.out;clear HC4;by_cases c5:a2 < 0
  ·rw [if_pos c5] at H;have gJ:=decide_eq_true c5;clear c5
   (first|rw [gJ]|(simp only [bP,bU];rw [gJ])|skip)
   have H':=aj.mk H;clear H;go_wp2;go_meet
   case rel=>exact ⟨_,(0),zT,H',⟨by first|omega|exact Nat.le_refl _⟩,⟨zB⟩⟩
  ·rw [if_neg c5] at H;have gJ:=decide_eq_false c5;clear c5
   (first|rw [gJ]|(simp only [bP,bU];rw [gJ])|skip)
   have H':=aj.mk H;clear H;go_wp2;go_meet
   case rel=>exact ⟨_,(a2),zT,H',⟨by first|omega|exact Nat.le_refl _⟩,⟨zB⟩⟩
 case rest =>
  clear HC4;obtain ⟨kq,wR,rfl,HA,HJ3,HB⟩:=hcut;cases kq with
  | zero=>exact absurd HA.out (by simp [aW.j0])
  | succ kj3 =>
   have H:=HA.out;clear HA;simp only [aW.j0] at H;by_cases c6:wR > 127
   ·rw [if_pos c6] at H;have gI:=decide_eq_true c6;clear c6;obtain rfl:=Option.some.inj H;go_wp2;go_ret;exact ⟨zS,zB⟩
   ·rw [if_neg c6] at H;have gI:=decide_eq_false c6;clear c6;replace H:=zO H;obtain ⟨ag8,A7,H⟩:=H;try dsimp only at H
    replace H:=zO H;obtain ⟨ag9,A8,H⟩:=H;try dsimp only at H
    replace H:=zO H;obtain ⟨⟨qX,uh⟩,A9,H⟩:=H;try dsimp only at H
    by_cases c10:wR=0
    ·rw [if_pos c10] at H;have mg:(wR == 0)=true:=beq_iff_eq.mpr c10;have ajQ:(wR != 0)=false:=bne_eq_false_iff_eq.mpr c10;clear c10;replace H:=zO H;obtain ⟨auB,A11,H⟩:=H;try dsimp only at H
     obtain rfl:=Option.some.inj H;go_wp2_with (first|((with_reducible refine ay (f:=120) rfl ?_);refine aH (some 23) rfl rfl Tryz.func120 (by kernel_rfl) rfl #[.int .i64 a0] rfl zL ?_;(with_reducible refine (dW.calls a0 ag8 _ A7.out).mono ?_);rintro e w' ⟨rfl,⟨nd,rfl⟩⟩;refine ⟨_,rfl,?_⟩;(try (rw [qp wc];generalize hq_:World.drewN wc _=wc;have n0_:aj (Below w.heap.size w wc):=⟨by rw [← hq_];exact zB⟩;clear HB hq_;have HB:=n0_;clear n0_)))|((with_reducible refine ay (f:=120) rfl ?_);refine aH (some 25) rfl rfl Tryz.func120 (by kernel_rfl) rfl #[.int .i64 a1] rfl zL ?_;(with_reducible refine (dW.calls a1 ag9 _ A8.out).mono ?_);rintro e w' ⟨rfl,⟨nd,rfl⟩⟩;refine ⟨_,rfl,?_⟩;(try (rw [qp wc];generalize hq_:World.drewN wc _=wc;have n0_:aj (Below w.heap.size w wc):=⟨by rw [← hq_];exact zB⟩;clear HB hq_;have HB:=n0_;clear n0_)))|((with_reducible refine ay (f:=148) rfl ?_);refine aH (some 26) rfl rfl Tryz.func148 (by kernel_rfl) rfl #[.int .u64 ag8,.int .u64 ag9] rfl zL ?_;(with_reducible refine (eG.calls kj3 ag8 ag9 qX uh _ A9.out).mono ?_);rintro e w12 ⟨rfl,hb⟩;refine ⟨_,rfl,?_⟩;replace HB:=aj.mk (ak zB hb);(try clear hb))|((with_reducible refine aZ (N:=8) rfl ?_);refine aX zR (N:=8) zR (cs := #[.int .u64 0,.int .u64 0]) (t:=179) zG ?_;intro aaC hg w13 hbox hb;obtain ⟨HB,iI,aBE,aBF⟩:=zA4 (ak zB hb) hbox (zg hg zB) (zg hg zB);clear hb hbox hg;obtain ⟨_,_⟩:=zC2 iI.out;obtain ⟨_,_⟩:=zF2 iI.out)|((with_reducible refine ay (f:=125) rfl ?_);refine aH (some 31) rfl rfl Tryz.func125 (by kernel_rfl) rfl #[.agg #[.int .u64 qX,.int .u64 uh],.bool ((decide (a0 < 0)) != (decide (a1 < 0)))] rfl zL ?_;(with_reducible refine (cZ.calls kj3 qX uh ((decide (a0 < 0)) != (decide (a1 < 0))) auB _ A11.out).mono ?_);rintro e w15 ⟨rfl,hb⟩;refine ⟨_,rfl,?_⟩;obtain ⟨iI,HB⟩:=zA2 (aA (g:=aaC) (o := .cells #[.int .u64 qX,.int .u64 uh] 179 (0,0)) (by refine zD ?_;refine bg (cs := #[.int .u64 qX,.int .u64 0]) ?_ 1 _ rfl;refine zD ?_;refine bg (cs := #[.int .u64 0,.int .u64 0]) ?_ 0 _ rfl;refine zD ?_;exact iI.out) hb) (ak zB hb);(try clear hb)));go_ret;exact ⟨zS,zB⟩
    ·rw [if_neg c10] at H;have mg:(wR == 0)=false:=beq_eq_false_iff_ne.mpr c10;have ajQ:(wR != 0)=true:=bne_iff_ne.mpr c10;have H':=aj.mk H;clear H;go_wp2_with (first|((with_reducible refine ay (f:=120) rfl ?_);refine aH (some 23) rfl rfl Tryz.func120 (by kernel_rfl) rfl #[.int .i64 a0] rfl zL ?_;(with_reducible refine (dW.calls a0 ag8 _ A7.out).mono ?_);rintro e w' ⟨rfl,⟨nd,rfl⟩⟩;refine ⟨_,rfl,?_⟩;(try (rw [qp wc];generalize hq_:World.drewN wc _=wc;have n0_:aj (Below w.heap.size w wc):=⟨by rw [← hq_];exact zB⟩;clear HB hq_;have HB:=n0_;clear n0_)))|((with_reducible refine ay (f:=120) rfl ?_);refine aH (some 25) rfl rfl Tryz.func120 (by kernel_rfl) rfl #[.int .i64 a1] rfl zL ?_;(with_reducible refine (dW.calls a1 ag9 _ A8.out).mono ?_);rintro e w' ⟨rfl,⟨nd,rfl⟩⟩;refine ⟨_,rfl,?_⟩;(try (rw [qp wc];generalize hq_:World.drewN wc _=wc;have n0_:aj (Below w.heap.size w wc):=⟨by rw [← hq_];exact zB⟩;clear HB hq_;have HB:=n0_;clear n0_)))|((with_reducible refine ay (f:=148) rfl ?_);refine aH (some 26) rfl rfl Tryz.func148 (by kernel_rfl) rfl #[.int .u64 ag8,.int .u64 ag9] rfl zL ?_;(with_reducible refine (eG.calls kj3 ag8 ag9 qX uh _ A9.out).mono ?_);rintro e w16 ⟨rfl,hb⟩;refine ⟨_,rfl,?_⟩;replace HB:=aj.mk (ak zB hb);(try clear hb))|((with_reducible refine aZ (N:=8) rfl ?_);refine aX zR (N:=8) zR (cs := #[.int .u64 0,.int .u64 0]) (t:=179) zG ?_;intro aaC hg w17 hbox hb;obtain ⟨HB,iI,aBE,aBF⟩:=zA4 (ak zB hb) hbox (zg hg zB) (zg hg zB);clear hb hbox hg;obtain ⟨_,_⟩:=zC2 iI.out;obtain ⟨_,_⟩:=zF2 iI.out)|((with_reducible refine aZ (N:=9) rfl ?_);refine aX zR (N:=9) zR (cs := #[.int .u64 0,.int .u64 0]) (t:=179) zG ?_;intro aco hg w19 hbox hb;obtain ⟨iI,HB,jf,aHw,aHx,vg,vk⟩:=zA7 (aA (g:=aaC) (o := .cells #[.int .u64 qX,.int .u64 uh] 179 (0,0)) (by refine zD ?_;refine bg (cs := #[.int .u64 qX,.int .u64 0]) ?_ 1 _ rfl;refine zD ?_;refine bg (cs := #[.int .u64 0,.int .u64 0]) ?_ 0 _ rfl;refine zD ?_;exact iI.out) hb) (ak zB hb) hbox (zg hg zB) (zg hg zB) ((by rw [hg];exact Nat.ne_of_lt (bI (g:=aaC) (o := .cells #[.int .u64 qX,.int .u64 uh] 179 (0,0)) (by refine zD ?_;refine bg (cs := #[.int .u64 qX,.int .u64 0]) ?_ 1 _ rfl;refine zD ?_;refine bg (cs := #[.int .u64 0,.int .u64 0]) ?_ 0 _ rfl;refine zD ?_;exact iI.out)):aaC≠aco)) ((by rw [hg];exact Nat.ne_of_gt (bI (g:=aaC) (o := .cells #[.int .u64 qX,.int .u64 uh] 179 (0,0)) (by refine zD ?_;refine bg (cs := #[.int .u64 qX,.int .u64 0]) ?_ 1 _ rfl;refine zD ?_;refine bg (cs := #[.int .u64 0,.int .u64 0]) ?_ 0 _ rfl;refine zD ?_;exact iI.out)):aco≠aaC));clear hb hbox hg;have arw:=vk.out;have arx:=vg.out;obtain ⟨_,_⟩:=zC2 jf.out;obtain ⟨_,_⟩:=zF2 jf.out));go_loopg [10] kj3 (fun kq v10 w'=>∃ (jQ:Int) (lT:Int) (kW:Int),v10 = .int .i64 jQ∧aj (aW.l0 kq wR ((decide (a0 < 0)) != (decide (a1 < 0))) jQ qX uh lT kW=some r)∧aj (kq≤kj3)∧aj (w'.heap[aaC]? = some (.cells #[.int .u64 qX,.int .u64 uh] 179 (0,0)))∧aj (w'.heap[aco]? = some (.cells #[.int .u64 lT,.int .u64 kW] 179 (0,0)))∧aj (Below w.heap.size w w'))
     case atStart=>exact ⟨(127),(0),(0),zT,H',⟨Nat.le_refl _⟩,⟨zK iI⟩,⟨by refine zD ?_;refine bg (cs := #[.int .u64 0,.int .u64 0]) ?_ 1 _ rfl;refine zD ?_;refine bg (cs := #[.int .u64 0,.int .u64 0]) ?_ 0 _ rfl;refine zD ?_;exact jf.out⟩,⟨zB⟩⟩
     case round =>
      clear H';obtain ⟨jQ,lT,kW,rfl,HA,HK2,iI,jf,HB⟩:=hrel;cases gk with
      | zero=>exact absurd HA.out (by simp [aW.l0])
      | succ k2 =>
       have H:=HA.out;clear HA;simp only [aW.l0] at H;by_cases c22:jQ≥wR
       ·rw [if_pos c22] at H;have arz:=decide_eq_true c22;clear c22;replace H:=zO H;obtain ⟨aon,A23,H⟩:=H;try dsimp only at H
        replace H:=zO H;obtain ⟨⟨auE,azg⟩,A24,H⟩:=H;try dsimp only at H
        have H':=aj.mk H;clear H;try go_wp2
        obtain ⟨iI,jf,HB⟩:=zA3 (jO iI.out) (jO jf.out) (bD HB.out);refine adw (n:=6) (S:=fun w'=>w'.cell? ⟨aco,0,none⟩=some (.int .u64 lT)∧w'.cell? ⟨aco,1,none⟩=some (.int .u64 kW)∧w'.cell? ⟨aaC,0,none⟩=some (.int .u64 qX)∧w'.cell? ⟨aaC,1,none⟩=some (.int .u64 uh)) (ds:=[5]) #[false,false,false,false,false,false] (by kernel_rfl) rfl rfl ⟨(au jf.out 0).trans rfl,(au jf.out 1).trans rfl,(au iI.out 0).trans rfl,(au iI.out 1).trans rfl⟩ (fun hHeld => ?_);generalize wr.drew=w25 at iI jf HB hHeld ⊢;refine uj (i:=2) (N:=some 40) (v := ?_) (a' := ?_) #[false,false,true,false,false,false] rfl rfl (by kernel_rfl) (fun _ _ _ h=>h) (Or.inl ⟨by rfl,?_⟩) ?_ ?_;rotate_left
        ·intro w';go_simp
         with_reducible rfl
        rotate_left
        ·simp only [Act.put,List.setIfInBounds_toArray,List.set_cons_zero,List.set_cons_succ,bP,bU];rfl
        refine xC (i:=0) (N:=some 38) (v := ?_) (a' := ?_) #[true,false,true,false,false,false] rfl rfl (by kernel_rfl) (fun _ _ _ h=>h) (Or.inl ⟨by rfl,?_⟩) hHeld ?_ ?_;rotate_left
        ·rintro w' ⟨s0,s1,s2,s3⟩;go_simp
         with_reducible rfl
        rotate_left
        ·simp only [Act.put,List.setIfInBounds_toArray,List.set_cons_zero,List.set_cons_succ,bP,bU];rfl
        refine xC (i:=1) (N:=some 39) (v := ?_) (a' := ?_) #[true,true,true,false,false,false] rfl rfl (by kernel_rfl) (fun _ _ _ h=>h) (Or.inl ⟨by rfl,?_⟩) hHeld ?_ ?_;rotate_left
        ·rintro w' ⟨s0,s1,s2,s3⟩;go_simp
         with_reducible rfl
        rotate_left
        ·simp only [Act.put,List.setIfInBounds_toArray,List.set_cons_zero,List.set_cons_succ,bP,bU];rfl
        refine aaH (i:=3) (N:=some 41) #[true,true,true,true,false,false] rfl rfl (by kernel_rfl) (by decide) (fun K hK => ?_);refine aay Tryz.func121 (by kernel_rfl) rfl #[.agg #[.int .u64 qX,.int .u64 uh],.int .i64 jQ] (by rfl) rfl rfl zL ?_;with_reducible refine (fZ.calls qX uh jQ aon _ A23.out).mono ?_
        rintro e w26 ⟨rfl,hb⟩;refine ⟨_,rfl,?_⟩;obtain ⟨iI,jf,HB⟩:=zA3 (aA (zK iI) hb) (aA (zK jf) hb) (ak zB hb)
        (try clear hb)
        (try clear hb2)
        (try clear hk)
        (try clear hi)
        refine hK.out _ _ ⟨(au jf.out 0).trans rfl,(au jf.out 1).trans rfl,(au iI.out 0).trans rfl,(au iI.out 1).trans rfl⟩ (fun hHeld => ?_);clear hK K;refine yB (a' := ?_) ?_ ?_;rotate_left
        ·show Act.put _ (some 41) _=_
         simp only [Act.put,List.setIfInBounds_toArray,List.set_cons_zero,List.set_cons_succ,bP,bU];rfl
        refine aaH (i:=4) (N:=some 42) #[true,true,true,true,true,false] rfl rfl (by kernel_rfl) (by decide) (fun K hK => ?_);refine aay Tryz.func119 (by kernel_rfl) rfl #[.agg #[.int .u64 lT,.int .u64 kW],.int .u64 aon] (by rfl) rfl rfl zL ?_;with_reducible refine (dR.calls lT kW aon auE azg _ A24.out).mono ?_
        rintro e w27 ⟨rfl,hb⟩;refine ⟨_,rfl,?_⟩;obtain ⟨iI,jf,HB⟩:=zA3 (aA (zK iI) hb) (aA (zK jf) hb) (ak zB hb)
        (try clear hb)
        (try clear hb2)
        (try clear hk)
        (try clear hi)
        refine hK.out _ _ ⟨(au jf.out 0).trans rfl,(au jf.out 1).trans rfl,(au iI.out 0).trans rfl,(au iI.out 1).trans rfl⟩ (fun hHeld => ?_);clear hK K;refine yB (a' := ?_) ?_ ?_;rotate_left
        ·show Act.put _ (some 42) _=_
         simp only [Act.put,List.setIfInBounds_toArray,List.set_cons_zero,List.set_cons_succ,bP,bU];rfl
        refine ajr (i:=5) (N:=none) #[true,true,true,true,true,true] rfl rfl (by kernel_rfl) (by decide) (fun K hK => ?_);have aIE:w27.cell? ⟨aco,0,none⟩=some (.int .u64 lT):=(au jf.out 0).trans rfl;have aHy:=aI jf.out 0;have aE4:=vg.out;have aE5:=vk.out;have aIF:w27.cell? ⟨aco,1,none⟩=some (.int .u64 kW):=(au jf.out 1).trans rfl;have aHz:=aI jf.out 1;have aE6:=vg.out;have aE7:=vk.out;refine ahC (w1 := ?_) (by rfl) rfl ?_ ?_;rotate_left
        ·go_simp
         rfl
        refine hK.out _ _ ?_;clear hK K;refine afb (by kernel_rfl) ?_;try go_wp2
        go_roundg k2
        case measure=>have:=HJ3.out;have:=HK2.out;omega
        case rel=>exact ⟨(wrap64 (jQ - 1)),(auE),(azg),zT,H',⟨by have:=HJ3.out;have:=HK2.out;omega⟩,⟨zK iI⟩,⟨by refine zD ?_;refine bg (cs := #[.int .u64 auE,.int .u64 kW]) ?_ 1 _ rfl;refine zD ?_;refine bg (cs := #[.int .u64 lT,.int .u64 kW]) ?_ 0 _ rfl;refine zD ?_;exact jf.out⟩,⟨zB⟩⟩
       ·rw [if_neg c22] at H;have arz:=decide_eq_false c22;clear c22;have H':=aj.mk H;clear H;go_wp2;try simp only [Act.put,List.setIfInBounds_toArray,List.set_cons_succ,List.set_cons_zero]
        go_loopg [11,45] k2 (fun kq v11 v45 w'=>∃ (ajR:Bool) (afA:Int),v11 = .bool ajR∧v45 = .int .i64 afA∧aj (aW.l1 kq wR ((decide (a0 < 0)) != (decide (a1 < 0))) ajR (wrap64 (wR - 1)) afA qX uh lT kW=some r)∧aj (kq≤k2)∧aj (w'.heap[aaC]? = some (.cells #[.int .u64 qX,.int .u64 uh] 179 (0,0)))∧aj (w'.heap[aco]? = some (.cells #[.int .u64 lT,.int .u64 kW] 179 (0,0)))∧aj (Below w.heap.size w w'))
        case atStart=>exact ⟨(false),(0),zT,zT,H',⟨Nat.le_refl _⟩,⟨zK iI⟩,⟨zK jf⟩,⟨zB⟩⟩
        case round =>
         clear H';obtain ⟨ajR,afA,rfl,rfl,HA,HK3,iI,jf,HB⟩:=hrel;cases gk with
         | zero=>exact absurd HA.out (by simp [aW.l1])
         | succ k3 =>
          have H:=HA.out;clear HA;simp only [aW.l1] at H;by_cases c30:afA < (wrap64 (wR - 1))
          ·rw [if_pos c30] at H;have aw7:=decide_eq_true c30;clear c30;by_cases c31:ajR=true
           ·subst c31;rw [if_pos rfl] at H;(try dsimp only at H);have H':=aj.mk H;clear H;go_wp2;go_roundg k3
            case measure=>have:=HJ3.out;have:=HK2.out;have:=HK3.out;omega
            case rel=>exact ⟨(true),(wrap64 (afA+1)),zT,zT,H',⟨by have:=HJ3.out;have:=HK2.out;have:=HK3.out;omega⟩,⟨zK iI⟩,⟨zK jf⟩,⟨zB⟩⟩
           ·replace c31:=Bool.eq_false_iff.mpr c31;subst c31;rw [if_neg (show ¬ (false=true) by decide)] at H;(try dsimp only at H);replace H:=zO H;obtain ⟨arv,A32,H⟩:=H;try dsimp only at H
            have H':=aj.mk H;clear H;have aBv:=vg.out;have aBw:=vk.out;obtain ⟨_,_⟩:=zC2 iI.out;obtain ⟨_,_⟩:=zF2 iI.out;go_wp2_with (first|(go_at_call 121;(with_reducible refine (fZ.calls qX uh afA arv _ A32.out).mono ?_);rintro e w35 ⟨rfl,hb⟩;obtain ⟨iI,jf,HB⟩:=zA3 (aA (zK iI) hb) (aA (zK jf) hb) (ak zB hb);(try clear hb)));go_roundg k3
            case measure=>have:=HJ3.out;have:=HK2.out;have:=HK3.out;omega
            case rel=>exact ⟨((arv == 1)),(wrap64 (afA+1)),zT,zT,H',⟨by have:=HJ3.out;have:=HK2.out;have:=HK3.out;omega⟩,⟨zK iI⟩,⟨zK jf⟩,⟨zB⟩⟩
          ·rw [if_neg c30] at H;have aw7:=decide_eq_false c30;clear c30;have auF:=aj.mk H;clear H;go_upto_region 20 with (fail);go_cut [67] (fun v67 wc=>∃ (kq:Nat) (ajS:Bool),v67 = .bool ajS∧aj (aW.j3 kq ((decide (a0 < 0)) != (decide (a1 < 0))) ajS lT kW=some r)∧aj (kq≤k3)∧aj (wc.heap[aaC]? = some (.cells #[.int .u64 qX,.int .u64 uh] 179 (0,0)))∧aj (wc.heap[aco]? = some (.cells #[.int .u64 lT,.int .u64 kW] 179 (0,0)))∧aj (Below w.heap.size w wc))
           case first =>
            have H:=auF.out;clear auF;replace H:=zO H;obtain ⟨aeJ,A37,H⟩:=H;try dsimp only at H
            by_cases c38:aeJ=1
            ·rw [if_pos c38] at H;have afz:(aeJ == 1)=true:=beq_iff_eq.mpr c38;have ars:(aeJ != 1)=false:=bne_eq_false_iff_eq.mpr c38;clear c38
             (first|rw [afz]|(simp only [bP,bU];rw [afz])|skip)
             by_cases c39:ajR=true
             ·subst c39;rw [if_pos rfl] at H;(try dsimp only at H);have H':=aj.mk H;clear H;have awR:=vg.out;have awS:=vk.out;obtain ⟨_,_⟩:=zC2 iI.out;obtain ⟨_,_⟩:=zF2 iI.out;go_wp2_with (first|((with_reducible refine ay (f:=121) rfl ?_);refine aH (some 59) rfl rfl Tryz.func121 (by kernel_rfl) rfl #[.agg #[.int .u64 qX,.int .u64 uh],.int .i64 (wrap64 (wR - 1))] rfl zL ?_;(with_reducible refine (fZ.calls qX uh (wrap64 (wR - 1)) aeJ _ A37.out).mono ?_);rintro e w42 ⟨rfl,hb⟩;refine ⟨_,rfl,?_⟩;obtain ⟨iI,jf,HB⟩:=zA3 (aA (zK iI) hb) (aA (zK jf) hb) (ak zB hb);(try clear hb)));go_meet
              case rel=>exact ⟨_,(true),zT,H',⟨by have:=HJ3.out;have:=HK2.out;have:=HK3.out;first|omega|exact Nat.le_refl _⟩,⟨zK iI⟩,⟨zK jf⟩,⟨zB⟩⟩
             ·replace c39:=Bool.eq_false_iff.mpr c39;subst c39;rw [if_neg (show ¬ (false=true) by decide)] at H;(try dsimp only at H);have H':=aj.mk H;clear H;have aHA:=vg.out;have aHB:=vk.out;obtain ⟨_,_⟩:=zC2 iI.out;obtain ⟨_,_⟩:=zF2 iI.out;go_wp2_with (first|((with_reducible refine ay (f:=121) rfl ?_);refine aH (some 59) rfl rfl Tryz.func121 (by kernel_rfl) rfl #[.agg #[.int .u64 qX,.int .u64 uh],.int .i64 (wrap64 (wR - 1))] rfl zL ?_;(with_reducible refine (fZ.calls qX uh (wrap64 (wR - 1)) aeJ _ A37.out).mono ?_);rintro e w45 ⟨rfl,hb⟩;refine ⟨_,rfl,?_⟩;obtain ⟨iI,jf,HB⟩:=zA3 (aA (zK iI) hb) (aA (zK jf) hb) (ak zB hb);(try clear hb)));go_meet
              case rel=>exact ⟨_,(!((decide (a0 < 0)) != (decide (a1 < 0)))),(by first|rfl|(simp;done)|(simp [*];done)|(generalize decide (a0 < 0)=p_;generalize decide (a1 < 0)=q_;cases p_ <;> cases q_ <;> rfl)),H',⟨by have:=HJ3.out;have:=HK2.out;have:=HK3.out;first|omega|exact Nat.le_refl _⟩,⟨zK iI⟩,⟨zK jf⟩,⟨zB⟩⟩
            ·rw [if_neg c38] at H;have afz:(aeJ == 1)=false:=beq_eq_false_iff_ne.mpr c38;have ars:(aeJ != 1)=true:=bne_iff_ne.mpr c38
             (first|rw [afz]|(simp only [bP,bU];rw [afz])|skip)
             have H':=aj.mk H;clear H;have awV:=vg.out;have awW:=vk.out;obtain ⟨_,_⟩:=zC2 iI.out;obtain ⟨_,_⟩:=zF2 iI.out;go_wp2_with (first|((with_reducible refine ay (f:=121) rfl ?_);refine aH (some 59) rfl rfl Tryz.func121 (by kernel_rfl) rfl #[.agg #[.int .u64 qX,.int .u64 uh],.int .i64 (wrap64 (wR - 1))] rfl zL ?_;(with_reducible refine (fZ.calls qX uh (wrap64 (wR - 1)) aeJ _ A37.out).mono ?_);rintro e w48 ⟨rfl,hb⟩;refine ⟨_,rfl,?_⟩;obtain ⟨iI,jf,HB⟩:=zA3 (aA (zK iI) hb) (aA (zK jf) hb) (ak zB hb);(try clear hb)));go_meet
             case rel=>exact ⟨_,(false),zT,H',⟨by have:=HJ3.out;have:=HK2.out;have:=HK3.out;first|omega|exact Nat.le_refl _⟩,⟨zK iI⟩,⟨zK jf⟩,⟨zB⟩⟩
           case rest =>
            clear auF;obtain ⟨kq,ajS,rfl,HA,aIG,iI,jf,HB⟩:=hcut;cases kq with
            | zero=>exact absurd HA.out (by simp [aW.j3])
            | succ azh =>
             have H:=HA.out;clear HA;simp only [aW.j3] at H;by_cases c49:ajS=true
             ·subst c49;rw [if_pos rfl] at H;(try dsimp only at H);replace H:=zO H;obtain ⟨⟨aoo,arA⟩,A50,H⟩:=H;try dsimp only at H
              replace H:=zO H;obtain ⟨auC,A51,H⟩:=H;try dsimp only at H
              obtain rfl:=Option.some.inj H;have aBC:=vk.out;have aBD:=vg.out;obtain ⟨_,_⟩:=zC2 jf.out;obtain ⟨_,_⟩:=zF2 jf.out;go_wp2_with (first|((with_reducible refine ay (f:=124) rfl ?_);refine aH (some 70) rfl rfl Tryz.func124 (by kernel_rfl) rfl #[.agg #[.int .u64 lT,.int .u64 kW],.agg #[.int .u64 0,.int .u64 1]] rfl zL ?_;(with_reducible refine (iK.calls lT kW 0 1 aoo arA _ A50.out).mono ?_);rintro e w54 ⟨rfl,hb⟩;refine ⟨_,rfl,?_⟩;obtain ⟨iI,jf,HB⟩:=zA3 (aA (zK iI) hb) (aA (zK jf) hb) (ak zB hb);(try clear hb);obtain ⟨_,_⟩:=zC2 jf.out;obtain ⟨_,_⟩:=zF2 jf.out)|((with_reducible refine ay (f:=125) rfl ?_);refine aH (some 73) rfl rfl Tryz.func125 (by kernel_rfl) rfl #[.agg #[.int .u64 aoo,.int .u64 arA],.bool ((decide (a0 < 0)) != (decide (a1 < 0)))] rfl zL ?_;(with_reducible refine (cZ.calls azh aoo arA ((decide (a0 < 0)) != (decide (a1 < 0))) auC _ A51.out).mono ?_);rintro e w56 ⟨rfl,hb⟩;refine ⟨_,rfl,?_⟩;obtain ⟨iI,jf,HB⟩:=zA3 (aA (zK iI) hb) (aA (g:=aco) (o := .cells #[.int .u64 aoo,.int .u64 arA] 179 (0,0)) (by refine zD ?_;refine bg (cs := #[.int .u64 aoo,.int .u64 kW]) ?_ 1 _ rfl;refine zD ?_;refine bg (cs := #[.int .u64 lT,.int .u64 kW]) ?_ 0 _ rfl;refine zD ?_;exact jf.out) hb) (ak zB hb);(try clear hb)));go_ret;exact ⟨zS,zB⟩
             ·replace c49:=Bool.eq_false_iff.mpr c49;subst c49;rw [if_neg (show ¬ (false=true) by decide)] at H;(try dsimp only at H);replace H:=zO H;obtain ⟨auD,A57,H⟩:=H;try dsimp only at H
              obtain rfl:=Option.some.inj H;have aBg:=vk.out;have aBh:=vg.out;obtain ⟨_,_⟩:=zC2 jf.out;obtain ⟨_,_⟩:=zF2 jf.out;go_wp2_with (first|((with_reducible refine ay (f:=125) rfl ?_);refine aH (some 73) rfl rfl Tryz.func125 (by kernel_rfl) rfl #[.agg #[.int .u64 lT,.int .u64 kW],.bool ((decide (a0 < 0)) != (decide (a1 < 0)))] rfl zL ?_;(with_reducible refine (cZ.calls azh lT kW ((decide (a0 < 0)) != (decide (a1 < 0))) auD _ A57.out).mono ?_);rintro e w60 ⟨rfl,hb⟩;refine ⟨_,rfl,?_⟩;obtain ⟨iI,jf,HB⟩:=zA3 (aA (zK iI) hb) (aA (zK jf) hb) (ak zB hb);(try clear hb)));go_ret;exact ⟨zS,zB⟩
mutual
def dD.j0:Nat→Int→Int→Option (Int)
 | 0,_,_=>none
 | k+1,x0,x1=>(bC.f k 10851744800547 x0 x1).bind fun aop=>((bC.f k aop x0 x1).bind fun aha=>(dD.l0 k aha 1099511627776 0 1099511627776 1))
def dD.l0:Nat→Int→Int→Int→Int→Int→Option (Int)
 | 0,_,_,_,_,_=>none
 | k+1,x6,x7,x8,x9,x10=>if x10≤30 then ((bC.f k x9 x6 (wrap64 ((wrap64 ((wrap64 (2*x10))*(wrap64 ((wrap64 (2*x10))+1))))*1099511627776))).bind fun adN=>(if (Int.tmod x10 2)=1 then (dD.l0 k x6 x7 (wrap64 (x8+adN)) adN (wrap64 (x10+1))) else (dD.l0 k x6 (wrap64 (x7+adN)) x8 adN (wrap64 (x10+1))))) else (some (wrap64 (x7 - x8)))
end
def dD.f (k:Nat) (a0 a1:Int):Option (Int):=if a0 < 0 then (dD.j0 k (wrap64 (-a0)) a1) else (dD.j0 k a0 a1)
theorem dD.calls (k:Nat) (a0 a1 r:Int) (w:World) (h:dD.f k a0 a1=some r) :
  Calls Tryz.prog 186 #[.int .i64 a0,.int .i64 a1] w fun e w'=>e = .returned (.int .i64 r)∧Below w.heap.size w w':=by
 have HB:=aj.mk (Below.refl w.heap.size w);have H:=h;clear h;unfold dD.f at H;have HC3:=aj.mk H;clear H;go_enter Tryz.func186,Tryz.ntmps186;go_upto_if 13 with (fail)
 go_cut [0] (fun v0 wc=>∃ (kq:Nat) (aiL:Int),v0 = .int .i64 aiL∧aj (dD.j0 kq aiL a1=some r)∧aj (kq≤k)∧aj (Below w.heap.size w wc))
 case first =>
  have H:=HC3.out;clear HC3;by_cases c4:a0 < 0
  ·rw [if_pos c4] at H;have fH:=decide_eq_true c4;clear c4
   (first|rw [fH]|(simp only [bP,bU];rw [fH])|skip)
   have H':=aj.mk H;clear H;go_wp2;go_meet
   case rel=>exact ⟨_,(wrap64 (-a0)),zT,H',⟨by first|omega|exact Nat.le_refl _⟩,⟨zB⟩⟩
  ·rw [if_neg c4] at H;have fH:=decide_eq_false c4;clear c4
   (first|rw [fH]|(simp only [bP,bU];rw [fH])|skip)
   have H':=aj.mk H;clear H;go_wp2;go_meet
   case rel=>exact ⟨_,(a0),zT,H',⟨by first|omega|exact Nat.le_refl _⟩,⟨zB⟩⟩
 case rest =>
  clear HC3;obtain ⟨kq,aiL,rfl,HA,HJ2,HB⟩:=hcut;cases kq with
  | zero=>exact absurd HA.out (by simp [dD.j0])
  | succ kj2 =>
   have H:=HA.out;clear HA;simp only [dD.j0] at H;replace H:=zO H;obtain ⟨aop,A5,H⟩:=H;try dsimp only at H
   replace H:=zO H;obtain ⟨aha,A6,H⟩:=H;try dsimp only at H
   have H':=aj.mk H;clear H;go_wp2_with (first|((with_reducible refine ay (f:=118) rfl ?_);refine aH (some 18) rfl rfl Tryz.func118 (by kernel_rfl) rfl #[.int .i64 10851744800547,.int .i64 aiL,.int .i64 a1] rfl zL ?_;(with_reducible refine (bC.calls kj2 10851744800547 aiL a1 aop _ A5.out).mono ?_);rintro e w7 ⟨rfl,hb⟩;refine ⟨_,rfl,?_⟩;replace HB:=aj.mk (ak zB hb);(try clear hb))|((with_reducible refine ay (f:=118) rfl ?_);refine aH (some 22) rfl rfl Tryz.func118 (by kernel_rfl) rfl #[.int .i64 aop,.int .i64 aiL,.int .i64 a1] rfl zL ?_;(with_reducible refine (bC.calls kj2 aop aiL a1 aha _ A6.out).mono ?_);rintro e w8 ⟨rfl,hb⟩;refine ⟨_,rfl,?_⟩;replace HB:=aj.mk (ak zB hb);(try clear hb)));go_loopg [7,8,9,10] kj2 (fun kq v7 v8 v9 v10 w'=>∃ (ab4:Int) (mZ:Int) (acW:Int) (jQ:Int),v7 = .int .i64 ab4∧v8 = .int .i64 mZ∧v9 = .int .i64 acW∧v10 = .int .i64 jQ∧aj (dD.l0 kq aha ab4 mZ acW jQ=some r)∧aj (kq≤kj2)∧aj (Below w.heap.size w w'))
   case atStart=>exact ⟨(1099511627776),(0),(1099511627776),(1),zT,zT,zT,zT,H',⟨Nat.le_refl _⟩,⟨zB⟩⟩
   case round =>
    clear H';obtain ⟨ab4,mZ,acW,jQ,rfl,rfl,rfl,rfl,HA,HK2,HB⟩:=hrel;cases gk with
    | zero=>exact absurd HA.out (by simp [dD.l0])
    | succ k2 =>
     have H:=HA.out;clear HA;simp only [dD.l0] at H;by_cases c9:jQ≤30
     ·rw [if_pos c9] at H;have o8:=decide_eq_true c9;clear c9;replace H:=zO H;obtain ⟨adN,A10,H⟩:=H;try dsimp only at H
      by_cases c11:(Int.tmod jQ 2)=1
      ·rw [if_pos c11] at H;have jv:((Int.tmod jQ 2) == 1)=true:=beq_iff_eq.mpr c11;have zH:((Int.tmod jQ 2) != 1)=false:=bne_eq_false_iff_eq.mpr c11;clear c11;have H':=aj.mk H;clear H;go_wp2_with (first|((with_reducible refine ay (f:=118) rfl ?_);refine aH (some 37) rfl rfl Tryz.func118 (by kernel_rfl) rfl #[.int .i64 acW,.int .i64 aha,.int .i64 (wrap64 ((wrap64 ((wrap64 (2*jQ))*(wrap64 ((wrap64 (2*jQ))+1))))*1099511627776))] rfl zL ?_;(with_reducible refine (bC.calls k2 acW aha (wrap64 ((wrap64 ((wrap64 (2*jQ))*(wrap64 ((wrap64 (2*jQ))+1))))*1099511627776)) adN _ A10.out).mono ?_);rintro e w12 ⟨rfl,hb⟩;refine ⟨_,rfl,?_⟩;replace HB:=aj.mk (ak zB hb);(try clear hb)));go_roundg k2
       case measure=>have:=HJ2.out;have:=HK2.out;omega
       case rel=>exact ⟨(ab4),(wrap64 (mZ+adN)),(adN),(wrap64 (jQ+1)),zT,zT,zT,zT,H',⟨by have:=HJ2.out;have:=HK2.out;omega⟩,⟨zB⟩⟩
      ·rw [if_neg c11] at H;have jv:((Int.tmod jQ 2) == 1)=false:=beq_eq_false_iff_ne.mpr c11;have zH:((Int.tmod jQ 2) != 1)=true:=bne_iff_ne.mpr c11;have H':=aj.mk H;clear H;go_wp2_with (first|((with_reducible refine ay (f:=118) rfl ?_);refine aH (some 37) rfl rfl Tryz.func118 (by kernel_rfl) rfl #[.int .i64 acW,.int .i64 aha,.int .i64 (wrap64 ((wrap64 ((wrap64 (2*jQ))*(wrap64 ((wrap64 (2*jQ))+1))))*1099511627776))] rfl zL ?_;(with_reducible refine (bC.calls k2 acW aha (wrap64 ((wrap64 ((wrap64 (2*jQ))*(wrap64 ((wrap64 (2*jQ))+1))))*1099511627776)) adN _ A10.out).mono ?_);rintro e w13 ⟨rfl,hb⟩;refine ⟨_,rfl,?_⟩;replace HB:=aj.mk (ak zB hb);(try clear hb)));go_roundg k2
       case measure=>have:=HJ2.out;have:=HK2.out;omega
       case rel=>exact ⟨(wrap64 (ab4+adN)),(mZ),(adN),(wrap64 (jQ+1)),zT,zT,zT,zT,H',⟨by have:=HJ2.out;have:=HK2.out;omega⟩,⟨zB⟩⟩
     ·rw [if_neg c9] at H;have o8:=decide_eq_false c9;clear c9;obtain rfl:=Option.some.inj H;go_wp2;go_ret;exact ⟨zS,zB⟩
def fG.j0:Nat→Int→Int→Bool→Option (Int)
 | 0,_,_,_=>none
 | k+1,x0,x1,x21=>if x21=true then (some 0) else ((dD.f k x0 x1).bind fun aoq=>((dD.f k x0 (wrap64 (3*x1))).bind fun aor=>((aW.f k aoq aor 40).bind fun aos=>((aK.f k aos 10).bind fun auG=>(some auG)))))
def fG.f (k:Nat) (a0 a1:Int):Option (Int):=(mX.f a0 a1).bind fun auH=>(if auH=true then (if a0≥(wrap64 (3*a1)) then (fG.j0 k a0 a1 true) else (fG.j0 k a0 a1 (decide (a0≤(wrap64 ((-3)*a1)))))) else (fG.j0 k a0 a1 true))
theorem fG.calls (k:Nat) (a0 a1 r:Int) (w:World) (h:fG.f k a0 a1=some r) :
  Calls Tryz.prog 171 #[.int .i64 a0,.int .i64 a1] w fun e w'=>e = .returned (.int .i64 r)∧Below w.heap.size w w':=by
 have HB:=aj.mk (Below.refl w.heap.size w);have H:=h;clear h;unfold fG.f at H;have HC3:=aj.mk H;clear H;go_enter Tryz.func171,Tryz.ntmps171;go_upto_region 1 with (fail);go_cut [21] (fun v21 wc=>∃ (kq:Nat) (anb:Bool),v21 = .bool anb∧aj (fG.j0 kq a0 a1 anb=some r)∧aj (kq≤k)∧aj (Below w.heap.size w wc))
 case first =>
  have H:=HC3.out;clear HC3;replace H:=zO H;obtain ⟨auH,A4,H⟩:=H;try dsimp only at H
  by_cases c5:auH=true
  ·subst c5;rw [if_pos rfl] at H;(try dsimp only at H);by_cases c6:a0≥(wrap64 (3*a1))
   ·rw [if_pos c6] at H;have gI:=decide_eq_true c6;clear c6
    (first|rw [gI]|(simp only [bP,bU];rw [gI])|skip)
    have H':=aj.mk H;clear H;go_wp2_with (first|((with_reducible refine ay (f:=184) rfl ?_);refine aH (some 8) rfl rfl Tryz.func184 (by kernel_rfl) rfl #[.int .i64 a0,.int .i64 a1] rfl zL ?_;(with_reducible refine (mX.calls a0 a1 true _ A4.out).mono ?_);rintro e w' ⟨rfl,⟨nd,rfl⟩⟩;refine ⟨_,rfl,?_⟩));go_meet
    case rel=>exact ⟨_,(true),zT,H',⟨by first|omega|exact Nat.le_refl _⟩,⟨zB⟩⟩
   ·rw [if_neg c6] at H;have gI:=decide_eq_false c6;clear c6
    (first|rw [gI]|(simp only [bP,bU];rw [gI])|skip)
    have H':=aj.mk H;clear H;go_wp2_with (first|((with_reducible refine ay (f:=184) rfl ?_);refine aH (some 8) rfl rfl Tryz.func184 (by kernel_rfl) rfl #[.int .i64 a0,.int .i64 a1] rfl zL ?_;(with_reducible refine (mX.calls a0 a1 true _ A4.out).mono ?_);rintro e w' ⟨rfl,⟨nd,rfl⟩⟩;refine ⟨_,rfl,?_⟩));go_meet
    case rel=>exact ⟨_,(decide (a0≤(wrap64 ((-3)*a1)))),zT,H',⟨by first|omega|exact Nat.le_refl _⟩,⟨zB⟩⟩
  ·replace c5:=Bool.eq_false_iff.mpr c5;subst c5;rw [if_neg (show ¬ (false=true) by decide)] at H;(try dsimp only at H);have H':=aj.mk H;clear H;go_wp2_with (first|((with_reducible refine ay (f:=184) rfl ?_);refine aH (some 8) rfl rfl Tryz.func184 (by kernel_rfl) rfl #[.int .i64 a0,.int .i64 a1] rfl zL ?_;(with_reducible refine (mX.calls a0 a1 false _ A4.out).mono ?_);rintro e w' ⟨rfl,⟨nd,rfl⟩⟩;refine ⟨_,rfl,?_⟩));go_meet
   case rel=>exact ⟨_,(true),zT,H',⟨by first|omega|exact Nat.le_refl _⟩,⟨zB⟩⟩
 case rest =>
  clear HC3;obtain ⟨kq,anb,rfl,HA,HJ2,HB⟩:=hcut;cases kq with
  | zero=>exact absurd HA.out (by simp [fG.j0])
  | succ kj2 =>
   have H:=HA.out;clear HA;simp only [fG.j0] at H;by_cases c7:anb=true
   ·subst c7;rw [if_pos rfl] at H;(try dsimp only at H);obtain rfl:=Option.some.inj H;go_wp2;go_ret;exact ⟨zS,zB⟩
   ·replace c7:=Bool.eq_false_iff.mpr c7;subst c7;rw [if_neg (show ¬ (false=true) by decide)] at H;(try dsimp only at H);replace H:=zO H;obtain ⟨aoq,A8,H⟩:=H;try dsimp only at H
    replace H:=zO H;obtain ⟨aor,A9,H⟩:=H;try dsimp only at H
    replace H:=zO H;obtain ⟨aos,A10,H⟩:=H;try dsimp only at H
    replace H:=zO H;obtain ⟨auG,A11,H⟩:=H;try dsimp only at H
    obtain rfl:=Option.some.inj H;go_wp2_with (first|((with_reducible refine ay (f:=186) rfl ?_);refine aH (some 24) rfl rfl Tryz.func186 (by kernel_rfl) rfl #[.int .i64 a0,.int .i64 a1] rfl zL ?_;(with_reducible refine (dD.calls kj2 a0 a1 aoq _ A8.out).mono ?_);rintro e w12 ⟨rfl,hb⟩;refine ⟨_,rfl,?_⟩;replace HB:=aj.mk (ak zB hb);(try clear hb))|((with_reducible refine ay (f:=186) rfl ?_);refine aH (some 28) rfl rfl Tryz.func186 (by kernel_rfl) rfl #[.int .i64 a0,.int .i64 (wrap64 (3*a1))] rfl zL ?_;(with_reducible refine (dD.calls kj2 a0 (wrap64 (3*a1)) aor _ A9.out).mono ?_);rintro e w13 ⟨rfl,hb⟩;refine ⟨_,rfl,?_⟩;replace HB:=aj.mk (ak zB hb);(try clear hb))|((with_reducible refine ay (f:=185) rfl ?_);refine aH (some 29) rfl rfl Tryz.func185 (by kernel_rfl) rfl #[.int .i64 aoq,.int .i64 aor,.int .i64 40] rfl zL ?_;(with_reducible refine (aW.calls kj2 aoq aor 40 aos _ A10.out).mono ?_);rintro e w14 ⟨rfl,hb⟩;refine ⟨_,rfl,?_⟩;replace HB:=aj.mk (ak zB hb);(try clear hb))|((with_reducible refine ay (f:=101) rfl ?_);refine aH (some 31) rfl rfl Tryz.func101 (by kernel_rfl) rfl #[.int .i64 aos,.int .i64 10] rfl zL ?_;(with_reducible refine (aK.calls kj2 aos 10 auG _ A11.out).mono ?_);rintro e w15 ⟨rfl,hb⟩;refine ⟨_,rfl,?_⟩;replace HB:=aj.mk (ak zB hb);(try clear hb)));go_ret;exact ⟨zS,zB⟩
def nI.f (k:Nat) (a0 a1 a2 a3 a4:Int):Option (Int):=if a0=0 then (if (wrap64 (a4*a2)) > (wrap64 (a3*a1)) then (if (wrap64 ((wrap64 (a4+1))*a2)) < (wrap64 ((wrap64 (a3+1))*a1)) then ((bC.f k (wrap64 ((wrap64 ((wrap64 (a4+1))*a2)) - (wrap64 (a4*a2)))) 1073741824 a1).bind fun auI=>(some auI)) else ((bC.f k (wrap64 ((wrap64 ((wrap64 (a3+1))*a1)) - (wrap64 (a4*a2)))) 1073741824 a1).bind fun auJ=>(some auJ))) else (if (wrap64 ((wrap64 (a4+1))*a2)) < (wrap64 ((wrap64 (a3+1))*a1)) then ((bC.f k (wrap64 ((wrap64 ((wrap64 (a4+1))*a2)) - (wrap64 (a3*a1)))) 1073741824 a1).bind fun auK=>(some auK)) else ((bC.f k (wrap64 ((wrap64 ((wrap64 (a3+1))*a1)) - (wrap64 (a3*a1)))) 1073741824 a1).bind fun auL=>(some auL)))) else ((gZ.f a1 a2 a3 a4).bind fun anc=>(if a0=1 then ((cO.f k anc.1 anc.2).bind fun auM=>(some auM)) else ((fG.f k anc.1 anc.2).bind fun auN=>(some auN))))
theorem nI.calls (k:Nat) (a0 a1 a2 a3 a4 r:Int) (w:World) (h:nI.f k a0 a1 a2 a3 a4=some r) :
  Calls Tryz.prog 141 #[.int .i64 a0,.int .i64 a1,.int .i64 a2,.int .i64 a3,.int .i64 a4] w fun e w'=>e = .returned (.int .i64 r)∧Below w.heap.size w w':=by
 have HB:=aj.mk (Below.refl w.heap.size w);have H:=h;clear h;unfold nI.f at H;by_cases c6:a0=0
 ·rw [if_pos c6] at H;have gI:(a0 == 0)=true:=beq_iff_eq.mpr c6;have vS:(a0 != 0)=false:=bne_eq_false_iff_eq.mpr c6;clear c6;by_cases c7:(wrap64 (a4*a2)) > (wrap64 (a3*a1))
  ·rw [if_pos c7] at H;have jr:=decide_eq_true c7;clear c7;by_cases c8:(wrap64 ((wrap64 (a4+1))*a2)) < (wrap64 ((wrap64 (a3+1))*a1))
   ·rw [if_pos c8] at H;have qg:=decide_eq_true c8;clear c8;replace H:=zO H;obtain ⟨auI,A9,H⟩:=H;try dsimp only at H
    obtain rfl:=Option.some.inj H;go_enter Tryz.func141,Tryz.ntmps141;go_wp2_with (first|((with_reducible refine ay (f:=118) rfl ?_);refine aH (some 46) rfl rfl Tryz.func118 (by kernel_rfl) rfl #[.int .i64 (wrap64 ((wrap64 ((wrap64 (a4+1))*a2)) - (wrap64 (a4*a2)))),.int .i64 1073741824,.int .i64 a1] rfl zL ?_;(with_reducible refine (bC.calls k (wrap64 ((wrap64 ((wrap64 (a4+1))*a2)) - (wrap64 (a4*a2)))) 1073741824 a1 auI _ A9.out).mono ?_);rintro e w10 ⟨rfl,hb⟩;refine ⟨_,rfl,?_⟩;replace HB:=aj.mk (ak zB hb);(try clear hb)));go_ret;exact ⟨zS,zB⟩
   ·rw [if_neg c8] at H;have qg:=decide_eq_false c8;clear c8;replace H:=zO H;obtain ⟨auJ,A11,H⟩:=H;try dsimp only at H
    obtain rfl:=Option.some.inj H;go_enter Tryz.func141,Tryz.ntmps141;go_wp2_with (first|((with_reducible refine ay (f:=118) rfl ?_);refine aH (some 46) rfl rfl Tryz.func118 (by kernel_rfl) rfl #[.int .i64 (wrap64 ((wrap64 ((wrap64 (a3+1))*a1)) - (wrap64 (a4*a2)))),.int .i64 1073741824,.int .i64 a1] rfl zL ?_;(with_reducible refine (bC.calls k (wrap64 ((wrap64 ((wrap64 (a3+1))*a1)) - (wrap64 (a4*a2)))) 1073741824 a1 auJ _ A11.out).mono ?_);rintro e w12 ⟨rfl,hb⟩;refine ⟨_,rfl,?_⟩;replace HB:=aj.mk (ak zB hb);(try clear hb)));go_ret;exact ⟨zS,zB⟩
  ·rw [if_neg c7] at H;have jr:=decide_eq_false c7;clear c7;by_cases c13:(wrap64 ((wrap64 (a4+1))*a2)) < (wrap64 ((wrap64 (a3+1))*a1))
   ·rw [if_pos c13] at H;have zQ:=decide_eq_true c13;clear c13;replace H:=zO H;obtain ⟨auK,A14,H⟩:=H;try dsimp only at H
    obtain rfl:=Option.some.inj H;go_enter Tryz.func141,Tryz.ntmps141;go_wp2_with (first|((with_reducible refine ay (f:=118) rfl ?_);refine aH (some 46) rfl rfl Tryz.func118 (by kernel_rfl) rfl #[.int .i64 (wrap64 ((wrap64 ((wrap64 (a4+1))*a2)) - (wrap64 (a3*a1)))),.int .i64 1073741824,.int .i64 a1] rfl zL ?_;(with_reducible refine (bC.calls k (wrap64 ((wrap64 ((wrap64 (a4+1))*a2)) - (wrap64 (a3*a1)))) 1073741824 a1 auK _ A14.out).mono ?_);rintro e w15 ⟨rfl,hb⟩;refine ⟨_,rfl,?_⟩;replace HB:=aj.mk (ak zB hb);(try clear hb)));go_ret;exact ⟨zS,zB⟩
   ·rw [if_neg c13] at H;have zQ:=decide_eq_false c13;clear c13;replace H:=zO H;obtain ⟨auL,A16,H⟩:=H;try dsimp only at H
    obtain rfl:=Option.some.inj H;go_enter Tryz.func141,Tryz.ntmps141;go_wp2_with (first|((with_reducible refine ay (f:=118) rfl ?_);refine aH (some 46) rfl rfl Tryz.func118 (by kernel_rfl) rfl #[.int .i64 (wrap64 ((wrap64 ((wrap64 (a3+1))*a1)) - (wrap64 (a3*a1)))),.int .i64 1073741824,.int .i64 a1] rfl zL ?_;(with_reducible refine (bC.calls k (wrap64 ((wrap64 ((wrap64 (a3+1))*a1)) - (wrap64 (a3*a1)))) 1073741824 a1 auL _ A16.out).mono ?_);rintro e w17 ⟨rfl,hb⟩;refine ⟨_,rfl,?_⟩;replace HB:=aj.mk (ak zB hb);(try clear hb)));go_ret;exact ⟨zS,zB⟩
 ·rw [if_neg c6] at H;have gI:(a0 == 0)=false:=beq_eq_false_iff_ne.mpr c6;have vS:(a0 != 0)=true:=bne_iff_ne.mpr c6;replace H:=zO H;obtain ⟨⟨ak7,ak8⟩,A18,H⟩:=H;try dsimp only at H
  by_cases c19:a0=1
  ·rw [if_pos c19] at H;have aw8:(a0 == 1)=true:=beq_iff_eq.mpr c19;have aBG:(a0 != 1)=false:=bne_eq_false_iff_eq.mpr c19;clear c19;replace H:=zO H;obtain ⟨auM,A20,H⟩:=H;try dsimp only at H
   obtain rfl:=Option.some.inj H;go_enter Tryz.func141,Tryz.ntmps141;go_wp2_with (first|((with_reducible refine ay (f:=169) rfl ?_);refine aH (some 52) rfl rfl Tryz.func169 (by kernel_rfl) rfl #[.int .i64 a1,.int .i64 a2,.int .i64 a3,.int .i64 a4] rfl zL ?_;(with_reducible refine (gZ.calls a1 a2 a3 a4 ak7 ak8 _ A18.out).mono ?_);rintro e w' ⟨rfl,⟨nd,rfl⟩⟩;refine ⟨_,rfl,?_⟩)|((with_reducible refine ay (f:=170) rfl ?_);refine aH (some 59) rfl rfl Tryz.func170 (by kernel_rfl) rfl #[.int .i64 ak7,.int .i64 ak8] rfl zL ?_;(with_reducible refine (cO.calls k ak7 ak8 auM _ A20.out).mono ?_);rintro e w21 ⟨rfl,hb⟩;refine ⟨_,rfl,?_⟩;replace HB:=aj.mk (ak zB hb);(try clear hb)));go_ret;exact ⟨zS,zB⟩
  ·rw [if_neg c19] at H;have aw8:(a0 == 1)=false:=beq_eq_false_iff_ne.mpr c19;have aBG:(a0 != 1)=true:=bne_iff_ne.mpr c19;replace H:=zO H;obtain ⟨auN,A22,H⟩:=H;try dsimp only at H
   obtain rfl:=Option.some.inj H;go_enter Tryz.func141,Tryz.ntmps141;go_wp2_with (first|((with_reducible refine ay (f:=169) rfl ?_);refine aH (some 52) rfl rfl Tryz.func169 (by kernel_rfl) rfl #[.int .i64 a1,.int .i64 a2,.int .i64 a3,.int .i64 a4] rfl zL ?_;(with_reducible refine (gZ.calls a1 a2 a3 a4 ak7 ak8 _ A18.out).mono ?_);rintro e w' ⟨rfl,⟨nd,rfl⟩⟩;refine ⟨_,rfl,?_⟩)|((with_reducible refine ay (f:=171) rfl ?_);refine aH (some 62) rfl rfl Tryz.func171 (by kernel_rfl) rfl #[.int .i64 ak7,.int .i64 ak8] rfl zL ?_;(with_reducible refine (fG.calls k ak7 ak8 auN _ A22.out).mono ?_);rintro e w23 ⟨rfl,hb⟩;refine ⟨_,rfl,?_⟩;replace HB:=aj.mk (ak zB hb);(try clear hb)));go_ret;exact ⟨zS,zB⟩
mutual
def dh.l0:Nat→Int→Int→Int→Int→Int→Option (Int × List Int)
 | 0,_,_,_,_,_=>none
 | k+1,x0,x1,x2,x3,x10=>(jJ.f x0 x1 x2 x3 (wrap64 (x10 - 1))).bind fun auO=>(if auO=true then (dh.l0 k x0 x1 x2 x3 (wrap64 (x10 - 1))) else (dh.l1 k x0 x1 x2 x3 x10))
def dh.l1:Nat→Int→Int→Int→Int→Int→Option (Int × List Int)
 | 0,_,_,_,_,_=>none
 | k+1,x0,x1,x2,x3,x10=>(jJ.f x0 x1 x2 x3 x10).bind fun auP=>(if auP=true then (dh.l2 k x0 x1 x2 x3 x10 x10 ([]:List Int)) else (dh.l1 k x0 x1 x2 x3 (wrap64 (x10+1))))
def dh.l2:Nat→Int→Int→Int→Int→Int→Int→List Int→Option (Int × List Int)
 | 0,_,_,_,_,_,_,_=>none
 | k+1,x0,x1,x2,x3,x10,x11,x12=>(jJ.f x0 x1 x2 x3 x10).bind fun auQ=>(if auQ=true then ((nI.f k x0 x1 x2 x3 x10).bind fun ak9=>(if x12.length < 17592186044416 then (dh.l2 k x0 x1 x2 x3 (wrap64 (x10+1)) x11 (x12 ++ [ak9])) else (none))) else (some (x11,x12)))
end
def dh.f (k:Nat) (a0 a1 a2 a3:Int):Option (Int × List Int):=(mW.f a0 a1 a2 a3).bind fun auR=>(if auR=true then (if a2=0 then (none) else (dh.l0 k a0 a1 a2 a3 (wrap64 (Int.tdiv (wrap64 (a3*a1)) a2)))) else (some (0,([]:List Int))))
theorem dh.calls (k:Nat) (a0 a1 a2 a3 r1:Int) (r2:List Int) (w:World) (h:dh.f k a0 a1 a2 a3=some (r1,r2)) :
  Calls Tryz.prog 114 #[.int .i64 a0,.int .i64 a1,.int .i64 a2,.int .i64 a3] w fun e w'=>∃ v1_:Value,e = .returned (.tuple #[.int .i64 r1,v1_])∧Kd.R (Kd.int .i64) 2 w' w.heap.size (fun _=>True) v1_ r2∧Below w.heap.size w w':=by
 have HB:=aj.mk (Below.refl w.heap.size w);have H:=h;clear h;unfold dh.f at H;replace H:=zO H;obtain ⟨auR,A5,H⟩:=H;try dsimp only at H
 by_cases c6:auR=true
 ·subst c6;rw [if_pos rfl] at H;(try dsimp only at H);by_cases c7:a2=0
  ·rw [if_pos c7] at H;exact absurd H (by simp)
  ·rw [if_neg c7] at H;have jr:(a2 == 0)=false:=beq_eq_false_iff_ne.mpr c7;have abQ:(a2 != 0)=true:=bne_iff_ne.mpr c7;have H':=aj.mk H;clear H;go_enter Tryz.func114,Tryz.ntmps114;go_wp2_with (first|((with_reducible refine ay (f:=139) rfl ?_);refine aH (some 17) rfl rfl Tryz.func139 (by kernel_rfl) rfl #[.int .i64 a0,.int .i64 a1,.int .i64 a2,.int .i64 a3] rfl zL ?_;(with_reducible refine (mW.calls a0 a1 a2 a3 true _ A5.out).mono ?_);rintro e w' ⟨rfl,⟨nd,rfl⟩⟩;refine ⟨_,rfl,?_⟩));go_loopg [10] k (fun kq v10 w'=>∃ (yK:Int),v10 = .int .i64 yK∧aj (dh.l0 kq a0 a1 a2 a3 yK=some (r1,r2))∧aj (kq≤k)∧aj (Below w.heap.size w w'))
   case atStart=>exact ⟨(wrap64 (Int.tdiv (wrap64 (a3*a1)) a2)),zT,H',⟨Nat.le_refl _⟩,⟨zB⟩⟩
   case round =>
    clear H';obtain ⟨yK,rfl,HA,HK1,HB⟩:=hrel;cases gk with
    | zero=>exact absurd HA.out (by simp [dh.l0])
    | succ k1 =>
     have H:=HA.out;clear HA;simp only [dh.l0] at H;replace H:=zO H;obtain ⟨auO,A8,H⟩:=H;try dsimp only at H
     by_cases c9:auO=true
     ·subst c9;rw [if_pos rfl] at H;(try dsimp only at H);have H':=aj.mk H;clear H;go_wp2_with (first|((with_reducible refine ay (f:=140) rfl ?_);refine aH (some 30) rfl rfl Tryz.func140 (by kernel_rfl) rfl #[.int .i64 a0,.int .i64 a1,.int .i64 a2,.int .i64 a3,.int .i64 (wrap64 (yK - 1))] rfl zL ?_;(with_reducible refine (jJ.calls a0 a1 a2 a3 (wrap64 (yK - 1)) true _ A8.out).mono ?_);rintro e w' ⟨rfl,⟨nd,rfl⟩⟩;refine ⟨_,rfl,?_⟩));go_roundg k1
      case measure=>have:=HK1.out;omega
      case rel=>exact ⟨(wrap64 (yK - 1)),zT,H',⟨by have:=HK1.out;omega⟩,⟨zB⟩⟩
     ·replace c9:=Bool.eq_false_iff.mpr c9;subst c9;rw [if_neg (show ¬ (false=true) by decide)] at H;(try dsimp only at H);have H':=aj.mk H;clear H;go_wp2_with (first|((with_reducible refine ay (f:=140) rfl ?_);refine aH (some 30) rfl rfl Tryz.func140 (by kernel_rfl) rfl #[.int .i64 a0,.int .i64 a1,.int .i64 a2,.int .i64 a3,.int .i64 (wrap64 (yK - 1))] rfl zL ?_;(with_reducible refine (jJ.calls a0 a1 a2 a3 (wrap64 (yK - 1)) false _ A8.out).mono ?_);rintro e w' ⟨rfl,⟨nd,rfl⟩⟩;refine ⟨_,rfl,?_⟩));try simp only [Act.put,List.setIfInBounds_toArray,List.set_cons_succ,List.set_cons_zero]
      go_loopg [10] k1 (fun kq v10 w'=>∃ (jQ:Int),v10 = .int .i64 jQ∧aj (dh.l1 kq a0 a1 a2 a3 jQ=some (r1,r2))∧aj (kq≤k1)∧aj (Below w.heap.size w w'))
      case atStart=>exact ⟨(yK),zT,H',⟨Nat.le_refl _⟩,⟨zB⟩⟩
      case round =>
       clear H';obtain ⟨jQ,rfl,HA,HK2,HB⟩:=hrel;cases gk with
       | zero=>exact absurd HA.out (by simp [dh.l1])
       | succ k2 =>
        have H:=HA.out;clear HA;simp only [dh.l1] at H;replace H:=zO H;obtain ⟨auP,A10,H⟩:=H;try dsimp only at H
        by_cases c11:auP=true
        ·subst c11;rw [if_pos rfl] at H;(try dsimp only at H);have H':=aj.mk H;clear H;go_wp2_with (first|((with_reducible refine ay (f:=140) rfl ?_);refine aH (some 38) rfl rfl Tryz.func140 (by kernel_rfl) rfl #[.int .i64 a0,.int .i64 a1,.int .i64 a2,.int .i64 a3,.int .i64 jQ] rfl zL ?_;(with_reducible refine (jJ.calls a0 a1 a2 a3 jQ true _ A10.out).mono ?_);rintro e w' ⟨rfl,⟨nd,rfl⟩⟩;refine ⟨_,rfl,?_⟩));try simp only [Act.put,List.setIfInBounds_toArray,List.set_cons_succ,List.set_cons_zero]
         go_loopg [10,12] k2 (fun kq v10 v12 w'=>∃ (o7:Int) (ahU:List Int),v10 = .int .i64 o7∧aj (dh.l2 kq a0 a1 a2 a3 o7 jQ ahU=some (r1,r2))∧aj (kq≤k2)∧aj (Kd.R (Kd.int .i64) 2 w' w.heap.size (fun _=>True) v12 ahU)∧aj (Below w.heap.size w w'))
         case atStart=>exact ⟨(jQ),(([]:List Int)),zT,H',⟨Nat.le_refl _⟩,⟨by first|exact Kd.kQ _ _ _ _ _|exact Kd.qM _ _ _ _ _|exact Kd.oU _ _ _ _ _|exact Kd.qN _ _ _ _ _|exact Kd.qo _ _ _ _ _⟩,⟨zB⟩⟩
         case round =>
          clear H';obtain ⟨o7,ahU,rfl,HA,HK3,ane,HB⟩:=hrel;cases gk with
          | zero=>exact absurd HA.out (by simp [dh.l2])
          | succ k3 =>
           have H:=HA.out;clear HA;simp only [dh.l2] at H;replace H:=zO H;obtain ⟨auQ,A12,H⟩:=H;try dsimp only at H
           by_cases c13:auQ=true
           ·subst c13;rw [if_pos rfl] at H;(try dsimp only at H);replace H:=zO H;obtain ⟨ak9,A14,H⟩:=H;try dsimp only at H
            by_cases c15:ahU.length < 17592186044416
            ·rw [if_pos c15] at H;have arB:=aj.mk c15;clear c15;obtain ⟨azi,ajT⟩:∃ y_:List Int,y_=(ahU ++ [ak9]):=⟨_,rfl⟩;replace H:(dh.l2 k3 a0 a1 a2 a3 (wrap64 (o7+1)) jQ azi)=some (r1,r2):=(by first|(rw [ajT];with_reducible exact H)|(have H2_:=(Option.bind_some _ _).symm.trans H;rw [ajT];with_reducible exact H2_)|(have H2_:=(Option.bind_some _ _).symm.trans H;with_reducible exact H2_)|with_reducible exact H|(rw [ajT];exact H)|exact H);have aBH:=aj.mk ajT;clear ajT;have H':=aj.mk H;clear H;go_wp2_with (first|((with_reducible refine ay (f:=140) rfl ?_);refine aH (some 48) rfl rfl Tryz.func140 (by kernel_rfl) rfl #[.int .i64 a0,.int .i64 a1,.int .i64 a2,.int .i64 a3,.int .i64 o7] rfl zL ?_;(with_reducible refine (jJ.calls a0 a1 a2 a3 o7 true _ A12.out).mono ?_);rintro e w' ⟨rfl,⟨nd,rfl⟩⟩;refine ⟨_,rfl,?_⟩)|((with_reducible refine ay (f:=141) rfl ?_);refine aH (some 55) rfl rfl Tryz.func141 (by kernel_rfl) rfl #[.int .i64 a0,.int .i64 a1,.int .i64 a2,.int .i64 a3,.int .i64 o7] rfl zL ?_;(with_reducible refine (nI.calls k3 a0 a1 a2 a3 o7 ak9 _ A14.out).mono ?_);rintro e w16 ⟨rfl,hb⟩;refine ⟨_,rfl,?_⟩;obtain ⟨ane,HB⟩:=zA2 (Kd.jE (by (with_reducible repeat (first|apply Kd.aJ|apply Kd.aN|apply Kd.aV));exact ane.out) hb) (ak zB hb);(try clear hb))|((with_reducible refine kR (b := .append) (xs := #[.tmp 49,.tmp 56]) rfl ?_);at_builtin;refine Kd.lU (Kd.int .i64) (w0:=w) w.heap.size rfl (.tmp 49) (.tmp 56) 44 2 (.int .i64 0) 8 rfl Tryz.underlying44 yD rfl (by decide) (by omega) u12 ahU ak9 [.int .i64 ak9] (fun _=>True) (fun _=>False) rfl rfl ?aP (fun _ hk=>hk.elim) ?aF ?aO ?aB ?aS ?aL ?_;(case aP=>exact rfl);(case aB=>exact zB);(case aF=>exact (fun _ _=>trivial));(case aO=>exact (by (with_reducible repeat (first|apply Kd.aJ|apply Kd.aN|apply Kd.aV));exact ane.out));(case aS=>exact (bW zB));(case aL=>have:=arB.out;omega);intro aIH w17 ho hb hg hat;rw [← aBH.out] at ho;obtain ⟨HB,aBI⟩:=zA2 hb ho;clear ho hb hg hat));go_roundg k3
             case measure=>have:=HK1.out;have:=HK2.out;have:=HK3.out;omega
             case rel=>exact ⟨(wrap64 (o7+1)),(azi),zT,H',⟨by have:=HK1.out;have:=HK2.out;have:=HK3.out;omega⟩,⟨by (with_reducible repeat (first|apply Kd.aJ|apply Kd.aN|apply Kd.aV));exact aBI.out⟩,⟨zB⟩⟩
            ·rw [if_neg c15] at H;exact absurd H (by simp)
           ·replace c13:=Bool.eq_false_iff.mpr c13;subst c13;rw [if_neg (show ¬ (false=true) by decide)] at H;(try dsimp only at H);simp only [Option.some.injEq,Prod.mk.injEq] at H;obtain ⟨rfl,rfl⟩:=H;go_wp2_with (first|((with_reducible refine ay (f:=140) rfl ?_);refine aH (some 48) rfl rfl Tryz.func140 (by kernel_rfl) rfl #[.int .i64 a0,.int .i64 a1,.int .i64 a2,.int .i64 a3,.int .i64 o7] rfl zL ?_;(with_reducible refine (jJ.calls a0 a1 a2 a3 o7 false _ A12.out).mono ?_);rintro e w' ⟨rfl,⟨nd,rfl⟩⟩;refine ⟨_,rfl,?_⟩));go_ret2;exact ⟨_,zS,by (with_reducible repeat (first|apply Kd.aJ|apply Kd.aN|apply Kd.aV));exact ane.out,zB⟩
        ·replace c11:=Bool.eq_false_iff.mpr c11;subst c11;rw [if_neg (show ¬ (false=true) by decide)] at H;(try dsimp only at H);have H':=aj.mk H;clear H;go_wp2_with (first|((with_reducible refine ay (f:=140) rfl ?_);refine aH (some 38) rfl rfl Tryz.func140 (by kernel_rfl) rfl #[.int .i64 a0,.int .i64 a1,.int .i64 a2,.int .i64 a3,.int .i64 jQ] rfl zL ?_;(with_reducible refine (jJ.calls a0 a1 a2 a3 jQ false _ A10.out).mono ?_);rintro e w' ⟨rfl,⟨nd,rfl⟩⟩;refine ⟨_,rfl,?_⟩));go_roundg k2
         case measure=>have:=HK1.out;have:=HK2.out;omega
         case rel=>exact ⟨(wrap64 (jQ+1)),zT,H',⟨by have:=HK1.out;have:=HK2.out;omega⟩,⟨zB⟩⟩
 ·replace c6:=Bool.eq_false_iff.mpr c6;subst c6;rw [if_neg (show ¬ (false=true) by decide)] at H;(try dsimp only at H);simp only [Option.some.injEq,Prod.mk.injEq] at H;obtain ⟨rfl,rfl⟩:=H;go_enter Tryz.func114,Tryz.ntmps114;go_wp2_with (first|((with_reducible refine ay (f:=139) rfl ?_);refine aH (some 17) rfl rfl Tryz.func139 (by kernel_rfl) rfl #[.int .i64 a0,.int .i64 a1,.int .i64 a2,.int .i64 a3] rfl zL ?_;(with_reducible refine (mW.calls a0 a1 a2 a3 false _ A5.out).mono ?_);rintro e w' ⟨rfl,⟨nd,rfl⟩⟩;refine ⟨_,rfl,?_⟩));go_ret2;exact ⟨_,zS,by first|exact Kd.kQ _ _ _ _ _|exact Kd.qM _ _ _ _ _|exact Kd.oU _ _ _ _ _|exact Kd.qN _ _ _ _ _|exact Kd.qo _ _ _ _ _,zB⟩
def jl.f (a0:Int):Option (Int):=if a0≥0 then (some a0) else (if a0 < (-9223372036854775807) then (some 9223372036854775807) else (some (wrap64 (-a0))))
theorem jl.calls (a0 r:Int) (w:World) (h:jl.f a0=some r) :
  Calls Tryz.prog 142 #[.int .i64 a0] w fun e w'=>e = .returned (.int .i64 r)∧dA w w':=by
 have H:=h;clear h;unfold jl.f at H;by_cases c2:a0≥0
 ·rw [if_pos c2] at H;have oL:=decide_eq_true c2;clear c2;obtain rfl:=Option.some.inj H;go_enter Tryz.func142,Tryz.ntmps142;go_wp2;go_ret;exact ⟨zT,zW⟩
 ·rw [if_neg c2] at H;have oL:=decide_eq_false c2;clear c2;by_cases c3:a0 < (-9223372036854775807)
  ·rw [if_pos c3] at H;have fV:=decide_eq_true c3;clear c3;obtain rfl:=Option.some.inj H;go_enter Tryz.func142,Tryz.ntmps142;go_wp2;go_ret;exact ⟨zT,zW⟩
  ·rw [if_neg c3] at H;have fV:=decide_eq_false c3;clear c3;obtain rfl:=Option.some.inj H;go_enter Tryz.func142,Tryz.ntmps142;go_wp2;go_ret;exact ⟨zT,zW⟩
def iL.j0:Nat→Int→Int→Bool→Option (Int)
 | 0,_,_,_=>none
 | k+1,x0,x1,x12=>if x12=true then (some 9223372036854775807) else (if x1 < 0 then (if x0 < (wrap64 ((-9223372036854775808) - x1)) then (some (-9223372036854775808)) else (some (wrap64 (x0+x1)))) else (some (wrap64 (x0+x1))))
def iL.f (k:Nat) (a0 a1:Int):Option (Int):=if a1 > 0 then (iL.j0 k a0 a1 (decide (a0 > (wrap64 (9223372036854775807 - a1))))) else (iL.j0 k a0 a1 false)
theorem iL.calls (k:Nat) (a0 a1 r:Int) (w:World) (h:iL.f k a0 a1=some r) :
  Calls Tryz.prog 147 #[.int .i64 a0,.int .i64 a1] w fun e w'=>e = .returned (.int .i64 r)∧dA w w':=by
 have H:=h;clear h;unfold iL.f at H;have HC3:=aj.mk H;clear H;go_enter Tryz.func147,Tryz.ntmps147;go_upto_region 1 with (fail);go_cut [12] (fun v12 wc=>∃ (kq:Nat) (anf:Bool),v12 = .bool anf∧aj (iL.j0 kq a0 a1 anf=some r)∧aj (kq≤k)∧dA w wc)
 case first =>
  have H:=HC3.out;clear HC3;by_cases c4:a1 > 0
  ·rw [if_pos c4] at H;have fH:=decide_eq_true c4;clear c4
   (first|rw [fH]|(simp only [bP,bU];rw [fH])|skip)
   have H':=aj.mk H;clear H;go_wp2;go_meet
   case rel=>exact ⟨_,(decide (a0 > (wrap64 (9223372036854775807 - a1)))),zT,H',⟨by first|omega|exact Nat.le_refl _⟩,zW⟩
  ·rw [if_neg c4] at H;have fH:=decide_eq_false c4;clear c4
   (first|rw [fH]|(simp only [bP,bU];rw [fH])|skip)
   have H':=aj.mk H;clear H;go_wp2;go_meet
   case rel=>exact ⟨_,(false),zT,H',⟨by first|omega|exact Nat.le_refl _⟩,zW⟩
 case rest =>
  clear HC3;obtain ⟨kq,anf,rfl,HA,HJ2,⟨mc2,rfl⟩⟩:=hcut;cases kq with
  | zero=>exact absurd HA.out (by simp [iL.j0])
  | succ kj2 =>
   have H:=HA.out;clear HA;simp only [iL.j0] at H;by_cases c5:anf=true
   ·subst c5;rw [if_pos rfl] at H;(try dsimp only at H);obtain rfl:=Option.some.inj H;go_wp2;go_ret;exact ⟨zT,zW⟩
   ·replace c5:=Bool.eq_false_iff.mpr c5;subst c5;rw [if_neg (show ¬ (false=true) by decide)] at H;(try dsimp only at H);by_cases c6:a1 < 0
    ·rw [if_pos c6] at H;have gI:=decide_eq_true c6;clear c6;by_cases c7:a0 < (wrap64 ((-9223372036854775808) - a1))
     ·rw [if_pos c7] at H;have jr:=decide_eq_true c7;clear c7;obtain rfl:=Option.some.inj H;go_wp2;go_ret;exact ⟨zT,zW⟩
     ·rw [if_neg c7] at H;have jr:=decide_eq_false c7;clear c7;obtain rfl:=Option.some.inj H;go_wp2;go_ret;exact ⟨zT,zW⟩
    ·rw [if_neg c6] at H;have gI:=decide_eq_false c6;clear c6;obtain rfl:=Option.some.inj H;go_wp2;go_ret;exact ⟨zT,zW⟩
def fO.l0:Nat→Int→List Int→Int→Int→Option (Int)
 | 0,_,_,_,_=>none
 | k+1,x3,x6,x7,x8=>if x8 < x7 then (if 0≤x8 then (if x8 < (x6.length:Int) then ((iL.f k x3 (rd x6 x8)).bind fun arC=>(fO.l0 k arC x6 x7 (wrap64 (x8+1)))) else (none)) else (none)) else (some x3)
def fO.f (k:Nat) (l0:List Int):Option (Int):=fO.l0 k 0 l0 (l0.length:Int) 0
theorem fO.calls (k:Nat) (A0:Option Addr) (c0:Nat) (l0:List Int) (r:Int) (w:World) (hr0:Kd.C (Kd.int .i64) w A0 l0.length l0) (hc0:l0.length≤c0) (h:fO.f k l0=some r) :
  Calls Tryz.prog 143 #[.slice A0 l0.length c0] w fun e w'=>e = .returned (.int .i64 r)∧dA w w':=by
 have HR0:=aj.mk hr0;have HC0:=aj.mk hc0;clear hr0 hc0;have H:=h;clear h;unfold fO.f at H;have H':=aj.mk H;clear H;go_enter Tryz.func143,Tryz.ntmps143;go_wp2;go_loopg [3,8] k (fun kq v3 v8 w'=>∃ (qj:Int) (iR:Int),v3 = .int .i64 qj∧v8 = .int .i64 iR∧aj (fO.l0 kq qj l0 (l0.length:Int) iR=some r)∧aj (kq≤k)∧dA w w')
 case atStart=>exact ⟨(0),(0),zT,zT,H',⟨Nat.le_refl _⟩,zW⟩
 case round =>
  clear H';obtain ⟨qj,iR,rfl,rfl,HA,HK1,⟨m1,rfl⟩⟩:=hrel;cases gk with
  | zero=>exact absurd HA.out (by simp [fO.l0])
  | succ k1 =>
   have H:=HA.out;clear HA;simp only [fO.l0] at H;by_cases c2:iR < (l0.length:Int)
   ·rw [if_pos c2] at H;have oL:=decide_eq_true c2;clear c2;by_cases c3:0≤iR
    ·rw [if_pos c3] at H;have fV:=decide_eq_true c3;clear c3;by_cases c4:iR < (l0.length:Int)
     ·rw [if_pos c4] at H;have fH:=decide_eq_true c4;clear c4;replace H:=zO H;obtain ⟨arC,A5,H⟩:=H;try dsimp only at H
      have H':=aj.mk H;clear H;have auS:0≤(iR:Int):=of_decide_eq_true (by first|(with_reducible assumption)|assumption);have auT:iR < (l0.length:Int):=of_decide_eq_true (by first|(with_reducible assumption)|assumption);obtain ⟨aHC,aC7,aE8⟩:=Kd.iY HR0.out iR auS auT;cases aC7;replace auS:=eq_true auS;replace auT:=eq_true auT;go_wp2_with (first|((with_reducible refine ay (f:=147) rfl ?_);refine aH (some 14) rfl rfl Tryz.func147 (by kernel_rfl) rfl #[.int .i64 qj,.int .i64 (rd l0 iR)] rfl zL ?_;(with_reducible refine (iL.calls k1 qj (rd l0 iR) arC _ A5.out).mono ?_);rintro e w' ⟨rfl,⟨nd,rfl⟩⟩;refine ⟨_,rfl,?_⟩));go_roundg k1
      case measure=>have:=HK1.out;omega
      case rel=>exact ⟨(arC),(wrap64 (iR+1)),zT,zT,H',⟨by have:=HK1.out;omega⟩,zW⟩
     ·rw [if_neg c4] at H;exact absurd H (by simp)
    ·rw [if_neg c3] at H;exact absurd H (by simp)
   ·rw [if_neg c2] at H;have oL:=decide_eq_false c2;clear c2;obtain rfl:=Option.some.inj H;go_wp2;go_ret;exact ⟨zT,zW⟩
end Go.Proofs.YtpondkggmcmpfaaGreatDoor.QA
