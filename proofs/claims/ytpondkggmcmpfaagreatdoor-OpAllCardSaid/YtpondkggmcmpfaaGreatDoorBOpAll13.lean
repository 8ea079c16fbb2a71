/- Joined by wip/tools/bundle.py out of: QAx28 QAx29 QAx30 QAx31 QAx32 QAx33 QAx34. -/
import Derived.Test.YtpondkggmcmpfaaGreatDoorBOpAll0
import Derived.Test.YtpondkggmcmpfaaGreatDoorBOpAll1
import Derived.Test.YtpondkggmcmpfaaGreatDoorBOpAll7
import Derived.Test.YtpondkggmcmpfaaGreatDoorBOpAll12
namespace Go.Proofs.YtpondkggmcmpfaaGreatDoor.QA
open Go.Proofs.YtpondkggmcmpfaaGreatDoor.T
open Go.RowKit Go.Proofs.YtpondkggmcmpfaaGreatDoorW.PrintWords Go.Proofs.YtpondkggmcmpfaaGreatDoorW.PrintLast Go.Proofs.YtpondkggmcmpfaaGreatDoorW.PrintMore
attribute [local go_sem] dZ dS dU fK fM
set_option linter.unusedVariables false
set_option linter.unusedSimpArgs false
mutual
def aI.l0:Nat→Int→Int→Int→Int→Int→Int→Option (Int)
 | 0,_,_,_,_,_,_=>none
 | k+1,x0,x1,x20,x21,qG,qH=>if x21 < x20 then ((dG.f qG qH 0).bind fun aqy=>(aI.l0 k x0 x1 x20 (wrap64 (x21+1)) aqy.1 aqy.2)) else ((dI.f x0).bind fun sK=>(aI.l1 k x0 x1 127 qG qH 0 sK 0 0))
def aI.l1:Nat→Int→Int→Int→Int→Int→Int→Int→Int→Int→Option (Int)
 | 0,_,_,_,_,_,_,_,_,_=>none
 | k+1,x0,x1,x8,qG,qH,tC,tH,qI,qJ=>if x8≥x1 then ((fA.f tC tH x8).bind fun ajU=>((dG.f qI qJ ajU).bind fun aqz=>(aI.l1 k x0 x1 (wrap64 (x8 - 1)) qG qH tC tH aqz.1 aqz.2))) else (aI.l2 k x0 x1 qG qH tC tH qI qJ tC tH)
def aI.l2:Nat→Int→Int→Int→Int→Int→Int→Int→Int→Int→Int→Option (Int)
 | 0,_,_,_,_,_,_,_,_,_,_=>none
 | k+1,x0,x10,qG,qH,tC,tH,qI,qJ,zQ,zU=>if x10 < 128 then ((fA.f tC tH x10).bind fun acZ=>(if acZ=1 then (aI.l3 k x0 x10 x10 0 qG qH tC tH qI qJ zQ zU 0 1) else (aI.l2 k x0 (wrap64 (x10+1)) qG qH tC tH qI qJ zQ zU))) else ((gU.f zQ zU qG qH).bind fun amm=>(if x0 < 0 then ((gU.f qG qH zQ zU).bind fun amn=>(aI.j4 k x0 amn qI qJ)) else (aI.j4 k x0 (!amm) qI qJ)))
def aI.l3:Nat→Int→Int→Int→Int→Int→Int→Int→Int→Int→Int→Int→Int→Int→Int→Option (Int)
 | 0,_,_,_,_,_,_,_,_,_,_,_,_,_,_=>none
 | k+1,x0,x10,x51,x52,qG,qH,tC,tH,qI,qJ,zQ,zU,alv,alx=>if x52 < x51 then ((dG.f alv alx 0).bind fun aqA=>(aI.l3 k x0 x10 x51 (wrap64 (x52+1)) qG qH tC tH qI qJ zQ zU aqA.1 aqA.2)) else ((jS.f zQ zU alv alx).bind fun aqB=>(aI.l2 k x0 (wrap64 (x10+1)) qG qH tC tH qI qJ aqB.1 aqB.2))
def aI.j4:Nat→Int→Bool→Int→Int→Option (Int)
 | 0,_,_,_,_=>none
 | k+1,x0,x12,qI,qJ=>if x12=true then ((gy.f qI qJ 0 1).bind fun aqC=>((bT.f k aqC.1 aqC.2 (decide (x0 < 0))).bind fun aoH=>(some aoH))) else ((bT.f k qI qJ (decide (x0 < 0))).bind fun aoI=>(some aoI))
end
def aI.f (k:Nat) (a0 a1:Int):Option (Int):=if a1 < 1 then (some a0) else (if a1 > 64 then (some 0) else (aI.l0 k a0 a1 (wrap64 (a1 - 1)) 0 0 1))
set_option maxHeartbeats 8000000 in
set_option maxRecDepth 100000 in
theorem aI.calls (k:Nat) (a0 a1 r:Int) (w:World) (h:aI.f k a0 a1=some r) :
  Calls Tryz.prog 101 #[.int .i64 a0,.int .i64 a1] w fun e w'=>e = .returned (.int .i64 r)∧Below w.heap.size w w':=by
 have xC:=Tryz.underlying179
 have HB:=aj.mk (Below.refl w.heap.size w)
 have H:=h
 clear h
 unfold aI.f at H
 by_cases c3:a1 < 1
 ·rw [if_pos c3] at H
  have fP:=decide_eq_true c3
  clear c3
  obtain rfl:=Option.some.inj H
  go_enter Tryz.func101,Tryz.ntmps101
  go_wp2
  go_ret
  exact ⟨zS,zB⟩
 ·rw [if_neg c3] at H
  have fP:=decide_eq_false c3
  clear c3
  by_cases c4:a1 > 64
  ·rw [if_pos c4] at H
   have fE:=decide_eq_true c4
   clear c4
   obtain rfl:=Option.some.inj H
   go_enter Tryz.func101,Tryz.ntmps101
   go_wp2
   go_ret
   exact ⟨zS,zB⟩
  ·rw [if_neg c4] at H
   have fE:=decide_eq_false c4
   clear c4
   have H':=aj.mk H
   clear H
   go_enter Tryz.func101,Tryz.ntmps101
   go_wp2_with (first|((with_reducible refine bD (N:=5) rfl ?_);refine bC zR (N:=5) zR (cs := #[.int .u64 0,.int .u64 0]) (t:=179) zG ?_;intro aeP hg w5 hbox hb;obtain ⟨HB,dP,ayM,ayN⟩:=zA4 (ak zB hb) hbox (zg hg zB) (zg hg zB);clear hb hbox hg;obtain ⟨_,_⟩:=zC2 dP.out;obtain ⟨_,_⟩:=zF2 dP.out))
   go_loopg [21] k (fun kq v21 w'=>∃ (vK:Int) (jQ:Int) (jJ:Int),v21 = .int .i64 vK∧aj (aI.l0 kq a0 a1 (wrap64 (a1 - 1)) vK jQ jJ=some r)∧aj (kq≤k)∧aj (w'.heap[aeP]? = some (.cells #[.int .u64 jQ,.int .u64 jJ] 179 (0,0)))∧aj (Below w.heap.size w w'))
   case atStart=>exact ⟨(0),(0),(1),zT,H',⟨Nat.le_refl _⟩,⟨by refine zD ?_;refine aW (cs := #[.int .u64 0,.int .u64 0]) ?_ 1 _ rfl;refine zD ?_;refine aW (cs := #[.int .u64 0,.int .u64 0]) ?_ 0 _ rfl;refine zD ?_;exact dP.out⟩,⟨zB⟩⟩
   case round =>
    clear H'
    obtain ⟨vK,jQ,jJ,rfl,HA,HK1,dP,HB⟩:=hrel
    cases gk with
    | zero=>exact absurd HA.out (by simp [aI.l0])
    | succ k1 =>
     have H:=HA.out
     clear HA
     simp only [aI.l0] at H
     by_cases c7:vK < (wrap64 (a1 - 1))
     ·rw [if_pos c7] at H
      have jc:=decide_eq_true c7
      clear c7
      replace H:=zO H
      obtain ⟨⟨aoJ,asl⟩,A8,H⟩:=H
      try dsimp only at H
      have H':=aj.mk H
      clear H
      obtain ⟨_,_⟩:=zC2 dP.out
      obtain ⟨_,_⟩:=zF2 dP.out
      go_wp2_with (first|((with_reducible refine ay (f:=119) rfl ?_);refine aH (some 24) rfl rfl Tryz.func119 (by kernel_rfl) rfl #[.agg #[.int .u64 jQ,.int .u64 jJ],.int .u64 0] rfl zL ?_;(with_reducible refine (dG.calls jQ jJ 0 aoJ asl _ A8.out).mono ?_);rintro e w10 ⟨rfl,hb⟩;refine ⟨_,rfl,?_⟩;obtain ⟨dP,HB⟩:=zA2 (aA (zK dP) hb) (ak zB hb);(try clear hb);obtain ⟨_,_⟩:=zC2 dP.out;obtain ⟨_,_⟩:=zF2 dP.out))
      go_roundg k1
      case measure=>have:=HK1.out;omega
      case rel=>exact ⟨(wrap64 (vK+1)),(aoJ),(asl),zT,H',⟨by have:=HK1.out;omega⟩,⟨by refine zD ?_;refine aW (cs := #[.int .u64 aoJ,.int .u64 jJ]) ?_ 1 _ rfl;refine zD ?_;refine aW (cs := #[.int .u64 jQ,.int .u64 jJ]) ?_ 0 _ rfl;refine zD ?_;exact dP.out⟩,⟨zB⟩⟩
     ·rw [if_neg c7] at H
      have jc:=decide_eq_false c7
      clear c7
      replace H:=zO H
      obtain ⟨sK,A12,H⟩:=H
      try dsimp only at H
      have H':=aj.mk H
      clear H
      go_wp2_with (first|((with_reducible refine ay (f:=120) rfl ?_);refine aH (some 27) rfl rfl Tryz.func120 (by kernel_rfl) rfl #[.int .i64 a0] rfl zL ?_;(with_reducible refine (dI.calls a0 sK _ A12.out).mono ?_);rintro e w' ⟨rfl,⟨nd,rfl⟩⟩;refine ⟨_,rfl,?_⟩;(try (rw [nX wr];generalize hq_:World.drewN wr _=wr;have n0_:aj (wr.heap[aeP]? = some (.cells #[.int .u64 jQ,.int .u64 jJ] 179 (0,0))):=⟨by rw [← hq_];exact (zK dP)⟩;have n1_:aj (Below w.heap.size w wr):=⟨by rw [← hq_];exact zB⟩;clear dP HB hq_;have dP:=n0_;have HB:=n1_;clear n0_ n1_)))|((with_reducible refine bD (N:=6) rfl ?_);refine bC zR (N:=6) zR (cs := #[.int .u64 0,.int .u64 0]) (t:=179) zG ?_;intro yM hg w13 hbox hb;obtain ⟨dP,HB,fB,ayO,ayP,xX,xY⟩:=zA7 (aA (zK dP) hb) (ak zB hb) hbox (zg hg zB) (zg hg zB) (zl hg (zK dP)) (zr hg (zK dP));clear hb hbox hg;have aqj:=xY.out;have aqk:=xX.out;obtain ⟨_,_⟩:=zC2 fB.out;obtain ⟨_,_⟩:=zF2 fB.out)|((with_reducible refine bD (N:=7) rfl ?_);refine bC zR (N:=7) zR (cs := #[.int .u64 0,.int .u64 0]) (t:=179) zG ?_;intro yN hg w16 hbox hb;obtain ⟨dP,fB,HB,fC,ayQ,ayR,vZ,wu,ug,uh⟩:=adA (aA (zK dP) hb) (aA (g:=yM) (o := .cells #[.int .u64 0,.int .u64 sK] 179 (0,0)) (by refine zD ?_;refine aW (cs := #[.int .u64 0,.int .u64 0]) ?_ 1 _ rfl;refine zD ?_;refine aW (cs := #[.int .u64 0,.int .u64 0]) ?_ 0 _ rfl;refine zD ?_;exact fB.out) hb) (ak zB hb) hbox (zg hg zB) (zg hg zB) (zl hg (zK dP)) (zr hg (zK dP)) ((by rw [hg];exact Nat.ne_of_lt (eF (g:=yM) (o := .cells #[.int .u64 0,.int .u64 sK] 179 (0,0)) (by refine zD ?_;refine aW (cs := #[.int .u64 0,.int .u64 0]) ?_ 1 _ rfl;refine zD ?_;refine aW (cs := #[.int .u64 0,.int .u64 0]) ?_ 0 _ rfl;refine zD ?_;exact fB.out)):yM≠yN)) ((by rw [hg];exact Nat.ne_of_gt (eF (g:=yM) (o := .cells #[.int .u64 0,.int .u64 sK] 179 (0,0)) (by refine zD ?_;refine aW (cs := #[.int .u64 0,.int .u64 0]) ?_ 1 _ rfl;refine zD ?_;refine aW (cs := #[.int .u64 0,.int .u64 0]) ?_ 0 _ rfl;refine zD ?_;exact fB.out)):yN≠yM));clear hb hbox hg;have auo:=wu.out;have aup:=vZ.out;have ayS:=uh.out;have ayT:=ug.out;obtain ⟨_,_⟩:=zC2 fC.out;obtain ⟨_,_⟩:=zF2 fC.out))
      try simp only [Act.put,List.setIfInBounds_toArray,List.set_cons_succ,List.set_cons_zero]
      go_loopg [8] k1 (fun kq v8 w'=>∃ (kZ:Int) (jK:Int) (jg:Int),v8 = .int .i64 kZ∧aj (aI.l1 kq a0 a1 kZ jQ jJ 0 sK jK jg=some r)∧aj (kq≤k1)∧aj (w'.heap[aeP]? = some (.cells #[.int .u64 jQ,.int .u64 jJ] 179 (0,0)))∧aj (w'.heap[yM]? = some (.cells #[.int .u64 0,.int .u64 sK] 179 (0,0)))∧aj (w'.heap[yN]? = some (.cells #[.int .u64 jK,.int .u64 jg] 179 (0,0)))∧aj (Below w.heap.size w w'))
      case atStart=>exact ⟨(127),(0),(0),zT,H',⟨Nat.le_refl _⟩,⟨zK dP⟩,⟨zK fB⟩,⟨by refine zD ?_;refine aW (cs := #[.int .u64 0,.int .u64 0]) ?_ 1 _ rfl;refine zD ?_;refine aW (cs := #[.int .u64 0,.int .u64 0]) ?_ 0 _ rfl;refine zD ?_;exact fC.out⟩,⟨zB⟩⟩
      case round =>
       clear H'
       obtain ⟨kZ,jK,jg,rfl,HA,HK2,dP,fB,fC,HB⟩:=hrel
       cases gk with
       | zero=>exact absurd HA.out (by simp [aI.l1])
       | succ k2 =>
        have H:=HA.out
        clear HA
        simp only [aI.l1] at H
        by_cases c20:kZ≥a1
        ·rw [if_pos c20] at H
         have aur:=decide_eq_true c20
         clear c20
         replace H:=zO H
         obtain ⟨ajU,A21,H⟩:=H
         try dsimp only at H
         replace H:=zO H
         obtain ⟨⟨aoK,asn⟩,A22,H⟩:=H
         try dsimp only at H
         have H':=aj.mk H
         clear H
         try go_wp2
         obtain ⟨dP,fB,fC,HB⟩:=zA4 (jY dP.out) (jY fB.out) (jY fC.out) (dA HB.out)
         refine acs (n:=6) (S:=fun w'=>w'.cell? ⟨yN,0,none⟩=some (.int .u64 jK)∧w'.cell? ⟨yN,1,none⟩=some (.int .u64 jg)∧w'.cell? ⟨yM,0,none⟩=some (.int .u64 0)∧w'.cell? ⟨yM,1,none⟩=some (.int .u64 sK)) (ds:=[5]) #[false,false,false,false,false,false] (by kernel_rfl) rfl rfl ⟨(au fC.out 0).trans rfl,(au fC.out 1).trans rfl,(au fB.out 0).trans rfl,(au fB.out 1).trans rfl⟩ (fun hHeld => ?_)
         generalize wr.drew=w23 at dP fB fC HB hHeld ⊢
         refine xw (i:=2) (N:=some 37) (v := ?_) (a' := ?_) #[false,false,true,false,false,false] rfl rfl (by kernel_rfl) (fun _ _ _ h=>h) (Or.inl ⟨by rfl,?_⟩) ?_ ?_
         rotate_left
         ·intro w'
          go_simp
          with_reducible rfl
         rotate_left
         ·simp only [Act.put,List.setIfInBounds_toArray,List.set_cons_zero,List.set_cons_succ,bY,cZ]
          rfl
         refine yw (i:=0) (N:=some 35) (v := ?_) (a' := ?_) #[true,false,true,false,false,false] rfl rfl (by kernel_rfl) (fun _ _ _ h=>h) (Or.inl ⟨by rfl,?_⟩) hHeld ?_ ?_
         rotate_left
         ·rintro w' ⟨s0,s1,s2,s3⟩
          go_simp
          with_reducible rfl
         rotate_left
         ·simp only [Act.put,List.setIfInBounds_toArray,List.set_cons_zero,List.set_cons_succ,bY,cZ]
          rfl
         refine yw (i:=1) (N:=some 36) (v := ?_) (a' := ?_) #[true,true,true,false,false,false] rfl rfl (by kernel_rfl) (fun _ _ _ h=>h) (Or.inl ⟨by rfl,?_⟩) hHeld ?_ ?_
         rotate_left
         ·rintro w' ⟨s0,s1,s2,s3⟩
          go_simp
          with_reducible rfl
         rotate_left
         ·simp only [Act.put,List.setIfInBounds_toArray,List.set_cons_zero,List.set_cons_succ,bY,cZ]
          rfl
         refine aa7 (i:=3) (N:=some 38) #[true,true,true,true,false,false] rfl rfl (by kernel_rfl) (by decide) (fun K hK => ?_)
         refine aaf Tryz.func121 (by kernel_rfl) rfl #[.agg #[.int .u64 0,.int .u64 sK],.int .i64 kZ] (by rfl) rfl rfl zL ?_
         with_reducible refine (fA.calls 0 sK kZ ajU _ A21.out).mono ?_
         rintro e w24 ⟨rfl,hb⟩
         refine ⟨_,rfl,?_⟩
         obtain ⟨dP,fB,fC,HB⟩:=zA4 (aA (zK dP) hb) (aA (zK fB) hb) (aA (zK fC) hb) (ak zB hb)
         (try clear hb)
         (try clear hb2)
         (try clear hk)
         (try clear hi)
         refine hK.out _ _ ⟨(au fC.out 0).trans rfl,(au fC.out 1).trans rfl,(au fB.out 0).trans rfl,(au fB.out 1).trans rfl⟩ (fun hHeld => ?_)
         clear hK K
         refine aae (a' := ?_) ?_ ?_
         rotate_left
         ·show Act.put _ (some 38) _=_
          simp only [Act.put,List.setIfInBounds_toArray,List.set_cons_zero,List.set_cons_succ,bY,cZ]
          rfl
         refine aa7 (i:=4) (N:=some 39) #[true,true,true,true,true,false] rfl rfl (by kernel_rfl) (by decide) (fun K hK => ?_)
         refine aaf Tryz.func119 (by kernel_rfl) rfl #[.agg #[.int .u64 jK,.int .u64 jg],.int .u64 ajU] (by rfl) rfl rfl zL ?_
         with_reducible refine (dG.calls jK jg ajU aoK asn _ A22.out).mono ?_
         rintro e w25 ⟨rfl,hb⟩
         refine ⟨_,rfl,?_⟩
         obtain ⟨dP,fB,fC,HB⟩:=zA4 (aA (zK dP) hb) (aA (zK fB) hb) (aA (zK fC) hb) (ak zB hb)
         (try clear hb)
         (try clear hb2)
         (try clear hk)
         (try clear hi)
         refine hK.out _ _ ⟨(au fC.out 0).trans rfl,(au fC.out 1).trans rfl,(au fB.out 0).trans rfl,(au fB.out 1).trans rfl⟩ (fun hHeld => ?_)
         clear hK K
         refine aae (a' := ?_) ?_ ?_
         rotate_left
         ·show Act.put _ (some 39) _=_
          simp only [Act.put,List.setIfInBounds_toArray,List.set_cons_zero,List.set_cons_succ,bY,cZ]
          rfl
         refine aiP (i:=5) (N:=none) #[true,true,true,true,true,true] rfl rfl (by kernel_rfl) (by decide) (fun K hK => ?_)
         have aAK:w25.cell? ⟨yN,0,none⟩=some (.int .u64 jK):=(au fC.out 0).trans rfl
         have ayU:=bg fC.out 0
         have axr:=vZ.out
         have axt:=ug.out
         have axu:=wu.out
         have axv:=uh.out
         have aAL:w25.cell? ⟨yN,1,none⟩=some (.int .u64 jg):=(au fC.out 1).trans rfl
         have ayV:=bg fC.out 1
         have axw:=vZ.out
         have axx:=ug.out
         have axy:=wu.out
         have axz:=uh.out
         refine af6 (w1 := ?_) (by rfl) rfl ?_ ?_
         rotate_left
         ·go_simp
          rfl
         refine hK.out _ _ ?_
         clear hK K
         refine aeD (by kernel_rfl) ?_
         try go_wp2
         go_roundg k2
         case measure=>have:=HK1.out;have:=HK2.out;omega
         case rel=>exact ⟨(wrap64 (kZ - 1)),(aoK),(asn),zT,H',⟨by have:=HK1.out;have:=HK2.out;omega⟩,⟨zK dP⟩,⟨zK fB⟩,⟨by refine zD ?_;refine aW (cs := #[.int .u64 aoK,.int .u64 jg]) ?_ 1 _ rfl;refine zD ?_;refine aW (cs := #[.int .u64 jK,.int .u64 jg]) ?_ 0 _ rfl;refine zD ?_;exact fC.out⟩,⟨zB⟩⟩
        ·rw [if_neg c20] at H
         have aur:=decide_eq_false c20
         clear c20
         have H':=aj.mk H
         clear H
         have aus:=xY.out
         have aut:=xX.out
         have amf:=ug.out
         have amg:=uh.out
         obtain ⟨_,_⟩:=zC2 fB.out
         obtain ⟨_,_⟩:=zF2 fB.out
         go_wp2_with (first|((with_reducible refine bD (N:=9) rfl ?_);refine bC zR (N:=9) zR (cs := #[.int .u64 0,.int .u64 0]) (t:=179) zG ?_;intro amo hg w31 hbox hb;obtain ⟨dP,fB,fC,HB,iR,ayW,ayX,abT,abU,xZ,yc,yg,yh⟩:=afl (aA (zK dP) hb) (aA (zK fB) hb) (aA (zK fC) hb) (ak zB hb) hbox (zg hg zB) (zg hg zB) (zl hg (zK dP)) (zr hg (zK dP)) (zl hg (zK fB)) (zr hg (zK fB)) (zl hg (zK fC)) (zr hg (zK fC));clear hb hbox hg;have ayY:=abU.out;have ayZ:=abT.out;have auu:=yc.out;have auv:=xZ.out;have ay0:=yh.out;have ay1:=yg.out;obtain ⟨_,_⟩:=zC2 iR.out;obtain ⟨_,_⟩:=zF2 iR.out))
         try simp only [Act.put,List.setIfInBounds_toArray,List.set_cons_succ,List.set_cons_zero]
         go_loopg [10] k2 (fun kq v10 w'=>∃ (mY:Int) (mM:Int) (lH:Int),v10 = .int .i64 mY∧aj (aI.l2 kq a0 mY jQ jJ 0 sK jK jg mM lH=some r)∧aj (kq≤k2)∧aj (w'.heap[aeP]? = some (.cells #[.int .u64 jQ,.int .u64 jJ] 179 (0,0)))∧aj (w'.heap[yM]? = some (.cells #[.int .u64 0,.int .u64 sK] 179 (0,0)))∧aj (w'.heap[yN]? = some (.cells #[.int .u64 jK,.int .u64 jg] 179 (0,0)))∧aj (w'.heap[amo]? = some (.cells #[.int .u64 mM,.int .u64 lH] 179 (0,0)))∧aj (Below w.heap.size w w'))
         case atStart=>exact ⟨(a1),(0),(sK),zT,H',⟨Nat.le_refl _⟩,⟨zK dP⟩,⟨zK fB⟩,⟨zK fC⟩,⟨by refine zD ?_;refine aW (cs := #[.int .u64 0,.int .u64 0]) ?_ 1 _ rfl;refine zD ?_;refine aW (cs := #[.int .u64 0,.int .u64 0]) ?_ 0 _ rfl;refine zD ?_;exact iR.out⟩,⟨zB⟩⟩
         case round =>
          clear H'
          obtain ⟨mY,mM,lH,rfl,HA,HK3,dP,fB,fC,iR,HB⟩:=hrel
          cases gk with
          | zero=>exact absurd HA.out (by simp [aI.l2])
          | succ k3 =>
           have H:=HA.out
           clear HA
           simp only [aI.l2] at H
           by_cases c36:mY < 128
           ·rw [if_pos c36] at H
            have auw:=decide_eq_true c36
            clear c36
            replace H:=zO H
            obtain ⟨acZ,A37,H⟩:=H
            try dsimp only at H
            by_cases c38:acZ=1
            ·rw [if_pos c38] at H
             have ac0:(acZ == 1)=true:=beq_iff_eq.mpr c38
             have amq:(acZ != 1)=false:=bne_eq_false_iff_eq.mpr c38
             clear c38
             have H':=aj.mk H
             clear H
             have ay2:=xY.out
             have ay3:=xX.out
             have aqr:=ug.out
             have aqs:=uh.out
             have aud:=xZ.out
             have aue:=yc.out
             obtain ⟨_,_⟩:=zC2 fB.out
             obtain ⟨_,_⟩:=zF2 fB.out
             go_wp2_with (first|((with_reducible refine ay (f:=121) rfl ?_);refine aH (some 48) rfl rfl Tryz.func121 (by kernel_rfl) rfl #[.agg #[.int .u64 0,.int .u64 sK],.int .i64 mY] rfl zL ?_;(with_reducible refine (fA.calls 0 sK mY acZ _ A37.out).mono ?_);rintro e w43 ⟨rfl,hb⟩;refine ⟨_,rfl,?_⟩;obtain ⟨dP,fB,fC,iR,HB⟩:=zA5 (aA (zK dP) hb) (aA (zK fB) hb) (aA (zK fC) hb) (aA (zK iR) hb) (ak zB hb);(try clear hb))|((with_reducible refine bD (N:=11) rfl ?_);refine bC zR (N:=11) zR (cs := #[.int .u64 0,.int .u64 0]) (t:=179) zG ?_;intro auy hg w44 hbox hb;have n0_:=aj.mk (aA (zK dP) hb);have n1_:=aj.mk (aA (zK fB) hb);have n2_:=aj.mk (aA (zK fC) hb);have n3_:=aj.mk (aA (zK iR) hb);have n4_:=aj.mk (ak zB hb);have n5_:=aj.mk (hbox);have n6_:=aj.mk (zg hg zB);have n7_:=aj.mk (zg hg zB);have n8_:=aj.mk (zl hg (zK dP));have n9_:=aj.mk (zr hg (zK dP));have aso:=aj.mk (zl hg (zK fB));have asq:=aj.mk (zr hg (zK fB));have asr:=aj.mk (zl hg (zK fC));have asu:=aj.mk (zr hg (zK fC));have asv:=aj.mk (zl hg (zK iR));have asw:=aj.mk (zr hg (zK iR));clear dP;clear fB;clear fC;clear iR;clear HB;have dP:=n0_;have fB:=n1_;have fC:=n2_;have iR:=n3_;have HB:=n4_;have uG:=n5_;have ay4:=n6_;have ay5:=n7_;have ad3:=n8_;have ad4:=n9_;have ad5:=aso;have ad6:=asq;have ad7:=asr;have ad8:=asu;have ad9:=asv;have aea:=asw;clear n0_ n1_ n2_ n3_ n4_ n5_ n6_ n7_ n8_ n9_ aso asq asr asu asv asw;clear hb hbox hg;have ay6:=ad4.out;have ay7:=ad3.out;have aqt:=ad6.out;have aqu:=ad5.out;have auf:=ad8.out;have aug:=ad7.out;have ay8:=aea.out;have ay9:=ad9.out;obtain ⟨_,_⟩:=zC2 uG.out;obtain ⟨_,_⟩:=zF2 uG.out))
             try simp only [Act.put,List.setIfInBounds_toArray,List.set_cons_succ,List.set_cons_zero]
             go_loopg [52] k3 (fun kq v52 w'=>∃ (agt:Int) (uj:Int) (rU:Int),v52 = .int .i64 agt∧aj (aI.l3 kq a0 mY mY agt jQ jJ 0 sK jK jg mM lH uj rU=some r)∧aj (kq≤k3)∧aj (w'.heap[aeP]? = some (.cells #[.int .u64 jQ,.int .u64 jJ] 179 (0,0)))∧aj (w'.heap[yM]? = some (.cells #[.int .u64 0,.int .u64 sK] 179 (0,0)))∧aj (w'.heap[yN]? = some (.cells #[.int .u64 jK,.int .u64 jg] 179 (0,0)))∧aj (w'.heap[amo]? = some (.cells #[.int .u64 mM,.int .u64 lH] 179 (0,0)))∧aj (w'.heap[auy]? = some (.cells #[.int .u64 uj,.int .u64 rU] 179 (0,0)))∧aj (Below w.heap.size w w'))
             case atStart=>exact ⟨(0),(0),(1),zT,H',⟨Nat.le_refl _⟩,⟨zK dP⟩,⟨zK fB⟩,⟨zK fC⟩,⟨zK iR⟩,⟨by refine zD ?_;refine aW (cs := #[.int .u64 0,.int .u64 0]) ?_ 1 _ rfl;refine zD ?_;refine aW (cs := #[.int .u64 0,.int .u64 0]) ?_ 0 _ rfl;refine zD ?_;exact uG.out⟩,⟨zB⟩⟩
             case round =>
              clear H'
              obtain ⟨agt,uj,rU,rfl,HA,HK4,dP,fB,fC,iR,uG,HB⟩:=hrel
              cases gk with
              | zero=>exact absurd HA.out (by simp [aI.l3])
              | succ k4 =>
               have H:=HA.out
               clear HA
               simp only [aI.l3] at H
               by_cases c50:agt < mY
               ·rw [if_pos c50] at H
                have auz:=decide_eq_true c50
                clear c50
                replace H:=zO H
                obtain ⟨⟨aoL,asx⟩,A51,H⟩:=H
                try dsimp only at H
                have H':=aj.mk H
                clear H
                have auA:=ad4.out
                have auB:=ad3.out
                have aza:=ad6.out
                have azb:=ad5.out
                have azc:=ad8.out
                have azd:=ad7.out
                have aze:=aea.out
                have azf:=ad9.out
                obtain ⟨_,_⟩:=zC2 uG.out
                obtain ⟨_,_⟩:=zF2 uG.out
                go_wp2_with (first|((with_reducible refine ay (f:=119) rfl ?_);refine aH (some 55) rfl rfl Tryz.func119 (by kernel_rfl) rfl #[.agg #[.int .u64 uj,.int .u64 rU],.int .u64 0] rfl zL ?_;(with_reducible refine (dG.calls uj rU 0 aoL asx _ A51.out).mono ?_);rintro e w57 ⟨rfl,hb⟩;refine ⟨_,rfl,?_⟩;obtain ⟨dP,fB,fC,iR,uG,HB⟩:=zA6 (aA (zK dP) hb) (aA (zK fB) hb) (aA (zK fC) hb) (aA (zK iR) hb) (aA (zK uG) hb) (ak zB hb);(try clear hb);obtain ⟨_,_⟩:=zC2 uG.out;obtain ⟨_,_⟩:=zF2 uG.out))
                go_roundg k4
                case measure=>have:=HK1.out;have:=HK2.out;have:=HK3.out;have:=HK4.out;omega
                case rel=>exact ⟨(wrap64 (agt+1)),(aoL),(asx),zT,H',⟨by have:=HK1.out;have:=HK2.out;have:=HK3.out;have:=HK4.out;omega⟩,⟨zK dP⟩,⟨zK fB⟩,⟨zK fC⟩,⟨zK iR⟩,⟨by refine zD ?_;refine aW (cs := #[.int .u64 aoL,.int .u64 rU]) ?_ 1 _ rfl;refine zD ?_;refine aW (cs := #[.int .u64 uj,.int .u64 rU]) ?_ 0 _ rfl;refine zD ?_;exact uG.out⟩,⟨zB⟩⟩
               ·rw [if_neg c50] at H
                have auz:=decide_eq_false c50
                clear c50
                replace H:=zO H
                obtain ⟨⟨aoM,asy⟩,A59,H⟩:=H
                try dsimp only at H
                have H':=aj.mk H
                clear H
                have azg:=abU.out
                have azh:=abT.out
                have azi:=yc.out
                have azj:=xZ.out
                have auj:=yh.out
                have auk:=yg.out
                have aul:=ad9.out
                have aum:=aea.out
                obtain ⟨_,_⟩:=zC2 iR.out
                obtain ⟨_,_⟩:=zF2 iR.out
                have azk:=ad4.out
                have azl:=ad3.out
                have azm:=ad6.out
                have azn:=ad5.out
                have azo:=ad8.out
                have azp:=ad7.out
                obtain ⟨_,_⟩:=zC2 uG.out
                obtain ⟨_,_⟩:=zF2 uG.out
                go_wp2_with (first|((with_reducible refine ay (f:=122) rfl ?_);refine aH (some 59) rfl rfl Tryz.func122 (by kernel_rfl) rfl #[.agg #[.int .u64 mM,.int .u64 lH],.agg #[.int .u64 uj,.int .u64 rU]] rfl zL ?_;(with_reducible refine (jS.calls mM lH uj rU aoM asy _ A59.out).mono ?_);rintro e w69 ⟨rfl,hb⟩;refine ⟨_,rfl,?_⟩;obtain ⟨dP,fB,fC,iR,uG,HB⟩:=zA6 (aA (zK dP) hb) (aA (zK fB) hb) (aA (zK fC) hb) (aA (zK iR) hb) (aA (zK uG) hb) (ak zB hb);(try clear hb);obtain ⟨_,_⟩:=zC2 iR.out;obtain ⟨_,_⟩:=zF2 iR.out))
                go_roundg k4
                case measure=>have:=HK1.out;have:=HK2.out;have:=HK3.out;have:=HK4.out;omega
                case rel=>exact ⟨(wrap64 (mY+1)),(aoM),(asy),zT,H',⟨by have:=HK1.out;have:=HK2.out;have:=HK3.out;have:=HK4.out;omega⟩,⟨zK dP⟩,⟨zK fB⟩,⟨zK fC⟩,⟨by refine zD ?_;refine aW (cs := #[.int .u64 aoM,.int .u64 lH]) ?_ 1 _ rfl;refine zD ?_;refine aW (cs := #[.int .u64 mM,.int .u64 lH]) ?_ 0 _ rfl;refine zD ?_;exact iR.out⟩,⟨zB⟩⟩
            ·rw [if_neg c38] at H
             have ac0:(acZ == 1)=false:=beq_eq_false_iff_ne.mpr c38
             have amq:(acZ != 1)=true:=bne_iff_ne.mpr c38
             have H':=aj.mk H
             clear H
             have azq:=xY.out
             have azr:=xX.out
             have azs:=ug.out
             have azt:=uh.out
             have azu:=xZ.out
             have azv:=yc.out
             obtain ⟨_,_⟩:=zC2 fB.out
             obtain ⟨_,_⟩:=zF2 fB.out
             go_wp2_with (first|((with_reducible refine ay (f:=121) rfl ?_);refine aH (some 48) rfl rfl Tryz.func121 (by kernel_rfl) rfl #[.agg #[.int .u64 0,.int .u64 sK],.int .i64 mY] rfl zL ?_;(with_reducible refine (fA.calls 0 sK mY acZ _ A37.out).mono ?_);rintro e w75 ⟨rfl,hb⟩;refine ⟨_,rfl,?_⟩;obtain ⟨dP,fB,fC,iR,HB⟩:=zA5 (aA (zK dP) hb) (aA (zK fB) hb) (aA (zK fC) hb) (aA (zK iR) hb) (ak zB hb);(try clear hb)))
             go_roundg k3
             case measure=>have:=HK1.out;have:=HK2.out;have:=HK3.out;omega
             case rel=>exact ⟨(wrap64 (mY+1)),(mM),(lH),zT,H',⟨by have:=HK1.out;have:=HK2.out;have:=HK3.out;omega⟩,⟨zK dP⟩,⟨zK fB⟩,⟨zK fC⟩,⟨zK iR⟩,⟨zB⟩⟩
           ·rw [if_neg c36] at H
            have auw:=decide_eq_false c36
            clear c36
            replace H:=zO H
            obtain ⟨amm,A76,H⟩:=H
            try dsimp only at H
            have aoN:=aj.mk H
            clear H
            have azw:=abU.out
            have azx:=abT.out
            have azy:=yc.out
            have azz:=xZ.out
            have azA:=yh.out
            have azB:=yg.out
            obtain ⟨_,_⟩:=zC2 iR.out
            obtain ⟨_,_⟩:=zF2 iR.out
            have azC:=xX.out
            have azD:=xY.out
            have azE:=vZ.out
            have azF:=wu.out
            obtain ⟨_,_⟩:=zC2 dP.out
            obtain ⟨_,_⟩:=zF2 dP.out
            go_upto_if 65 with (first|((with_reducible refine ay (f:=123) rfl ?_);refine aH (some 62) rfl rfl Tryz.func123 (by kernel_rfl) rfl #[.agg #[.int .u64 mM,.int .u64 lH],.agg #[.int .u64 jQ,.int .u64 jJ]] rfl zL ?_;(with_reducible refine (gU.calls mM lH jQ jJ amm _ A76.out).mono ?_);rintro e w85 ⟨rfl,hb⟩;refine ⟨_,rfl,?_⟩;obtain ⟨dP,fB,fC,iR,HB⟩:=zA5 (aA (zK dP) hb) (aA (zK fB) hb) (aA (zK fC) hb) (aA (zK iR) hb) (ak zB hb);(try clear hb)))
            (try simp only [Act.put,List.setIfInBounds_toArray,List.set_cons_zero,List.set_cons_succ])
            go_cut [12] (fun v12 wc=>∃ (kq:Nat) (agu:Bool),v12 = .bool agu∧aj (aI.j4 kq a0 agu jK jg=some r)∧aj (kq≤k3)∧aj (wc.heap[aeP]? = some (.cells #[.int .u64 jQ,.int .u64 jJ] 179 (0,0)))∧aj (wc.heap[yM]? = some (.cells #[.int .u64 0,.int .u64 sK] 179 (0,0)))∧aj (wc.heap[yN]? = some (.cells #[.int .u64 jK,.int .u64 jg] 179 (0,0)))∧aj (wc.heap[amo]? = some (.cells #[.int .u64 mM,.int .u64 lH] 179 (0,0)))∧aj (Below w.heap.size w wc))
            case first =>
             have H:=aoN.out
             clear aoN
             by_cases c86:a0 < 0
             ·rw [if_pos c86] at H
              have agv:=decide_eq_true c86
              clear c86
              (first|rw [agv]|(simp only [bY,cZ];rw [agv])|skip)
              replace H:=zO H
              obtain ⟨amn,A87,H⟩:=H
              try dsimp only at H
              have H':=aj.mk H
              clear H
              have azG:=xX.out
              have azH:=xY.out
              have azI:=vZ.out
              have azJ:=wu.out
              have azK:=abT.out
              have azL:=abU.out
              obtain ⟨_,_⟩:=zC2 dP.out
              obtain ⟨_,_⟩:=zF2 dP.out
              have azM:=yc.out
              have azN:=xZ.out
              have azO:=yh.out
              have azP:=yg.out
              obtain ⟨_,_⟩:=zC2 iR.out
              obtain ⟨_,_⟩:=zF2 iR.out
              go_wp2_with (first|((with_reducible refine ay (f:=123) rfl ?_);refine aH (some 68) rfl rfl Tryz.func123 (by kernel_rfl) rfl #[.agg #[.int .u64 jQ,.int .u64 jJ],.agg #[.int .u64 mM,.int .u64 lH]] rfl zL ?_;(with_reducible refine (gU.calls jQ jJ mM lH amn _ A87.out).mono ?_);rintro e w95 ⟨rfl,hb⟩;refine ⟨_,rfl,?_⟩;obtain ⟨dP,fB,fC,iR,HB⟩:=zA5 (aA (zK dP) hb) (aA (zK fB) hb) (aA (zK fC) hb) (aA (zK iR) hb) (ak zB hb);(try clear hb)))
              go_meet
              case rel=>exact ⟨_,(amn),zT,H',⟨by have:=HK1.out;have:=HK2.out;have:=HK3.out;first|omega|exact Nat.le_refl _⟩,⟨zK dP⟩,⟨zK fB⟩,⟨zK fC⟩,⟨zK iR⟩,⟨zB⟩⟩
             ·rw [if_neg c86] at H
              have agv:=decide_eq_false c86
              clear c86
              (first|rw [agv]|(simp only [bY,cZ];rw [agv])|skip)
              have H':=aj.mk H
              clear H
              go_wp2
              go_meet
              case rel=>exact ⟨_,(!amm),zT,H',⟨by have:=HK1.out;have:=HK2.out;have:=HK3.out;first|omega|exact Nat.le_refl _⟩,⟨zK dP⟩,⟨zK fB⟩,⟨zK fC⟩,⟨zK iR⟩,⟨zB⟩⟩
            case rest =>
             clear aoN
             obtain ⟨kq,agu,rfl,HA,aAM,dP,fB,fC,iR,HB⟩:=hcut
             cases kq with
             | zero=>exact absurd HA.out (by simp [aI.j4])
             | succ asz =>
              have H:=HA.out
              clear HA
              simp only [aI.j4] at H
              by_cases c96:agu=true
              ·subst c96
               rw [if_pos rfl] at H;try dsimp only at H
               replace H:=zO H
               obtain ⟨⟨ajV,amr⟩,A97,H⟩:=H
               try dsimp only at H
               replace H:=zO H
               obtain ⟨aoH,A98,H⟩:=H
               try dsimp only at H
               obtain rfl:=Option.some.inj H
               have azQ:=wu.out
               have azR:=vZ.out
               have axG:=uh.out
               have axH:=ug.out
               have axI:=yg.out
               have axJ:=yh.out
               obtain ⟨_,_⟩:=zC2 fC.out
               obtain ⟨_,_⟩:=zF2 fC.out
               go_wp2_with (first|((with_reducible refine ay (f:=124) rfl ?_);refine aH (some 72) rfl rfl Tryz.func124 (by kernel_rfl) rfl #[.agg #[.int .u64 jK,.int .u64 jg],.agg #[.int .u64 0,.int .u64 1]] rfl zL ?_;(with_reducible refine (gy.calls jK jg 0 1 ajV amr _ A97.out).mono ?_);rintro e aAN ⟨rfl,hb⟩;refine ⟨_,rfl,?_⟩;obtain ⟨dP,fB,fC,iR,HB⟩:=zA5 (aA (zK dP) hb) (aA (zK fB) hb) (aA (zK fC) hb) (aA (zK iR) hb) (ak zB hb);(try clear hb);obtain ⟨_,_⟩:=zC2 fC.out;obtain ⟨_,_⟩:=zF2 fC.out)|((with_reducible refine ay (f:=125) rfl ?_);refine aH (some 76) rfl rfl Tryz.func125 (by kernel_rfl) rfl #[.agg #[.int .u64 ajV,.int .u64 amr],.bool (decide (a0 < 0))] rfl zL ?_;(with_reducible refine (bT.calls asz ajV amr (decide (a0 < 0)) aoH _ A98.out).mono ?_);rintro e aAO ⟨rfl,hb⟩;refine ⟨_,rfl,?_⟩;obtain ⟨dP,fB,fC,iR,HB⟩:=zA5 (aA (zK dP) hb) (aA (zK fB) hb) (aA (g:=yN) (o := .cells #[.int .u64 ajV,.int .u64 amr] 179 (0,0)) (by refine zD ?_;refine aW (cs := #[.int .u64 ajV,.int .u64 jg]) ?_ 1 _ rfl;refine zD ?_;refine aW (cs := #[.int .u64 jK,.int .u64 jg]) ?_ 0 _ rfl;refine zD ?_;exact fC.out) hb) (aA (zK iR) hb) (ak zB hb);(try clear hb)))
               go_ret
               exact ⟨zS,zB⟩
              ·replace c96:=Bool.eq_false_iff.mpr c96
               subst c96
               rw [if_neg (show ¬ (false=true) by decide)] at H;try dsimp only at H
               replace H:=zO H
               obtain ⟨aoI,avE,H⟩:=H
               try dsimp only at H
               obtain rfl:=Option.some.inj H
               have axK:=wu.out
               have axL:=vZ.out
               have axM:=uh.out
               have axN:=ug.out
               have axO:=yg.out
               have axP:=yh.out
               obtain ⟨_,_⟩:=zC2 fC.out
               obtain ⟨_,_⟩:=zF2 fC.out
               go_wp2_with (first|((with_reducible refine ay (f:=125) rfl ?_);refine aH (some 76) rfl rfl Tryz.func125 (by kernel_rfl) rfl #[.agg #[.int .u64 jK,.int .u64 jg],.bool (decide (a0 < 0))] rfl zL ?_;(with_reducible refine (bT.calls asz jK jg (decide (a0 < 0)) aoI _ avE.out).mono ?_);rintro e aAP ⟨rfl,hb⟩;refine ⟨_,rfl,?_⟩;obtain ⟨dP,fB,fC,iR,HB⟩:=zA5 (aA (zK dP) hb) (aA (zK fB) hb) (aA (zK fC) hb) (aA (zK iR) hb) (ak zB hb);(try clear hb)))
               go_ret
               exact ⟨zS,zB⟩
end Go.Proofs.YtpondkggmcmpfaaGreatDoor.QA
namespace Go.Proofs.YtpondkggmcmpfaaGreatDoor.QA
open Go.Proofs.YtpondkggmcmpfaaGreatDoor.T
open Go.RowKit Go.Proofs.YtpondkggmcmpfaaGreatDoorW.PrintWords Go.Proofs.YtpondkggmcmpfaaGreatDoorW.PrintLast Go.Proofs.YtpondkggmcmpfaaGreatDoorW.PrintMore
attribute [local go_sem] dZ dS dU fK fM
set_option linter.unusedVariables false
set_option linter.unusedSimpArgs false
def kW.f (a0 a1:Int):Option (Bool):=if a1 < 1 then (some false) else (if a1 > 1048576 then (some false) else (if a0≤(wrap64 (4*a1)) then (some (decide (a0≥(wrap64 ((-4)*a1))))) else (some false)))
set_option maxHeartbeats 8000000 in
set_option maxRecDepth 100000 in
theorem kW.calls (a0 a1:Int) (r:Bool) (w:World) (h:kW.f a0 a1=some r) :
  Calls Tryz.prog 184 #[.int .i64 a0,.int .i64 a1] w fun e w'=>e = .returned (.bool r)∧dw w w':=by
 have H:=h
 clear h
 unfold kW.f at H
 by_cases c3:a1 < 1
 ·rw [if_pos c3] at H
  have fP:=decide_eq_true c3
  clear c3
  obtain rfl:=Option.some.inj H
  go_enter Tryz.func184,Tryz.ntmps184
  go_wp2
  go_ret
  exact ⟨zT,zW⟩
 ·rw [if_neg c3] at H
  have fP:=decide_eq_false c3
  clear c3
  by_cases c4:a1 > 1048576
  ·rw [if_pos c4] at H
   have fE:=decide_eq_true c4
   clear c4
   obtain rfl:=Option.some.inj H
   go_enter Tryz.func184,Tryz.ntmps184
   go_wp2
   go_ret
   exact ⟨zT,zW⟩
  ·rw [if_neg c4] at H
   have fE:=decide_eq_false c4
   clear c4
   by_cases c5:a0≤(wrap64 (4*a1))
   ·rw [if_pos c5] at H
    have iw:=decide_eq_true c5
    clear c5
    obtain rfl:=Option.some.inj H
    go_enter Tryz.func184,Tryz.ntmps184
    go_wp2
    go_ret
    exact ⟨zT,zW⟩
   ·rw [if_neg c5] at H
    have iw:=decide_eq_false c5
    clear c5
    obtain rfl:=Option.some.inj H
    go_enter Tryz.func184,Tryz.ntmps184
    go_wp2
    go_ret
    exact ⟨zT,zW⟩
end Go.Proofs.YtpondkggmcmpfaaGreatDoor.QA
namespace Go.Proofs.YtpondkggmcmpfaaGreatDoor.QA
open Go.Proofs.YtpondkggmcmpfaaGreatDoor.T
open Go.RowKit Go.Proofs.YtpondkggmcmpfaaGreatDoorW.PrintWords Go.Proofs.YtpondkggmcmpfaaGreatDoorW.PrintLast Go.Proofs.YtpondkggmcmpfaaGreatDoorW.PrintMore
attribute [local go_sem] dZ dS dU fK fM
set_option linter.unusedVariables false
set_option linter.unusedSimpArgs false
mutual
def aQ.j0:Nat→Int→Int→Int→Option (Int)
 | 0,_,_,_=>none
 | k+1,x0,x1,x2=>if x2 > 127 then (some 0) else ((dI.f x0).bind fun aeb=>((dI.f x1).bind fun aec=>((dL.f k aeb aec).bind fun ai1=>(if x2=0 then ((bT.f k ai1.1 ai1.2 ((decide (x0 < 0)) != (decide (x1 < 0)))).bind fun aoO=>(some aoO)) else (aQ.l0 k x2 ((decide (x0 < 0)) != (decide (x1 < 0))) 127 ai1.1 ai1.2 0 0)))))
def aQ.l0:Nat→Int→Bool→Int→Int→Int→Int→Int→Option (Int)
 | 0,_,_,_,_,_,_,_=>none
 | k+1,x2,x7,x10,yj,yt,tJ,tK=>if x10≥x2 then ((fA.f yj yt x10).bind fun ajW=>((dG.f tJ tK ajW).bind fun aqD=>(aQ.l0 k x2 x7 (wrap64 (x10 - 1)) yj yt aqD.1 aqD.2))) else (aQ.l1 k x2 x7 false (wrap64 (x2 - 1)) 0 yj yt tJ tK)
def aQ.l1:Nat→Int→Bool→Bool→Int→Int→Int→Int→Int→Int→Option (Int)
 | 0,_,_,_,_,_,_,_,_,_=>none
 | k+1,x2,x7,x11,x44,x45,yj,yt,tJ,tK=>if x45 < x44 then (if x11=true then (aQ.l1 k x2 x7 true x44 (wrap64 (x45+1)) yj yt tJ tK) else ((fA.f yj yt x45).bind fun ams=>(aQ.l1 k x2 x7 (ams == 1) x44 (wrap64 (x45+1)) yj yt tJ tK))) else ((fA.f yj yt (wrap64 (x2 - 1))).bind fun acg=>(if acg=1 then (if x11=true then (aQ.j3 k x7 true tJ tK) else (aQ.j3 k x7 (!x7) tJ tK)) else (aQ.j3 k x7 false tJ tK)))
def aQ.j3:Nat→Bool→Bool→Int→Int→Option (Int)
 | 0,_,_,_,_=>none
 | k+1,x7,x67,tJ,tK=>if x67=true then ((gy.f tJ tK 0 1).bind fun aqE=>((bT.f k aqE.1 aqE.2 x7).bind fun aoP=>(some aoP))) else ((bT.f k tJ tK x7).bind fun aoQ=>(some aoQ))
end
def aQ.f (k:Nat) (a0 a1 a2:Int):Option (Int):=if a2 < 0 then (aQ.j0 k a0 a1 0) else (aQ.j0 k a0 a1 a2)
set_option maxHeartbeats 8000000 in
set_option maxRecDepth 100000 in
theorem aQ.calls (k:Nat) (a0 a1 a2 r:Int) (w:World) (h:aQ.f k a0 a1 a2=some r) :
  Calls Tryz.prog 185 #[.int .i64 a0,.int .i64 a1,.int .i64 a2] w fun e w'=>e = .returned (.int .i64 r)∧Below w.heap.size w w':=by
 have xC:=Tryz.underlying179
 have HB:=aj.mk (Below.refl w.heap.size w)
 have H:=h
 clear h
 unfold aQ.f at H
 have HC4:=aj.mk H
 clear H
 go_enter Tryz.func185,Tryz.ntmps185
 go_upto_if 14 with (fail)
 go_cut [2] (fun v2 wc=>∃ (kq:Nat) (tN:Int),v2 = .int .i64 tN∧aj (aQ.j0 kq a0 a1 tN=some r)∧aj (kq≤k)∧aj (Below w.heap.size w wc))
 case first =>
  have H:=HC4.out
  clear HC4
  by_cases c5:a2 < 0
  ·rw [if_pos c5] at H
   have iw:=decide_eq_true c5
   clear c5
   (first|rw [iw]|(simp only [bY,cZ];rw [iw])|skip)
   have H':=aj.mk H
   clear H
   go_wp2
   go_meet
   case rel=>exact ⟨_,(0),zT,H',⟨by first|omega|exact Nat.le_refl _⟩,⟨zB⟩⟩
  ·rw [if_neg c5] at H
   have iw:=decide_eq_false c5
   clear c5
   (first|rw [iw]|(simp only [bY,cZ];rw [iw])|skip)
   have H':=aj.mk H
   clear H
   go_wp2
   go_meet
   case rel=>exact ⟨_,(a2),zT,H',⟨by first|omega|exact Nat.le_refl _⟩,⟨zB⟩⟩
 case rest =>
  clear HC4
  obtain ⟨kq,tN,rfl,HA,HJ3,HB⟩:=hcut
  cases kq with
  | zero=>exact absurd HA.out (by simp [aQ.j0])
  | succ kj3 =>
   have H:=HA.out
   clear HA
   simp only [aQ.j0] at H
   by_cases c6:tN > 127
   ·rw [if_pos c6] at H
    have gQ:=decide_eq_true c6
    clear c6
    obtain rfl:=Option.some.inj H
    go_wp2
    go_ret
    exact ⟨zS,zB⟩
   ·rw [if_neg c6] at H
    have gQ:=decide_eq_false c6
    clear c6
    replace H:=zO H
    obtain ⟨aeb,A7,H⟩:=H
    try dsimp only at H
    replace H:=zO H
    obtain ⟨aec,A8,H⟩:=H
    try dsimp only at H
    replace H:=zO H
    obtain ⟨⟨oO,qQ⟩,A9,H⟩:=H
    try dsimp only at H
    by_cases c10:tN=0
    ·rw [if_pos c10] at H
     have pX:(tN == 0)=true:=beq_iff_eq.mpr c10
     have amu:(tN != 0)=false:=bne_eq_false_iff_eq.mpr c10
     clear c10
     replace H:=zO H
     obtain ⟨aoO,A11,H⟩:=H
     try dsimp only at H
     obtain rfl:=Option.some.inj H
     go_wp2_with (first|((with_reducible refine ay (f:=120) rfl ?_);refine aH (some 23) rfl rfl Tryz.func120 (by kernel_rfl) rfl #[.int .i64 a0] rfl zL ?_;(with_reducible refine (dI.calls a0 aeb _ A7.out).mono ?_);rintro e w' ⟨rfl,⟨nd,rfl⟩⟩;refine ⟨_,rfl,?_⟩;(try (rw [nX wc];generalize hq_:World.drewN wc _=wc;have n0_:aj (Below w.heap.size w wc):=⟨by rw [← hq_];exact zB⟩;clear HB hq_;have HB:=n0_;clear n0_)))|((with_reducible refine ay (f:=120) rfl ?_);refine aH (some 25) rfl rfl Tryz.func120 (by kernel_rfl) rfl #[.int .i64 a1] rfl zL ?_;(with_reducible refine (dI.calls a1 aec _ A8.out).mono ?_);rintro e w' ⟨rfl,⟨nd,rfl⟩⟩;refine ⟨_,rfl,?_⟩;(try (rw [nX wc];generalize hq_:World.drewN wc _=wc;have n0_:aj (Below w.heap.size w wc):=⟨by rw [← hq_];exact zB⟩;clear HB hq_;have HB:=n0_;clear n0_)))|((with_reducible refine ay (f:=148) rfl ?_);refine aH (some 26) rfl rfl Tryz.func148 (by kernel_rfl) rfl #[.int .u64 aeb,.int .u64 aec] rfl zL ?_;(with_reducible refine (dL.calls kj3 aeb aec oO qQ _ A9.out).mono ?_);rintro e w12 ⟨rfl,hb⟩;refine ⟨_,rfl,?_⟩;replace HB:=aj.mk (ak zB hb);(try clear hb))|((with_reducible refine bD (N:=8) rfl ?_);refine bC zR (N:=8) zR (cs := #[.int .u64 0,.int .u64 0]) (t:=179) zG ?_;intro xE hg w13 hbox hb;obtain ⟨HB,fZ,auC,auD⟩:=zA4 (ak zB hb) hbox (zg hg zB) (zg hg zB);clear hb hbox hg;obtain ⟨_,_⟩:=zC2 fZ.out;obtain ⟨_,_⟩:=zF2 fZ.out)|((with_reducible refine ay (f:=125) rfl ?_);refine aH (some 31) rfl rfl Tryz.func125 (by kernel_rfl) rfl #[.agg #[.int .u64 oO,.int .u64 qQ],.bool ((decide (a0 < 0)) != (decide (a1 < 0)))] rfl zL ?_;(with_reducible refine (bT.calls kj3 oO qQ ((decide (a0 < 0)) != (decide (a1 < 0))) aoO _ A11.out).mono ?_);rintro e w15 ⟨rfl,hb⟩;refine ⟨_,rfl,?_⟩;obtain ⟨fZ,HB⟩:=zA2 (aA (g:=xE) (o := .cells #[.int .u64 oO,.int .u64 qQ] 179 (0,0)) (by refine zD ?_;refine aW (cs := #[.int .u64 oO,.int .u64 0]) ?_ 1 _ rfl;refine zD ?_;refine aW (cs := #[.int .u64 0,.int .u64 0]) ?_ 0 _ rfl;refine zD ?_;exact fZ.out) hb) (ak zB hb);(try clear hb)))
     go_ret
     exact ⟨zS,zB⟩
    ·rw [if_neg c10] at H
     have pX:(tN == 0)=false:=beq_eq_false_iff_ne.mpr c10
     have amu:(tN != 0)=true:=bne_iff_ne.mpr c10
     have H':=aj.mk H
     clear H
     go_wp2_with (first|((with_reducible refine ay (f:=120) rfl ?_);refine aH (some 23) rfl rfl Tryz.func120 (by kernel_rfl) rfl #[.int .i64 a0] rfl zL ?_;(with_reducible refine (dI.calls a0 aeb _ A7.out).mono ?_);rintro e w' ⟨rfl,⟨nd,rfl⟩⟩;refine ⟨_,rfl,?_⟩;(try (rw [nX wc];generalize hq_:World.drewN wc _=wc;have n0_:aj (Below w.heap.size w wc):=⟨by rw [← hq_];exact zB⟩;clear HB hq_;have HB:=n0_;clear n0_)))|((with_reducible refine ay (f:=120) rfl ?_);refine aH (some 25) rfl rfl Tryz.func120 (by kernel_rfl) rfl #[.int .i64 a1] rfl zL ?_;(with_reducible refine (dI.calls a1 aec _ A8.out).mono ?_);rintro e w' ⟨rfl,⟨nd,rfl⟩⟩;refine ⟨_,rfl,?_⟩;(try (rw [nX wc];generalize hq_:World.drewN wc _=wc;have n0_:aj (Below w.heap.size w wc):=⟨by rw [← hq_];exact zB⟩;clear HB hq_;have HB:=n0_;clear n0_)))|((with_reducible refine ay (f:=148) rfl ?_);refine aH (some 26) rfl rfl Tryz.func148 (by kernel_rfl) rfl #[.int .u64 aeb,.int .u64 aec] rfl zL ?_;(with_reducible refine (dL.calls kj3 aeb aec oO qQ _ A9.out).mono ?_);rintro e w16 ⟨rfl,hb⟩;refine ⟨_,rfl,?_⟩;replace HB:=aj.mk (ak zB hb);(try clear hb))|((with_reducible refine bD (N:=8) rfl ?_);refine bC zR (N:=8) zR (cs := #[.int .u64 0,.int .u64 0]) (t:=179) zG ?_;intro xE hg w17 hbox hb;obtain ⟨HB,fZ,auC,auD⟩:=zA4 (ak zB hb) hbox (zg hg zB) (zg hg zB);clear hb hbox hg;obtain ⟨_,_⟩:=zC2 fZ.out;obtain ⟨_,_⟩:=zF2 fZ.out)|((with_reducible refine bD (N:=9) rfl ?_);refine bC zR (N:=9) zR (cs := #[.int .u64 0,.int .u64 0]) (t:=179) zG ?_;intro aak hg w19 hbox hb;obtain ⟨fZ,HB,iy,azS,azT,rV,rW⟩:=zA7 (aA (g:=xE) (o := .cells #[.int .u64 oO,.int .u64 qQ] 179 (0,0)) (by refine zD ?_;refine aW (cs := #[.int .u64 oO,.int .u64 0]) ?_ 1 _ rfl;refine zD ?_;refine aW (cs := #[.int .u64 0,.int .u64 0]) ?_ 0 _ rfl;refine zD ?_;exact fZ.out) hb) (ak zB hb) hbox (zg hg zB) (zg hg zB) ((by rw [hg];exact Nat.ne_of_lt (eF (g:=xE) (o := .cells #[.int .u64 oO,.int .u64 qQ] 179 (0,0)) (by refine zD ?_;refine aW (cs := #[.int .u64 oO,.int .u64 0]) ?_ 1 _ rfl;refine zD ?_;refine aW (cs := #[.int .u64 0,.int .u64 0]) ?_ 0 _ rfl;refine zD ?_;exact fZ.out)):xE≠aak)) ((by rw [hg];exact Nat.ne_of_gt (eF (g:=xE) (o := .cells #[.int .u64 oO,.int .u64 qQ] 179 (0,0)) (by refine zD ?_;refine aW (cs := #[.int .u64 oO,.int .u64 0]) ?_ 1 _ rfl;refine zD ?_;refine aW (cs := #[.int .u64 0,.int .u64 0]) ?_ 0 _ rfl;refine zD ?_;exact fZ.out)):aak≠xE));clear hb hbox hg;have azU:=rW.out;have azV:=rV.out;obtain ⟨_,_⟩:=zC2 iy.out;obtain ⟨_,_⟩:=zF2 iy.out))
     go_loopg [10] kj3 (fun kq v10 w'=>∃ (je:Int) (kG:Int) (jL:Int),v10 = .int .i64 je∧aj (aQ.l0 kq tN ((decide (a0 < 0)) != (decide (a1 < 0))) je oO qQ kG jL=some r)∧aj (kq≤kj3)∧aj (w'.heap[xE]? = some (.cells #[.int .u64 oO,.int .u64 qQ] 179 (0,0)))∧aj (w'.heap[aak]? = some (.cells #[.int .u64 kG,.int .u64 jL] 179 (0,0)))∧aj (Below w.heap.size w w'))
     case atStart=>exact ⟨(127),(0),(0),zT,H',⟨Nat.le_refl _⟩,⟨zK fZ⟩,⟨by refine zD ?_;refine aW (cs := #[.int .u64 0,.int .u64 0]) ?_ 1 _ rfl;refine zD ?_;refine aW (cs := #[.int .u64 0,.int .u64 0]) ?_ 0 _ rfl;refine zD ?_;exact iy.out⟩,⟨zB⟩⟩
     case round =>
      clear H'
      obtain ⟨je,kG,jL,rfl,HA,HK2,fZ,iy,HB⟩:=hrel
      cases gk with
      | zero=>exact absurd HA.out (by simp [aQ.l0])
      | succ k2 =>
       have H:=HA.out
       clear HA
       simp only [aQ.l0] at H
       by_cases c22:je≥tN
       ·rw [if_pos c22] at H
        have auE:=decide_eq_true c22
        clear c22
        replace H:=zO H
        obtain ⟨ajW,A23,H⟩:=H
        try dsimp only at H
        replace H:=zO H
        obtain ⟨⟨aoR,asA⟩,A24,H⟩:=H
        try dsimp only at H
        have H':=aj.mk H
        clear H
        try go_wp2
        obtain ⟨fZ,iy,HB⟩:=zA3 (jY fZ.out) (jY iy.out) (dA HB.out)
        refine acs (n:=6) (S:=fun w'=>w'.cell? ⟨aak,0,none⟩=some (.int .u64 kG)∧w'.cell? ⟨aak,1,none⟩=some (.int .u64 jL)∧w'.cell? ⟨xE,0,none⟩=some (.int .u64 oO)∧w'.cell? ⟨xE,1,none⟩=some (.int .u64 qQ)) (ds:=[5]) #[false,false,false,false,false,false] (by kernel_rfl) rfl rfl ⟨(au iy.out 0).trans rfl,(au iy.out 1).trans rfl,(au fZ.out 0).trans rfl,(au fZ.out 1).trans rfl⟩ (fun hHeld => ?_)
        generalize wr.drew=w25 at fZ iy HB hHeld ⊢
        refine xw (i:=2) (N:=some 40) (v := ?_) (a' := ?_) #[false,false,true,false,false,false] rfl rfl (by kernel_rfl) (fun _ _ _ h=>h) (Or.inl ⟨by rfl,?_⟩) ?_ ?_
        rotate_left
        ·intro w'
         go_simp
         with_reducible rfl
        rotate_left
        ·simp only [Act.put,List.setIfInBounds_toArray,List.set_cons_zero,List.set_cons_succ,bY,cZ]
         rfl
        refine yw (i:=0) (N:=some 38) (v := ?_) (a' := ?_) #[true,false,true,false,false,false] rfl rfl (by kernel_rfl) (fun _ _ _ h=>h) (Or.inl ⟨by rfl,?_⟩) hHeld ?_ ?_
        rotate_left
        ·rintro w' ⟨s0,s1,s2,s3⟩
         go_simp
         with_reducible rfl
        rotate_left
        ·simp only [Act.put,List.setIfInBounds_toArray,List.set_cons_zero,List.set_cons_succ,bY,cZ]
         rfl
        refine yw (i:=1) (N:=some 39) (v := ?_) (a' := ?_) #[true,true,true,false,false,false] rfl rfl (by kernel_rfl) (fun _ _ _ h=>h) (Or.inl ⟨by rfl,?_⟩) hHeld ?_ ?_
        rotate_left
        ·rintro w' ⟨s0,s1,s2,s3⟩
         go_simp
         with_reducible rfl
        rotate_left
        ·simp only [Act.put,List.setIfInBounds_toArray,List.set_cons_zero,List.set_cons_succ,bY,cZ]
         rfl
        refine aa7 (i:=3) (N:=some 41) #[true,true,true,true,false,false] rfl rfl (by kernel_rfl) (by decide) (fun K hK => ?_)
        refine aaf Tryz.func121 (by kernel_rfl) rfl #[.agg #[.int .u64 oO,.int .u64 qQ],.int .i64 je] (by rfl) rfl rfl zL ?_
        with_reducible refine (fA.calls oO qQ je ajW _ A23.out).mono ?_
        rintro e w26 ⟨rfl,hb⟩
        refine ⟨_,rfl,?_⟩
        obtain ⟨fZ,iy,HB⟩:=zA3 (aA (zK fZ) hb) (aA (zK iy) hb) (ak zB hb)
        (try clear hb)
        (try clear hb2)
        (try clear hk)
        (try clear hi)
        refine hK.out _ _ ⟨(au iy.out 0).trans rfl,(au iy.out 1).trans rfl,(au fZ.out 0).trans rfl,(au fZ.out 1).trans rfl⟩ (fun hHeld => ?_)
        clear hK K
        refine aae (a' := ?_) ?_ ?_
        rotate_left
        ·show Act.put _ (some 41) _=_
         simp only [Act.put,List.setIfInBounds_toArray,List.set_cons_zero,List.set_cons_succ,bY,cZ]
         rfl
        refine aa7 (i:=4) (N:=some 42) #[true,true,true,true,true,false] rfl rfl (by kernel_rfl) (by decide) (fun K hK => ?_)
        refine aaf Tryz.func119 (by kernel_rfl) rfl #[.agg #[.int .u64 kG,.int .u64 jL],.int .u64 ajW] (by rfl) rfl rfl zL ?_
        with_reducible refine (dG.calls kG jL ajW aoR asA _ A24.out).mono ?_
        rintro e w27 ⟨rfl,hb⟩
        refine ⟨_,rfl,?_⟩
        obtain ⟨fZ,iy,HB⟩:=zA3 (aA (zK fZ) hb) (aA (zK iy) hb) (ak zB hb)
        (try clear hb)
        (try clear hb2)
        (try clear hk)
        (try clear hi)
        refine hK.out _ _ ⟨(au iy.out 0).trans rfl,(au iy.out 1).trans rfl,(au fZ.out 0).trans rfl,(au fZ.out 1).trans rfl⟩ (fun hHeld => ?_)
        clear hK K
        refine aae (a' := ?_) ?_ ?_
        rotate_left
        ·show Act.put _ (some 42) _=_
         simp only [Act.put,List.setIfInBounds_toArray,List.set_cons_zero,List.set_cons_succ,bY,cZ]
         rfl
        refine aiP (i:=5) (N:=none) #[true,true,true,true,true,true] rfl rfl (by kernel_rfl) (by decide) (fun K hK => ?_)
        have aAQ:w27.cell? ⟨aak,0,none⟩=some (.int .u64 kG):=(au iy.out 0).trans rfl
        have azW:=bg iy.out 0
        have axA:=rV.out
        have axB:=rW.out
        have aAR:w27.cell? ⟨aak,1,none⟩=some (.int .u64 jL):=(au iy.out 1).trans rfl
        have azX:=bg iy.out 1
        have axC:=rV.out
        have axD:=rW.out
        refine af6 (w1 := ?_) (by rfl) rfl ?_ ?_
        rotate_left
        ·go_simp
         rfl
        refine hK.out _ _ ?_
        clear hK K
        refine aeD (by kernel_rfl) ?_
        try go_wp2
        go_roundg k2
        case measure=>have:=HJ3.out;have:=HK2.out;omega
        case rel=>exact ⟨(wrap64 (je - 1)),(aoR),(asA),zT,H',⟨by have:=HJ3.out;have:=HK2.out;omega⟩,⟨zK fZ⟩,⟨by refine zD ?_;refine aW (cs := #[.int .u64 aoR,.int .u64 jL]) ?_ 1 _ rfl;refine zD ?_;refine aW (cs := #[.int .u64 kG,.int .u64 jL]) ?_ 0 _ rfl;refine zD ?_;exact iy.out⟩,⟨zB⟩⟩
       ·rw [if_neg c22] at H
        have auE:=decide_eq_false c22
        clear c22
        have H':=aj.mk H
        clear H
        go_wp2
        try simp only [Act.put,List.setIfInBounds_toArray,List.set_cons_succ,List.set_cons_zero]
        go_loopg [11,45] k2 (fun kq v11 v45 w'=>∃ (agw:Bool) (ac1:Int),v11 = .bool agw∧v45 = .int .i64 ac1∧aj (aQ.l1 kq tN ((decide (a0 < 0)) != (decide (a1 < 0))) agw (wrap64 (tN - 1)) ac1 oO qQ kG jL=some r)∧aj (kq≤k2)∧aj (w'.heap[xE]? = some (.cells #[.int .u64 oO,.int .u64 qQ] 179 (0,0)))∧aj (w'.heap[aak]? = some (.cells #[.int .u64 kG,.int .u64 jL] 179 (0,0)))∧aj (Below w.heap.size w w'))
        case atStart=>exact ⟨(false),(0),zT,zT,H',⟨Nat.le_refl _⟩,⟨zK fZ⟩,⟨zK iy⟩,⟨zB⟩⟩
        case round =>
         clear H'
         obtain ⟨agw,ac1,rfl,rfl,HA,HK3,fZ,iy,HB⟩:=hrel
         cases gk with
         | zero=>exact absurd HA.out (by simp [aQ.l1])
         | succ k3 =>
          have H:=HA.out
          clear HA
          simp only [aQ.l1] at H
          by_cases c30:ac1 < (wrap64 (tN - 1))
          ·rw [if_pos c30] at H
           have aqF:=decide_eq_true c30
           clear c30
           by_cases c31:agw=true
           ·subst c31
            rw [if_pos rfl] at H;try dsimp only at H
            have H':=aj.mk H
            clear H
            go_wp2
            go_roundg k3
            case measure=>have:=HJ3.out;have:=HK2.out;have:=HK3.out;omega
            case rel=>exact ⟨(true),(wrap64 (ac1+1)),zT,zT,H',⟨by have:=HJ3.out;have:=HK2.out;have:=HK3.out;omega⟩,⟨zK fZ⟩,⟨zK iy⟩,⟨zB⟩⟩
           ·replace c31:=Bool.eq_false_iff.mpr c31
            subst c31
            rw [if_neg (show ¬ (false=true) by decide)] at H;try dsimp only at H
            replace H:=zO H
            obtain ⟨ams,A32,H⟩:=H
            try dsimp only at H
            have H':=aj.mk H
            clear H
            have auu:=rV.out
            have auv:=rW.out
            obtain ⟨_,_⟩:=zC2 fZ.out
            obtain ⟨_,_⟩:=zF2 fZ.out
            go_wp2_with (first|(go_at_call 121;(with_reducible refine (fA.calls oO qQ ac1 ams _ A32.out).mono ?_);rintro e w35 ⟨rfl,hb⟩;obtain ⟨fZ,iy,HB⟩:=zA3 (aA (zK fZ) hb) (aA (zK iy) hb) (ak zB hb);(try clear hb)))
            go_roundg k3
            case measure=>have:=HJ3.out;have:=HK2.out;have:=HK3.out;omega
            case rel=>exact ⟨((ams == 1)),(wrap64 (ac1+1)),zT,zT,H',⟨by have:=HJ3.out;have:=HK2.out;have:=HK3.out;omega⟩,⟨zK fZ⟩,⟨zK iy⟩,⟨zB⟩⟩
          ·rw [if_neg c30] at H
           have aqF:=decide_eq_false c30
           clear c30
           have aoS:=aj.mk H
           clear H
           go_upto_region 20 with (fail)
           go_cut [67] (fun v67 wc=>∃ (kq:Nat) (agx:Bool),v67 = .bool agx∧aj (aQ.j3 kq ((decide (a0 < 0)) != (decide (a1 < 0))) agx kG jL=some r)∧aj (kq≤k3)∧aj (wc.heap[xE]? = some (.cells #[.int .u64 oO,.int .u64 qQ] 179 (0,0)))∧aj (wc.heap[aak]? = some (.cells #[.int .u64 kG,.int .u64 jL] 179 (0,0)))∧aj (Below w.heap.size w wc))
           case first =>
            have H:=aoS.out
            clear aoS
            replace H:=zO H
            obtain ⟨acg,A37,H⟩:=H
            try dsimp only at H
            by_cases c38:acg=1
            ·rw [if_pos c38] at H
             have ac0:(acg == 1)=true:=beq_iff_eq.mpr c38
             have amq:(acg != 1)=false:=bne_eq_false_iff_eq.mpr c38
             clear c38
             (first|rw [ac0]|(simp only [bY,cZ];rw [ac0])|skip)
             by_cases c39:agw=true
             ·subst c39
              rw [if_pos rfl] at H;try dsimp only at H
              have H':=aj.mk H
              clear H
              have aqr:=rV.out
              have aqs:=rW.out
              obtain ⟨_,_⟩:=zC2 fZ.out
              obtain ⟨_,_⟩:=zF2 fZ.out
              go_wp2_with (first|((with_reducible refine ay (f:=121) rfl ?_);refine aH (some 59) rfl rfl Tryz.func121 (by kernel_rfl) rfl #[.agg #[.int .u64 oO,.int .u64 qQ],.int .i64 (wrap64 (tN - 1))] rfl zL ?_;(with_reducible refine (fA.calls oO qQ (wrap64 (tN - 1)) acg _ A37.out).mono ?_);rintro e w42 ⟨rfl,hb⟩;refine ⟨_,rfl,?_⟩;obtain ⟨fZ,iy,HB⟩:=zA3 (aA (zK fZ) hb) (aA (zK iy) hb) (ak zB hb);(try clear hb)))
              go_meet
              case rel=>exact ⟨_,(true),zT,H',⟨by have:=HJ3.out;have:=HK2.out;have:=HK3.out;first|omega|exact Nat.le_refl _⟩,⟨zK fZ⟩,⟨zK iy⟩,⟨zB⟩⟩
             ·replace c39:=Bool.eq_false_iff.mpr c39
              subst c39
              rw [if_neg (show ¬ (false=true) by decide)] at H;try dsimp only at H
              have H':=aj.mk H
              clear H
              have azY:=rV.out
              have azZ:=rW.out
              obtain ⟨_,_⟩:=zC2 fZ.out
              obtain ⟨_,_⟩:=zF2 fZ.out
              go_wp2_with (first|((with_reducible refine ay (f:=121) rfl ?_);refine aH (some 59) rfl rfl Tryz.func121 (by kernel_rfl) rfl #[.agg #[.int .u64 oO,.int .u64 qQ],.int .i64 (wrap64 (tN - 1))] rfl zL ?_;(with_reducible refine (fA.calls oO qQ (wrap64 (tN - 1)) acg _ A37.out).mono ?_);rintro e w45 ⟨rfl,hb⟩;refine ⟨_,rfl,?_⟩;obtain ⟨fZ,iy,HB⟩:=zA3 (aA (zK fZ) hb) (aA (zK iy) hb) (ak zB hb);(try clear hb)))
              go_meet
              case rel=>exact ⟨_,(!((decide (a0 < 0)) != (decide (a1 < 0)))),(by first|rfl|(simp;done)|(simp [*];done)|(generalize decide (a0 < 0)=p_;generalize decide (a1 < 0)=q_;cases p_ <;> cases q_ <;> rfl)),H',⟨by have:=HJ3.out;have:=HK2.out;have:=HK3.out;first|omega|exact Nat.le_refl _⟩,⟨zK fZ⟩,⟨zK iy⟩,⟨zB⟩⟩
            ·rw [if_neg c38] at H
             have ac0:(acg == 1)=false:=beq_eq_false_iff_ne.mpr c38
             have amq:(acg != 1)=true:=bne_iff_ne.mpr c38
             (first|rw [ac0]|(simp only [bY,cZ];rw [ac0])|skip)
             have H':=aj.mk H
             clear H
             have aqt:=rV.out
             have aqu:=rW.out
             obtain ⟨_,_⟩:=zC2 fZ.out
             obtain ⟨_,_⟩:=zF2 fZ.out
             go_wp2_with (first|((with_reducible refine ay (f:=121) rfl ?_);refine aH (some 59) rfl rfl Tryz.func121 (by kernel_rfl) rfl #[.agg #[.int .u64 oO,.int .u64 qQ],.int .i64 (wrap64 (tN - 1))] rfl zL ?_;(with_reducible refine (fA.calls oO qQ (wrap64 (tN - 1)) acg _ A37.out).mono ?_);rintro e w48 ⟨rfl,hb⟩;refine ⟨_,rfl,?_⟩;obtain ⟨fZ,iy,HB⟩:=zA3 (aA (zK fZ) hb) (aA (zK iy) hb) (ak zB hb);(try clear hb)))
             go_meet
             case rel=>exact ⟨_,(false),zT,H',⟨by have:=HJ3.out;have:=HK2.out;have:=HK3.out;first|omega|exact Nat.le_refl _⟩,⟨zK fZ⟩,⟨zK iy⟩,⟨zB⟩⟩
           case rest =>
            clear aoS
            obtain ⟨kq,agx,rfl,HA,aAS,fZ,iy,HB⟩:=hcut
            cases kq with
            | zero=>exact absurd HA.out (by simp [aQ.j3])
            | succ asB =>
             have H:=HA.out
             clear HA
             simp only [aQ.j3] at H
             by_cases c49:agx=true
             ·subst c49
              rw [if_pos rfl] at H;try dsimp only at H
              replace H:=zO H
              obtain ⟨⟨ajX,amv⟩,A50,H⟩:=H
              try dsimp only at H
              replace H:=zO H
              obtain ⟨aoP,A51,H⟩:=H
              try dsimp only at H
              obtain rfl:=Option.some.inj H
              have auA:=rW.out
              have auB:=rV.out
              obtain ⟨_,_⟩:=zC2 iy.out
              obtain ⟨_,_⟩:=zF2 iy.out
              go_wp2_with (first|((with_reducible refine ay (f:=124) rfl ?_);refine aH (some 70) rfl rfl Tryz.func124 (by kernel_rfl) rfl #[.agg #[.int .u64 kG,.int .u64 jL],.agg #[.int .u64 0,.int .u64 1]] rfl zL ?_;(with_reducible refine (gy.calls kG jL 0 1 ajX amv _ A50.out).mono ?_);rintro e w54 ⟨rfl,hb⟩;refine ⟨_,rfl,?_⟩;obtain ⟨fZ,iy,HB⟩:=zA3 (aA (zK fZ) hb) (aA (zK iy) hb) (ak zB hb);(try clear hb);obtain ⟨_,_⟩:=zC2 iy.out;obtain ⟨_,_⟩:=zF2 iy.out)|((with_reducible refine ay (f:=125) rfl ?_);refine aH (some 73) rfl rfl Tryz.func125 (by kernel_rfl) rfl #[.agg #[.int .u64 ajX,.int .u64 amv],.bool ((decide (a0 < 0)) != (decide (a1 < 0)))] rfl zL ?_;(with_reducible refine (bT.calls asB ajX amv ((decide (a0 < 0)) != (decide (a1 < 0))) aoP _ A51.out).mono ?_);rintro e w56 ⟨rfl,hb⟩;refine ⟨_,rfl,?_⟩;obtain ⟨fZ,iy,HB⟩:=zA3 (aA (zK fZ) hb) (aA (g:=aak) (o := .cells #[.int .u64 ajX,.int .u64 amv] 179 (0,0)) (by refine zD ?_;refine aW (cs := #[.int .u64 ajX,.int .u64 jL]) ?_ 1 _ rfl;refine zD ?_;refine aW (cs := #[.int .u64 kG,.int .u64 jL]) ?_ 0 _ rfl;refine zD ?_;exact iy.out) hb) (ak zB hb);(try clear hb)))
              go_ret
              exact ⟨zS,zB⟩
             ·replace c49:=Bool.eq_false_iff.mpr c49
              subst c49
              rw [if_neg (show ¬ (false=true) by decide)] at H;try dsimp only at H
              replace H:=zO H
              obtain ⟨aoQ,A57,H⟩:=H
              try dsimp only at H
              obtain rfl:=Option.some.inj H
              have auh:=rW.out
              have aui:=rV.out
              obtain ⟨_,_⟩:=zC2 iy.out
              obtain ⟨_,_⟩:=zF2 iy.out
              go_wp2_with (first|((with_reducible refine ay (f:=125) rfl ?_);refine aH (some 73) rfl rfl Tryz.func125 (by kernel_rfl) rfl #[.agg #[.int .u64 kG,.int .u64 jL],.bool ((decide (a0 < 0)) != (decide (a1 < 0)))] rfl zL ?_;(with_reducible refine (bT.calls asB kG jL ((decide (a0 < 0)) != (decide (a1 < 0))) aoQ _ A57.out).mono ?_);rintro e w60 ⟨rfl,hb⟩;refine ⟨_,rfl,?_⟩;obtain ⟨fZ,iy,HB⟩:=zA3 (aA (zK fZ) hb) (aA (zK iy) hb) (ak zB hb);(try clear hb)))
              go_ret
              exact ⟨zS,zB⟩
end Go.Proofs.YtpondkggmcmpfaaGreatDoor.QA
namespace Go.Proofs.YtpondkggmcmpfaaGreatDoor.QA
open Go.Proofs.YtpondkggmcmpfaaGreatDoor.T
open Go.RowKit Go.Proofs.YtpondkggmcmpfaaGreatDoorW.PrintWords Go.Proofs.YtpondkggmcmpfaaGreatDoorW.PrintLast Go.Proofs.YtpondkggmcmpfaaGreatDoorW.PrintMore
attribute [local go_sem] dZ dS dU fK fM
set_option linter.unusedVariables false
set_option linter.unusedSimpArgs false
mutual
def bW.j0:Nat→Int→Int→Option (Int)
 | 0,_,_=>none
 | k+1,x0,x1=>(aV.f k 10851744800547 x0 x1).bind fun ajY=>((aV.f k ajY x0 x1).bind fun aed=>(bW.l0 k aed 1099511627776 0 1099511627776 1))
def bW.l0:Nat→Int→Int→Int→Int→Int→Option (Int)
 | 0,_,_,_,_,_=>none
 | k+1,x6,x7,x8,x9,x10=>if x10≤30 then ((aV.f k x9 x6 (wrap64 ((wrap64 ((wrap64 (2*x10))*(wrap64 ((wrap64 (2*x10))+1))))*1099511627776))).bind fun abp=>(if (Int.tmod x10 2)=1 then (bW.l0 k x6 x7 (wrap64 (x8+abp)) abp (wrap64 (x10+1))) else (bW.l0 k x6 (wrap64 (x7+abp)) x8 abp (wrap64 (x10+1))))) else (some (wrap64 (x7 - x8)))
end
def bW.f (k:Nat) (a0 a1:Int):Option (Int):=if a0 < 0 then (bW.j0 k (wrap64 (-a0)) a1) else (bW.j0 k a0 a1)
set_option maxHeartbeats 8000000 in
set_option maxRecDepth 100000 in
theorem bW.calls (k:Nat) (a0 a1 r:Int) (w:World) (h:bW.f k a0 a1=some r) :
  Calls Tryz.prog 186 #[.int .i64 a0,.int .i64 a1] w fun e w'=>e = .returned (.int .i64 r)∧Below w.heap.size w w':=by
 have HB:=aj.mk (Below.refl w.heap.size w)
 have H:=h
 clear h
 unfold bW.f at H
 have HC3:=aj.mk H
 clear H
 go_enter Tryz.func186,Tryz.ntmps186
 go_upto_if 13 with (fail)
 go_cut [0] (fun v0 wc=>∃ (kq:Nat) (afC:Int),v0 = .int .i64 afC∧aj (bW.j0 kq afC a1=some r)∧aj (kq≤k)∧aj (Below w.heap.size w wc))
 case first =>
  have H:=HC3.out
  clear HC3
  by_cases c4:a0 < 0
  ·rw [if_pos c4] at H
   have fE:=decide_eq_true c4
   clear c4
   (first|rw [fE]|(simp only [bY,cZ];rw [fE])|skip)
   have H':=aj.mk H
   clear H
   go_wp2
   go_meet
   case rel=>exact ⟨_,(wrap64 (-a0)),zT,H',⟨by first|omega|exact Nat.le_refl _⟩,⟨zB⟩⟩
  ·rw [if_neg c4] at H
   have fE:=decide_eq_false c4
   clear c4
   (first|rw [fE]|(simp only [bY,cZ];rw [fE])|skip)
   have H':=aj.mk H
   clear H
   go_wp2
   go_meet
   case rel=>exact ⟨_,(a0),zT,H',⟨by first|omega|exact Nat.le_refl _⟩,⟨zB⟩⟩
 case rest =>
  clear HC3
  obtain ⟨kq,afC,rfl,HA,HJ2,HB⟩:=hcut
  cases kq with
  | zero=>exact absurd HA.out (by simp [bW.j0])
  | succ kj2 =>
   have H:=HA.out
   clear HA
   simp only [bW.j0] at H
   replace H:=zO H
   obtain ⟨ajY,A5,H⟩:=H
   try dsimp only at H
   replace H:=zO H
   obtain ⟨aed,A6,H⟩:=H
   try dsimp only at H
   have H':=aj.mk H
   clear H
   go_wp2_with (first|((with_reducible refine ay (f:=118) rfl ?_);refine aH (some 18) rfl rfl Tryz.func118 (by kernel_rfl) rfl #[.int .i64 10851744800547,.int .i64 afC,.int .i64 a1] rfl zL ?_;(with_reducible refine (aV.calls kj2 10851744800547 afC a1 ajY _ A5.out).mono ?_);rintro e w7 ⟨rfl,hb⟩;refine ⟨_,rfl,?_⟩;replace HB:=aj.mk (ak zB hb);(try clear hb))|((with_reducible refine ay (f:=118) rfl ?_);refine aH (some 22) rfl rfl Tryz.func118 (by kernel_rfl) rfl #[.int .i64 ajY,.int .i64 afC,.int .i64 a1] rfl zL ?_;(with_reducible refine (aV.calls kj2 ajY afC a1 aed _ A6.out).mono ?_);rintro e w8 ⟨rfl,hb⟩;refine ⟨_,rfl,?_⟩;replace HB:=aj.mk (ak zB hb);(try clear hb)))
   go_loopg [7,8,9,10] kj2 (fun kq v7 v8 v9 v10 w'=>∃ (zV:Int) (kZ:Int) (aaL:Int) (je:Int),v7 = .int .i64 zV∧v8 = .int .i64 kZ∧v9 = .int .i64 aaL∧v10 = .int .i64 je∧aj (bW.l0 kq aed zV kZ aaL je=some r)∧aj (kq≤kj2)∧aj (Below w.heap.size w w'))
   case atStart=>exact ⟨(1099511627776),(0),(1099511627776),(1),zT,zT,zT,zT,H',⟨Nat.le_refl _⟩,⟨zB⟩⟩
   case round =>
    clear H'
    obtain ⟨zV,kZ,aaL,je,rfl,rfl,rfl,rfl,HA,HK2,HB⟩:=hrel
    cases gk with
    | zero=>exact absurd HA.out (by simp [bW.l0])
    | succ k2 =>
     have H:=HA.out
     clear HA
     simp only [bW.l0] at H
     by_cases c9:je≤30
     ·rw [if_pos c9] at H
      have pz:=decide_eq_true c9
      clear c9
      replace H:=zO H
      obtain ⟨abp,A10,H⟩:=H
      try dsimp only at H
      by_cases c11:(Int.tmod je 2)=1
      ·rw [if_pos c11] at H
       have iH:((Int.tmod je 2) == 1)=true:=beq_iff_eq.mpr c11
       have wF:((Int.tmod je 2) != 1)=false:=bne_eq_false_iff_eq.mpr c11
       clear c11
       have H':=aj.mk H
       clear H
       go_wp2_with (first|((with_reducible refine ay (f:=118) rfl ?_);refine aH (some 37) rfl rfl Tryz.func118 (by kernel_rfl) rfl #[.int .i64 aaL,.int .i64 aed,.int .i64 (wrap64 ((wrap64 ((wrap64 (2*je))*(wrap64 ((wrap64 (2*je))+1))))*1099511627776))] rfl zL ?_;(with_reducible refine (aV.calls k2 aaL aed (wrap64 ((wrap64 ((wrap64 (2*je))*(wrap64 ((wrap64 (2*je))+1))))*1099511627776)) abp _ A10.out).mono ?_);rintro e w12 ⟨rfl,hb⟩;refine ⟨_,rfl,?_⟩;replace HB:=aj.mk (ak zB hb);(try clear hb)))
       go_roundg k2
       case measure=>have:=HJ2.out;have:=HK2.out;omega
       case rel=>exact ⟨(zV),(wrap64 (kZ+abp)),(abp),(wrap64 (je+1)),zT,zT,zT,zT,H',⟨by have:=HJ2.out;have:=HK2.out;omega⟩,⟨zB⟩⟩
      ·rw [if_neg c11] at H
       have iH:((Int.tmod je 2) == 1)=false:=beq_eq_false_iff_ne.mpr c11
       have wF:((Int.tmod je 2) != 1)=true:=bne_iff_ne.mpr c11
       have H':=aj.mk H
       clear H
       go_wp2_with (first|((with_reducible refine ay (f:=118) rfl ?_);refine aH (some 37) rfl rfl Tryz.func118 (by kernel_rfl) rfl #[.int .i64 aaL,.int .i64 aed,.int .i64 (wrap64 ((wrap64 ((wrap64 (2*je))*(wrap64 ((wrap64 (2*je))+1))))*1099511627776))] rfl zL ?_;(with_reducible refine (aV.calls k2 aaL aed (wrap64 ((wrap64 ((wrap64 (2*je))*(wrap64 ((wrap64 (2*je))+1))))*1099511627776)) abp _ A10.out).mono ?_);rintro e w13 ⟨rfl,hb⟩;refine ⟨_,rfl,?_⟩;replace HB:=aj.mk (ak zB hb);(try clear hb)))
       go_roundg k2
       case measure=>have:=HJ2.out;have:=HK2.out;omega
       case rel=>exact ⟨(wrap64 (zV+abp)),(kZ),(abp),(wrap64 (je+1)),zT,zT,zT,zT,H',⟨by have:=HJ2.out;have:=HK2.out;omega⟩,⟨zB⟩⟩
     ·rw [if_neg c9] at H
      have pz:=decide_eq_false c9
      clear c9
      obtain rfl:=Option.some.inj H
      go_wp2
      go_ret
      exact ⟨zS,zB⟩
def dR.j0:Nat→Int→Int→Bool→Option (Int)
 | 0,_,_,_=>none
 | k+1,x0,x1,x21=>if x21=true then (some 0) else ((bW.f k x0 x1).bind fun ajZ=>((bW.f k x0 (wrap64 (3*x1))).bind fun aj0=>((aQ.f k ajZ aj0 40).bind fun aj1=>((aI.f k aj1 10).bind fun aoT=>(some aoT)))))
def dR.f (k:Nat) (a0 a1:Int):Option (Int):=(kW.f a0 a1).bind fun aoU=>(if aoU=true then (if a0≥(wrap64 (3*a1)) then (dR.j0 k a0 a1 true) else (dR.j0 k a0 a1 (decide (a0≤(wrap64 ((-3)*a1)))))) else (dR.j0 k a0 a1 true))
set_option maxHeartbeats 8000000 in
set_option maxRecDepth 100000 in
theorem dR.calls (k:Nat) (a0 a1 r:Int) (w:World) (h:dR.f k a0 a1=some r) :
  Calls Tryz.prog 171 #[.int .i64 a0,.int .i64 a1] w fun e w'=>e = .returned (.int .i64 r)∧Below w.heap.size w w':=by
 have HB:=aj.mk (Below.refl w.heap.size w)
 have H:=h
 clear h
 unfold dR.f at H
 have HC3:=aj.mk H
 clear H
 go_enter Tryz.func171,Tryz.ntmps171
 go_upto_region 1 with (fail)
 go_cut [21] (fun v21 wc=>∃ (kq:Nat) (ai2:Bool),v21 = .bool ai2∧aj (dR.j0 kq a0 a1 ai2=some r)∧aj (kq≤k)∧aj (Below w.heap.size w wc))
 case first =>
  have H:=HC3.out
  clear HC3
  replace H:=zO H
  obtain ⟨aoU,A4,H⟩:=H
  try dsimp only at H
  by_cases c5:aoU=true
  ·subst c5
   rw [if_pos rfl] at H;try dsimp only at H
   by_cases c6:a0≥(wrap64 (3*a1))
   ·rw [if_pos c6] at H
    have gQ:=decide_eq_true c6
    clear c6
    (first|rw [gQ]|(simp only [bY,cZ];rw [gQ])|skip)
    have H':=aj.mk H
    clear H
    go_wp2_with (first|((with_reducible refine ay (f:=184) rfl ?_);refine aH (some 8) rfl rfl Tryz.func184 (by kernel_rfl) rfl #[.int .i64 a0,.int .i64 a1] rfl zL ?_;(with_reducible refine (kW.calls a0 a1 true _ A4.out).mono ?_);rintro e w' ⟨rfl,⟨nd,rfl⟩⟩;refine ⟨_,rfl,?_⟩))
    go_meet
    case rel=>exact ⟨_,(true),zT,H',⟨by first|omega|exact Nat.le_refl _⟩,⟨zB⟩⟩
   ·rw [if_neg c6] at H
    have gQ:=decide_eq_false c6
    clear c6
    (first|rw [gQ]|(simp only [bY,cZ];rw [gQ])|skip)
    have H':=aj.mk H
    clear H
    go_wp2_with (first|((with_reducible refine ay (f:=184) rfl ?_);refine aH (some 8) rfl rfl Tryz.func184 (by kernel_rfl) rfl #[.int .i64 a0,.int .i64 a1] rfl zL ?_;(with_reducible refine (kW.calls a0 a1 true _ A4.out).mono ?_);rintro e w' ⟨rfl,⟨nd,rfl⟩⟩;refine ⟨_,rfl,?_⟩))
    go_meet
    case rel=>exact ⟨_,(decide (a0≤(wrap64 ((-3)*a1)))),zT,H',⟨by first|omega|exact Nat.le_refl _⟩,⟨zB⟩⟩
  ·replace c5:=Bool.eq_false_iff.mpr c5
   subst c5
   rw [if_neg (show ¬ (false=true) by decide)] at H;try dsimp only at H
   have H':=aj.mk H
   clear H
   go_wp2_with (first|((with_reducible refine ay (f:=184) rfl ?_);refine aH (some 8) rfl rfl Tryz.func184 (by kernel_rfl) rfl #[.int .i64 a0,.int .i64 a1] rfl zL ?_;(with_reducible refine (kW.calls a0 a1 false _ A4.out).mono ?_);rintro e w' ⟨rfl,⟨nd,rfl⟩⟩;refine ⟨_,rfl,?_⟩))
   go_meet
   case rel=>exact ⟨_,(true),zT,H',⟨by first|omega|exact Nat.le_refl _⟩,⟨zB⟩⟩
 case rest =>
  clear HC3
  obtain ⟨kq,ai2,rfl,HA,HJ2,HB⟩:=hcut
  cases kq with
  | zero=>exact absurd HA.out (by simp [dR.j0])
  | succ kj2 =>
   have H:=HA.out
   clear HA
   simp only [dR.j0] at H
   by_cases c7:ai2=true
   ·subst c7
    rw [if_pos rfl] at H;try dsimp only at H
    obtain rfl:=Option.some.inj H
    go_wp2
    go_ret
    exact ⟨zS,zB⟩
   ·replace c7:=Bool.eq_false_iff.mpr c7
    subst c7
    rw [if_neg (show ¬ (false=true) by decide)] at H;try dsimp only at H
    replace H:=zO H
    obtain ⟨ajZ,A8,H⟩:=H
    try dsimp only at H
    replace H:=zO H
    obtain ⟨aj0,A9,H⟩:=H
    try dsimp only at H
    replace H:=zO H
    obtain ⟨aj1,A10,H⟩:=H
    try dsimp only at H
    replace H:=zO H
    obtain ⟨aoT,A11,H⟩:=H
    try dsimp only at H
    obtain rfl:=Option.some.inj H
    go_wp2_with (first|((with_reducible refine ay (f:=186) rfl ?_);refine aH (some 24) rfl rfl Tryz.func186 (by kernel_rfl) rfl #[.int .i64 a0,.int .i64 a1] rfl zL ?_;(with_reducible refine (bW.calls kj2 a0 a1 ajZ _ A8.out).mono ?_);rintro e w12 ⟨rfl,hb⟩;refine ⟨_,rfl,?_⟩;replace HB:=aj.mk (ak zB hb);(try clear hb))|((with_reducible refine ay (f:=186) rfl ?_);refine aH (some 28) rfl rfl Tryz.func186 (by kernel_rfl) rfl #[.int .i64 a0,.int .i64 (wrap64 (3*a1))] rfl zL ?_;(with_reducible refine (bW.calls kj2 a0 (wrap64 (3*a1)) aj0 _ A9.out).mono ?_);rintro e w13 ⟨rfl,hb⟩;refine ⟨_,rfl,?_⟩;replace HB:=aj.mk (ak zB hb);(try clear hb))|((with_reducible refine ay (f:=185) rfl ?_);refine aH (some 29) rfl rfl Tryz.func185 (by kernel_rfl) rfl #[.int .i64 ajZ,.int .i64 aj0,.int .i64 40] rfl zL ?_;(with_reducible refine (aQ.calls kj2 ajZ aj0 40 aj1 _ A10.out).mono ?_);rintro e w14 ⟨rfl,hb⟩;refine ⟨_,rfl,?_⟩;replace HB:=aj.mk (ak zB hb);(try clear hb))|((with_reducible refine ay (f:=101) rfl ?_);refine aH (some 31) rfl rfl Tryz.func101 (by kernel_rfl) rfl #[.int .i64 aj1,.int .i64 10] rfl zL ?_;(with_reducible refine (aI.calls kj2 aj1 10 aoT _ A11.out).mono ?_);rintro e w15 ⟨rfl,hb⟩;refine ⟨_,rfl,?_⟩;replace HB:=aj.mk (ak zB hb);(try clear hb)))
    go_ret
    exact ⟨zS,zB⟩
end Go.Proofs.YtpondkggmcmpfaaGreatDoor.QA
namespace Go.Proofs.YtpondkggmcmpfaaGreatDoor.QA
open Go.Proofs.YtpondkggmcmpfaaGreatDoor.T
open Go.RowKit Go.Proofs.YtpondkggmcmpfaaGreatDoorW.PrintWords Go.Proofs.YtpondkggmcmpfaaGreatDoorW.PrintLast Go.Proofs.YtpondkggmcmpfaaGreatDoorW.PrintMore
attribute [local go_sem] dZ dS dU fK fM
set_option linter.unusedVariables false
set_option linter.unusedSimpArgs false
def lI.f (k:Nat) (a0 a1 a2 a3 a4:Int):Option (Int):=if a0=0 then (if (wrap64 (a4*a2)) > (wrap64 (a3*a1)) then (if (wrap64 ((wrap64 (a4+1))*a2)) < (wrap64 ((wrap64 (a3+1))*a1)) then ((aV.f k (wrap64 ((wrap64 ((wrap64 (a4+1))*a2)) - (wrap64 (a4*a2)))) 1073741824 a1).bind fun aoV=>(some aoV)) else ((aV.f k (wrap64 ((wrap64 ((wrap64 (a3+1))*a1)) - (wrap64 (a4*a2)))) 1073741824 a1).bind fun aoW=>(some aoW))) else (if (wrap64 ((wrap64 (a4+1))*a2)) < (wrap64 ((wrap64 (a3+1))*a1)) then ((aV.f k (wrap64 ((wrap64 ((wrap64 (a4+1))*a2)) - (wrap64 (a3*a1)))) 1073741824 a1).bind fun aoX=>(some aoX)) else ((aV.f k (wrap64 ((wrap64 ((wrap64 (a3+1))*a1)) - (wrap64 (a3*a1)))) 1073741824 a1).bind fun aoY=>(some aoY)))) else ((fJ.f a1 a2 a3 a4).bind fun ai3=>(if a0=1 then ((bP.f k ai3.1 ai3.2).bind fun aoZ=>(some aoZ)) else ((dR.f k ai3.1 ai3.2).bind fun ao0=>(some ao0))))
set_option maxHeartbeats 8000000 in
set_option maxRecDepth 100000 in
theorem lI.calls (k:Nat) (a0 a1 a2 a3 a4 r:Int) (w:World) (h:lI.f k a0 a1 a2 a3 a4=some r) :
  Calls Tryz.prog 141 #[.int .i64 a0,.int .i64 a1,.int .i64 a2,.int .i64 a3,.int .i64 a4] w fun e w'=>e = .returned (.int .i64 r)∧Below w.heap.size w w':=by
 have HB:=aj.mk (Below.refl w.heap.size w)
 have H:=h
 clear h
 unfold lI.f at H
 by_cases c6:a0=0
 ·rw [if_pos c6] at H
  have gQ:(a0 == 0)=true:=beq_iff_eq.mpr c6
  have uw:(a0 != 0)=false:=bne_eq_false_iff_eq.mpr c6
  clear c6
  by_cases c7:(wrap64 (a4*a2)) > (wrap64 (a3*a1))
  ·rw [if_pos c7] at H
   have jc:=decide_eq_true c7
   clear c7
   by_cases c8:(wrap64 ((wrap64 (a4+1))*a2)) < (wrap64 ((wrap64 (a3+1))*a1))
   ·rw [if_pos c8] at H
    have uy:=decide_eq_true c8
    clear c8
    replace H:=zO H
    obtain ⟨aoV,A9,H⟩:=H
    try dsimp only at H
    obtain rfl:=Option.some.inj H
    go_enter Tryz.func141,Tryz.ntmps141
    go_wp2_with (first|((with_reducible refine ay (f:=118) rfl ?_);refine aH (some 46) rfl rfl Tryz.func118 (by kernel_rfl) rfl #[.int .i64 (wrap64 ((wrap64 ((wrap64 (a4+1))*a2)) - (wrap64 (a4*a2)))),.int .i64 1073741824,.int .i64 a1] rfl zL ?_;(with_reducible refine (aV.calls k (wrap64 ((wrap64 ((wrap64 (a4+1))*a2)) - (wrap64 (a4*a2)))) 1073741824 a1 aoV _ A9.out).mono ?_);rintro e w10 ⟨rfl,hb⟩;refine ⟨_,rfl,?_⟩;replace HB:=aj.mk (ak zB hb);(try clear hb)))
    go_ret
    exact ⟨zS,zB⟩
   ·rw [if_neg c8] at H
    have uy:=decide_eq_false c8
    clear c8
    replace H:=zO H
    obtain ⟨aoW,A11,H⟩:=H
    try dsimp only at H
    obtain rfl:=Option.some.inj H
    go_enter Tryz.func141,Tryz.ntmps141
    go_wp2_with (first|((with_reducible refine ay (f:=118) rfl ?_);refine aH (some 46) rfl rfl Tryz.func118 (by kernel_rfl) rfl #[.int .i64 (wrap64 ((wrap64 ((wrap64 (a3+1))*a1)) - (wrap64 (a4*a2)))),.int .i64 1073741824,.int .i64 a1] rfl zL ?_;(with_reducible refine (aV.calls k (wrap64 ((wrap64 ((wrap64 (a3+1))*a1)) - (wrap64 (a4*a2)))) 1073741824 a1 aoW _ A11.out).mono ?_);rintro e w12 ⟨rfl,hb⟩;refine ⟨_,rfl,?_⟩;replace HB:=aj.mk (ak zB hb);(try clear hb)))
    go_ret
    exact ⟨zS,zB⟩
  ·rw [if_neg c7] at H
   have jc:=decide_eq_false c7
   clear c7
   by_cases c13:(wrap64 ((wrap64 (a4+1))*a2)) < (wrap64 ((wrap64 (a3+1))*a1))
   ·rw [if_pos c13] at H
    have abV:=decide_eq_true c13
    clear c13
    replace H:=zO H
    obtain ⟨aoX,A14,H⟩:=H
    try dsimp only at H
    obtain rfl:=Option.some.inj H
    go_enter Tryz.func141,Tryz.ntmps141
    go_wp2_with (first|((with_reducible refine ay (f:=118) rfl ?_);refine aH (some 46) rfl rfl Tryz.func118 (by kernel_rfl) rfl #[.int .i64 (wrap64 ((wrap64 ((wrap64 (a4+1))*a2)) - (wrap64 (a3*a1)))),.int .i64 1073741824,.int .i64 a1] rfl zL ?_;(with_reducible refine (aV.calls k (wrap64 ((wrap64 ((wrap64 (a4+1))*a2)) - (wrap64 (a3*a1)))) 1073741824 a1 aoX _ A14.out).mono ?_);rintro e w15 ⟨rfl,hb⟩;refine ⟨_,rfl,?_⟩;replace HB:=aj.mk (ak zB hb);(try clear hb)))
    go_ret
    exact ⟨zS,zB⟩
   ·rw [if_neg c13] at H
    have abV:=decide_eq_false c13
    clear c13
    replace H:=zO H
    obtain ⟨aoY,A16,H⟩:=H
    try dsimp only at H
    obtain rfl:=Option.some.inj H
    go_enter Tryz.func141,Tryz.ntmps141
    go_wp2_with (first|((with_reducible refine ay (f:=118) rfl ?_);refine aH (some 46) rfl rfl Tryz.func118 (by kernel_rfl) rfl #[.int .i64 (wrap64 ((wrap64 ((wrap64 (a3+1))*a1)) - (wrap64 (a3*a1)))),.int .i64 1073741824,.int .i64 a1] rfl zL ?_;(with_reducible refine (aV.calls k (wrap64 ((wrap64 ((wrap64 (a3+1))*a1)) - (wrap64 (a3*a1)))) 1073741824 a1 aoY _ A16.out).mono ?_);rintro e w17 ⟨rfl,hb⟩;refine ⟨_,rfl,?_⟩;replace HB:=aj.mk (ak zB hb);(try clear hb)))
    go_ret
    exact ⟨zS,zB⟩
 ·rw [if_neg c6] at H
  have gQ:(a0 == 0)=false:=beq_eq_false_iff_ne.mpr c6
  have uw:(a0 != 0)=true:=bne_iff_ne.mpr c6
  replace H:=zO H
  obtain ⟨⟨ahu,ahv⟩,A18,H⟩:=H
  try dsimp only at H
  by_cases c19:a0=1
  ·rw [if_pos c19] at H
   have auF:(a0 == 1)=true:=beq_iff_eq.mpr c19
   have auG:(a0 != 1)=false:=bne_eq_false_iff_eq.mpr c19
   clear c19
   replace H:=zO H
   obtain ⟨aoZ,A20,H⟩:=H
   try dsimp only at H
   obtain rfl:=Option.some.inj H
   go_enter Tryz.func141,Tryz.ntmps141
   go_wp2_with (first|((with_reducible refine ay (f:=169) rfl ?_);refine aH (some 52) rfl rfl Tryz.func169 (by kernel_rfl) rfl #[.int .i64 a1,.int .i64 a2,.int .i64 a3,.int .i64 a4] rfl zL ?_;(with_reducible refine (fJ.calls a1 a2 a3 a4 ahu ahv _ A18.out).mono ?_);rintro e w' ⟨rfl,⟨nd,rfl⟩⟩;refine ⟨_,rfl,?_⟩)|((with_reducible refine ay (f:=170) rfl ?_);refine aH (some 59) rfl rfl Tryz.func170 (by kernel_rfl) rfl #[.int .i64 ahu,.int .i64 ahv] rfl zL ?_;(with_reducible refine (bP.calls k ahu ahv aoZ _ A20.out).mono ?_);rintro e w21 ⟨rfl,hb⟩;refine ⟨_,rfl,?_⟩;replace HB:=aj.mk (ak zB hb);(try clear hb)))
   go_ret
   exact ⟨zS,zB⟩
  ·rw [if_neg c19] at H
   have auF:(a0 == 1)=false:=beq_eq_false_iff_ne.mpr c19
   have auG:(a0 != 1)=true:=bne_iff_ne.mpr c19
   replace H:=zO H
   obtain ⟨ao0,A22,H⟩:=H
   try dsimp only at H
   obtain rfl:=Option.some.inj H
   go_enter Tryz.func141,Tryz.ntmps141
   go_wp2_with (first|((with_reducible refine ay (f:=169) rfl ?_);refine aH (some 52) rfl rfl Tryz.func169 (by kernel_rfl) rfl #[.int .i64 a1,.int .i64 a2,.int .i64 a3,.int .i64 a4] rfl zL ?_;(with_reducible refine (fJ.calls a1 a2 a3 a4 ahu ahv _ A18.out).mono ?_);rintro e w' ⟨rfl,⟨nd,rfl⟩⟩;refine ⟨_,rfl,?_⟩)|((with_reducible refine ay (f:=171) rfl ?_);refine aH (some 62) rfl rfl Tryz.func171 (by kernel_rfl) rfl #[.int .i64 ahu,.int .i64 ahv] rfl zL ?_;(with_reducible refine (dR.calls k ahu ahv ao0 _ A22.out).mono ?_);rintro e w23 ⟨rfl,hb⟩;refine ⟨_,rfl,?_⟩;replace HB:=aj.mk (ak zB hb);(try clear hb)))
   go_ret
   exact ⟨zS,zB⟩
end Go.Proofs.YtpondkggmcmpfaaGreatDoor.QA
namespace Go.Proofs.YtpondkggmcmpfaaGreatDoor.QA
open Go.Proofs.YtpondkggmcmpfaaGreatDoor.T
open Go.RowKit Go.Proofs.YtpondkggmcmpfaaGreatDoorW.PrintWords Go.Proofs.YtpondkggmcmpfaaGreatDoorW.PrintLast Go.Proofs.YtpondkggmcmpfaaGreatDoorW.PrintMore
attribute [local go_sem] dZ dS dU fK fM
set_option linter.unusedVariables false
set_option linter.unusedSimpArgs false
mutual
def bU.l0:Nat→Int→Int→Int→Int→Int→Option (Int × List Int)
 | 0,_,_,_,_,_=>none
 | k+1,x0,x1,x2,x3,x10=>(iY.f x0 x1 x2 x3 (wrap64 (x10 - 1))).bind fun ao1=>(if ao1=true then (bU.l0 k x0 x1 x2 x3 (wrap64 (x10 - 1))) else (bU.l1 k x0 x1 x2 x3 x10))
def bU.l1:Nat→Int→Int→Int→Int→Int→Option (Int × List Int)
 | 0,_,_,_,_,_=>none
 | k+1,x0,x1,x2,x3,x10=>(iY.f x0 x1 x2 x3 x10).bind fun ao2=>(if ao2=true then (bU.l2 k x0 x1 x2 x3 x10 x10 ([]:List Int)) else (bU.l1 k x0 x1 x2 x3 (wrap64 (x10+1))))
def bU.l2:Nat→Int→Int→Int→Int→Int→Int→List Int→Option (Int × List Int)
 | 0,_,_,_,_,_,_,_=>none
 | k+1,x0,x1,x2,x3,x10,x11,x12=>(iY.f x0 x1 x2 x3 x10).bind fun ao3=>(if ao3=true then ((lI.f k x0 x1 x2 x3 x10).bind fun ahw=>(if x12.length < 17592186044416 then (bU.l2 k x0 x1 x2 x3 (wrap64 (x10+1)) x11 (x12 ++ [ahw])) else (none))) else (some (x11,x12)))
end
def bU.f (k:Nat) (a0 a1 a2 a3:Int):Option (Int × List Int):=(kX.f a0 a1 a2 a3).bind fun ao4=>(if ao4=true then (if a2=0 then (none) else (bU.l0 k a0 a1 a2 a3 (wrap64 (Int.tdiv (wrap64 (a3*a1)) a2)))) else (some (0,([]:List Int))))
set_option maxHeartbeats 8000000 in
set_option maxRecDepth 100000 in
theorem bU.calls (k:Nat) (a0 a1 a2 a3 r1:Int) (r2:List Int) (w:World) (h:bU.f k a0 a1 a2 a3=some (r1,r2)) :
  Calls Tryz.prog 114 #[.int .i64 a0,.int .i64 a1,.int .i64 a2,.int .i64 a3] w fun e w'=>∃ v1_:Value,e = .returned (.tuple #[.int .i64 r1,v1_])∧Kd.R (Kd.int .i64) 2 w' w.heap.size (fun _=>True) v1_ r2∧Below w.heap.size w w':=by
 have HB:=aj.mk (Below.refl w.heap.size w)
 have H:=h
 clear h
 unfold bU.f at H
 replace H:=zO H
 obtain ⟨ao4,A5,H⟩:=H
 try dsimp only at H
 by_cases c6:ao4=true
 ·subst c6
  rw [if_pos rfl] at H;try dsimp only at H
  by_cases c7:a2=0
  ·rw [if_pos c7] at H
   exact absurd H (by simp)
  ·rw [if_neg c7] at H
   have jc:(a2 == 0)=false:=beq_eq_false_iff_ne.mpr c7
   have abb:(a2 != 0)=true:=bne_iff_ne.mpr c7
   have H':=aj.mk H
   clear H
   go_enter Tryz.func114,Tryz.ntmps114
   go_wp2_with (first|((with_reducible refine ay (f:=139) rfl ?_);refine aH (some 17) rfl rfl Tryz.func139 (by kernel_rfl) rfl #[.int .i64 a0,.int .i64 a1,.int .i64 a2,.int .i64 a3] rfl zL ?_;(with_reducible refine (kX.calls a0 a1 a2 a3 true _ A5.out).mono ?_);rintro e w' ⟨rfl,⟨nd,rfl⟩⟩;refine ⟨_,rfl,?_⟩))
   go_loopg [10] k (fun kq v10 w'=>∃ (vM:Int),v10 = .int .i64 vM∧aj (bU.l0 kq a0 a1 a2 a3 vM=some (r1,r2))∧aj (kq≤k)∧aj (Below w.heap.size w w'))
   case atStart=>exact ⟨(wrap64 (Int.tdiv (wrap64 (a3*a1)) a2)),zT,H',⟨Nat.le_refl _⟩,⟨zB⟩⟩
   case round =>
    clear H'
    obtain ⟨vM,rfl,HA,HK1,HB⟩:=hrel
    cases gk with
    | zero=>exact absurd HA.out (by simp [bU.l0])
    | succ k1 =>
     have H:=HA.out
     clear HA
     simp only [bU.l0] at H
     replace H:=zO H
     obtain ⟨ao1,A8,H⟩:=H
     try dsimp only at H
     by_cases c9:ao1=true
     ·subst c9
      rw [if_pos rfl] at H;try dsimp only at H
      have H':=aj.mk H
      clear H
      go_wp2_with (first|((with_reducible refine ay (f:=140) rfl ?_);refine aH (some 30) rfl rfl Tryz.func140 (by kernel_rfl) rfl #[.int .i64 a0,.int .i64 a1,.int .i64 a2,.int .i64 a3,.int .i64 (wrap64 (vM - 1))] rfl zL ?_;(with_reducible refine (iY.calls a0 a1 a2 a3 (wrap64 (vM - 1)) true _ A8.out).mono ?_);rintro e w' ⟨rfl,⟨nd,rfl⟩⟩;refine ⟨_,rfl,?_⟩))
      go_roundg k1
      case measure=>have:=HK1.out;omega
      case rel=>exact ⟨(wrap64 (vM - 1)),zT,H',⟨by have:=HK1.out;omega⟩,⟨zB⟩⟩
     ·replace c9:=Bool.eq_false_iff.mpr c9
      subst c9
      rw [if_neg (show ¬ (false=true) by decide)] at H;try dsimp only at H
      have H':=aj.mk H
      clear H
      go_wp2_with (first|((with_reducible refine ay (f:=140) rfl ?_);refine aH (some 30) rfl rfl Tryz.func140 (by kernel_rfl) rfl #[.int .i64 a0,.int .i64 a1,.int .i64 a2,.int .i64 a3,.int .i64 (wrap64 (vM - 1))] rfl zL ?_;(with_reducible refine (iY.calls a0 a1 a2 a3 (wrap64 (vM - 1)) false _ A8.out).mono ?_);rintro e w' ⟨rfl,⟨nd,rfl⟩⟩;refine ⟨_,rfl,?_⟩))
      try simp only [Act.put,List.setIfInBounds_toArray,List.set_cons_succ,List.set_cons_zero]
      go_loopg [10] k1 (fun kq v10 w'=>∃ (je:Int),v10 = .int .i64 je∧aj (bU.l1 kq a0 a1 a2 a3 je=some (r1,r2))∧aj (kq≤k1)∧aj (Below w.heap.size w w'))
      case atStart=>exact ⟨(vM),zT,H',⟨Nat.le_refl _⟩,⟨zB⟩⟩
      case round =>
       clear H'
       obtain ⟨je,rfl,HA,HK2,HB⟩:=hrel
       cases gk with
       | zero=>exact absurd HA.out (by simp [bU.l1])
       | succ k2 =>
        have H:=HA.out
        clear HA
        simp only [bU.l1] at H
        replace H:=zO H
        obtain ⟨ao2,A10,H⟩:=H
        try dsimp only at H
        by_cases c11:ao2=true
        ·subst c11
         rw [if_pos rfl] at H;try dsimp only at H
         have H':=aj.mk H
         clear H
         go_wp2_with (first|((with_reducible refine ay (f:=140) rfl ?_);refine aH (some 38) rfl rfl Tryz.func140 (by kernel_rfl) rfl #[.int .i64 a0,.int .i64 a1,.int .i64 a2,.int .i64 a3,.int .i64 je] rfl zL ?_;(with_reducible refine (iY.calls a0 a1 a2 a3 je true _ A10.out).mono ?_);rintro e w' ⟨rfl,⟨nd,rfl⟩⟩;refine ⟨_,rfl,?_⟩))
         try simp only [Act.put,List.setIfInBounds_toArray,List.set_cons_succ,List.set_cons_zero]
         go_loopg [10,12] k2 (fun kq v10 v12 w'=>∃ (mY:Int) (aeQ:List Int),v10 = .int .i64 mY∧aj (bU.l2 kq a0 a1 a2 a3 mY je aeQ=some (r1,r2))∧aj (kq≤k2)∧aj (Kd.R (Kd.int .i64) 2 w' w.heap.size (fun _=>True) v12 aeQ)∧aj (Below w.heap.size w w'))
         case atStart=>exact ⟨(je),(([]:List Int)),zT,H',⟨Nat.le_refl _⟩,⟨by first|exact Kd.jR _ _ _ _ _|exact Kd.oW _ _ _ _ _|exact Kd.nP _ _ _ _ _|exact Kd.oZ _ _ _ _ _|exact Kd.oL _ _ _ _ _⟩,⟨zB⟩⟩
         case round =>
          clear H'
          obtain ⟨mY,aeQ,rfl,HA,HK3,ai4,HB⟩:=hrel
          cases gk with
          | zero=>exact absurd HA.out (by simp [bU.l2])
          | succ k3 =>
           have H:=HA.out
           clear HA
           simp only [bU.l2] at H
           replace H:=zO H
           obtain ⟨ao3,A12,H⟩:=H
           try dsimp only at H
           by_cases c13:ao3=true
           ·subst c13
            rw [if_pos rfl] at H;try dsimp only at H
            replace H:=zO H
            obtain ⟨ahw,A14,H⟩:=H
            try dsimp only at H
            by_cases c15:aeQ.length < 17592186044416
            ·rw [if_pos c15] at H
             have amw:=aj.mk c15
             clear c15
             obtain ⟨asC,agy⟩:∃ y_:List Int,y_=(aeQ ++ [ahw]):=⟨_,rfl⟩
             replace H:(bU.l2 k3 a0 a1 a2 a3 (wrap64 (mY+1)) je asC)=some (r1,r2):=by first|(rw [agy];with_reducible exact H)|(have H2_:=(Option.bind_some _ _).symm.trans H;rw [agy];with_reducible exact H2_)|(have H2_:=(Option.bind_some _ _).symm.trans H;with_reducible exact H2_)|with_reducible exact H|(rw [agy];exact H)|exact H
             have auH:=aj.mk agy
             clear agy
             have H':=aj.mk H
             clear H
             go_wp2_with (first|((with_reducible refine ay (f:=140) rfl ?_);refine aH (some 48) rfl rfl Tryz.func140 (by kernel_rfl) rfl #[.int .i64 a0,.int .i64 a1,.int .i64 a2,.int .i64 a3,.int .i64 mY] rfl zL ?_;(with_reducible refine (iY.calls a0 a1 a2 a3 mY true _ A12.out).mono ?_);rintro e w' ⟨rfl,⟨nd,rfl⟩⟩;refine ⟨_,rfl,?_⟩)|((with_reducible refine ay (f:=141) rfl ?_);refine aH (some 55) rfl rfl Tryz.func141 (by kernel_rfl) rfl #[.int .i64 a0,.int .i64 a1,.int .i64 a2,.int .i64 a3,.int .i64 mY] rfl zL ?_;(with_reducible refine (lI.calls k3 a0 a1 a2 a3 mY ahw _ A14.out).mono ?_);rintro e w16 ⟨rfl,hb⟩;refine ⟨_,rfl,?_⟩;obtain ⟨ai4,HB⟩:=zA2 (Kd.jA (by (with_reducible repeat (first|apply Kd.aJ|apply Kd.aK|apply Kd.aU));exact ai4.out) hb) (ak zB hb);(try clear hb))|((with_reducible refine jG (b := .append) (xs := #[.tmp 49,.tmp 56]) rfl ?_);at_builtin;refine Kd.kJ (Kd.int .i64) (w0:=w) w.heap.size rfl (.tmp 49) (.tmp 56) 44 2 (.int .i64 0) 8 rfl Tryz.underlying44 vC rfl (by decide) (by omega) u12 aeQ ahw [.int .i64 ahw] (fun _=>True) (fun _=>False) rfl rfl ?aP (fun _ hk=>hk.elim) ?aF ?aO ?aB ?aS ?aL ?_;(case aP=>exact rfl);(case aB=>exact zB);(case aF=>exact (fun _ _=>trivial));(case aO=>exact (by (with_reducible repeat (first|apply Kd.aJ|apply Kd.aK|apply Kd.aU));exact ai4.out));(case aS=>exact (bJ zB));(case aL=>have:=amw.out;omega);intro aAT w17 ho hb hg hat;rw [← auH.out] at ho;obtain ⟨HB,auI⟩:=zA2 hb ho;clear ho hb hg hat))
             go_roundg k3
             case measure=>have:=HK1.out;have:=HK2.out;have:=HK3.out;omega
             case rel=>exact ⟨(wrap64 (mY+1)),(asC),zT,H',⟨by have:=HK1.out;have:=HK2.out;have:=HK3.out;omega⟩,⟨by (with_reducible repeat (first|apply Kd.aJ|apply Kd.aK|apply Kd.aU));exact auI.out⟩,⟨zB⟩⟩
            ·rw [if_neg c15] at H
             exact absurd H (by simp)
           ·replace c13:=Bool.eq_false_iff.mpr c13
            subst c13
            rw [if_neg (show ¬ (false=true) by decide)] at H;try dsimp only at H
            simp only [Option.some.injEq,Prod.mk.injEq] at H
            obtain ⟨rfl,rfl⟩:=H
            go_wp2_with (first|((with_reducible refine ay (f:=140) rfl ?_);refine aH (some 48) rfl rfl Tryz.func140 (by kernel_rfl) rfl #[.int .i64 a0,.int .i64 a1,.int .i64 a2,.int .i64 a3,.int .i64 mY] rfl zL ?_;(with_reducible refine (iY.calls a0 a1 a2 a3 mY false _ A12.out).mono ?_);rintro e w' ⟨rfl,⟨nd,rfl⟩⟩;refine ⟨_,rfl,?_⟩))
            go_ret2
            exact ⟨_,zS,by (with_reducible repeat (first|apply Kd.aJ|apply Kd.aK|apply Kd.aU));exact ai4.out,zB⟩
        ·replace c11:=Bool.eq_false_iff.mpr c11
         subst c11
         rw [if_neg (show ¬ (false=true) by decide)] at H;try dsimp only at H
         have H':=aj.mk H
         clear H
         go_wp2_with (first|((with_reducible refine ay (f:=140) rfl ?_);refine aH (some 38) rfl rfl Tryz.func140 (by kernel_rfl) rfl #[.int .i64 a0,.int .i64 a1,.int .i64 a2,.int .i64 a3,.int .i64 je] rfl zL ?_;(with_reducible refine (iY.calls a0 a1 a2 a3 je false _ A10.out).mono ?_);rintro e w' ⟨rfl,⟨nd,rfl⟩⟩;refine ⟨_,rfl,?_⟩))
         go_roundg k2
         case measure=>have:=HK1.out;have:=HK2.out;omega
         case rel=>exact ⟨(wrap64 (je+1)),zT,H',⟨by have:=HK1.out;have:=HK2.out;omega⟩,⟨zB⟩⟩
 ·replace c6:=Bool.eq_false_iff.mpr c6
  subst c6
  rw [if_neg (show ¬ (false=true) by decide)] at H;try dsimp only at H
  simp only [Option.some.injEq,Prod.mk.injEq] at H
  obtain ⟨rfl,rfl⟩:=H
  go_enter Tryz.func114,Tryz.ntmps114
  go_wp2_with (first|((with_reducible refine ay (f:=139) rfl ?_);refine aH (some 17) rfl rfl Tryz.func139 (by kernel_rfl) rfl #[.int .i64 a0,.int .i64 a1,.int .i64 a2,.int .i64 a3] rfl zL ?_;(with_reducible refine (kX.calls a0 a1 a2 a3 false _ A5.out).mono ?_);rintro e w' ⟨rfl,⟨nd,rfl⟩⟩;refine ⟨_,rfl,?_⟩))
  go_ret2
  exact ⟨_,zS,by first|exact Kd.jR _ _ _ _ _|exact Kd.oW _ _ _ _ _|exact Kd.nP _ _ _ _ _|exact Kd.oZ _ _ _ _ _|exact Kd.oL _ _ _ _ _,zB⟩
def iF.f (a0:Int):Option (Int):=if a0≥0 then (some a0) else (if a0 < (-9223372036854775807) then (some 9223372036854775807) else (some (wrap64 (-a0))))
set_option maxHeartbeats 8000000 in
set_option maxRecDepth 100000 in
theorem iF.calls (a0 r:Int) (w:World) (h:iF.f a0=some r) :
  Calls Tryz.prog 142 #[.int .i64 a0] w fun e w'=>e = .returned (.int .i64 r)∧dw w w':=by
 have H:=h
 clear h
 unfold iF.f at H
 by_cases c2:a0≥0
 ·rw [if_pos c2] at H
  have mZ:=decide_eq_true c2
  clear c2
  obtain rfl:=Option.some.inj H
  go_enter Tryz.func142,Tryz.ntmps142
  go_wp2
  go_ret
  exact ⟨zT,zW⟩
 ·rw [if_neg c2] at H
  have mZ:=decide_eq_false c2
  clear c2
  by_cases c3:a0 < (-9223372036854775807)
  ·rw [if_pos c3] at H
   have fP:=decide_eq_true c3
   clear c3
   obtain rfl:=Option.some.inj H
   go_enter Tryz.func142,Tryz.ntmps142
   go_wp2
   go_ret
   exact ⟨zT,zW⟩
  ·rw [if_neg c3] at H
   have fP:=decide_eq_false c3
   clear c3
   obtain rfl:=Option.some.inj H
   go_enter Tryz.func142,Tryz.ntmps142
   go_wp2
   go_ret
   exact ⟨zT,zW⟩
end Go.Proofs.YtpondkggmcmpfaaGreatDoor.QA
namespace Go.Proofs.YtpondkggmcmpfaaGreatDoor.QA
open Go.Proofs.YtpondkggmcmpfaaGreatDoor.T
open Go.RowKit Go.Proofs.YtpondkggmcmpfaaGreatDoorW.PrintWords Go.Proofs.YtpondkggmcmpfaaGreatDoorW.PrintLast Go.Proofs.YtpondkggmcmpfaaGreatDoorW.PrintMore
attribute [local go_sem] dZ dS dU fK fM
set_option linter.unusedVariables false
set_option linter.unusedSimpArgs false
def gB.j0:Nat→Int→Int→Bool→Option (Int)
 | 0,_,_,_=>none
 | k+1,x0,x1,x12=>if x12=true then (some 9223372036854775807) else (if x1 < 0 then (if x0 < (wrap64 ((-9223372036854775808) - x1)) then (some (-9223372036854775808)) else (some (wrap64 (x0+x1)))) else (some (wrap64 (x0+x1))))
def gB.f (k:Nat) (a0 a1:Int):Option (Int):=if a1 > 0 then (gB.j0 k a0 a1 (decide (a0 > (wrap64 (9223372036854775807 - a1))))) else (gB.j0 k a0 a1 false)
set_option maxHeartbeats 8000000 in
set_option maxRecDepth 100000 in
theorem gB.calls (k:Nat) (a0 a1 r:Int) (w:World) (h:gB.f k a0 a1=some r) :
  Calls Tryz.prog 147 #[.int .i64 a0,.int .i64 a1] w fun e w'=>e = .returned (.int .i64 r)∧dw w w':=by
 have H:=h
 clear h
 unfold gB.f at H
 have HC3:=aj.mk H
 clear H
 go_enter Tryz.func147,Tryz.ntmps147
 go_upto_region 1 with (fail)
 go_cut [12] (fun v12 wc=>∃ (kq:Nat) (ai5:Bool),v12 = .bool ai5∧aj (gB.j0 kq a0 a1 ai5=some r)∧aj (kq≤k)∧dw w wc)
 case first =>
  have H:=HC3.out
  clear HC3
  by_cases c4:a1 > 0
  ·rw [if_pos c4] at H
   have fE:=decide_eq_true c4
   clear c4
   (first|rw [fE]|(simp only [bY,cZ];rw [fE])|skip)
   have H':=aj.mk H
   clear H
   go_wp2
   go_meet
   case rel=>exact ⟨_,(decide (a0 > (wrap64 (9223372036854775807 - a1)))),zT,H',⟨by first|omega|exact Nat.le_refl _⟩,zW⟩
  ·rw [if_neg c4] at H
   have fE:=decide_eq_false c4
   clear c4
   (first|rw [fE]|(simp only [bY,cZ];rw [fE])|skip)
   have H':=aj.mk H
   clear H
   go_wp2
   go_meet
   case rel=>exact ⟨_,(false),zT,H',⟨by first|omega|exact Nat.le_refl _⟩,zW⟩
 case rest =>
  clear HC3
  obtain ⟨kq,ai5,rfl,HA,HJ2,⟨mc2,rfl⟩⟩:=hcut
  cases kq with
  | zero=>exact absurd HA.out (by simp [gB.j0])
  | succ kj2 =>
   have H:=HA.out
   clear HA
   simp only [gB.j0] at H
   by_cases c5:ai5=true
   ·subst c5
    rw [if_pos rfl] at H;try dsimp only at H
    obtain rfl:=Option.some.inj H
    go_wp2
    go_ret
    exact ⟨zT,zW⟩
   ·replace c5:=Bool.eq_false_iff.mpr c5
    subst c5
    rw [if_neg (show ¬ (false=true) by decide)] at H;try dsimp only at H
    by_cases c6:a1 < 0
    ·rw [if_pos c6] at H
     have gQ:=decide_eq_true c6
     clear c6
     by_cases c7:a0 < (wrap64 ((-9223372036854775808) - a1))
     ·rw [if_pos c7] at H
      have jc:=decide_eq_true c7
      clear c7
      obtain rfl:=Option.some.inj H
      go_wp2
      go_ret
      exact ⟨zT,zW⟩
     ·rw [if_neg c7] at H
      have jc:=decide_eq_false c7
      clear c7
      obtain rfl:=Option.some.inj H
      go_wp2
      go_ret
      exact ⟨zT,zW⟩
    ·rw [if_neg c6] at H
     have gQ:=decide_eq_false c6
     clear c6
     obtain rfl:=Option.some.inj H
     go_wp2
     go_ret
     exact ⟨zT,zW⟩
def dY.l0:Nat→Int→List Int→Int→Int→Option (Int)
 | 0,_,_,_,_=>none
 | k+1,x3,x6,x7,x8=>if x8 < x7 then (if 0≤x8 then (if x8 < (x6.length:Int) then ((gB.f k x3 (rd x6 x8)).bind fun amx=>(dY.l0 k amx x6 x7 (wrap64 (x8+1)))) else (none)) else (none)) else (some x3)
def dY.f (k:Nat) (l0:List Int):Option (Int):=dY.l0 k 0 l0 (l0.length:Int) 0
set_option maxHeartbeats 8000000 in
set_option maxRecDepth 100000 in
theorem dY.calls (k:Nat) (A0:Option Addr) (c0:Nat) (l0:List Int) (r:Int) (w:World) (hr0:Kd.C (Kd.int .i64) w A0 l0.length l0) (hc0:l0.length≤c0) (h:dY.f k l0=some r) :
  Calls Tryz.prog 143 #[.slice A0 l0.length c0] w fun e w'=>e = .returned (.int .i64 r)∧dw w w':=by
 have HR0:=aj.mk hr0
 have HC0:=aj.mk hc0
 clear hr0 hc0
 have H:=h
 clear h
 unfold dY.f at H
 have H':=aj.mk H
 clear H
 go_enter Tryz.func143,Tryz.ntmps143
 go_wp2
 go_loopg [3,8] k (fun kq v3 v8 w'=>∃ (qN:Int) (gK:Int),v3 = .int .i64 qN∧v8 = .int .i64 gK∧aj (dY.l0 kq qN l0 (l0.length:Int) gK=some r)∧aj (kq≤k)∧dw w w')
 case atStart=>exact ⟨(0),(0),zT,zT,H',⟨Nat.le_refl _⟩,zW⟩
 case round =>
  clear H'
  obtain ⟨qN,gK,rfl,rfl,HA,HK1,⟨m1,rfl⟩⟩:=hrel
  cases gk with
  | zero=>exact absurd HA.out (by simp [dY.l0])
  | succ k1 =>
   have H:=HA.out
   clear HA
   simp only [dY.l0] at H
   by_cases c2:gK < (l0.length:Int)
   ·rw [if_pos c2] at H
    have mZ:=decide_eq_true c2
    clear c2
    by_cases c3:0≤gK
    ·rw [if_pos c3] at H
     have fP:=decide_eq_true c3
     clear c3
     by_cases c4:gK < (l0.length:Int)
     ·rw [if_pos c4] at H
      have fE:=decide_eq_true c4
      clear c4
      replace H:=zO H
      obtain ⟨amx,A5,H⟩:=H
      try dsimp only at H
      have H':=aj.mk H
      clear H
      have ao5:0≤(gK:Int):=of_decide_eq_true (by first|(with_reducible assumption)|assumption)
      have ao6:gK < (l0.length:Int):=of_decide_eq_true (by first|(with_reducible assumption)|assumption)
      obtain ⟨az0,avF,axE⟩:=Kd.jF HR0.out gK ao5 ao6
      cases avF
      replace ao5:=eq_true ao5
      replace ao6:=eq_true ao6
      go_wp2_with (first|((with_reducible refine ay (f:=147) rfl ?_);refine aH (some 14) rfl rfl Tryz.func147 (by kernel_rfl) rfl #[.int .i64 qN,.int .i64 (rd l0 gK)] rfl zL ?_;(with_reducible refine (gB.calls k1 qN (rd l0 gK) amx _ A5.out).mono ?_);rintro e w' ⟨rfl,⟨nd,rfl⟩⟩;refine ⟨_,rfl,?_⟩))
      go_roundg k1
      case measure=>have:=HK1.out;omega
      case rel=>exact ⟨(amx),(wrap64 (gK+1)),zT,zT,H',⟨by have:=HK1.out;omega⟩,zW⟩
     ·rw [if_neg c4] at H
      exact absurd H (by simp)
    ·rw [if_neg c3] at H
     exact absurd H (by simp)
   ·rw [if_neg c2] at H
    have mZ:=decide_eq_false c2
    clear c2
    obtain rfl:=Option.some.inj H
    go_wp2
    go_ret
    exact ⟨zT,zW⟩
end Go.Proofs.YtpondkggmcmpfaaGreatDoor.QA
