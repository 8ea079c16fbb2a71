/- Joined by wip/tools/bundle.py out of: QAx28 QAx29 QAx30 QAx31 QAx32 QAx33 QAx34. -/
import Derived.Test.YtpondkggmcmpfaaGreatDoorBDirectNever0
import Derived.Test.YtpondkggmcmpfaaGreatDoorBDirectNever1
import Derived.Test.YtpondkggmcmpfaaGreatDoorBDirectNever9
namespace Go.Proofs.YtpondkggmcmpfaaGreatDoor.QA
open Go.Proofs.YtpondkggmcmpfaaGreatDoor.T
open Go.RowKit Go.Proofs.YtpondkggmcmpfaaGreatDoorW.PrintWords Go.Proofs.YtpondkggmcmpfaaGreatDoorW.PrintLast Go.Proofs.YtpondkggmcmpfaaGreatDoorW.PrintMore
attribute [local go_sem] dV dP dQ fC fD
set_option linter.unusedVariables false
set_option linter.unusedSimpArgs false
mutual
def aJ.l0:Nat→Int→Int→Int→Int→Int→Int→Option (Int)
 | 0,_,_,_,_,_,_=>none
 | k+1,x0,x1,x20,x21,rC,rD=>if x21 < x20 then ((dI.f rC rD 0).bind fun asF=>(aJ.l0 k x0 x1 x20 (wrap64 (x21+1)) asF.1 asF.2)) else ((dK.f x0).bind fun uo=>(aJ.l1 k x0 x1 127 rC rD 0 uo 0 0))
def aJ.l1:Nat→Int→Int→Int→Int→Int→Int→Int→Int→Int→Option (Int)
 | 0,_,_,_,_,_,_,_,_,_=>none
 | k+1,x0,x1,x8,rC,rD,uS,uT,rE,rF=>if x8≥x1 then ((fJ.f uS uT x8).bind fun aln=>((dI.f rE rF aln).bind fun asG=>(aJ.l1 k x0 x1 (wrap64 (x8 - 1)) rC rD uS uT asG.1 asG.2))) else (aJ.l2 k x0 x1 rC rD uS uT rE rF uS uT)
def aJ.l2:Nat→Int→Int→Int→Int→Int→Int→Int→Int→Int→Int→Option (Int)
 | 0,_,_,_,_,_,_,_,_,_,_=>none
 | k+1,x0,x10,rC,rD,uS,uT,rE,rF,aaC,aaD=>if x10 < 128 then ((fJ.f uS uT x10).bind fun adQ=>(if adQ=1 then (aJ.l3 k x0 x10 x10 0 rC rD uS uT rE rF aaC aaD 0 1) else (aJ.l2 k x0 (wrap64 (x10+1)) rC rD uS uT rE rF aaC aaD))) else ((iC.f aaC aaD rC rD).bind fun anM=>(if x0 < 0 then ((iC.f rC rD aaC aaD).bind fun anN=>(aJ.j4 k x0 anN rE rF)) else (aJ.j4 k x0 (!anM) rE rF)))
def aJ.l3:Nat→Int→Int→Int→Int→Int→Int→Int→Int→Int→Int→Int→Int→Int→Int→Option (Int)
 | 0,_,_,_,_,_,_,_,_,_,_,_,_,_,_=>none
 | k+1,x0,x10,x51,x52,rC,rD,uS,uT,rE,rF,aaC,aaD,amV,amW=>if x52 < x51 then ((dI.f amV amW 0).bind fun asH=>(aJ.l3 k x0 x10 x51 (wrap64 (x52+1)) rC rD uS uT rE rF aaC aaD asH.1 asH.2)) else ((kC.f aaC aaD amV amW).bind fun asI=>(aJ.l2 k x0 (wrap64 (x10+1)) rC rD uS uT rE rF asI.1 asI.2))
def aJ.j4:Nat→Int→Bool→Int→Int→Option (Int)
 | 0,_,_,_,_=>none
 | k+1,x0,x12,rE,rF=>if x12=true then ((gW.f rE rF 0 1).bind fun asJ=>((bU.f k asJ.1 asJ.2 (decide (x0 < 0))).bind fun aqB=>(some aqB))) else ((bU.f k rE rF (decide (x0 < 0))).bind fun aqC=>(some aqC))
end
def aJ.f (k:Nat) (a0 a1:Int):Option (Int):=if a1 < 1 then (some a0) else (if a1 > 64 then (some 0) else (aJ.l0 k a0 a1 (wrap64 (a1 - 1)) 0 0 1))
set_option maxHeartbeats 8000000 in
set_option maxRecDepth 100000 in
theorem aJ.calls (k:Nat) (a0 a1 r:Int) (w:World) (h:aJ.f k a0 a1=some r) :
  Calls Tryz.prog 101 #[.int .i64 a0,.int .i64 a1] w fun e w'=>e = .returned (.int .i64 r)∧Below w.heap.size w w':=by
 have yE:=Tryz.underlying179
 have HB:=aj.mk (Below.refl w.heap.size w)
 have H:=h
 clear h
 unfold aJ.f at H
 by_cases c3:a1 < 1
 ·rw [if_pos c3] at H
  have fQ:=decide_eq_true c3
  clear c3
  obtain rfl:=Option.some.inj H
  go_enter Tryz.func101,Tryz.ntmps101
  go_wp2
  go_ret
  exact ⟨zS,zB⟩
 ·rw [if_neg c3] at H
  have fQ:=decide_eq_false c3
  clear c3
  by_cases c4:a1 > 64
  ·rw [if_pos c4] at H
   have fB:=decide_eq_true c4
   clear c4
   obtain rfl:=Option.some.inj H
   go_enter Tryz.func101,Tryz.ntmps101
   go_wp2
   go_ret
   exact ⟨zS,zB⟩
  ·rw [if_neg c4] at H
   have fB:=decide_eq_false c4
   clear c4
   have H':=aj.mk H
   clear H
   go_enter Tryz.func101,Tryz.ntmps101
   go_wp2_with (first|((with_reducible refine bF (N:=5) rfl ?_);refine bG zR (N:=5) zR (cs := #[.int .u64 0,.int .u64 0]) (t:=179) zG ?_;intro afN hg w5 hbox hb;obtain ⟨HB,dX,aBb,aBd⟩:=zA4 (ak zB hb) hbox (zg hg zB) (zg hg zB);clear hb hbox hg;obtain ⟨_,_⟩:=zC2 dX.out;obtain ⟨_,_⟩:=zF2 dX.out))
   go_loopg [21] k (fun kq v21 w'=>∃ (wQ:Int) (jZ:Int) (jR:Int),v21 = .int .i64 wQ∧aj (aJ.l0 kq a0 a1 (wrap64 (a1 - 1)) wQ jZ jR=some r)∧aj (kq≤k)∧aj (w'.heap[afN]? = some (.cells #[.int .u64 jZ,.int .u64 jR] 179 (0,0)))∧aj (Below w.heap.size w w'))
   case atStart=>exact ⟨(0),(0),(1),zT,H',⟨Nat.le_refl _⟩,⟨by refine zD ?_;refine aY (cs := #[.int .u64 0,.int .u64 0]) ?_ 1 _ rfl;refine zD ?_;refine aY (cs := #[.int .u64 0,.int .u64 0]) ?_ 0 _ rfl;refine zD ?_;exact dX.out⟩,⟨zB⟩⟩
   case round =>
    clear H'
    obtain ⟨wQ,jZ,jR,rfl,HA,HK1,dX,HB⟩:=hrel
    cases gk with
    | zero=>exact absurd HA.out (by simp [aJ.l0])
    | succ k1 =>
     have H:=HA.out
     clear HA
     simp only [aJ.l0] at H
     by_cases c7:wQ < (wrap64 (a1 - 1))
     ·rw [if_pos c7] at H
      have jf:=decide_eq_true c7
      clear c7
      replace H:=zO H
      obtain ⟨⟨aqD,auY⟩,A8,H⟩:=H
      try dsimp only at H
      have H':=aj.mk H
      clear H
      obtain ⟨_,_⟩:=zC2 dX.out
      obtain ⟨_,_⟩:=zF2 dX.out
      go_wp2_with (first|((with_reducible refine ay (f:=119) rfl ?_);refine aH (some 24) rfl rfl Tryz.func119 (by kernel_rfl) rfl #[.agg #[.int .u64 jZ,.int .u64 jR],.int .u64 0] rfl zL ?_;(with_reducible refine (dI.calls jZ jR 0 aqD auY _ A8.out).mono ?_);rintro e w10 ⟨rfl,hb⟩;refine ⟨_,rfl,?_⟩;obtain ⟨dX,HB⟩:=zA2 (aA (zK dX) hb) (ak zB hb);(try clear hb);obtain ⟨_,_⟩:=zC2 dX.out;obtain ⟨_,_⟩:=zF2 dX.out))
      go_roundg k1
      case measure=>have:=HK1.out;omega
      case rel=>exact ⟨(wrap64 (wQ+1)),(aqD),(auY),zT,H',⟨by have:=HK1.out;omega⟩,⟨by refine zD ?_;refine aY (cs := #[.int .u64 aqD,.int .u64 jR]) ?_ 1 _ rfl;refine zD ?_;refine aY (cs := #[.int .u64 jZ,.int .u64 jR]) ?_ 0 _ rfl;refine zD ?_;exact dX.out⟩,⟨zB⟩⟩
     ·rw [if_neg c7] at H
      have jf:=decide_eq_false c7
      clear c7
      replace H:=zO H
      obtain ⟨uo,A12,H⟩:=H
      try dsimp only at H
      have H':=aj.mk H
      clear H
      go_wp2_with (first|((with_reducible refine ay (f:=120) rfl ?_);refine aH (some 27) rfl rfl Tryz.func120 (by kernel_rfl) rfl #[.int .i64 a0] rfl zL ?_;(with_reducible refine (dK.calls a0 uo _ A12.out).mono ?_);rintro e w' ⟨rfl,⟨nd,rfl⟩⟩;refine ⟨_,rfl,?_⟩;(try (rw [oP wr];generalize hq_:World.drewN wr _=wr;have n0_:aj (wr.heap[afN]? = some (.cells #[.int .u64 jZ,.int .u64 jR] 179 (0,0))):=⟨by rw [← hq_];exact (zK dX)⟩;have n1_:aj (Below w.heap.size w wr):=⟨by rw [← hq_];exact zB⟩;clear dX HB hq_;have dX:=n0_;have HB:=n1_;clear n0_ n1_)))|((with_reducible refine bF (N:=6) rfl ?_);refine bG zR (N:=6) zR (cs := #[.int .u64 0,.int .u64 0]) (t:=179) zG ?_;intro aac hg w13 hbox hb;obtain ⟨dX,HB,fK,aBe,aBf,yT,yU⟩:=zA7 (aA (zK dX) hb) (ak zB hb) hbox (zg hg zB) (zg hg zB) (zl hg (zK dX)) (zr hg (zK dX));clear hb hbox hg;have asK:=yU.out;have asL:=yT.out;obtain ⟨_,_⟩:=zC2 fK.out;obtain ⟨_,_⟩:=zF2 fK.out)|((with_reducible refine bF (N:=7) rfl ?_);refine bG zR (N:=7) zR (cs := #[.int .u64 0,.int .u64 0]) (t:=179) zG ?_;intro aad hg w16 hbox hb;obtain ⟨dX,fK,HB,fM,aBg,aBh,xq,xu,vk,vw⟩:=aew (aA (zK dX) hb) (aA (g:=aac) (o := .cells #[.int .u64 0,.int .u64 uo] 179 (0,0)) (by refine zD ?_;refine aY (cs := #[.int .u64 0,.int .u64 0]) ?_ 1 _ rfl;refine zD ?_;refine aY (cs := #[.int .u64 0,.int .u64 0]) ?_ 0 _ rfl;refine zD ?_;exact fK.out) hb) (ak zB hb) hbox (zg hg zB) (zg hg zB) (zl hg (zK dX)) (zr hg (zK dX)) ((by rw [hg];exact Nat.ne_of_lt (bC (g:=aac) (o := .cells #[.int .u64 0,.int .u64 uo] 179 (0,0)) (by refine zD ?_;refine aY (cs := #[.int .u64 0,.int .u64 0]) ?_ 1 _ rfl;refine zD ?_;refine aY (cs := #[.int .u64 0,.int .u64 0]) ?_ 0 _ rfl;refine zD ?_;exact fK.out)):aac≠aad)) ((by rw [hg];exact Nat.ne_of_gt (bC (g:=aac) (o := .cells #[.int .u64 0,.int .u64 uo] 179 (0,0)) (by refine zD ?_;refine aY (cs := #[.int .u64 0,.int .u64 0]) ?_ 1 _ rfl;refine zD ?_;refine aY (cs := #[.int .u64 0,.int .u64 0]) ?_ 0 _ rfl;refine zD ?_;exact fK.out)):aad≠aac));clear hb hbox hg;have awh:=xu.out;have awi:=xq.out;have aBi:=vw.out;have aBj:=vk.out;obtain ⟨_,_⟩:=zC2 fM.out;obtain ⟨_,_⟩:=zF2 fM.out))
      try simp only [Act.put,List.setIfInBounds_toArray,List.set_cons_succ,List.set_cons_zero]
      go_loopg [8] k1 (fun kq v8 w'=>∃ (lM:Int) (jS:Int) (jr:Int),v8 = .int .i64 lM∧aj (aJ.l1 kq a0 a1 lM jZ jR 0 uo jS jr=some r)∧aj (kq≤k1)∧aj (w'.heap[afN]? = some (.cells #[.int .u64 jZ,.int .u64 jR] 179 (0,0)))∧aj (w'.heap[aac]? = some (.cells #[.int .u64 0,.int .u64 uo] 179 (0,0)))∧aj (w'.heap[aad]? = some (.cells #[.int .u64 jS,.int .u64 jr] 179 (0,0)))∧aj (Below w.heap.size w w'))
      case atStart=>exact ⟨(127),(0),(0),zT,H',⟨Nat.le_refl _⟩,⟨zK dX⟩,⟨zK fK⟩,⟨by refine zD ?_;refine aY (cs := #[.int .u64 0,.int .u64 0]) ?_ 1 _ rfl;refine zD ?_;refine aY (cs := #[.int .u64 0,.int .u64 0]) ?_ 0 _ rfl;refine zD ?_;exact fM.out⟩,⟨zB⟩⟩
      case round =>
       clear H'
       obtain ⟨lM,jS,jr,rfl,HA,HK2,dX,fK,fM,HB⟩:=hrel
       cases gk with
       | zero=>exact absurd HA.out (by simp [aJ.l1])
       | succ k2 =>
        have H:=HA.out
        clear HA
        simp only [aJ.l1] at H
        by_cases c20:lM≥a1
        ·rw [if_pos c20] at H
         have awj:=decide_eq_true c20
         clear c20
         replace H:=zO H
         obtain ⟨aln,A21,H⟩:=H
         try dsimp only at H
         replace H:=zO H
         obtain ⟨⟨aqE,auZ⟩,A22,H⟩:=H
         try dsimp only at H
         have H':=aj.mk H
         clear H
         try go_wp2
         obtain ⟨dX,fK,fM,HB⟩:=zA4 (kH dX.out) (kH fK.out) (kH fM.out) (aZ HB.out)
         refine ade (n:=6) (S:=fun w'=>w'.cell? ⟨aad,0,none⟩=some (.int .u64 jS)∧w'.cell? ⟨aad,1,none⟩=some (.int .u64 jr)∧w'.cell? ⟨aac,0,none⟩=some (.int .u64 0)∧w'.cell? ⟨aac,1,none⟩=some (.int .u64 uo)) (ds:=[5]) #[false,false,false,false,false,false] (by kernel_rfl) rfl rfl ⟨(au fM.out 0).trans rfl,(au fM.out 1).trans rfl,(au fK.out 0).trans rfl,(au fK.out 1).trans rfl⟩ (fun hHeld => ?_)
         generalize wr.drew=w23 at dX fK fM HB hHeld ⊢
         refine yA (i:=2) (N:=some 37) (v := ?_) (a' := ?_) #[false,false,true,false,false,false] rfl rfl (by kernel_rfl) (fun _ _ _ h=>h) (Or.inl ⟨by rfl,?_⟩) ?_ ?_
         rotate_left
         ·intro w'
          go_simp
          with_reducible rfl
         rotate_left
         ·simp only [Act.put,List.setIfInBounds_toArray,List.set_cons_zero,List.set_cons_succ,bY,dw]
          rfl
         refine zu (i:=0) (N:=some 35) (v := ?_) (a' := ?_) #[true,false,true,false,false,false] rfl rfl (by kernel_rfl) (fun _ _ _ h=>h) (Or.inl ⟨by rfl,?_⟩) hHeld ?_ ?_
         rotate_left
         ·rintro w' ⟨s0,s1,s2,s3⟩
          go_simp
          with_reducible rfl
         rotate_left
         ·simp only [Act.put,List.setIfInBounds_toArray,List.set_cons_zero,List.set_cons_succ,bY,dw]
          rfl
         refine zu (i:=1) (N:=some 36) (v := ?_) (a' := ?_) #[true,true,true,false,false,false] rfl rfl (by kernel_rfl) (fun _ _ _ h=>h) (Or.inl ⟨by rfl,?_⟩) hHeld ?_ ?_
         rotate_left
         ·rintro w' ⟨s0,s1,s2,s3⟩
          go_simp
          with_reducible rfl
         rotate_left
         ·simp only [Act.put,List.setIfInBounds_toArray,List.set_cons_zero,List.set_cons_succ,bY,dw]
          rfl
         refine abP (i:=3) (N:=some 38) #[true,true,true,true,false,false] rfl rfl (by kernel_rfl) (by decide) (fun K hK => ?_)
         refine aaO Tryz.func121 (by kernel_rfl) rfl #[.agg #[.int .u64 0,.int .u64 uo],.int .i64 lM] (by rfl) rfl rfl zL ?_
         with_reducible refine (fJ.calls 0 uo lM aln _ A21.out).mono ?_
         rintro e w24 ⟨rfl,hb⟩
         refine ⟨_,rfl,?_⟩
         obtain ⟨dX,fK,fM,HB⟩:=zA4 (aA (zK dX) hb) (aA (zK fK) hb) (aA (zK fM) hb) (ak zB hb)
         (try clear hb)
         (try clear hb2)
         (try clear hk)
         (try clear hi)
         refine hK.out _ _ ⟨(au fM.out 0).trans rfl,(au fM.out 1).trans rfl,(au fK.out 0).trans rfl,(au fK.out 1).trans rfl⟩ (fun hHeld => ?_)
         clear hK K
         refine aaN (a' := ?_) ?_ ?_
         rotate_left
         ·show Act.put _ (some 38) _=_
          simp only [Act.put,List.setIfInBounds_toArray,List.set_cons_zero,List.set_cons_succ,bY,dw]
          rfl
         refine abP (i:=4) (N:=some 39) #[true,true,true,true,true,false] rfl rfl (by kernel_rfl) (by decide) (fun K hK => ?_)
         refine aaO Tryz.func119 (by kernel_rfl) rfl #[.agg #[.int .u64 jS,.int .u64 jr],.int .u64 aln] (by rfl) rfl rfl zL ?_
         with_reducible refine (dI.calls jS jr aln aqE auZ _ A22.out).mono ?_
         rintro e w25 ⟨rfl,hb⟩
         refine ⟨_,rfl,?_⟩
         obtain ⟨dX,fK,fM,HB⟩:=zA4 (aA (zK dX) hb) (aA (zK fK) hb) (aA (zK fM) hb) (ak zB hb)
         (try clear hb)
         (try clear hb2)
         (try clear hk)
         (try clear hi)
         refine hK.out _ _ ⟨(au fM.out 0).trans rfl,(au fM.out 1).trans rfl,(au fK.out 0).trans rfl,(au fK.out 1).trans rfl⟩ (fun hHeld => ?_)
         clear hK K
         refine aaN (a' := ?_) ?_ ?_
         rotate_left
         ·show Act.put _ (some 39) _=_
          simp only [Act.put,List.setIfInBounds_toArray,List.set_cons_zero,List.set_cons_succ,bY,dw]
          rfl
         refine akb (i:=5) (N:=none) #[true,true,true,true,true,true] rfl rfl (by kernel_rfl) (by decide) (fun K hK => ?_)
         have aDY:w25.cell? ⟨aad,0,none⟩=some (.int .u64 jS):=(au fM.out 0).trans rfl
         have aBk:=aN fM.out 0
         have azR:=xq.out
         have azS:=vk.out
         have azT:=xu.out
         have azU:=vw.out
         have aDZ:w25.cell? ⟨aad,1,none⟩=some (.int .u64 jr):=(au fM.out 1).trans rfl
         have aBl:=aN fM.out 1
         have azV:=xq.out
         have azW:=vk.out
         have azX:=xu.out
         have azY:=vw.out
         refine ahd (w1 := ?_) (by rfl) rfl ?_ ?_
         rotate_left
         ·go_simp
          rfl
         refine hK.out _ _ ?_
         clear hK K
         refine afA (by kernel_rfl) ?_
         try go_wp2
         go_roundg k2
         case measure=>have:=HK1.out;have:=HK2.out;omega
         case rel=>exact ⟨(wrap64 (lM - 1)),(aqE),(auZ),zT,H',⟨by have:=HK1.out;have:=HK2.out;omega⟩,⟨zK dX⟩,⟨zK fK⟩,⟨by refine zD ?_;refine aY (cs := #[.int .u64 aqE,.int .u64 jr]) ?_ 1 _ rfl;refine zD ?_;refine aY (cs := #[.int .u64 jS,.int .u64 jr]) ?_ 0 _ rfl;refine zD ?_;exact fM.out⟩,⟨zB⟩⟩
        ·rw [if_neg c20] at H
         have awj:=decide_eq_false c20
         clear c20
         have H':=aj.mk H
         clear H
         have awk:=yU.out
         have awl:=yT.out
         have anO:=vk.out
         have anP:=vw.out
         obtain ⟨_,_⟩:=zC2 fK.out
         obtain ⟨_,_⟩:=zF2 fK.out
         go_wp2_with (first|((with_reducible refine bF (N:=9) rfl ?_);refine bG zR (N:=9) zR (cs := #[.int .u64 0,.int .u64 0]) (t:=179) zG ?_;intro anQ hg w31 hbox hb;obtain ⟨dX,fK,fM,HB,iZ,aBm,aBn,acE,acF,yV,yX,yY,yZ⟩:=agm (aA (zK dX) hb) (aA (zK fK) hb) (aA (zK fM) hb) (ak zB hb) hbox (zg hg zB) (zg hg zB) (zl hg (zK dX)) (zr hg (zK dX)) (zl hg (zK fK)) (zr hg (zK fK)) (zl hg (zK fM)) (zr hg (zK fM));clear hb hbox hg;have aBo:=acF.out;have aBp:=acE.out;have awm:=yX.out;have awn:=yV.out;have aBq:=yZ.out;have aBr:=yY.out;obtain ⟨_,_⟩:=zC2 iZ.out;obtain ⟨_,_⟩:=zF2 iZ.out))
         try simp only [Act.put,List.setIfInBounds_toArray,List.set_cons_succ,List.set_cons_zero]
         go_loopg [10] k2 (fun kq v10 w'=>∃ (nN:Int) (ni:Int) (lX:Int),v10 = .int .i64 nN∧aj (aJ.l2 kq a0 nN jZ jR 0 uo jS jr ni lX=some r)∧aj (kq≤k2)∧aj (w'.heap[afN]? = some (.cells #[.int .u64 jZ,.int .u64 jR] 179 (0,0)))∧aj (w'.heap[aac]? = some (.cells #[.int .u64 0,.int .u64 uo] 179 (0,0)))∧aj (w'.heap[aad]? = some (.cells #[.int .u64 jS,.int .u64 jr] 179 (0,0)))∧aj (w'.heap[anQ]? = some (.cells #[.int .u64 ni,.int .u64 lX] 179 (0,0)))∧aj (Below w.heap.size w w'))
         case atStart=>exact ⟨(a1),(0),(uo),zT,H',⟨Nat.le_refl _⟩,⟨zK dX⟩,⟨zK fK⟩,⟨zK fM⟩,⟨by refine zD ?_;refine aY (cs := #[.int .u64 0,.int .u64 0]) ?_ 1 _ rfl;refine zD ?_;refine aY (cs := #[.int .u64 0,.int .u64 0]) ?_ 0 _ rfl;refine zD ?_;exact iZ.out⟩,⟨zB⟩⟩
         case round =>
          clear H'
          obtain ⟨nN,ni,lX,rfl,HA,HK3,dX,fK,fM,iZ,HB⟩:=hrel
          cases gk with
          | zero=>exact absurd HA.out (by simp [aJ.l2])
          | succ k3 =>
           have H:=HA.out
           clear HA
           simp only [aJ.l2] at H
           by_cases c36:nN < 128
           ·rw [if_pos c36] at H
            have awo:=decide_eq_true c36
            clear c36
            replace H:=zO H
            obtain ⟨adQ,A37,H⟩:=H
            try dsimp only at H
            by_cases c38:adQ=1
            ·rw [if_pos c38] at H
             have adR:(adQ == 1)=true:=beq_iff_eq.mpr c38
             have anR:(adQ != 1)=false:=bne_eq_false_iff_eq.mpr c38
             clear c38
             have H':=aj.mk H
             clear H
             have aBs:=yU.out
             have aBt:=yT.out
             have asM:=vk.out
             have asN:=vw.out
             have awp:=yV.out
             have awq:=yX.out
             obtain ⟨_,_⟩:=zC2 fK.out
             obtain ⟨_,_⟩:=zF2 fK.out
             go_wp2_with (first|((with_reducible refine ay (f:=121) rfl ?_);refine aH (some 48) rfl rfl Tryz.func121 (by kernel_rfl) rfl #[.agg #[.int .u64 0,.int .u64 uo],.int .i64 nN] rfl zL ?_;(with_reducible refine (fJ.calls 0 uo nN adQ _ A37.out).mono ?_);rintro e w43 ⟨rfl,hb⟩;refine ⟨_,rfl,?_⟩;obtain ⟨dX,fK,fM,iZ,HB⟩:=zA5 (aA (zK dX) hb) (aA (zK fK) hb) (aA (zK fM) hb) (aA (zK iZ) hb) (ak zB hb);(try clear hb))|((with_reducible refine bF (N:=11) rfl ?_);refine bG zR (N:=11) zR (cs := #[.int .u64 0,.int .u64 0]) (t:=179) zG ?_;intro awr hg w44 hbox hb;have n0_:=aj.mk (aA (zK dX) hb);have n1_:=aj.mk (aA (zK fK) hb);have n2_:=aj.mk (aA (zK fM) hb);have n3_:=aj.mk (aA (zK iZ) hb);have n4_:=aj.mk (ak zB hb);have n5_:=aj.mk (hbox);have n6_:=aj.mk (zg hg zB);have n7_:=aj.mk (zg hg zB);have n8_:=aj.mk (zl hg (zK dX));have n9_:=aj.mk (zr hg (zK dX));have au0:=aj.mk (zl hg (zK fK));have au1:=aj.mk (zr hg (zK fK));have au2:=aj.mk (zl hg (zK fM));have au3:=aj.mk (zr hg (zK fM));have au4:=aj.mk (zl hg (zK iZ));have au5:=aj.mk (zr hg (zK iZ));clear dX;clear fK;clear fM;clear iZ;clear HB;have dX:=n0_;have fK:=n1_;have fM:=n2_;have iZ:=n3_;have HB:=n4_;have vO:=n5_;have aBu:=n6_;have aBv:=n7_;have aeN:=n8_;have aeO:=n9_;have aeP:=au0;have aeQ:=au1;have aeR:=au2;have aeS:=au3;have aeT:=au4;have aeU:=au5;clear n0_ n1_ n2_ n3_ n4_ n5_ n6_ n7_ n8_ n9_ au0 au1 au2 au3 au4 au5;clear hb hbox hg;have aBw:=aeO.out;have aBx:=aeN.out;have asO:=aeQ.out;have asP:=aeP.out;have awt:=aeS.out;have awu:=aeR.out;have aBy:=aeU.out;have aBz:=aeT.out;obtain ⟨_,_⟩:=zC2 vO.out;obtain ⟨_,_⟩:=zF2 vO.out))
             try simp only [Act.put,List.setIfInBounds_toArray,List.set_cons_succ,List.set_cons_zero]
             go_loopg [52] k3 (fun kq v52 w'=>∃ (ahx:Int) (vC:Int) (sU:Int),v52 = .int .i64 ahx∧aj (aJ.l3 kq a0 nN nN ahx jZ jR 0 uo jS jr ni lX vC sU=some r)∧aj (kq≤k3)∧aj (w'.heap[afN]? = some (.cells #[.int .u64 jZ,.int .u64 jR] 179 (0,0)))∧aj (w'.heap[aac]? = some (.cells #[.int .u64 0,.int .u64 uo] 179 (0,0)))∧aj (w'.heap[aad]? = some (.cells #[.int .u64 jS,.int .u64 jr] 179 (0,0)))∧aj (w'.heap[anQ]? = some (.cells #[.int .u64 ni,.int .u64 lX] 179 (0,0)))∧aj (w'.heap[awr]? = some (.cells #[.int .u64 vC,.int .u64 sU] 179 (0,0)))∧aj (Below w.heap.size w w'))
             case atStart=>exact ⟨(0),(0),(1),zT,H',⟨Nat.le_refl _⟩,⟨zK dX⟩,⟨zK fK⟩,⟨zK fM⟩,⟨zK iZ⟩,⟨by refine zD ?_;refine aY (cs := #[.int .u64 0,.int .u64 0]) ?_ 1 _ rfl;refine zD ?_;refine aY (cs := #[.int .u64 0,.int .u64 0]) ?_ 0 _ rfl;refine zD ?_;exact vO.out⟩,⟨zB⟩⟩
             case round =>
              clear H'
              obtain ⟨ahx,vC,sU,rfl,HA,HK4,dX,fK,fM,iZ,vO,HB⟩:=hrel
              cases gk with
              | zero=>exact absurd HA.out (by simp [aJ.l3])
              | succ k4 =>
               have H:=HA.out
               clear HA
               simp only [aJ.l3] at H
               by_cases c50:ahx < nN
               ·rw [if_pos c50] at H
                have awv:=decide_eq_true c50
                clear c50
                replace H:=zO H
                obtain ⟨⟨aqF,au6⟩,A51,H⟩:=H
                try dsimp only at H
                have H':=aj.mk H
                clear H
                have aww:=aeO.out
                have awx:=aeN.out
                have aBA:=aeQ.out
                have aBB:=aeP.out
                have aBC:=aeS.out
                have aBD:=aeR.out
                have aBE:=aeU.out
                have aBF:=aeT.out
                obtain ⟨_,_⟩:=zC2 vO.out
                obtain ⟨_,_⟩:=zF2 vO.out
                go_wp2_with (first|((with_reducible refine ay (f:=119) rfl ?_);refine aH (some 55) rfl rfl Tryz.func119 (by kernel_rfl) rfl #[.agg #[.int .u64 vC,.int .u64 sU],.int .u64 0] rfl zL ?_;(with_reducible refine (dI.calls vC sU 0 aqF au6 _ A51.out).mono ?_);rintro e w57 ⟨rfl,hb⟩;refine ⟨_,rfl,?_⟩;obtain ⟨dX,fK,fM,iZ,vO,HB⟩:=zA6 (aA (zK dX) hb) (aA (zK fK) hb) (aA (zK fM) hb) (aA (zK iZ) hb) (aA (zK vO) hb) (ak zB hb);(try clear hb);obtain ⟨_,_⟩:=zC2 vO.out;obtain ⟨_,_⟩:=zF2 vO.out))
                go_roundg k4
                case measure=>have:=HK1.out;have:=HK2.out;have:=HK3.out;have:=HK4.out;omega
                case rel=>exact ⟨(wrap64 (ahx+1)),(aqF),(au6),zT,H',⟨by have:=HK1.out;have:=HK2.out;have:=HK3.out;have:=HK4.out;omega⟩,⟨zK dX⟩,⟨zK fK⟩,⟨zK fM⟩,⟨zK iZ⟩,⟨by refine zD ?_;refine aY (cs := #[.int .u64 aqF,.int .u64 sU]) ?_ 1 _ rfl;refine zD ?_;refine aY (cs := #[.int .u64 vC,.int .u64 sU]) ?_ 0 _ rfl;refine zD ?_;exact vO.out⟩,⟨zB⟩⟩
               ·rw [if_neg c50] at H
                have awv:=decide_eq_false c50
                clear c50
                replace H:=zO H
                obtain ⟨⟨aqG,au7⟩,A59,H⟩:=H
                try dsimp only at H
                have H':=aj.mk H
                clear H
                have aBG:=acF.out
                have aBH:=acE.out
                have aBI:=yX.out
                have aBJ:=yV.out
                have awy:=yZ.out
                have awz:=yY.out
                have awC:=aeT.out
                have awD:=aeU.out
                obtain ⟨_,_⟩:=zC2 iZ.out
                obtain ⟨_,_⟩:=zF2 iZ.out
                have aBK:=aeO.out
                have aBL:=aeN.out
                have aBM:=aeQ.out
                have aBN:=aeP.out
                have aBO:=aeS.out
                have aBP:=aeR.out
                obtain ⟨_,_⟩:=zC2 vO.out
                obtain ⟨_,_⟩:=zF2 vO.out
                go_wp2_with (first|((with_reducible refine ay (f:=122) rfl ?_);refine aH (some 59) rfl rfl Tryz.func122 (by kernel_rfl) rfl #[.agg #[.int .u64 ni,.int .u64 lX],.agg #[.int .u64 vC,.int .u64 sU]] rfl zL ?_;(with_reducible refine (kC.calls ni lX vC sU aqG au7 _ A59.out).mono ?_);rintro e w69 ⟨rfl,hb⟩;refine ⟨_,rfl,?_⟩;obtain ⟨dX,fK,fM,iZ,vO,HB⟩:=zA6 (aA (zK dX) hb) (aA (zK fK) hb) (aA (zK fM) hb) (aA (zK iZ) hb) (aA (zK vO) hb) (ak zB hb);(try clear hb);obtain ⟨_,_⟩:=zC2 iZ.out;obtain ⟨_,_⟩:=zF2 iZ.out))
                go_roundg k4
                case measure=>have:=HK1.out;have:=HK2.out;have:=HK3.out;have:=HK4.out;omega
                case rel=>exact ⟨(wrap64 (nN+1)),(aqG),(au7),zT,H',⟨by have:=HK1.out;have:=HK2.out;have:=HK3.out;have:=HK4.out;omega⟩,⟨zK dX⟩,⟨zK fK⟩,⟨zK fM⟩,⟨by refine zD ?_;refine aY (cs := #[.int .u64 aqG,.int .u64 lX]) ?_ 1 _ rfl;refine zD ?_;refine aY (cs := #[.int .u64 ni,.int .u64 lX]) ?_ 0 _ rfl;refine zD ?_;exact iZ.out⟩,⟨zB⟩⟩
            ·rw [if_neg c38] at H
             have adR:(adQ == 1)=false:=beq_eq_false_iff_ne.mpr c38
             have anR:(adQ != 1)=true:=bne_iff_ne.mpr c38
             have H':=aj.mk H
             clear H
             have aBQ:=yU.out
             have aBR:=yT.out
             have aBS:=vk.out
             have aBT:=vw.out
             have aBU:=yV.out
             have aBV:=yX.out
             obtain ⟨_,_⟩:=zC2 fK.out
             obtain ⟨_,_⟩:=zF2 fK.out
             go_wp2_with (first|((with_reducible refine ay (f:=121) rfl ?_);refine aH (some 48) rfl rfl Tryz.func121 (by kernel_rfl) rfl #[.agg #[.int .u64 0,.int .u64 uo],.int .i64 nN] rfl zL ?_;(with_reducible refine (fJ.calls 0 uo nN adQ _ A37.out).mono ?_);rintro e w75 ⟨rfl,hb⟩;refine ⟨_,rfl,?_⟩;obtain ⟨dX,fK,fM,iZ,HB⟩:=zA5 (aA (zK dX) hb) (aA (zK fK) hb) (aA (zK fM) hb) (aA (zK iZ) hb) (ak zB hb);(try clear hb)))
             go_roundg k3
             case measure=>have:=HK1.out;have:=HK2.out;have:=HK3.out;omega
             case rel=>exact ⟨(wrap64 (nN+1)),(ni),(lX),zT,H',⟨by have:=HK1.out;have:=HK2.out;have:=HK3.out;omega⟩,⟨zK dX⟩,⟨zK fK⟩,⟨zK fM⟩,⟨zK iZ⟩,⟨zB⟩⟩
           ·rw [if_neg c36] at H
            have awo:=decide_eq_false c36
            clear c36
            replace H:=zO H
            obtain ⟨anM,A76,H⟩:=H
            try dsimp only at H
            have aqH:=aj.mk H
            clear H
            have aBW:=acF.out
            have aBX:=acE.out
            have aBY:=yX.out
            have aBZ:=yV.out
            have aB0:=yZ.out
            have aB1:=yY.out
            obtain ⟨_,_⟩:=zC2 iZ.out
            obtain ⟨_,_⟩:=zF2 iZ.out
            have aB2:=yT.out
            have aB3:=yU.out
            have aB4:=xq.out
            have aB5:=xu.out
            obtain ⟨_,_⟩:=zC2 dX.out
            obtain ⟨_,_⟩:=zF2 dX.out
            go_upto_if 65 with (first|((with_reducible refine ay (f:=123) rfl ?_);refine aH (some 62) rfl rfl Tryz.func123 (by kernel_rfl) rfl #[.agg #[.int .u64 ni,.int .u64 lX],.agg #[.int .u64 jZ,.int .u64 jR]] rfl zL ?_;(with_reducible refine (iC.calls ni lX jZ jR anM _ A76.out).mono ?_);rintro e w85 ⟨rfl,hb⟩;refine ⟨_,rfl,?_⟩;obtain ⟨dX,fK,fM,iZ,HB⟩:=zA5 (aA (zK dX) hb) (aA (zK fK) hb) (aA (zK fM) hb) (aA (zK iZ) hb) (ak zB hb);(try clear hb)))
            (try simp only [Act.put,List.setIfInBounds_toArray,List.set_cons_zero,List.set_cons_succ])
            go_cut [12] (fun v12 wc=>∃ (kq:Nat) (ahy:Bool),v12 = .bool ahy∧aj (aJ.j4 kq a0 ahy jS jr=some r)∧aj (kq≤k3)∧aj (wc.heap[afN]? = some (.cells #[.int .u64 jZ,.int .u64 jR] 179 (0,0)))∧aj (wc.heap[aac]? = some (.cells #[.int .u64 0,.int .u64 uo] 179 (0,0)))∧aj (wc.heap[aad]? = some (.cells #[.int .u64 jS,.int .u64 jr] 179 (0,0)))∧aj (wc.heap[anQ]? = some (.cells #[.int .u64 ni,.int .u64 lX] 179 (0,0)))∧aj (Below w.heap.size w wc))
            case first =>
             have H:=aqH.out
             clear aqH
             by_cases c86:a0 < 0
             ·rw [if_pos c86] at H
              have ahz:=decide_eq_true c86
              clear c86
              (first|rw [ahz]|(simp only [bY,dw];rw [ahz])|skip)
              replace H:=zO H
              obtain ⟨anN,A87,H⟩:=H
              try dsimp only at H
              have H':=aj.mk H
              clear H
              have aB6:=yT.out
              have aB7:=yU.out
              have aB8:=xq.out
              have aB9:=xu.out
              have aCa:=acE.out
              have aCb:=acF.out
              obtain ⟨_,_⟩:=zC2 dX.out
              obtain ⟨_,_⟩:=zF2 dX.out
              have aCc:=yX.out
              have aCd:=yV.out
              have aCe:=yZ.out
              have aCf:=yY.out
              obtain ⟨_,_⟩:=zC2 iZ.out
              obtain ⟨_,_⟩:=zF2 iZ.out
              go_wp2_with (first|((with_reducible refine ay (f:=123) rfl ?_);refine aH (some 68) rfl rfl Tryz.func123 (by kernel_rfl) rfl #[.agg #[.int .u64 jZ,.int .u64 jR],.agg #[.int .u64 ni,.int .u64 lX]] rfl zL ?_;(with_reducible refine (iC.calls jZ jR ni lX anN _ A87.out).mono ?_);rintro e w95 ⟨rfl,hb⟩;refine ⟨_,rfl,?_⟩;obtain ⟨dX,fK,fM,iZ,HB⟩:=zA5 (aA (zK dX) hb) (aA (zK fK) hb) (aA (zK fM) hb) (aA (zK iZ) hb) (ak zB hb);(try clear hb)))
              go_meet
              case rel=>exact ⟨_,(anN),zT,H',⟨by have:=HK1.out;have:=HK2.out;have:=HK3.out;first|omega|exact Nat.le_refl _⟩,⟨zK dX⟩,⟨zK fK⟩,⟨zK fM⟩,⟨zK iZ⟩,⟨zB⟩⟩
             ·rw [if_neg c86] at H
              have ahz:=decide_eq_false c86
              clear c86
              (first|rw [ahz]|(simp only [bY,dw];rw [ahz])|skip)
              have H':=aj.mk H
              clear H
              go_wp2
              go_meet
              case rel=>exact ⟨_,(!anM),zT,H',⟨by have:=HK1.out;have:=HK2.out;have:=HK3.out;first|omega|exact Nat.le_refl _⟩,⟨zK dX⟩,⟨zK fK⟩,⟨zK fM⟩,⟨zK iZ⟩,⟨zB⟩⟩
            case rest =>
             clear aqH
             obtain ⟨kq,ahy,rfl,HA,aD0,dX,fK,fM,iZ,HB⟩:=hcut
             cases kq with
             | zero=>exact absurd HA.out (by simp [aJ.j4])
             | succ au8 =>
              have H:=HA.out
              clear HA
              simp only [aJ.j4] at H
              by_cases c96:ahy=true
              ·subst c96
               rw [if_pos rfl] at H;try dsimp only at H
               replace H:=zO H
               obtain ⟨⟨alo,anS⟩,A97,H⟩:=H
               try dsimp only at H
               replace H:=zO H
               obtain ⟨aqB,A98,H⟩:=H
               try dsimp only at H
               obtain rfl:=Option.some.inj H
               have aCg:=xu.out
               have aCh:=xq.out
               have aAH:=vw.out
               have aAI:=vk.out
               have aAJ:=yY.out
               have aAK:=yZ.out
               obtain ⟨_,_⟩:=zC2 fM.out
               obtain ⟨_,_⟩:=zF2 fM.out
               go_wp2_with (first|((with_reducible refine ay (f:=124) rfl ?_);refine aH (some 72) rfl rfl Tryz.func124 (by kernel_rfl) rfl #[.agg #[.int .u64 jS,.int .u64 jr],.agg #[.int .u64 0,.int .u64 1]] rfl zL ?_;(with_reducible refine (gW.calls jS jr 0 1 alo anS _ A97.out).mono ?_);rintro e aD1 ⟨rfl,hb⟩;refine ⟨_,rfl,?_⟩;obtain ⟨dX,fK,fM,iZ,HB⟩:=zA5 (aA (zK dX) hb) (aA (zK fK) hb) (aA (zK fM) hb) (aA (zK iZ) hb) (ak zB hb);(try clear hb);obtain ⟨_,_⟩:=zC2 fM.out;obtain ⟨_,_⟩:=zF2 fM.out)|((with_reducible refine ay (f:=125) rfl ?_);refine aH (some 76) rfl rfl Tryz.func125 (by kernel_rfl) rfl #[.agg #[.int .u64 alo,.int .u64 anS],.bool (decide (a0 < 0))] rfl zL ?_;(with_reducible refine (bU.calls au8 alo anS (decide (a0 < 0)) aqB _ A98.out).mono ?_);rintro e aD2 ⟨rfl,hb⟩;refine ⟨_,rfl,?_⟩;obtain ⟨dX,fK,fM,iZ,HB⟩:=zA5 (aA (zK dX) hb) (aA (zK fK) hb) (aA (g:=aad) (o := .cells #[.int .u64 alo,.int .u64 anS] 179 (0,0)) (by refine zD ?_;refine aY (cs := #[.int .u64 alo,.int .u64 jr]) ?_ 1 _ rfl;refine zD ?_;refine aY (cs := #[.int .u64 jS,.int .u64 jr]) ?_ 0 _ rfl;refine zD ?_;exact fM.out) hb) (aA (zK iZ) hb) (ak zB hb);(try clear hb)))
               go_ret
               exact ⟨zS,zB⟩
              ·replace c96:=Bool.eq_false_iff.mpr c96
               subst c96
               rw [if_neg (show ¬ (false=true) by decide)] at H;try dsimp only at H
               replace H:=zO H
               obtain ⟨aqC,ayU,H⟩:=H
               try dsimp only at H
               obtain rfl:=Option.some.inj H
               have aAL:=xu.out
               have aAM:=xq.out
               have aAN:=vw.out
               have aAO:=vk.out
               have aAP:=yY.out
               have aAQ:=yZ.out
               obtain ⟨_,_⟩:=zC2 fM.out
               obtain ⟨_,_⟩:=zF2 fM.out
               go_wp2_with (first|((with_reducible refine ay (f:=125) rfl ?_);refine aH (some 76) rfl rfl Tryz.func125 (by kernel_rfl) rfl #[.agg #[.int .u64 jS,.int .u64 jr],.bool (decide (a0 < 0))] rfl zL ?_;(with_reducible refine (bU.calls au8 jS jr (decide (a0 < 0)) aqC _ ayU.out).mono ?_);rintro e aD3 ⟨rfl,hb⟩;refine ⟨_,rfl,?_⟩;obtain ⟨dX,fK,fM,iZ,HB⟩:=zA5 (aA (zK dX) hb) (aA (zK fK) hb) (aA (zK fM) hb) (aA (zK iZ) hb) (ak zB hb);(try clear hb)))
               go_ret
               exact ⟨zS,zB⟩
end Go.Proofs.YtpondkggmcmpfaaGreatDoor.QA
namespace Go.Proofs.YtpondkggmcmpfaaGreatDoor.QA
open Go.Proofs.YtpondkggmcmpfaaGreatDoor.T
open Go.RowKit Go.Proofs.YtpondkggmcmpfaaGreatDoorW.PrintWords Go.Proofs.YtpondkggmcmpfaaGreatDoorW.PrintLast Go.Proofs.YtpondkggmcmpfaaGreatDoorW.PrintMore
attribute [local go_sem] dV dP dQ fC fD
set_option linter.unusedVariables false
set_option linter.unusedSimpArgs false
def lI.f (a0 a1:Int):Option (Bool):=if a1 < 1 then (some false) else (if a1 > 1048576 then (some false) else (if a0≤(wrap64 (4*a1)) then (some (decide (a0≥(wrap64 ((-4)*a1))))) else (some false)))
set_option maxHeartbeats 8000000 in
set_option maxRecDepth 100000 in
theorem lI.calls (a0 a1:Int) (r:Bool) (w:World) (h:lI.f a0 a1=some r) :
  Calls Tryz.prog 184 #[.int .i64 a0,.int .i64 a1] w fun e w'=>e = .returned (.bool r)∧cO w w':=by
 have H:=h
 clear h
 unfold lI.f at H
 by_cases c3:a1 < 1
 ·rw [if_pos c3] at H
  have fQ:=decide_eq_true c3
  clear c3
  obtain rfl:=Option.some.inj H
  go_enter Tryz.func184,Tryz.ntmps184
  go_wp2
  go_ret
  exact ⟨zT,zW⟩
 ·rw [if_neg c3] at H
  have fQ:=decide_eq_false c3
  clear c3
  by_cases c4:a1 > 1048576
  ·rw [if_pos c4] at H
   have fB:=decide_eq_true c4
   clear c4
   obtain rfl:=Option.some.inj H
   go_enter Tryz.func184,Tryz.ntmps184
   go_wp2
   go_ret
   exact ⟨zT,zW⟩
  ·rw [if_neg c4] at H
   have fB:=decide_eq_false c4
   clear c4
   by_cases c5:a0≤(wrap64 (4*a1))
   ·rw [if_pos c5] at H
    have gQ:=decide_eq_true c5
    clear c5
    obtain rfl:=Option.some.inj H
    go_enter Tryz.func184,Tryz.ntmps184
    go_wp2
    go_ret
    exact ⟨zT,zW⟩
   ·rw [if_neg c5] at H
    have gQ:=decide_eq_false c5
    clear c5
    obtain rfl:=Option.some.inj H
    go_enter Tryz.func184,Tryz.ntmps184
    go_wp2
    go_ret
    exact ⟨zT,zW⟩
end Go.Proofs.YtpondkggmcmpfaaGreatDoor.QA
namespace Go.Proofs.YtpondkggmcmpfaaGreatDoor.QA
open Go.Proofs.YtpondkggmcmpfaaGreatDoor.T
open Go.RowKit Go.Proofs.YtpondkggmcmpfaaGreatDoorW.PrintWords Go.Proofs.YtpondkggmcmpfaaGreatDoorW.PrintLast Go.Proofs.YtpondkggmcmpfaaGreatDoorW.PrintMore
attribute [local go_sem] dV dP dQ fC fD
set_option linter.unusedVariables false
set_option linter.unusedSimpArgs false
mutual
def aU.j0:Nat→Int→Int→Int→Option (Int)
 | 0,_,_,_=>none
 | k+1,x0,x1,x2=>if x2 > 127 then (some 0) else ((dK.f x0).bind fun aeV=>((dK.f x1).bind fun aeW=>((dR.f k aeV aeW).bind fun akg=>(if x2=0 then ((bU.f k akg.1 akg.2 ((decide (x0 < 0)) != (decide (x1 < 0)))).bind fun aqI=>(some aqI)) else (aU.l0 k x2 ((decide (x0 < 0)) != (decide (x1 < 0))) 127 akg.1 akg.2 0 0)))))
def aU.l0:Nat→Int→Bool→Int→Int→Int→Int→Int→Option (Int)
 | 0,_,_,_,_,_,_,_=>none
 | k+1,x2,x7,x10,zf,zi,uU,uV=>if x10≥x2 then ((fJ.f zf zi x10).bind fun alp=>((dI.f uU uV alp).bind fun asQ=>(aU.l0 k x2 x7 (wrap64 (x10 - 1)) zf zi asQ.1 asQ.2))) else (aU.l1 k x2 x7 false (wrap64 (x2 - 1)) 0 zf zi uU uV)
def aU.l1:Nat→Int→Bool→Bool→Int→Int→Int→Int→Int→Int→Option (Int)
 | 0,_,_,_,_,_,_,_,_,_=>none
 | k+1,x2,x7,x11,x44,x45,zf,zi,uU,uV=>if x45 < x44 then (if x11=true then (aU.l1 k x2 x7 true x44 (wrap64 (x45+1)) zf zi uU uV) else ((fJ.f zf zi x45).bind fun anT=>(aU.l1 k x2 x7 (anT == 1) x44 (wrap64 (x45+1)) zf zi uU uV))) else ((fJ.f zf zi (wrap64 (x2 - 1))).bind fun ac2=>(if ac2=1 then (if x11=true then (aU.j3 k x7 true uU uV) else (aU.j3 k x7 (!x7) uU uV)) else (aU.j3 k x7 false uU uV)))
def aU.j3:Nat→Bool→Bool→Int→Int→Option (Int)
 | 0,_,_,_,_=>none
 | k+1,x7,x67,uU,uV=>if x67=true then ((gW.f uU uV 0 1).bind fun asR=>((bU.f k asR.1 asR.2 x7).bind fun aqJ=>(some aqJ))) else ((bU.f k uU uV x7).bind fun aqK=>(some aqK))
end
def aU.f (k:Nat) (a0 a1 a2:Int):Option (Int):=if a2 < 0 then (aU.j0 k a0 a1 0) else (aU.j0 k a0 a1 a2)
set_option maxHeartbeats 8000000 in
set_option maxRecDepth 100000 in
theorem aU.calls (k:Nat) (a0 a1 a2 r:Int) (w:World) (h:aU.f k a0 a1 a2=some r) :
  Calls Tryz.prog 185 #[.int .i64 a0,.int .i64 a1,.int .i64 a2] w fun e w'=>e = .returned (.int .i64 r)∧Below w.heap.size w w':=by
 have yE:=Tryz.underlying179
 have HB:=aj.mk (Below.refl w.heap.size w)
 have H:=h
 clear h
 unfold aU.f at H
 have HC4:=aj.mk H
 clear H
 go_enter Tryz.func185,Tryz.ntmps185
 go_upto_if 14 with (fail)
 go_cut [2] (fun v2 wc=>∃ (kq:Nat) (uX:Int),v2 = .int .i64 uX∧aj (aU.j0 kq a0 a1 uX=some r)∧aj (kq≤k)∧aj (Below w.heap.size w wc))
 case first =>
  have H:=HC4.out
  clear HC4
  by_cases c5:a2 < 0
  ·rw [if_pos c5] at H
   have gQ:=decide_eq_true c5
   clear c5
   (first|rw [gQ]|(simp only [bY,dw];rw [gQ])|skip)
   have H':=aj.mk H
   clear H
   go_wp2
   go_meet
   case rel=>exact ⟨_,(0),zT,H',⟨by first|omega|exact Nat.le_refl _⟩,⟨zB⟩⟩
  ·rw [if_neg c5] at H
   have gQ:=decide_eq_false c5
   clear c5
   (first|rw [gQ]|(simp only [bY,dw];rw [gQ])|skip)
   have H':=aj.mk H
   clear H
   go_wp2
   go_meet
   case rel=>exact ⟨_,(a2),zT,H',⟨by first|omega|exact Nat.le_refl _⟩,⟨zB⟩⟩
 case rest =>
  clear HC4
  obtain ⟨kq,uX,rfl,HA,HJ3,HB⟩:=hcut
  cases kq with
  | zero=>exact absurd HA.out (by simp [aU.j0])
  | succ kj3 =>
   have H:=HA.out
   clear HA
   simp only [aU.j0] at H
   by_cases c6:uX > 127
   ·rw [if_pos c6] at H
    have iw:=decide_eq_true c6
    clear c6
    obtain rfl:=Option.some.inj H
    go_wp2
    go_ret
    exact ⟨zS,zB⟩
   ·rw [if_neg c6] at H
    have iw:=decide_eq_false c6
    clear c6
    replace H:=zO H
    obtain ⟨aeV,A7,H⟩:=H
    try dsimp only at H
    replace H:=zO H
    obtain ⟨aeW,A8,H⟩:=H
    try dsimp only at H
    replace H:=zO H
    obtain ⟨⟨pX,rQ⟩,A9,H⟩:=H
    try dsimp only at H
    by_cases c10:uX=0
    ·rw [if_pos c10] at H
     have pK:(uX == 0)=true:=beq_iff_eq.mpr c10
     have ahA:(uX != 0)=false:=bne_eq_false_iff_eq.mpr c10
     clear c10
     replace H:=zO H
     obtain ⟨aqI,A11,H⟩:=H
     try dsimp only at H
     obtain rfl:=Option.some.inj H
     go_wp2_with (first|((with_reducible refine ay (f:=120) rfl ?_);refine aH (some 23) rfl rfl Tryz.func120 (by kernel_rfl) rfl #[.int .i64 a0] rfl zL ?_;(with_reducible refine (dK.calls a0 aeV _ A7.out).mono ?_);rintro e w' ⟨rfl,⟨nd,rfl⟩⟩;refine ⟨_,rfl,?_⟩;(try (rw [oP wc];generalize hq_:World.drewN wc _=wc;have n0_:aj (Below w.heap.size w wc):=⟨by rw [← hq_];exact zB⟩;clear HB hq_;have HB:=n0_;clear n0_)))|((with_reducible refine ay (f:=120) rfl ?_);refine aH (some 25) rfl rfl Tryz.func120 (by kernel_rfl) rfl #[.int .i64 a1] rfl zL ?_;(with_reducible refine (dK.calls a1 aeW _ A8.out).mono ?_);rintro e w' ⟨rfl,⟨nd,rfl⟩⟩;refine ⟨_,rfl,?_⟩;(try (rw [oP wc];generalize hq_:World.drewN wc _=wc;have n0_:aj (Below w.heap.size w wc):=⟨by rw [← hq_];exact zB⟩;clear HB hq_;have HB:=n0_;clear n0_)))|((with_reducible refine ay (f:=148) rfl ?_);refine aH (some 26) rfl rfl Tryz.func148 (by kernel_rfl) rfl #[.int .u64 aeV,.int .u64 aeW] rfl zL ?_;(with_reducible refine (dR.calls kj3 aeV aeW pX rQ _ A9.out).mono ?_);rintro e w12 ⟨rfl,hb⟩;refine ⟨_,rfl,?_⟩;replace HB:=aj.mk (ak zB hb);(try clear hb))|((with_reducible refine bF (N:=8) rfl ?_);refine bG zR (N:=8) zR (cs := #[.int .u64 0,.int .u64 0]) (t:=179) zG ?_;intro yF hg w13 hbox hb;obtain ⟨HB,gK,awE,awF⟩:=zA4 (ak zB hb) hbox (zg hg zB) (zg hg zB);clear hb hbox hg;obtain ⟨_,_⟩:=zC2 gK.out;obtain ⟨_,_⟩:=zF2 gK.out)|((with_reducible refine ay (f:=125) rfl ?_);refine aH (some 31) rfl rfl Tryz.func125 (by kernel_rfl) rfl #[.agg #[.int .u64 pX,.int .u64 rQ],.bool ((decide (a0 < 0)) != (decide (a1 < 0)))] rfl zL ?_;(with_reducible refine (bU.calls kj3 pX rQ ((decide (a0 < 0)) != (decide (a1 < 0))) aqI _ A11.out).mono ?_);rintro e w15 ⟨rfl,hb⟩;refine ⟨_,rfl,?_⟩;obtain ⟨gK,HB⟩:=zA2 (aA (g:=yF) (o := .cells #[.int .u64 pX,.int .u64 rQ] 179 (0,0)) (by refine zD ?_;refine aY (cs := #[.int .u64 pX,.int .u64 0]) ?_ 1 _ rfl;refine zD ?_;refine aY (cs := #[.int .u64 0,.int .u64 0]) ?_ 0 _ rfl;refine zD ?_;exact gK.out) hb) (ak zB hb);(try clear hb)))
     go_ret
     exact ⟨zS,zB⟩
    ·rw [if_neg c10] at H
     have pK:(uX == 0)=false:=beq_eq_false_iff_ne.mpr c10
     have ahA:(uX != 0)=true:=bne_iff_ne.mpr c10
     have H':=aj.mk H
     clear H
     go_wp2_with (first|((with_reducible refine ay (f:=120) rfl ?_);refine aH (some 23) rfl rfl Tryz.func120 (by kernel_rfl) rfl #[.int .i64 a0] rfl zL ?_;(with_reducible refine (dK.calls a0 aeV _ A7.out).mono ?_);rintro e w' ⟨rfl,⟨nd,rfl⟩⟩;refine ⟨_,rfl,?_⟩;(try (rw [oP wc];generalize hq_:World.drewN wc _=wc;have n0_:aj (Below w.heap.size w wc):=⟨by rw [← hq_];exact zB⟩;clear HB hq_;have HB:=n0_;clear n0_)))|((with_reducible refine ay (f:=120) rfl ?_);refine aH (some 25) rfl rfl Tryz.func120 (by kernel_rfl) rfl #[.int .i64 a1] rfl zL ?_;(with_reducible refine (dK.calls a1 aeW _ A8.out).mono ?_);rintro e w' ⟨rfl,⟨nd,rfl⟩⟩;refine ⟨_,rfl,?_⟩;(try (rw [oP wc];generalize hq_:World.drewN wc _=wc;have n0_:aj (Below w.heap.size w wc):=⟨by rw [← hq_];exact zB⟩;clear HB hq_;have HB:=n0_;clear n0_)))|((with_reducible refine ay (f:=148) rfl ?_);refine aH (some 26) rfl rfl Tryz.func148 (by kernel_rfl) rfl #[.int .u64 aeV,.int .u64 aeW] rfl zL ?_;(with_reducible refine (dR.calls kj3 aeV aeW pX rQ _ A9.out).mono ?_);rintro e w16 ⟨rfl,hb⟩;refine ⟨_,rfl,?_⟩;replace HB:=aj.mk (ak zB hb);(try clear hb))|((with_reducible refine bF (N:=8) rfl ?_);refine bG zR (N:=8) zR (cs := #[.int .u64 0,.int .u64 0]) (t:=179) zG ?_;intro yF hg w17 hbox hb;obtain ⟨HB,gK,awE,awF⟩:=zA4 (ak zB hb) hbox (zg hg zB) (zg hg zB);clear hb hbox hg;obtain ⟨_,_⟩:=zC2 gK.out;obtain ⟨_,_⟩:=zF2 gK.out)|((with_reducible refine bF (N:=9) rfl ?_);refine bG zR (N:=9) zR (cs := #[.int .u64 0,.int .u64 0]) (t:=179) zG ?_;intro aaS hg w19 hbox hb;obtain ⟨gK,HB,iH,aCi,aCj,sV,sW⟩:=zA7 (aA (g:=yF) (o := .cells #[.int .u64 pX,.int .u64 rQ] 179 (0,0)) (by refine zD ?_;refine aY (cs := #[.int .u64 pX,.int .u64 0]) ?_ 1 _ rfl;refine zD ?_;refine aY (cs := #[.int .u64 0,.int .u64 0]) ?_ 0 _ rfl;refine zD ?_;exact gK.out) hb) (ak zB hb) hbox (zg hg zB) (zg hg zB) ((by rw [hg];exact Nat.ne_of_lt (bC (g:=yF) (o := .cells #[.int .u64 pX,.int .u64 rQ] 179 (0,0)) (by refine zD ?_;refine aY (cs := #[.int .u64 pX,.int .u64 0]) ?_ 1 _ rfl;refine zD ?_;refine aY (cs := #[.int .u64 0,.int .u64 0]) ?_ 0 _ rfl;refine zD ?_;exact gK.out)):yF≠aaS)) ((by rw [hg];exact Nat.ne_of_gt (bC (g:=yF) (o := .cells #[.int .u64 pX,.int .u64 rQ] 179 (0,0)) (by refine zD ?_;refine aY (cs := #[.int .u64 pX,.int .u64 0]) ?_ 1 _ rfl;refine zD ?_;refine aY (cs := #[.int .u64 0,.int .u64 0]) ?_ 0 _ rfl;refine zD ?_;exact gK.out)):aaS≠yF));clear hb hbox hg;have aCk:=sW.out;have aCl:=sV.out;obtain ⟨_,_⟩:=zC2 iH.out;obtain ⟨_,_⟩:=zF2 iH.out))
     go_loopg [10] kj3 (fun kq v10 w'=>∃ (jo:Int) (kQ:Int) (jT:Int),v10 = .int .i64 jo∧aj (aU.l0 kq uX ((decide (a0 < 0)) != (decide (a1 < 0))) jo pX rQ kQ jT=some r)∧aj (kq≤kj3)∧aj (w'.heap[yF]? = some (.cells #[.int .u64 pX,.int .u64 rQ] 179 (0,0)))∧aj (w'.heap[aaS]? = some (.cells #[.int .u64 kQ,.int .u64 jT] 179 (0,0)))∧aj (Below w.heap.size w w'))
     case atStart=>exact ⟨(127),(0),(0),zT,H',⟨Nat.le_refl _⟩,⟨zK gK⟩,⟨by refine zD ?_;refine aY (cs := #[.int .u64 0,.int .u64 0]) ?_ 1 _ rfl;refine zD ?_;refine aY (cs := #[.int .u64 0,.int .u64 0]) ?_ 0 _ rfl;refine zD ?_;exact iH.out⟩,⟨zB⟩⟩
     case round =>
      clear H'
      obtain ⟨jo,kQ,jT,rfl,HA,HK2,gK,iH,HB⟩:=hrel
      cases gk with
      | zero=>exact absurd HA.out (by simp [aU.l0])
      | succ k2 =>
       have H:=HA.out
       clear HA
       simp only [aU.l0] at H
       by_cases c22:jo≥uX
       ·rw [if_pos c22] at H
        have awG:=decide_eq_true c22
        clear c22
        replace H:=zO H
        obtain ⟨alp,A23,H⟩:=H
        try dsimp only at H
        replace H:=zO H
        obtain ⟨⟨aqL,au9⟩,A24,H⟩:=H
        try dsimp only at H
        have H':=aj.mk H
        clear H
        try go_wp2
        obtain ⟨gK,iH,HB⟩:=zA3 (kH gK.out) (kH iH.out) (aZ HB.out)
        refine ade (n:=6) (S:=fun w'=>w'.cell? ⟨aaS,0,none⟩=some (.int .u64 kQ)∧w'.cell? ⟨aaS,1,none⟩=some (.int .u64 jT)∧w'.cell? ⟨yF,0,none⟩=some (.int .u64 pX)∧w'.cell? ⟨yF,1,none⟩=some (.int .u64 rQ)) (ds:=[5]) #[false,false,false,false,false,false] (by kernel_rfl) rfl rfl ⟨(au iH.out 0).trans rfl,(au iH.out 1).trans rfl,(au gK.out 0).trans rfl,(au gK.out 1).trans rfl⟩ (fun hHeld => ?_)
        generalize wr.drew=w25 at gK iH HB hHeld ⊢
        refine yA (i:=2) (N:=some 40) (v := ?_) (a' := ?_) #[false,false,true,false,false,false] rfl rfl (by kernel_rfl) (fun _ _ _ h=>h) (Or.inl ⟨by rfl,?_⟩) ?_ ?_
        rotate_left
        ·intro w'
         go_simp
         with_reducible rfl
        rotate_left
        ·simp only [Act.put,List.setIfInBounds_toArray,List.set_cons_zero,List.set_cons_succ,bY,dw]
         rfl
        refine zu (i:=0) (N:=some 38) (v := ?_) (a' := ?_) #[true,false,true,false,false,false] rfl rfl (by kernel_rfl) (fun _ _ _ h=>h) (Or.inl ⟨by rfl,?_⟩) hHeld ?_ ?_
        rotate_left
        ·rintro w' ⟨s0,s1,s2,s3⟩
         go_simp
         with_reducible rfl
        rotate_left
        ·simp only [Act.put,List.setIfInBounds_toArray,List.set_cons_zero,List.set_cons_succ,bY,dw]
         rfl
        refine zu (i:=1) (N:=some 39) (v := ?_) (a' := ?_) #[true,true,true,false,false,false] rfl rfl (by kernel_rfl) (fun _ _ _ h=>h) (Or.inl ⟨by rfl,?_⟩) hHeld ?_ ?_
        rotate_left
        ·rintro w' ⟨s0,s1,s2,s3⟩
         go_simp
         with_reducible rfl
        rotate_left
        ·simp only [Act.put,List.setIfInBounds_toArray,List.set_cons_zero,List.set_cons_succ,bY,dw]
         rfl
        refine abP (i:=3) (N:=some 41) #[true,true,true,true,false,false] rfl rfl (by kernel_rfl) (by decide) (fun K hK => ?_)
        refine aaO Tryz.func121 (by kernel_rfl) rfl #[.agg #[.int .u64 pX,.int .u64 rQ],.int .i64 jo] (by rfl) rfl rfl zL ?_
        with_reducible refine (fJ.calls pX rQ jo alp _ A23.out).mono ?_
        rintro e w26 ⟨rfl,hb⟩
        refine ⟨_,rfl,?_⟩
        obtain ⟨gK,iH,HB⟩:=zA3 (aA (zK gK) hb) (aA (zK iH) hb) (ak zB hb)
        (try clear hb)
        (try clear hb2)
        (try clear hk)
        (try clear hi)
        refine hK.out _ _ ⟨(au iH.out 0).trans rfl,(au iH.out 1).trans rfl,(au gK.out 0).trans rfl,(au gK.out 1).trans rfl⟩ (fun hHeld => ?_)
        clear hK K
        refine aaN (a' := ?_) ?_ ?_
        rotate_left
        ·show Act.put _ (some 41) _=_
         simp only [Act.put,List.setIfInBounds_toArray,List.set_cons_zero,List.set_cons_succ,bY,dw]
         rfl
        refine abP (i:=4) (N:=some 42) #[true,true,true,true,true,false] rfl rfl (by kernel_rfl) (by decide) (fun K hK => ?_)
        refine aaO Tryz.func119 (by kernel_rfl) rfl #[.agg #[.int .u64 kQ,.int .u64 jT],.int .u64 alp] (by rfl) rfl rfl zL ?_
        with_reducible refine (dI.calls kQ jT alp aqL au9 _ A24.out).mono ?_
        rintro e w27 ⟨rfl,hb⟩
        refine ⟨_,rfl,?_⟩
        obtain ⟨gK,iH,HB⟩:=zA3 (aA (zK gK) hb) (aA (zK iH) hb) (ak zB hb)
        (try clear hb)
        (try clear hb2)
        (try clear hk)
        (try clear hi)
        refine hK.out _ _ ⟨(au iH.out 0).trans rfl,(au iH.out 1).trans rfl,(au gK.out 0).trans rfl,(au gK.out 1).trans rfl⟩ (fun hHeld => ?_)
        clear hK K
        refine aaN (a' := ?_) ?_ ?_
        rotate_left
        ·show Act.put _ (some 42) _=_
         simp only [Act.put,List.setIfInBounds_toArray,List.set_cons_zero,List.set_cons_succ,bY,dw]
         rfl
        refine akb (i:=5) (N:=none) #[true,true,true,true,true,true] rfl rfl (by kernel_rfl) (by decide) (fun K hK => ?_)
        have aD4:w27.cell? ⟨aaS,0,none⟩=some (.int .u64 kQ):=(au iH.out 0).trans rfl
        have aCm:=aN iH.out 0
        have azZ:=sV.out
        have az0:=sW.out
        have aD5:w27.cell? ⟨aaS,1,none⟩=some (.int .u64 jT):=(au iH.out 1).trans rfl
        have aCn:=aN iH.out 1
        have az1:=sV.out
        have az2:=sW.out
        refine ahd (w1 := ?_) (by rfl) rfl ?_ ?_
        rotate_left
        ·go_simp
         rfl
        refine hK.out _ _ ?_
        clear hK K
        refine afA (by kernel_rfl) ?_
        try go_wp2
        go_roundg k2
        case measure=>have:=HJ3.out;have:=HK2.out;omega
        case rel=>exact ⟨(wrap64 (jo - 1)),(aqL),(au9),zT,H',⟨by have:=HJ3.out;have:=HK2.out;omega⟩,⟨zK gK⟩,⟨by refine zD ?_;refine aY (cs := #[.int .u64 aqL,.int .u64 jT]) ?_ 1 _ rfl;refine zD ?_;refine aY (cs := #[.int .u64 kQ,.int .u64 jT]) ?_ 0 _ rfl;refine zD ?_;exact iH.out⟩,⟨zB⟩⟩
       ·rw [if_neg c22] at H
        have awG:=decide_eq_false c22
        clear c22
        have H':=aj.mk H
        clear H
        go_wp2
        try simp only [Act.put,List.setIfInBounds_toArray,List.set_cons_succ,List.set_cons_zero]
        go_loopg [11,45] k2 (fun kq v11 v45 w'=>∃ (ahB:Bool) (adS:Int),v11 = .bool ahB∧v45 = .int .i64 adS∧aj (aU.l1 kq uX ((decide (a0 < 0)) != (decide (a1 < 0))) ahB (wrap64 (uX - 1)) adS pX rQ kQ jT=some r)∧aj (kq≤k2)∧aj (w'.heap[yF]? = some (.cells #[.int .u64 pX,.int .u64 rQ] 179 (0,0)))∧aj (w'.heap[aaS]? = some (.cells #[.int .u64 kQ,.int .u64 jT] 179 (0,0)))∧aj (Below w.heap.size w w'))
        case atStart=>exact ⟨(false),(0),zT,zT,H',⟨Nat.le_refl _⟩,⟨zK gK⟩,⟨zK iH⟩,⟨zB⟩⟩
        case round =>
         clear H'
         obtain ⟨ahB,adS,rfl,rfl,HA,HK3,gK,iH,HB⟩:=hrel
         cases gk with
         | zero=>exact absurd HA.out (by simp [aU.l1])
         | succ k3 =>
          have H:=HA.out
          clear HA
          simp only [aU.l1] at H
          by_cases c30:adS < (wrap64 (uX - 1))
          ·rw [if_pos c30] at H
           have asT:=decide_eq_true c30
           clear c30
           by_cases c31:ahB=true
           ·subst c31
            rw [if_pos rfl] at H;try dsimp only at H
            have H':=aj.mk H
            clear H
            go_wp2
            go_roundg k3
            case measure=>have:=HJ3.out;have:=HK2.out;have:=HK3.out;omega
            case rel=>exact ⟨(true),(wrap64 (adS+1)),zT,zT,H',⟨by have:=HJ3.out;have:=HK2.out;have:=HK3.out;omega⟩,⟨zK gK⟩,⟨zK iH⟩,⟨zB⟩⟩
           ·replace c31:=Bool.eq_false_iff.mpr c31
            subst c31
            rw [if_neg (show ¬ (false=true) by decide)] at H;try dsimp only at H
            replace H:=zO H
            obtain ⟨anT,A32,H⟩:=H
            try dsimp only at H
            have H':=aj.mk H
            clear H
            have awm:=sV.out
            have awn:=sW.out
            obtain ⟨_,_⟩:=zC2 gK.out
            obtain ⟨_,_⟩:=zF2 gK.out
            go_wp2_with (first|(go_at_call 121;(with_reducible refine (fJ.calls pX rQ adS anT _ A32.out).mono ?_);rintro e w35 ⟨rfl,hb⟩;obtain ⟨gK,iH,HB⟩:=zA3 (aA (zK gK) hb) (aA (zK iH) hb) (ak zB hb);(try clear hb)))
            go_roundg k3
            case measure=>have:=HJ3.out;have:=HK2.out;have:=HK3.out;omega
            case rel=>exact ⟨((anT == 1)),(wrap64 (adS+1)),zT,zT,H',⟨by have:=HJ3.out;have:=HK2.out;have:=HK3.out;omega⟩,⟨zK gK⟩,⟨zK iH⟩,⟨zB⟩⟩
          ·rw [if_neg c30] at H
           have asT:=decide_eq_false c30
           clear c30
           have aqM:=aj.mk H
           clear H
           go_upto_region 20 with (fail)
           go_cut [67] (fun v67 wc=>∃ (kq:Nat) (ahC:Bool),v67 = .bool ahC∧aj (aU.j3 kq ((decide (a0 < 0)) != (decide (a1 < 0))) ahC kQ jT=some r)∧aj (kq≤k3)∧aj (wc.heap[yF]? = some (.cells #[.int .u64 pX,.int .u64 rQ] 179 (0,0)))∧aj (wc.heap[aaS]? = some (.cells #[.int .u64 kQ,.int .u64 jT] 179 (0,0)))∧aj (Below w.heap.size w wc))
           case first =>
            have H:=aqM.out
            clear aqM
            replace H:=zO H
            obtain ⟨ac2,A37,H⟩:=H
            try dsimp only at H
            by_cases c38:ac2=1
            ·rw [if_pos c38] at H
             have adR:(ac2 == 1)=true:=beq_iff_eq.mpr c38
             have anR:(ac2 != 1)=false:=bne_eq_false_iff_eq.mpr c38
             clear c38
             (first|rw [adR]|(simp only [bY,dw];rw [adR])|skip)
             by_cases c39:ahB=true
             ·subst c39
              rw [if_pos rfl] at H;try dsimp only at H
              have H':=aj.mk H
              clear H
              have asM:=sV.out
              have asN:=sW.out
              obtain ⟨_,_⟩:=zC2 gK.out
              obtain ⟨_,_⟩:=zF2 gK.out
              go_wp2_with (first|((with_reducible refine ay (f:=121) rfl ?_);refine aH (some 59) rfl rfl Tryz.func121 (by kernel_rfl) rfl #[.agg #[.int .u64 pX,.int .u64 rQ],.int .i64 (wrap64 (uX - 1))] rfl zL ?_;(with_reducible refine (fJ.calls pX rQ (wrap64 (uX - 1)) ac2 _ A37.out).mono ?_);rintro e w42 ⟨rfl,hb⟩;refine ⟨_,rfl,?_⟩;obtain ⟨gK,iH,HB⟩:=zA3 (aA (zK gK) hb) (aA (zK iH) hb) (ak zB hb);(try clear hb)))
              go_meet
              case rel=>exact ⟨_,(true),zT,H',⟨by have:=HJ3.out;have:=HK2.out;have:=HK3.out;first|omega|exact Nat.le_refl _⟩,⟨zK gK⟩,⟨zK iH⟩,⟨zB⟩⟩
             ·replace c39:=Bool.eq_false_iff.mpr c39
              subst c39
              rw [if_neg (show ¬ (false=true) by decide)] at H;try dsimp only at H
              have H':=aj.mk H
              clear H
              have aCo:=sV.out
              have aCp:=sW.out
              obtain ⟨_,_⟩:=zC2 gK.out
              obtain ⟨_,_⟩:=zF2 gK.out
              go_wp2_with (first|((with_reducible refine ay (f:=121) rfl ?_);refine aH (some 59) rfl rfl Tryz.func121 (by kernel_rfl) rfl #[.agg #[.int .u64 pX,.int .u64 rQ],.int .i64 (wrap64 (uX - 1))] rfl zL ?_;(with_reducible refine (fJ.calls pX rQ (wrap64 (uX - 1)) ac2 _ A37.out).mono ?_);rintro e w45 ⟨rfl,hb⟩;refine ⟨_,rfl,?_⟩;obtain ⟨gK,iH,HB⟩:=zA3 (aA (zK gK) hb) (aA (zK iH) hb) (ak zB hb);(try clear hb)))
              go_meet
              case rel=>exact ⟨_,(!((decide (a0 < 0)) != (decide (a1 < 0)))),(by first|rfl|(simp;done)|(simp [*];done)|(generalize decide (a0 < 0)=p_;generalize decide (a1 < 0)=q_;cases p_ <;> cases q_ <;> rfl)),H',⟨by have:=HJ3.out;have:=HK2.out;have:=HK3.out;first|omega|exact Nat.le_refl _⟩,⟨zK gK⟩,⟨zK iH⟩,⟨zB⟩⟩
            ·rw [if_neg c38] at H
             have adR:(ac2 == 1)=false:=beq_eq_false_iff_ne.mpr c38
             have anR:(ac2 != 1)=true:=bne_iff_ne.mpr c38
             (first|rw [adR]|(simp only [bY,dw];rw [adR])|skip)
             have H':=aj.mk H
             clear H
             have asO:=sV.out
             have asP:=sW.out
             obtain ⟨_,_⟩:=zC2 gK.out
             obtain ⟨_,_⟩:=zF2 gK.out
             go_wp2_with (first|((with_reducible refine ay (f:=121) rfl ?_);refine aH (some 59) rfl rfl Tryz.func121 (by kernel_rfl) rfl #[.agg #[.int .u64 pX,.int .u64 rQ],.int .i64 (wrap64 (uX - 1))] rfl zL ?_;(with_reducible refine (fJ.calls pX rQ (wrap64 (uX - 1)) ac2 _ A37.out).mono ?_);rintro e w48 ⟨rfl,hb⟩;refine ⟨_,rfl,?_⟩;obtain ⟨gK,iH,HB⟩:=zA3 (aA (zK gK) hb) (aA (zK iH) hb) (ak zB hb);(try clear hb)))
             go_meet
             case rel=>exact ⟨_,(false),zT,H',⟨by have:=HJ3.out;have:=HK2.out;have:=HK3.out;first|omega|exact Nat.le_refl _⟩,⟨zK gK⟩,⟨zK iH⟩,⟨zB⟩⟩
           case rest =>
            clear aqM
            obtain ⟨kq,ahC,rfl,HA,aD6,gK,iH,HB⟩:=hcut
            cases kq with
            | zero=>exact absurd HA.out (by simp [aU.j3])
            | succ ava =>
             have H:=HA.out
             clear HA
             simp only [aU.j3] at H
             by_cases c49:ahC=true
             ·subst c49
              rw [if_pos rfl] at H;try dsimp only at H
              replace H:=zO H
              obtain ⟨⟨alq,anU⟩,A50,H⟩:=H
              try dsimp only at H
              replace H:=zO H
              obtain ⟨aqJ,A51,H⟩:=H
              try dsimp only at H
              obtain rfl:=Option.some.inj H
              have aww:=sW.out
              have awx:=sV.out
              obtain ⟨_,_⟩:=zC2 iH.out
              obtain ⟨_,_⟩:=zF2 iH.out
              go_wp2_with (first|((with_reducible refine ay (f:=124) rfl ?_);refine aH (some 70) rfl rfl Tryz.func124 (by kernel_rfl) rfl #[.agg #[.int .u64 kQ,.int .u64 jT],.agg #[.int .u64 0,.int .u64 1]] rfl zL ?_;(with_reducible refine (gW.calls kQ jT 0 1 alq anU _ A50.out).mono ?_);rintro e w54 ⟨rfl,hb⟩;refine ⟨_,rfl,?_⟩;obtain ⟨gK,iH,HB⟩:=zA3 (aA (zK gK) hb) (aA (zK iH) hb) (ak zB hb);(try clear hb);obtain ⟨_,_⟩:=zC2 iH.out;obtain ⟨_,_⟩:=zF2 iH.out)|((with_reducible refine ay (f:=125) rfl ?_);refine aH (some 73) rfl rfl Tryz.func125 (by kernel_rfl) rfl #[.agg #[.int .u64 alq,.int .u64 anU],.bool ((decide (a0 < 0)) != (decide (a1 < 0)))] rfl zL ?_;(with_reducible refine (bU.calls ava alq anU ((decide (a0 < 0)) != (decide (a1 < 0))) aqJ _ A51.out).mono ?_);rintro e w56 ⟨rfl,hb⟩;refine ⟨_,rfl,?_⟩;obtain ⟨gK,iH,HB⟩:=zA3 (aA (zK gK) hb) (aA (g:=aaS) (o := .cells #[.int .u64 alq,.int .u64 anU] 179 (0,0)) (by refine zD ?_;refine aY (cs := #[.int .u64 alq,.int .u64 jT]) ?_ 1 _ rfl;refine zD ?_;refine aY (cs := #[.int .u64 kQ,.int .u64 jT]) ?_ 0 _ rfl;refine zD ?_;exact iH.out) hb) (ak zB hb);(try clear hb)))
              go_ret
              exact ⟨zS,zB⟩
             ·replace c49:=Bool.eq_false_iff.mpr c49
              subst c49
              rw [if_neg (show ¬ (false=true) by decide)] at H;try dsimp only at H
              replace H:=zO H
              obtain ⟨aqK,A57,H⟩:=H
              try dsimp only at H
              obtain rfl:=Option.some.inj H
              have awH:=sW.out
              have awI:=sV.out
              obtain ⟨_,_⟩:=zC2 iH.out
              obtain ⟨_,_⟩:=zF2 iH.out
              go_wp2_with (first|((with_reducible refine ay (f:=125) rfl ?_);refine aH (some 73) rfl rfl Tryz.func125 (by kernel_rfl) rfl #[.agg #[.int .u64 kQ,.int .u64 jT],.bool ((decide (a0 < 0)) != (decide (a1 < 0)))] rfl zL ?_;(with_reducible refine (bU.calls ava kQ jT ((decide (a0 < 0)) != (decide (a1 < 0))) aqK _ A57.out).mono ?_);rintro e w60 ⟨rfl,hb⟩;refine ⟨_,rfl,?_⟩;obtain ⟨gK,iH,HB⟩:=zA3 (aA (zK gK) hb) (aA (zK iH) hb) (ak zB hb);(try clear hb)))
              go_ret
              exact ⟨zS,zB⟩
end Go.Proofs.YtpondkggmcmpfaaGreatDoor.QA
namespace Go.Proofs.YtpondkggmcmpfaaGreatDoor.QA
open Go.Proofs.YtpondkggmcmpfaaGreatDoor.T
open Go.RowKit Go.Proofs.YtpondkggmcmpfaaGreatDoorW.PrintWords Go.Proofs.YtpondkggmcmpfaaGreatDoorW.PrintLast Go.Proofs.YtpondkggmcmpfaaGreatDoorW.PrintMore
attribute [local go_sem] dV dP dQ fC fD
set_option linter.unusedVariables false
set_option linter.unusedSimpArgs false
mutual
def bZ.j0:Nat→Int→Int→Option (Int)
 | 0,_,_=>none
 | k+1,x0,x1=>(aX.f k 10851744800547 x0 x1).bind fun alr=>((aX.f k alr x0 x1).bind fun aeX=>(bZ.l0 k aeX 1099511627776 0 1099511627776 1))
def bZ.l0:Nat→Int→Int→Int→Int→Int→Option (Int)
 | 0,_,_,_,_,_=>none
 | k+1,x6,x7,x8,x9,x10=>if x10≤30 then ((aX.f k x9 x6 (wrap64 ((wrap64 ((wrap64 (2*x10))*(wrap64 ((wrap64 (2*x10))+1))))*1099511627776))).bind fun ab5=>(if (Int.tmod x10 2)=1 then (bZ.l0 k x6 x7 (wrap64 (x8+ab5)) ab5 (wrap64 (x10+1))) else (bZ.l0 k x6 (wrap64 (x7+ab5)) x8 ab5 (wrap64 (x10+1))))) else (some (wrap64 (x7 - x8)))
end
def bZ.f (k:Nat) (a0 a1:Int):Option (Int):=if a0 < 0 then (bZ.j0 k (wrap64 (-a0)) a1) else (bZ.j0 k a0 a1)
set_option maxHeartbeats 8000000 in
set_option maxRecDepth 100000 in
theorem bZ.calls (k:Nat) (a0 a1 r:Int) (w:World) (h:bZ.f k a0 a1=some r) :
  Calls Tryz.prog 186 #[.int .i64 a0,.int .i64 a1] w fun e w'=>e = .returned (.int .i64 r)∧Below w.heap.size w w':=by
 have HB:=aj.mk (Below.refl w.heap.size w)
 have H:=h
 clear h
 unfold bZ.f at H
 have HC3:=aj.mk H
 clear H
 go_enter Tryz.func186,Tryz.ntmps186
 go_upto_if 13 with (fail)
 go_cut [0] (fun v0 wc=>∃ (kq:Nat) (agF:Int),v0 = .int .i64 agF∧aj (bZ.j0 kq agF a1=some r)∧aj (kq≤k)∧aj (Below w.heap.size w wc))
 case first =>
  have H:=HC3.out
  clear HC3
  by_cases c4:a0 < 0
  ·rw [if_pos c4] at H
   have fB:=decide_eq_true c4
   clear c4
   (first|rw [fB]|(simp only [bY,dw];rw [fB])|skip)
   have H':=aj.mk H
   clear H
   go_wp2
   go_meet
   case rel=>exact ⟨_,(wrap64 (-a0)),zT,H',⟨by first|omega|exact Nat.le_refl _⟩,⟨zB⟩⟩
  ·rw [if_neg c4] at H
   have fB:=decide_eq_false c4
   clear c4
   (first|rw [fB]|(simp only [bY,dw];rw [fB])|skip)
   have H':=aj.mk H
   clear H
   go_wp2
   go_meet
   case rel=>exact ⟨_,(a0),zT,H',⟨by first|omega|exact Nat.le_refl _⟩,⟨zB⟩⟩
 case rest =>
  clear HC3
  obtain ⟨kq,agF,rfl,HA,HJ2,HB⟩:=hcut
  cases kq with
  | zero=>exact absurd HA.out (by simp [bZ.j0])
  | succ kj2 =>
   have H:=HA.out
   clear HA
   simp only [bZ.j0] at H
   replace H:=zO H
   obtain ⟨alr,A5,H⟩:=H
   try dsimp only at H
   replace H:=zO H
   obtain ⟨aeX,A6,H⟩:=H
   try dsimp only at H
   have H':=aj.mk H
   clear H
   go_wp2_with (first|((with_reducible refine ay (f:=118) rfl ?_);refine aH (some 18) rfl rfl Tryz.func118 (by kernel_rfl) rfl #[.int .i64 10851744800547,.int .i64 agF,.int .i64 a1] rfl zL ?_;(with_reducible refine (aX.calls kj2 10851744800547 agF a1 alr _ A5.out).mono ?_);rintro e w7 ⟨rfl,hb⟩;refine ⟨_,rfl,?_⟩;replace HB:=aj.mk (ak zB hb);(try clear hb))|((with_reducible refine ay (f:=118) rfl ?_);refine aH (some 22) rfl rfl Tryz.func118 (by kernel_rfl) rfl #[.int .i64 alr,.int .i64 agF,.int .i64 a1] rfl zL ?_;(with_reducible refine (aX.calls kj2 alr agF a1 aeX _ A6.out).mono ?_);rintro e w8 ⟨rfl,hb⟩;refine ⟨_,rfl,?_⟩;replace HB:=aj.mk (ak zB hb);(try clear hb)))
   go_loopg [7,8,9,10] kj2 (fun kq v7 v8 v9 v10 w'=>∃ (aaE:Int) (lM:Int) (abq:Int) (jo:Int),v7 = .int .i64 aaE∧v8 = .int .i64 lM∧v9 = .int .i64 abq∧v10 = .int .i64 jo∧aj (bZ.l0 kq aeX aaE lM abq jo=some r)∧aj (kq≤kj2)∧aj (Below w.heap.size w w'))
   case atStart=>exact ⟨(1099511627776),(0),(1099511627776),(1),zT,zT,zT,zT,H',⟨Nat.le_refl _⟩,⟨zB⟩⟩
   case round =>
    clear H'
    obtain ⟨aaE,lM,abq,jo,rfl,rfl,rfl,rfl,HA,HK2,HB⟩:=hrel
    cases gk with
    | zero=>exact absurd HA.out (by simp [bZ.l0])
    | succ k2 =>
     have H:=HA.out
     clear HA
     simp only [bZ.l0] at H
     by_cases c9:jo≤30
     ·rw [if_pos c9] at H
      have qA:=decide_eq_true c9
      clear c9
      replace H:=zO H
      obtain ⟨ab5,A10,H⟩:=H
      try dsimp only at H
      by_cases c11:(Int.tmod jo 2)=1
      ·rw [if_pos c11] at H
       have iQ:((Int.tmod jo 2) == 1)=true:=beq_iff_eq.mpr c11
       have xH:((Int.tmod jo 2) != 1)=false:=bne_eq_false_iff_eq.mpr c11
       clear c11
       have H':=aj.mk H
       clear H
       go_wp2_with (first|((with_reducible refine ay (f:=118) rfl ?_);refine aH (some 37) rfl rfl Tryz.func118 (by kernel_rfl) rfl #[.int .i64 abq,.int .i64 aeX,.int .i64 (wrap64 ((wrap64 ((wrap64 (2*jo))*(wrap64 ((wrap64 (2*jo))+1))))*1099511627776))] rfl zL ?_;(with_reducible refine (aX.calls k2 abq aeX (wrap64 ((wrap64 ((wrap64 (2*jo))*(wrap64 ((wrap64 (2*jo))+1))))*1099511627776)) ab5 _ A10.out).mono ?_);rintro e w12 ⟨rfl,hb⟩;refine ⟨_,rfl,?_⟩;replace HB:=aj.mk (ak zB hb);(try clear hb)))
       go_roundg k2
       case measure=>have:=HJ2.out;have:=HK2.out;omega
       case rel=>exact ⟨(aaE),(wrap64 (lM+ab5)),(ab5),(wrap64 (jo+1)),zT,zT,zT,zT,H',⟨by have:=HJ2.out;have:=HK2.out;omega⟩,⟨zB⟩⟩
      ·rw [if_neg c11] at H
       have iQ:((Int.tmod jo 2) == 1)=false:=beq_eq_false_iff_ne.mpr c11
       have xH:((Int.tmod jo 2) != 1)=true:=bne_iff_ne.mpr c11
       have H':=aj.mk H
       clear H
       go_wp2_with (first|((with_reducible refine ay (f:=118) rfl ?_);refine aH (some 37) rfl rfl Tryz.func118 (by kernel_rfl) rfl #[.int .i64 abq,.int .i64 aeX,.int .i64 (wrap64 ((wrap64 ((wrap64 (2*jo))*(wrap64 ((wrap64 (2*jo))+1))))*1099511627776))] rfl zL ?_;(with_reducible refine (aX.calls k2 abq aeX (wrap64 ((wrap64 ((wrap64 (2*jo))*(wrap64 ((wrap64 (2*jo))+1))))*1099511627776)) ab5 _ A10.out).mono ?_);rintro e w13 ⟨rfl,hb⟩;refine ⟨_,rfl,?_⟩;replace HB:=aj.mk (ak zB hb);(try clear hb)))
       go_roundg k2
       case measure=>have:=HJ2.out;have:=HK2.out;omega
       case rel=>exact ⟨(wrap64 (aaE+ab5)),(lM),(ab5),(wrap64 (jo+1)),zT,zT,zT,zT,H',⟨by have:=HJ2.out;have:=HK2.out;omega⟩,⟨zB⟩⟩
     ·rw [if_neg c9] at H
      have qA:=decide_eq_false c9
      clear c9
      obtain rfl:=Option.some.inj H
      go_wp2
      go_ret
      exact ⟨zS,zB⟩
def dZ.j0:Nat→Int→Int→Bool→Option (Int)
 | 0,_,_,_=>none
 | k+1,x0,x1,x21=>if x21=true then (some 0) else ((bZ.f k x0 x1).bind fun als=>((bZ.f k x0 (wrap64 (3*x1))).bind fun alu=>((aU.f k als alu 40).bind fun alv=>((aJ.f k alv 10).bind fun aqN=>(some aqN)))))
def dZ.f (k:Nat) (a0 a1:Int):Option (Int):=(lI.f a0 a1).bind fun aqO=>(if aqO=true then (if a0≥(wrap64 (3*a1)) then (dZ.j0 k a0 a1 true) else (dZ.j0 k a0 a1 (decide (a0≤(wrap64 ((-3)*a1)))))) else (dZ.j0 k a0 a1 true))
set_option maxHeartbeats 8000000 in
set_option maxRecDepth 100000 in
theorem dZ.calls (k:Nat) (a0 a1 r:Int) (w:World) (h:dZ.f k a0 a1=some r) :
  Calls Tryz.prog 171 #[.int .i64 a0,.int .i64 a1] w fun e w'=>e = .returned (.int .i64 r)∧Below w.heap.size w w':=by
 have HB:=aj.mk (Below.refl w.heap.size w)
 have H:=h
 clear h
 unfold dZ.f at H
 have HC3:=aj.mk H
 clear H
 go_enter Tryz.func171,Tryz.ntmps171
 go_upto_region 1 with (fail)
 go_cut [21] (fun v21 wc=>∃ (kq:Nat) (akh:Bool),v21 = .bool akh∧aj (dZ.j0 kq a0 a1 akh=some r)∧aj (kq≤k)∧aj (Below w.heap.size w wc))
 case first =>
  have H:=HC3.out
  clear HC3
  replace H:=zO H
  obtain ⟨aqO,A4,H⟩:=H
  try dsimp only at H
  by_cases c5:aqO=true
  ·subst c5
   rw [if_pos rfl] at H;try dsimp only at H
   by_cases c6:a0≥(wrap64 (3*a1))
   ·rw [if_pos c6] at H
    have iw:=decide_eq_true c6
    clear c6
    (first|rw [iw]|(simp only [bY,dw];rw [iw])|skip)
    have H':=aj.mk H
    clear H
    go_wp2_with (first|((with_reducible refine ay (f:=184) rfl ?_);refine aH (some 8) rfl rfl Tryz.func184 (by kernel_rfl) rfl #[.int .i64 a0,.int .i64 a1] rfl zL ?_;(with_reducible refine (lI.calls a0 a1 true _ A4.out).mono ?_);rintro e w' ⟨rfl,⟨nd,rfl⟩⟩;refine ⟨_,rfl,?_⟩))
    go_meet
    case rel=>exact ⟨_,(true),zT,H',⟨by first|omega|exact Nat.le_refl _⟩,⟨zB⟩⟩
   ·rw [if_neg c6] at H
    have iw:=decide_eq_false c6
    clear c6
    (first|rw [iw]|(simp only [bY,dw];rw [iw])|skip)
    have H':=aj.mk H
    clear H
    go_wp2_with (first|((with_reducible refine ay (f:=184) rfl ?_);refine aH (some 8) rfl rfl Tryz.func184 (by kernel_rfl) rfl #[.int .i64 a0,.int .i64 a1] rfl zL ?_;(with_reducible refine (lI.calls a0 a1 true _ A4.out).mono ?_);rintro e w' ⟨rfl,⟨nd,rfl⟩⟩;refine ⟨_,rfl,?_⟩))
    go_meet
    case rel=>exact ⟨_,(decide (a0≤(wrap64 ((-3)*a1)))),zT,H',⟨by first|omega|exact Nat.le_refl _⟩,⟨zB⟩⟩
  ·replace c5:=Bool.eq_false_iff.mpr c5
   subst c5
   rw [if_neg (show ¬ (false=true) by decide)] at H;try dsimp only at H
   have H':=aj.mk H
   clear H
   go_wp2_with (first|((with_reducible refine ay (f:=184) rfl ?_);refine aH (some 8) rfl rfl Tryz.func184 (by kernel_rfl) rfl #[.int .i64 a0,.int .i64 a1] rfl zL ?_;(with_reducible refine (lI.calls a0 a1 false _ A4.out).mono ?_);rintro e w' ⟨rfl,⟨nd,rfl⟩⟩;refine ⟨_,rfl,?_⟩))
   go_meet
   case rel=>exact ⟨_,(true),zT,H',⟨by first|omega|exact Nat.le_refl _⟩,⟨zB⟩⟩
 case rest =>
  clear HC3
  obtain ⟨kq,akh,rfl,HA,HJ2,HB⟩:=hcut
  cases kq with
  | zero=>exact absurd HA.out (by simp [dZ.j0])
  | succ kj2 =>
   have H:=HA.out
   clear HA
   simp only [dZ.j0] at H
   by_cases c7:akh=true
   ·subst c7
    rw [if_pos rfl] at H;try dsimp only at H
    obtain rfl:=Option.some.inj H
    go_wp2
    go_ret
    exact ⟨zS,zB⟩
   ·replace c7:=Bool.eq_false_iff.mpr c7
    subst c7
    rw [if_neg (show ¬ (false=true) by decide)] at H;try dsimp only at H
    replace H:=zO H
    obtain ⟨als,A8,H⟩:=H
    try dsimp only at H
    replace H:=zO H
    obtain ⟨alu,A9,H⟩:=H
    try dsimp only at H
    replace H:=zO H
    obtain ⟨alv,A10,H⟩:=H
    try dsimp only at H
    replace H:=zO H
    obtain ⟨aqN,A11,H⟩:=H
    try dsimp only at H
    obtain rfl:=Option.some.inj H
    go_wp2_with (first|((with_reducible refine ay (f:=186) rfl ?_);refine aH (some 24) rfl rfl Tryz.func186 (by kernel_rfl) rfl #[.int .i64 a0,.int .i64 a1] rfl zL ?_;(with_reducible refine (bZ.calls kj2 a0 a1 als _ A8.out).mono ?_);rintro e w12 ⟨rfl,hb⟩;refine ⟨_,rfl,?_⟩;replace HB:=aj.mk (ak zB hb);(try clear hb))|((with_reducible refine ay (f:=186) rfl ?_);refine aH (some 28) rfl rfl Tryz.func186 (by kernel_rfl) rfl #[.int .i64 a0,.int .i64 (wrap64 (3*a1))] rfl zL ?_;(with_reducible refine (bZ.calls kj2 a0 (wrap64 (3*a1)) alu _ A9.out).mono ?_);rintro e w13 ⟨rfl,hb⟩;refine ⟨_,rfl,?_⟩;replace HB:=aj.mk (ak zB hb);(try clear hb))|((with_reducible refine ay (f:=185) rfl ?_);refine aH (some 29) rfl rfl Tryz.func185 (by kernel_rfl) rfl #[.int .i64 als,.int .i64 alu,.int .i64 40] rfl zL ?_;(with_reducible refine (aU.calls kj2 als alu 40 alv _ A10.out).mono ?_);rintro e w14 ⟨rfl,hb⟩;refine ⟨_,rfl,?_⟩;replace HB:=aj.mk (ak zB hb);(try clear hb))|((with_reducible refine ay (f:=101) rfl ?_);refine aH (some 31) rfl rfl Tryz.func101 (by kernel_rfl) rfl #[.int .i64 alv,.int .i64 10] rfl zL ?_;(with_reducible refine (aJ.calls kj2 alv 10 aqN _ A11.out).mono ?_);rintro e w15 ⟨rfl,hb⟩;refine ⟨_,rfl,?_⟩;replace HB:=aj.mk (ak zB hb);(try clear hb)))
    go_ret
    exact ⟨zS,zB⟩
end Go.Proofs.YtpondkggmcmpfaaGreatDoor.QA
namespace Go.Proofs.YtpondkggmcmpfaaGreatDoor.QA
open Go.Proofs.YtpondkggmcmpfaaGreatDoor.T
open Go.RowKit Go.Proofs.YtpondkggmcmpfaaGreatDoorW.PrintWords Go.Proofs.YtpondkggmcmpfaaGreatDoorW.PrintLast Go.Proofs.YtpondkggmcmpfaaGreatDoorW.PrintMore
attribute [local go_sem] dV dP dQ fC fD
set_option linter.unusedVariables false
set_option linter.unusedSimpArgs false
def lY.f (k:Nat) (a0 a1 a2 a3 a4:Int):Option (Int):=if a0=0 then (if (wrap64 (a4*a2)) > (wrap64 (a3*a1)) then (if (wrap64 ((wrap64 (a4+1))*a2)) < (wrap64 ((wrap64 (a3+1))*a1)) then ((aX.f k (wrap64 ((wrap64 ((wrap64 (a4+1))*a2)) - (wrap64 (a4*a2)))) 1073741824 a1).bind fun aqP=>(some aqP)) else ((aX.f k (wrap64 ((wrap64 ((wrap64 (a3+1))*a1)) - (wrap64 (a4*a2)))) 1073741824 a1).bind fun aqQ=>(some aqQ))) else (if (wrap64 ((wrap64 (a4+1))*a2)) < (wrap64 ((wrap64 (a3+1))*a1)) then ((aX.f k (wrap64 ((wrap64 ((wrap64 (a4+1))*a2)) - (wrap64 (a3*a1)))) 1073741824 a1).bind fun aqR=>(some aqR)) else ((aX.f k (wrap64 ((wrap64 ((wrap64 (a3+1))*a1)) - (wrap64 (a3*a1)))) 1073741824 a1).bind fun aqS=>(some aqS)))) else ((gB.f a1 a2 a3 a4).bind fun aki=>(if a0=1 then ((bQ.f k aki.1 aki.2).bind fun aqT=>(some aqT)) else ((dZ.f k aki.1 aki.2).bind fun aqU=>(some aqU))))
set_option maxHeartbeats 8000000 in
set_option maxRecDepth 100000 in
theorem lY.calls (k:Nat) (a0 a1 a2 a3 a4 r:Int) (w:World) (h:lY.f k a0 a1 a2 a3 a4=some r) :
  Calls Tryz.prog 141 #[.int .i64 a0,.int .i64 a1,.int .i64 a2,.int .i64 a3,.int .i64 a4] w fun e w'=>e = .returned (.int .i64 r)∧Below w.heap.size w w':=by
 have HB:=aj.mk (Below.refl w.heap.size w)
 have H:=h
 clear h
 unfold lY.f at H
 by_cases c6:a0=0
 ·rw [if_pos c6] at H
  have iw:(a0 == 0)=true:=beq_iff_eq.mpr c6
  have vI:(a0 != 0)=false:=bne_eq_false_iff_eq.mpr c6
  clear c6
  by_cases c7:(wrap64 (a4*a2)) > (wrap64 (a3*a1))
  ·rw [if_pos c7] at H
   have jf:=decide_eq_true c7
   clear c7
   by_cases c8:(wrap64 ((wrap64 (a4+1))*a2)) < (wrap64 ((wrap64 (a3+1))*a1))
   ·rw [if_pos c8] at H
    have um:=decide_eq_true c8
    clear c8
    replace H:=zO H
    obtain ⟨aqP,A9,H⟩:=H
    try dsimp only at H
    obtain rfl:=Option.some.inj H
    go_enter Tryz.func141,Tryz.ntmps141
    go_wp2_with (first|((with_reducible refine ay (f:=118) rfl ?_);refine aH (some 46) rfl rfl Tryz.func118 (by kernel_rfl) rfl #[.int .i64 (wrap64 ((wrap64 ((wrap64 (a4+1))*a2)) - (wrap64 (a4*a2)))),.int .i64 1073741824,.int .i64 a1] rfl zL ?_;(with_reducible refine (aX.calls k (wrap64 ((wrap64 ((wrap64 (a4+1))*a2)) - (wrap64 (a4*a2)))) 1073741824 a1 aqP _ A9.out).mono ?_);rintro e w10 ⟨rfl,hb⟩;refine ⟨_,rfl,?_⟩;replace HB:=aj.mk (ak zB hb);(try clear hb)))
    go_ret
    exact ⟨zS,zB⟩
   ·rw [if_neg c8] at H
    have um:=decide_eq_false c8
    clear c8
    replace H:=zO H
    obtain ⟨aqQ,A11,H⟩:=H
    try dsimp only at H
    obtain rfl:=Option.some.inj H
    go_enter Tryz.func141,Tryz.ntmps141
    go_wp2_with (first|((with_reducible refine ay (f:=118) rfl ?_);refine aH (some 46) rfl rfl Tryz.func118 (by kernel_rfl) rfl #[.int .i64 (wrap64 ((wrap64 ((wrap64 (a3+1))*a1)) - (wrap64 (a4*a2)))),.int .i64 1073741824,.int .i64 a1] rfl zL ?_;(with_reducible refine (aX.calls k (wrap64 ((wrap64 ((wrap64 (a3+1))*a1)) - (wrap64 (a4*a2)))) 1073741824 a1 aqQ _ A11.out).mono ?_);rintro e w12 ⟨rfl,hb⟩;refine ⟨_,rfl,?_⟩;replace HB:=aj.mk (ak zB hb);(try clear hb)))
    go_ret
    exact ⟨zS,zB⟩
  ·rw [if_neg c7] at H
   have jf:=decide_eq_false c7
   clear c7
   by_cases c13:(wrap64 ((wrap64 (a4+1))*a2)) < (wrap64 ((wrap64 (a3+1))*a1))
   ·rw [if_pos c13] at H
    have aaT:=decide_eq_true c13
    clear c13
    replace H:=zO H
    obtain ⟨aqR,A14,H⟩:=H
    try dsimp only at H
    obtain rfl:=Option.some.inj H
    go_enter Tryz.func141,Tryz.ntmps141
    go_wp2_with (first|((with_reducible refine ay (f:=118) rfl ?_);refine aH (some 46) rfl rfl Tryz.func118 (by kernel_rfl) rfl #[.int .i64 (wrap64 ((wrap64 ((wrap64 (a4+1))*a2)) - (wrap64 (a3*a1)))),.int .i64 1073741824,.int .i64 a1] rfl zL ?_;(with_reducible refine (aX.calls k (wrap64 ((wrap64 ((wrap64 (a4+1))*a2)) - (wrap64 (a3*a1)))) 1073741824 a1 aqR _ A14.out).mono ?_);rintro e w15 ⟨rfl,hb⟩;refine ⟨_,rfl,?_⟩;replace HB:=aj.mk (ak zB hb);(try clear hb)))
    go_ret
    exact ⟨zS,zB⟩
   ·rw [if_neg c13] at H
    have aaT:=decide_eq_false c13
    clear c13
    replace H:=zO H
    obtain ⟨aqS,A16,H⟩:=H
    try dsimp only at H
    obtain rfl:=Option.some.inj H
    go_enter Tryz.func141,Tryz.ntmps141
    go_wp2_with (first|((with_reducible refine ay (f:=118) rfl ?_);refine aH (some 46) rfl rfl Tryz.func118 (by kernel_rfl) rfl #[.int .i64 (wrap64 ((wrap64 ((wrap64 (a3+1))*a1)) - (wrap64 (a3*a1)))),.int .i64 1073741824,.int .i64 a1] rfl zL ?_;(with_reducible refine (aX.calls k (wrap64 ((wrap64 ((wrap64 (a3+1))*a1)) - (wrap64 (a3*a1)))) 1073741824 a1 aqS _ A16.out).mono ?_);rintro e w17 ⟨rfl,hb⟩;refine ⟨_,rfl,?_⟩;replace HB:=aj.mk (ak zB hb);(try clear hb)))
    go_ret
    exact ⟨zS,zB⟩
 ·rw [if_neg c6] at H
  have iw:(a0 == 0)=false:=beq_eq_false_iff_ne.mpr c6
  have vI:(a0 != 0)=true:=bne_iff_ne.mpr c6
  replace H:=zO H
  obtain ⟨⟨aiE,aiF⟩,A18,H⟩:=H
  try dsimp only at H
  by_cases c19:a0=1
  ·rw [if_pos c19] at H
   have awJ:(a0 == 1)=true:=beq_iff_eq.mpr c19
   have awK:(a0 != 1)=false:=bne_eq_false_iff_eq.mpr c19
   clear c19
   replace H:=zO H
   obtain ⟨aqT,A20,H⟩:=H
   try dsimp only at H
   obtain rfl:=Option.some.inj H
   go_enter Tryz.func141,Tryz.ntmps141
   go_wp2_with (first|((with_reducible refine ay (f:=169) rfl ?_);refine aH (some 52) rfl rfl Tryz.func169 (by kernel_rfl) rfl #[.int .i64 a1,.int .i64 a2,.int .i64 a3,.int .i64 a4] rfl zL ?_;(with_reducible refine (gB.calls a1 a2 a3 a4 aiE aiF _ A18.out).mono ?_);rintro e w' ⟨rfl,⟨nd,rfl⟩⟩;refine ⟨_,rfl,?_⟩)|((with_reducible refine ay (f:=170) rfl ?_);refine aH (some 59) rfl rfl Tryz.func170 (by kernel_rfl) rfl #[.int .i64 aiE,.int .i64 aiF] rfl zL ?_;(with_reducible refine (bQ.calls k aiE aiF aqT _ A20.out).mono ?_);rintro e w21 ⟨rfl,hb⟩;refine ⟨_,rfl,?_⟩;replace HB:=aj.mk (ak zB hb);(try clear hb)))
   go_ret
   exact ⟨zS,zB⟩
  ·rw [if_neg c19] at H
   have awJ:(a0 == 1)=false:=beq_eq_false_iff_ne.mpr c19
   have awK:(a0 != 1)=true:=bne_iff_ne.mpr c19
   replace H:=zO H
   obtain ⟨aqU,A22,H⟩:=H
   try dsimp only at H
   obtain rfl:=Option.some.inj H
   go_enter Tryz.func141,Tryz.ntmps141
   go_wp2_with (first|((with_reducible refine ay (f:=169) rfl ?_);refine aH (some 52) rfl rfl Tryz.func169 (by kernel_rfl) rfl #[.int .i64 a1,.int .i64 a2,.int .i64 a3,.int .i64 a4] rfl zL ?_;(with_reducible refine (gB.calls a1 a2 a3 a4 aiE aiF _ A18.out).mono ?_);rintro e w' ⟨rfl,⟨nd,rfl⟩⟩;refine ⟨_,rfl,?_⟩)|((with_reducible refine ay (f:=171) rfl ?_);refine aH (some 62) rfl rfl Tryz.func171 (by kernel_rfl) rfl #[.int .i64 aiE,.int .i64 aiF] rfl zL ?_;(with_reducible refine (dZ.calls k aiE aiF aqU _ A22.out).mono ?_);rintro e w23 ⟨rfl,hb⟩;refine ⟨_,rfl,?_⟩;replace HB:=aj.mk (ak zB hb);(try clear hb)))
   go_ret
   exact ⟨zS,zB⟩
end Go.Proofs.YtpondkggmcmpfaaGreatDoor.QA
namespace Go.Proofs.YtpondkggmcmpfaaGreatDoor.QA
open Go.Proofs.YtpondkggmcmpfaaGreatDoor.T
open Go.RowKit Go.Proofs.YtpondkggmcmpfaaGreatDoorW.PrintWords Go.Proofs.YtpondkggmcmpfaaGreatDoorW.PrintLast Go.Proofs.YtpondkggmcmpfaaGreatDoorW.PrintMore
attribute [local go_sem] dV dP dQ fC fD
set_option linter.unusedVariables false
set_option linter.unusedSimpArgs false
mutual
def bV.l0:Nat→Int→Int→Int→Int→Int→Option (Int × List Int)
 | 0,_,_,_,_,_=>none
 | k+1,x0,x1,x2,x3,x10=>(jh.f x0 x1 x2 x3 (wrap64 (x10 - 1))).bind fun aqV=>(if aqV=true then (bV.l0 k x0 x1 x2 x3 (wrap64 (x10 - 1))) else (bV.l1 k x0 x1 x2 x3 x10))
def bV.l1:Nat→Int→Int→Int→Int→Int→Option (Int × List Int)
 | 0,_,_,_,_,_=>none
 | k+1,x0,x1,x2,x3,x10=>(jh.f x0 x1 x2 x3 x10).bind fun aqW=>(if aqW=true then (bV.l2 k x0 x1 x2 x3 x10 x10 ([]:List Int)) else (bV.l1 k x0 x1 x2 x3 (wrap64 (x10+1))))
def bV.l2:Nat→Int→Int→Int→Int→Int→Int→List Int→Option (Int × List Int)
 | 0,_,_,_,_,_,_,_=>none
 | k+1,x0,x1,x2,x3,x10,x11,x12=>(jh.f x0 x1 x2 x3 x10).bind fun aqX=>(if aqX=true then ((lY.f k x0 x1 x2 x3 x10).bind fun aiG=>(if x12.length < 17592186044416 then (bV.l2 k x0 x1 x2 x3 (wrap64 (x10+1)) x11 (x12 ++ [aiG])) else (none))) else (some (x11,x12)))
end
def bV.f (k:Nat) (a0 a1 a2 a3:Int):Option (Int × List Int):=(lJ.f a0 a1 a2 a3).bind fun aqY=>(if aqY=true then (if a2=0 then (none) else (bV.l0 k a0 a1 a2 a3 (wrap64 (Int.tdiv (wrap64 (a3*a1)) a2)))) else (some (0,([]:List Int))))
set_option maxHeartbeats 8000000 in
set_option maxRecDepth 100000 in
theorem bV.calls (k:Nat) (a0 a1 a2 a3 r1:Int) (r2:List Int) (w:World) (h:bV.f k a0 a1 a2 a3=some (r1,r2)) :
  Calls Tryz.prog 114 #[.int .i64 a0,.int .i64 a1,.int .i64 a2,.int .i64 a3] w fun e w'=>∃ v1_:Value,e = .returned (.tuple #[.int .i64 r1,v1_])∧Kd.R (Kd.int .i64) 2 w' w.heap.size (fun _=>True) v1_ r2∧Below w.heap.size w w':=by
 have HB:=aj.mk (Below.refl w.heap.size w)
 have H:=h
 clear h
 unfold bV.f at H
 replace H:=zO H
 obtain ⟨aqY,A5,H⟩:=H
 try dsimp only at H
 by_cases c6:aqY=true
 ·subst c6
  rw [if_pos rfl] at H;try dsimp only at H
  by_cases c7:a2=0
  ·rw [if_pos c7] at H
   exact absurd H (by simp)
  ·rw [if_neg c7] at H
   have jf:(a2 == 0)=false:=beq_eq_false_iff_ne.mpr c7
   have aar:(a2 != 0)=true:=bne_iff_ne.mpr c7
   have H':=aj.mk H
   clear H
   go_enter Tryz.func114,Tryz.ntmps114
   go_wp2_with (first|((with_reducible refine ay (f:=139) rfl ?_);refine aH (some 17) rfl rfl Tryz.func139 (by kernel_rfl) rfl #[.int .i64 a0,.int .i64 a1,.int .i64 a2,.int .i64 a3] rfl zL ?_;(with_reducible refine (lJ.calls a0 a1 a2 a3 true _ A5.out).mono ?_);rintro e w' ⟨rfl,⟨nd,rfl⟩⟩;refine ⟨_,rfl,?_⟩))
   go_loopg [10] k (fun kq v10 w'=>∃ (wR:Int),v10 = .int .i64 wR∧aj (bV.l0 kq a0 a1 a2 a3 wR=some (r1,r2))∧aj (kq≤k)∧aj (Below w.heap.size w w'))
   case atStart=>exact ⟨(wrap64 (Int.tdiv (wrap64 (a3*a1)) a2)),zT,H',⟨Nat.le_refl _⟩,⟨zB⟩⟩
   case round =>
    clear H'
    obtain ⟨wR,rfl,HA,HK1,HB⟩:=hrel
    cases gk with
    | zero=>exact absurd HA.out (by simp [bV.l0])
    | succ k1 =>
     have H:=HA.out
     clear HA
     simp only [bV.l0] at H
     replace H:=zO H
     obtain ⟨aqV,A8,H⟩:=H
     try dsimp only at H
     by_cases c9:aqV=true
     ·subst c9
      rw [if_pos rfl] at H;try dsimp only at H
      have H':=aj.mk H
      clear H
      go_wp2_with (first|((with_reducible refine ay (f:=140) rfl ?_);refine aH (some 30) rfl rfl Tryz.func140 (by kernel_rfl) rfl #[.int .i64 a0,.int .i64 a1,.int .i64 a2,.int .i64 a3,.int .i64 (wrap64 (wR - 1))] rfl zL ?_;(with_reducible refine (jh.calls a0 a1 a2 a3 (wrap64 (wR - 1)) true _ A8.out).mono ?_);rintro e w' ⟨rfl,⟨nd,rfl⟩⟩;refine ⟨_,rfl,?_⟩))
      go_roundg k1
      case measure=>have:=HK1.out;omega
      case rel=>exact ⟨(wrap64 (wR - 1)),zT,H',⟨by have:=HK1.out;omega⟩,⟨zB⟩⟩
     ·replace c9:=Bool.eq_false_iff.mpr c9
      subst c9
      rw [if_neg (show ¬ (false=true) by decide)] at H;try dsimp only at H
      have H':=aj.mk H
      clear H
      go_wp2_with (first|((with_reducible refine ay (f:=140) rfl ?_);refine aH (some 30) rfl rfl Tryz.func140 (by kernel_rfl) rfl #[.int .i64 a0,.int .i64 a1,.int .i64 a2,.int .i64 a3,.int .i64 (wrap64 (wR - 1))] rfl zL ?_;(with_reducible refine (jh.calls a0 a1 a2 a3 (wrap64 (wR - 1)) false _ A8.out).mono ?_);rintro e w' ⟨rfl,⟨nd,rfl⟩⟩;refine ⟨_,rfl,?_⟩))
      try simp only [Act.put,List.setIfInBounds_toArray,List.set_cons_succ,List.set_cons_zero]
      go_loopg [10] k1 (fun kq v10 w'=>∃ (jo:Int),v10 = .int .i64 jo∧aj (bV.l1 kq a0 a1 a2 a3 jo=some (r1,r2))∧aj (kq≤k1)∧aj (Below w.heap.size w w'))
      case atStart=>exact ⟨(wR),zT,H',⟨Nat.le_refl _⟩,⟨zB⟩⟩
      case round =>
       clear H'
       obtain ⟨jo,rfl,HA,HK2,HB⟩:=hrel
       cases gk with
       | zero=>exact absurd HA.out (by simp [bV.l1])
       | succ k2 =>
        have H:=HA.out
        clear HA
        simp only [bV.l1] at H
        replace H:=zO H
        obtain ⟨aqW,A10,H⟩:=H
        try dsimp only at H
        by_cases c11:aqW=true
        ·subst c11
         rw [if_pos rfl] at H;try dsimp only at H
         have H':=aj.mk H
         clear H
         go_wp2_with (first|((with_reducible refine ay (f:=140) rfl ?_);refine aH (some 38) rfl rfl Tryz.func140 (by kernel_rfl) rfl #[.int .i64 a0,.int .i64 a1,.int .i64 a2,.int .i64 a3,.int .i64 jo] rfl zL ?_;(with_reducible refine (jh.calls a0 a1 a2 a3 jo true _ A10.out).mono ?_);rintro e w' ⟨rfl,⟨nd,rfl⟩⟩;refine ⟨_,rfl,?_⟩))
         try simp only [Act.put,List.setIfInBounds_toArray,List.set_cons_succ,List.set_cons_zero]
         go_loopg [10,12] k2 (fun kq v10 v12 w'=>∃ (nN:Int) (afO:List Int),v10 = .int .i64 nN∧aj (bV.l2 kq a0 a1 a2 a3 nN jo afO=some (r1,r2))∧aj (kq≤k2)∧aj (Kd.R (Kd.int .i64) 2 w' w.heap.size (fun _=>True) v12 afO)∧aj (Below w.heap.size w w'))
         case atStart=>exact ⟨(jo),(([]:List Int)),zT,H',⟨Nat.le_refl _⟩,⟨by first|exact Kd.jW _ _ _ _ _|exact Kd.qj _ _ _ _ _|exact Kd.oH _ _ _ _ _|exact Kd.qm _ _ _ _ _|exact Kd.pJ _ _ _ _ _⟩,⟨zB⟩⟩
         case round =>
          clear H'
          obtain ⟨nN,afO,rfl,HA,HK3,akj,HB⟩:=hrel
          cases gk with
          | zero=>exact absurd HA.out (by simp [bV.l2])
          | succ k3 =>
           have H:=HA.out
           clear HA
           simp only [bV.l2] at H
           replace H:=zO H
           obtain ⟨aqX,A12,H⟩:=H
           try dsimp only at H
           by_cases c13:aqX=true
           ·subst c13
            rw [if_pos rfl] at H;try dsimp only at H
            replace H:=zO H
            obtain ⟨aiG,A14,H⟩:=H
            try dsimp only at H
            by_cases c15:afO.length < 17592186044416
            ·rw [if_pos c15] at H
             have anV:=aj.mk c15
             clear c15
             obtain ⟨avb,ahD⟩:∃ y_:List Int,y_=(afO ++ [aiG]):=⟨_,rfl⟩
             replace H:(bV.l2 k3 a0 a1 a2 a3 (wrap64 (nN+1)) jo avb)=some (r1,r2):=by first|(rw [ahD];with_reducible exact H)|(have H2_:=(Option.bind_some _ _).symm.trans H;rw [ahD];with_reducible exact H2_)|(have H2_:=(Option.bind_some _ _).symm.trans H;with_reducible exact H2_)|with_reducible exact H|(rw [ahD];exact H)|exact H
             have awL:=aj.mk ahD
             clear ahD
             have H':=aj.mk H
             clear H
             go_wp2_with (first|((with_reducible refine ay (f:=140) rfl ?_);refine aH (some 48) rfl rfl Tryz.func140 (by kernel_rfl) rfl #[.int .i64 a0,.int .i64 a1,.int .i64 a2,.int .i64 a3,.int .i64 nN] rfl zL ?_;(with_reducible refine (jh.calls a0 a1 a2 a3 nN true _ A12.out).mono ?_);rintro e w' ⟨rfl,⟨nd,rfl⟩⟩;refine ⟨_,rfl,?_⟩)|((with_reducible refine ay (f:=141) rfl ?_);refine aH (some 55) rfl rfl Tryz.func141 (by kernel_rfl) rfl #[.int .i64 a0,.int .i64 a1,.int .i64 a2,.int .i64 a3,.int .i64 nN] rfl zL ?_;(with_reducible refine (lY.calls k3 a0 a1 a2 a3 nN aiG _ A14.out).mono ?_);rintro e w16 ⟨rfl,hb⟩;refine ⟨_,rfl,?_⟩;obtain ⟨akj,HB⟩:=zA2 (Kd.ji (by (with_reducible repeat (first|apply Kd.aK|apply Kd.aQ|apply Kd.aW));exact akj.out) hb) (ak zB hb);(try clear hb))|((with_reducible refine jP (b := .append) (xs := #[.tmp 49,.tmp 56]) rfl ?_);at_builtin;refine Kd.kS (Kd.int .i64) (w0:=w) w.heap.size rfl (.tmp 49) (.tmp 56) 44 2 (.int .i64 0) 8 rfl Tryz.underlying44 wK rfl (by decide) (by omega) u12 afO aiG [.int .i64 aiG] (fun _=>True) (fun _=>False) rfl rfl ?aP (fun _ hk=>hk.elim) ?aF ?aO ?aB ?aS ?aL ?_;(case aP=>exact rfl);(case aB=>exact zB);(case aF=>exact (fun _ _=>trivial));(case aO=>exact (by (with_reducible repeat (first|apply Kd.aK|apply Kd.aQ|apply Kd.aW));exact akj.out));(case aS=>exact (bP zB));(case aL=>have:=anV.out;omega);intro aD7 w17 ho hb hg hat;rw [← awL.out] at ho;obtain ⟨HB,awM⟩:=zA2 hb ho;clear ho hb hg hat))
             go_roundg k3
             case measure=>have:=HK1.out;have:=HK2.out;have:=HK3.out;omega
             case rel=>exact ⟨(wrap64 (nN+1)),(avb),zT,H',⟨by have:=HK1.out;have:=HK2.out;have:=HK3.out;omega⟩,⟨by (with_reducible repeat (first|apply Kd.aK|apply Kd.aQ|apply Kd.aW));exact awM.out⟩,⟨zB⟩⟩
            ·rw [if_neg c15] at H
             exact absurd H (by simp)
           ·replace c13:=Bool.eq_false_iff.mpr c13
            subst c13
            rw [if_neg (show ¬ (false=true) by decide)] at H;try dsimp only at H
            simp only [Option.some.injEq,Prod.mk.injEq] at H
            obtain ⟨rfl,rfl⟩:=H
            go_wp2_with (first|((with_reducible refine ay (f:=140) rfl ?_);refine aH (some 48) rfl rfl Tryz.func140 (by kernel_rfl) rfl #[.int .i64 a0,.int .i64 a1,.int .i64 a2,.int .i64 a3,.int .i64 nN] rfl zL ?_;(with_reducible refine (jh.calls a0 a1 a2 a3 nN false _ A12.out).mono ?_);rintro e w' ⟨rfl,⟨nd,rfl⟩⟩;refine ⟨_,rfl,?_⟩))
            go_ret2
            exact ⟨_,zS,by (with_reducible repeat (first|apply Kd.aK|apply Kd.aQ|apply Kd.aW));exact akj.out,zB⟩
        ·replace c11:=Bool.eq_false_iff.mpr c11
         subst c11
         rw [if_neg (show ¬ (false=true) by decide)] at H;try dsimp only at H
         have H':=aj.mk H
         clear H
         go_wp2_with (first|((with_reducible refine ay (f:=140) rfl ?_);refine aH (some 38) rfl rfl Tryz.func140 (by kernel_rfl) rfl #[.int .i64 a0,.int .i64 a1,.int .i64 a2,.int .i64 a3,.int .i64 jo] rfl zL ?_;(with_reducible refine (jh.calls a0 a1 a2 a3 jo false _ A10.out).mono ?_);rintro e w' ⟨rfl,⟨nd,rfl⟩⟩;refine ⟨_,rfl,?_⟩))
         go_roundg k2
         case measure=>have:=HK1.out;have:=HK2.out;omega
         case rel=>exact ⟨(wrap64 (jo+1)),zT,H',⟨by have:=HK1.out;have:=HK2.out;omega⟩,⟨zB⟩⟩
 ·replace c6:=Bool.eq_false_iff.mpr c6
  subst c6
  rw [if_neg (show ¬ (false=true) by decide)] at H;try dsimp only at H
  simp only [Option.some.injEq,Prod.mk.injEq] at H
  obtain ⟨rfl,rfl⟩:=H
  go_enter Tryz.func114,Tryz.ntmps114
  go_wp2_with (first|((with_reducible refine ay (f:=139) rfl ?_);refine aH (some 17) rfl rfl Tryz.func139 (by kernel_rfl) rfl #[.int .i64 a0,.int .i64 a1,.int .i64 a2,.int .i64 a3] rfl zL ?_;(with_reducible refine (lJ.calls a0 a1 a2 a3 false _ A5.out).mono ?_);rintro e w' ⟨rfl,⟨nd,rfl⟩⟩;refine ⟨_,rfl,?_⟩))
  go_ret2
  exact ⟨_,zS,by first|exact Kd.jW _ _ _ _ _|exact Kd.qj _ _ _ _ _|exact Kd.oH _ _ _ _ _|exact Kd.qm _ _ _ _ _|exact Kd.pJ _ _ _ _ _,zB⟩
def iM.f (a0:Int):Option (Int):=if a0≥0 then (some a0) else (if a0 < (-9223372036854775807) then (some 9223372036854775807) else (some (wrap64 (-a0))))
set_option maxHeartbeats 8000000 in
set_option maxRecDepth 100000 in
theorem iM.calls (a0 r:Int) (w:World) (h:iM.f a0=some r) :
  Calls Tryz.prog 142 #[.int .i64 a0] w fun e w'=>e = .returned (.int .i64 r)∧cO w w':=by
 have H:=h
 clear h
 unfold iM.f at H
 by_cases c2:a0≥0
 ·rw [if_pos c2] at H
  have nD:=decide_eq_true c2
  clear c2
  obtain rfl:=Option.some.inj H
  go_enter Tryz.func142,Tryz.ntmps142
  go_wp2
  go_ret
  exact ⟨zT,zW⟩
 ·rw [if_neg c2] at H
  have nD:=decide_eq_false c2
  clear c2
  by_cases c3:a0 < (-9223372036854775807)
  ·rw [if_pos c3] at H
   have fQ:=decide_eq_true c3
   clear c3
   obtain rfl:=Option.some.inj H
   go_enter Tryz.func142,Tryz.ntmps142
   go_wp2
   go_ret
   exact ⟨zT,zW⟩
  ·rw [if_neg c3] at H
   have fQ:=decide_eq_false c3
   clear c3
   obtain rfl:=Option.some.inj H
   go_enter Tryz.func142,Tryz.ntmps142
   go_wp2
   go_ret
   exact ⟨zT,zW⟩
end Go.Proofs.YtpondkggmcmpfaaGreatDoor.QA
namespace Go.Proofs.YtpondkggmcmpfaaGreatDoor.QA
open Go.Proofs.YtpondkggmcmpfaaGreatDoor.T
open Go.RowKit Go.Proofs.YtpondkggmcmpfaaGreatDoorW.PrintWords Go.Proofs.YtpondkggmcmpfaaGreatDoorW.PrintLast Go.Proofs.YtpondkggmcmpfaaGreatDoorW.PrintMore
attribute [local go_sem] dV dP dQ fC fD
set_option linter.unusedVariables false
set_option linter.unusedSimpArgs false
def gX.j0:Nat→Int→Int→Bool→Option (Int)
 | 0,_,_,_=>none
 | k+1,x0,x1,x12=>if x12=true then (some 9223372036854775807) else (if x1 < 0 then (if x0 < (wrap64 ((-9223372036854775808) - x1)) then (some (-9223372036854775808)) else (some (wrap64 (x0+x1)))) else (some (wrap64 (x0+x1))))
def gX.f (k:Nat) (a0 a1:Int):Option (Int):=if a1 > 0 then (gX.j0 k a0 a1 (decide (a0 > (wrap64 (9223372036854775807 - a1))))) else (gX.j0 k a0 a1 false)
set_option maxHeartbeats 8000000 in
set_option maxRecDepth 100000 in
theorem gX.calls (k:Nat) (a0 a1 r:Int) (w:World) (h:gX.f k a0 a1=some r) :
  Calls Tryz.prog 147 #[.int .i64 a0,.int .i64 a1] w fun e w'=>e = .returned (.int .i64 r)∧cO w w':=by
 have H:=h
 clear h
 unfold gX.f at H
 have HC3:=aj.mk H
 clear H
 go_enter Tryz.func147,Tryz.ntmps147
 go_upto_region 1 with (fail)
 go_cut [12] (fun v12 wc=>∃ (kq:Nat) (akk:Bool),v12 = .bool akk∧aj (gX.j0 kq a0 a1 akk=some r)∧aj (kq≤k)∧cO w wc)
 case first =>
  have H:=HC3.out
  clear HC3
  by_cases c4:a1 > 0
  ·rw [if_pos c4] at H
   have fB:=decide_eq_true c4
   clear c4
   (first|rw [fB]|(simp only [bY,dw];rw [fB])|skip)
   have H':=aj.mk H
   clear H
   go_wp2
   go_meet
   case rel=>exact ⟨_,(decide (a0 > (wrap64 (9223372036854775807 - a1)))),zT,H',⟨by first|omega|exact Nat.le_refl _⟩,zW⟩
  ·rw [if_neg c4] at H
   have fB:=decide_eq_false c4
   clear c4
   (first|rw [fB]|(simp only [bY,dw];rw [fB])|skip)
   have H':=aj.mk H
   clear H
   go_wp2
   go_meet
   case rel=>exact ⟨_,(false),zT,H',⟨by first|omega|exact Nat.le_refl _⟩,zW⟩
 case rest =>
  clear HC3
  obtain ⟨kq,akk,rfl,HA,HJ2,⟨mc2,rfl⟩⟩:=hcut
  cases kq with
  | zero=>exact absurd HA.out (by simp [gX.j0])
  | succ kj2 =>
   have H:=HA.out
   clear HA
   simp only [gX.j0] at H
   by_cases c5:akk=true
   ·subst c5
    rw [if_pos rfl] at H;try dsimp only at H
    obtain rfl:=Option.some.inj H
    go_wp2
    go_ret
    exact ⟨zT,zW⟩
   ·replace c5:=Bool.eq_false_iff.mpr c5
    subst c5
    rw [if_neg (show ¬ (false=true) by decide)] at H;try dsimp only at H
    by_cases c6:a1 < 0
    ·rw [if_pos c6] at H
     have iw:=decide_eq_true c6
     clear c6
     by_cases c7:a0 < (wrap64 ((-9223372036854775808) - a1))
     ·rw [if_pos c7] at H
      have jf:=decide_eq_true c7
      clear c7
      obtain rfl:=Option.some.inj H
      go_wp2
      go_ret
      exact ⟨zT,zW⟩
     ·rw [if_neg c7] at H
      have jf:=decide_eq_false c7
      clear c7
      obtain rfl:=Option.some.inj H
      go_wp2
      go_ret
      exact ⟨zT,zW⟩
    ·rw [if_neg c6] at H
     have iw:=decide_eq_false c6
     clear c6
     obtain rfl:=Option.some.inj H
     go_wp2
     go_ret
     exact ⟨zT,zW⟩
def eP.l0:Nat→Int→List Int→Int→Int→Option (Int)
 | 0,_,_,_,_=>none
 | k+1,x3,x6,x7,x8=>if x8 < x7 then (if 0≤x8 then (if x8 < (x6.length:Int) then ((gX.f k x3 (rd x6 x8)).bind fun anW=>(eP.l0 k anW x6 x7 (wrap64 (x8+1)))) else (none)) else (none)) else (some x3)
def eP.f (k:Nat) (l0:List Int):Option (Int):=eP.l0 k 0 l0 (l0.length:Int) 0
set_option maxHeartbeats 8000000 in
set_option maxRecDepth 100000 in
theorem eP.calls (k:Nat) (A0:Option Addr) (c0:Nat) (l0:List Int) (r:Int) (w:World) (hr0:Kd.C (Kd.int .i64) w A0 l0.length l0) (hc0:l0.length≤c0) (h:eP.f k l0=some r) :
  Calls Tryz.prog 143 #[.slice A0 l0.length c0] w fun e w'=>e = .returned (.int .i64 r)∧cO w w':=by
 have HR0:=aj.mk hr0
 have HC0:=aj.mk hc0
 clear hr0 hc0
 have H:=h
 clear h
 unfold eP.f at H
 have H':=aj.mk H
 clear H
 go_enter Tryz.func143,Tryz.ntmps143
 go_wp2
 go_loopg [3,8] k (fun kq v3 v8 w'=>∃ (oM:Int) (iy:Int),v3 = .int .i64 oM∧v8 = .int .i64 iy∧aj (eP.l0 kq oM l0 (l0.length:Int) iy=some r)∧aj (kq≤k)∧cO w w')
 case atStart=>exact ⟨(0),(0),zT,zT,H',⟨Nat.le_refl _⟩,zW⟩
 case round =>
  clear H'
  obtain ⟨oM,iy,rfl,rfl,HA,HK1,⟨m1,rfl⟩⟩:=hrel
  cases gk with
  | zero=>exact absurd HA.out (by simp [eP.l0])
  | succ k1 =>
   have H:=HA.out
   clear HA
   simp only [eP.l0] at H
   by_cases c2:iy < (l0.length:Int)
   ·rw [if_pos c2] at H
    have nD:=decide_eq_true c2
    clear c2
    by_cases c3:0≤iy
    ·rw [if_pos c3] at H
     have fQ:=decide_eq_true c3
     clear c3
     by_cases c4:iy < (l0.length:Int)
     ·rw [if_pos c4] at H
      have fB:=decide_eq_true c4
      clear c4
      replace H:=zO H
      obtain ⟨anW,A5,H⟩:=H
      try dsimp only at H
      have H':=aj.mk H
      clear H
      have aqZ:0≤(iy:Int):=of_decide_eq_true (by first|(with_reducible assumption)|assumption)
      have aq0:iy < (l0.length:Int):=of_decide_eq_true (by first|(with_reducible assumption)|assumption)
      obtain ⟨aCq,ayV,az3⟩:=Kd.iI HR0.out iy aqZ aq0
      cases ayV
      replace aqZ:=eq_true aqZ
      replace aq0:=eq_true aq0
      go_wp2_with (first|((with_reducible refine ay (f:=147) rfl ?_);refine aH (some 14) rfl rfl Tryz.func147 (by kernel_rfl) rfl #[.int .i64 oM,.int .i64 (rd l0 iy)] rfl zL ?_;(with_reducible refine (gX.calls k1 oM (rd l0 iy) anW _ A5.out).mono ?_);rintro e w' ⟨rfl,⟨nd,rfl⟩⟩;refine ⟨_,rfl,?_⟩))
      go_roundg k1
      case measure=>have:=HK1.out;omega
      case rel=>exact ⟨(anW),(wrap64 (iy+1)),zT,zT,H',⟨by have:=HK1.out;omega⟩,zW⟩
     ·rw [if_neg c4] at H
      exact absurd H (by simp)
    ·rw [if_neg c3] at H
     exact absurd H (by simp)
   ·rw [if_neg c2] at H
    have nD:=decide_eq_false c2
    clear c2
    obtain rfl:=Option.some.inj H
    go_wp2
    go_ret
    exact ⟨zT,zW⟩
end Go.Proofs.YtpondkggmcmpfaaGreatDoor.QA
