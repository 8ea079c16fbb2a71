/- Joined by wip/tools/bundle.py out of: QAx30 QAx31 QAx32 QAx33 QAx34 QAx35. -/
import Derived.Test.YtpondkggmcmpfaaGreatDoorBPlanCovers0
import Derived.Test.YtpondkggmcmpfaaGreatDoorBPlanCovers1
import Derived.Test.YtpondkggmcmpfaaGreatDoorBPlanCovers7
import Derived.Test.YtpondkggmcmpfaaGreatDoorBPlanCovers12
namespace Go.Proofs.YtpondkggmcmpfaaGreatDoor.QA
open Go.Proofs.YtpondkggmcmpfaaGreatDoor.T
open Go.RowKit Go.Proofs.YtpondkggmcmpfaaGreatDoorW.PrintWords Go.Proofs.YtpondkggmcmpfaaGreatDoorW.PrintLast Go.Proofs.YtpondkggmcmpfaaGreatDoorW.PrintMore
attribute [local go_sem] dY dS dU fA fB
set_option linter.unusedVariables false
set_option linter.unusedSimpArgs false
mutual
def aU.j0:Nat→Int→Int→Int→Option (Int)
 | 0,_,_,_=>none
 | k+1,x0,x1,x2=>if x2 > 127 then (some 0) else ((dN.f x0).bind fun aeg=>((dN.f x1).bind fun aeh=>((dQ.f k aeg aeh).bind fun ai2=>(if x2=0 then ((bM.f k ai2.1 ai2.2 ((decide (x0 < 0)) != (decide (x1 < 0)))).bind fun ao2=>(some ao2)) else (aU.l0 k x2 ((decide (x0 < 0)) != (decide (x1 < 0))) 127 ai2.1 ai2.2 0 0)))))
def aU.l0:Nat→Int→Bool→Int→Int→Int→Int→Int→Option (Int)
 | 0,_,_,_,_,_,_,_=>none
 | k+1,x2,x7,x10,yA,yB,tN,tV=>if x10≥x2 then ((fF.f yA yB x10).bind fun ajV=>((dL.f tN tV ajV).bind fun aqX=>(aU.l0 k x2 x7 (wrap64 (x10 - 1)) yA yB aqX.1 aqX.2))) else (aU.l1 k x2 x7 false (wrap64 (x2 - 1)) 0 yA yB tN tV)
def aU.l1:Nat→Int→Bool→Bool→Int→Int→Int→Int→Int→Int→Option (Int)
 | 0,_,_,_,_,_,_,_,_,_=>none
 | k+1,x2,x7,x11,x44,x45,yA,yB,tN,tV=>if x45 < x44 then (if x11=true then (aU.l1 k x2 x7 true x44 (wrap64 (x45+1)) yA yB tN tV) else ((fF.f yA yB x45).bind fun amy=>(aU.l1 k x2 x7 (amy == 1) x44 (wrap64 (x45+1)) yA yB tN tV))) else ((fF.f yA yB (wrap64 (x2 - 1))).bind fun aci=>(if aci=1 then (if x11=true then (aU.j3 k x7 true tN tV) else (aU.j3 k x7 (!x7) tN tV)) else (aU.j3 k x7 false tN tV)))
def aU.j3:Nat→Bool→Bool→Int→Int→Option (Int)
 | 0,_,_,_,_=>none
 | k+1,x7,x67,tN,tV=>if x67=true then ((gJ.f tN tV 0 1).bind fun aqY=>((bM.f k aqY.1 aqY.2 x7).bind fun ao3=>(some ao3))) else ((bM.f k tN tV x7).bind fun ao4=>(some ao4))
end
def aU.f (k:Nat) (a0 a1 a2:Int):Option (Int):=if a2 < 0 then (aU.j0 k a0 a1 0) else (aU.j0 k a0 a1 a2)
set_option maxHeartbeats 8000000 in
set_option maxRecDepth 100000 in
theorem aU.calls (k:Nat) (a0 a1 a2 r:Int) (w:World) (h:aU.f k a0 a1 a2=some r) :
  Calls Tryz.prog 185 #[.int .i64 a0,.int .i64 a1,.int .i64 a2] w fun e w'=>e = .returned (.int .i64 r)∧Below w.heap.size w w':=by
 have xI:=Tryz.underlying179
 have HB:=aj.mk (Below.refl w.heap.size w)
 have H:=h
 clear h
 unfold aU.f at H
 have HC4:=aj.mk H
 clear H
 go_enter Tryz.func185,Tryz.ntmps185
 go_upto_if 14 with (fail)
 go_cut [2] (fun v2 wc=>∃ (kq:Nat) (tX:Int),v2 = .int .i64 tX∧aj (aU.j0 kq a0 a1 tX=some r)∧aj (kq≤k)∧aj (Below w.heap.size w wc))
 case first =>
  have H:=HC4.out
  clear HC4
  by_cases c5:a2 < 0
  ·rw [if_pos c5] at H
   have iM:=decide_eq_true c5
   clear c5
   (first|rw [iM]|(simp only [bW,dA];rw [iM])|skip)
   have H':=aj.mk H
   clear H
   go_wp2
   go_meet
   case rel=>exact ⟨_,(0),zT,H',⟨by first|omega|exact Nat.le_refl _⟩,⟨zB⟩⟩
  ·rw [if_neg c5] at H
   have iM:=decide_eq_false c5
   clear c5
   (first|rw [iM]|(simp only [bW,dA];rw [iM])|skip)
   have H':=aj.mk H
   clear H
   go_wp2
   go_meet
   case rel=>exact ⟨_,(a2),zT,H',⟨by first|omega|exact Nat.le_refl _⟩,⟨zB⟩⟩
 case rest =>
  clear HC4
  obtain ⟨kq,tX,rfl,HA,HJ3,HB⟩:=hcut
  cases kq with
  | zero=>exact absurd HA.out (by simp [aU.j0])
  | succ kj3 =>
   have H:=HA.out
   clear HA
   simp only [aU.j0] at H
   by_cases c6:tX > 127
   ·rw [if_pos c6] at H
    have iy:=decide_eq_true c6
    clear c6
    obtain rfl:=Option.some.inj H
    go_wp2
    go_ret
    exact ⟨zS,zB⟩
   ·rw [if_neg c6] at H
    have iy:=decide_eq_false c6
    clear c6
    replace H:=zO H
    obtain ⟨aeg,A7,H⟩:=H
    try dsimp only at H
    replace H:=zO H
    obtain ⟨aeh,A8,H⟩:=H
    try dsimp only at H
    replace H:=zO H
    obtain ⟨⟨oN,qJ⟩,A9,H⟩:=H
    try dsimp only at H
    by_cases c10:tX=0
    ·rw [if_pos c10] at H
     have qg:(tX == 0)=true:=beq_iff_eq.mpr c10
     have aqZ:(tX != 0)=false:=bne_eq_false_iff_eq.mpr c10
     clear c10
     replace H:=zO H
     obtain ⟨ao2,A11,H⟩:=H
     try dsimp only at H
     obtain rfl:=Option.some.inj H
     go_wp2_with (first|((with_reducible refine aA (f:=120) rfl ?_);refine aH (some 23) rfl rfl Tryz.func120 (by kernel_rfl) rfl #[.int .i64 a0] rfl zL ?_;(with_reducible refine (dN.calls a0 aeg _ A7.out).mono ?_);rintro e w' ⟨rfl,⟨nd,rfl⟩⟩;refine ⟨_,rfl,?_⟩;(try (rw [nU wc];generalize hq_:World.drewN wc _=wc;have n0_:aj (Below w.heap.size w wc):=⟨by rw [← hq_];exact zB⟩;clear HB hq_;have HB:=n0_;clear n0_)))|((with_reducible refine aA (f:=120) rfl ?_);refine aH (some 25) rfl rfl Tryz.func120 (by kernel_rfl) rfl #[.int .i64 a1] rfl zL ?_;(with_reducible refine (dN.calls a1 aeh _ A8.out).mono ?_);rintro e w' ⟨rfl,⟨nd,rfl⟩⟩;refine ⟨_,rfl,?_⟩;(try (rw [nU wc];generalize hq_:World.drewN wc _=wc;have n0_:aj (Below w.heap.size w wc):=⟨by rw [← hq_];exact zB⟩;clear HB hq_;have HB:=n0_;clear n0_)))|((with_reducible refine aA (f:=148) rfl ?_);refine aH (some 26) rfl rfl Tryz.func148 (by kernel_rfl) rfl #[.int .u64 aeg,.int .u64 aeh] rfl zL ?_;(with_reducible refine (dQ.calls kj3 aeg aeh oN qJ _ A9.out).mono ?_);rintro e w12 ⟨rfl,hb⟩;refine ⟨_,rfl,?_⟩;replace HB:=aj.mk (ak zB hb);(try clear hb))|((with_reducible refine bK (N:=8) rfl ?_);refine bT zR (N:=8) zR (cs := #[.int .u64 0,.int .u64 0]) (t:=179) zG ?_;intro xJ hg w13 hbox hb;obtain ⟨HB,gG,auF,auG⟩:=zA4 (ak zB hb) hbox (zg hg zB) (zg hg zB);clear hb hbox hg;obtain ⟨_,_⟩:=zC2 gG.out;obtain ⟨_,_⟩:=zF2 gG.out)|((with_reducible refine aA (f:=125) rfl ?_);refine aH (some 31) rfl rfl Tryz.func125 (by kernel_rfl) rfl #[.agg #[.int .u64 oN,.int .u64 qJ],.bool ((decide (a0 < 0)) != (decide (a1 < 0)))] rfl zL ?_;(with_reducible refine (bM.calls kj3 oN qJ ((decide (a0 < 0)) != (decide (a1 < 0))) ao2 _ A11.out).mono ?_);rintro e w15 ⟨rfl,hb⟩;refine ⟨_,rfl,?_⟩;obtain ⟨gG,HB⟩:=zA2 (ay (g:=xJ) (o := .cells #[.int .u64 oN,.int .u64 qJ] 179 (0,0)) (by refine zD ?_;refine aY (cs := #[.int .u64 oN,.int .u64 0]) ?_ 1 _ rfl;refine zD ?_;refine aY (cs := #[.int .u64 0,.int .u64 0]) ?_ 0 _ rfl;refine zD ?_;exact gG.out) hb) (ak zB hb);(try clear hb)))
     go_ret
     exact ⟨zS,zB⟩
    ·rw [if_neg c10] at H
     have qg:(tX == 0)=false:=beq_eq_false_iff_ne.mpr c10
     have aqZ:(tX != 0)=true:=bne_iff_ne.mpr c10
     have H':=aj.mk H
     clear H
     go_wp2_with (first|((with_reducible refine aA (f:=120) rfl ?_);refine aH (some 23) rfl rfl Tryz.func120 (by kernel_rfl) rfl #[.int .i64 a0] rfl zL ?_;(with_reducible refine (dN.calls a0 aeg _ A7.out).mono ?_);rintro e w' ⟨rfl,⟨nd,rfl⟩⟩;refine ⟨_,rfl,?_⟩;(try (rw [nU wc];generalize hq_:World.drewN wc _=wc;have n0_:aj (Below w.heap.size w wc):=⟨by rw [← hq_];exact zB⟩;clear HB hq_;have HB:=n0_;clear n0_)))|((with_reducible refine aA (f:=120) rfl ?_);refine aH (some 25) rfl rfl Tryz.func120 (by kernel_rfl) rfl #[.int .i64 a1] rfl zL ?_;(with_reducible refine (dN.calls a1 aeh _ A8.out).mono ?_);rintro e w' ⟨rfl,⟨nd,rfl⟩⟩;refine ⟨_,rfl,?_⟩;(try (rw [nU wc];generalize hq_:World.drewN wc _=wc;have n0_:aj (Below w.heap.size w wc):=⟨by rw [← hq_];exact zB⟩;clear HB hq_;have HB:=n0_;clear n0_)))|((with_reducible refine aA (f:=148) rfl ?_);refine aH (some 26) rfl rfl Tryz.func148 (by kernel_rfl) rfl #[.int .u64 aeg,.int .u64 aeh] rfl zL ?_;(with_reducible refine (dQ.calls kj3 aeg aeh oN qJ _ A9.out).mono ?_);rintro e w16 ⟨rfl,hb⟩;refine ⟨_,rfl,?_⟩;replace HB:=aj.mk (ak zB hb);(try clear hb))|((with_reducible refine bK (N:=8) rfl ?_);refine bT zR (N:=8) zR (cs := #[.int .u64 0,.int .u64 0]) (t:=179) zG ?_;intro xJ hg w17 hbox hb;obtain ⟨HB,gG,auF,auG⟩:=zA4 (ak zB hb) hbox (zg hg zB) (zg hg zB);clear hb hbox hg;obtain ⟨_,_⟩:=zC2 gG.out;obtain ⟨_,_⟩:=zF2 gG.out)|((with_reducible refine bK (N:=9) rfl ?_);refine bT zR (N:=9) zR (cs := #[.int .u64 0,.int .u64 0]) (t:=179) zG ?_;intro aak hg w19 hbox hb;obtain ⟨gG,HB,iC,az3,az4,rO,rP⟩:=zA7 (ay (g:=xJ) (o := .cells #[.int .u64 oN,.int .u64 qJ] 179 (0,0)) (by refine zD ?_;refine aY (cs := #[.int .u64 oN,.int .u64 0]) ?_ 1 _ rfl;refine zD ?_;refine aY (cs := #[.int .u64 0,.int .u64 0]) ?_ 0 _ rfl;refine zD ?_;exact gG.out) hb) (ak zB hb) hbox (zg hg zB) (zg hg zB) ((by rw [hg];exact Nat.ne_of_lt (dJ (g:=xJ) (o := .cells #[.int .u64 oN,.int .u64 qJ] 179 (0,0)) (by refine zD ?_;refine aY (cs := #[.int .u64 oN,.int .u64 0]) ?_ 1 _ rfl;refine zD ?_;refine aY (cs := #[.int .u64 0,.int .u64 0]) ?_ 0 _ rfl;refine zD ?_;exact gG.out)):xJ≠aak)) ((by rw [hg];exact Nat.ne_of_gt (dJ (g:=xJ) (o := .cells #[.int .u64 oN,.int .u64 qJ] 179 (0,0)) (by refine zD ?_;refine aY (cs := #[.int .u64 oN,.int .u64 0]) ?_ 1 _ rfl;refine zD ?_;refine aY (cs := #[.int .u64 0,.int .u64 0]) ?_ 0 _ rfl;refine zD ?_;exact gG.out)):aak≠xJ));clear hb hbox hg;have az5:=rP.out;have az6:=rO.out;obtain ⟨_,_⟩:=zC2 iC.out;obtain ⟨_,_⟩:=zF2 iC.out))
     go_loopg [10] kj3 (fun kq v10 w'=>∃ (jc:Int) (kD:Int) (jK:Int),v10 = .int .i64 jc∧aj (aU.l0 kq tX ((decide (a0 < 0)) != (decide (a1 < 0))) jc oN qJ kD jK=some r)∧aj (kq≤kj3)∧aj (w'.heap[xJ]? = some (.cells #[.int .u64 oN,.int .u64 qJ] 179 (0,0)))∧aj (w'.heap[aak]? = some (.cells #[.int .u64 kD,.int .u64 jK] 179 (0,0)))∧aj (Below w.heap.size w w'))
     case atStart=>exact ⟨(127),(0),(0),zT,H',⟨Nat.le_refl _⟩,⟨zK gG⟩,⟨by refine zD ?_;refine aY (cs := #[.int .u64 0,.int .u64 0]) ?_ 1 _ rfl;refine zD ?_;refine aY (cs := #[.int .u64 0,.int .u64 0]) ?_ 0 _ rfl;refine zD ?_;exact iC.out⟩,⟨zB⟩⟩
     case round =>
      clear H'
      obtain ⟨jc,kD,jK,rfl,HA,HK2,gG,iC,HB⟩:=hrel
      cases gk with
      | zero=>exact absurd HA.out (by simp [aU.l0])
      | succ k2 =>
       have H:=HA.out
       clear HA
       simp only [aU.l0] at H
       by_cases c22:jc≥tX
       ·rw [if_pos c22] at H
        have auH:=decide_eq_true c22
        clear c22
        replace H:=zO H
        obtain ⟨ajV,A23,H⟩:=H
        try dsimp only at H
        replace H:=zO H
        obtain ⟨⟨ao5,asN⟩,A24,H⟩:=H
        try dsimp only at H
        have H':=aj.mk H
        clear H
        try go_wp2
        obtain ⟨gG,iC,HB⟩:=zA3 (jv gG.out) (jv iC.out) (bg HB.out)
        refine acw (n:=6) (S:=fun w'=>w'.cell? ⟨aak,0,none⟩=some (.int .u64 kD)∧w'.cell? ⟨aak,1,none⟩=some (.int .u64 jK)∧w'.cell? ⟨xJ,0,none⟩=some (.int .u64 oN)∧w'.cell? ⟨xJ,1,none⟩=some (.int .u64 qJ)) (ds:=[5]) #[false,false,false,false,false,false] (by kernel_rfl) rfl rfl ⟨(au iC.out 0).trans rfl,(au iC.out 1).trans rfl,(au gG.out 0).trans rfl,(au gG.out 1).trans rfl⟩ (fun hHeld => ?_)
        generalize wr.drew=w25 at gG iC HB hHeld ⊢
        refine xG (i:=2) (N:=some 40) (v := ?_) (a' := ?_) #[false,false,true,false,false,false] rfl rfl (by kernel_rfl) (fun _ _ _ h=>h) (Or.inl ⟨by rfl,?_⟩) ?_ ?_
        rotate_left
        ·intro w'
         go_simp
         with_reducible rfl
        rotate_left
        ·simp only [Act.put,List.setIfInBounds_toArray,List.set_cons_zero,List.set_cons_succ,bW,dA]
         rfl
        refine yE (i:=0) (N:=some 38) (v := ?_) (a' := ?_) #[true,false,true,false,false,false] rfl rfl (by kernel_rfl) (fun _ _ _ h=>h) (Or.inl ⟨by rfl,?_⟩) hHeld ?_ ?_
        rotate_left
        ·rintro w' ⟨s0,s1,s2,s3⟩
         go_simp
         with_reducible rfl
        rotate_left
        ·simp only [Act.put,List.setIfInBounds_toArray,List.set_cons_zero,List.set_cons_succ,bW,dA]
         rfl
        refine yE (i:=1) (N:=some 39) (v := ?_) (a' := ?_) #[true,true,true,false,false,false] rfl rfl (by kernel_rfl) (fun _ _ _ h=>h) (Or.inl ⟨by rfl,?_⟩) hHeld ?_ ?_
        rotate_left
        ·rintro w' ⟨s0,s1,s2,s3⟩
         go_simp
         with_reducible rfl
        rotate_left
        ·simp only [Act.put,List.setIfInBounds_toArray,List.set_cons_zero,List.set_cons_succ,bW,dA]
         rfl
        refine abj (i:=3) (N:=some 41) #[true,true,true,true,false,false] rfl rfl (by kernel_rfl) (by decide) (fun K hK => ?_)
        refine aaf Tryz.func121 (by kernel_rfl) rfl #[.agg #[.int .u64 oN,.int .u64 qJ],.int .i64 jc] (by rfl) rfl rfl zL ?_
        with_reducible refine (fF.calls oN qJ jc ajV _ A23.out).mono ?_
        rintro e w26 ⟨rfl,hb⟩
        refine ⟨_,rfl,?_⟩
        obtain ⟨gG,iC,HB⟩:=zA3 (ay (zK gG) hb) (ay (zK iC) hb) (ak zB hb)
        (try clear hb)
        (try clear hb2)
        (try clear hk)
        (try clear hi)
        refine hK.out _ _ ⟨(au iC.out 0).trans rfl,(au iC.out 1).trans rfl,(au gG.out 0).trans rfl,(au gG.out 1).trans rfl⟩ (fun hHeld => ?_)
        clear hK K
        refine aae (a' := ?_) ?_ ?_
        rotate_left
        ·show Act.put _ (some 41) _=_
         simp only [Act.put,List.setIfInBounds_toArray,List.set_cons_zero,List.set_cons_succ,bW,dA]
         rfl
        refine abj (i:=4) (N:=some 42) #[true,true,true,true,true,false] rfl rfl (by kernel_rfl) (by decide) (fun K hK => ?_)
        refine aaf Tryz.func119 (by kernel_rfl) rfl #[.agg #[.int .u64 kD,.int .u64 jK],.int .u64 ajV] (by rfl) rfl rfl zL ?_
        with_reducible refine (dL.calls kD jK ajV ao5 asN _ A24.out).mono ?_
        rintro e w27 ⟨rfl,hb⟩
        refine ⟨_,rfl,?_⟩
        obtain ⟨gG,iC,HB⟩:=zA3 (ay (zK gG) hb) (ay (zK iC) hb) (ak zB hb)
        (try clear hb)
        (try clear hb2)
        (try clear hk)
        (try clear hi)
        refine hK.out _ _ ⟨(au iC.out 0).trans rfl,(au iC.out 1).trans rfl,(au gG.out 0).trans rfl,(au gG.out 1).trans rfl⟩ (fun hHeld => ?_)
        clear hK K
        refine aae (a' := ?_) ?_ ?_
        rotate_left
        ·show Act.put _ (some 42) _=_
         simp only [Act.put,List.setIfInBounds_toArray,List.set_cons_zero,List.set_cons_succ,bW,dA]
         rfl
        refine aiV (i:=5) (N:=none) #[true,true,true,true,true,true] rfl rfl (by kernel_rfl) (by decide) (fun K hK => ?_)
        have aA5:w27.cell? ⟨aak,0,none⟩=some (.int .u64 kD):=(au iC.out 0).trans rfl
        have az7:=aN iC.out 0
        have axR:=rO.out
        have axS:=rP.out
        have aA6:w27.cell? ⟨aak,1,none⟩=some (.int .u64 jK):=(au iC.out 1).trans rfl
        have az8:=aN iC.out 1
        have axT:=rO.out
        have axU:=rP.out
        refine agc (w1 := ?_) (by rfl) rfl ?_ ?_
        rotate_left
        ·go_simp
         rfl
        refine hK.out _ _ ?_
        clear hK K
        refine aeN (by kernel_rfl) ?_
        try go_wp2
        go_roundg k2
        case measure=>have:=HJ3.out;have:=HK2.out;omega
        case rel=>exact ⟨(wrap64 (jc - 1)),(ao5),(asN),zT,H',⟨by have:=HJ3.out;have:=HK2.out;omega⟩,⟨zK gG⟩,⟨by refine zD ?_;refine aY (cs := #[.int .u64 ao5,.int .u64 jK]) ?_ 1 _ rfl;refine zD ?_;refine aY (cs := #[.int .u64 kD,.int .u64 jK]) ?_ 0 _ rfl;refine zD ?_;exact iC.out⟩,⟨zB⟩⟩
       ·rw [if_neg c22] at H
        have auH:=decide_eq_false c22
        clear c22
        have H':=aj.mk H
        clear H
        go_wp2
        try simp only [Act.put,List.setIfInBounds_toArray,List.set_cons_succ,List.set_cons_zero]
        go_loopg [11,45] k2 (fun kq v11 v45 w'=>∃ (agB:Bool) (ac6:Int),v11 = .bool agB∧v45 = .int .i64 ac6∧aj (aU.l1 kq tX ((decide (a0 < 0)) != (decide (a1 < 0))) agB (wrap64 (tX - 1)) ac6 oN qJ kD jK=some r)∧aj (kq≤k2)∧aj (w'.heap[xJ]? = some (.cells #[.int .u64 oN,.int .u64 qJ] 179 (0,0)))∧aj (w'.heap[aak]? = some (.cells #[.int .u64 kD,.int .u64 jK] 179 (0,0)))∧aj (Below w.heap.size w w'))
        case atStart=>exact ⟨(false),(0),zT,zT,H',⟨Nat.le_refl _⟩,⟨zK gG⟩,⟨zK iC⟩,⟨zB⟩⟩
        case round =>
         clear H'
         obtain ⟨agB,ac6,rfl,rfl,HA,HK3,gG,iC,HB⟩:=hrel
         cases gk with
         | zero=>exact absurd HA.out (by simp [aU.l1])
         | succ k3 =>
          have H:=HA.out
          clear HA
          simp only [aU.l1] at H
          by_cases c30:ac6 < (wrap64 (tX - 1))
          ·rw [if_pos c30] at H
           have aq0:=decide_eq_true c30
           clear c30
           by_cases c31:agB=true
           ·subst c31
            rw [if_pos rfl] at H;try dsimp only at H
            have H':=aj.mk H
            clear H
            go_wp2
            go_roundg k3
            case measure=>have:=HJ3.out;have:=HK2.out;have:=HK3.out;omega
            case rel=>exact ⟨(true),(wrap64 (ac6+1)),zT,zT,H',⟨by have:=HJ3.out;have:=HK2.out;have:=HK3.out;omega⟩,⟨zK gG⟩,⟨zK iC⟩,⟨zB⟩⟩
           ·replace c31:=Bool.eq_false_iff.mpr c31
            subst c31
            rw [if_neg (show ¬ (false=true) by decide)] at H;try dsimp only at H
            replace H:=zO H
            obtain ⟨amy,A32,H⟩:=H
            try dsimp only at H
            have H':=aj.mk H
            clear H
            have auy:=rO.out
            have auz:=rP.out
            obtain ⟨_,_⟩:=zC2 gG.out
            obtain ⟨_,_⟩:=zF2 gG.out
            go_wp2_with (first|(go_at_call 121;(with_reducible refine (fF.calls oN qJ ac6 amy _ A32.out).mono ?_);rintro e w35 ⟨rfl,hb⟩;obtain ⟨gG,iC,HB⟩:=zA3 (ay (zK gG) hb) (ay (zK iC) hb) (ak zB hb);(try clear hb)))
            go_roundg k3
            case measure=>have:=HJ3.out;have:=HK2.out;have:=HK3.out;omega
            case rel=>exact ⟨((amy == 1)),(wrap64 (ac6+1)),zT,zT,H',⟨by have:=HJ3.out;have:=HK2.out;have:=HK3.out;omega⟩,⟨zK gG⟩,⟨zK iC⟩,⟨zB⟩⟩
          ·rw [if_neg c30] at H
           have aq0:=decide_eq_false c30
           clear c30
           have ao6:=aj.mk H
           clear H
           go_upto_region 20 with (fail)
           go_cut [67] (fun v67 wc=>∃ (kq:Nat) (agC:Bool),v67 = .bool agC∧aj (aU.j3 kq ((decide (a0 < 0)) != (decide (a1 < 0))) agC kD jK=some r)∧aj (kq≤k3)∧aj (wc.heap[xJ]? = some (.cells #[.int .u64 oN,.int .u64 qJ] 179 (0,0)))∧aj (wc.heap[aak]? = some (.cells #[.int .u64 kD,.int .u64 jK] 179 (0,0)))∧aj (Below w.heap.size w wc))
           case first =>
            have H:=ao6.out
            clear ao6
            replace H:=zO H
            obtain ⟨aci,A37,H⟩:=H
            try dsimp only at H
            by_cases c38:aci=1
            ·rw [if_pos c38] at H
             have ac5:(aci == 1)=true:=beq_iff_eq.mpr c38
             have amw:(aci != 1)=false:=bne_eq_false_iff_eq.mpr c38
             clear c38
             (first|rw [ac5]|(simp only [bW,dA];rw [ac5])|skip)
             by_cases c39:agB=true
             ·subst c39
              rw [if_pos rfl] at H;try dsimp only at H
              have H':=aj.mk H
              clear H
              have aqL:=rO.out
              have aqM:=rP.out
              obtain ⟨_,_⟩:=zC2 gG.out
              obtain ⟨_,_⟩:=zF2 gG.out
              go_wp2_with (first|((with_reducible refine aA (f:=121) rfl ?_);refine aH (some 59) rfl rfl Tryz.func121 (by kernel_rfl) rfl #[.agg #[.int .u64 oN,.int .u64 qJ],.int .i64 (wrap64 (tX - 1))] rfl zL ?_;(with_reducible refine (fF.calls oN qJ (wrap64 (tX - 1)) aci _ A37.out).mono ?_);rintro e w42 ⟨rfl,hb⟩;refine ⟨_,rfl,?_⟩;obtain ⟨gG,iC,HB⟩:=zA3 (ay (zK gG) hb) (ay (zK iC) hb) (ak zB hb);(try clear hb)))
              go_meet
              case rel=>exact ⟨_,(true),zT,H',⟨by have:=HJ3.out;have:=HK2.out;have:=HK3.out;first|omega|exact Nat.le_refl _⟩,⟨zK gG⟩,⟨zK iC⟩,⟨zB⟩⟩
             ·replace c39:=Bool.eq_false_iff.mpr c39
              subst c39
              rw [if_neg (show ¬ (false=true) by decide)] at H;try dsimp only at H
              have H':=aj.mk H
              clear H
              have az9:=rO.out
              have aAa:=rP.out
              obtain ⟨_,_⟩:=zC2 gG.out
              obtain ⟨_,_⟩:=zF2 gG.out
              go_wp2_with (first|((with_reducible refine aA (f:=121) rfl ?_);refine aH (some 59) rfl rfl Tryz.func121 (by kernel_rfl) rfl #[.agg #[.int .u64 oN,.int .u64 qJ],.int .i64 (wrap64 (tX - 1))] rfl zL ?_;(with_reducible refine (fF.calls oN qJ (wrap64 (tX - 1)) aci _ A37.out).mono ?_);rintro e w45 ⟨rfl,hb⟩;refine ⟨_,rfl,?_⟩;obtain ⟨gG,iC,HB⟩:=zA3 (ay (zK gG) hb) (ay (zK iC) hb) (ak zB hb);(try clear hb)))
              go_meet
              case rel=>exact ⟨_,(!((decide (a0 < 0)) != (decide (a1 < 0)))),(by first|rfl|(simp;done)|(simp [*];done)|(generalize decide (a0 < 0)=p_;generalize decide (a1 < 0)=q_;cases p_ <;> cases q_ <;> rfl)),H',⟨by have:=HJ3.out;have:=HK2.out;have:=HK3.out;first|omega|exact Nat.le_refl _⟩,⟨zK gG⟩,⟨zK iC⟩,⟨zB⟩⟩
            ·rw [if_neg c38] at H
             have ac5:(aci == 1)=false:=beq_eq_false_iff_ne.mpr c38
             have amw:(aci != 1)=true:=bne_iff_ne.mpr c38
             (first|rw [ac5]|(simp only [bW,dA];rw [ac5])|skip)
             have H':=aj.mk H
             clear H
             have aqN:=rO.out
             have aqO:=rP.out
             obtain ⟨_,_⟩:=zC2 gG.out
             obtain ⟨_,_⟩:=zF2 gG.out
             go_wp2_with (first|((with_reducible refine aA (f:=121) rfl ?_);refine aH (some 59) rfl rfl Tryz.func121 (by kernel_rfl) rfl #[.agg #[.int .u64 oN,.int .u64 qJ],.int .i64 (wrap64 (tX - 1))] rfl zL ?_;(with_reducible refine (fF.calls oN qJ (wrap64 (tX - 1)) aci _ A37.out).mono ?_);rintro e w48 ⟨rfl,hb⟩;refine ⟨_,rfl,?_⟩;obtain ⟨gG,iC,HB⟩:=zA3 (ay (zK gG) hb) (ay (zK iC) hb) (ak zB hb);(try clear hb)))
             go_meet
             case rel=>exact ⟨_,(false),zT,H',⟨by have:=HJ3.out;have:=HK2.out;have:=HK3.out;first|omega|exact Nat.le_refl _⟩,⟨zK gG⟩,⟨zK iC⟩,⟨zB⟩⟩
           case rest =>
            clear ao6
            obtain ⟨kq,agC,rfl,HA,aA7,gG,iC,HB⟩:=hcut
            cases kq with
            | zero=>exact absurd HA.out (by simp [aU.j3])
            | succ asO =>
             have H:=HA.out
             clear HA
             simp only [aU.j3] at H
             by_cases c49:agC=true
             ·subst c49
              rw [if_pos rfl] at H;try dsimp only at H
              replace H:=zO H
              obtain ⟨⟨ajW,amA⟩,A50,H⟩:=H
              try dsimp only at H
              replace H:=zO H
              obtain ⟨ao3,A51,H⟩:=H
              try dsimp only at H
              obtain rfl:=Option.some.inj H
              have auD:=rP.out
              have auE:=rO.out
              obtain ⟨_,_⟩:=zC2 iC.out
              obtain ⟨_,_⟩:=zF2 iC.out
              go_wp2_with (first|((with_reducible refine aA (f:=124) rfl ?_);refine aH (some 70) rfl rfl Tryz.func124 (by kernel_rfl) rfl #[.agg #[.int .u64 kD,.int .u64 jK],.agg #[.int .u64 0,.int .u64 1]] rfl zL ?_;(with_reducible refine (gJ.calls kD jK 0 1 ajW amA _ A50.out).mono ?_);rintro e w54 ⟨rfl,hb⟩;refine ⟨_,rfl,?_⟩;obtain ⟨gG,iC,HB⟩:=zA3 (ay (zK gG) hb) (ay (zK iC) hb) (ak zB hb);(try clear hb);obtain ⟨_,_⟩:=zC2 iC.out;obtain ⟨_,_⟩:=zF2 iC.out)|((with_reducible refine aA (f:=125) rfl ?_);refine aH (some 73) rfl rfl Tryz.func125 (by kernel_rfl) rfl #[.agg #[.int .u64 ajW,.int .u64 amA],.bool ((decide (a0 < 0)) != (decide (a1 < 0)))] rfl zL ?_;(with_reducible refine (bM.calls asO ajW amA ((decide (a0 < 0)) != (decide (a1 < 0))) ao3 _ A51.out).mono ?_);rintro e w56 ⟨rfl,hb⟩;refine ⟨_,rfl,?_⟩;obtain ⟨gG,iC,HB⟩:=zA3 (ay (zK gG) hb) (ay (g:=aak) (o := .cells #[.int .u64 ajW,.int .u64 amA] 179 (0,0)) (by refine zD ?_;refine aY (cs := #[.int .u64 ajW,.int .u64 jK]) ?_ 1 _ rfl;refine zD ?_;refine aY (cs := #[.int .u64 kD,.int .u64 jK]) ?_ 0 _ rfl;refine zD ?_;exact iC.out) hb) (ak zB hb);(try clear hb)))
              go_ret
              exact ⟨zS,zB⟩
             ·replace c49:=Bool.eq_false_iff.mpr c49
              subst c49
              rw [if_neg (show ¬ (false=true) by decide)] at H;try dsimp only at H
              replace H:=zO H
              obtain ⟨ao4,A57,H⟩:=H
              try dsimp only at H
              obtain rfl:=Option.some.inj H
              have auk:=rP.out
              have aul:=rO.out
              obtain ⟨_,_⟩:=zC2 iC.out
              obtain ⟨_,_⟩:=zF2 iC.out
              go_wp2_with (first|((with_reducible refine aA (f:=125) rfl ?_);refine aH (some 73) rfl rfl Tryz.func125 (by kernel_rfl) rfl #[.agg #[.int .u64 kD,.int .u64 jK],.bool ((decide (a0 < 0)) != (decide (a1 < 0)))] rfl zL ?_;(with_reducible refine (bM.calls asO kD jK ((decide (a0 < 0)) != (decide (a1 < 0))) ao4 _ A57.out).mono ?_);rintro e w60 ⟨rfl,hb⟩;refine ⟨_,rfl,?_⟩;obtain ⟨gG,iC,HB⟩:=zA3 (ay (zK gG) hb) (ay (zK iC) hb) (ak zB hb);(try clear hb)))
              go_ret
              exact ⟨zS,zB⟩
end Go.Proofs.YtpondkggmcmpfaaGreatDoor.QA
namespace Go.Proofs.YtpondkggmcmpfaaGreatDoor.QA
open Go.Proofs.YtpondkggmcmpfaaGreatDoor.T
open Go.RowKit Go.Proofs.YtpondkggmcmpfaaGreatDoorW.PrintWords Go.Proofs.YtpondkggmcmpfaaGreatDoorW.PrintLast Go.Proofs.YtpondkggmcmpfaaGreatDoorW.PrintMore
attribute [local go_sem] dY dS dU fA fB
set_option linter.unusedVariables false
set_option linter.unusedSimpArgs false
mutual
def bV.j0:Nat→Int→Int→Option (Int)
 | 0,_,_=>none
 | k+1,x0,x1=>(aX.f k 10851744800547 x0 x1).bind fun ajX=>((aX.f k ajX x0 x1).bind fun aei=>(bV.l0 k aei 1099511627776 0 1099511627776 1))
def bV.l0:Nat→Int→Int→Int→Int→Int→Option (Int)
 | 0,_,_,_,_,_=>none
 | k+1,x6,x7,x8,x9,x10=>if x10≤30 then ((aX.f k x9 x6 (wrap64 ((wrap64 ((wrap64 (2*x10))*(wrap64 ((wrap64 (2*x10))+1))))*1099511627776))).bind fun abt=>(if (Int.tmod x10 2)=1 then (bV.l0 k x6 x7 (wrap64 (x8+abt)) abt (wrap64 (x10+1))) else (bV.l0 k x6 (wrap64 (x7+abt)) x8 abt (wrap64 (x10+1))))) else (some (wrap64 (x7 - x8)))
end
def bV.f (k:Nat) (a0 a1:Int):Option (Int):=if a0 < 0 then (bV.j0 k (wrap64 (-a0)) a1) else (bV.j0 k a0 a1)
set_option maxHeartbeats 8000000 in
set_option maxRecDepth 100000 in
theorem bV.calls (k:Nat) (a0 a1 r:Int) (w:World) (h:bV.f k a0 a1=some r) :
  Calls Tryz.prog 186 #[.int .i64 a0,.int .i64 a1] w fun e w'=>e = .returned (.int .i64 r)∧Below w.heap.size w w':=by
 have HB:=aj.mk (Below.refl w.heap.size w)
 have H:=h
 clear h
 unfold bV.f at H
 have HC3:=aj.mk H
 clear H
 go_enter Tryz.func186,Tryz.ntmps186
 go_upto_if 13 with (fail)
 go_cut [0] (fun v0 wc=>∃ (kq:Nat) (afG:Int),v0 = .int .i64 afG∧aj (bV.j0 kq afG a1=some r)∧aj (kq≤k)∧aj (Below w.heap.size w wc))
 case first =>
  have H:=HC3.out
  clear HC3
  by_cases c4:a0 < 0
  ·rw [if_pos c4] at H
   have fV:=decide_eq_true c4
   clear c4
   (first|rw [fV]|(simp only [bW,dA];rw [fV])|skip)
   have H':=aj.mk H
   clear H
   go_wp2
   go_meet
   case rel=>exact ⟨_,(wrap64 (-a0)),zT,H',⟨by first|omega|exact Nat.le_refl _⟩,⟨zB⟩⟩
  ·rw [if_neg c4] at H
   have fV:=decide_eq_false c4
   clear c4
   (first|rw [fV]|(simp only [bW,dA];rw [fV])|skip)
   have H':=aj.mk H
   clear H
   go_wp2
   go_meet
   case rel=>exact ⟨_,(a0),zT,H',⟨by first|omega|exact Nat.le_refl _⟩,⟨zB⟩⟩
 case rest =>
  clear HC3
  obtain ⟨kq,afG,rfl,HA,HJ2,HB⟩:=hcut
  cases kq with
  | zero=>exact absurd HA.out (by simp [bV.j0])
  | succ kj2 =>
   have H:=HA.out
   clear HA
   simp only [bV.j0] at H
   replace H:=zO H
   obtain ⟨ajX,A5,H⟩:=H
   try dsimp only at H
   replace H:=zO H
   obtain ⟨aei,A6,H⟩:=H
   try dsimp only at H
   have H':=aj.mk H
   clear H
   go_wp2_with (first|((with_reducible refine aA (f:=118) rfl ?_);refine aH (some 18) rfl rfl Tryz.func118 (by kernel_rfl) rfl #[.int .i64 10851744800547,.int .i64 afG,.int .i64 a1] rfl zL ?_;(with_reducible refine (aX.calls kj2 10851744800547 afG a1 ajX _ A5.out).mono ?_);rintro e w7 ⟨rfl,hb⟩;refine ⟨_,rfl,?_⟩;replace HB:=aj.mk (ak zB hb);(try clear hb))|((with_reducible refine aA (f:=118) rfl ?_);refine aH (some 22) rfl rfl Tryz.func118 (by kernel_rfl) rfl #[.int .i64 ajX,.int .i64 afG,.int .i64 a1] rfl zL ?_;(with_reducible refine (aX.calls kj2 ajX afG a1 aei _ A6.out).mono ?_);rintro e w8 ⟨rfl,hb⟩;refine ⟨_,rfl,?_⟩;replace HB:=aj.mk (ak zB hb);(try clear hb)))
   go_loopg [7,8,9,10] kj2 (fun kq v7 v8 v9 v10 w'=>∃ (zQ:Int) (kW:Int) (aaS:Int) (jc:Int),v7 = .int .i64 zQ∧v8 = .int .i64 kW∧v9 = .int .i64 aaS∧v10 = .int .i64 jc∧aj (bV.l0 kq aei zQ kW aaS jc=some r)∧aj (kq≤kj2)∧aj (Below w.heap.size w w'))
   case atStart=>exact ⟨(1099511627776),(0),(1099511627776),(1),zT,zT,zT,zT,H',⟨Nat.le_refl _⟩,⟨zB⟩⟩
   case round =>
    clear H'
    obtain ⟨zQ,kW,aaS,jc,rfl,rfl,rfl,rfl,HA,HK2,HB⟩:=hrel
    cases gk with
    | zero=>exact absurd HA.out (by simp [bV.l0])
    | succ k2 =>
     have H:=HA.out
     clear HA
     simp only [bV.l0] at H
     by_cases c9:jc≤30
     ·rw [if_pos c9] at H
      have qO:=decide_eq_true c9
      clear c9
      replace H:=zO H
      obtain ⟨abt,A10,H⟩:=H
      try dsimp only at H
      by_cases c11:(Int.tmod jc 2)=1
      ·rw [if_pos c11] at H
       have iP:((Int.tmod jc 2) == 1)=true:=beq_iff_eq.mpr c11
       have yJ:((Int.tmod jc 2) != 1)=false:=bne_eq_false_iff_eq.mpr c11
       clear c11
       have H':=aj.mk H
       clear H
       go_wp2_with (first|((with_reducible refine aA (f:=118) rfl ?_);refine aH (some 37) rfl rfl Tryz.func118 (by kernel_rfl) rfl #[.int .i64 aaS,.int .i64 aei,.int .i64 (wrap64 ((wrap64 ((wrap64 (2*jc))*(wrap64 ((wrap64 (2*jc))+1))))*1099511627776))] rfl zL ?_;(with_reducible refine (aX.calls k2 aaS aei (wrap64 ((wrap64 ((wrap64 (2*jc))*(wrap64 ((wrap64 (2*jc))+1))))*1099511627776)) abt _ A10.out).mono ?_);rintro e w12 ⟨rfl,hb⟩;refine ⟨_,rfl,?_⟩;replace HB:=aj.mk (ak zB hb);(try clear hb)))
       go_roundg k2
       case measure=>have:=HJ2.out;have:=HK2.out;omega
       case rel=>exact ⟨(zQ),(wrap64 (kW+abt)),(abt),(wrap64 (jc+1)),zT,zT,zT,zT,H',⟨by have:=HJ2.out;have:=HK2.out;omega⟩,⟨zB⟩⟩
      ·rw [if_neg c11] at H
       have iP:((Int.tmod jc 2) == 1)=false:=beq_eq_false_iff_ne.mpr c11
       have yJ:((Int.tmod jc 2) != 1)=true:=bne_iff_ne.mpr c11
       have H':=aj.mk H
       clear H
       go_wp2_with (first|((with_reducible refine aA (f:=118) rfl ?_);refine aH (some 37) rfl rfl Tryz.func118 (by kernel_rfl) rfl #[.int .i64 aaS,.int .i64 aei,.int .i64 (wrap64 ((wrap64 ((wrap64 (2*jc))*(wrap64 ((wrap64 (2*jc))+1))))*1099511627776))] rfl zL ?_;(with_reducible refine (aX.calls k2 aaS aei (wrap64 ((wrap64 ((wrap64 (2*jc))*(wrap64 ((wrap64 (2*jc))+1))))*1099511627776)) abt _ A10.out).mono ?_);rintro e w13 ⟨rfl,hb⟩;refine ⟨_,rfl,?_⟩;replace HB:=aj.mk (ak zB hb);(try clear hb)))
       go_roundg k2
       case measure=>have:=HJ2.out;have:=HK2.out;omega
       case rel=>exact ⟨(wrap64 (zQ+abt)),(kW),(abt),(wrap64 (jc+1)),zT,zT,zT,zT,H',⟨by have:=HJ2.out;have:=HK2.out;omega⟩,⟨zB⟩⟩
     ·rw [if_neg c9] at H
      have qO:=decide_eq_false c9
      clear c9
      obtain rfl:=Option.some.inj H
      go_wp2
      go_ret
      exact ⟨zS,zB⟩
def dZ.j0:Nat→Int→Int→Bool→Option (Int)
 | 0,_,_,_=>none
 | k+1,x0,x1,x21=>if x21=true then (some 0) else ((bV.f k x0 x1).bind fun ajY=>((bV.f k x0 (wrap64 (3*x1))).bind fun ajZ=>((aU.f k ajY ajZ 40).bind fun aj0=>((aJ.f k aj0 10).bind fun ao7=>(some ao7)))))
def dZ.f (k:Nat) (a0 a1:Int):Option (Int):=(kS.f a0 a1).bind fun ao8=>(if ao8=true then (if a0≥(wrap64 (3*a1)) then (dZ.j0 k a0 a1 true) else (dZ.j0 k a0 a1 (decide (a0≤(wrap64 ((-3)*a1)))))) else (dZ.j0 k a0 a1 true))
set_option maxHeartbeats 8000000 in
set_option maxRecDepth 100000 in
theorem dZ.calls (k:Nat) (a0 a1 r:Int) (w:World) (h:dZ.f k a0 a1=some r) :
  Calls Tryz.prog 171 #[.int .i64 a0,.int .i64 a1] w fun e w'=>e = .returned (.int .i64 r)∧Below w.heap.size w w':=by
 have HB:=aj.mk (Below.refl w.heap.size w)
 have H:=h
 clear h
 unfold dZ.f at H
 have HC3:=aj.mk H
 clear H
 go_enter Tryz.func171,Tryz.ntmps171
 go_upto_region 1 with (fail)
 go_cut [21] (fun v21 wc=>∃ (kq:Nat) (ai3:Bool),v21 = .bool ai3∧aj (dZ.j0 kq a0 a1 ai3=some r)∧aj (kq≤k)∧aj (Below w.heap.size w wc))
 case first =>
  have H:=HC3.out
  clear HC3
  replace H:=zO H
  obtain ⟨ao8,A4,H⟩:=H
  try dsimp only at H
  by_cases c5:ao8=true
  ·subst c5
   rw [if_pos rfl] at H;try dsimp only at H
   by_cases c6:a0≥(wrap64 (3*a1))
   ·rw [if_pos c6] at H
    have iy:=decide_eq_true c6
    clear c6
    (first|rw [iy]|(simp only [bW,dA];rw [iy])|skip)
    have H':=aj.mk H
    clear H
    go_wp2_with (first|((with_reducible refine aA (f:=184) rfl ?_);refine aH (some 8) rfl rfl Tryz.func184 (by kernel_rfl) rfl #[.int .i64 a0,.int .i64 a1] rfl zL ?_;(with_reducible refine (kS.calls a0 a1 true _ A4.out).mono ?_);rintro e w' ⟨rfl,⟨nd,rfl⟩⟩;refine ⟨_,rfl,?_⟩))
    go_meet
    case rel=>exact ⟨_,(true),zT,H',⟨by first|omega|exact Nat.le_refl _⟩,⟨zB⟩⟩
   ·rw [if_neg c6] at H
    have iy:=decide_eq_false c6
    clear c6
    (first|rw [iy]|(simp only [bW,dA];rw [iy])|skip)
    have H':=aj.mk H
    clear H
    go_wp2_with (first|((with_reducible refine aA (f:=184) rfl ?_);refine aH (some 8) rfl rfl Tryz.func184 (by kernel_rfl) rfl #[.int .i64 a0,.int .i64 a1] rfl zL ?_;(with_reducible refine (kS.calls a0 a1 true _ A4.out).mono ?_);rintro e w' ⟨rfl,⟨nd,rfl⟩⟩;refine ⟨_,rfl,?_⟩))
    go_meet
    case rel=>exact ⟨_,(decide (a0≤(wrap64 ((-3)*a1)))),zT,H',⟨by first|omega|exact Nat.le_refl _⟩,⟨zB⟩⟩
  ·replace c5:=Bool.eq_false_iff.mpr c5
   subst c5
   rw [if_neg (show ¬ (false=true) by decide)] at H;try dsimp only at H
   have H':=aj.mk H
   clear H
   go_wp2_with (first|((with_reducible refine aA (f:=184) rfl ?_);refine aH (some 8) rfl rfl Tryz.func184 (by kernel_rfl) rfl #[.int .i64 a0,.int .i64 a1] rfl zL ?_;(with_reducible refine (kS.calls a0 a1 false _ A4.out).mono ?_);rintro e w' ⟨rfl,⟨nd,rfl⟩⟩;refine ⟨_,rfl,?_⟩))
   go_meet
   case rel=>exact ⟨_,(true),zT,H',⟨by first|omega|exact Nat.le_refl _⟩,⟨zB⟩⟩
 case rest =>
  clear HC3
  obtain ⟨kq,ai3,rfl,HA,HJ2,HB⟩:=hcut
  cases kq with
  | zero=>exact absurd HA.out (by simp [dZ.j0])
  | succ kj2 =>
   have H:=HA.out
   clear HA
   simp only [dZ.j0] at H
   by_cases c7:ai3=true
   ·subst c7
    rw [if_pos rfl] at H;try dsimp only at H
    obtain rfl:=Option.some.inj H
    go_wp2
    go_ret
    exact ⟨zS,zB⟩
   ·replace c7:=Bool.eq_false_iff.mpr c7
    subst c7
    rw [if_neg (show ¬ (false=true) by decide)] at H;try dsimp only at H
    replace H:=zO H
    obtain ⟨ajY,A8,H⟩:=H
    try dsimp only at H
    replace H:=zO H
    obtain ⟨ajZ,A9,H⟩:=H
    try dsimp only at H
    replace H:=zO H
    obtain ⟨aj0,A10,H⟩:=H
    try dsimp only at H
    replace H:=zO H
    obtain ⟨ao7,A11,H⟩:=H
    try dsimp only at H
    obtain rfl:=Option.some.inj H
    go_wp2_with (first|((with_reducible refine aA (f:=186) rfl ?_);refine aH (some 24) rfl rfl Tryz.func186 (by kernel_rfl) rfl #[.int .i64 a0,.int .i64 a1] rfl zL ?_;(with_reducible refine (bV.calls kj2 a0 a1 ajY _ A8.out).mono ?_);rintro e w12 ⟨rfl,hb⟩;refine ⟨_,rfl,?_⟩;replace HB:=aj.mk (ak zB hb);(try clear hb))|((with_reducible refine aA (f:=186) rfl ?_);refine aH (some 28) rfl rfl Tryz.func186 (by kernel_rfl) rfl #[.int .i64 a0,.int .i64 (wrap64 (3*a1))] rfl zL ?_;(with_reducible refine (bV.calls kj2 a0 (wrap64 (3*a1)) ajZ _ A9.out).mono ?_);rintro e w13 ⟨rfl,hb⟩;refine ⟨_,rfl,?_⟩;replace HB:=aj.mk (ak zB hb);(try clear hb))|((with_reducible refine aA (f:=185) rfl ?_);refine aH (some 29) rfl rfl Tryz.func185 (by kernel_rfl) rfl #[.int .i64 ajY,.int .i64 ajZ,.int .i64 40] rfl zL ?_;(with_reducible refine (aU.calls kj2 ajY ajZ 40 aj0 _ A10.out).mono ?_);rintro e w14 ⟨rfl,hb⟩;refine ⟨_,rfl,?_⟩;replace HB:=aj.mk (ak zB hb);(try clear hb))|((with_reducible refine aA (f:=101) rfl ?_);refine aH (some 31) rfl rfl Tryz.func101 (by kernel_rfl) rfl #[.int .i64 aj0,.int .i64 10] rfl zL ?_;(with_reducible refine (aJ.calls kj2 aj0 10 ao7 _ A11.out).mono ?_);rintro e w15 ⟨rfl,hb⟩;refine ⟨_,rfl,?_⟩;replace HB:=aj.mk (ak zB hb);(try clear hb)))
    go_ret
    exact ⟨zS,zB⟩
end Go.Proofs.YtpondkggmcmpfaaGreatDoor.QA
namespace Go.Proofs.YtpondkggmcmpfaaGreatDoor.QA
open Go.Proofs.YtpondkggmcmpfaaGreatDoor.T
open Go.RowKit Go.Proofs.YtpondkggmcmpfaaGreatDoorW.PrintWords Go.Proofs.YtpondkggmcmpfaaGreatDoorW.PrintLast Go.Proofs.YtpondkggmcmpfaaGreatDoorW.PrintMore
attribute [local go_sem] dY dS dU fA fB
set_option linter.unusedVariables false
set_option linter.unusedSimpArgs false
def lF.f (k:Nat) (a0 a1 a2 a3 a4:Int):Option (Int):=if a0=0 then (if (wrap64 (a4*a2)) > (wrap64 (a3*a1)) then (if (wrap64 ((wrap64 (a4+1))*a2)) < (wrap64 ((wrap64 (a3+1))*a1)) then ((aX.f k (wrap64 ((wrap64 ((wrap64 (a4+1))*a2)) - (wrap64 (a4*a2)))) 1073741824 a1).bind fun ao9=>(some ao9)) else ((aX.f k (wrap64 ((wrap64 ((wrap64 (a3+1))*a1)) - (wrap64 (a4*a2)))) 1073741824 a1).bind fun apa=>(some apa))) else (if (wrap64 ((wrap64 (a4+1))*a2)) < (wrap64 ((wrap64 (a3+1))*a1)) then ((aX.f k (wrap64 ((wrap64 ((wrap64 (a4+1))*a2)) - (wrap64 (a3*a1)))) 1073741824 a1).bind fun apb=>(some apb)) else ((aX.f k (wrap64 ((wrap64 ((wrap64 (a3+1))*a1)) - (wrap64 (a3*a1)))) 1073741824 a1).bind fun apc=>(some apc)))) else ((fP.f a1 a2 a3 a4).bind fun ai4=>(if a0=1 then ((bI.f k ai4.1 ai4.2).bind fun apd=>(some apd)) else ((dZ.f k ai4.1 ai4.2).bind fun ape=>(some ape))))
set_option maxHeartbeats 8000000 in
set_option maxRecDepth 100000 in
theorem lF.calls (k:Nat) (a0 a1 a2 a3 a4 r:Int) (w:World) (h:lF.f k a0 a1 a2 a3 a4=some r) :
  Calls Tryz.prog 141 #[.int .i64 a0,.int .i64 a1,.int .i64 a2,.int .i64 a3,.int .i64 a4] w fun e w'=>e = .returned (.int .i64 r)∧Below w.heap.size w w':=by
 have HB:=aj.mk (Below.refl w.heap.size w)
 have H:=h
 clear h
 unfold lF.f at H
 by_cases c6:a0=0
 ·rw [if_pos c6] at H
  have iy:(a0 == 0)=true:=beq_iff_eq.mpr c6
  have uD:(a0 != 0)=false:=bne_eq_false_iff_eq.mpr c6
  clear c6
  by_cases c7:(wrap64 (a4*a2)) > (wrap64 (a3*a1))
  ·rw [if_pos c7] at H
   have jw:=decide_eq_true c7
   clear c7
   by_cases c8:(wrap64 ((wrap64 (a4+1))*a2)) < (wrap64 ((wrap64 (a3+1))*a1))
   ·rw [if_pos c8] at H
    have vX:=decide_eq_true c8
    clear c8
    replace H:=zO H
    obtain ⟨ao9,A9,H⟩:=H
    try dsimp only at H
    obtain rfl:=Option.some.inj H
    go_enter Tryz.func141,Tryz.ntmps141
    go_wp2_with (first|((with_reducible refine aA (f:=118) rfl ?_);refine aH (some 46) rfl rfl Tryz.func118 (by kernel_rfl) rfl #[.int .i64 (wrap64 ((wrap64 ((wrap64 (a4+1))*a2)) - (wrap64 (a4*a2)))),.int .i64 1073741824,.int .i64 a1] rfl zL ?_;(with_reducible refine (aX.calls k (wrap64 ((wrap64 ((wrap64 (a4+1))*a2)) - (wrap64 (a4*a2)))) 1073741824 a1 ao9 _ A9.out).mono ?_);rintro e w10 ⟨rfl,hb⟩;refine ⟨_,rfl,?_⟩;replace HB:=aj.mk (ak zB hb);(try clear hb)))
    go_ret
    exact ⟨zS,zB⟩
   ·rw [if_neg c8] at H
    have vX:=decide_eq_false c8
    clear c8
    replace H:=zO H
    obtain ⟨apa,A11,H⟩:=H
    try dsimp only at H
    obtain rfl:=Option.some.inj H
    go_enter Tryz.func141,Tryz.ntmps141
    go_wp2_with (first|((with_reducible refine aA (f:=118) rfl ?_);refine aH (some 46) rfl rfl Tryz.func118 (by kernel_rfl) rfl #[.int .i64 (wrap64 ((wrap64 ((wrap64 (a3+1))*a1)) - (wrap64 (a4*a2)))),.int .i64 1073741824,.int .i64 a1] rfl zL ?_;(with_reducible refine (aX.calls k (wrap64 ((wrap64 ((wrap64 (a3+1))*a1)) - (wrap64 (a4*a2)))) 1073741824 a1 apa _ A11.out).mono ?_);rintro e w12 ⟨rfl,hb⟩;refine ⟨_,rfl,?_⟩;replace HB:=aj.mk (ak zB hb);(try clear hb)))
    go_ret
    exact ⟨zS,zB⟩
  ·rw [if_neg c7] at H
   have jw:=decide_eq_false c7
   clear c7
   by_cases c13:(wrap64 ((wrap64 (a4+1))*a2)) < (wrap64 ((wrap64 (a3+1))*a1))
   ·rw [if_pos c13] at H
    have abV:=decide_eq_true c13
    clear c13
    replace H:=zO H
    obtain ⟨apb,A14,H⟩:=H
    try dsimp only at H
    obtain rfl:=Option.some.inj H
    go_enter Tryz.func141,Tryz.ntmps141
    go_wp2_with (first|((with_reducible refine aA (f:=118) rfl ?_);refine aH (some 46) rfl rfl Tryz.func118 (by kernel_rfl) rfl #[.int .i64 (wrap64 ((wrap64 ((wrap64 (a4+1))*a2)) - (wrap64 (a3*a1)))),.int .i64 1073741824,.int .i64 a1] rfl zL ?_;(with_reducible refine (aX.calls k (wrap64 ((wrap64 ((wrap64 (a4+1))*a2)) - (wrap64 (a3*a1)))) 1073741824 a1 apb _ A14.out).mono ?_);rintro e w15 ⟨rfl,hb⟩;refine ⟨_,rfl,?_⟩;replace HB:=aj.mk (ak zB hb);(try clear hb)))
    go_ret
    exact ⟨zS,zB⟩
   ·rw [if_neg c13] at H
    have abV:=decide_eq_false c13
    clear c13
    replace H:=zO H
    obtain ⟨apc,A16,H⟩:=H
    try dsimp only at H
    obtain rfl:=Option.some.inj H
    go_enter Tryz.func141,Tryz.ntmps141
    go_wp2_with (first|((with_reducible refine aA (f:=118) rfl ?_);refine aH (some 46) rfl rfl Tryz.func118 (by kernel_rfl) rfl #[.int .i64 (wrap64 ((wrap64 ((wrap64 (a3+1))*a1)) - (wrap64 (a3*a1)))),.int .i64 1073741824,.int .i64 a1] rfl zL ?_;(with_reducible refine (aX.calls k (wrap64 ((wrap64 ((wrap64 (a3+1))*a1)) - (wrap64 (a3*a1)))) 1073741824 a1 apc _ A16.out).mono ?_);rintro e w17 ⟨rfl,hb⟩;refine ⟨_,rfl,?_⟩;replace HB:=aj.mk (ak zB hb);(try clear hb)))
    go_ret
    exact ⟨zS,zB⟩
 ·rw [if_neg c6] at H
  have iy:(a0 == 0)=false:=beq_eq_false_iff_ne.mpr c6
  have uD:(a0 != 0)=true:=bne_iff_ne.mpr c6
  replace H:=zO H
  obtain ⟨⟨ahw,ahx⟩,A18,H⟩:=H
  try dsimp only at H
  by_cases c19:a0=1
  ·rw [if_pos c19] at H
   have auI:(a0 == 1)=true:=beq_iff_eq.mpr c19
   have auJ:(a0 != 1)=false:=bne_eq_false_iff_eq.mpr c19
   clear c19
   replace H:=zO H
   obtain ⟨apd,A20,H⟩:=H
   try dsimp only at H
   obtain rfl:=Option.some.inj H
   go_enter Tryz.func141,Tryz.ntmps141
   go_wp2_with (first|((with_reducible refine aA (f:=169) rfl ?_);refine aH (some 52) rfl rfl Tryz.func169 (by kernel_rfl) rfl #[.int .i64 a1,.int .i64 a2,.int .i64 a3,.int .i64 a4] rfl zL ?_;(with_reducible refine (fP.calls a1 a2 a3 a4 ahw ahx _ A18.out).mono ?_);rintro e w' ⟨rfl,⟨nd,rfl⟩⟩;refine ⟨_,rfl,?_⟩)|((with_reducible refine aA (f:=170) rfl ?_);refine aH (some 59) rfl rfl Tryz.func170 (by kernel_rfl) rfl #[.int .i64 ahw,.int .i64 ahx] rfl zL ?_;(with_reducible refine (bI.calls k ahw ahx apd _ A20.out).mono ?_);rintro e w21 ⟨rfl,hb⟩;refine ⟨_,rfl,?_⟩;replace HB:=aj.mk (ak zB hb);(try clear hb)))
   go_ret
   exact ⟨zS,zB⟩
  ·rw [if_neg c19] at H
   have auI:(a0 == 1)=false:=beq_eq_false_iff_ne.mpr c19
   have auJ:(a0 != 1)=true:=bne_iff_ne.mpr c19
   replace H:=zO H
   obtain ⟨ape,A22,H⟩:=H
   try dsimp only at H
   obtain rfl:=Option.some.inj H
   go_enter Tryz.func141,Tryz.ntmps141
   go_wp2_with (first|((with_reducible refine aA (f:=169) rfl ?_);refine aH (some 52) rfl rfl Tryz.func169 (by kernel_rfl) rfl #[.int .i64 a1,.int .i64 a2,.int .i64 a3,.int .i64 a4] rfl zL ?_;(with_reducible refine (fP.calls a1 a2 a3 a4 ahw ahx _ A18.out).mono ?_);rintro e w' ⟨rfl,⟨nd,rfl⟩⟩;refine ⟨_,rfl,?_⟩)|((with_reducible refine aA (f:=171) rfl ?_);refine aH (some 62) rfl rfl Tryz.func171 (by kernel_rfl) rfl #[.int .i64 ahw,.int .i64 ahx] rfl zL ?_;(with_reducible refine (dZ.calls k ahw ahx ape _ A22.out).mono ?_);rintro e w23 ⟨rfl,hb⟩;refine ⟨_,rfl,?_⟩;replace HB:=aj.mk (ak zB hb);(try clear hb)))
   go_ret
   exact ⟨zS,zB⟩
end Go.Proofs.YtpondkggmcmpfaaGreatDoor.QA
namespace Go.Proofs.YtpondkggmcmpfaaGreatDoor.QA
open Go.Proofs.YtpondkggmcmpfaaGreatDoor.T
open Go.RowKit Go.Proofs.YtpondkggmcmpfaaGreatDoorW.PrintWords Go.Proofs.YtpondkggmcmpfaaGreatDoorW.PrintLast Go.Proofs.YtpondkggmcmpfaaGreatDoorW.PrintMore
attribute [local go_sem] dY dS dU fA fB
set_option linter.unusedVariables false
set_option linter.unusedSimpArgs false
mutual
def bQ.l0:Nat→Int→Int→Int→Int→Int→Option (Int × List Int)
 | 0,_,_,_,_,_=>none
 | k+1,x0,x1,x2,x3,x10=>(iV.f x0 x1 x2 x3 (wrap64 (x10 - 1))).bind fun apf=>(if apf=true then (bQ.l0 k x0 x1 x2 x3 (wrap64 (x10 - 1))) else (bQ.l1 k x0 x1 x2 x3 x10))
def bQ.l1:Nat→Int→Int→Int→Int→Int→Option (Int × List Int)
 | 0,_,_,_,_,_=>none
 | k+1,x0,x1,x2,x3,x10=>(iV.f x0 x1 x2 x3 x10).bind fun apg=>(if apg=true then (bQ.l2 k x0 x1 x2 x3 x10 x10 ([]:List Int)) else (bQ.l1 k x0 x1 x2 x3 (wrap64 (x10+1))))
def bQ.l2:Nat→Int→Int→Int→Int→Int→Int→List Int→Option (Int × List Int)
 | 0,_,_,_,_,_,_,_=>none
 | k+1,x0,x1,x2,x3,x10,x11,x12=>(iV.f x0 x1 x2 x3 x10).bind fun aph=>(if aph=true then ((lF.f k x0 x1 x2 x3 x10).bind fun ahy=>(if x12.length < 17592186044416 then (bQ.l2 k x0 x1 x2 x3 (wrap64 (x10+1)) x11 (x12 ++ [ahy])) else (none))) else (some (x11,x12)))
end
def bQ.f (k:Nat) (a0 a1 a2 a3:Int):Option (Int × List Int):=(kT.f a0 a1 a2 a3).bind fun apj=>(if apj=true then (if a2=0 then (none) else (bQ.l0 k a0 a1 a2 a3 (wrap64 (Int.tdiv (wrap64 (a3*a1)) a2)))) else (some (0,([]:List Int))))
set_option maxHeartbeats 8000000 in
set_option maxRecDepth 100000 in
theorem bQ.calls (k:Nat) (a0 a1 a2 a3 r1:Int) (r2:List Int) (w:World) (h:bQ.f k a0 a1 a2 a3=some (r1,r2)) :
  Calls Tryz.prog 114 #[.int .i64 a0,.int .i64 a1,.int .i64 a2,.int .i64 a3] w fun e w'=>∃ v1_:Value,e = .returned (.tuple #[.int .i64 r1,v1_])∧Kd.R (Kd.int .i64) 2 w' w.heap.size (fun _=>True) v1_ r2∧Below w.heap.size w w':=by
 have HB:=aj.mk (Below.refl w.heap.size w)
 have H:=h
 clear h
 unfold bQ.f at H
 replace H:=zO H
 obtain ⟨apj,A5,H⟩:=H
 try dsimp only at H
 by_cases c6:apj=true
 ·subst c6
  rw [if_pos rfl] at H;try dsimp only at H
  by_cases c7:a2=0
  ·rw [if_pos c7] at H
   exact absurd H (by simp)
  ·rw [if_neg c7] at H
   have jw:(a2 == 0)=false:=beq_eq_false_iff_ne.mpr c7
   have abl:(a2 != 0)=true:=bne_iff_ne.mpr c7
   have H':=aj.mk H
   clear H
   go_enter Tryz.func114,Tryz.ntmps114
   go_wp2_with (first|((with_reducible refine aA (f:=139) rfl ?_);refine aH (some 17) rfl rfl Tryz.func139 (by kernel_rfl) rfl #[.int .i64 a0,.int .i64 a1,.int .i64 a2,.int .i64 a3] rfl zL ?_;(with_reducible refine (kT.calls a0 a1 a2 a3 true _ A5.out).mono ?_);rintro e w' ⟨rfl,⟨nd,rfl⟩⟩;refine ⟨_,rfl,?_⟩))
   go_loopg [10] k (fun kq v10 w'=>∃ (vV:Int),v10 = .int .i64 vV∧aj (bQ.l0 kq a0 a1 a2 a3 vV=some (r1,r2))∧aj (kq≤k)∧aj (Below w.heap.size w w'))
   case atStart=>exact ⟨(wrap64 (Int.tdiv (wrap64 (a3*a1)) a2)),zT,H',⟨Nat.le_refl _⟩,⟨zB⟩⟩
   case round =>
    clear H'
    obtain ⟨vV,rfl,HA,HK1,HB⟩:=hrel
    cases gk with
    | zero=>exact absurd HA.out (by simp [bQ.l0])
    | succ k1 =>
     have H:=HA.out
     clear HA
     simp only [bQ.l0] at H
     replace H:=zO H
     obtain ⟨apf,A8,H⟩:=H
     try dsimp only at H
     by_cases c9:apf=true
     ·subst c9
      rw [if_pos rfl] at H;try dsimp only at H
      have H':=aj.mk H
      clear H
      go_wp2_with (first|((with_reducible refine aA (f:=140) rfl ?_);refine aH (some 30) rfl rfl Tryz.func140 (by kernel_rfl) rfl #[.int .i64 a0,.int .i64 a1,.int .i64 a2,.int .i64 a3,.int .i64 (wrap64 (vV - 1))] rfl zL ?_;(with_reducible refine (iV.calls a0 a1 a2 a3 (wrap64 (vV - 1)) true _ A8.out).mono ?_);rintro e w' ⟨rfl,⟨nd,rfl⟩⟩;refine ⟨_,rfl,?_⟩))
      go_roundg k1
      case measure=>have:=HK1.out;omega
      case rel=>exact ⟨(wrap64 (vV - 1)),zT,H',⟨by have:=HK1.out;omega⟩,⟨zB⟩⟩
     ·replace c9:=Bool.eq_false_iff.mpr c9
      subst c9
      rw [if_neg (show ¬ (false=true) by decide)] at H;try dsimp only at H
      have H':=aj.mk H
      clear H
      go_wp2_with (first|((with_reducible refine aA (f:=140) rfl ?_);refine aH (some 30) rfl rfl Tryz.func140 (by kernel_rfl) rfl #[.int .i64 a0,.int .i64 a1,.int .i64 a2,.int .i64 a3,.int .i64 (wrap64 (vV - 1))] rfl zL ?_;(with_reducible refine (iV.calls a0 a1 a2 a3 (wrap64 (vV - 1)) false _ A8.out).mono ?_);rintro e w' ⟨rfl,⟨nd,rfl⟩⟩;refine ⟨_,rfl,?_⟩))
      try simp only [Act.put,List.setIfInBounds_toArray,List.set_cons_succ,List.set_cons_zero]
      go_loopg [10] k1 (fun kq v10 w'=>∃ (jc:Int),v10 = .int .i64 jc∧aj (bQ.l1 kq a0 a1 a2 a3 jc=some (r1,r2))∧aj (kq≤k1)∧aj (Below w.heap.size w w'))
      case atStart=>exact ⟨(vV),zT,H',⟨Nat.le_refl _⟩,⟨zB⟩⟩
      case round =>
       clear H'
       obtain ⟨jc,rfl,HA,HK2,HB⟩:=hrel
       cases gk with
       | zero=>exact absurd HA.out (by simp [bQ.l1])
       | succ k2 =>
        have H:=HA.out
        clear HA
        simp only [bQ.l1] at H
        replace H:=zO H
        obtain ⟨apg,A10,H⟩:=H
        try dsimp only at H
        by_cases c11:apg=true
        ·subst c11
         rw [if_pos rfl] at H;try dsimp only at H
         have H':=aj.mk H
         clear H
         go_wp2_with (first|((with_reducible refine aA (f:=140) rfl ?_);refine aH (some 38) rfl rfl Tryz.func140 (by kernel_rfl) rfl #[.int .i64 a0,.int .i64 a1,.int .i64 a2,.int .i64 a3,.int .i64 jc] rfl zL ?_;(with_reducible refine (iV.calls a0 a1 a2 a3 jc true _ A10.out).mono ?_);rintro e w' ⟨rfl,⟨nd,rfl⟩⟩;refine ⟨_,rfl,?_⟩))
         try simp only [Act.put,List.setIfInBounds_toArray,List.set_cons_succ,List.set_cons_zero]
         go_loopg [10,12] k2 (fun kq v10 v12 w'=>∃ (mX:Int) (aeY:List Int),v10 = .int .i64 mX∧aj (bQ.l2 kq a0 a1 a2 a3 mX jc aeY=some (r1,r2))∧aj (kq≤k2)∧aj (Kd.R (Kd.int .i64) 2 w' w.heap.size (fun _=>True) v12 aeY)∧aj (Below w.heap.size w w'))
         case atStart=>exact ⟨(jc),(([]:List Int)),zT,H',⟨Nat.le_refl _⟩,⟨by first|exact Kd.kF _ _ _ _ _|exact Kd.oQ _ _ _ _ _|exact Kd.nN _ _ _ _ _|exact Kd.oU _ _ _ _ _|exact Kd.oK _ _ _ _ _⟩,⟨zB⟩⟩
         case round =>
          clear H'
          obtain ⟨mX,aeY,rfl,HA,HK3,ai5,HB⟩:=hrel
          cases gk with
          | zero=>exact absurd HA.out (by simp [bQ.l2])
          | succ k3 =>
           have H:=HA.out
           clear HA
           simp only [bQ.l2] at H
           replace H:=zO H
           obtain ⟨aph,A12,H⟩:=H
           try dsimp only at H
           by_cases c13:aph=true
           ·subst c13
            rw [if_pos rfl] at H;try dsimp only at H
            replace H:=zO H
            obtain ⟨ahy,A14,H⟩:=H
            try dsimp only at H
            by_cases c15:aeY.length < 17592186044416
            ·rw [if_pos c15] at H
             have amB:=aj.mk c15
             clear c15
             obtain ⟨asP,agD⟩:∃ y_:List Int,y_=(aeY ++ [ahy]):=⟨_,rfl⟩
             replace H:(bQ.l2 k3 a0 a1 a2 a3 (wrap64 (mX+1)) jc asP)=some (r1,r2):=by first|(rw [agD];with_reducible exact H)|(have H2_:=(Option.bind_some _ _).symm.trans H;rw [agD];with_reducible exact H2_)|(have H2_:=(Option.bind_some _ _).symm.trans H;with_reducible exact H2_)|with_reducible exact H|(rw [agD];exact H)|exact H
             have auK:=aj.mk agD
             clear agD
             have H':=aj.mk H
             clear H
             go_wp2_with (first|((with_reducible refine aA (f:=140) rfl ?_);refine aH (some 48) rfl rfl Tryz.func140 (by kernel_rfl) rfl #[.int .i64 a0,.int .i64 a1,.int .i64 a2,.int .i64 a3,.int .i64 mX] rfl zL ?_;(with_reducible refine (iV.calls a0 a1 a2 a3 mX true _ A12.out).mono ?_);rintro e w' ⟨rfl,⟨nd,rfl⟩⟩;refine ⟨_,rfl,?_⟩)|((with_reducible refine aA (f:=141) rfl ?_);refine aH (some 55) rfl rfl Tryz.func141 (by kernel_rfl) rfl #[.int .i64 a0,.int .i64 a1,.int .i64 a2,.int .i64 a3,.int .i64 mX] rfl zL ?_;(with_reducible refine (lF.calls k3 a0 a1 a2 a3 mX ahy _ A14.out).mono ?_);rintro e w16 ⟨rfl,hb⟩;refine ⟨_,rfl,?_⟩;obtain ⟨ai5,HB⟩:=zA2 (Kd.jQ (by (with_reducible repeat (first|apply Kd.aK|apply Kd.aQ|apply Kd.aW));exact ai5.out) hb) (ak zB hb);(try clear hb))|((with_reducible refine jG (b := .append) (xs := #[.tmp 49,.tmp 56]) rfl ?_);at_builtin;refine Kd.kZ (Kd.int .i64) (w0:=w) w.heap.size rfl (.tmp 49) (.tmp 56) 44 2 (.int .i64 0) 8 rfl Tryz.underlying44 vM rfl (by decide) (by omega) u12 aeY ahy [.int .i64 ahy] (fun _=>True) (fun _=>False) rfl rfl ?aP (fun _ hk=>hk.elim) ?aF ?aO ?aB ?aS ?aL ?_;(case aP=>exact rfl);(case aB=>exact zB);(case aF=>exact (fun _ _=>trivial));(case aO=>exact (by (with_reducible repeat (first|apply Kd.aK|apply Kd.aQ|apply Kd.aW));exact ai5.out));(case aS=>exact (bF zB));(case aL=>have:=amB.out;omega);intro aA8 w17 ho hb hg hat;rw [← auK.out] at ho;obtain ⟨HB,auL⟩:=zA2 hb ho;clear ho hb hg hat))
             go_roundg k3
             case measure=>have:=HK1.out;have:=HK2.out;have:=HK3.out;omega
             case rel=>exact ⟨(wrap64 (mX+1)),(asP),zT,H',⟨by have:=HK1.out;have:=HK2.out;have:=HK3.out;omega⟩,⟨by (with_reducible repeat (first|apply Kd.aK|apply Kd.aQ|apply Kd.aW));exact auL.out⟩,⟨zB⟩⟩
            ·rw [if_neg c15] at H
             exact absurd H (by simp)
           ·replace c13:=Bool.eq_false_iff.mpr c13
            subst c13
            rw [if_neg (show ¬ (false=true) by decide)] at H;try dsimp only at H
            simp only [Option.some.injEq,Prod.mk.injEq] at H
            obtain ⟨rfl,rfl⟩:=H
            go_wp2_with (first|((with_reducible refine aA (f:=140) rfl ?_);refine aH (some 48) rfl rfl Tryz.func140 (by kernel_rfl) rfl #[.int .i64 a0,.int .i64 a1,.int .i64 a2,.int .i64 a3,.int .i64 mX] rfl zL ?_;(with_reducible refine (iV.calls a0 a1 a2 a3 mX false _ A12.out).mono ?_);rintro e w' ⟨rfl,⟨nd,rfl⟩⟩;refine ⟨_,rfl,?_⟩))
            go_ret2
            exact ⟨_,zS,by (with_reducible repeat (first|apply Kd.aK|apply Kd.aQ|apply Kd.aW));exact ai5.out,zB⟩
        ·replace c11:=Bool.eq_false_iff.mpr c11
         subst c11
         rw [if_neg (show ¬ (false=true) by decide)] at H;try dsimp only at H
         have H':=aj.mk H
         clear H
         go_wp2_with (first|((with_reducible refine aA (f:=140) rfl ?_);refine aH (some 38) rfl rfl Tryz.func140 (by kernel_rfl) rfl #[.int .i64 a0,.int .i64 a1,.int .i64 a2,.int .i64 a3,.int .i64 jc] rfl zL ?_;(with_reducible refine (iV.calls a0 a1 a2 a3 jc false _ A10.out).mono ?_);rintro e w' ⟨rfl,⟨nd,rfl⟩⟩;refine ⟨_,rfl,?_⟩))
         go_roundg k2
         case measure=>have:=HK1.out;have:=HK2.out;omega
         case rel=>exact ⟨(wrap64 (jc+1)),zT,H',⟨by have:=HK1.out;have:=HK2.out;omega⟩,⟨zB⟩⟩
 ·replace c6:=Bool.eq_false_iff.mpr c6
  subst c6
  rw [if_neg (show ¬ (false=true) by decide)] at H;try dsimp only at H
  simp only [Option.some.injEq,Prod.mk.injEq] at H
  obtain ⟨rfl,rfl⟩:=H
  go_enter Tryz.func114,Tryz.ntmps114
  go_wp2_with (first|((with_reducible refine aA (f:=139) rfl ?_);refine aH (some 17) rfl rfl Tryz.func139 (by kernel_rfl) rfl #[.int .i64 a0,.int .i64 a1,.int .i64 a2,.int .i64 a3] rfl zL ?_;(with_reducible refine (kT.calls a0 a1 a2 a3 false _ A5.out).mono ?_);rintro e w' ⟨rfl,⟨nd,rfl⟩⟩;refine ⟨_,rfl,?_⟩))
  go_ret2
  exact ⟨_,zS,by first|exact Kd.kF _ _ _ _ _|exact Kd.oQ _ _ _ _ _|exact Kd.nN _ _ _ _ _|exact Kd.oU _ _ _ _ _|exact Kd.oK _ _ _ _ _,zB⟩
def iG.f (a0:Int):Option (Int):=if a0≥0 then (some a0) else (if a0 < (-9223372036854775807) then (some 9223372036854775807) else (some (wrap64 (-a0))))
set_option maxHeartbeats 8000000 in
set_option maxRecDepth 100000 in
theorem iG.calls (a0 r:Int) (w:World) (h:iG.f a0=some r) :
  Calls Tryz.prog 142 #[.int .i64 a0] w fun e w'=>e = .returned (.int .i64 r)∧dw w w':=by
 have H:=h
 clear h
 unfold iG.f at H
 by_cases c2:a0≥0
 ·rw [if_pos c2] at H
  have lW:=decide_eq_true c2
  clear c2
  obtain rfl:=Option.some.inj H
  go_enter Tryz.func142,Tryz.ntmps142
  go_wp2
  go_ret
  exact ⟨zT,zW⟩
 ·rw [if_neg c2] at H
  have lW:=decide_eq_false c2
  clear c2
  by_cases c3:a0 < (-9223372036854775807)
  ·rw [if_pos c3] at H
   have fQ:=decide_eq_true c3
   clear c3
   obtain rfl:=Option.some.inj H
   go_enter Tryz.func142,Tryz.ntmps142
   go_wp2
   go_ret
   exact ⟨zT,zW⟩
  ·rw [if_neg c3] at H
   have fQ:=decide_eq_false c3
   clear c3
   obtain rfl:=Option.some.inj H
   go_enter Tryz.func142,Tryz.ntmps142
   go_wp2
   go_ret
   exact ⟨zT,zW⟩
end Go.Proofs.YtpondkggmcmpfaaGreatDoor.QA
namespace Go.Proofs.YtpondkggmcmpfaaGreatDoor.QA
open Go.Proofs.YtpondkggmcmpfaaGreatDoor.T
open Go.RowKit Go.Proofs.YtpondkggmcmpfaaGreatDoorW.PrintWords Go.Proofs.YtpondkggmcmpfaaGreatDoorW.PrintLast Go.Proofs.YtpondkggmcmpfaaGreatDoorW.PrintMore
attribute [local go_sem] dY dS dU fA fB
set_option linter.unusedVariables false
set_option linter.unusedSimpArgs false
def gK.j0:Nat→Int→Int→Bool→Option (Int)
 | 0,_,_,_=>none
 | k+1,x0,x1,x12=>if x12=true then (some 9223372036854775807) else (if x1 < 0 then (if x0 < (wrap64 ((-9223372036854775808) - x1)) then (some (-9223372036854775808)) else (some (wrap64 (x0+x1)))) else (some (wrap64 (x0+x1))))
def gK.f (k:Nat) (a0 a1:Int):Option (Int):=if a1 > 0 then (gK.j0 k a0 a1 (decide (a0 > (wrap64 (9223372036854775807 - a1))))) else (gK.j0 k a0 a1 false)
set_option maxHeartbeats 8000000 in
set_option maxRecDepth 100000 in
theorem gK.calls (k:Nat) (a0 a1 r:Int) (w:World) (h:gK.f k a0 a1=some r) :
  Calls Tryz.prog 147 #[.int .i64 a0,.int .i64 a1] w fun e w'=>e = .returned (.int .i64 r)∧dw w w':=by
 have H:=h
 clear h
 unfold gK.f at H
 have HC3:=aj.mk H
 clear H
 go_enter Tryz.func147,Tryz.ntmps147
 go_upto_region 1 with (fail)
 go_cut [12] (fun v12 wc=>∃ (kq:Nat) (ai6:Bool),v12 = .bool ai6∧aj (gK.j0 kq a0 a1 ai6=some r)∧aj (kq≤k)∧dw w wc)
 case first =>
  have H:=HC3.out
  clear HC3
  by_cases c4:a1 > 0
  ·rw [if_pos c4] at H
   have fV:=decide_eq_true c4
   clear c4
   (first|rw [fV]|(simp only [bW,dA];rw [fV])|skip)
   have H':=aj.mk H
   clear H
   go_wp2
   go_meet
   case rel=>exact ⟨_,(decide (a0 > (wrap64 (9223372036854775807 - a1)))),zT,H',⟨by first|omega|exact Nat.le_refl _⟩,zW⟩
  ·rw [if_neg c4] at H
   have fV:=decide_eq_false c4
   clear c4
   (first|rw [fV]|(simp only [bW,dA];rw [fV])|skip)
   have H':=aj.mk H
   clear H
   go_wp2
   go_meet
   case rel=>exact ⟨_,(false),zT,H',⟨by first|omega|exact Nat.le_refl _⟩,zW⟩
 case rest =>
  clear HC3
  obtain ⟨kq,ai6,rfl,HA,HJ2,⟨mc2,rfl⟩⟩:=hcut
  cases kq with
  | zero=>exact absurd HA.out (by simp [gK.j0])
  | succ kj2 =>
   have H:=HA.out
   clear HA
   simp only [gK.j0] at H
   by_cases c5:ai6=true
   ·subst c5
    rw [if_pos rfl] at H;try dsimp only at H
    obtain rfl:=Option.some.inj H
    go_wp2
    go_ret
    exact ⟨zT,zW⟩
   ·replace c5:=Bool.eq_false_iff.mpr c5
    subst c5
    rw [if_neg (show ¬ (false=true) by decide)] at H;try dsimp only at H
    by_cases c6:a1 < 0
    ·rw [if_pos c6] at H
     have iy:=decide_eq_true c6
     clear c6
     by_cases c7:a0 < (wrap64 ((-9223372036854775808) - a1))
     ·rw [if_pos c7] at H
      have jw:=decide_eq_true c7
      clear c7
      obtain rfl:=Option.some.inj H
      go_wp2
      go_ret
      exact ⟨zT,zW⟩
     ·rw [if_neg c7] at H
      have jw:=decide_eq_false c7
      clear c7
      obtain rfl:=Option.some.inj H
      go_wp2
      go_ret
      exact ⟨zT,zW⟩
    ·rw [if_neg c6] at H
     have iy:=decide_eq_false c6
     clear c6
     obtain rfl:=Option.some.inj H
     go_wp2
     go_ret
     exact ⟨zT,zW⟩
def eY.l0:Nat→Int→List Int→Int→Int→Option (Int)
 | 0,_,_,_,_=>none
 | k+1,x3,x6,x7,x8=>if x8 < x7 then (if 0≤x8 then (if x8 < (x6.length:Int) then ((gK.f k x3 (rd x6 x8)).bind fun amC=>(eY.l0 k amC x6 x7 (wrap64 (x8+1)))) else (none)) else (none)) else (some x3)
def eY.f (k:Nat) (l0:List Int):Option (Int):=eY.l0 k 0 l0 (l0.length:Int) 0
set_option maxHeartbeats 8000000 in
set_option maxRecDepth 100000 in
theorem eY.calls (k:Nat) (A0:Option Addr) (c0:Nat) (l0:List Int) (r:Int) (w:World) (hr0:Kd.C (Kd.int .i64) w A0 l0.length l0) (hc0:l0.length≤c0) (h:eY.f k l0=some r) :
  Calls Tryz.prog 143 #[.slice A0 l0.length c0] w fun e w'=>e = .returned (.int .i64 r)∧dw w w':=by
 have HR0:=aj.mk hr0
 have HC0:=aj.mk hc0
 clear hr0 hc0
 have H:=h
 clear h
 unfold eY.f at H
 have H':=aj.mk H
 clear H
 go_enter Tryz.func143,Tryz.ntmps143
 go_wp2
 go_loopg [3,8] k (fun kq v3 v8 w'=>∃ (qH:Int) (gZ:Int),v3 = .int .i64 qH∧v8 = .int .i64 gZ∧aj (eY.l0 kq qH l0 (l0.length:Int) gZ=some r)∧aj (kq≤k)∧dw w w')
 case atStart=>exact ⟨(0),(0),zT,zT,H',⟨Nat.le_refl _⟩,zW⟩
 case round =>
  clear H'
  obtain ⟨qH,gZ,rfl,rfl,HA,HK1,⟨m1,rfl⟩⟩:=hrel
  cases gk with
  | zero=>exact absurd HA.out (by simp [eY.l0])
  | succ k1 =>
   have H:=HA.out
   clear HA
   simp only [eY.l0] at H
   by_cases c2:gZ < (l0.length:Int)
   ·rw [if_pos c2] at H
    have lW:=decide_eq_true c2
    clear c2
    by_cases c3:0≤gZ
    ·rw [if_pos c3] at H
     have fQ:=decide_eq_true c3
     clear c3
     by_cases c4:gZ < (l0.length:Int)
     ·rw [if_pos c4] at H
      have fV:=decide_eq_true c4
      clear c4
      replace H:=zO H
      obtain ⟨amC,A5,H⟩:=H
      try dsimp only at H
      have H':=aj.mk H
      clear H
      have apk:0≤(gZ:Int):=of_decide_eq_true (by first|(with_reducible assumption)|assumption)
      have apl:gZ < (l0.length:Int):=of_decide_eq_true (by first|(with_reducible assumption)|assumption)
      obtain ⟨aAb,avU,axV⟩:=Kd.jF HR0.out gZ apk apl
      cases avU
      replace apk:=eq_true apk
      replace apl:=eq_true apl
      go_wp2_with (first|((with_reducible refine aA (f:=147) rfl ?_);refine aH (some 14) rfl rfl Tryz.func147 (by kernel_rfl) rfl #[.int .i64 qH,.int .i64 (rd l0 gZ)] rfl zL ?_;(with_reducible refine (gK.calls k1 qH (rd l0 gZ) amC _ A5.out).mono ?_);rintro e w' ⟨rfl,⟨nd,rfl⟩⟩;refine ⟨_,rfl,?_⟩))
      go_roundg k1
      case measure=>have:=HK1.out;omega
      case rel=>exact ⟨(amC),(wrap64 (gZ+1)),zT,zT,H',⟨by have:=HK1.out;omega⟩,zW⟩
     ·rw [if_neg c4] at H
      exact absurd H (by simp)
    ·rw [if_neg c3] at H
     exact absurd H (by simp)
   ·rw [if_neg c2] at H
    have lW:=decide_eq_false c2
    clear c2
    obtain rfl:=Option.some.inj H
    go_wp2
    go_ret
    exact ⟨zT,zW⟩
end Go.Proofs.YtpondkggmcmpfaaGreatDoor.QA
namespace Go.Proofs.YtpondkggmcmpfaaGreatDoor.QA
open Go.Proofs.YtpondkggmcmpfaaGreatDoor.T
open Go.RowKit Go.Proofs.YtpondkggmcmpfaaGreatDoorW.PrintWords Go.Proofs.YtpondkggmcmpfaaGreatDoorW.PrintLast Go.Proofs.YtpondkggmcmpfaaGreatDoorW.PrintMore
attribute [local go_sem] dY dS dU fA fB
set_option linter.unusedVariables false
set_option linter.unusedSimpArgs false
def dV.j0:Nat→Bool→Bool→Int→Int→Option (Int)
 | 0,_,_,_,_=>none
 | k+1,x7,x28,alu,alv=>if x28=true then ((gJ.f alu alv 0 1).bind fun aq1=>((bM.f k aq1.1 aq1.2 x7).bind fun aj1=>(some aj1))) else ((bM.f k alu alv x7).bind fun aj2=>(some aj2))
def dV.f (k:Nat) (a0 a1:Int):Option (Int):=if a1=0 then (some 0) else ((dN.f a0).bind fun aej=>((dN.f a1).bind fun aek=>((fC.f k 0 aej aek).bind fun agE=>(if ((decide (a0 < 0)) != (decide (a1 < 0)))=true then (dV.j0 k ((decide (a0 < 0)) != (decide (a1 < 0))) (decide (agE.2.2 > 0)) agE.1 agE.2.1) else (dV.j0 k ((decide (a0 < 0)) != (decide (a1 < 0))) false agE.1 agE.2.1)))))
set_option maxHeartbeats 8000000 in
set_option maxRecDepth 100000 in
theorem dV.calls (k:Nat) (a0 a1 r:Int) (w:World) (h:dV.f k a0 a1=some r) :
  Calls Tryz.prog 144 #[.int .i64 a0,.int .i64 a1] w fun e w'=>e = .returned (.int .i64 r)∧Below w.heap.size w w':=by
 have xI:=Tryz.underlying179
 have HB:=aj.mk (Below.refl w.heap.size w)
 have H:=h
 clear h
 unfold dV.f at H
 by_cases c3:a1=0
 ·rw [if_pos c3] at H
  have fQ:(a1 == 0)=true:=beq_iff_eq.mpr c3
  have wS:(a1 != 0)=false:=bne_eq_false_iff_eq.mpr c3
  clear c3
  obtain rfl:=Option.some.inj H
  go_enter Tryz.func144,Tryz.ntmps144
  go_wp2
  go_ret
  exact ⟨zS,zB⟩
 ·rw [if_neg c3] at H
  have fQ:(a1 == 0)=false:=beq_eq_false_iff_ne.mpr c3
  have wS:(a1 != 0)=true:=bne_iff_ne.mpr c3
  replace H:=zO H
  obtain ⟨aej,A4,H⟩:=H
  try dsimp only at H
  replace H:=zO H
  obtain ⟨aek,A5,H⟩:=H
  try dsimp only at H
  replace H:=zO H
  obtain ⟨⟨vG,vH,apm⟩,A6,H⟩:=H
  try dsimp only at H
  rcases Bool.eq_false_or_eq_true ((decide (a0 < 0)) != (decide (a1 < 0))) with hsv|hsv
  ·have rQ:((decide (a0 < 0)) != (decide (a1 < 0)))=true:=hsv
   have amD:((decide (a0 < 0)) == (decide (a1 < 0)))=false:=by simpa using hsv
   have HC7:=aj.mk H
   clear H
   go_enter Tryz.func144,Tryz.ntmps144
   go_upto_region 5 with (first|((with_reducible refine aA (f:=120) rfl ?_);refine aH (some 12) rfl rfl Tryz.func120 (by kernel_rfl) rfl #[.int .i64 a0] rfl zL ?_;(with_reducible refine (dN.calls a0 aej _ A4.out).mono ?_);rintro e w' ⟨rfl,⟨nd,rfl⟩⟩;refine ⟨_,rfl,?_⟩)|((with_reducible refine aA (f:=120) rfl ?_);refine aH (some 15) rfl rfl Tryz.func120 (by kernel_rfl) rfl #[.int .i64 a1] rfl zL ?_;(with_reducible refine (dN.calls a1 aek _ A5.out).mono ?_);rintro e w' ⟨rfl,⟨nd,rfl⟩⟩;refine ⟨_,rfl,?_⟩)|((with_reducible refine aA (f:=172) rfl ?_);refine aH (some 16) rfl rfl Tryz.func172 (by kernel_rfl) rfl #[.agg #[.int .u64 0,.int .u64 aej],.int .u64 aek] rfl zL ?_;(with_reducible refine (fC.calls k 0 aej aek vG vH apm _ A6.out).mono ?_);rintro e w8 ⟨rfl,hb⟩;refine ⟨_,rfl,?_⟩;replace HB:=aj.mk (ak zB hb);(try clear hb))|((with_reducible refine bK (N:=5) rfl ?_);refine bT zR (N:=5) zR (cs := #[.int .u64 0,.int .u64 0]) (t:=179) zG ?_;intro agF hg w9 hbox hb;obtain ⟨HB,jW,auM,auN⟩:=zA4 (ak zB hb) hbox (zg hg zB) (zg hg zB);clear hb hbox hg;obtain ⟨_,_⟩:=zC2 jW.out;obtain ⟨_,_⟩:=zF2 jW.out))
   (try simp only [Act.put,List.setIfInBounds_toArray,List.set_cons_zero,List.set_cons_succ])
   go_cut [28] (fun v28 wc=>∃ (kq:Nat) (aa4:Bool),v28 = .bool aa4∧aj (dV.j0 kq ((decide (a0 < 0)) != (decide (a1 < 0))) aa4 vG vH=some r)∧aj (kq≤k)∧aj (wc.heap[agF]? = some (.cells #[.int .u64 vG,.int .u64 vH] 179 (0,0)))∧aj (Below w.heap.size w wc))
   case first =>
    have H:=HC7.out
    clear HC7
    by_cases c11:((decide (a0 < 0)) != (decide (a1 < 0)))=true
    ·rw [if_pos c11] at H
     have iP:((decide (a0 < 0)) != (decide (a1 < 0)))=true:=c11
     (try (have yJ:decide ((decide (a0 < 0))=(decide (a1 < 0)))=false:=by simpa using c11))
     (try (have amE:((decide (a0 < 0)) == (decide (a1 < 0)))=false:=by simpa using c11))
     (try (have auO:¬ ((decide (a0 < 0))=(decide (a1 < 0))):=by simpa using c11))
     clear c11
     (first|rw [iP]|(simp only [bW,dA];rw [iP])|skip)
     have H':=aj.mk H
     clear H
     go_wp2
     go_meet
     case rel=>exact ⟨_,(decide (apm > 0)),zT,H',⟨by first|omega|exact Nat.le_refl _⟩,⟨by refine zD ?_;refine aY (cs := #[.int .u64 vG,.int .u64 0]) ?_ 1 _ rfl;refine zD ?_;refine aY (cs := #[.int .u64 0,.int .u64 0]) ?_ 0 _ rfl;refine zD ?_;exact jW.out⟩,⟨zB⟩⟩
    ·rw [if_neg c11] at H
     have iP:((decide (a0 < 0)) != (decide (a1 < 0)))=false:=by simpa using c11
     exact absurd (rQ.symm.trans iP) (by decide)
   case rest =>
    clear HC7
    obtain ⟨kq,aa4,rfl,HA,HJ6,jW,HB⟩:=hcut
    cases kq with
    | zero=>exact absurd HA.out (by simp [dV.j0])
    | succ kj6 =>
     have H:=HA.out
     clear HA
     simp only [dV.j0] at H
     by_cases c12:aa4=true
     ·subst c12
      rw [if_pos rfl] at H;try dsimp only at H
      replace H:=zO H
      obtain ⟨⟨abu,ac7⟩,A13,H⟩:=H
      try dsimp only at H
      replace H:=zO H
      obtain ⟨aj1,A14,H⟩:=H
      try dsimp only at H
      obtain rfl:=Option.some.inj H
      obtain ⟨_,_⟩:=zC2 jW.out
      obtain ⟨_,_⟩:=zF2 jW.out
      go_wp2_with (first|((with_reducible refine aA (f:=124) rfl ?_);refine aH (some 31) rfl rfl Tryz.func124 (by kernel_rfl) rfl #[.agg #[.int .u64 vG,.int .u64 vH],.agg #[.int .u64 0,.int .u64 1]] rfl zL ?_;(with_reducible refine (gJ.calls vG vH 0 1 abu ac7 _ A13.out).mono ?_);rintro e w16 ⟨rfl,hb⟩;refine ⟨_,rfl,?_⟩;obtain ⟨jW,HB⟩:=zA2 (ay (zK jW) hb) (ak zB hb);(try clear hb);obtain ⟨_,_⟩:=zC2 jW.out;obtain ⟨_,_⟩:=zF2 jW.out)|((with_reducible refine aA (f:=125) rfl ?_);refine aH (some 34) rfl rfl Tryz.func125 (by kernel_rfl) rfl #[.agg #[.int .u64 abu,.int .u64 ac7],.bool true] rfl zL ?_;(with_reducible refine (bM.calls kj6 abu ac7 true aj1 _ (by have h:=A14.out;rw [rQ] at h;exact h)).mono ?_);rintro e w18 ⟨rfl,hb⟩;refine ⟨_,rfl,?_⟩;obtain ⟨jW,HB⟩:=zA2 (ay (g:=agF) (o := .cells #[.int .u64 abu,.int .u64 ac7] 179 (0,0)) (by refine zD ?_;refine aY (cs := #[.int .u64 abu,.int .u64 vH]) ?_ 1 _ rfl;refine zD ?_;refine aY (cs := #[.int .u64 vG,.int .u64 vH]) ?_ 0 _ rfl;refine zD ?_;exact jW.out) hb) (ak zB hb);(try clear hb)))
      go_ret
      exact ⟨zS,zB⟩
     ·replace c12:=Bool.eq_false_iff.mpr c12
      subst c12
      rw [if_neg (show ¬ (false=true) by decide)] at H;try dsimp only at H
      replace H:=zO H
      obtain ⟨aj2,A19,H⟩:=H
      try dsimp only at H
      obtain rfl:=Option.some.inj H
      obtain ⟨_,_⟩:=zC2 jW.out
      obtain ⟨_,_⟩:=zF2 jW.out
      go_wp2_with (first|((with_reducible refine aA (f:=125) rfl ?_);refine aH (some 34) rfl rfl Tryz.func125 (by kernel_rfl) rfl #[.agg #[.int .u64 vG,.int .u64 vH],.bool true] rfl zL ?_;(with_reducible refine (bM.calls kj6 vG vH true aj2 _ (by have h:=A19.out;rw [rQ] at h;exact h)).mono ?_);rintro e w21 ⟨rfl,hb⟩;refine ⟨_,rfl,?_⟩;obtain ⟨jW,HB⟩:=zA2 (ay (zK jW) hb) (ak zB hb);(try clear hb)))
      go_ret
      exact ⟨zS,zB⟩
  ·have rQ:((decide (a0 < 0)) != (decide (a1 < 0)))=false:=hsv
   have amD:((decide (a0 < 0)) == (decide (a1 < 0)))=true:=by simpa using hsv
   have HC7:=aj.mk H
   clear H
   go_enter Tryz.func144,Tryz.ntmps144
   go_upto_region 5 with (first|((with_reducible refine aA (f:=120) rfl ?_);refine aH (some 12) rfl rfl Tryz.func120 (by kernel_rfl) rfl #[.int .i64 a0] rfl zL ?_;(with_reducible refine (dN.calls a0 aej _ A4.out).mono ?_);rintro e w' ⟨rfl,⟨nd,rfl⟩⟩;refine ⟨_,rfl,?_⟩)|((with_reducible refine aA (f:=120) rfl ?_);refine aH (some 15) rfl rfl Tryz.func120 (by kernel_rfl) rfl #[.int .i64 a1] rfl zL ?_;(with_reducible refine (dN.calls a1 aek _ A5.out).mono ?_);rintro e w' ⟨rfl,⟨nd,rfl⟩⟩;refine ⟨_,rfl,?_⟩)|((with_reducible refine aA (f:=172) rfl ?_);refine aH (some 16) rfl rfl Tryz.func172 (by kernel_rfl) rfl #[.agg #[.int .u64 0,.int .u64 aej],.int .u64 aek] rfl zL ?_;(with_reducible refine (fC.calls k 0 aej aek vG vH apm _ A6.out).mono ?_);rintro e w8 ⟨rfl,hb⟩;refine ⟨_,rfl,?_⟩;replace HB:=aj.mk (ak zB hb);(try clear hb))|((with_reducible refine bK (N:=5) rfl ?_);refine bT zR (N:=5) zR (cs := #[.int .u64 0,.int .u64 0]) (t:=179) zG ?_;intro agF hg w9 hbox hb;obtain ⟨HB,jW,auM,auN⟩:=zA4 (ak zB hb) hbox (zg hg zB) (zg hg zB);clear hb hbox hg;obtain ⟨_,_⟩:=zC2 jW.out;obtain ⟨_,_⟩:=zF2 jW.out))
   (try simp only [Act.put,List.setIfInBounds_toArray,List.set_cons_zero,List.set_cons_succ])
   go_cut [28] (fun v28 wc=>∃ (kq:Nat) (aa4:Bool),v28 = .bool aa4∧aj (dV.j0 kq ((decide (a0 < 0)) != (decide (a1 < 0))) aa4 vG vH=some r)∧aj (kq≤k)∧aj (wc.heap[agF]? = some (.cells #[.int .u64 vG,.int .u64 vH] 179 (0,0)))∧aj (Below w.heap.size w wc))
   case first =>
    have H:=HC7.out
    clear HC7
    by_cases c11:((decide (a0 < 0)) != (decide (a1 < 0)))=true
    ·rw [if_pos c11] at H
     have iP:((decide (a0 < 0)) != (decide (a1 < 0)))=true:=c11
     exact absurd (rQ.symm.trans iP) (by decide)
    ·rw [if_neg c11] at H
     have iP:((decide (a0 < 0)) != (decide (a1 < 0)))=false:=by simpa using c11
     (try (have yJ:decide ((decide (a0 < 0))=(decide (a1 < 0)))=true:=by simpa using c11))
     (try (have amE:((decide (a0 < 0)) == (decide (a1 < 0)))=true:=by simpa using c11))
     clear c11
     (first|rw [iP]|(simp only [bW,dA];rw [iP])|skip)
     have H':=aj.mk H
     clear H
     go_wp2
     go_meet
     case rel=>exact ⟨_,(false),zT,H',⟨by first|omega|exact Nat.le_refl _⟩,⟨by refine zD ?_;refine aY (cs := #[.int .u64 vG,.int .u64 0]) ?_ 1 _ rfl;refine zD ?_;refine aY (cs := #[.int .u64 0,.int .u64 0]) ?_ 0 _ rfl;refine zD ?_;exact jW.out⟩,⟨zB⟩⟩
   case rest =>
    clear HC7
    obtain ⟨kq,aa4,rfl,HA,HJ6,jW,HB⟩:=hcut
    cases kq with
    | zero=>exact absurd HA.out (by simp [dV.j0])
    | succ kj6 =>
     have H:=HA.out
     clear HA
     simp only [dV.j0] at H
     by_cases c12:aa4=true
     ·subst c12
      rw [if_pos rfl] at H;try dsimp only at H
      replace H:=zO H
      obtain ⟨⟨abu,ac7⟩,A13,H⟩:=H
      try dsimp only at H
      replace H:=zO H
      obtain ⟨aj1,A14,H⟩:=H
      try dsimp only at H
      obtain rfl:=Option.some.inj H
      obtain ⟨_,_⟩:=zC2 jW.out
      obtain ⟨_,_⟩:=zF2 jW.out
      go_wp2_with (first|((with_reducible refine aA (f:=124) rfl ?_);refine aH (some 31) rfl rfl Tryz.func124 (by kernel_rfl) rfl #[.agg #[.int .u64 vG,.int .u64 vH],.agg #[.int .u64 0,.int .u64 1]] rfl zL ?_;(with_reducible refine (gJ.calls vG vH 0 1 abu ac7 _ A13.out).mono ?_);rintro e w16 ⟨rfl,hb⟩;refine ⟨_,rfl,?_⟩;obtain ⟨jW,HB⟩:=zA2 (ay (zK jW) hb) (ak zB hb);(try clear hb);obtain ⟨_,_⟩:=zC2 jW.out;obtain ⟨_,_⟩:=zF2 jW.out)|((with_reducible refine aA (f:=125) rfl ?_);refine aH (some 34) rfl rfl Tryz.func125 (by kernel_rfl) rfl #[.agg #[.int .u64 abu,.int .u64 ac7],.bool false] rfl zL ?_;(with_reducible refine (bM.calls kj6 abu ac7 false aj1 _ (by have h:=A14.out;rw [rQ] at h;exact h)).mono ?_);rintro e w18 ⟨rfl,hb⟩;refine ⟨_,rfl,?_⟩;obtain ⟨jW,HB⟩:=zA2 (ay (g:=agF) (o := .cells #[.int .u64 abu,.int .u64 ac7] 179 (0,0)) (by refine zD ?_;refine aY (cs := #[.int .u64 abu,.int .u64 vH]) ?_ 1 _ rfl;refine zD ?_;refine aY (cs := #[.int .u64 vG,.int .u64 vH]) ?_ 0 _ rfl;refine zD ?_;exact jW.out) hb) (ak zB hb);(try clear hb)))
      go_ret
      exact ⟨zS,zB⟩
     ·replace c12:=Bool.eq_false_iff.mpr c12
      subst c12
      rw [if_neg (show ¬ (false=true) by decide)] at H;try dsimp only at H
      replace H:=zO H
      obtain ⟨aj2,A19,H⟩:=H
      try dsimp only at H
      obtain rfl:=Option.some.inj H
      obtain ⟨_,_⟩:=zC2 jW.out
      obtain ⟨_,_⟩:=zF2 jW.out
      go_wp2_with (first|((with_reducible refine aA (f:=125) rfl ?_);refine aH (some 34) rfl rfl Tryz.func125 (by kernel_rfl) rfl #[.agg #[.int .u64 vG,.int .u64 vH],.bool false] rfl zL ?_;(with_reducible refine (bM.calls kj6 vG vH false aj2 _ (by have h:=A19.out;rw [rQ] at h;exact h)).mono ?_);rintro e w21 ⟨rfl,hb⟩;refine ⟨_,rfl,?_⟩;obtain ⟨jW,HB⟩:=zA2 (ay (zK jW) hb) (ak zB hb);(try clear hb)))
      go_ret
      exact ⟨zS,zB⟩
end Go.Proofs.YtpondkggmcmpfaaGreatDoor.QA
