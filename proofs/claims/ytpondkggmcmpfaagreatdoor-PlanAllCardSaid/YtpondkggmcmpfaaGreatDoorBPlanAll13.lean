/- Joined by wip/tools/bundle.py out of: QAx30 QAx31 QAx32 QAx33 QAx34 QAx35. -/
import Derived.Test.YtpondkggmcmpfaaGreatDoorBPlanAll0
import Derived.Test.YtpondkggmcmpfaaGreatDoorBPlanAll1
import Derived.Test.YtpondkggmcmpfaaGreatDoorBPlanAll7
import Derived.Test.YtpondkggmcmpfaaGreatDoorBPlanAll12
namespace Go.Proofs.YtpondkggmcmpfaaGreatDoor.QA
open Go.Proofs.YtpondkggmcmpfaaGreatDoor.T
open Go.RowKit Go.Proofs.YtpondkggmcmpfaaGreatDoorW.PrintWords Go.Proofs.YtpondkggmcmpfaaGreatDoorW.PrintLast Go.Proofs.YtpondkggmcmpfaaGreatDoorW.PrintMore
attribute [local go_sem] eP dV dW fM fO
set_option linter.unusedVariables false
set_option linter.unusedSimpArgs false
mutual
def aU.j0:Nat→Int→Int→Int→Option (Int)
 | 0,_,_,_=>none
 | k+1,x0,x1,x2=>if x2 > 127 then (some 0) else ((dL.f x0).bind fun ad5=>((dL.f x1).bind fun ad6=>((dP.f k ad5 ad6).bind fun aiO=>(if x2=0 then ((bM.f k aiO.1 aiO.2 ((decide (x0 < 0)) != (decide (x1 < 0)))).bind fun aoB=>(some aoB)) else (aU.l0 k x2 ((decide (x0 < 0)) != (decide (x1 < 0))) 127 aiO.1 aiO.2 0 0)))))
def aU.l0:Nat→Int→Bool→Int→Int→Int→Int→Int→Option (Int)
 | 0,_,_,_,_,_,_,_=>none
 | k+1,x2,x7,x10,yc,yg,tq,tu=>if x10≥x2 then ((fB.f yc yg x10).bind fun ajH=>((dH.f tq tu ajH).bind fun aqs=>(aU.l0 k x2 x7 (wrap64 (x10 - 1)) yc yg aqs.1 aqs.2))) else (aU.l1 k x2 x7 false (wrap64 (x2 - 1)) 0 yc yg tq tu)
def aU.l1:Nat→Int→Bool→Bool→Int→Int→Int→Int→Int→Int→Option (Int)
 | 0,_,_,_,_,_,_,_,_,_=>none
 | k+1,x2,x7,x11,x44,x45,yc,yg,tq,tu=>if x45 < x44 then (if x11=true then (aU.l1 k x2 x7 true x44 (wrap64 (x45+1)) yc yg tq tu) else ((fB.f yc yg x45).bind fun amd=>(aU.l1 k x2 x7 (amd == 1) x44 (wrap64 (x45+1)) yc yg tq tu))) else ((fB.f yc yg (wrap64 (x2 - 1))).bind fun ab6=>(if ab6=1 then (if x11=true then (aU.j3 k x7 true tq tu) else (aU.j3 k x7 (!x7) tq tu)) else (aU.j3 k x7 false tq tu)))
def aU.j3:Nat→Bool→Bool→Int→Int→Option (Int)
 | 0,_,_,_,_=>none
 | k+1,x7,x67,tq,tu=>if x67=true then ((gG.f tq tu 0 1).bind fun aqt=>((bM.f k aqt.1 aqt.2 x7).bind fun aoC=>(some aoC))) else ((bM.f k tq tu x7).bind fun aoD=>(some aoD))
end
def aU.f (k:Nat) (a0 a1 a2:Int):Option (Int):=if a2 < 0 then (aU.j0 k a0 a1 0) else (aU.j0 k a0 a1 a2)
set_option maxHeartbeats 8000000 in
set_option maxRecDepth 100000 in
theorem aU.calls (k:Nat) (a0 a1 a2 r:Int) (w:World) (h:aU.f k a0 a1 a2=some r) :
  Calls Tryz.prog 185 #[.int .i64 a0,.int .i64 a1,.int .i64 a2] w fun e w'=>e = .returned (.int .i64 r)∧Below w.heap.size w w':=by
 have xq:=Tryz.underlying179
 have HB:=aj.mk (Below.refl w.heap.size w)
 have H:=h
 clear h
 unfold aU.f at H
 have HC4:=aj.mk H
 clear H
 go_enter Tryz.func185,Tryz.ntmps185
 go_upto_if 14 with (fail)
 go_cut [2] (fun v2 wc=>∃ (kq:Nat) (tC:Int),v2 = .int .i64 tC∧aj (aU.j0 kq a0 a1 tC=some r)∧aj (kq≤k)∧aj (Below w.heap.size w wc))
 case first =>
  have H:=HC4.out
  clear HC4
  by_cases c5:a2 < 0
  ·rw [if_pos c5] at H
   have iJ:=decide_eq_true c5
   clear c5
   (first|rw [iJ]|(simp only [bW,dh];rw [iJ])|skip)
   have H':=aj.mk H
   clear H
   go_wp2
   go_meet
   case rel=>exact ⟨_,(0),zT,H',⟨by first|omega|exact Nat.le_refl _⟩,⟨zB⟩⟩
  ·rw [if_neg c5] at H
   have iJ:=decide_eq_false c5
   clear c5
   (first|rw [iJ]|(simp only [bW,dh];rw [iJ])|skip)
   have H':=aj.mk H
   clear H
   go_wp2
   go_meet
   case rel=>exact ⟨_,(a2),zT,H',⟨by first|omega|exact Nat.le_refl _⟩,⟨zB⟩⟩
 case rest =>
  clear HC4
  obtain ⟨kq,tC,rfl,HA,HJ3,HB⟩:=hcut
  cases kq with
  | zero=>exact absurd HA.out (by simp [aU.j0])
  | succ kj3 =>
   have H:=HA.out
   clear HA
   simp only [aU.j0] at H
   by_cases c6:tC > 127
   ·rw [if_pos c6] at H
    have ig:=decide_eq_true c6
    clear c6
    obtain rfl:=Option.some.inj H
    go_wp2
    go_ret
    exact ⟨zS,zB⟩
   ·rw [if_neg c6] at H
    have ig:=decide_eq_false c6
    clear c6
    replace H:=zO H
    obtain ⟨ad5,A7,H⟩:=H
    try dsimp only at H
    replace H:=zO H
    obtain ⟨ad6,A8,H⟩:=H
    try dsimp only at H
    replace H:=zO H
    obtain ⟨⟨oG,qC⟩,A9,H⟩:=H
    try dsimp only at H
    by_cases c10:tC=0
    ·rw [if_pos c10] at H
     have pO:(tC == 0)=true:=beq_iff_eq.mpr c10
     have aqu:(tC != 0)=false:=bne_eq_false_iff_eq.mpr c10
     clear c10
     replace H:=zO H
     obtain ⟨aoB,A11,H⟩:=H
     try dsimp only at H
     obtain rfl:=Option.some.inj H
     go_wp2_with (first|((with_reducible refine aA (f:=120) rfl ?_);refine aH (some 23) rfl rfl Tryz.func120 (by kernel_rfl) rfl #[.int .i64 a0] rfl zL ?_;(with_reducible refine (dL.calls a0 ad5 _ A7.out).mono ?_);rintro e w' ⟨rfl,⟨nd,rfl⟩⟩;refine ⟨_,rfl,?_⟩;(try (rw [nN wc];generalize hq_:World.drewN wc _=wc;have n0_:aj (Below w.heap.size w wc):=⟨by rw [← hq_];exact zB⟩;clear HB hq_;have HB:=n0_;clear n0_)))|((with_reducible refine aA (f:=120) rfl ?_);refine aH (some 25) rfl rfl Tryz.func120 (by kernel_rfl) rfl #[.int .i64 a1] rfl zL ?_;(with_reducible refine (dL.calls a1 ad6 _ A8.out).mono ?_);rintro e w' ⟨rfl,⟨nd,rfl⟩⟩;refine ⟨_,rfl,?_⟩;(try (rw [nN wc];generalize hq_:World.drewN wc _=wc;have n0_:aj (Below w.heap.size w wc):=⟨by rw [← hq_];exact zB⟩;clear HB hq_;have HB:=n0_;clear n0_)))|((with_reducible refine aA (f:=148) rfl ?_);refine aH (some 26) rfl rfl Tryz.func148 (by kernel_rfl) rfl #[.int .u64 ad5,.int .u64 ad6] rfl zL ?_;(with_reducible refine (dP.calls kj3 ad5 ad6 oG qC _ A9.out).mono ?_);rintro e w12 ⟨rfl,hb⟩;refine ⟨_,rfl,?_⟩;replace HB:=aj.mk (ak zB hb);(try clear hb))|((with_reducible refine bK (N:=8) rfl ?_);refine bT zR (N:=8) zR (cs := #[.int .u64 0,.int .u64 0]) (t:=179) zG ?_;intro xu hg w13 hbox hb;obtain ⟨HB,gy,atZ,at1⟩:=zA4 (ak zB hb) hbox (zg hg zB) (zg hg zB);clear hb hbox hg;obtain ⟨_,_⟩:=zC2 gy.out;obtain ⟨_,_⟩:=zF2 gy.out)|((with_reducible refine aA (f:=125) rfl ?_);refine aH (some 31) rfl rfl Tryz.func125 (by kernel_rfl) rfl #[.agg #[.int .u64 oG,.int .u64 qC],.bool ((decide (a0 < 0)) != (decide (a1 < 0)))] rfl zL ?_;(with_reducible refine (bM.calls kj3 oG qC ((decide (a0 < 0)) != (decide (a1 < 0))) aoB _ A11.out).mono ?_);rintro e w15 ⟨rfl,hb⟩;refine ⟨_,rfl,?_⟩;obtain ⟨gy,HB⟩:=zA2 (ay (g:=xu) (o := .cells #[.int .u64 oG,.int .u64 qC] 179 (0,0)) (by refine zD ?_;refine aY (cs := #[.int .u64 oG,.int .u64 0]) ?_ 1 _ rfl;refine zD ?_;refine aY (cs := #[.int .u64 0,.int .u64 0]) ?_ 0 _ rfl;refine zD ?_;exact gy.out) hb) (ak zB hb);(try clear hb)))
     go_ret
     exact ⟨zS,zB⟩
    ·rw [if_neg c10] at H
     have pO:(tC == 0)=false:=beq_eq_false_iff_ne.mpr c10
     have aqu:(tC != 0)=true:=bne_iff_ne.mpr c10
     have H':=aj.mk H
     clear H
     go_wp2_with (first|((with_reducible refine aA (f:=120) rfl ?_);refine aH (some 23) rfl rfl Tryz.func120 (by kernel_rfl) rfl #[.int .i64 a0] rfl zL ?_;(with_reducible refine (dL.calls a0 ad5 _ A7.out).mono ?_);rintro e w' ⟨rfl,⟨nd,rfl⟩⟩;refine ⟨_,rfl,?_⟩;(try (rw [nN wc];generalize hq_:World.drewN wc _=wc;have n0_:aj (Below w.heap.size w wc):=⟨by rw [← hq_];exact zB⟩;clear HB hq_;have HB:=n0_;clear n0_)))|((with_reducible refine aA (f:=120) rfl ?_);refine aH (some 25) rfl rfl Tryz.func120 (by kernel_rfl) rfl #[.int .i64 a1] rfl zL ?_;(with_reducible refine (dL.calls a1 ad6 _ A8.out).mono ?_);rintro e w' ⟨rfl,⟨nd,rfl⟩⟩;refine ⟨_,rfl,?_⟩;(try (rw [nN wc];generalize hq_:World.drewN wc _=wc;have n0_:aj (Below w.heap.size w wc):=⟨by rw [← hq_];exact zB⟩;clear HB hq_;have HB:=n0_;clear n0_)))|((with_reducible refine aA (f:=148) rfl ?_);refine aH (some 26) rfl rfl Tryz.func148 (by kernel_rfl) rfl #[.int .u64 ad5,.int .u64 ad6] rfl zL ?_;(with_reducible refine (dP.calls kj3 ad5 ad6 oG qC _ A9.out).mono ?_);rintro e w16 ⟨rfl,hb⟩;refine ⟨_,rfl,?_⟩;replace HB:=aj.mk (ak zB hb);(try clear hb))|((with_reducible refine bK (N:=8) rfl ?_);refine bT zR (N:=8) zR (cs := #[.int .u64 0,.int .u64 0]) (t:=179) zG ?_;intro xu hg w17 hbox hb;obtain ⟨HB,gy,atZ,at1⟩:=zA4 (ak zB hb) hbox (zg hg zB) (zg hg zB);clear hb hbox hg;obtain ⟨_,_⟩:=zC2 gy.out;obtain ⟨_,_⟩:=zF2 gy.out)|((with_reducible refine bK (N:=9) rfl ?_);refine bT zR (N:=9) zR (cs := #[.int .u64 0,.int .u64 0]) (t:=179) zG ?_;intro aac hg w19 hbox hb;obtain ⟨gy,HB,iq,azw,azx,rD,rE⟩:=zA7 (ay (g:=xu) (o := .cells #[.int .u64 oG,.int .u64 qC] 179 (0,0)) (by refine zD ?_;refine aY (cs := #[.int .u64 oG,.int .u64 0]) ?_ 1 _ rfl;refine zD ?_;refine aY (cs := #[.int .u64 0,.int .u64 0]) ?_ 0 _ rfl;refine zD ?_;exact gy.out) hb) (ak zB hb) hbox (zg hg zB) (zg hg zB) ((by rw [hg];exact Nat.ne_of_lt (dI (g:=xu) (o := .cells #[.int .u64 oG,.int .u64 qC] 179 (0,0)) (by refine zD ?_;refine aY (cs := #[.int .u64 oG,.int .u64 0]) ?_ 1 _ rfl;refine zD ?_;refine aY (cs := #[.int .u64 0,.int .u64 0]) ?_ 0 _ rfl;refine zD ?_;exact gy.out)):xu≠aac)) ((by rw [hg];exact Nat.ne_of_gt (dI (g:=xu) (o := .cells #[.int .u64 oG,.int .u64 qC] 179 (0,0)) (by refine zD ?_;refine aY (cs := #[.int .u64 oG,.int .u64 0]) ?_ 1 _ rfl;refine zD ?_;refine aY (cs := #[.int .u64 0,.int .u64 0]) ?_ 0 _ rfl;refine zD ?_;exact gy.out)):aac≠xu));clear hb hbox hg;have azy:=rE.out;have azz:=rD.out;obtain ⟨_,_⟩:=zC2 iq.out;obtain ⟨_,_⟩:=zF2 iq.out))
     go_loopg [10] kj3 (fun kq v10 w'=>∃ (iW:Int) (jX:Int) (jH:Int),v10 = .int .i64 iW∧aj (aU.l0 kq tC ((decide (a0 < 0)) != (decide (a1 < 0))) iW oG qC jX jH=some r)∧aj (kq≤kj3)∧aj (w'.heap[xu]? = some (.cells #[.int .u64 oG,.int .u64 qC] 179 (0,0)))∧aj (w'.heap[aac]? = some (.cells #[.int .u64 jX,.int .u64 jH] 179 (0,0)))∧aj (Below w.heap.size w w'))
     case atStart=>exact ⟨(127),(0),(0),zT,H',⟨Nat.le_refl _⟩,⟨zK gy⟩,⟨by refine zD ?_;refine aY (cs := #[.int .u64 0,.int .u64 0]) ?_ 1 _ rfl;refine zD ?_;refine aY (cs := #[.int .u64 0,.int .u64 0]) ?_ 0 _ rfl;refine zD ?_;exact iq.out⟩,⟨zB⟩⟩
     case round =>
      clear H'
      obtain ⟨iW,jX,jH,rfl,HA,HK2,gy,iq,HB⟩:=hrel
      cases gk with
      | zero=>exact absurd HA.out (by simp [aU.l0])
      | succ k2 =>
       have H:=HA.out
       clear HA
       simp only [aU.l0] at H
       by_cases c22:iW≥tC
       ·rw [if_pos c22] at H
        have at6:=decide_eq_true c22
        clear c22
        replace H:=zO H
        obtain ⟨ajH,A23,H⟩:=H
        try dsimp only at H
        replace H:=zO H
        obtain ⟨⟨aoE,asb⟩,A24,H⟩:=H
        try dsimp only at H
        have H':=aj.mk H
        clear H
        try go_wp2
        obtain ⟨gy,iq,HB⟩:=zA3 (jo gy.out) (jo iq.out) (bg HB.out)
        refine aci (n:=6) (S:=fun w'=>w'.cell? ⟨aac,0,none⟩=some (.int .u64 jX)∧w'.cell? ⟨aac,1,none⟩=some (.int .u64 jH)∧w'.cell? ⟨xu,0,none⟩=some (.int .u64 oG)∧w'.cell? ⟨xu,1,none⟩=some (.int .u64 qC)) (ds:=[5]) #[false,false,false,false,false,false] (by kernel_rfl) rfl rfl ⟨(au iq.out 0).trans rfl,(au iq.out 1).trans rfl,(au gy.out 0).trans rfl,(au gy.out 1).trans rfl⟩ (fun hHeld => ?_)
        generalize wr.drew=w25 at gy iq HB hHeld ⊢
        refine xg (i:=2) (N:=some 40) (v := ?_) (a' := ?_) #[false,false,true,false,false,false] rfl rfl (by kernel_rfl) (fun _ _ _ h=>h) (Or.inl ⟨by rfl,?_⟩) ?_ ?_
        rotate_left
        ·intro w'
         go_simp
         with_reducible rfl
        rotate_left
        ·simp only [Act.put,List.setIfInBounds_toArray,List.set_cons_zero,List.set_cons_succ,bW,dh]
         rfl
        refine yu (i:=0) (N:=some 38) (v := ?_) (a' := ?_) #[true,false,true,false,false,false] rfl rfl (by kernel_rfl) (fun _ _ _ h=>h) (Or.inl ⟨by rfl,?_⟩) hHeld ?_ ?_
        rotate_left
        ·rintro w' ⟨s0,s1,s2,s3⟩
         go_simp
         with_reducible rfl
        rotate_left
        ·simp only [Act.put,List.setIfInBounds_toArray,List.set_cons_zero,List.set_cons_succ,bW,dh]
         rfl
        refine yu (i:=1) (N:=some 39) (v := ?_) (a' := ?_) #[true,true,true,false,false,false] rfl rfl (by kernel_rfl) (fun _ _ _ h=>h) (Or.inl ⟨by rfl,?_⟩) hHeld ?_ ?_
        rotate_left
        ·rintro w' ⟨s0,s1,s2,s3⟩
         go_simp
         with_reducible rfl
        rotate_left
        ·simp only [Act.put,List.setIfInBounds_toArray,List.set_cons_zero,List.set_cons_succ,bW,dh]
         rfl
        refine aa7 (i:=3) (N:=some 41) #[true,true,true,true,false,false] rfl rfl (by kernel_rfl) (by decide) (fun K hK => ?_)
        refine zU Tryz.func121 (by kernel_rfl) rfl #[.agg #[.int .u64 oG,.int .u64 qC],.int .i64 iW] (by rfl) rfl rfl zL ?_
        with_reducible refine (fB.calls oG qC iW ajH _ A23.out).mono ?_
        rintro e w26 ⟨rfl,hb⟩
        refine ⟨_,rfl,?_⟩
        obtain ⟨gy,iq,HB⟩:=zA3 (ay (zK gy) hb) (ay (zK iq) hb) (ak zB hb)
        (try clear hb)
        (try clear hb2)
        (try clear hk)
        (try clear hi)
        refine hK.out _ _ ⟨(au iq.out 0).trans rfl,(au iq.out 1).trans rfl,(au gy.out 0).trans rfl,(au gy.out 1).trans rfl⟩ (fun hHeld => ?_)
        clear hK K
        refine zQ (a' := ?_) ?_ ?_
        rotate_left
        ·show Act.put _ (some 41) _=_
         simp only [Act.put,List.setIfInBounds_toArray,List.set_cons_zero,List.set_cons_succ,bW,dh]
         rfl
        refine aa7 (i:=4) (N:=some 42) #[true,true,true,true,true,false] rfl rfl (by kernel_rfl) (by decide) (fun K hK => ?_)
        refine zU Tryz.func119 (by kernel_rfl) rfl #[.agg #[.int .u64 jX,.int .u64 jH],.int .u64 ajH] (by rfl) rfl rfl zL ?_
        with_reducible refine (dH.calls jX jH ajH aoE asb _ A24.out).mono ?_
        rintro e w27 ⟨rfl,hb⟩
        refine ⟨_,rfl,?_⟩
        obtain ⟨gy,iq,HB⟩:=zA3 (ay (zK gy) hb) (ay (zK iq) hb) (ak zB hb)
        (try clear hb)
        (try clear hb2)
        (try clear hk)
        (try clear hi)
        refine hK.out _ _ ⟨(au iq.out 0).trans rfl,(au iq.out 1).trans rfl,(au gy.out 0).trans rfl,(au gy.out 1).trans rfl⟩ (fun hHeld => ?_)
        clear hK K
        refine zQ (a' := ?_) ?_ ?_
        rotate_left
        ·show Act.put _ (some 42) _=_
         simp only [Act.put,List.setIfInBounds_toArray,List.set_cons_zero,List.set_cons_succ,bW,dh]
         rfl
        refine aiH (i:=5) (N:=none) #[true,true,true,true,true,true] rfl rfl (by kernel_rfl) (by decide) (fun K hK => ?_)
        have aAy:w27.cell? ⟨aac,0,none⟩=some (.int .u64 jX):=(au iq.out 0).trans rfl
        have azA:=aN iq.out 0
        have axi:=rD.out
        have axj:=rE.out
        have aAz:w27.cell? ⟨aac,1,none⟩=some (.int .u64 jH):=(au iq.out 1).trans rfl
        have azB:=aN iq.out 1
        have axk:=rD.out
        have axl:=rE.out
        refine afX (w1 := ?_) (by rfl) rfl ?_ ?_
        rotate_left
        ·go_simp
         rfl
        refine hK.out _ _ ?_
        clear hK K
        refine aeA (by kernel_rfl) ?_
        try go_wp2
        go_roundg k2
        case measure=>have:=HJ3.out;have:=HK2.out;omega
        case rel=>exact ⟨(wrap64 (iW - 1)),(aoE),(asb),zT,H',⟨by have:=HJ3.out;have:=HK2.out;omega⟩,⟨zK gy⟩,⟨by refine zD ?_;refine aY (cs := #[.int .u64 aoE,.int .u64 jH]) ?_ 1 _ rfl;refine zD ?_;refine aY (cs := #[.int .u64 jX,.int .u64 jH]) ?_ 0 _ rfl;refine zD ?_;exact iq.out⟩,⟨zB⟩⟩
       ·rw [if_neg c22] at H
        have at6:=decide_eq_false c22
        clear c22
        have H':=aj.mk H
        clear H
        go_wp2
        try simp only [Act.put,List.setIfInBounds_toArray,List.set_cons_succ,List.set_cons_zero]
        go_loopg [11,45] k2 (fun kq v11 v45 w'=>∃ (agp:Bool) (acX:Int),v11 = .bool agp∧v45 = .int .i64 acX∧aj (aU.l1 kq tC ((decide (a0 < 0)) != (decide (a1 < 0))) agp (wrap64 (tC - 1)) acX oG qC jX jH=some r)∧aj (kq≤k2)∧aj (w'.heap[xu]? = some (.cells #[.int .u64 oG,.int .u64 qC] 179 (0,0)))∧aj (w'.heap[aac]? = some (.cells #[.int .u64 jX,.int .u64 jH] 179 (0,0)))∧aj (Below w.heap.size w w'))
        case atStart=>exact ⟨(false),(0),zT,zT,H',⟨Nat.le_refl _⟩,⟨zK gy⟩,⟨zK iq⟩,⟨zB⟩⟩
        case round =>
         clear H'
         obtain ⟨agp,acX,rfl,rfl,HA,HK3,gy,iq,HB⟩:=hrel
         cases gk with
         | zero=>exact absurd HA.out (by simp [aU.l1])
         | succ k3 =>
          have H:=HA.out
          clear HA
          simp only [aU.l1] at H
          by_cases c30:acX < (wrap64 (tC - 1))
          ·rw [if_pos c30] at H
           have aqv:=decide_eq_true c30
           clear c30
           by_cases c31:agp=true
           ·subst c31
            rw [if_pos rfl] at H;try dsimp only at H
            have H':=aj.mk H
            clear H
            go_wp2
            go_roundg k3
            case measure=>have:=HJ3.out;have:=HK2.out;have:=HK3.out;omega
            case rel=>exact ⟨(true),(wrap64 (acX+1)),zT,zT,H',⟨by have:=HJ3.out;have:=HK2.out;have:=HK3.out;omega⟩,⟨zK gy⟩,⟨zK iq⟩,⟨zB⟩⟩
           ·replace c31:=Bool.eq_false_iff.mpr c31
            subst c31
            rw [if_neg (show ¬ (false=true) by decide)] at H;try dsimp only at H
            replace H:=zO H
            obtain ⟨amd,A32,H⟩:=H
            try dsimp only at H
            have H':=aj.mk H
            clear H
            have atS:=rD.out
            have atT:=rE.out
            obtain ⟨_,_⟩:=zC2 gy.out
            obtain ⟨_,_⟩:=zF2 gy.out
            go_wp2_with (first|(go_at_call 121;(with_reducible refine (fB.calls oG qC acX amd _ A32.out).mono ?_);rintro e w35 ⟨rfl,hb⟩;obtain ⟨gy,iq,HB⟩:=zA3 (ay (zK gy) hb) (ay (zK iq) hb) (ak zB hb);(try clear hb)))
            go_roundg k3
            case measure=>have:=HJ3.out;have:=HK2.out;have:=HK3.out;omega
            case rel=>exact ⟨((amd == 1)),(wrap64 (acX+1)),zT,zT,H',⟨by have:=HJ3.out;have:=HK2.out;have:=HK3.out;omega⟩,⟨zK gy⟩,⟨zK iq⟩,⟨zB⟩⟩
          ·rw [if_neg c30] at H
           have aqv:=decide_eq_false c30
           clear c30
           have aoF:=aj.mk H
           clear H
           go_upto_region 20 with (fail)
           go_cut [67] (fun v67 wc=>∃ (kq:Nat) (agq:Bool),v67 = .bool agq∧aj (aU.j3 kq ((decide (a0 < 0)) != (decide (a1 < 0))) agq jX jH=some r)∧aj (kq≤k3)∧aj (wc.heap[xu]? = some (.cells #[.int .u64 oG,.int .u64 qC] 179 (0,0)))∧aj (wc.heap[aac]? = some (.cells #[.int .u64 jX,.int .u64 jH] 179 (0,0)))∧aj (Below w.heap.size w wc))
           case first =>
            have H:=aoF.out
            clear aoF
            replace H:=zO H
            obtain ⟨ab6,A37,H⟩:=H
            try dsimp only at H
            by_cases c38:ab6=1
            ·rw [if_pos c38] at H
             have acW:(ab6 == 1)=true:=beq_iff_eq.mpr c38
             have amb:(ab6 != 1)=false:=bne_eq_false_iff_eq.mpr c38
             clear c38
             (first|rw [acW]|(simp only [bW,dh];rw [acW])|skip)
             by_cases c39:agp=true
             ·subst c39
              rw [if_pos rfl] at H;try dsimp only at H
              have H':=aj.mk H
              clear H
              have aqf:=rD.out
              have aqg:=rE.out
              obtain ⟨_,_⟩:=zC2 gy.out
              obtain ⟨_,_⟩:=zF2 gy.out
              go_wp2_with (first|((with_reducible refine aA (f:=121) rfl ?_);refine aH (some 59) rfl rfl Tryz.func121 (by kernel_rfl) rfl #[.agg #[.int .u64 oG,.int .u64 qC],.int .i64 (wrap64 (tC - 1))] rfl zL ?_;(with_reducible refine (fB.calls oG qC (wrap64 (tC - 1)) ab6 _ A37.out).mono ?_);rintro e w42 ⟨rfl,hb⟩;refine ⟨_,rfl,?_⟩;obtain ⟨gy,iq,HB⟩:=zA3 (ay (zK gy) hb) (ay (zK iq) hb) (ak zB hb);(try clear hb)))
              go_meet
              case rel=>exact ⟨_,(true),zT,H',⟨by have:=HJ3.out;have:=HK2.out;have:=HK3.out;first|omega|exact Nat.le_refl _⟩,⟨zK gy⟩,⟨zK iq⟩,⟨zB⟩⟩
             ·replace c39:=Bool.eq_false_iff.mpr c39
              subst c39
              rw [if_neg (show ¬ (false=true) by decide)] at H;try dsimp only at H
              have H':=aj.mk H
              clear H
              have azC:=rD.out
              have azD:=rE.out
              obtain ⟨_,_⟩:=zC2 gy.out
              obtain ⟨_,_⟩:=zF2 gy.out
              go_wp2_with (first|((with_reducible refine aA (f:=121) rfl ?_);refine aH (some 59) rfl rfl Tryz.func121 (by kernel_rfl) rfl #[.agg #[.int .u64 oG,.int .u64 qC],.int .i64 (wrap64 (tC - 1))] rfl zL ?_;(with_reducible refine (fB.calls oG qC (wrap64 (tC - 1)) ab6 _ A37.out).mono ?_);rintro e w45 ⟨rfl,hb⟩;refine ⟨_,rfl,?_⟩;obtain ⟨gy,iq,HB⟩:=zA3 (ay (zK gy) hb) (ay (zK iq) hb) (ak zB hb);(try clear hb)))
              go_meet
              case rel=>exact ⟨_,(!((decide (a0 < 0)) != (decide (a1 < 0)))),(by first|rfl|(simp;done)|(simp [*];done)|(generalize decide (a0 < 0)=p_;generalize decide (a1 < 0)=q_;cases p_ <;> cases q_ <;> rfl)),H',⟨by have:=HJ3.out;have:=HK2.out;have:=HK3.out;first|omega|exact Nat.le_refl _⟩,⟨zK gy⟩,⟨zK iq⟩,⟨zB⟩⟩
            ·rw [if_neg c38] at H
             have acW:(ab6 == 1)=false:=beq_eq_false_iff_ne.mpr c38
             have amb:(ab6 != 1)=true:=bne_iff_ne.mpr c38
             (first|rw [acW]|(simp only [bW,dh];rw [acW])|skip)
             have H':=aj.mk H
             clear H
             have aqh:=rD.out
             have aqi:=rE.out
             obtain ⟨_,_⟩:=zC2 gy.out
             obtain ⟨_,_⟩:=zF2 gy.out
             go_wp2_with (first|((with_reducible refine aA (f:=121) rfl ?_);refine aH (some 59) rfl rfl Tryz.func121 (by kernel_rfl) rfl #[.agg #[.int .u64 oG,.int .u64 qC],.int .i64 (wrap64 (tC - 1))] rfl zL ?_;(with_reducible refine (fB.calls oG qC (wrap64 (tC - 1)) ab6 _ A37.out).mono ?_);rintro e w48 ⟨rfl,hb⟩;refine ⟨_,rfl,?_⟩;obtain ⟨gy,iq,HB⟩:=zA3 (ay (zK gy) hb) (ay (zK iq) hb) (ak zB hb);(try clear hb)))
             go_meet
             case rel=>exact ⟨_,(false),zT,H',⟨by have:=HJ3.out;have:=HK2.out;have:=HK3.out;first|omega|exact Nat.le_refl _⟩,⟨zK gy⟩,⟨zK iq⟩,⟨zB⟩⟩
           case rest =>
            clear aoF
            obtain ⟨kq,agq,rfl,HA,aAA,gy,iq,HB⟩:=hcut
            cases kq with
            | zero=>exact absurd HA.out (by simp [aU.j3])
            | succ asc =>
             have H:=HA.out
             clear HA
             simp only [aU.j3] at H
             by_cases c49:agq=true
             ·subst c49
              rw [if_pos rfl] at H;try dsimp only at H
              replace H:=zO H
              obtain ⟨⟨ajI,ame⟩,A50,H⟩:=H
              try dsimp only at H
              replace H:=zO H
              obtain ⟨aoC,A51,H⟩:=H
              try dsimp only at H
              obtain rfl:=Option.some.inj H
              have atX:=rE.out
              have atY:=rD.out
              obtain ⟨_,_⟩:=zC2 iq.out
              obtain ⟨_,_⟩:=zF2 iq.out
              go_wp2_with (first|((with_reducible refine aA (f:=124) rfl ?_);refine aH (some 70) rfl rfl Tryz.func124 (by kernel_rfl) rfl #[.agg #[.int .u64 jX,.int .u64 jH],.agg #[.int .u64 0,.int .u64 1]] rfl zL ?_;(with_reducible refine (gG.calls jX jH 0 1 ajI ame _ A50.out).mono ?_);rintro e w54 ⟨rfl,hb⟩;refine ⟨_,rfl,?_⟩;obtain ⟨gy,iq,HB⟩:=zA3 (ay (zK gy) hb) (ay (zK iq) hb) (ak zB hb);(try clear hb);obtain ⟨_,_⟩:=zC2 iq.out;obtain ⟨_,_⟩:=zF2 iq.out)|((with_reducible refine aA (f:=125) rfl ?_);refine aH (some 73) rfl rfl Tryz.func125 (by kernel_rfl) rfl #[.agg #[.int .u64 ajI,.int .u64 ame],.bool ((decide (a0 < 0)) != (decide (a1 < 0)))] rfl zL ?_;(with_reducible refine (bM.calls asc ajI ame ((decide (a0 < 0)) != (decide (a1 < 0))) aoC _ A51.out).mono ?_);rintro e w56 ⟨rfl,hb⟩;refine ⟨_,rfl,?_⟩;obtain ⟨gy,iq,HB⟩:=zA3 (ay (zK gy) hb) (ay (g:=aac) (o := .cells #[.int .u64 ajI,.int .u64 ame] 179 (0,0)) (by refine zD ?_;refine aY (cs := #[.int .u64 ajI,.int .u64 jH]) ?_ 1 _ rfl;refine zD ?_;refine aY (cs := #[.int .u64 jX,.int .u64 jH]) ?_ 0 _ rfl;refine zD ?_;exact iq.out) hb) (ak zB hb);(try clear hb)))
              go_ret
              exact ⟨zS,zB⟩
             ·replace c49:=Bool.eq_false_iff.mpr c49
              subst c49
              rw [if_neg (show ¬ (false=true) by decide)] at H;try dsimp only at H
              replace H:=zO H
              obtain ⟨aoD,A57,H⟩:=H
              try dsimp only at H
              obtain rfl:=Option.some.inj H
              have atE:=rE.out
              have atF:=rD.out
              obtain ⟨_,_⟩:=zC2 iq.out
              obtain ⟨_,_⟩:=zF2 iq.out
              go_wp2_with (first|((with_reducible refine aA (f:=125) rfl ?_);refine aH (some 73) rfl rfl Tryz.func125 (by kernel_rfl) rfl #[.agg #[.int .u64 jX,.int .u64 jH],.bool ((decide (a0 < 0)) != (decide (a1 < 0)))] rfl zL ?_;(with_reducible refine (bM.calls asc jX jH ((decide (a0 < 0)) != (decide (a1 < 0))) aoD _ A57.out).mono ?_);rintro e w60 ⟨rfl,hb⟩;refine ⟨_,rfl,?_⟩;obtain ⟨gy,iq,HB⟩:=zA3 (ay (zK gy) hb) (ay (zK iq) hb) (ak zB hb);(try clear hb)))
              go_ret
              exact ⟨zS,zB⟩
end Go.Proofs.YtpondkggmcmpfaaGreatDoor.QA
namespace Go.Proofs.YtpondkggmcmpfaaGreatDoor.QA
open Go.Proofs.YtpondkggmcmpfaaGreatDoor.T
open Go.RowKit Go.Proofs.YtpondkggmcmpfaaGreatDoorW.PrintWords Go.Proofs.YtpondkggmcmpfaaGreatDoorW.PrintLast Go.Proofs.YtpondkggmcmpfaaGreatDoorW.PrintMore
attribute [local go_sem] eP dV dW fM fO
set_option linter.unusedVariables false
set_option linter.unusedSimpArgs false
mutual
def bV.j0:Nat→Int→Int→Option (Int)
 | 0,_,_=>none
 | k+1,x0,x1=>(aX.f k 10851744800547 x0 x1).bind fun ajJ=>((aX.f k ajJ x0 x1).bind fun ad7=>(bV.l0 k ad7 1099511627776 0 1099511627776 1))
def bV.l0:Nat→Int→Int→Int→Int→Int→Option (Int)
 | 0,_,_,_,_,_=>none
 | k+1,x6,x7,x8,x9,x10=>if x10≤30 then ((aX.f k x9 x6 (wrap64 ((wrap64 ((wrap64 (2*x10))*(wrap64 ((wrap64 (2*x10))+1))))*1099511627776))).bind fun abj=>(if (Int.tmod x10 2)=1 then (bV.l0 k x6 x7 (wrap64 (x8+abj)) abj (wrap64 (x10+1))) else (bV.l0 k x6 (wrap64 (x7+abj)) x8 abj (wrap64 (x10+1))))) else (some (wrap64 (x7 - x8)))
end
def bV.f (k:Nat) (a0 a1:Int):Option (Int):=if a0 < 0 then (bV.j0 k (wrap64 (-a0)) a1) else (bV.j0 k a0 a1)
set_option maxHeartbeats 8000000 in
set_option maxRecDepth 100000 in
theorem bV.calls (k:Nat) (a0 a1 r:Int) (w:World) (h:bV.f k a0 a1=some r) :
  Calls Tryz.prog 186 #[.int .i64 a0,.int .i64 a1] w fun e w'=>e = .returned (.int .i64 r)∧Below w.heap.size w w':=by
 have HB:=aj.mk (Below.refl w.heap.size w)
 have H:=h
 clear h
 unfold bV.f at H
 have HC3:=aj.mk H
 clear H
 go_enter Tryz.func186,Tryz.ntmps186
 go_upto_if 13 with (fail)
 go_cut [0] (fun v0 wc=>∃ (kq:Nat) (afs:Int),v0 = .int .i64 afs∧aj (bV.j0 kq afs a1=some r)∧aj (kq≤k)∧aj (Below w.heap.size w wc))
 case first =>
  have H:=HC3.out
  clear HC3
  by_cases c4:a0 < 0
  ·rw [if_pos c4] at H
   have fQ:=decide_eq_true c4
   clear c4
   (first|rw [fQ]|(simp only [bW,dh];rw [fQ])|skip)
   have H':=aj.mk H
   clear H
   go_wp2
   go_meet
   case rel=>exact ⟨_,(wrap64 (-a0)),zT,H',⟨by first|omega|exact Nat.le_refl _⟩,⟨zB⟩⟩
  ·rw [if_neg c4] at H
   have fQ:=decide_eq_false c4
   clear c4
   (first|rw [fQ]|(simp only [bW,dh];rw [fQ])|skip)
   have H':=aj.mk H
   clear H
   go_wp2
   go_meet
   case rel=>exact ⟨_,(a0),zT,H',⟨by first|omega|exact Nat.le_refl _⟩,⟨zB⟩⟩
 case rest =>
  clear HC3
  obtain ⟨kq,afs,rfl,HA,HJ2,HB⟩:=hcut
  cases kq with
  | zero=>exact absurd HA.out (by simp [bV.j0])
  | succ kj2 =>
   have H:=HA.out
   clear HA
   simp only [bV.j0] at H
   replace H:=zO H
   obtain ⟨ajJ,A5,H⟩:=H
   try dsimp only at H
   replace H:=zO H
   obtain ⟨ad7,A6,H⟩:=H
   try dsimp only at H
   have H':=aj.mk H
   clear H
   go_wp2_with (first|((with_reducible refine aA (f:=118) rfl ?_);refine aH (some 18) rfl rfl Tryz.func118 (by kernel_rfl) rfl #[.int .i64 10851744800547,.int .i64 afs,.int .i64 a1] rfl zL ?_;(with_reducible refine (aX.calls kj2 10851744800547 afs a1 ajJ _ A5.out).mono ?_);rintro e w7 ⟨rfl,hb⟩;refine ⟨_,rfl,?_⟩;replace HB:=aj.mk (ak zB hb);(try clear hb))|((with_reducible refine aA (f:=118) rfl ?_);refine aH (some 22) rfl rfl Tryz.func118 (by kernel_rfl) rfl #[.int .i64 ajJ,.int .i64 afs,.int .i64 a1] rfl zL ?_;(with_reducible refine (aX.calls kj2 ajJ afs a1 ad7 _ A6.out).mono ?_);rintro e w8 ⟨rfl,hb⟩;refine ⟨_,rfl,?_⟩;replace HB:=aj.mk (ak zB hb);(try clear hb)))
   go_loopg [7,8,9,10] kj2 (fun kq v7 v8 v9 v10 w'=>∃ (zA:Int) (kP:Int) (aaL:Int) (iW:Int),v7 = .int .i64 zA∧v8 = .int .i64 kP∧v9 = .int .i64 aaL∧v10 = .int .i64 iW∧aj (bV.l0 kq ad7 zA kP aaL iW=some r)∧aj (kq≤kj2)∧aj (Below w.heap.size w w'))
   case atStart=>exact ⟨(1099511627776),(0),(1099511627776),(1),zT,zT,zT,zT,H',⟨Nat.le_refl _⟩,⟨zB⟩⟩
   case round =>
    clear H'
    obtain ⟨zA,kP,aaL,iW,rfl,rfl,rfl,rfl,HA,HK2,HB⟩:=hrel
    cases gk with
    | zero=>exact absurd HA.out (by simp [bV.l0])
    | succ k2 =>
     have H:=HA.out
     clear HA
     simp only [bV.l0] at H
     by_cases c9:iW≤30
     ·rw [if_pos c9] at H
      have qH:=decide_eq_true c9
      clear c9
      replace H:=zO H
      obtain ⟨abj,A10,H⟩:=H
      try dsimp only at H
      by_cases c11:(Int.tmod iW 2)=1
      ·rw [if_pos c11] at H
       have iL:((Int.tmod iW 2) == 1)=true:=beq_iff_eq.mpr c11
       have yD:((Int.tmod iW 2) != 1)=false:=bne_eq_false_iff_eq.mpr c11
       clear c11
       have H':=aj.mk H
       clear H
       go_wp2_with (first|((with_reducible refine aA (f:=118) rfl ?_);refine aH (some 37) rfl rfl Tryz.func118 (by kernel_rfl) rfl #[.int .i64 aaL,.int .i64 ad7,.int .i64 (wrap64 ((wrap64 ((wrap64 (2*iW))*(wrap64 ((wrap64 (2*iW))+1))))*1099511627776))] rfl zL ?_;(with_reducible refine (aX.calls k2 aaL ad7 (wrap64 ((wrap64 ((wrap64 (2*iW))*(wrap64 ((wrap64 (2*iW))+1))))*1099511627776)) abj _ A10.out).mono ?_);rintro e w12 ⟨rfl,hb⟩;refine ⟨_,rfl,?_⟩;replace HB:=aj.mk (ak zB hb);(try clear hb)))
       go_roundg k2
       case measure=>have:=HJ2.out;have:=HK2.out;omega
       case rel=>exact ⟨(zA),(wrap64 (kP+abj)),(abj),(wrap64 (iW+1)),zT,zT,zT,zT,H',⟨by have:=HJ2.out;have:=HK2.out;omega⟩,⟨zB⟩⟩
      ·rw [if_neg c11] at H
       have iL:((Int.tmod iW 2) == 1)=false:=beq_eq_false_iff_ne.mpr c11
       have yD:((Int.tmod iW 2) != 1)=true:=bne_iff_ne.mpr c11
       have H':=aj.mk H
       clear H
       go_wp2_with (first|((with_reducible refine aA (f:=118) rfl ?_);refine aH (some 37) rfl rfl Tryz.func118 (by kernel_rfl) rfl #[.int .i64 aaL,.int .i64 ad7,.int .i64 (wrap64 ((wrap64 ((wrap64 (2*iW))*(wrap64 ((wrap64 (2*iW))+1))))*1099511627776))] rfl zL ?_;(with_reducible refine (aX.calls k2 aaL ad7 (wrap64 ((wrap64 ((wrap64 (2*iW))*(wrap64 ((wrap64 (2*iW))+1))))*1099511627776)) abj _ A10.out).mono ?_);rintro e w13 ⟨rfl,hb⟩;refine ⟨_,rfl,?_⟩;replace HB:=aj.mk (ak zB hb);(try clear hb)))
       go_roundg k2
       case measure=>have:=HJ2.out;have:=HK2.out;omega
       case rel=>exact ⟨(wrap64 (zA+abj)),(kP),(abj),(wrap64 (iW+1)),zT,zT,zT,zT,H',⟨by have:=HJ2.out;have:=HK2.out;omega⟩,⟨zB⟩⟩
     ·rw [if_neg c9] at H
      have qH:=decide_eq_false c9
      clear c9
      obtain rfl:=Option.some.inj H
      go_wp2
      go_ret
      exact ⟨zS,zB⟩
def dU.j0:Nat→Int→Int→Bool→Option (Int)
 | 0,_,_,_=>none
 | k+1,x0,x1,x21=>if x21=true then (some 0) else ((bV.f k x0 x1).bind fun ajK=>((bV.f k x0 (wrap64 (3*x1))).bind fun ajL=>((aU.f k ajK ajL 40).bind fun ajM=>((aJ.f k ajM 10).bind fun aoG=>(some aoG)))))
def dU.f (k:Nat) (a0 a1:Int):Option (Int):=(kL.f a0 a1).bind fun aoH=>(if aoH=true then (if a0≥(wrap64 (3*a1)) then (dU.j0 k a0 a1 true) else (dU.j0 k a0 a1 (decide (a0≤(wrap64 ((-3)*a1)))))) else (dU.j0 k a0 a1 true))
set_option maxHeartbeats 8000000 in
set_option maxRecDepth 100000 in
theorem dU.calls (k:Nat) (a0 a1 r:Int) (w:World) (h:dU.f k a0 a1=some r) :
  Calls Tryz.prog 171 #[.int .i64 a0,.int .i64 a1] w fun e w'=>e = .returned (.int .i64 r)∧Below w.heap.size w w':=by
 have HB:=aj.mk (Below.refl w.heap.size w)
 have H:=h
 clear h
 unfold dU.f at H
 have HC3:=aj.mk H
 clear H
 go_enter Tryz.func171,Tryz.ntmps171
 go_upto_region 1 with (fail)
 go_cut [21] (fun v21 wc=>∃ (kq:Nat) (aiP:Bool),v21 = .bool aiP∧aj (dU.j0 kq a0 a1 aiP=some r)∧aj (kq≤k)∧aj (Below w.heap.size w wc))
 case first =>
  have H:=HC3.out
  clear HC3
  replace H:=zO H
  obtain ⟨aoH,A4,H⟩:=H
  try dsimp only at H
  by_cases c5:aoH=true
  ·subst c5
   rw [if_pos rfl] at H;try dsimp only at H
   by_cases c6:a0≥(wrap64 (3*a1))
   ·rw [if_pos c6] at H
    have ig:=decide_eq_true c6
    clear c6
    (first|rw [ig]|(simp only [bW,dh];rw [ig])|skip)
    have H':=aj.mk H
    clear H
    go_wp2_with (first|((with_reducible refine aA (f:=184) rfl ?_);refine aH (some 8) rfl rfl Tryz.func184 (by kernel_rfl) rfl #[.int .i64 a0,.int .i64 a1] rfl zL ?_;(with_reducible refine (kL.calls a0 a1 true _ A4.out).mono ?_);rintro e w' ⟨rfl,⟨nd,rfl⟩⟩;refine ⟨_,rfl,?_⟩))
    go_meet
    case rel=>exact ⟨_,(true),zT,H',⟨by first|omega|exact Nat.le_refl _⟩,⟨zB⟩⟩
   ·rw [if_neg c6] at H
    have ig:=decide_eq_false c6
    clear c6
    (first|rw [ig]|(simp only [bW,dh];rw [ig])|skip)
    have H':=aj.mk H
    clear H
    go_wp2_with (first|((with_reducible refine aA (f:=184) rfl ?_);refine aH (some 8) rfl rfl Tryz.func184 (by kernel_rfl) rfl #[.int .i64 a0,.int .i64 a1] rfl zL ?_;(with_reducible refine (kL.calls a0 a1 true _ A4.out).mono ?_);rintro e w' ⟨rfl,⟨nd,rfl⟩⟩;refine ⟨_,rfl,?_⟩))
    go_meet
    case rel=>exact ⟨_,(decide (a0≤(wrap64 ((-3)*a1)))),zT,H',⟨by first|omega|exact Nat.le_refl _⟩,⟨zB⟩⟩
  ·replace c5:=Bool.eq_false_iff.mpr c5
   subst c5
   rw [if_neg (show ¬ (false=true) by decide)] at H;try dsimp only at H
   have H':=aj.mk H
   clear H
   go_wp2_with (first|((with_reducible refine aA (f:=184) rfl ?_);refine aH (some 8) rfl rfl Tryz.func184 (by kernel_rfl) rfl #[.int .i64 a0,.int .i64 a1] rfl zL ?_;(with_reducible refine (kL.calls a0 a1 false _ A4.out).mono ?_);rintro e w' ⟨rfl,⟨nd,rfl⟩⟩;refine ⟨_,rfl,?_⟩))
   go_meet
   case rel=>exact ⟨_,(true),zT,H',⟨by first|omega|exact Nat.le_refl _⟩,⟨zB⟩⟩
 case rest =>
  clear HC3
  obtain ⟨kq,aiP,rfl,HA,HJ2,HB⟩:=hcut
  cases kq with
  | zero=>exact absurd HA.out (by simp [dU.j0])
  | succ kj2 =>
   have H:=HA.out
   clear HA
   simp only [dU.j0] at H
   by_cases c7:aiP=true
   ·subst c7
    rw [if_pos rfl] at H;try dsimp only at H
    obtain rfl:=Option.some.inj H
    go_wp2
    go_ret
    exact ⟨zS,zB⟩
   ·replace c7:=Bool.eq_false_iff.mpr c7
    subst c7
    rw [if_neg (show ¬ (false=true) by decide)] at H;try dsimp only at H
    replace H:=zO H
    obtain ⟨ajK,A8,H⟩:=H
    try dsimp only at H
    replace H:=zO H
    obtain ⟨ajL,A9,H⟩:=H
    try dsimp only at H
    replace H:=zO H
    obtain ⟨ajM,A10,H⟩:=H
    try dsimp only at H
    replace H:=zO H
    obtain ⟨aoG,A11,H⟩:=H
    try dsimp only at H
    obtain rfl:=Option.some.inj H
    go_wp2_with (first|((with_reducible refine aA (f:=186) rfl ?_);refine aH (some 24) rfl rfl Tryz.func186 (by kernel_rfl) rfl #[.int .i64 a0,.int .i64 a1] rfl zL ?_;(with_reducible refine (bV.calls kj2 a0 a1 ajK _ A8.out).mono ?_);rintro e w12 ⟨rfl,hb⟩;refine ⟨_,rfl,?_⟩;replace HB:=aj.mk (ak zB hb);(try clear hb))|((with_reducible refine aA (f:=186) rfl ?_);refine aH (some 28) rfl rfl Tryz.func186 (by kernel_rfl) rfl #[.int .i64 a0,.int .i64 (wrap64 (3*a1))] rfl zL ?_;(with_reducible refine (bV.calls kj2 a0 (wrap64 (3*a1)) ajL _ A9.out).mono ?_);rintro e w13 ⟨rfl,hb⟩;refine ⟨_,rfl,?_⟩;replace HB:=aj.mk (ak zB hb);(try clear hb))|((with_reducible refine aA (f:=185) rfl ?_);refine aH (some 29) rfl rfl Tryz.func185 (by kernel_rfl) rfl #[.int .i64 ajK,.int .i64 ajL,.int .i64 40] rfl zL ?_;(with_reducible refine (aU.calls kj2 ajK ajL 40 ajM _ A10.out).mono ?_);rintro e w14 ⟨rfl,hb⟩;refine ⟨_,rfl,?_⟩;replace HB:=aj.mk (ak zB hb);(try clear hb))|((with_reducible refine aA (f:=101) rfl ?_);refine aH (some 31) rfl rfl Tryz.func101 (by kernel_rfl) rfl #[.int .i64 ajM,.int .i64 10] rfl zL ?_;(with_reducible refine (aJ.calls kj2 ajM 10 aoG _ A11.out).mono ?_);rintro e w15 ⟨rfl,hb⟩;refine ⟨_,rfl,?_⟩;replace HB:=aj.mk (ak zB hb);(try clear hb)))
    go_ret
    exact ⟨zS,zB⟩
end Go.Proofs.YtpondkggmcmpfaaGreatDoor.QA
namespace Go.Proofs.YtpondkggmcmpfaaGreatDoor.QA
open Go.Proofs.YtpondkggmcmpfaaGreatDoor.T
open Go.RowKit Go.Proofs.YtpondkggmcmpfaaGreatDoorW.PrintWords Go.Proofs.YtpondkggmcmpfaaGreatDoorW.PrintLast Go.Proofs.YtpondkggmcmpfaaGreatDoorW.PrintMore
attribute [local go_sem] eP dV dW fM fO
set_option linter.unusedVariables false
set_option linter.unusedSimpArgs false
def kY.f (k:Nat) (a0 a1 a2 a3 a4:Int):Option (Int):=if a0=0 then (if (wrap64 (a4*a2)) > (wrap64 (a3*a1)) then (if (wrap64 ((wrap64 (a4+1))*a2)) < (wrap64 ((wrap64 (a3+1))*a1)) then ((aX.f k (wrap64 ((wrap64 ((wrap64 (a4+1))*a2)) - (wrap64 (a4*a2)))) 1073741824 a1).bind fun aoI=>(some aoI)) else ((aX.f k (wrap64 ((wrap64 ((wrap64 (a3+1))*a1)) - (wrap64 (a4*a2)))) 1073741824 a1).bind fun aoJ=>(some aoJ))) else (if (wrap64 ((wrap64 (a4+1))*a2)) < (wrap64 ((wrap64 (a3+1))*a1)) then ((aX.f k (wrap64 ((wrap64 ((wrap64 (a4+1))*a2)) - (wrap64 (a3*a1)))) 1073741824 a1).bind fun aoK=>(some aoK)) else ((aX.f k (wrap64 ((wrap64 ((wrap64 (a3+1))*a1)) - (wrap64 (a3*a1)))) 1073741824 a1).bind fun aoL=>(some aoL)))) else ((fJ.f a1 a2 a3 a4).bind fun aiQ=>(if a0=1 then ((bI.f k aiQ.1 aiQ.2).bind fun aoM=>(some aoM)) else ((dU.f k aiQ.1 aiQ.2).bind fun aoN=>(some aoN))))
set_option maxHeartbeats 8000000 in
set_option maxRecDepth 100000 in
theorem kY.calls (k:Nat) (a0 a1 a2 a3 a4 r:Int) (w:World) (h:kY.f k a0 a1 a2 a3 a4=some r) :
  Calls Tryz.prog 141 #[.int .i64 a0,.int .i64 a1,.int .i64 a2,.int .i64 a3,.int .i64 a4] w fun e w'=>e = .returned (.int .i64 r)∧Below w.heap.size w w':=by
 have HB:=aj.mk (Below.refl w.heap.size w)
 have H:=h
 clear h
 unfold kY.f at H
 by_cases c6:a0=0
 ·rw [if_pos c6] at H
  have ig:(a0 == 0)=true:=beq_iff_eq.mpr c6
  have uj:(a0 != 0)=false:=bne_eq_false_iff_eq.mpr c6
  clear c6
  by_cases c7:(wrap64 (a4*a2)) > (wrap64 (a3*a1))
  ·rw [if_pos c7] at H
   have jq:=decide_eq_true c7
   clear c7
   by_cases c8:(wrap64 ((wrap64 (a4+1))*a2)) < (wrap64 ((wrap64 (a3+1))*a1))
   ·rw [if_pos c8] at H
    have vN:=decide_eq_true c8
    clear c8
    replace H:=zO H
    obtain ⟨aoI,A9,H⟩:=H
    try dsimp only at H
    obtain rfl:=Option.some.inj H
    go_enter Tryz.func141,Tryz.ntmps141
    go_wp2_with (first|((with_reducible refine aA (f:=118) rfl ?_);refine aH (some 46) rfl rfl Tryz.func118 (by kernel_rfl) rfl #[.int .i64 (wrap64 ((wrap64 ((wrap64 (a4+1))*a2)) - (wrap64 (a4*a2)))),.int .i64 1073741824,.int .i64 a1] rfl zL ?_;(with_reducible refine (aX.calls k (wrap64 ((wrap64 ((wrap64 (a4+1))*a2)) - (wrap64 (a4*a2)))) 1073741824 a1 aoI _ A9.out).mono ?_);rintro e w10 ⟨rfl,hb⟩;refine ⟨_,rfl,?_⟩;replace HB:=aj.mk (ak zB hb);(try clear hb)))
    go_ret
    exact ⟨zS,zB⟩
   ·rw [if_neg c8] at H
    have vN:=decide_eq_false c8
    clear c8
    replace H:=zO H
    obtain ⟨aoJ,A11,H⟩:=H
    try dsimp only at H
    obtain rfl:=Option.some.inj H
    go_enter Tryz.func141,Tryz.ntmps141
    go_wp2_with (first|((with_reducible refine aA (f:=118) rfl ?_);refine aH (some 46) rfl rfl Tryz.func118 (by kernel_rfl) rfl #[.int .i64 (wrap64 ((wrap64 ((wrap64 (a3+1))*a1)) - (wrap64 (a4*a2)))),.int .i64 1073741824,.int .i64 a1] rfl zL ?_;(with_reducible refine (aX.calls k (wrap64 ((wrap64 ((wrap64 (a3+1))*a1)) - (wrap64 (a4*a2)))) 1073741824 a1 aoJ _ A11.out).mono ?_);rintro e w12 ⟨rfl,hb⟩;refine ⟨_,rfl,?_⟩;replace HB:=aj.mk (ak zB hb);(try clear hb)))
    go_ret
    exact ⟨zS,zB⟩
  ·rw [if_neg c7] at H
   have jq:=decide_eq_false c7
   clear c7
   by_cases c13:(wrap64 ((wrap64 (a4+1))*a2)) < (wrap64 ((wrap64 (a3+1))*a1))
   ·rw [if_pos c13] at H
    have abM:=decide_eq_true c13
    clear c13
    replace H:=zO H
    obtain ⟨aoK,A14,H⟩:=H
    try dsimp only at H
    obtain rfl:=Option.some.inj H
    go_enter Tryz.func141,Tryz.ntmps141
    go_wp2_with (first|((with_reducible refine aA (f:=118) rfl ?_);refine aH (some 46) rfl rfl Tryz.func118 (by kernel_rfl) rfl #[.int .i64 (wrap64 ((wrap64 ((wrap64 (a4+1))*a2)) - (wrap64 (a3*a1)))),.int .i64 1073741824,.int .i64 a1] rfl zL ?_;(with_reducible refine (aX.calls k (wrap64 ((wrap64 ((wrap64 (a4+1))*a2)) - (wrap64 (a3*a1)))) 1073741824 a1 aoK _ A14.out).mono ?_);rintro e w15 ⟨rfl,hb⟩;refine ⟨_,rfl,?_⟩;replace HB:=aj.mk (ak zB hb);(try clear hb)))
    go_ret
    exact ⟨zS,zB⟩
   ·rw [if_neg c13] at H
    have abM:=decide_eq_false c13
    clear c13
    replace H:=zO H
    obtain ⟨aoL,A16,H⟩:=H
    try dsimp only at H
    obtain rfl:=Option.some.inj H
    go_enter Tryz.func141,Tryz.ntmps141
    go_wp2_with (first|((with_reducible refine aA (f:=118) rfl ?_);refine aH (some 46) rfl rfl Tryz.func118 (by kernel_rfl) rfl #[.int .i64 (wrap64 ((wrap64 ((wrap64 (a3+1))*a1)) - (wrap64 (a3*a1)))),.int .i64 1073741824,.int .i64 a1] rfl zL ?_;(with_reducible refine (aX.calls k (wrap64 ((wrap64 ((wrap64 (a3+1))*a1)) - (wrap64 (a3*a1)))) 1073741824 a1 aoL _ A16.out).mono ?_);rintro e w17 ⟨rfl,hb⟩;refine ⟨_,rfl,?_⟩;replace HB:=aj.mk (ak zB hb);(try clear hb)))
    go_ret
    exact ⟨zS,zB⟩
 ·rw [if_neg c6] at H
  have ig:(a0 == 0)=false:=beq_eq_false_iff_ne.mpr c6
  have uj:(a0 != 0)=true:=bne_iff_ne.mpr c6
  replace H:=zO H
  obtain ⟨⟨ahj,ahk⟩,A18,H⟩:=H
  try dsimp only at H
  by_cases c19:a0=1
  ·rw [if_pos c19] at H
   have at7:(a0 == 1)=true:=beq_iff_eq.mpr c19
   have aua:(a0 != 1)=false:=bne_eq_false_iff_eq.mpr c19
   clear c19
   replace H:=zO H
   obtain ⟨aoM,A20,H⟩:=H
   try dsimp only at H
   obtain rfl:=Option.some.inj H
   go_enter Tryz.func141,Tryz.ntmps141
   go_wp2_with (first|((with_reducible refine aA (f:=169) rfl ?_);refine aH (some 52) rfl rfl Tryz.func169 (by kernel_rfl) rfl #[.int .i64 a1,.int .i64 a2,.int .i64 a3,.int .i64 a4] rfl zL ?_;(with_reducible refine (fJ.calls a1 a2 a3 a4 ahj ahk _ A18.out).mono ?_);rintro e w' ⟨rfl,⟨nd,rfl⟩⟩;refine ⟨_,rfl,?_⟩)|((with_reducible refine aA (f:=170) rfl ?_);refine aH (some 59) rfl rfl Tryz.func170 (by kernel_rfl) rfl #[.int .i64 ahj,.int .i64 ahk] rfl zL ?_;(with_reducible refine (bI.calls k ahj ahk aoM _ A20.out).mono ?_);rintro e w21 ⟨rfl,hb⟩;refine ⟨_,rfl,?_⟩;replace HB:=aj.mk (ak zB hb);(try clear hb)))
   go_ret
   exact ⟨zS,zB⟩
  ·rw [if_neg c19] at H
   have at7:(a0 == 1)=false:=beq_eq_false_iff_ne.mpr c19
   have aua:(a0 != 1)=true:=bne_iff_ne.mpr c19
   replace H:=zO H
   obtain ⟨aoN,A22,H⟩:=H
   try dsimp only at H
   obtain rfl:=Option.some.inj H
   go_enter Tryz.func141,Tryz.ntmps141
   go_wp2_with (first|((with_reducible refine aA (f:=169) rfl ?_);refine aH (some 52) rfl rfl Tryz.func169 (by kernel_rfl) rfl #[.int .i64 a1,.int .i64 a2,.int .i64 a3,.int .i64 a4] rfl zL ?_;(with_reducible refine (fJ.calls a1 a2 a3 a4 ahj ahk _ A18.out).mono ?_);rintro e w' ⟨rfl,⟨nd,rfl⟩⟩;refine ⟨_,rfl,?_⟩)|((with_reducible refine aA (f:=171) rfl ?_);refine aH (some 62) rfl rfl Tryz.func171 (by kernel_rfl) rfl #[.int .i64 ahj,.int .i64 ahk] rfl zL ?_;(with_reducible refine (dU.calls k ahj ahk aoN _ A22.out).mono ?_);rintro e w23 ⟨rfl,hb⟩;refine ⟨_,rfl,?_⟩;replace HB:=aj.mk (ak zB hb);(try clear hb)))
   go_ret
   exact ⟨zS,zB⟩
end Go.Proofs.YtpondkggmcmpfaaGreatDoor.QA
namespace Go.Proofs.YtpondkggmcmpfaaGreatDoor.QA
open Go.Proofs.YtpondkggmcmpfaaGreatDoor.T
open Go.RowKit Go.Proofs.YtpondkggmcmpfaaGreatDoorW.PrintWords Go.Proofs.YtpondkggmcmpfaaGreatDoorW.PrintLast Go.Proofs.YtpondkggmcmpfaaGreatDoorW.PrintMore
attribute [local go_sem] eP dV dW fM fO
set_option linter.unusedVariables false
set_option linter.unusedSimpArgs false
mutual
def bQ.l0:Nat→Int→Int→Int→Int→Int→Option (Int × List Int)
 | 0,_,_,_,_,_=>none
 | k+1,x0,x1,x2,x3,x10=>(iR.f x0 x1 x2 x3 (wrap64 (x10 - 1))).bind fun aoO=>(if aoO=true then (bQ.l0 k x0 x1 x2 x3 (wrap64 (x10 - 1))) else (bQ.l1 k x0 x1 x2 x3 x10))
def bQ.l1:Nat→Int→Int→Int→Int→Int→Option (Int × List Int)
 | 0,_,_,_,_,_=>none
 | k+1,x0,x1,x2,x3,x10=>(iR.f x0 x1 x2 x3 x10).bind fun aoP=>(if aoP=true then (bQ.l2 k x0 x1 x2 x3 x10 x10 ([]:List Int)) else (bQ.l1 k x0 x1 x2 x3 (wrap64 (x10+1))))
def bQ.l2:Nat→Int→Int→Int→Int→Int→Int→List Int→Option (Int × List Int)
 | 0,_,_,_,_,_,_,_=>none
 | k+1,x0,x1,x2,x3,x10,x11,x12=>(iR.f x0 x1 x2 x3 x10).bind fun aoQ=>(if aoQ=true then ((kY.f k x0 x1 x2 x3 x10).bind fun ahl=>(if x12.length < 17592186044416 then (bQ.l2 k x0 x1 x2 x3 (wrap64 (x10+1)) x11 (x12 ++ [ahl])) else (none))) else (some (x11,x12)))
end
def bQ.f (k:Nat) (a0 a1 a2 a3:Int):Option (Int × List Int):=(kM.f a0 a1 a2 a3).bind fun aoR=>(if aoR=true then (if a2=0 then (none) else (bQ.l0 k a0 a1 a2 a3 (wrap64 (Int.tdiv (wrap64 (a3*a1)) a2)))) else (some (0,([]:List Int))))
set_option maxHeartbeats 8000000 in
set_option maxRecDepth 100000 in
theorem bQ.calls (k:Nat) (a0 a1 a2 a3 r1:Int) (r2:List Int) (w:World) (h:bQ.f k a0 a1 a2 a3=some (r1,r2)) :
  Calls Tryz.prog 114 #[.int .i64 a0,.int .i64 a1,.int .i64 a2,.int .i64 a3] w fun e w'=>∃ v1_:Value,e = .returned (.tuple #[.int .i64 r1,v1_])∧Kd.R (Kd.int .i64) 2 w' w.heap.size (fun _=>True) v1_ r2∧Below w.heap.size w w':=by
 have HB:=aj.mk (Below.refl w.heap.size w)
 have H:=h
 clear h
 unfold bQ.f at H
 replace H:=zO H
 obtain ⟨aoR,A5,H⟩:=H
 try dsimp only at H
 by_cases c6:aoR=true
 ·subst c6
  rw [if_pos rfl] at H;try dsimp only at H
  by_cases c7:a2=0
  ·rw [if_pos c7] at H
   exact absurd H (by simp)
  ·rw [if_neg c7] at H
   have jq:(a2 == 0)=false:=beq_eq_false_iff_ne.mpr c7
   have aa9:(a2 != 0)=true:=bne_iff_ne.mpr c7
   have H':=aj.mk H
   clear H
   go_enter Tryz.func114,Tryz.ntmps114
   go_wp2_with (first|((with_reducible refine aA (f:=139) rfl ?_);refine aH (some 17) rfl rfl Tryz.func139 (by kernel_rfl) rfl #[.int .i64 a0,.int .i64 a1,.int .i64 a2,.int .i64 a3] rfl zL ?_;(with_reducible refine (kM.calls a0 a1 a2 a3 true _ A5.out).mono ?_);rintro e w' ⟨rfl,⟨nd,rfl⟩⟩;refine ⟨_,rfl,?_⟩))
   go_loopg [10] k (fun kq v10 w'=>∃ (vK:Int),v10 = .int .i64 vK∧aj (bQ.l0 kq a0 a1 a2 a3 vK=some (r1,r2))∧aj (kq≤k)∧aj (Below w.heap.size w w'))
   case atStart=>exact ⟨(wrap64 (Int.tdiv (wrap64 (a3*a1)) a2)),zT,H',⟨Nat.le_refl _⟩,⟨zB⟩⟩
   case round =>
    clear H'
    obtain ⟨vK,rfl,HA,HK1,HB⟩:=hrel
    cases gk with
    | zero=>exact absurd HA.out (by simp [bQ.l0])
    | succ k1 =>
     have H:=HA.out
     clear HA
     simp only [bQ.l0] at H
     replace H:=zO H
     obtain ⟨aoO,A8,H⟩:=H
     try dsimp only at H
     by_cases c9:aoO=true
     ·subst c9
      rw [if_pos rfl] at H;try dsimp only at H
      have H':=aj.mk H
      clear H
      go_wp2_with (first|((with_reducible refine aA (f:=140) rfl ?_);refine aH (some 30) rfl rfl Tryz.func140 (by kernel_rfl) rfl #[.int .i64 a0,.int .i64 a1,.int .i64 a2,.int .i64 a3,.int .i64 (wrap64 (vK - 1))] rfl zL ?_;(with_reducible refine (iR.calls a0 a1 a2 a3 (wrap64 (vK - 1)) true _ A8.out).mono ?_);rintro e w' ⟨rfl,⟨nd,rfl⟩⟩;refine ⟨_,rfl,?_⟩))
      go_roundg k1
      case measure=>have:=HK1.out;omega
      case rel=>exact ⟨(wrap64 (vK - 1)),zT,H',⟨by have:=HK1.out;omega⟩,⟨zB⟩⟩
     ·replace c9:=Bool.eq_false_iff.mpr c9
      subst c9
      rw [if_neg (show ¬ (false=true) by decide)] at H;try dsimp only at H
      have H':=aj.mk H
      clear H
      go_wp2_with (first|((with_reducible refine aA (f:=140) rfl ?_);refine aH (some 30) rfl rfl Tryz.func140 (by kernel_rfl) rfl #[.int .i64 a0,.int .i64 a1,.int .i64 a2,.int .i64 a3,.int .i64 (wrap64 (vK - 1))] rfl zL ?_;(with_reducible refine (iR.calls a0 a1 a2 a3 (wrap64 (vK - 1)) false _ A8.out).mono ?_);rintro e w' ⟨rfl,⟨nd,rfl⟩⟩;refine ⟨_,rfl,?_⟩))
      try simp only [Act.put,List.setIfInBounds_toArray,List.set_cons_succ,List.set_cons_zero]
      go_loopg [10] k1 (fun kq v10 w'=>∃ (iW:Int),v10 = .int .i64 iW∧aj (bQ.l1 kq a0 a1 a2 a3 iW=some (r1,r2))∧aj (kq≤k1)∧aj (Below w.heap.size w w'))
      case atStart=>exact ⟨(vK),zT,H',⟨Nat.le_refl _⟩,⟨zB⟩⟩
      case round =>
       clear H'
       obtain ⟨iW,rfl,HA,HK2,HB⟩:=hrel
       cases gk with
       | zero=>exact absurd HA.out (by simp [bQ.l1])
       | succ k2 =>
        have H:=HA.out
        clear HA
        simp only [bQ.l1] at H
        replace H:=zO H
        obtain ⟨aoP,A10,H⟩:=H
        try dsimp only at H
        by_cases c11:aoP=true
        ·subst c11
         rw [if_pos rfl] at H;try dsimp only at H
         have H':=aj.mk H
         clear H
         go_wp2_with (first|((with_reducible refine aA (f:=140) rfl ?_);refine aH (some 38) rfl rfl Tryz.func140 (by kernel_rfl) rfl #[.int .i64 a0,.int .i64 a1,.int .i64 a2,.int .i64 a3,.int .i64 iW] rfl zL ?_;(with_reducible refine (iR.calls a0 a1 a2 a3 iW true _ A10.out).mono ?_);rintro e w' ⟨rfl,⟨nd,rfl⟩⟩;refine ⟨_,rfl,?_⟩))
         try simp only [Act.put,List.setIfInBounds_toArray,List.set_cons_succ,List.set_cons_zero]
         go_loopg [10,12] k2 (fun kq v10 v12 w'=>∃ (mJ:Int) (aeL:List Int),v10 = .int .i64 mJ∧aj (bQ.l2 kq a0 a1 a2 a3 mJ iW aeL=some (r1,r2))∧aj (kq≤k2)∧aj (Kd.R (Kd.int .i64) 2 w' w.heap.size (fun _=>True) v12 aeL)∧aj (Below w.heap.size w w'))
         case atStart=>exact ⟨(iW),(([]:List Int)),zT,H',⟨Nat.le_refl _⟩,⟨by first|exact Kd.jY _ _ _ _ _|exact Kd.oJ _ _ _ _ _|exact Kd.nG _ _ _ _ _|exact Kd.oK _ _ _ _ _|exact Kd.oz _ _ _ _ _⟩,⟨zB⟩⟩
         case round =>
          clear H'
          obtain ⟨mJ,aeL,rfl,HA,HK3,aiR,HB⟩:=hrel
          cases gk with
          | zero=>exact absurd HA.out (by simp [bQ.l2])
          | succ k3 =>
           have H:=HA.out
           clear HA
           simp only [bQ.l2] at H
           replace H:=zO H
           obtain ⟨aoQ,A12,H⟩:=H
           try dsimp only at H
           by_cases c13:aoQ=true
           ·subst c13
            rw [if_pos rfl] at H;try dsimp only at H
            replace H:=zO H
            obtain ⟨ahl,A14,H⟩:=H
            try dsimp only at H
            by_cases c15:aeL.length < 17592186044416
            ·rw [if_pos c15] at H
             have amf:=aj.mk c15
             clear c15
             obtain ⟨ase,agr⟩:∃ y_:List Int,y_=(aeL ++ [ahl]):=⟨_,rfl⟩
             replace H:(bQ.l2 k3 a0 a1 a2 a3 (wrap64 (mJ+1)) iW ase)=some (r1,r2):=by first|(rw [agr];with_reducible exact H)|(have H2_:=(Option.bind_some _ _).symm.trans H;rw [agr];with_reducible exact H2_)|(have H2_:=(Option.bind_some _ _).symm.trans H;with_reducible exact H2_)|with_reducible exact H|(rw [agr];exact H)|exact H
             have aub:=aj.mk agr
             clear agr
             have H':=aj.mk H
             clear H
             go_wp2_with (first|((with_reducible refine aA (f:=140) rfl ?_);refine aH (some 48) rfl rfl Tryz.func140 (by kernel_rfl) rfl #[.int .i64 a0,.int .i64 a1,.int .i64 a2,.int .i64 a3,.int .i64 mJ] rfl zL ?_;(with_reducible refine (iR.calls a0 a1 a2 a3 mJ true _ A12.out).mono ?_);rintro e w' ⟨rfl,⟨nd,rfl⟩⟩;refine ⟨_,rfl,?_⟩)|((with_reducible refine aA (f:=141) rfl ?_);refine aH (some 55) rfl rfl Tryz.func141 (by kernel_rfl) rfl #[.int .i64 a0,.int .i64 a1,.int .i64 a2,.int .i64 a3,.int .i64 mJ] rfl zL ?_;(with_reducible refine (kY.calls k3 a0 a1 a2 a3 mJ ahl _ A14.out).mono ?_);rintro e w16 ⟨rfl,hb⟩;refine ⟨_,rfl,?_⟩;obtain ⟨aiR,HB⟩:=zA2 (Kd.jK (by (with_reducible repeat (first|apply Kd.aK|apply Kd.aQ|apply Kd.aW));exact aiR.out) hb) (ak zB hb);(try clear hb))|((with_reducible refine jD (b := .append) (xs := #[.tmp 49,.tmp 56]) rfl ?_);at_builtin;refine Kd.kT (Kd.int .i64) (w0:=w) w.heap.size rfl (.tmp 49) (.tmp 56) 44 2 (.int .i64 0) 8 rfl Tryz.underlying44 vw rfl (by decide) (by omega) u12 aeL ahl [.int .i64 ahl] (fun _=>True) (fun _=>False) rfl rfl ?aP (fun _ hk=>hk.elim) ?aF ?aO ?aB ?aS ?aL ?_;(case aP=>exact rfl);(case aB=>exact zB);(case aF=>exact (fun _ _=>trivial));(case aO=>exact (by (with_reducible repeat (first|apply Kd.aK|apply Kd.aQ|apply Kd.aW));exact aiR.out));(case aS=>exact (bF zB));(case aL=>have:=amf.out;omega);intro aAB w17 ho hb hg hat;rw [← aub.out] at ho;obtain ⟨HB,auc⟩:=zA2 hb ho;clear ho hb hg hat))
             go_roundg k3
             case measure=>have:=HK1.out;have:=HK2.out;have:=HK3.out;omega
             case rel=>exact ⟨(wrap64 (mJ+1)),(ase),zT,H',⟨by have:=HK1.out;have:=HK2.out;have:=HK3.out;omega⟩,⟨by (with_reducible repeat (first|apply Kd.aK|apply Kd.aQ|apply Kd.aW));exact auc.out⟩,⟨zB⟩⟩
            ·rw [if_neg c15] at H
             exact absurd H (by simp)
           ·replace c13:=Bool.eq_false_iff.mpr c13
            subst c13
            rw [if_neg (show ¬ (false=true) by decide)] at H;try dsimp only at H
            simp only [Option.some.injEq,Prod.mk.injEq] at H
            obtain ⟨rfl,rfl⟩:=H
            go_wp2_with (first|((with_reducible refine aA (f:=140) rfl ?_);refine aH (some 48) rfl rfl Tryz.func140 (by kernel_rfl) rfl #[.int .i64 a0,.int .i64 a1,.int .i64 a2,.int .i64 a3,.int .i64 mJ] rfl zL ?_;(with_reducible refine (iR.calls a0 a1 a2 a3 mJ false _ A12.out).mono ?_);rintro e w' ⟨rfl,⟨nd,rfl⟩⟩;refine ⟨_,rfl,?_⟩))
            go_ret2
            exact ⟨_,zS,by (with_reducible repeat (first|apply Kd.aK|apply Kd.aQ|apply Kd.aW));exact aiR.out,zB⟩
        ·replace c11:=Bool.eq_false_iff.mpr c11
         subst c11
         rw [if_neg (show ¬ (false=true) by decide)] at H;try dsimp only at H
         have H':=aj.mk H
         clear H
         go_wp2_with (first|((with_reducible refine aA (f:=140) rfl ?_);refine aH (some 38) rfl rfl Tryz.func140 (by kernel_rfl) rfl #[.int .i64 a0,.int .i64 a1,.int .i64 a2,.int .i64 a3,.int .i64 iW] rfl zL ?_;(with_reducible refine (iR.calls a0 a1 a2 a3 iW false _ A10.out).mono ?_);rintro e w' ⟨rfl,⟨nd,rfl⟩⟩;refine ⟨_,rfl,?_⟩))
         go_roundg k2
         case measure=>have:=HK1.out;have:=HK2.out;omega
         case rel=>exact ⟨(wrap64 (iW+1)),zT,H',⟨by have:=HK1.out;have:=HK2.out;omega⟩,⟨zB⟩⟩
 ·replace c6:=Bool.eq_false_iff.mpr c6
  subst c6
  rw [if_neg (show ¬ (false=true) by decide)] at H;try dsimp only at H
  simp only [Option.some.injEq,Prod.mk.injEq] at H
  obtain ⟨rfl,rfl⟩:=H
  go_enter Tryz.func114,Tryz.ntmps114
  go_wp2_with (first|((with_reducible refine aA (f:=139) rfl ?_);refine aH (some 17) rfl rfl Tryz.func139 (by kernel_rfl) rfl #[.int .i64 a0,.int .i64 a1,.int .i64 a2,.int .i64 a3] rfl zL ?_;(with_reducible refine (kM.calls a0 a1 a2 a3 false _ A5.out).mono ?_);rintro e w' ⟨rfl,⟨nd,rfl⟩⟩;refine ⟨_,rfl,?_⟩))
  go_ret2
  exact ⟨_,zS,by first|exact Kd.jY _ _ _ _ _|exact Kd.oJ _ _ _ _ _|exact Kd.nG _ _ _ _ _|exact Kd.oK _ _ _ _ _|exact Kd.oz _ _ _ _ _,zB⟩
def iD.f (a0:Int):Option (Int):=if a0≥0 then (some a0) else (if a0 < (-9223372036854775807) then (some 9223372036854775807) else (some (wrap64 (-a0))))
set_option maxHeartbeats 8000000 in
set_option maxRecDepth 100000 in
theorem iD.calls (a0 r:Int) (w:World) (h:iD.f a0=some r) :
  Calls Tryz.prog 142 #[.int .i64 a0] w fun e w'=>e = .returned (.int .i64 r)∧dw w w':=by
 have H:=h
 clear h
 unfold iD.f at H
 by_cases c2:a0≥0
 ·rw [if_pos c2] at H
  have lN:=decide_eq_true c2
  clear c2
  obtain rfl:=Option.some.inj H
  go_enter Tryz.func142,Tryz.ntmps142
  go_wp2
  go_ret
  exact ⟨zT,zW⟩
 ·rw [if_neg c2] at H
  have lN:=decide_eq_false c2
  clear c2
  by_cases c3:a0 < (-9223372036854775807)
  ·rw [if_pos c3] at H
   have fK:=decide_eq_true c3
   clear c3
   obtain rfl:=Option.some.inj H
   go_enter Tryz.func142,Tryz.ntmps142
   go_wp2
   go_ret
   exact ⟨zT,zW⟩
  ·rw [if_neg c3] at H
   have fK:=decide_eq_false c3
   clear c3
   obtain rfl:=Option.some.inj H
   go_enter Tryz.func142,Tryz.ntmps142
   go_wp2
   go_ret
   exact ⟨zT,zW⟩
end Go.Proofs.YtpondkggmcmpfaaGreatDoor.QA
namespace Go.Proofs.YtpondkggmcmpfaaGreatDoor.QA
open Go.Proofs.YtpondkggmcmpfaaGreatDoor.T
open Go.RowKit Go.Proofs.YtpondkggmcmpfaaGreatDoorW.PrintWords Go.Proofs.YtpondkggmcmpfaaGreatDoorW.PrintLast Go.Proofs.YtpondkggmcmpfaaGreatDoorW.PrintMore
attribute [local go_sem] eP dV dW fM fO
set_option linter.unusedVariables false
set_option linter.unusedSimpArgs false
def gI.j0:Nat→Int→Int→Bool→Option (Int)
 | 0,_,_,_=>none
 | k+1,x0,x1,x12=>if x12=true then (some 9223372036854775807) else (if x1 < 0 then (if x0 < (wrap64 ((-9223372036854775808) - x1)) then (some (-9223372036854775808)) else (some (wrap64 (x0+x1)))) else (some (wrap64 (x0+x1))))
def gI.f (k:Nat) (a0 a1:Int):Option (Int):=if a1 > 0 then (gI.j0 k a0 a1 (decide (a0 > (wrap64 (9223372036854775807 - a1))))) else (gI.j0 k a0 a1 false)
set_option maxHeartbeats 8000000 in
set_option maxRecDepth 100000 in
theorem gI.calls (k:Nat) (a0 a1 r:Int) (w:World) (h:gI.f k a0 a1=some r) :
  Calls Tryz.prog 147 #[.int .i64 a0,.int .i64 a1] w fun e w'=>e = .returned (.int .i64 r)∧dw w w':=by
 have H:=h
 clear h
 unfold gI.f at H
 have HC3:=aj.mk H
 clear H
 go_enter Tryz.func147,Tryz.ntmps147
 go_upto_region 1 with (fail)
 go_cut [12] (fun v12 wc=>∃ (kq:Nat) (aiS:Bool),v12 = .bool aiS∧aj (gI.j0 kq a0 a1 aiS=some r)∧aj (kq≤k)∧dw w wc)
 case first =>
  have H:=HC3.out
  clear HC3
  by_cases c4:a1 > 0
  ·rw [if_pos c4] at H
   have fQ:=decide_eq_true c4
   clear c4
   (first|rw [fQ]|(simp only [bW,dh];rw [fQ])|skip)
   have H':=aj.mk H
   clear H
   go_wp2
   go_meet
   case rel=>exact ⟨_,(decide (a0 > (wrap64 (9223372036854775807 - a1)))),zT,H',⟨by first|omega|exact Nat.le_refl _⟩,zW⟩
  ·rw [if_neg c4] at H
   have fQ:=decide_eq_false c4
   clear c4
   (first|rw [fQ]|(simp only [bW,dh];rw [fQ])|skip)
   have H':=aj.mk H
   clear H
   go_wp2
   go_meet
   case rel=>exact ⟨_,(false),zT,H',⟨by first|omega|exact Nat.le_refl _⟩,zW⟩
 case rest =>
  clear HC3
  obtain ⟨kq,aiS,rfl,HA,HJ2,⟨mc2,rfl⟩⟩:=hcut
  cases kq with
  | zero=>exact absurd HA.out (by simp [gI.j0])
  | succ kj2 =>
   have H:=HA.out
   clear HA
   simp only [gI.j0] at H
   by_cases c5:aiS=true
   ·subst c5
    rw [if_pos rfl] at H;try dsimp only at H
    obtain rfl:=Option.some.inj H
    go_wp2
    go_ret
    exact ⟨zT,zW⟩
   ·replace c5:=Bool.eq_false_iff.mpr c5
    subst c5
    rw [if_neg (show ¬ (false=true) by decide)] at H;try dsimp only at H
    by_cases c6:a1 < 0
    ·rw [if_pos c6] at H
     have ig:=decide_eq_true c6
     clear c6
     by_cases c7:a0 < (wrap64 ((-9223372036854775808) - a1))
     ·rw [if_pos c7] at H
      have jq:=decide_eq_true c7
      clear c7
      obtain rfl:=Option.some.inj H
      go_wp2
      go_ret
      exact ⟨zT,zW⟩
     ·rw [if_neg c7] at H
      have jq:=decide_eq_false c7
      clear c7
      obtain rfl:=Option.some.inj H
      go_wp2
      go_ret
      exact ⟨zT,zW⟩
    ·rw [if_neg c6] at H
     have ig:=decide_eq_false c6
     clear c6
     obtain rfl:=Option.some.inj H
     go_wp2
     go_ret
     exact ⟨zT,zW⟩
def eG.l0:Nat→Int→List Int→Int→Int→Option (Int)
 | 0,_,_,_,_=>none
 | k+1,x3,x6,x7,x8=>if x8 < x7 then (if 0≤x8 then (if x8 < (x6.length:Int) then ((gI.f k x3 (rd x6 x8)).bind fun amg=>(eG.l0 k amg x6 x7 (wrap64 (x8+1)))) else (none)) else (none)) else (some x3)
def eG.f (k:Nat) (l0:List Int):Option (Int):=eG.l0 k 0 l0 (l0.length:Int) 0
set_option maxHeartbeats 8000000 in
set_option maxRecDepth 100000 in
theorem eG.calls (k:Nat) (A0:Option Addr) (c0:Nat) (l0:List Int) (r:Int) (w:World) (hr0:Kd.C (Kd.int .i64) w A0 l0.length l0) (hc0:l0.length≤c0) (h:eG.f k l0=some r) :
  Calls Tryz.prog 143 #[.slice A0 l0.length c0] w fun e w'=>e = .returned (.int .i64 r)∧dw w w':=by
 have HR0:=aj.mk hr0
 have HC0:=aj.mk hc0
 clear hr0 hc0
 have H:=h
 clear h
 unfold eG.f at H
 have H':=aj.mk H
 clear H
 go_enter Tryz.func143,Tryz.ntmps143
 go_wp2
 go_loopg [3,8] k (fun kq v3 v8 w'=>∃ (qA:Int) (gW:Int),v3 = .int .i64 qA∧v8 = .int .i64 gW∧aj (eG.l0 kq qA l0 (l0.length:Int) gW=some r)∧aj (kq≤k)∧dw w w')
 case atStart=>exact ⟨(0),(0),zT,zT,H',⟨Nat.le_refl _⟩,zW⟩
 case round =>
  clear H'
  obtain ⟨qA,gW,rfl,rfl,HA,HK1,⟨m1,rfl⟩⟩:=hrel
  cases gk with
  | zero=>exact absurd HA.out (by simp [eG.l0])
  | succ k1 =>
   have H:=HA.out
   clear HA
   simp only [eG.l0] at H
   by_cases c2:gW < (l0.length:Int)
   ·rw [if_pos c2] at H
    have lN:=decide_eq_true c2
    clear c2
    by_cases c3:0≤gW
    ·rw [if_pos c3] at H
     have fK:=decide_eq_true c3
     clear c3
     by_cases c4:gW < (l0.length:Int)
     ·rw [if_pos c4] at H
      have fQ:=decide_eq_true c4
      clear c4
      replace H:=zO H
      obtain ⟨amg,A5,H⟩:=H
      try dsimp only at H
      have H':=aj.mk H
      clear H
      have aoS:0≤(gW:Int):=of_decide_eq_true (by first|(with_reducible assumption)|assumption)
      have aoT:gW < (l0.length:Int):=of_decide_eq_true (by first|(with_reducible assumption)|assumption)
      obtain ⟨azE,avl,axn⟩:=Kd.jC HR0.out gW aoS aoT
      cases avl
      replace aoS:=eq_true aoS
      replace aoT:=eq_true aoT
      go_wp2_with (first|((with_reducible refine aA (f:=147) rfl ?_);refine aH (some 14) rfl rfl Tryz.func147 (by kernel_rfl) rfl #[.int .i64 qA,.int .i64 (rd l0 gW)] rfl zL ?_;(with_reducible refine (gI.calls k1 qA (rd l0 gW) amg _ A5.out).mono ?_);rintro e w' ⟨rfl,⟨nd,rfl⟩⟩;refine ⟨_,rfl,?_⟩))
      go_roundg k1
      case measure=>have:=HK1.out;omega
      case rel=>exact ⟨(amg),(wrap64 (gW+1)),zT,zT,H',⟨by have:=HK1.out;omega⟩,zW⟩
     ·rw [if_neg c4] at H
      exact absurd H (by simp)
    ·rw [if_neg c3] at H
     exact absurd H (by simp)
   ·rw [if_neg c2] at H
    have lN:=decide_eq_false c2
    clear c2
    obtain rfl:=Option.some.inj H
    go_wp2
    go_ret
    exact ⟨zT,zW⟩
end Go.Proofs.YtpondkggmcmpfaaGreatDoor.QA
namespace Go.Proofs.YtpondkggmcmpfaaGreatDoor.QA
open Go.Proofs.YtpondkggmcmpfaaGreatDoor.T
open Go.RowKit Go.Proofs.YtpondkggmcmpfaaGreatDoorW.PrintWords Go.Proofs.YtpondkggmcmpfaaGreatDoorW.PrintLast Go.Proofs.YtpondkggmcmpfaaGreatDoorW.PrintMore
attribute [local go_sem] eP dV dW fM fO
set_option linter.unusedVariables false
set_option linter.unusedSimpArgs false
def dR.j0:Nat→Bool→Bool→Int→Int→Option (Int)
 | 0,_,_,_,_=>none
 | k+1,x7,x28,ald,ale=>if x28=true then ((gG.f ald ale 0 1).bind fun aqw=>((bM.f k aqw.1 aqw.2 x7).bind fun ajN=>(some ajN))) else ((bM.f k ald ale x7).bind fun ajO=>(some ajO))
def dR.f (k:Nat) (a0 a1:Int):Option (Int):=if a1=0 then (some 0) else ((dL.f a0).bind fun ad8=>((dL.f a1).bind fun ad9=>((eX.f k 0 ad8 ad9).bind fun ags=>(if ((decide (a0 < 0)) != (decide (a1 < 0)))=true then (dR.j0 k ((decide (a0 < 0)) != (decide (a1 < 0))) (decide (ags.2.2 > 0)) ags.1 ags.2.1) else (dR.j0 k ((decide (a0 < 0)) != (decide (a1 < 0))) false ags.1 ags.2.1)))))
set_option maxHeartbeats 8000000 in
set_option maxRecDepth 100000 in
theorem dR.calls (k:Nat) (a0 a1 r:Int) (w:World) (h:dR.f k a0 a1=some r) :
  Calls Tryz.prog 144 #[.int .i64 a0,.int .i64 a1] w fun e w'=>e = .returned (.int .i64 r)∧Below w.heap.size w w':=by
 have xq:=Tryz.underlying179
 have HB:=aj.mk (Below.refl w.heap.size w)
 have H:=h
 clear h
 unfold dR.f at H
 by_cases c3:a1=0
 ·rw [if_pos c3] at H
  have fK:(a1 == 0)=true:=beq_iff_eq.mpr c3
  have wJ:(a1 != 0)=false:=bne_eq_false_iff_eq.mpr c3
  clear c3
  obtain rfl:=Option.some.inj H
  go_enter Tryz.func144,Tryz.ntmps144
  go_wp2
  go_ret
  exact ⟨zS,zB⟩
 ·rw [if_neg c3] at H
  have fK:(a1 == 0)=false:=beq_eq_false_iff_ne.mpr c3
  have wJ:(a1 != 0)=true:=bne_iff_ne.mpr c3
  replace H:=zO H
  obtain ⟨ad8,A4,H⟩:=H
  try dsimp only at H
  replace H:=zO H
  obtain ⟨ad9,A5,H⟩:=H
  try dsimp only at H
  replace H:=zO H
  obtain ⟨⟨uX,uY,aoU⟩,A6,H⟩:=H
  try dsimp only at H
  rcases Bool.eq_false_or_eq_true ((decide (a0 < 0)) != (decide (a1 < 0))) with hsv|hsv
  ·have rF:((decide (a0 < 0)) != (decide (a1 < 0)))=true:=hsv
   have amh:((decide (a0 < 0)) == (decide (a1 < 0)))=false:=by simpa using hsv
   have HC7:=aj.mk H
   clear H
   go_enter Tryz.func144,Tryz.ntmps144
   go_upto_region 5 with (first|((with_reducible refine aA (f:=120) rfl ?_);refine aH (some 12) rfl rfl Tryz.func120 (by kernel_rfl) rfl #[.int .i64 a0] rfl zL ?_;(with_reducible refine (dL.calls a0 ad8 _ A4.out).mono ?_);rintro e w' ⟨rfl,⟨nd,rfl⟩⟩;refine ⟨_,rfl,?_⟩)|((with_reducible refine aA (f:=120) rfl ?_);refine aH (some 15) rfl rfl Tryz.func120 (by kernel_rfl) rfl #[.int .i64 a1] rfl zL ?_;(with_reducible refine (dL.calls a1 ad9 _ A5.out).mono ?_);rintro e w' ⟨rfl,⟨nd,rfl⟩⟩;refine ⟨_,rfl,?_⟩)|((with_reducible refine aA (f:=172) rfl ?_);refine aH (some 16) rfl rfl Tryz.func172 (by kernel_rfl) rfl #[.agg #[.int .u64 0,.int .u64 ad8],.int .u64 ad9] rfl zL ?_;(with_reducible refine (eX.calls k 0 ad8 ad9 uX uY aoU _ A6.out).mono ?_);rintro e w8 ⟨rfl,hb⟩;refine ⟨_,rfl,?_⟩;replace HB:=aj.mk (ak zB hb);(try clear hb))|((with_reducible refine bK (N:=5) rfl ?_);refine bT zR (N:=5) zR (cs := #[.int .u64 0,.int .u64 0]) (t:=179) zG ?_;intro agt hg w9 hbox hb;obtain ⟨HB,jR,aud,aue⟩:=zA4 (ak zB hb) hbox (zg hg zB) (zg hg zB);clear hb hbox hg;obtain ⟨_,_⟩:=zC2 jR.out;obtain ⟨_,_⟩:=zF2 jR.out))
   (try simp only [Act.put,List.setIfInBounds_toArray,List.set_cons_zero,List.set_cons_succ])
   go_cut [28] (fun v28 wc=>∃ (kq:Nat) (aaW:Bool),v28 = .bool aaW∧aj (dR.j0 kq ((decide (a0 < 0)) != (decide (a1 < 0))) aaW uX uY=some r)∧aj (kq≤k)∧aj (wc.heap[agt]? = some (.cells #[.int .u64 uX,.int .u64 uY] 179 (0,0)))∧aj (Below w.heap.size w wc))
   case first =>
    have H:=HC7.out
    clear HC7
    by_cases c11:((decide (a0 < 0)) != (decide (a1 < 0)))=true
    ·rw [if_pos c11] at H
     have iL:((decide (a0 < 0)) != (decide (a1 < 0)))=true:=c11
     (try (have yD:decide ((decide (a0 < 0))=(decide (a1 < 0)))=false:=by simpa using c11))
     (try (have ami:((decide (a0 < 0)) == (decide (a1 < 0)))=false:=by simpa using c11))
     (try (have auf:¬ ((decide (a0 < 0))=(decide (a1 < 0))):=by simpa using c11))
     clear c11
     (first|rw [iL]|(simp only [bW,dh];rw [iL])|skip)
     have H':=aj.mk H
     clear H
     go_wp2
     go_meet
     case rel=>exact ⟨_,(decide (aoU > 0)),zT,H',⟨by first|omega|exact Nat.le_refl _⟩,⟨by refine zD ?_;refine aY (cs := #[.int .u64 uX,.int .u64 0]) ?_ 1 _ rfl;refine zD ?_;refine aY (cs := #[.int .u64 0,.int .u64 0]) ?_ 0 _ rfl;refine zD ?_;exact jR.out⟩,⟨zB⟩⟩
    ·rw [if_neg c11] at H
     have iL:((decide (a0 < 0)) != (decide (a1 < 0)))=false:=by simpa using c11
     exact absurd (rF.symm.trans iL) (by decide)
   case rest =>
    clear HC7
    obtain ⟨kq,aaW,rfl,HA,HJ6,jR,HB⟩:=hcut
    cases kq with
    | zero=>exact absurd HA.out (by simp [dR.j0])
    | succ kj6 =>
     have H:=HA.out
     clear HA
     simp only [dR.j0] at H
     by_cases c12:aaW=true
     ·subst c12
      rw [if_pos rfl] at H;try dsimp only at H
      replace H:=zO H
      obtain ⟨⟨abk,acY⟩,A13,H⟩:=H
      try dsimp only at H
      replace H:=zO H
      obtain ⟨ajN,A14,H⟩:=H
      try dsimp only at H
      obtain rfl:=Option.some.inj H
      obtain ⟨_,_⟩:=zC2 jR.out
      obtain ⟨_,_⟩:=zF2 jR.out
      go_wp2_with (first|((with_reducible refine aA (f:=124) rfl ?_);refine aH (some 31) rfl rfl Tryz.func124 (by kernel_rfl) rfl #[.agg #[.int .u64 uX,.int .u64 uY],.agg #[.int .u64 0,.int .u64 1]] rfl zL ?_;(with_reducible refine (gG.calls uX uY 0 1 abk acY _ A13.out).mono ?_);rintro e w16 ⟨rfl,hb⟩;refine ⟨_,rfl,?_⟩;obtain ⟨jR,HB⟩:=zA2 (ay (zK jR) hb) (ak zB hb);(try clear hb);obtain ⟨_,_⟩:=zC2 jR.out;obtain ⟨_,_⟩:=zF2 jR.out)|((with_reducible refine aA (f:=125) rfl ?_);refine aH (some 34) rfl rfl Tryz.func125 (by kernel_rfl) rfl #[.agg #[.int .u64 abk,.int .u64 acY],.bool true] rfl zL ?_;(with_reducible refine (bM.calls kj6 abk acY true ajN _ (by have h:=A14.out;rw [rF] at h;exact h)).mono ?_);rintro e w18 ⟨rfl,hb⟩;refine ⟨_,rfl,?_⟩;obtain ⟨jR,HB⟩:=zA2 (ay (g:=agt) (o := .cells #[.int .u64 abk,.int .u64 acY] 179 (0,0)) (by refine zD ?_;refine aY (cs := #[.int .u64 abk,.int .u64 uY]) ?_ 1 _ rfl;refine zD ?_;refine aY (cs := #[.int .u64 uX,.int .u64 uY]) ?_ 0 _ rfl;refine zD ?_;exact jR.out) hb) (ak zB hb);(try clear hb)))
      go_ret
      exact ⟨zS,zB⟩
     ·replace c12:=Bool.eq_false_iff.mpr c12
      subst c12
      rw [if_neg (show ¬ (false=true) by decide)] at H;try dsimp only at H
      replace H:=zO H
      obtain ⟨ajO,A19,H⟩:=H
      try dsimp only at H
      obtain rfl:=Option.some.inj H
      obtain ⟨_,_⟩:=zC2 jR.out
      obtain ⟨_,_⟩:=zF2 jR.out
      go_wp2_with (first|((with_reducible refine aA (f:=125) rfl ?_);refine aH (some 34) rfl rfl Tryz.func125 (by kernel_rfl) rfl #[.agg #[.int .u64 uX,.int .u64 uY],.bool true] rfl zL ?_;(with_reducible refine (bM.calls kj6 uX uY true ajO _ (by have h:=A19.out;rw [rF] at h;exact h)).mono ?_);rintro e w21 ⟨rfl,hb⟩;refine ⟨_,rfl,?_⟩;obtain ⟨jR,HB⟩:=zA2 (ay (zK jR) hb) (ak zB hb);(try clear hb)))
      go_ret
      exact ⟨zS,zB⟩
  ·have rF:((decide (a0 < 0)) != (decide (a1 < 0)))=false:=hsv
   have amh:((decide (a0 < 0)) == (decide (a1 < 0)))=true:=by simpa using hsv
   have HC7:=aj.mk H
   clear H
   go_enter Tryz.func144,Tryz.ntmps144
   go_upto_region 5 with (first|((with_reducible refine aA (f:=120) rfl ?_);refine aH (some 12) rfl rfl Tryz.func120 (by kernel_rfl) rfl #[.int .i64 a0] rfl zL ?_;(with_reducible refine (dL.calls a0 ad8 _ A4.out).mono ?_);rintro e w' ⟨rfl,⟨nd,rfl⟩⟩;refine ⟨_,rfl,?_⟩)|((with_reducible refine aA (f:=120) rfl ?_);refine aH (some 15) rfl rfl Tryz.func120 (by kernel_rfl) rfl #[.int .i64 a1] rfl zL ?_;(with_reducible refine (dL.calls a1 ad9 _ A5.out).mono ?_);rintro e w' ⟨rfl,⟨nd,rfl⟩⟩;refine ⟨_,rfl,?_⟩)|((with_reducible refine aA (f:=172) rfl ?_);refine aH (some 16) rfl rfl Tryz.func172 (by kernel_rfl) rfl #[.agg #[.int .u64 0,.int .u64 ad8],.int .u64 ad9] rfl zL ?_;(with_reducible refine (eX.calls k 0 ad8 ad9 uX uY aoU _ A6.out).mono ?_);rintro e w8 ⟨rfl,hb⟩;refine ⟨_,rfl,?_⟩;replace HB:=aj.mk (ak zB hb);(try clear hb))|((with_reducible refine bK (N:=5) rfl ?_);refine bT zR (N:=5) zR (cs := #[.int .u64 0,.int .u64 0]) (t:=179) zG ?_;intro agt hg w9 hbox hb;obtain ⟨HB,jR,aud,aue⟩:=zA4 (ak zB hb) hbox (zg hg zB) (zg hg zB);clear hb hbox hg;obtain ⟨_,_⟩:=zC2 jR.out;obtain ⟨_,_⟩:=zF2 jR.out))
   (try simp only [Act.put,List.setIfInBounds_toArray,List.set_cons_zero,List.set_cons_succ])
   go_cut [28] (fun v28 wc=>∃ (kq:Nat) (aaW:Bool),v28 = .bool aaW∧aj (dR.j0 kq ((decide (a0 < 0)) != (decide (a1 < 0))) aaW uX uY=some r)∧aj (kq≤k)∧aj (wc.heap[agt]? = some (.cells #[.int .u64 uX,.int .u64 uY] 179 (0,0)))∧aj (Below w.heap.size w wc))
   case first =>
    have H:=HC7.out
    clear HC7
    by_cases c11:((decide (a0 < 0)) != (decide (a1 < 0)))=true
    ·rw [if_pos c11] at H
     have iL:((decide (a0 < 0)) != (decide (a1 < 0)))=true:=c11
     exact absurd (rF.symm.trans iL) (by decide)
    ·rw [if_neg c11] at H
     have iL:((decide (a0 < 0)) != (decide (a1 < 0)))=false:=by simpa using c11
     (try (have yD:decide ((decide (a0 < 0))=(decide (a1 < 0)))=true:=by simpa using c11))
     (try (have ami:((decide (a0 < 0)) == (decide (a1 < 0)))=true:=by simpa using c11))
     clear c11
     (first|rw [iL]|(simp only [bW,dh];rw [iL])|skip)
     have H':=aj.mk H
     clear H
     go_wp2
     go_meet
     case rel=>exact ⟨_,(false),zT,H',⟨by first|omega|exact Nat.le_refl _⟩,⟨by refine zD ?_;refine aY (cs := #[.int .u64 uX,.int .u64 0]) ?_ 1 _ rfl;refine zD ?_;refine aY (cs := #[.int .u64 0,.int .u64 0]) ?_ 0 _ rfl;refine zD ?_;exact jR.out⟩,⟨zB⟩⟩
   case rest =>
    clear HC7
    obtain ⟨kq,aaW,rfl,HA,HJ6,jR,HB⟩:=hcut
    cases kq with
    | zero=>exact absurd HA.out (by simp [dR.j0])
    | succ kj6 =>
     have H:=HA.out
     clear HA
     simp only [dR.j0] at H
     by_cases c12:aaW=true
     ·subst c12
      rw [if_pos rfl] at H;try dsimp only at H
      replace H:=zO H
      obtain ⟨⟨abk,acY⟩,A13,H⟩:=H
      try dsimp only at H
      replace H:=zO H
      obtain ⟨ajN,A14,H⟩:=H
      try dsimp only at H
      obtain rfl:=Option.some.inj H
      obtain ⟨_,_⟩:=zC2 jR.out
      obtain ⟨_,_⟩:=zF2 jR.out
      go_wp2_with (first|((with_reducible refine aA (f:=124) rfl ?_);refine aH (some 31) rfl rfl Tryz.func124 (by kernel_rfl) rfl #[.agg #[.int .u64 uX,.int .u64 uY],.agg #[.int .u64 0,.int .u64 1]] rfl zL ?_;(with_reducible refine (gG.calls uX uY 0 1 abk acY _ A13.out).mono ?_);rintro e w16 ⟨rfl,hb⟩;refine ⟨_,rfl,?_⟩;obtain ⟨jR,HB⟩:=zA2 (ay (zK jR) hb) (ak zB hb);(try clear hb);obtain ⟨_,_⟩:=zC2 jR.out;obtain ⟨_,_⟩:=zF2 jR.out)|((with_reducible refine aA (f:=125) rfl ?_);refine aH (some 34) rfl rfl Tryz.func125 (by kernel_rfl) rfl #[.agg #[.int .u64 abk,.int .u64 acY],.bool false] rfl zL ?_;(with_reducible refine (bM.calls kj6 abk acY false ajN _ (by have h:=A14.out;rw [rF] at h;exact h)).mono ?_);rintro e w18 ⟨rfl,hb⟩;refine ⟨_,rfl,?_⟩;obtain ⟨jR,HB⟩:=zA2 (ay (g:=agt) (o := .cells #[.int .u64 abk,.int .u64 acY] 179 (0,0)) (by refine zD ?_;refine aY (cs := #[.int .u64 abk,.int .u64 uY]) ?_ 1 _ rfl;refine zD ?_;refine aY (cs := #[.int .u64 uX,.int .u64 uY]) ?_ 0 _ rfl;refine zD ?_;exact jR.out) hb) (ak zB hb);(try clear hb)))
      go_ret
      exact ⟨zS,zB⟩
     ·replace c12:=Bool.eq_false_iff.mpr c12
      subst c12
      rw [if_neg (show ¬ (false=true) by decide)] at H;try dsimp only at H
      replace H:=zO H
      obtain ⟨ajO,A19,H⟩:=H
      try dsimp only at H
      obtain rfl:=Option.some.inj H
      obtain ⟨_,_⟩:=zC2 jR.out
      obtain ⟨_,_⟩:=zF2 jR.out
      go_wp2_with (first|((with_reducible refine aA (f:=125) rfl ?_);refine aH (some 34) rfl rfl Tryz.func125 (by kernel_rfl) rfl #[.agg #[.int .u64 uX,.int .u64 uY],.bool false] rfl zL ?_;(with_reducible refine (bM.calls kj6 uX uY false ajO _ (by have h:=A19.out;rw [rF] at h;exact h)).mono ?_);rintro e w21 ⟨rfl,hb⟩;refine ⟨_,rfl,?_⟩;obtain ⟨jR,HB⟩:=zA2 (ay (zK jR) hb) (ak zB hb);(try clear hb)))
      go_ret
      exact ⟨zS,zB⟩
end Go.Proofs.YtpondkggmcmpfaaGreatDoor.QA
