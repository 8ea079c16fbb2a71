/- Joined by wip/tools/bundle.py out of: QAx30 QAx31 QAx32 QAx33 QAx34 QAx35. -/
import Derived.Test.YtpondkggmcmpfaaGreatDoorBPlanReaches0
import Derived.Test.YtpondkggmcmpfaaGreatDoorBPlanReaches1
import Derived.Test.YtpondkggmcmpfaaGreatDoorBPlanReaches7
import Derived.Test.YtpondkggmcmpfaaGreatDoorBPlanReaches12
namespace Go.Proofs.YtpondkggmcmpfaaGreatDoor.QA
open Go.Proofs.YtpondkggmcmpfaaGreatDoor.T
open Go.RowKit Go.Proofs.YtpondkggmcmpfaaGreatDoorW.PrintWords Go.Proofs.YtpondkggmcmpfaaGreatDoorW.PrintLast Go.Proofs.YtpondkggmcmpfaaGreatDoorW.PrintMore
attribute [local go_sem] dV dQ dR eP eX
set_option linter.unusedVariables false
set_option linter.unusedSimpArgs false
mutual
def aU.j0:Nat→Int→Int→Int→Option (Int)
 | 0,_,_,_=>none
 | k+1,x0,x1,x2=>if x2 > 127 then (some 0) else ((dL.f x0).bind fun ad8=>((dL.f x1).bind fun ad9=>((dO.f k ad8 ad9).bind fun aiT=>(if x2=0 then ((bP.f k aiT.1 aiT.2 ((decide (x0 < 0)) != (decide (x1 < 0)))).bind fun aoH=>(some aoH)) else (aU.l0 k x2 ((decide (x0 < 0)) != (decide (x1 < 0))) 127 aiT.1 aiT.2 0 0)))))
def aU.l0:Nat→Int→Bool→Int→Int→Int→Int→Int→Option (Int)
 | 0,_,_,_,_,_,_,_=>none
 | k+1,x2,x7,x10,yh,yj,tu,tC=>if x10≥x2 then ((fD.f yh yj x10).bind fun ajM=>((dI.f tu tC ajM).bind fun aqy=>(aU.l0 k x2 x7 (wrap64 (x10 - 1)) yh yj aqy.1 aqy.2))) else (aU.l1 k x2 x7 false (wrap64 (x2 - 1)) 0 yh yj tu tC)
def aU.l1:Nat→Int→Bool→Bool→Int→Int→Int→Int→Int→Int→Option (Int)
 | 0,_,_,_,_,_,_,_,_,_=>none
 | k+1,x2,x7,x11,x44,x45,yh,yj,tu,tC=>if x45 < x44 then (if x11=true then (aU.l1 k x2 x7 true x44 (wrap64 (x45+1)) yh yj tu tC) else ((fD.f yh yj x45).bind fun amk=>(aU.l1 k x2 x7 (amk == 1) x44 (wrap64 (x45+1)) yh yj tu tC))) else ((fD.f yh yj (wrap64 (x2 - 1))).bind fun ab8=>(if ab8=1 then (if x11=true then (aU.j3 k x7 true tu tC) else (aU.j3 k x7 (!x7) tu tC)) else (aU.j3 k x7 false tu tC)))
def aU.j3:Nat→Bool→Bool→Int→Int→Option (Int)
 | 0,_,_,_,_=>none
 | k+1,x7,x67,tu,tC=>if x67=true then ((gI.f tu tC 0 1).bind fun aqz=>((bP.f k aqz.1 aqz.2 x7).bind fun aoI=>(some aoI))) else ((bP.f k tu tC x7).bind fun aoJ=>(some aoJ))
end
def aU.f (k:Nat) (a0 a1 a2:Int):Option (Int):=if a2 < 0 then (aU.j0 k a0 a1 0) else (aU.j0 k a0 a1 a2)
set_option maxHeartbeats 8000000 in
set_option maxRecDepth 100000 in
theorem aU.calls (k:Nat) (a0 a1 a2 r:Int) (w:World) (h:aU.f k a0 a1 a2=some r) :
  Calls Tryz.prog 185 #[.int .i64 a0,.int .i64 a1,.int .i64 a2] w fun e w'=>e = .returned (.int .i64 r)∧Below w.heap.size w w':=by
 have xB:=Tryz.underlying179
 have HB:=aj.mk (Below.refl w.heap.size w)
 have H:=h
 clear h
 unfold aU.f at H
 have HC4:=aj.mk H
 clear H
 go_enter Tryz.func185,Tryz.ntmps185
 go_upto_if 14 with (fail)
 go_cut [2] (fun v2 wc=>∃ (kq:Nat) (tH:Int),v2 = .int .i64 tH∧aj (aU.j0 kq a0 a1 tH=some r)∧aj (kq≤k)∧aj (Below w.heap.size w wc))
 case first =>
  have H:=HC4.out
  clear HC4
  by_cases c5:a2 < 0
  ·rw [if_pos c5] at H
   have iL:=decide_eq_true c5
   clear c5
   (first|rw [iL]|(simp only [bZ,dA];rw [iL])|skip)
   have H':=aj.mk H
   clear H
   go_wp2
   go_meet
   case rel=>exact ⟨_,(0),zT,H',⟨by first|omega|exact Nat.le_refl _⟩,⟨zB⟩⟩
  ·rw [if_neg c5] at H
   have iL:=decide_eq_false c5
   clear c5
   (first|rw [iL]|(simp only [bZ,dA];rw [iL])|skip)
   have H':=aj.mk H
   clear H
   go_wp2
   go_meet
   case rel=>exact ⟨_,(a2),zT,H',⟨by first|omega|exact Nat.le_refl _⟩,⟨zB⟩⟩
 case rest =>
  clear HC4
  obtain ⟨kq,tH,rfl,HA,HJ3,HB⟩:=hcut
  cases kq with
  | zero=>exact absurd HA.out (by simp [aU.j0])
  | succ kj3 =>
   have H:=HA.out
   clear HA
   simp only [aU.j0] at H
   by_cases c6:tH > 127
   ·rw [if_pos c6] at H
    have iw:=decide_eq_true c6
    clear c6
    obtain rfl:=Option.some.inj H
    go_wp2
    go_ret
    exact ⟨zS,zB⟩
   ·rw [if_neg c6] at H
    have iw:=decide_eq_false c6
    clear c6
    replace H:=zO H
    obtain ⟨ad8,A7,H⟩:=H
    try dsimp only at H
    replace H:=zO H
    obtain ⟨ad9,A8,H⟩:=H
    try dsimp only at H
    replace H:=zO H
    obtain ⟨⟨oD,qF⟩,A9,H⟩:=H
    try dsimp only at H
    by_cases c10:tH=0
    ·rw [if_pos c10] at H
     have pR:(tH == 0)=true:=beq_iff_eq.mpr c10
     have aqA:(tH != 0)=false:=bne_eq_false_iff_eq.mpr c10
     clear c10
     replace H:=zO H
     obtain ⟨aoH,A11,H⟩:=H
     try dsimp only at H
     obtain rfl:=Option.some.inj H
     go_wp2_with (first|((with_reducible refine aA (f:=120) rfl ?_);refine aH (some 23) rfl rfl Tryz.func120 (by kernel_rfl) rfl #[.int .i64 a0] rfl zL ?_;(with_reducible refine (dL.calls a0 ad8 _ A7.out).mono ?_);rintro e w' ⟨rfl,⟨nd,rfl⟩⟩;refine ⟨_,rfl,?_⟩;(try (rw [nM wc];generalize hq_:World.drewN wc _=wc;have n0_:aj (Below w.heap.size w wc):=⟨by rw [← hq_];exact zB⟩;clear HB hq_;have HB:=n0_;clear n0_)))|((with_reducible refine aA (f:=120) rfl ?_);refine aH (some 25) rfl rfl Tryz.func120 (by kernel_rfl) rfl #[.int .i64 a1] rfl zL ?_;(with_reducible refine (dL.calls a1 ad9 _ A8.out).mono ?_);rintro e w' ⟨rfl,⟨nd,rfl⟩⟩;refine ⟨_,rfl,?_⟩;(try (rw [nM wc];generalize hq_:World.drewN wc _=wc;have n0_:aj (Below w.heap.size w wc):=⟨by rw [← hq_];exact zB⟩;clear HB hq_;have HB:=n0_;clear n0_)))|((with_reducible refine aA (f:=148) rfl ?_);refine aH (some 26) rfl rfl Tryz.func148 (by kernel_rfl) rfl #[.int .u64 ad8,.int .u64 ad9] rfl zL ?_;(with_reducible refine (dO.calls kj3 ad8 ad9 oD qF _ A9.out).mono ?_);rintro e w12 ⟨rfl,hb⟩;refine ⟨_,rfl,?_⟩;replace HB:=aj.mk (ak zB hb);(try clear hb))|((with_reducible refine bM (N:=8) rfl ?_);refine bU zR (N:=8) zR (cs := #[.int .u64 0,.int .u64 0]) (t:=179) zG ?_;intro xC hg w13 hbox hb;obtain ⟨HB,gB,auf,aug⟩:=zA4 (ak zB hb) hbox (zg hg zB) (zg hg zB);clear hb hbox hg;obtain ⟨_,_⟩:=zC2 gB.out;obtain ⟨_,_⟩:=zF2 gB.out)|((with_reducible refine aA (f:=125) rfl ?_);refine aH (some 31) rfl rfl Tryz.func125 (by kernel_rfl) rfl #[.agg #[.int .u64 oD,.int .u64 qF],.bool ((decide (a0 < 0)) != (decide (a1 < 0)))] rfl zL ?_;(with_reducible refine (bP.calls kj3 oD qF ((decide (a0 < 0)) != (decide (a1 < 0))) aoH _ A11.out).mono ?_);rintro e w15 ⟨rfl,hb⟩;refine ⟨_,rfl,?_⟩;obtain ⟨gB,HB⟩:=zA2 (ay (g:=xC) (o := .cells #[.int .u64 oD,.int .u64 qF] 179 (0,0)) (by refine zD ?_;refine aY (cs := #[.int .u64 oD,.int .u64 0]) ?_ 1 _ rfl;refine zD ?_;refine aY (cs := #[.int .u64 0,.int .u64 0]) ?_ 0 _ rfl;refine zD ?_;exact gB.out) hb) (ak zB hb);(try clear hb)))
     go_ret
     exact ⟨zS,zB⟩
    ·rw [if_neg c10] at H
     have pR:(tH == 0)=false:=beq_eq_false_iff_ne.mpr c10
     have aqA:(tH != 0)=true:=bne_iff_ne.mpr c10
     have H':=aj.mk H
     clear H
     go_wp2_with (first|((with_reducible refine aA (f:=120) rfl ?_);refine aH (some 23) rfl rfl Tryz.func120 (by kernel_rfl) rfl #[.int .i64 a0] rfl zL ?_;(with_reducible refine (dL.calls a0 ad8 _ A7.out).mono ?_);rintro e w' ⟨rfl,⟨nd,rfl⟩⟩;refine ⟨_,rfl,?_⟩;(try (rw [nM wc];generalize hq_:World.drewN wc _=wc;have n0_:aj (Below w.heap.size w wc):=⟨by rw [← hq_];exact zB⟩;clear HB hq_;have HB:=n0_;clear n0_)))|((with_reducible refine aA (f:=120) rfl ?_);refine aH (some 25) rfl rfl Tryz.func120 (by kernel_rfl) rfl #[.int .i64 a1] rfl zL ?_;(with_reducible refine (dL.calls a1 ad9 _ A8.out).mono ?_);rintro e w' ⟨rfl,⟨nd,rfl⟩⟩;refine ⟨_,rfl,?_⟩;(try (rw [nM wc];generalize hq_:World.drewN wc _=wc;have n0_:aj (Below w.heap.size w wc):=⟨by rw [← hq_];exact zB⟩;clear HB hq_;have HB:=n0_;clear n0_)))|((with_reducible refine aA (f:=148) rfl ?_);refine aH (some 26) rfl rfl Tryz.func148 (by kernel_rfl) rfl #[.int .u64 ad8,.int .u64 ad9] rfl zL ?_;(with_reducible refine (dO.calls kj3 ad8 ad9 oD qF _ A9.out).mono ?_);rintro e w16 ⟨rfl,hb⟩;refine ⟨_,rfl,?_⟩;replace HB:=aj.mk (ak zB hb);(try clear hb))|((with_reducible refine bM (N:=8) rfl ?_);refine bU zR (N:=8) zR (cs := #[.int .u64 0,.int .u64 0]) (t:=179) zG ?_;intro xC hg w17 hbox hb;obtain ⟨HB,gB,auf,aug⟩:=zA4 (ak zB hb) hbox (zg hg zB) (zg hg zB);clear hb hbox hg;obtain ⟨_,_⟩:=zC2 gB.out;obtain ⟨_,_⟩:=zF2 gB.out)|((with_reducible refine bM (N:=9) rfl ?_);refine bU zR (N:=9) zR (cs := #[.int .u64 0,.int .u64 0]) (t:=179) zG ?_;intro aad hg w19 hbox hb;obtain ⟨gB,HB,iy,azI,azJ,rF,rG⟩:=zA7 (ay (g:=xC) (o := .cells #[.int .u64 oD,.int .u64 qF] 179 (0,0)) (by refine zD ?_;refine aY (cs := #[.int .u64 oD,.int .u64 0]) ?_ 1 _ rfl;refine zD ?_;refine aY (cs := #[.int .u64 0,.int .u64 0]) ?_ 0 _ rfl;refine zD ?_;exact gB.out) hb) (ak zB hb) hbox (zg hg zB) (zg hg zB) ((by rw [hg];exact Nat.ne_of_lt (dJ (g:=xC) (o := .cells #[.int .u64 oD,.int .u64 qF] 179 (0,0)) (by refine zD ?_;refine aY (cs := #[.int .u64 oD,.int .u64 0]) ?_ 1 _ rfl;refine zD ?_;refine aY (cs := #[.int .u64 0,.int .u64 0]) ?_ 0 _ rfl;refine zD ?_;exact gB.out)):xC≠aad)) ((by rw [hg];exact Nat.ne_of_gt (dJ (g:=xC) (o := .cells #[.int .u64 oD,.int .u64 qF] 179 (0,0)) (by refine zD ?_;refine aY (cs := #[.int .u64 oD,.int .u64 0]) ?_ 1 _ rfl;refine zD ?_;refine aY (cs := #[.int .u64 0,.int .u64 0]) ?_ 0 _ rfl;refine zD ?_;exact gB.out)):aad≠xC));clear hb hbox hg;have azK:=rG.out;have azL:=rF.out;obtain ⟨_,_⟩:=zC2 iy.out;obtain ⟨_,_⟩:=zF2 iy.out))
     go_loopg [10] kj3 (fun kq v10 w'=>∃ (iY:Int) (jY:Int) (jI:Int),v10 = .int .i64 iY∧aj (aU.l0 kq tH ((decide (a0 < 0)) != (decide (a1 < 0))) iY oD qF jY jI=some r)∧aj (kq≤kj3)∧aj (w'.heap[xC]? = some (.cells #[.int .u64 oD,.int .u64 qF] 179 (0,0)))∧aj (w'.heap[aad]? = some (.cells #[.int .u64 jY,.int .u64 jI] 179 (0,0)))∧aj (Below w.heap.size w w'))
     case atStart=>exact ⟨(127),(0),(0),zT,H',⟨Nat.le_refl _⟩,⟨zK gB⟩,⟨by refine zD ?_;refine aY (cs := #[.int .u64 0,.int .u64 0]) ?_ 1 _ rfl;refine zD ?_;refine aY (cs := #[.int .u64 0,.int .u64 0]) ?_ 0 _ rfl;refine zD ?_;exact iy.out⟩,⟨zB⟩⟩
     case round =>
      clear H'
      obtain ⟨iY,jY,jI,rfl,HA,HK2,gB,iy,HB⟩:=hrel
      cases gk with
      | zero=>exact absurd HA.out (by simp [aU.l0])
      | succ k2 =>
       have H:=HA.out
       clear HA
       simp only [aU.l0] at H
       by_cases c22:iY≥tH
       ·rw [if_pos c22] at H
        have auh:=decide_eq_true c22
        clear c22
        replace H:=zO H
        obtain ⟨ajM,A23,H⟩:=H
        try dsimp only at H
        replace H:=zO H
        obtain ⟨⟨aoK,asi⟩,A24,H⟩:=H
        try dsimp only at H
        have H':=aj.mk H
        clear H
        try go_wp2
        obtain ⟨gB,iy,HB⟩:=zA3 (jq gB.out) (jq iy.out) (bg HB.out)
        refine acn (n:=6) (S:=fun w'=>w'.cell? ⟨aad,0,none⟩=some (.int .u64 jY)∧w'.cell? ⟨aad,1,none⟩=some (.int .u64 jI)∧w'.cell? ⟨xC,0,none⟩=some (.int .u64 oD)∧w'.cell? ⟨xC,1,none⟩=some (.int .u64 qF)) (ds:=[5]) #[false,false,false,false,false,false] (by kernel_rfl) rfl rfl ⟨(au iy.out 0).trans rfl,(au iy.out 1).trans rfl,(au gB.out 0).trans rfl,(au gB.out 1).trans rfl⟩ (fun hHeld => ?_)
        generalize wr.drew=w25 at gB iy HB hHeld ⊢
        refine xq (i:=2) (N:=some 40) (v := ?_) (a' := ?_) #[false,false,true,false,false,false] rfl rfl (by kernel_rfl) (fun _ _ _ h=>h) (Or.inl ⟨by rfl,?_⟩) ?_ ?_
        rotate_left
        ·intro w'
         go_simp
         with_reducible rfl
        rotate_left
        ·simp only [Act.put,List.setIfInBounds_toArray,List.set_cons_zero,List.set_cons_succ,bZ,dA]
         rfl
        refine yx (i:=0) (N:=some 38) (v := ?_) (a' := ?_) #[true,false,true,false,false,false] rfl rfl (by kernel_rfl) (fun _ _ _ h=>h) (Or.inl ⟨by rfl,?_⟩) hHeld ?_ ?_
        rotate_left
        ·rintro w' ⟨s0,s1,s2,s3⟩
         go_simp
         with_reducible rfl
        rotate_left
        ·simp only [Act.put,List.setIfInBounds_toArray,List.set_cons_zero,List.set_cons_succ,bZ,dA]
         rfl
        refine yx (i:=1) (N:=some 39) (v := ?_) (a' := ?_) #[true,true,true,false,false,false] rfl rfl (by kernel_rfl) (fun _ _ _ h=>h) (Or.inl ⟨by rfl,?_⟩) hHeld ?_ ?_
        rotate_left
        ·rintro w' ⟨s0,s1,s2,s3⟩
         go_simp
         with_reducible rfl
        rotate_left
        ·simp only [Act.put,List.setIfInBounds_toArray,List.set_cons_zero,List.set_cons_succ,bZ,dA]
         rfl
        refine aa9 (i:=3) (N:=some 41) #[true,true,true,true,false,false] rfl rfl (by kernel_rfl) (by decide) (fun K hK => ?_)
        refine zV Tryz.func121 (by kernel_rfl) rfl #[.agg #[.int .u64 oD,.int .u64 qF],.int .i64 iY] (by rfl) rfl rfl zL ?_
        with_reducible refine (fD.calls oD qF iY ajM _ A23.out).mono ?_
        rintro e w26 ⟨rfl,hb⟩
        refine ⟨_,rfl,?_⟩
        obtain ⟨gB,iy,HB⟩:=zA3 (ay (zK gB) hb) (ay (zK iy) hb) (ak zB hb)
        (try clear hb)
        (try clear hb2)
        (try clear hk)
        (try clear hi)
        refine hK.out _ _ ⟨(au iy.out 0).trans rfl,(au iy.out 1).trans rfl,(au gB.out 0).trans rfl,(au gB.out 1).trans rfl⟩ (fun hHeld => ?_)
        clear hK K
        refine zU (a' := ?_) ?_ ?_
        rotate_left
        ·show Act.put _ (some 41) _=_
         simp only [Act.put,List.setIfInBounds_toArray,List.set_cons_zero,List.set_cons_succ,bZ,dA]
         rfl
        refine aa9 (i:=4) (N:=some 42) #[true,true,true,true,true,false] rfl rfl (by kernel_rfl) (by decide) (fun K hK => ?_)
        refine zV Tryz.func119 (by kernel_rfl) rfl #[.agg #[.int .u64 jY,.int .u64 jI],.int .u64 ajM] (by rfl) rfl rfl zL ?_
        with_reducible refine (dI.calls jY jI ajM aoK asi _ A24.out).mono ?_
        rintro e w27 ⟨rfl,hb⟩
        refine ⟨_,rfl,?_⟩
        obtain ⟨gB,iy,HB⟩:=zA3 (ay (zK gB) hb) (ay (zK iy) hb) (ak zB hb)
        (try clear hb)
        (try clear hb2)
        (try clear hk)
        (try clear hi)
        refine hK.out _ _ ⟨(au iy.out 0).trans rfl,(au iy.out 1).trans rfl,(au gB.out 0).trans rfl,(au gB.out 1).trans rfl⟩ (fun hHeld => ?_)
        clear hK K
        refine zU (a' := ?_) ?_ ?_
        rotate_left
        ·show Act.put _ (some 42) _=_
         simp only [Act.put,List.setIfInBounds_toArray,List.set_cons_zero,List.set_cons_succ,bZ,dA]
         rfl
        refine aiM (i:=5) (N:=none) #[true,true,true,true,true,true] rfl rfl (by kernel_rfl) (by decide) (fun K hK => ?_)
        have aAK:w27.cell? ⟨aad,0,none⟩=some (.int .u64 jY):=(au iy.out 0).trans rfl
        have azM:=aN iy.out 0
        have axw:=rF.out
        have axx:=rG.out
        have aAL:w27.cell? ⟨aad,1,none⟩=some (.int .u64 jI):=(au iy.out 1).trans rfl
        have azN:=aN iy.out 1
        have axy:=rF.out
        have axz:=rG.out
        refine af4 (w1 := ?_) (by rfl) rfl ?_ ?_
        rotate_left
        ·go_simp
         rfl
        refine hK.out _ _ ?_
        clear hK K
        refine aeD (by kernel_rfl) ?_
        try go_wp2
        go_roundg k2
        case measure=>have:=HJ3.out;have:=HK2.out;omega
        case rel=>exact ⟨(wrap64 (iY - 1)),(aoK),(asi),zT,H',⟨by have:=HJ3.out;have:=HK2.out;omega⟩,⟨zK gB⟩,⟨by refine zD ?_;refine aY (cs := #[.int .u64 aoK,.int .u64 jI]) ?_ 1 _ rfl;refine zD ?_;refine aY (cs := #[.int .u64 jY,.int .u64 jI]) ?_ 0 _ rfl;refine zD ?_;exact iy.out⟩,⟨zB⟩⟩
       ·rw [if_neg c22] at H
        have auh:=decide_eq_false c22
        clear c22
        have H':=aj.mk H
        clear H
        go_wp2
        try simp only [Act.put,List.setIfInBounds_toArray,List.set_cons_succ,List.set_cons_zero]
        go_loopg [11,45] k2 (fun kq v11 v45 w'=>∃ (agt:Bool) (acZ:Int),v11 = .bool agt∧v45 = .int .i64 acZ∧aj (aU.l1 kq tH ((decide (a0 < 0)) != (decide (a1 < 0))) agt (wrap64 (tH - 1)) acZ oD qF jY jI=some r)∧aj (kq≤k2)∧aj (w'.heap[xC]? = some (.cells #[.int .u64 oD,.int .u64 qF] 179 (0,0)))∧aj (w'.heap[aad]? = some (.cells #[.int .u64 jY,.int .u64 jI] 179 (0,0)))∧aj (Below w.heap.size w w'))
        case atStart=>exact ⟨(false),(0),zT,zT,H',⟨Nat.le_refl _⟩,⟨zK gB⟩,⟨zK iy⟩,⟨zB⟩⟩
        case round =>
         clear H'
         obtain ⟨agt,acZ,rfl,rfl,HA,HK3,gB,iy,HB⟩:=hrel
         cases gk with
         | zero=>exact absurd HA.out (by simp [aU.l1])
         | succ k3 =>
          have H:=HA.out
          clear HA
          simp only [aU.l1] at H
          by_cases c30:acZ < (wrap64 (tH - 1))
          ·rw [if_pos c30] at H
           have aqB:=decide_eq_true c30
           clear c30
           by_cases c31:agt=true
           ·subst c31
            rw [if_pos rfl] at H;try dsimp only at H
            have H':=aj.mk H
            clear H
            go_wp2
            go_roundg k3
            case measure=>have:=HJ3.out;have:=HK2.out;have:=HK3.out;omega
            case rel=>exact ⟨(true),(wrap64 (acZ+1)),zT,zT,H',⟨by have:=HJ3.out;have:=HK2.out;have:=HK3.out;omega⟩,⟨zK gB⟩,⟨zK iy⟩,⟨zB⟩⟩
           ·replace c31:=Bool.eq_false_iff.mpr c31
            subst c31
            rw [if_neg (show ¬ (false=true) by decide)] at H;try dsimp only at H
            replace H:=zO H
            obtain ⟨amk,A32,H⟩:=H
            try dsimp only at H
            have H':=aj.mk H
            clear H
            have at6:=rF.out
            have at7:=rG.out
            obtain ⟨_,_⟩:=zC2 gB.out
            obtain ⟨_,_⟩:=zF2 gB.out
            go_wp2_with (first|(go_at_call 121;(with_reducible refine (fD.calls oD qF acZ amk _ A32.out).mono ?_);rintro e w35 ⟨rfl,hb⟩;obtain ⟨gB,iy,HB⟩:=zA3 (ay (zK gB) hb) (ay (zK iy) hb) (ak zB hb);(try clear hb)))
            go_roundg k3
            case measure=>have:=HJ3.out;have:=HK2.out;have:=HK3.out;omega
            case rel=>exact ⟨((amk == 1)),(wrap64 (acZ+1)),zT,zT,H',⟨by have:=HJ3.out;have:=HK2.out;have:=HK3.out;omega⟩,⟨zK gB⟩,⟨zK iy⟩,⟨zB⟩⟩
          ·rw [if_neg c30] at H
           have aqB:=decide_eq_false c30
           clear c30
           have aoL:=aj.mk H
           clear H
           go_upto_region 20 with (fail)
           go_cut [67] (fun v67 wc=>∃ (kq:Nat) (agu:Bool),v67 = .bool agu∧aj (aU.j3 kq ((decide (a0 < 0)) != (decide (a1 < 0))) agu jY jI=some r)∧aj (kq≤k3)∧aj (wc.heap[xC]? = some (.cells #[.int .u64 oD,.int .u64 qF] 179 (0,0)))∧aj (wc.heap[aad]? = some (.cells #[.int .u64 jY,.int .u64 jI] 179 (0,0)))∧aj (Below w.heap.size w wc))
           case first =>
            have H:=aoL.out
            clear aoL
            replace H:=zO H
            obtain ⟨ab8,A37,H⟩:=H
            try dsimp only at H
            by_cases c38:ab8=1
            ·rw [if_pos c38] at H
             have acY:(ab8 == 1)=true:=beq_iff_eq.mpr c38
             have ami:(ab8 != 1)=false:=bne_eq_false_iff_eq.mpr c38
             clear c38
             (first|rw [acY]|(simp only [bZ,dA];rw [acY])|skip)
             by_cases c39:agt=true
             ·subst c39
              rw [if_pos rfl] at H;try dsimp only at H
              have H':=aj.mk H
              clear H
              have aql:=rF.out
              have aqm:=rG.out
              obtain ⟨_,_⟩:=zC2 gB.out
              obtain ⟨_,_⟩:=zF2 gB.out
              go_wp2_with (first|((with_reducible refine aA (f:=121) rfl ?_);refine aH (some 59) rfl rfl Tryz.func121 (by kernel_rfl) rfl #[.agg #[.int .u64 oD,.int .u64 qF],.int .i64 (wrap64 (tH - 1))] rfl zL ?_;(with_reducible refine (fD.calls oD qF (wrap64 (tH - 1)) ab8 _ A37.out).mono ?_);rintro e w42 ⟨rfl,hb⟩;refine ⟨_,rfl,?_⟩;obtain ⟨gB,iy,HB⟩:=zA3 (ay (zK gB) hb) (ay (zK iy) hb) (ak zB hb);(try clear hb)))
              go_meet
              case rel=>exact ⟨_,(true),zT,H',⟨by have:=HJ3.out;have:=HK2.out;have:=HK3.out;first|omega|exact Nat.le_refl _⟩,⟨zK gB⟩,⟨zK iy⟩,⟨zB⟩⟩
             ·replace c39:=Bool.eq_false_iff.mpr c39
              subst c39
              rw [if_neg (show ¬ (false=true) by decide)] at H;try dsimp only at H
              have H':=aj.mk H
              clear H
              have azO:=rF.out
              have azP:=rG.out
              obtain ⟨_,_⟩:=zC2 gB.out
              obtain ⟨_,_⟩:=zF2 gB.out
              go_wp2_with (first|((with_reducible refine aA (f:=121) rfl ?_);refine aH (some 59) rfl rfl Tryz.func121 (by kernel_rfl) rfl #[.agg #[.int .u64 oD,.int .u64 qF],.int .i64 (wrap64 (tH - 1))] rfl zL ?_;(with_reducible refine (fD.calls oD qF (wrap64 (tH - 1)) ab8 _ A37.out).mono ?_);rintro e w45 ⟨rfl,hb⟩;refine ⟨_,rfl,?_⟩;obtain ⟨gB,iy,HB⟩:=zA3 (ay (zK gB) hb) (ay (zK iy) hb) (ak zB hb);(try clear hb)))
              go_meet
              case rel=>exact ⟨_,(!((decide (a0 < 0)) != (decide (a1 < 0)))),(by first|rfl|(simp;done)|(simp [*];done)|(generalize decide (a0 < 0)=p_;generalize decide (a1 < 0)=q_;cases p_ <;> cases q_ <;> rfl)),H',⟨by have:=HJ3.out;have:=HK2.out;have:=HK3.out;first|omega|exact Nat.le_refl _⟩,⟨zK gB⟩,⟨zK iy⟩,⟨zB⟩⟩
            ·rw [if_neg c38] at H
             have acY:(ab8 == 1)=false:=beq_eq_false_iff_ne.mpr c38
             have ami:(ab8 != 1)=true:=bne_iff_ne.mpr c38
             (first|rw [acY]|(simp only [bZ,dA];rw [acY])|skip)
             have H':=aj.mk H
             clear H
             have aqn:=rF.out
             have aqo:=rG.out
             obtain ⟨_,_⟩:=zC2 gB.out
             obtain ⟨_,_⟩:=zF2 gB.out
             go_wp2_with (first|((with_reducible refine aA (f:=121) rfl ?_);refine aH (some 59) rfl rfl Tryz.func121 (by kernel_rfl) rfl #[.agg #[.int .u64 oD,.int .u64 qF],.int .i64 (wrap64 (tH - 1))] rfl zL ?_;(with_reducible refine (fD.calls oD qF (wrap64 (tH - 1)) ab8 _ A37.out).mono ?_);rintro e w48 ⟨rfl,hb⟩;refine ⟨_,rfl,?_⟩;obtain ⟨gB,iy,HB⟩:=zA3 (ay (zK gB) hb) (ay (zK iy) hb) (ak zB hb);(try clear hb)))
             go_meet
             case rel=>exact ⟨_,(false),zT,H',⟨by have:=HJ3.out;have:=HK2.out;have:=HK3.out;first|omega|exact Nat.le_refl _⟩,⟨zK gB⟩,⟨zK iy⟩,⟨zB⟩⟩
           case rest =>
            clear aoL
            obtain ⟨kq,agu,rfl,HA,aAM,gB,iy,HB⟩:=hcut
            cases kq with
            | zero=>exact absurd HA.out (by simp [aU.j3])
            | succ asj =>
             have H:=HA.out
             clear HA
             simp only [aU.j3] at H
             by_cases c49:agu=true
             ·subst c49
              rw [if_pos rfl] at H;try dsimp only at H
              replace H:=zO H
              obtain ⟨⟨ajN,aml⟩,A50,H⟩:=H
              try dsimp only at H
              replace H:=zO H
              obtain ⟨aoI,A51,H⟩:=H
              try dsimp only at H
              obtain rfl:=Option.some.inj H
              have aud:=rG.out
              have aue:=rF.out
              obtain ⟨_,_⟩:=zC2 iy.out
              obtain ⟨_,_⟩:=zF2 iy.out
              go_wp2_with (first|((with_reducible refine aA (f:=124) rfl ?_);refine aH (some 70) rfl rfl Tryz.func124 (by kernel_rfl) rfl #[.agg #[.int .u64 jY,.int .u64 jI],.agg #[.int .u64 0,.int .u64 1]] rfl zL ?_;(with_reducible refine (gI.calls jY jI 0 1 ajN aml _ A50.out).mono ?_);rintro e w54 ⟨rfl,hb⟩;refine ⟨_,rfl,?_⟩;obtain ⟨gB,iy,HB⟩:=zA3 (ay (zK gB) hb) (ay (zK iy) hb) (ak zB hb);(try clear hb);obtain ⟨_,_⟩:=zC2 iy.out;obtain ⟨_,_⟩:=zF2 iy.out)|((with_reducible refine aA (f:=125) rfl ?_);refine aH (some 73) rfl rfl Tryz.func125 (by kernel_rfl) rfl #[.agg #[.int .u64 ajN,.int .u64 aml],.bool ((decide (a0 < 0)) != (decide (a1 < 0)))] rfl zL ?_;(with_reducible refine (bP.calls asj ajN aml ((decide (a0 < 0)) != (decide (a1 < 0))) aoI _ A51.out).mono ?_);rintro e w56 ⟨rfl,hb⟩;refine ⟨_,rfl,?_⟩;obtain ⟨gB,iy,HB⟩:=zA3 (ay (zK gB) hb) (ay (g:=aad) (o := .cells #[.int .u64 ajN,.int .u64 aml] 179 (0,0)) (by refine zD ?_;refine aY (cs := #[.int .u64 ajN,.int .u64 jI]) ?_ 1 _ rfl;refine zD ?_;refine aY (cs := #[.int .u64 jY,.int .u64 jI]) ?_ 0 _ rfl;refine zD ?_;exact iy.out) hb) (ak zB hb);(try clear hb)))
              go_ret
              exact ⟨zS,zB⟩
             ·replace c49:=Bool.eq_false_iff.mpr c49
              subst c49
              rw [if_neg (show ¬ (false=true) by decide)] at H;try dsimp only at H
              replace H:=zO H
              obtain ⟨aoJ,A57,H⟩:=H
              try dsimp only at H
              obtain rfl:=Option.some.inj H
              have atN:=rG.out
              have atO:=rF.out
              obtain ⟨_,_⟩:=zC2 iy.out
              obtain ⟨_,_⟩:=zF2 iy.out
              go_wp2_with (first|((with_reducible refine aA (f:=125) rfl ?_);refine aH (some 73) rfl rfl Tryz.func125 (by kernel_rfl) rfl #[.agg #[.int .u64 jY,.int .u64 jI],.bool ((decide (a0 < 0)) != (decide (a1 < 0)))] rfl zL ?_;(with_reducible refine (bP.calls asj jY jI ((decide (a0 < 0)) != (decide (a1 < 0))) aoJ _ A57.out).mono ?_);rintro e w60 ⟨rfl,hb⟩;refine ⟨_,rfl,?_⟩;obtain ⟨gB,iy,HB⟩:=zA3 (ay (zK gB) hb) (ay (zK iy) hb) (ak zB hb);(try clear hb)))
              go_ret
              exact ⟨zS,zB⟩
end Go.Proofs.YtpondkggmcmpfaaGreatDoor.QA
namespace Go.Proofs.YtpondkggmcmpfaaGreatDoor.QA
open Go.Proofs.YtpondkggmcmpfaaGreatDoor.T
open Go.RowKit Go.Proofs.YtpondkggmcmpfaaGreatDoorW.PrintWords Go.Proofs.YtpondkggmcmpfaaGreatDoorW.PrintLast Go.Proofs.YtpondkggmcmpfaaGreatDoorW.PrintMore
attribute [local go_sem] dV dQ dR eP eX
set_option linter.unusedVariables false
set_option linter.unusedSimpArgs false
mutual
def bY.j0:Nat→Int→Int→Option (Int)
 | 0,_,_=>none
 | k+1,x0,x1=>(aX.f k 10851744800547 x0 x1).bind fun ajO=>((aX.f k ajO x0 x1).bind fun aea=>(bY.l0 k aea 1099511627776 0 1099511627776 1))
def bY.l0:Nat→Int→Int→Int→Int→Int→Option (Int)
 | 0,_,_,_,_,_=>none
 | k+1,x6,x7,x8,x9,x10=>if x10≤30 then ((aX.f k x9 x6 (wrap64 ((wrap64 ((wrap64 (2*x10))*(wrap64 ((wrap64 (2*x10))+1))))*1099511627776))).bind fun abl=>(if (Int.tmod x10 2)=1 then (bY.l0 k x6 x7 (wrap64 (x8+abl)) abl (wrap64 (x10+1))) else (bY.l0 k x6 (wrap64 (x7+abl)) x8 abl (wrap64 (x10+1))))) else (some (wrap64 (x7 - x8)))
end
def bY.f (k:Nat) (a0 a1:Int):Option (Int):=if a0 < 0 then (bY.j0 k (wrap64 (-a0)) a1) else (bY.j0 k a0 a1)
set_option maxHeartbeats 8000000 in
set_option maxRecDepth 100000 in
theorem bY.calls (k:Nat) (a0 a1 r:Int) (w:World) (h:bY.f k a0 a1=some r) :
  Calls Tryz.prog 186 #[.int .i64 a0,.int .i64 a1] w fun e w'=>e = .returned (.int .i64 r)∧Below w.heap.size w w':=by
 have HB:=aj.mk (Below.refl w.heap.size w)
 have H:=h
 clear h
 unfold bY.f at H
 have HC3:=aj.mk H
 clear H
 go_enter Tryz.func186,Tryz.ntmps186
 go_upto_if 13 with (fail)
 go_cut [0] (fun v0 wc=>∃ (kq:Nat) (afx:Int),v0 = .int .i64 afx∧aj (bY.j0 kq afx a1=some r)∧aj (kq≤k)∧aj (Below w.heap.size w wc))
 case first =>
  have H:=HC3.out
  clear HC3
  by_cases c4:a0 < 0
  ·rw [if_pos c4] at H
   have fU:=decide_eq_true c4
   clear c4
   (first|rw [fU]|(simp only [bZ,dA];rw [fU])|skip)
   have H':=aj.mk H
   clear H
   go_wp2
   go_meet
   case rel=>exact ⟨_,(wrap64 (-a0)),zT,H',⟨by first|omega|exact Nat.le_refl _⟩,⟨zB⟩⟩
  ·rw [if_neg c4] at H
   have fU:=decide_eq_false c4
   clear c4
   (first|rw [fU]|(simp only [bZ,dA];rw [fU])|skip)
   have H':=aj.mk H
   clear H
   go_wp2
   go_meet
   case rel=>exact ⟨_,(a0),zT,H',⟨by first|omega|exact Nat.le_refl _⟩,⟨zB⟩⟩
 case rest =>
  clear HC3
  obtain ⟨kq,afx,rfl,HA,HJ2,HB⟩:=hcut
  cases kq with
  | zero=>exact absurd HA.out (by simp [bY.j0])
  | succ kj2 =>
   have H:=HA.out
   clear HA
   simp only [bY.j0] at H
   replace H:=zO H
   obtain ⟨ajO,A5,H⟩:=H
   try dsimp only at H
   replace H:=zO H
   obtain ⟨aea,A6,H⟩:=H
   try dsimp only at H
   have H':=aj.mk H
   clear H
   go_wp2_with (first|((with_reducible refine aA (f:=118) rfl ?_);refine aH (some 18) rfl rfl Tryz.func118 (by kernel_rfl) rfl #[.int .i64 10851744800547,.int .i64 afx,.int .i64 a1] rfl zL ?_;(with_reducible refine (aX.calls kj2 10851744800547 afx a1 ajO _ A5.out).mono ?_);rintro e w7 ⟨rfl,hb⟩;refine ⟨_,rfl,?_⟩;replace HB:=aj.mk (ak zB hb);(try clear hb))|((with_reducible refine aA (f:=118) rfl ?_);refine aH (some 22) rfl rfl Tryz.func118 (by kernel_rfl) rfl #[.int .i64 ajO,.int .i64 afx,.int .i64 a1] rfl zL ?_;(with_reducible refine (aX.calls kj2 ajO afx a1 aea _ A6.out).mono ?_);rintro e w8 ⟨rfl,hb⟩;refine ⟨_,rfl,?_⟩;replace HB:=aj.mk (ak zB hb);(try clear hb)))
   go_loopg [7,8,9,10] kj2 (fun kq v7 v8 v9 v10 w'=>∃ (zA:Int) (kQ:Int) (aaM:Int) (iY:Int),v7 = .int .i64 zA∧v8 = .int .i64 kQ∧v9 = .int .i64 aaM∧v10 = .int .i64 iY∧aj (bY.l0 kq aea zA kQ aaM iY=some r)∧aj (kq≤kj2)∧aj (Below w.heap.size w w'))
   case atStart=>exact ⟨(1099511627776),(0),(1099511627776),(1),zT,zT,zT,zT,H',⟨Nat.le_refl _⟩,⟨zB⟩⟩
   case round =>
    clear H'
    obtain ⟨zA,kQ,aaM,iY,rfl,rfl,rfl,rfl,HA,HK2,HB⟩:=hrel
    cases gk with
    | zero=>exact absurd HA.out (by simp [bY.l0])
    | succ k2 =>
     have H:=HA.out
     clear HA
     simp only [bY.l0] at H
     by_cases c9:iY≤30
     ·rw [if_pos c9] at H
      have qJ:=decide_eq_true c9
      clear c9
      replace H:=zO H
      obtain ⟨abl,A10,H⟩:=H
      try dsimp only at H
      by_cases c11:(Int.tmod iY 2)=1
      ·rw [if_pos c11] at H
       have iO:((Int.tmod iY 2) == 1)=true:=beq_iff_eq.mpr c11
       have yE:((Int.tmod iY 2) != 1)=false:=bne_eq_false_iff_eq.mpr c11
       clear c11
       have H':=aj.mk H
       clear H
       go_wp2_with (first|((with_reducible refine aA (f:=118) rfl ?_);refine aH (some 37) rfl rfl Tryz.func118 (by kernel_rfl) rfl #[.int .i64 aaM,.int .i64 aea,.int .i64 (wrap64 ((wrap64 ((wrap64 (2*iY))*(wrap64 ((wrap64 (2*iY))+1))))*1099511627776))] rfl zL ?_;(with_reducible refine (aX.calls k2 aaM aea (wrap64 ((wrap64 ((wrap64 (2*iY))*(wrap64 ((wrap64 (2*iY))+1))))*1099511627776)) abl _ A10.out).mono ?_);rintro e w12 ⟨rfl,hb⟩;refine ⟨_,rfl,?_⟩;replace HB:=aj.mk (ak zB hb);(try clear hb)))
       go_roundg k2
       case measure=>have:=HJ2.out;have:=HK2.out;omega
       case rel=>exact ⟨(zA),(wrap64 (kQ+abl)),(abl),(wrap64 (iY+1)),zT,zT,zT,zT,H',⟨by have:=HJ2.out;have:=HK2.out;omega⟩,⟨zB⟩⟩
      ·rw [if_neg c11] at H
       have iO:((Int.tmod iY 2) == 1)=false:=beq_eq_false_iff_ne.mpr c11
       have yE:((Int.tmod iY 2) != 1)=true:=bne_iff_ne.mpr c11
       have H':=aj.mk H
       clear H
       go_wp2_with (first|((with_reducible refine aA (f:=118) rfl ?_);refine aH (some 37) rfl rfl Tryz.func118 (by kernel_rfl) rfl #[.int .i64 aaM,.int .i64 aea,.int .i64 (wrap64 ((wrap64 ((wrap64 (2*iY))*(wrap64 ((wrap64 (2*iY))+1))))*1099511627776))] rfl zL ?_;(with_reducible refine (aX.calls k2 aaM aea (wrap64 ((wrap64 ((wrap64 (2*iY))*(wrap64 ((wrap64 (2*iY))+1))))*1099511627776)) abl _ A10.out).mono ?_);rintro e w13 ⟨rfl,hb⟩;refine ⟨_,rfl,?_⟩;replace HB:=aj.mk (ak zB hb);(try clear hb)))
       go_roundg k2
       case measure=>have:=HJ2.out;have:=HK2.out;omega
       case rel=>exact ⟨(wrap64 (zA+abl)),(kQ),(abl),(wrap64 (iY+1)),zT,zT,zT,zT,H',⟨by have:=HJ2.out;have:=HK2.out;omega⟩,⟨zB⟩⟩
     ·rw [if_neg c9] at H
      have qJ:=decide_eq_false c9
      clear c9
      obtain rfl:=Option.some.inj H
      go_wp2
      go_ret
      exact ⟨zS,zB⟩
def dW.j0:Nat→Int→Int→Bool→Option (Int)
 | 0,_,_,_=>none
 | k+1,x0,x1,x21=>if x21=true then (some 0) else ((bY.f k x0 x1).bind fun ajP=>((bY.f k x0 (wrap64 (3*x1))).bind fun ajQ=>((aU.f k ajP ajQ 40).bind fun ajR=>((aJ.f k ajR 10).bind fun aoM=>(some aoM)))))
def dW.f (k:Nat) (a0 a1:Int):Option (Int):=(kM.f a0 a1).bind fun aoN=>(if aoN=true then (if a0≥(wrap64 (3*a1)) then (dW.j0 k a0 a1 true) else (dW.j0 k a0 a1 (decide (a0≤(wrap64 ((-3)*a1)))))) else (dW.j0 k a0 a1 true))
set_option maxHeartbeats 8000000 in
set_option maxRecDepth 100000 in
theorem dW.calls (k:Nat) (a0 a1 r:Int) (w:World) (h:dW.f k a0 a1=some r) :
  Calls Tryz.prog 171 #[.int .i64 a0,.int .i64 a1] w fun e w'=>e = .returned (.int .i64 r)∧Below w.heap.size w w':=by
 have HB:=aj.mk (Below.refl w.heap.size w)
 have H:=h
 clear h
 unfold dW.f at H
 have HC3:=aj.mk H
 clear H
 go_enter Tryz.func171,Tryz.ntmps171
 go_upto_region 1 with (fail)
 go_cut [21] (fun v21 wc=>∃ (kq:Nat) (aiU:Bool),v21 = .bool aiU∧aj (dW.j0 kq a0 a1 aiU=some r)∧aj (kq≤k)∧aj (Below w.heap.size w wc))
 case first =>
  have H:=HC3.out
  clear HC3
  replace H:=zO H
  obtain ⟨aoN,A4,H⟩:=H
  try dsimp only at H
  by_cases c5:aoN=true
  ·subst c5
   rw [if_pos rfl] at H;try dsimp only at H
   by_cases c6:a0≥(wrap64 (3*a1))
   ·rw [if_pos c6] at H
    have iw:=decide_eq_true c6
    clear c6
    (first|rw [iw]|(simp only [bZ,dA];rw [iw])|skip)
    have H':=aj.mk H
    clear H
    go_wp2_with (first|((with_reducible refine aA (f:=184) rfl ?_);refine aH (some 8) rfl rfl Tryz.func184 (by kernel_rfl) rfl #[.int .i64 a0,.int .i64 a1] rfl zL ?_;(with_reducible refine (kM.calls a0 a1 true _ A4.out).mono ?_);rintro e w' ⟨rfl,⟨nd,rfl⟩⟩;refine ⟨_,rfl,?_⟩))
    go_meet
    case rel=>exact ⟨_,(true),zT,H',⟨by first|omega|exact Nat.le_refl _⟩,⟨zB⟩⟩
   ·rw [if_neg c6] at H
    have iw:=decide_eq_false c6
    clear c6
    (first|rw [iw]|(simp only [bZ,dA];rw [iw])|skip)
    have H':=aj.mk H
    clear H
    go_wp2_with (first|((with_reducible refine aA (f:=184) rfl ?_);refine aH (some 8) rfl rfl Tryz.func184 (by kernel_rfl) rfl #[.int .i64 a0,.int .i64 a1] rfl zL ?_;(with_reducible refine (kM.calls a0 a1 true _ A4.out).mono ?_);rintro e w' ⟨rfl,⟨nd,rfl⟩⟩;refine ⟨_,rfl,?_⟩))
    go_meet
    case rel=>exact ⟨_,(decide (a0≤(wrap64 ((-3)*a1)))),zT,H',⟨by first|omega|exact Nat.le_refl _⟩,⟨zB⟩⟩
  ·replace c5:=Bool.eq_false_iff.mpr c5
   subst c5
   rw [if_neg (show ¬ (false=true) by decide)] at H;try dsimp only at H
   have H':=aj.mk H
   clear H
   go_wp2_with (first|((with_reducible refine aA (f:=184) rfl ?_);refine aH (some 8) rfl rfl Tryz.func184 (by kernel_rfl) rfl #[.int .i64 a0,.int .i64 a1] rfl zL ?_;(with_reducible refine (kM.calls a0 a1 false _ A4.out).mono ?_);rintro e w' ⟨rfl,⟨nd,rfl⟩⟩;refine ⟨_,rfl,?_⟩))
   go_meet
   case rel=>exact ⟨_,(true),zT,H',⟨by first|omega|exact Nat.le_refl _⟩,⟨zB⟩⟩
 case rest =>
  clear HC3
  obtain ⟨kq,aiU,rfl,HA,HJ2,HB⟩:=hcut
  cases kq with
  | zero=>exact absurd HA.out (by simp [dW.j0])
  | succ kj2 =>
   have H:=HA.out
   clear HA
   simp only [dW.j0] at H
   by_cases c7:aiU=true
   ·subst c7
    rw [if_pos rfl] at H;try dsimp only at H
    obtain rfl:=Option.some.inj H
    go_wp2
    go_ret
    exact ⟨zS,zB⟩
   ·replace c7:=Bool.eq_false_iff.mpr c7
    subst c7
    rw [if_neg (show ¬ (false=true) by decide)] at H;try dsimp only at H
    replace H:=zO H
    obtain ⟨ajP,A8,H⟩:=H
    try dsimp only at H
    replace H:=zO H
    obtain ⟨ajQ,A9,H⟩:=H
    try dsimp only at H
    replace H:=zO H
    obtain ⟨ajR,A10,H⟩:=H
    try dsimp only at H
    replace H:=zO H
    obtain ⟨aoM,A11,H⟩:=H
    try dsimp only at H
    obtain rfl:=Option.some.inj H
    go_wp2_with (first|((with_reducible refine aA (f:=186) rfl ?_);refine aH (some 24) rfl rfl Tryz.func186 (by kernel_rfl) rfl #[.int .i64 a0,.int .i64 a1] rfl zL ?_;(with_reducible refine (bY.calls kj2 a0 a1 ajP _ A8.out).mono ?_);rintro e w12 ⟨rfl,hb⟩;refine ⟨_,rfl,?_⟩;replace HB:=aj.mk (ak zB hb);(try clear hb))|((with_reducible refine aA (f:=186) rfl ?_);refine aH (some 28) rfl rfl Tryz.func186 (by kernel_rfl) rfl #[.int .i64 a0,.int .i64 (wrap64 (3*a1))] rfl zL ?_;(with_reducible refine (bY.calls kj2 a0 (wrap64 (3*a1)) ajQ _ A9.out).mono ?_);rintro e w13 ⟨rfl,hb⟩;refine ⟨_,rfl,?_⟩;replace HB:=aj.mk (ak zB hb);(try clear hb))|((with_reducible refine aA (f:=185) rfl ?_);refine aH (some 29) rfl rfl Tryz.func185 (by kernel_rfl) rfl #[.int .i64 ajP,.int .i64 ajQ,.int .i64 40] rfl zL ?_;(with_reducible refine (aU.calls kj2 ajP ajQ 40 ajR _ A10.out).mono ?_);rintro e w14 ⟨rfl,hb⟩;refine ⟨_,rfl,?_⟩;replace HB:=aj.mk (ak zB hb);(try clear hb))|((with_reducible refine aA (f:=101) rfl ?_);refine aH (some 31) rfl rfl Tryz.func101 (by kernel_rfl) rfl #[.int .i64 ajR,.int .i64 10] rfl zL ?_;(with_reducible refine (aJ.calls kj2 ajR 10 aoM _ A11.out).mono ?_);rintro e w15 ⟨rfl,hb⟩;refine ⟨_,rfl,?_⟩;replace HB:=aj.mk (ak zB hb);(try clear hb)))
    go_ret
    exact ⟨zS,zB⟩
end Go.Proofs.YtpondkggmcmpfaaGreatDoor.QA
namespace Go.Proofs.YtpondkggmcmpfaaGreatDoor.QA
open Go.Proofs.YtpondkggmcmpfaaGreatDoor.T
open Go.RowKit Go.Proofs.YtpondkggmcmpfaaGreatDoorW.PrintWords Go.Proofs.YtpondkggmcmpfaaGreatDoorW.PrintLast Go.Proofs.YtpondkggmcmpfaaGreatDoorW.PrintMore
attribute [local go_sem] dV dQ dR eP eX
set_option linter.unusedVariables false
set_option linter.unusedSimpArgs false
def kZ.f (k:Nat) (a0 a1 a2 a3 a4:Int):Option (Int):=if a0=0 then (if (wrap64 (a4*a2)) > (wrap64 (a3*a1)) then (if (wrap64 ((wrap64 (a4+1))*a2)) < (wrap64 ((wrap64 (a3+1))*a1)) then ((aX.f k (wrap64 ((wrap64 ((wrap64 (a4+1))*a2)) - (wrap64 (a4*a2)))) 1073741824 a1).bind fun aoO=>(some aoO)) else ((aX.f k (wrap64 ((wrap64 ((wrap64 (a3+1))*a1)) - (wrap64 (a4*a2)))) 1073741824 a1).bind fun aoP=>(some aoP))) else (if (wrap64 ((wrap64 (a4+1))*a2)) < (wrap64 ((wrap64 (a3+1))*a1)) then ((aX.f k (wrap64 ((wrap64 ((wrap64 (a4+1))*a2)) - (wrap64 (a3*a1)))) 1073741824 a1).bind fun aoQ=>(some aoQ)) else ((aX.f k (wrap64 ((wrap64 ((wrap64 (a3+1))*a1)) - (wrap64 (a3*a1)))) 1073741824 a1).bind fun aoR=>(some aoR)))) else ((fM.f a1 a2 a3 a4).bind fun aiV=>(if a0=1 then ((bI.f k aiV.1 aiV.2).bind fun aoS=>(some aoS)) else ((dW.f k aiV.1 aiV.2).bind fun aoT=>(some aoT))))
set_option maxHeartbeats 8000000 in
set_option maxRecDepth 100000 in
theorem kZ.calls (k:Nat) (a0 a1 a2 a3 a4 r:Int) (w:World) (h:kZ.f k a0 a1 a2 a3 a4=some r) :
  Calls Tryz.prog 141 #[.int .i64 a0,.int .i64 a1,.int .i64 a2,.int .i64 a3,.int .i64 a4] w fun e w'=>e = .returned (.int .i64 r)∧Below w.heap.size w w':=by
 have HB:=aj.mk (Below.refl w.heap.size w)
 have H:=h
 clear h
 unfold kZ.f at H
 by_cases c6:a0=0
 ·rw [if_pos c6] at H
  have iw:(a0 == 0)=true:=beq_iff_eq.mpr c6
  have um:(a0 != 0)=false:=bne_eq_false_iff_eq.mpr c6
  clear c6
  by_cases c7:(wrap64 (a4*a2)) > (wrap64 (a3*a1))
  ·rw [if_pos c7] at H
   have jr:=decide_eq_true c7
   clear c7
   by_cases c8:(wrap64 ((wrap64 (a4+1))*a2)) < (wrap64 ((wrap64 (a3+1))*a1))
   ·rw [if_pos c8] at H
    have vT:=decide_eq_true c8
    clear c8
    replace H:=zO H
    obtain ⟨aoO,A9,H⟩:=H
    try dsimp only at H
    obtain rfl:=Option.some.inj H
    go_enter Tryz.func141,Tryz.ntmps141
    go_wp2_with (first|((with_reducible refine aA (f:=118) rfl ?_);refine aH (some 46) rfl rfl Tryz.func118 (by kernel_rfl) rfl #[.int .i64 (wrap64 ((wrap64 ((wrap64 (a4+1))*a2)) - (wrap64 (a4*a2)))),.int .i64 1073741824,.int .i64 a1] rfl zL ?_;(with_reducible refine (aX.calls k (wrap64 ((wrap64 ((wrap64 (a4+1))*a2)) - (wrap64 (a4*a2)))) 1073741824 a1 aoO _ A9.out).mono ?_);rintro e w10 ⟨rfl,hb⟩;refine ⟨_,rfl,?_⟩;replace HB:=aj.mk (ak zB hb);(try clear hb)))
    go_ret
    exact ⟨zS,zB⟩
   ·rw [if_neg c8] at H
    have vT:=decide_eq_false c8
    clear c8
    replace H:=zO H
    obtain ⟨aoP,A11,H⟩:=H
    try dsimp only at H
    obtain rfl:=Option.some.inj H
    go_enter Tryz.func141,Tryz.ntmps141
    go_wp2_with (first|((with_reducible refine aA (f:=118) rfl ?_);refine aH (some 46) rfl rfl Tryz.func118 (by kernel_rfl) rfl #[.int .i64 (wrap64 ((wrap64 ((wrap64 (a3+1))*a1)) - (wrap64 (a4*a2)))),.int .i64 1073741824,.int .i64 a1] rfl zL ?_;(with_reducible refine (aX.calls k (wrap64 ((wrap64 ((wrap64 (a3+1))*a1)) - (wrap64 (a4*a2)))) 1073741824 a1 aoP _ A11.out).mono ?_);rintro e w12 ⟨rfl,hb⟩;refine ⟨_,rfl,?_⟩;replace HB:=aj.mk (ak zB hb);(try clear hb)))
    go_ret
    exact ⟨zS,zB⟩
  ·rw [if_neg c7] at H
   have jr:=decide_eq_false c7
   clear c7
   by_cases c13:(wrap64 ((wrap64 (a4+1))*a2)) < (wrap64 ((wrap64 (a3+1))*a1))
   ·rw [if_pos c13] at H
    have abO:=decide_eq_true c13
    clear c13
    replace H:=zO H
    obtain ⟨aoQ,A14,H⟩:=H
    try dsimp only at H
    obtain rfl:=Option.some.inj H
    go_enter Tryz.func141,Tryz.ntmps141
    go_wp2_with (first|((with_reducible refine aA (f:=118) rfl ?_);refine aH (some 46) rfl rfl Tryz.func118 (by kernel_rfl) rfl #[.int .i64 (wrap64 ((wrap64 ((wrap64 (a4+1))*a2)) - (wrap64 (a3*a1)))),.int .i64 1073741824,.int .i64 a1] rfl zL ?_;(with_reducible refine (aX.calls k (wrap64 ((wrap64 ((wrap64 (a4+1))*a2)) - (wrap64 (a3*a1)))) 1073741824 a1 aoQ _ A14.out).mono ?_);rintro e w15 ⟨rfl,hb⟩;refine ⟨_,rfl,?_⟩;replace HB:=aj.mk (ak zB hb);(try clear hb)))
    go_ret
    exact ⟨zS,zB⟩
   ·rw [if_neg c13] at H
    have abO:=decide_eq_false c13
    clear c13
    replace H:=zO H
    obtain ⟨aoR,A16,H⟩:=H
    try dsimp only at H
    obtain rfl:=Option.some.inj H
    go_enter Tryz.func141,Tryz.ntmps141
    go_wp2_with (first|((with_reducible refine aA (f:=118) rfl ?_);refine aH (some 46) rfl rfl Tryz.func118 (by kernel_rfl) rfl #[.int .i64 (wrap64 ((wrap64 ((wrap64 (a3+1))*a1)) - (wrap64 (a3*a1)))),.int .i64 1073741824,.int .i64 a1] rfl zL ?_;(with_reducible refine (aX.calls k (wrap64 ((wrap64 ((wrap64 (a3+1))*a1)) - (wrap64 (a3*a1)))) 1073741824 a1 aoR _ A16.out).mono ?_);rintro e w17 ⟨rfl,hb⟩;refine ⟨_,rfl,?_⟩;replace HB:=aj.mk (ak zB hb);(try clear hb)))
    go_ret
    exact ⟨zS,zB⟩
 ·rw [if_neg c6] at H
  have iw:(a0 == 0)=false:=beq_eq_false_iff_ne.mpr c6
  have um:(a0 != 0)=true:=bne_iff_ne.mpr c6
  replace H:=zO H
  obtain ⟨⟨aho,ahp⟩,A18,H⟩:=H
  try dsimp only at H
  by_cases c19:a0=1
  ·rw [if_pos c19] at H
   have aui:(a0 == 1)=true:=beq_iff_eq.mpr c19
   have auj:(a0 != 1)=false:=bne_eq_false_iff_eq.mpr c19
   clear c19
   replace H:=zO H
   obtain ⟨aoS,A20,H⟩:=H
   try dsimp only at H
   obtain rfl:=Option.some.inj H
   go_enter Tryz.func141,Tryz.ntmps141
   go_wp2_with (first|((with_reducible refine aA (f:=169) rfl ?_);refine aH (some 52) rfl rfl Tryz.func169 (by kernel_rfl) rfl #[.int .i64 a1,.int .i64 a2,.int .i64 a3,.int .i64 a4] rfl zL ?_;(with_reducible refine (fM.calls a1 a2 a3 a4 aho ahp _ A18.out).mono ?_);rintro e w' ⟨rfl,⟨nd,rfl⟩⟩;refine ⟨_,rfl,?_⟩)|((with_reducible refine aA (f:=170) rfl ?_);refine aH (some 59) rfl rfl Tryz.func170 (by kernel_rfl) rfl #[.int .i64 aho,.int .i64 ahp] rfl zL ?_;(with_reducible refine (bI.calls k aho ahp aoS _ A20.out).mono ?_);rintro e w21 ⟨rfl,hb⟩;refine ⟨_,rfl,?_⟩;replace HB:=aj.mk (ak zB hb);(try clear hb)))
   go_ret
   exact ⟨zS,zB⟩
  ·rw [if_neg c19] at H
   have aui:(a0 == 1)=false:=beq_eq_false_iff_ne.mpr c19
   have auj:(a0 != 1)=true:=bne_iff_ne.mpr c19
   replace H:=zO H
   obtain ⟨aoT,A22,H⟩:=H
   try dsimp only at H
   obtain rfl:=Option.some.inj H
   go_enter Tryz.func141,Tryz.ntmps141
   go_wp2_with (first|((with_reducible refine aA (f:=169) rfl ?_);refine aH (some 52) rfl rfl Tryz.func169 (by kernel_rfl) rfl #[.int .i64 a1,.int .i64 a2,.int .i64 a3,.int .i64 a4] rfl zL ?_;(with_reducible refine (fM.calls a1 a2 a3 a4 aho ahp _ A18.out).mono ?_);rintro e w' ⟨rfl,⟨nd,rfl⟩⟩;refine ⟨_,rfl,?_⟩)|((with_reducible refine aA (f:=171) rfl ?_);refine aH (some 62) rfl rfl Tryz.func171 (by kernel_rfl) rfl #[.int .i64 aho,.int .i64 ahp] rfl zL ?_;(with_reducible refine (dW.calls k aho ahp aoT _ A22.out).mono ?_);rintro e w23 ⟨rfl,hb⟩;refine ⟨_,rfl,?_⟩;replace HB:=aj.mk (ak zB hb);(try clear hb)))
   go_ret
   exact ⟨zS,zB⟩
end Go.Proofs.YtpondkggmcmpfaaGreatDoor.QA
namespace Go.Proofs.YtpondkggmcmpfaaGreatDoor.QA
open Go.Proofs.YtpondkggmcmpfaaGreatDoor.T
open Go.RowKit Go.Proofs.YtpondkggmcmpfaaGreatDoorW.PrintWords Go.Proofs.YtpondkggmcmpfaaGreatDoorW.PrintLast Go.Proofs.YtpondkggmcmpfaaGreatDoorW.PrintMore
attribute [local go_sem] dV dQ dR eP eX
set_option linter.unusedVariables false
set_option linter.unusedSimpArgs false
mutual
def bT.l0:Nat→Int→Int→Int→Int→Int→Option (Int × List Int)
 | 0,_,_,_,_,_=>none
 | k+1,x0,x1,x2,x3,x10=>(iU.f x0 x1 x2 x3 (wrap64 (x10 - 1))).bind fun aoU=>(if aoU=true then (bT.l0 k x0 x1 x2 x3 (wrap64 (x10 - 1))) else (bT.l1 k x0 x1 x2 x3 x10))
def bT.l1:Nat→Int→Int→Int→Int→Int→Option (Int × List Int)
 | 0,_,_,_,_,_=>none
 | k+1,x0,x1,x2,x3,x10=>(iU.f x0 x1 x2 x3 x10).bind fun aoV=>(if aoV=true then (bT.l2 k x0 x1 x2 x3 x10 x10 ([]:List Int)) else (bT.l1 k x0 x1 x2 x3 (wrap64 (x10+1))))
def bT.l2:Nat→Int→Int→Int→Int→Int→Int→List Int→Option (Int × List Int)
 | 0,_,_,_,_,_,_,_=>none
 | k+1,x0,x1,x2,x3,x10,x11,x12=>(iU.f x0 x1 x2 x3 x10).bind fun aoW=>(if aoW=true then ((kZ.f k x0 x1 x2 x3 x10).bind fun ahq=>(if x12.length < 17592186044416 then (bT.l2 k x0 x1 x2 x3 (wrap64 (x10+1)) x11 (x12 ++ [ahq])) else (none))) else (some (x11,x12)))
end
def bT.f (k:Nat) (a0 a1 a2 a3:Int):Option (Int × List Int):=(kN.f a0 a1 a2 a3).bind fun aoX=>(if aoX=true then (if a2=0 then (none) else (bT.l0 k a0 a1 a2 a3 (wrap64 (Int.tdiv (wrap64 (a3*a1)) a2)))) else (some (0,([]:List Int))))
set_option maxHeartbeats 8000000 in
set_option maxRecDepth 100000 in
theorem bT.calls (k:Nat) (a0 a1 a2 a3 r1:Int) (r2:List Int) (w:World) (h:bT.f k a0 a1 a2 a3=some (r1,r2)) :
  Calls Tryz.prog 114 #[.int .i64 a0,.int .i64 a1,.int .i64 a2,.int .i64 a3] w fun e w'=>∃ v1_:Value,e = .returned (.tuple #[.int .i64 r1,v1_])∧Kd.R (Kd.int .i64) 2 w' w.heap.size (fun _=>True) v1_ r2∧Below w.heap.size w w':=by
 have HB:=aj.mk (Below.refl w.heap.size w)
 have H:=h
 clear h
 unfold bT.f at H
 replace H:=zO H
 obtain ⟨aoX,A5,H⟩:=H
 try dsimp only at H
 by_cases c6:aoX=true
 ·subst c6
  rw [if_pos rfl] at H;try dsimp only at H
  by_cases c7:a2=0
  ·rw [if_pos c7] at H
   exact absurd H (by simp)
  ·rw [if_neg c7] at H
   have jr:(a2 == 0)=false:=beq_eq_false_iff_ne.mpr c7
   have abd:(a2 != 0)=true:=bne_iff_ne.mpr c7
   have H':=aj.mk H
   clear H
   go_enter Tryz.func114,Tryz.ntmps114
   go_wp2_with (first|((with_reducible refine aA (f:=139) rfl ?_);refine aH (some 17) rfl rfl Tryz.func139 (by kernel_rfl) rfl #[.int .i64 a0,.int .i64 a1,.int .i64 a2,.int .i64 a3] rfl zL ?_;(with_reducible refine (kN.calls a0 a1 a2 a3 true _ A5.out).mono ?_);rintro e w' ⟨rfl,⟨nd,rfl⟩⟩;refine ⟨_,rfl,?_⟩))
   go_loopg [10] k (fun kq v10 w'=>∃ (vP:Int),v10 = .int .i64 vP∧aj (bT.l0 kq a0 a1 a2 a3 vP=some (r1,r2))∧aj (kq≤k)∧aj (Below w.heap.size w w'))
   case atStart=>exact ⟨(wrap64 (Int.tdiv (wrap64 (a3*a1)) a2)),zT,H',⟨Nat.le_refl _⟩,⟨zB⟩⟩
   case round =>
    clear H'
    obtain ⟨vP,rfl,HA,HK1,HB⟩:=hrel
    cases gk with
    | zero=>exact absurd HA.out (by simp [bT.l0])
    | succ k1 =>
     have H:=HA.out
     clear HA
     simp only [bT.l0] at H
     replace H:=zO H
     obtain ⟨aoU,A8,H⟩:=H
     try dsimp only at H
     by_cases c9:aoU=true
     ·subst c9
      rw [if_pos rfl] at H;try dsimp only at H
      have H':=aj.mk H
      clear H
      go_wp2_with (first|((with_reducible refine aA (f:=140) rfl ?_);refine aH (some 30) rfl rfl Tryz.func140 (by kernel_rfl) rfl #[.int .i64 a0,.int .i64 a1,.int .i64 a2,.int .i64 a3,.int .i64 (wrap64 (vP - 1))] rfl zL ?_;(with_reducible refine (iU.calls a0 a1 a2 a3 (wrap64 (vP - 1)) true _ A8.out).mono ?_);rintro e w' ⟨rfl,⟨nd,rfl⟩⟩;refine ⟨_,rfl,?_⟩))
      go_roundg k1
      case measure=>have:=HK1.out;omega
      case rel=>exact ⟨(wrap64 (vP - 1)),zT,H',⟨by have:=HK1.out;omega⟩,⟨zB⟩⟩
     ·replace c9:=Bool.eq_false_iff.mpr c9
      subst c9
      rw [if_neg (show ¬ (false=true) by decide)] at H;try dsimp only at H
      have H':=aj.mk H
      clear H
      go_wp2_with (first|((with_reducible refine aA (f:=140) rfl ?_);refine aH (some 30) rfl rfl Tryz.func140 (by kernel_rfl) rfl #[.int .i64 a0,.int .i64 a1,.int .i64 a2,.int .i64 a3,.int .i64 (wrap64 (vP - 1))] rfl zL ?_;(with_reducible refine (iU.calls a0 a1 a2 a3 (wrap64 (vP - 1)) false _ A8.out).mono ?_);rintro e w' ⟨rfl,⟨nd,rfl⟩⟩;refine ⟨_,rfl,?_⟩))
      try simp only [Act.put,List.setIfInBounds_toArray,List.set_cons_succ,List.set_cons_zero]
      go_loopg [10] k1 (fun kq v10 w'=>∃ (iY:Int),v10 = .int .i64 iY∧aj (bT.l1 kq a0 a1 a2 a3 iY=some (r1,r2))∧aj (kq≤k1)∧aj (Below w.heap.size w w'))
      case atStart=>exact ⟨(vP),zT,H',⟨Nat.le_refl _⟩,⟨zB⟩⟩
      case round =>
       clear H'
       obtain ⟨iY,rfl,HA,HK2,HB⟩:=hrel
       cases gk with
       | zero=>exact absurd HA.out (by simp [bT.l1])
       | succ k2 =>
        have H:=HA.out
        clear HA
        simp only [bT.l1] at H
        replace H:=zO H
        obtain ⟨aoV,A10,H⟩:=H
        try dsimp only at H
        by_cases c11:aoV=true
        ·subst c11
         rw [if_pos rfl] at H;try dsimp only at H
         have H':=aj.mk H
         clear H
         go_wp2_with (first|((with_reducible refine aA (f:=140) rfl ?_);refine aH (some 38) rfl rfl Tryz.func140 (by kernel_rfl) rfl #[.int .i64 a0,.int .i64 a1,.int .i64 a2,.int .i64 a3,.int .i64 iY] rfl zL ?_;(with_reducible refine (iU.calls a0 a1 a2 a3 iY true _ A10.out).mono ?_);rintro e w' ⟨rfl,⟨nd,rfl⟩⟩;refine ⟨_,rfl,?_⟩))
         try simp only [Act.put,List.setIfInBounds_toArray,List.set_cons_succ,List.set_cons_zero]
         go_loopg [10,12] k2 (fun kq v10 v12 w'=>∃ (mJ:Int) (aeP:List Int),v10 = .int .i64 mJ∧aj (bT.l2 kq a0 a1 a2 a3 mJ iY aeP=some (r1,r2))∧aj (kq≤k2)∧aj (Kd.R (Kd.int .i64) 2 w' w.heap.size (fun _=>True) v12 aeP)∧aj (Below w.heap.size w w'))
         case atStart=>exact ⟨(iY),(([]:List Int)),zT,H',⟨Nat.le_refl _⟩,⟨by first|exact Kd.jZ _ _ _ _ _|exact Kd.oI _ _ _ _ _|exact Kd.nD _ _ _ _ _|exact Kd.oJ _ _ _ _ _|exact Kd.ou _ _ _ _ _⟩,⟨zB⟩⟩
         case round =>
          clear H'
          obtain ⟨mJ,aeP,rfl,HA,HK3,aiW,HB⟩:=hrel
          cases gk with
          | zero=>exact absurd HA.out (by simp [bT.l2])
          | succ k3 =>
           have H:=HA.out
           clear HA
           simp only [bT.l2] at H
           replace H:=zO H
           obtain ⟨aoW,A12,H⟩:=H
           try dsimp only at H
           by_cases c13:aoW=true
           ·subst c13
            rw [if_pos rfl] at H;try dsimp only at H
            replace H:=zO H
            obtain ⟨ahq,A14,H⟩:=H
            try dsimp only at H
            by_cases c15:aeP.length < 17592186044416
            ·rw [if_pos c15] at H
             have amm:=aj.mk c15
             clear c15
             obtain ⟨asl,agv⟩:∃ y_:List Int,y_=(aeP ++ [ahq]):=⟨_,rfl⟩
             replace H:(bT.l2 k3 a0 a1 a2 a3 (wrap64 (mJ+1)) iY asl)=some (r1,r2):=by first|(rw [agv];with_reducible exact H)|(have H2_:=(Option.bind_some _ _).symm.trans H;rw [agv];with_reducible exact H2_)|(have H2_:=(Option.bind_some _ _).symm.trans H;with_reducible exact H2_)|with_reducible exact H|(rw [agv];exact H)|exact H
             have auk:=aj.mk agv
             clear agv
             have H':=aj.mk H
             clear H
             go_wp2_with (first|((with_reducible refine aA (f:=140) rfl ?_);refine aH (some 48) rfl rfl Tryz.func140 (by kernel_rfl) rfl #[.int .i64 a0,.int .i64 a1,.int .i64 a2,.int .i64 a3,.int .i64 mJ] rfl zL ?_;(with_reducible refine (iU.calls a0 a1 a2 a3 mJ true _ A12.out).mono ?_);rintro e w' ⟨rfl,⟨nd,rfl⟩⟩;refine ⟨_,rfl,?_⟩)|((with_reducible refine aA (f:=141) rfl ?_);refine aH (some 55) rfl rfl Tryz.func141 (by kernel_rfl) rfl #[.int .i64 a0,.int .i64 a1,.int .i64 a2,.int .i64 a3,.int .i64 mJ] rfl zL ?_;(with_reducible refine (kZ.calls k3 a0 a1 a2 a3 mJ ahq _ A14.out).mono ?_);rintro e w16 ⟨rfl,hb⟩;refine ⟨_,rfl,?_⟩;obtain ⟨aiW,HB⟩:=zA2 (Kd.jL (by (with_reducible repeat (first|apply Kd.aK|apply Kd.aQ|apply Kd.aW));exact aiW.out) hb) (ak zB hb);(try clear hb))|((with_reducible refine jE (b := .append) (xs := #[.tmp 49,.tmp 56]) rfl ?_);at_builtin;refine Kd.kT (Kd.int .i64) (w0:=w) w.heap.size rfl (.tmp 49) (.tmp 56) 44 2 (.int .i64 0) 8 rfl Tryz.underlying44 vH rfl (by decide) (by omega) u12 aeP ahq [.int .i64 ahq] (fun _=>True) (fun _=>False) rfl rfl ?aP (fun _ hk=>hk.elim) ?aF ?aO ?aB ?aS ?aL ?_;(case aP=>exact rfl);(case aB=>exact zB);(case aF=>exact (fun _ _=>trivial));(case aO=>exact (by (with_reducible repeat (first|apply Kd.aK|apply Kd.aQ|apply Kd.aW));exact aiW.out));(case aS=>exact (bF zB));(case aL=>have:=amm.out;omega);intro aAN w17 ho hb hg hat;rw [← auk.out] at ho;obtain ⟨HB,aul⟩:=zA2 hb ho;clear ho hb hg hat))
             go_roundg k3
             case measure=>have:=HK1.out;have:=HK2.out;have:=HK3.out;omega
             case rel=>exact ⟨(wrap64 (mJ+1)),(asl),zT,H',⟨by have:=HK1.out;have:=HK2.out;have:=HK3.out;omega⟩,⟨by (with_reducible repeat (first|apply Kd.aK|apply Kd.aQ|apply Kd.aW));exact aul.out⟩,⟨zB⟩⟩
            ·rw [if_neg c15] at H
             exact absurd H (by simp)
           ·replace c13:=Bool.eq_false_iff.mpr c13
            subst c13
            rw [if_neg (show ¬ (false=true) by decide)] at H;try dsimp only at H
            simp only [Option.some.injEq,Prod.mk.injEq] at H
            obtain ⟨rfl,rfl⟩:=H
            go_wp2_with (first|((with_reducible refine aA (f:=140) rfl ?_);refine aH (some 48) rfl rfl Tryz.func140 (by kernel_rfl) rfl #[.int .i64 a0,.int .i64 a1,.int .i64 a2,.int .i64 a3,.int .i64 mJ] rfl zL ?_;(with_reducible refine (iU.calls a0 a1 a2 a3 mJ false _ A12.out).mono ?_);rintro e w' ⟨rfl,⟨nd,rfl⟩⟩;refine ⟨_,rfl,?_⟩))
            go_ret2
            exact ⟨_,zS,by (with_reducible repeat (first|apply Kd.aK|apply Kd.aQ|apply Kd.aW));exact aiW.out,zB⟩
        ·replace c11:=Bool.eq_false_iff.mpr c11
         subst c11
         rw [if_neg (show ¬ (false=true) by decide)] at H;try dsimp only at H
         have H':=aj.mk H
         clear H
         go_wp2_with (first|((with_reducible refine aA (f:=140) rfl ?_);refine aH (some 38) rfl rfl Tryz.func140 (by kernel_rfl) rfl #[.int .i64 a0,.int .i64 a1,.int .i64 a2,.int .i64 a3,.int .i64 iY] rfl zL ?_;(with_reducible refine (iU.calls a0 a1 a2 a3 iY false _ A10.out).mono ?_);rintro e w' ⟨rfl,⟨nd,rfl⟩⟩;refine ⟨_,rfl,?_⟩))
         go_roundg k2
         case measure=>have:=HK1.out;have:=HK2.out;omega
         case rel=>exact ⟨(wrap64 (iY+1)),zT,H',⟨by have:=HK1.out;have:=HK2.out;omega⟩,⟨zB⟩⟩
 ·replace c6:=Bool.eq_false_iff.mpr c6
  subst c6
  rw [if_neg (show ¬ (false=true) by decide)] at H;try dsimp only at H
  simp only [Option.some.injEq,Prod.mk.injEq] at H
  obtain ⟨rfl,rfl⟩:=H
  go_enter Tryz.func114,Tryz.ntmps114
  go_wp2_with (first|((with_reducible refine aA (f:=139) rfl ?_);refine aH (some 17) rfl rfl Tryz.func139 (by kernel_rfl) rfl #[.int .i64 a0,.int .i64 a1,.int .i64 a2,.int .i64 a3] rfl zL ?_;(with_reducible refine (kN.calls a0 a1 a2 a3 false _ A5.out).mono ?_);rintro e w' ⟨rfl,⟨nd,rfl⟩⟩;refine ⟨_,rfl,?_⟩))
  go_ret2
  exact ⟨_,zS,by first|exact Kd.jZ _ _ _ _ _|exact Kd.oI _ _ _ _ _|exact Kd.nD _ _ _ _ _|exact Kd.oJ _ _ _ _ _|exact Kd.ou _ _ _ _ _,zB⟩
def iF.f (a0:Int):Option (Int):=if a0≥0 then (some a0) else (if a0 < (-9223372036854775807) then (some 9223372036854775807) else (some (wrap64 (-a0))))
set_option maxHeartbeats 8000000 in
set_option maxRecDepth 100000 in
theorem iF.calls (a0 r:Int) (w:World) (h:iF.f a0=some r) :
  Calls Tryz.prog 142 #[.int .i64 a0] w fun e w'=>e = .returned (.int .i64 r)∧dw w w':=by
 have H:=h
 clear h
 unfold iF.f at H
 by_cases c2:a0≥0
 ·rw [if_pos c2] at H
  have lQ:=decide_eq_true c2
  clear c2
  obtain rfl:=Option.some.inj H
  go_enter Tryz.func142,Tryz.ntmps142
  go_wp2
  go_ret
  exact ⟨zT,zW⟩
 ·rw [if_neg c2] at H
  have lQ:=decide_eq_false c2
  clear c2
  by_cases c3:a0 < (-9223372036854775807)
  ·rw [if_pos c3] at H
   have fO:=decide_eq_true c3
   clear c3
   obtain rfl:=Option.some.inj H
   go_enter Tryz.func142,Tryz.ntmps142
   go_wp2
   go_ret
   exact ⟨zT,zW⟩
  ·rw [if_neg c3] at H
   have fO:=decide_eq_false c3
   clear c3
   obtain rfl:=Option.some.inj H
   go_enter Tryz.func142,Tryz.ntmps142
   go_wp2
   go_ret
   exact ⟨zT,zW⟩
end Go.Proofs.YtpondkggmcmpfaaGreatDoor.QA
namespace Go.Proofs.YtpondkggmcmpfaaGreatDoor.QA
open Go.Proofs.YtpondkggmcmpfaaGreatDoor.T
open Go.RowKit Go.Proofs.YtpondkggmcmpfaaGreatDoorW.PrintWords Go.Proofs.YtpondkggmcmpfaaGreatDoorW.PrintLast Go.Proofs.YtpondkggmcmpfaaGreatDoorW.PrintMore
attribute [local go_sem] dV dQ dR eP eX
set_option linter.unusedVariables false
set_option linter.unusedSimpArgs false
def gJ.j0:Nat→Int→Int→Bool→Option (Int)
 | 0,_,_,_=>none
 | k+1,x0,x1,x12=>if x12=true then (some 9223372036854775807) else (if x1 < 0 then (if x0 < (wrap64 ((-9223372036854775808) - x1)) then (some (-9223372036854775808)) else (some (wrap64 (x0+x1)))) else (some (wrap64 (x0+x1))))
def gJ.f (k:Nat) (a0 a1:Int):Option (Int):=if a1 > 0 then (gJ.j0 k a0 a1 (decide (a0 > (wrap64 (9223372036854775807 - a1))))) else (gJ.j0 k a0 a1 false)
set_option maxHeartbeats 8000000 in
set_option maxRecDepth 100000 in
theorem gJ.calls (k:Nat) (a0 a1 r:Int) (w:World) (h:gJ.f k a0 a1=some r) :
  Calls Tryz.prog 147 #[.int .i64 a0,.int .i64 a1] w fun e w'=>e = .returned (.int .i64 r)∧dw w w':=by
 have H:=h
 clear h
 unfold gJ.f at H
 have HC3:=aj.mk H
 clear H
 go_enter Tryz.func147,Tryz.ntmps147
 go_upto_region 1 with (fail)
 go_cut [12] (fun v12 wc=>∃ (kq:Nat) (aiX:Bool),v12 = .bool aiX∧aj (gJ.j0 kq a0 a1 aiX=some r)∧aj (kq≤k)∧dw w wc)
 case first =>
  have H:=HC3.out
  clear HC3
  by_cases c4:a1 > 0
  ·rw [if_pos c4] at H
   have fU:=decide_eq_true c4
   clear c4
   (first|rw [fU]|(simp only [bZ,dA];rw [fU])|skip)
   have H':=aj.mk H
   clear H
   go_wp2
   go_meet
   case rel=>exact ⟨_,(decide (a0 > (wrap64 (9223372036854775807 - a1)))),zT,H',⟨by first|omega|exact Nat.le_refl _⟩,zW⟩
  ·rw [if_neg c4] at H
   have fU:=decide_eq_false c4
   clear c4
   (first|rw [fU]|(simp only [bZ,dA];rw [fU])|skip)
   have H':=aj.mk H
   clear H
   go_wp2
   go_meet
   case rel=>exact ⟨_,(false),zT,H',⟨by first|omega|exact Nat.le_refl _⟩,zW⟩
 case rest =>
  clear HC3
  obtain ⟨kq,aiX,rfl,HA,HJ2,⟨mc2,rfl⟩⟩:=hcut
  cases kq with
  | zero=>exact absurd HA.out (by simp [gJ.j0])
  | succ kj2 =>
   have H:=HA.out
   clear HA
   simp only [gJ.j0] at H
   by_cases c5:aiX=true
   ·subst c5
    rw [if_pos rfl] at H;try dsimp only at H
    obtain rfl:=Option.some.inj H
    go_wp2
    go_ret
    exact ⟨zT,zW⟩
   ·replace c5:=Bool.eq_false_iff.mpr c5
    subst c5
    rw [if_neg (show ¬ (false=true) by decide)] at H;try dsimp only at H
    by_cases c6:a1 < 0
    ·rw [if_pos c6] at H
     have iw:=decide_eq_true c6
     clear c6
     by_cases c7:a0 < (wrap64 ((-9223372036854775808) - a1))
     ·rw [if_pos c7] at H
      have jr:=decide_eq_true c7
      clear c7
      obtain rfl:=Option.some.inj H
      go_wp2
      go_ret
      exact ⟨zT,zW⟩
     ·rw [if_neg c7] at H
      have jr:=decide_eq_false c7
      clear c7
      obtain rfl:=Option.some.inj H
      go_wp2
      go_ret
      exact ⟨zT,zW⟩
    ·rw [if_neg c6] at H
     have iw:=decide_eq_false c6
     clear c6
     obtain rfl:=Option.some.inj H
     go_wp2
     go_ret
     exact ⟨zT,zW⟩
def eG.l0:Nat→Int→List Int→Int→Int→Option (Int)
 | 0,_,_,_,_=>none
 | k+1,x3,x6,x7,x8=>if x8 < x7 then (if 0≤x8 then (if x8 < (x6.length:Int) then ((gJ.f k x3 (rd x6 x8)).bind fun amn=>(eG.l0 k amn x6 x7 (wrap64 (x8+1)))) else (none)) else (none)) else (some x3)
def eG.f (k:Nat) (l0:List Int):Option (Int):=eG.l0 k 0 l0 (l0.length:Int) 0
set_option maxHeartbeats 8000000 in
set_option maxRecDepth 100000 in
theorem eG.calls (k:Nat) (A0:Option Addr) (c0:Nat) (l0:List Int) (r:Int) (w:World) (hr0:Kd.C (Kd.int .i64) w A0 l0.length l0) (hc0:l0.length≤c0) (h:eG.f k l0=some r) :
  Calls Tryz.prog 143 #[.slice A0 l0.length c0] w fun e w'=>e = .returned (.int .i64 r)∧dw w w':=by
 have HR0:=aj.mk hr0
 have HC0:=aj.mk hc0
 clear hr0 hc0
 have H:=h
 clear h
 unfold eG.f at H
 have H':=aj.mk H
 clear H
 go_enter Tryz.func143,Tryz.ntmps143
 go_wp2
 go_loopg [3,8] k (fun kq v3 v8 w'=>∃ (qA:Int) (gY:Int),v3 = .int .i64 qA∧v8 = .int .i64 gY∧aj (eG.l0 kq qA l0 (l0.length:Int) gY=some r)∧aj (kq≤k)∧dw w w')
 case atStart=>exact ⟨(0),(0),zT,zT,H',⟨Nat.le_refl _⟩,zW⟩
 case round =>
  clear H'
  obtain ⟨qA,gY,rfl,rfl,HA,HK1,⟨m1,rfl⟩⟩:=hrel
  cases gk with
  | zero=>exact absurd HA.out (by simp [eG.l0])
  | succ k1 =>
   have H:=HA.out
   clear HA
   simp only [eG.l0] at H
   by_cases c2:gY < (l0.length:Int)
   ·rw [if_pos c2] at H
    have lQ:=decide_eq_true c2
    clear c2
    by_cases c3:0≤gY
    ·rw [if_pos c3] at H
     have fO:=decide_eq_true c3
     clear c3
     by_cases c4:gY < (l0.length:Int)
     ·rw [if_pos c4] at H
      have fU:=decide_eq_true c4
      clear c4
      replace H:=zO H
      obtain ⟨amn,A5,H⟩:=H
      try dsimp only at H
      have H':=aj.mk H
      clear H
      have aoY:0≤(gY:Int):=of_decide_eq_true (by first|(with_reducible assumption)|assumption)
      have aoZ:gY < (l0.length:Int):=of_decide_eq_true (by first|(with_reducible assumption)|assumption)
      obtain ⟨azQ,avu,axA⟩:=Kd.jD HR0.out gY aoY aoZ
      cases avu
      replace aoY:=eq_true aoY
      replace aoZ:=eq_true aoZ
      go_wp2_with (first|((with_reducible refine aA (f:=147) rfl ?_);refine aH (some 14) rfl rfl Tryz.func147 (by kernel_rfl) rfl #[.int .i64 qA,.int .i64 (rd l0 gY)] rfl zL ?_;(with_reducible refine (gJ.calls k1 qA (rd l0 gY) amn _ A5.out).mono ?_);rintro e w' ⟨rfl,⟨nd,rfl⟩⟩;refine ⟨_,rfl,?_⟩))
      go_roundg k1
      case measure=>have:=HK1.out;omega
      case rel=>exact ⟨(amn),(wrap64 (gY+1)),zT,zT,H',⟨by have:=HK1.out;omega⟩,zW⟩
     ·rw [if_neg c4] at H
      exact absurd H (by simp)
    ·rw [if_neg c3] at H
     exact absurd H (by simp)
   ·rw [if_neg c2] at H
    have lQ:=decide_eq_false c2
    clear c2
    obtain rfl:=Option.some.inj H
    go_wp2
    go_ret
    exact ⟨zT,zW⟩
end Go.Proofs.YtpondkggmcmpfaaGreatDoor.QA
namespace Go.Proofs.YtpondkggmcmpfaaGreatDoor.QA
open Go.Proofs.YtpondkggmcmpfaaGreatDoor.T
open Go.RowKit Go.Proofs.YtpondkggmcmpfaaGreatDoorW.PrintWords Go.Proofs.YtpondkggmcmpfaaGreatDoorW.PrintLast Go.Proofs.YtpondkggmcmpfaaGreatDoorW.PrintMore
attribute [local go_sem] dV dQ dR eP eX
set_option linter.unusedVariables false
set_option linter.unusedSimpArgs false
def dS.j0:Nat→Bool→Bool→Int→Int→Option (Int)
 | 0,_,_,_,_=>none
 | k+1,x7,x28,alm,aln=>if x28=true then ((gI.f alm aln 0 1).bind fun aqC=>((bP.f k aqC.1 aqC.2 x7).bind fun ajS=>(some ajS))) else ((bP.f k alm aln x7).bind fun ajT=>(some ajT))
def dS.f (k:Nat) (a0 a1:Int):Option (Int):=if a1=0 then (some 0) else ((dL.f a0).bind fun aeb=>((dL.f a1).bind fun aec=>((fA.f k 0 aeb aec).bind fun agw=>(if ((decide (a0 < 0)) != (decide (a1 < 0)))=true then (dS.j0 k ((decide (a0 < 0)) != (decide (a1 < 0))) (decide (agw.2.2 > 0)) agw.1 agw.2.1) else (dS.j0 k ((decide (a0 < 0)) != (decide (a1 < 0))) false agw.1 agw.2.1)))))
set_option maxHeartbeats 8000000 in
set_option maxRecDepth 100000 in
theorem dS.calls (k:Nat) (a0 a1 r:Int) (w:World) (h:dS.f k a0 a1=some r) :
  Calls Tryz.prog 144 #[.int .i64 a0,.int .i64 a1] w fun e w'=>e = .returned (.int .i64 r)∧Below w.heap.size w w':=by
 have xB:=Tryz.underlying179
 have HB:=aj.mk (Below.refl w.heap.size w)
 have H:=h
 clear h
 unfold dS.f at H
 by_cases c3:a1=0
 ·rw [if_pos c3] at H
  have fO:(a1 == 0)=true:=beq_iff_eq.mpr c3
  have wO:(a1 != 0)=false:=bne_eq_false_iff_eq.mpr c3
  clear c3
  obtain rfl:=Option.some.inj H
  go_enter Tryz.func144,Tryz.ntmps144
  go_wp2
  go_ret
  exact ⟨zS,zB⟩
 ·rw [if_neg c3] at H
  have fO:(a1 == 0)=false:=beq_eq_false_iff_ne.mpr c3
  have wO:(a1 != 0)=true:=bne_iff_ne.mpr c3
  replace H:=zO H
  obtain ⟨aeb,A4,H⟩:=H
  try dsimp only at H
  replace H:=zO H
  obtain ⟨aec,A5,H⟩:=H
  try dsimp only at H
  replace H:=zO H
  obtain ⟨⟨vk,vw,ao0⟩,A6,H⟩:=H
  try dsimp only at H
  rcases Bool.eq_false_or_eq_true ((decide (a0 < 0)) != (decide (a1 < 0))) with hsv|hsv
  ·have rH:((decide (a0 < 0)) != (decide (a1 < 0)))=true:=hsv
   have amo:((decide (a0 < 0)) == (decide (a1 < 0)))=false:=by simpa using hsv
   have HC7:=aj.mk H
   clear H
   go_enter Tryz.func144,Tryz.ntmps144
   go_upto_region 5 with (first|((with_reducible refine aA (f:=120) rfl ?_);refine aH (some 12) rfl rfl Tryz.func120 (by kernel_rfl) rfl #[.int .i64 a0] rfl zL ?_;(with_reducible refine (dL.calls a0 aeb _ A4.out).mono ?_);rintro e w' ⟨rfl,⟨nd,rfl⟩⟩;refine ⟨_,rfl,?_⟩)|((with_reducible refine aA (f:=120) rfl ?_);refine aH (some 15) rfl rfl Tryz.func120 (by kernel_rfl) rfl #[.int .i64 a1] rfl zL ?_;(with_reducible refine (dL.calls a1 aec _ A5.out).mono ?_);rintro e w' ⟨rfl,⟨nd,rfl⟩⟩;refine ⟨_,rfl,?_⟩)|((with_reducible refine aA (f:=172) rfl ?_);refine aH (some 16) rfl rfl Tryz.func172 (by kernel_rfl) rfl #[.agg #[.int .u64 0,.int .u64 aeb],.int .u64 aec] rfl zL ?_;(with_reducible refine (fA.calls k 0 aeb aec vk vw ao0 _ A6.out).mono ?_);rintro e w8 ⟨rfl,hb⟩;refine ⟨_,rfl,?_⟩;replace HB:=aj.mk (ak zB hb);(try clear hb))|((with_reducible refine bM (N:=5) rfl ?_);refine bU zR (N:=5) zR (cs := #[.int .u64 0,.int .u64 0]) (t:=179) zG ?_;intro agx hg w9 hbox hb;obtain ⟨HB,jS,aum,aun⟩:=zA4 (ak zB hb) hbox (zg hg zB) (zg hg zB);clear hb hbox hg;obtain ⟨_,_⟩:=zC2 jS.out;obtain ⟨_,_⟩:=zF2 jS.out))
   (try simp only [Act.put,List.setIfInBounds_toArray,List.set_cons_zero,List.set_cons_succ])
   go_cut [28] (fun v28 wc=>∃ (kq:Nat) (aaX:Bool),v28 = .bool aaX∧aj (dS.j0 kq ((decide (a0 < 0)) != (decide (a1 < 0))) aaX vk vw=some r)∧aj (kq≤k)∧aj (wc.heap[agx]? = some (.cells #[.int .u64 vk,.int .u64 vw] 179 (0,0)))∧aj (Below w.heap.size w wc))
   case first =>
    have H:=HC7.out
    clear HC7
    by_cases c11:((decide (a0 < 0)) != (decide (a1 < 0)))=true
    ·rw [if_pos c11] at H
     have iO:((decide (a0 < 0)) != (decide (a1 < 0)))=true:=c11
     (try (have yE:decide ((decide (a0 < 0))=(decide (a1 < 0)))=false:=by simpa using c11))
     (try (have amq:((decide (a0 < 0)) == (decide (a1 < 0)))=false:=by simpa using c11))
     (try (have auo:¬ ((decide (a0 < 0))=(decide (a1 < 0))):=by simpa using c11))
     clear c11
     (first|rw [iO]|(simp only [bZ,dA];rw [iO])|skip)
     have H':=aj.mk H
     clear H
     go_wp2
     go_meet
     case rel=>exact ⟨_,(decide (ao0 > 0)),zT,H',⟨by first|omega|exact Nat.le_refl _⟩,⟨by refine zD ?_;refine aY (cs := #[.int .u64 vk,.int .u64 0]) ?_ 1 _ rfl;refine zD ?_;refine aY (cs := #[.int .u64 0,.int .u64 0]) ?_ 0 _ rfl;refine zD ?_;exact jS.out⟩,⟨zB⟩⟩
    ·rw [if_neg c11] at H
     have iO:((decide (a0 < 0)) != (decide (a1 < 0)))=false:=by simpa using c11
     exact absurd (rH.symm.trans iO) (by decide)
   case rest =>
    clear HC7
    obtain ⟨kq,aaX,rfl,HA,HJ6,jS,HB⟩:=hcut
    cases kq with
    | zero=>exact absurd HA.out (by simp [dS.j0])
    | succ kj6 =>
     have H:=HA.out
     clear HA
     simp only [dS.j0] at H
     by_cases c12:aaX=true
     ·subst c12
      rw [if_pos rfl] at H;try dsimp only at H
      replace H:=zO H
      obtain ⟨⟨abm,ac0⟩,A13,H⟩:=H
      try dsimp only at H
      replace H:=zO H
      obtain ⟨ajS,A14,H⟩:=H
      try dsimp only at H
      obtain rfl:=Option.some.inj H
      obtain ⟨_,_⟩:=zC2 jS.out
      obtain ⟨_,_⟩:=zF2 jS.out
      go_wp2_with (first|((with_reducible refine aA (f:=124) rfl ?_);refine aH (some 31) rfl rfl Tryz.func124 (by kernel_rfl) rfl #[.agg #[.int .u64 vk,.int .u64 vw],.agg #[.int .u64 0,.int .u64 1]] rfl zL ?_;(with_reducible refine (gI.calls vk vw 0 1 abm ac0 _ A13.out).mono ?_);rintro e w16 ⟨rfl,hb⟩;refine ⟨_,rfl,?_⟩;obtain ⟨jS,HB⟩:=zA2 (ay (zK jS) hb) (ak zB hb);(try clear hb);obtain ⟨_,_⟩:=zC2 jS.out;obtain ⟨_,_⟩:=zF2 jS.out)|((with_reducible refine aA (f:=125) rfl ?_);refine aH (some 34) rfl rfl Tryz.func125 (by kernel_rfl) rfl #[.agg #[.int .u64 abm,.int .u64 ac0],.bool true] rfl zL ?_;(with_reducible refine (bP.calls kj6 abm ac0 true ajS _ (by have h:=A14.out;rw [rH] at h;exact h)).mono ?_);rintro e w18 ⟨rfl,hb⟩;refine ⟨_,rfl,?_⟩;obtain ⟨jS,HB⟩:=zA2 (ay (g:=agx) (o := .cells #[.int .u64 abm,.int .u64 ac0] 179 (0,0)) (by refine zD ?_;refine aY (cs := #[.int .u64 abm,.int .u64 vw]) ?_ 1 _ rfl;refine zD ?_;refine aY (cs := #[.int .u64 vk,.int .u64 vw]) ?_ 0 _ rfl;refine zD ?_;exact jS.out) hb) (ak zB hb);(try clear hb)))
      go_ret
      exact ⟨zS,zB⟩
     ·replace c12:=Bool.eq_false_iff.mpr c12
      subst c12
      rw [if_neg (show ¬ (false=true) by decide)] at H;try dsimp only at H
      replace H:=zO H
      obtain ⟨ajT,A19,H⟩:=H
      try dsimp only at H
      obtain rfl:=Option.some.inj H
      obtain ⟨_,_⟩:=zC2 jS.out
      obtain ⟨_,_⟩:=zF2 jS.out
      go_wp2_with (first|((with_reducible refine aA (f:=125) rfl ?_);refine aH (some 34) rfl rfl Tryz.func125 (by kernel_rfl) rfl #[.agg #[.int .u64 vk,.int .u64 vw],.bool true] rfl zL ?_;(with_reducible refine (bP.calls kj6 vk vw true ajT _ (by have h:=A19.out;rw [rH] at h;exact h)).mono ?_);rintro e w21 ⟨rfl,hb⟩;refine ⟨_,rfl,?_⟩;obtain ⟨jS,HB⟩:=zA2 (ay (zK jS) hb) (ak zB hb);(try clear hb)))
      go_ret
      exact ⟨zS,zB⟩
  ·have rH:((decide (a0 < 0)) != (decide (a1 < 0)))=false:=hsv
   have amo:((decide (a0 < 0)) == (decide (a1 < 0)))=true:=by simpa using hsv
   have HC7:=aj.mk H
   clear H
   go_enter Tryz.func144,Tryz.ntmps144
   go_upto_region 5 with (first|((with_reducible refine aA (f:=120) rfl ?_);refine aH (some 12) rfl rfl Tryz.func120 (by kernel_rfl) rfl #[.int .i64 a0] rfl zL ?_;(with_reducible refine (dL.calls a0 aeb _ A4.out).mono ?_);rintro e w' ⟨rfl,⟨nd,rfl⟩⟩;refine ⟨_,rfl,?_⟩)|((with_reducible refine aA (f:=120) rfl ?_);refine aH (some 15) rfl rfl Tryz.func120 (by kernel_rfl) rfl #[.int .i64 a1] rfl zL ?_;(with_reducible refine (dL.calls a1 aec _ A5.out).mono ?_);rintro e w' ⟨rfl,⟨nd,rfl⟩⟩;refine ⟨_,rfl,?_⟩)|((with_reducible refine aA (f:=172) rfl ?_);refine aH (some 16) rfl rfl Tryz.func172 (by kernel_rfl) rfl #[.agg #[.int .u64 0,.int .u64 aeb],.int .u64 aec] rfl zL ?_;(with_reducible refine (fA.calls k 0 aeb aec vk vw ao0 _ A6.out).mono ?_);rintro e w8 ⟨rfl,hb⟩;refine ⟨_,rfl,?_⟩;replace HB:=aj.mk (ak zB hb);(try clear hb))|((with_reducible refine bM (N:=5) rfl ?_);refine bU zR (N:=5) zR (cs := #[.int .u64 0,.int .u64 0]) (t:=179) zG ?_;intro agx hg w9 hbox hb;obtain ⟨HB,jS,aum,aun⟩:=zA4 (ak zB hb) hbox (zg hg zB) (zg hg zB);clear hb hbox hg;obtain ⟨_,_⟩:=zC2 jS.out;obtain ⟨_,_⟩:=zF2 jS.out))
   (try simp only [Act.put,List.setIfInBounds_toArray,List.set_cons_zero,List.set_cons_succ])
   go_cut [28] (fun v28 wc=>∃ (kq:Nat) (aaX:Bool),v28 = .bool aaX∧aj (dS.j0 kq ((decide (a0 < 0)) != (decide (a1 < 0))) aaX vk vw=some r)∧aj (kq≤k)∧aj (wc.heap[agx]? = some (.cells #[.int .u64 vk,.int .u64 vw] 179 (0,0)))∧aj (Below w.heap.size w wc))
   case first =>
    have H:=HC7.out
    clear HC7
    by_cases c11:((decide (a0 < 0)) != (decide (a1 < 0)))=true
    ·rw [if_pos c11] at H
     have iO:((decide (a0 < 0)) != (decide (a1 < 0)))=true:=c11
     exact absurd (rH.symm.trans iO) (by decide)
    ·rw [if_neg c11] at H
     have iO:((decide (a0 < 0)) != (decide (a1 < 0)))=false:=by simpa using c11
     (try (have yE:decide ((decide (a0 < 0))=(decide (a1 < 0)))=true:=by simpa using c11))
     (try (have amq:((decide (a0 < 0)) == (decide (a1 < 0)))=true:=by simpa using c11))
     clear c11
     (first|rw [iO]|(simp only [bZ,dA];rw [iO])|skip)
     have H':=aj.mk H
     clear H
     go_wp2
     go_meet
     case rel=>exact ⟨_,(false),zT,H',⟨by first|omega|exact Nat.le_refl _⟩,⟨by refine zD ?_;refine aY (cs := #[.int .u64 vk,.int .u64 0]) ?_ 1 _ rfl;refine zD ?_;refine aY (cs := #[.int .u64 0,.int .u64 0]) ?_ 0 _ rfl;refine zD ?_;exact jS.out⟩,⟨zB⟩⟩
   case rest =>
    clear HC7
    obtain ⟨kq,aaX,rfl,HA,HJ6,jS,HB⟩:=hcut
    cases kq with
    | zero=>exact absurd HA.out (by simp [dS.j0])
    | succ kj6 =>
     have H:=HA.out
     clear HA
     simp only [dS.j0] at H
     by_cases c12:aaX=true
     ·subst c12
      rw [if_pos rfl] at H;try dsimp only at H
      replace H:=zO H
      obtain ⟨⟨abm,ac0⟩,A13,H⟩:=H
      try dsimp only at H
      replace H:=zO H
      obtain ⟨ajS,A14,H⟩:=H
      try dsimp only at H
      obtain rfl:=Option.some.inj H
      obtain ⟨_,_⟩:=zC2 jS.out
      obtain ⟨_,_⟩:=zF2 jS.out
      go_wp2_with (first|((with_reducible refine aA (f:=124) rfl ?_);refine aH (some 31) rfl rfl Tryz.func124 (by kernel_rfl) rfl #[.agg #[.int .u64 vk,.int .u64 vw],.agg #[.int .u64 0,.int .u64 1]] rfl zL ?_;(with_reducible refine (gI.calls vk vw 0 1 abm ac0 _ A13.out).mono ?_);rintro e w16 ⟨rfl,hb⟩;refine ⟨_,rfl,?_⟩;obtain ⟨jS,HB⟩:=zA2 (ay (zK jS) hb) (ak zB hb);(try clear hb);obtain ⟨_,_⟩:=zC2 jS.out;obtain ⟨_,_⟩:=zF2 jS.out)|((with_reducible refine aA (f:=125) rfl ?_);refine aH (some 34) rfl rfl Tryz.func125 (by kernel_rfl) rfl #[.agg #[.int .u64 abm,.int .u64 ac0],.bool false] rfl zL ?_;(with_reducible refine (bP.calls kj6 abm ac0 false ajS _ (by have h:=A14.out;rw [rH] at h;exact h)).mono ?_);rintro e w18 ⟨rfl,hb⟩;refine ⟨_,rfl,?_⟩;obtain ⟨jS,HB⟩:=zA2 (ay (g:=agx) (o := .cells #[.int .u64 abm,.int .u64 ac0] 179 (0,0)) (by refine zD ?_;refine aY (cs := #[.int .u64 abm,.int .u64 vw]) ?_ 1 _ rfl;refine zD ?_;refine aY (cs := #[.int .u64 vk,.int .u64 vw]) ?_ 0 _ rfl;refine zD ?_;exact jS.out) hb) (ak zB hb);(try clear hb)))
      go_ret
      exact ⟨zS,zB⟩
     ·replace c12:=Bool.eq_false_iff.mpr c12
      subst c12
      rw [if_neg (show ¬ (false=true) by decide)] at H;try dsimp only at H
      replace H:=zO H
      obtain ⟨ajT,A19,H⟩:=H
      try dsimp only at H
      obtain rfl:=Option.some.inj H
      obtain ⟨_,_⟩:=zC2 jS.out
      obtain ⟨_,_⟩:=zF2 jS.out
      go_wp2_with (first|((with_reducible refine aA (f:=125) rfl ?_);refine aH (some 34) rfl rfl Tryz.func125 (by kernel_rfl) rfl #[.agg #[.int .u64 vk,.int .u64 vw],.bool false] rfl zL ?_;(with_reducible refine (bP.calls kj6 vk vw false ajT _ (by have h:=A19.out;rw [rH] at h;exact h)).mono ?_);rintro e w21 ⟨rfl,hb⟩;refine ⟨_,rfl,?_⟩;obtain ⟨jS,HB⟩:=zA2 (ay (zK jS) hb) (ak zB hb);(try clear hb)))
      go_ret
      exact ⟨zS,zB⟩
end Go.Proofs.YtpondkggmcmpfaaGreatDoor.QA
