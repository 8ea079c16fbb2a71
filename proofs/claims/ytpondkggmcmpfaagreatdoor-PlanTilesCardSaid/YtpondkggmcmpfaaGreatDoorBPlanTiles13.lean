/- Joined by wip/tools/bundle.py out of: QAx30 QAx31 QAx32 QAx33 QAx34 QAx35. -/
import Derived.Test.YtpondkggmcmpfaaGreatDoorBPlanTiles0
import Derived.Test.YtpondkggmcmpfaaGreatDoorBPlanTiles1
import Derived.Test.YtpondkggmcmpfaaGreatDoorBPlanTiles7
import Derived.Test.YtpondkggmcmpfaaGreatDoorBPlanTiles12
namespace Go.Proofs.YtpondkggmcmpfaaGreatDoor.QA
open Go.Proofs.YtpondkggmcmpfaaGreatDoor.T
open Go.RowKit Go.Proofs.YtpondkggmcmpfaaGreatDoorW.PrintWords Go.Proofs.YtpondkggmcmpfaaGreatDoorW.PrintLast Go.Proofs.YtpondkggmcmpfaaGreatDoorW.PrintMore
attribute [local go_sem] eG dX dY fF fG
set_option linter.unusedVariables false
set_option linter.unusedSimpArgs false
mutual
def aX.j0:Nat→Int→Int→Int→Option (Int)
 | 0,_,_,_=>none
 | k+1,x0,x1,x2=>if x2 > 127 then (some 0) else ((dQ.f x0).bind fun ae6=>((dQ.f x1).bind fun ae7=>((dV.f k ae6 ae7).bind fun ake=>(if x2=0 then ((bW.f k ake.1 ake.2 ((decide (x0 < 0)) != (decide (x1 < 0)))).bind fun aqH=>(some aqH)) else (aX.l0 k x2 ((decide (x0 < 0)) != (decide (x1 < 0))) 127 ake.1 ake.2 0 0)))))
def aX.l0:Nat→Int→Bool→Int→Int→Int→Int→Int→Option (Int)
 | 0,_,_,_,_,_,_,_=>none
 | k+1,x2,x7,x10,zI,zJ,vg,vk=>if x10≥x2 then ((fO.f zI zJ x10).bind fun ak7=>((dO.f vg vk ak7).bind fun asV=>(aX.l0 k x2 x7 (wrap64 (x10 - 1)) zI zJ asV.1 asV.2))) else (aX.l1 k x2 x7 false (wrap64 (x2 - 1)) 0 zI zJ vg vk)
def aX.l1:Nat→Int→Bool→Bool→Int→Int→Int→Int→Int→Int→Option (Int)
 | 0,_,_,_,_,_,_,_,_,_=>none
 | k+1,x2,x7,x11,x44,x45,zI,zJ,vg,vk=>if x45 < x44 then (if x11=true then (aX.l1 k x2 x7 true x44 (wrap64 (x45+1)) zI zJ vg vk) else ((fO.f zI zJ x45).bind fun an2=>(aX.l1 k x2 x7 (an2 == 1) x44 (wrap64 (x45+1)) zI zJ vg vk))) else ((fO.f zI zJ (wrap64 (x2 - 1))).bind fun ada=>(if ada=1 then (if x11=true then (aX.j3 k x7 true vg vk) else (aX.j3 k x7 (!x7) vg vk)) else (aX.j3 k x7 false vg vk)))
def aX.j3:Nat→Bool→Bool→Int→Int→Option (Int)
 | 0,_,_,_,_=>none
 | k+1,x7,x67,vg,vk=>if x67=true then ((iq.f vg vk 0 1).bind fun asW=>((bW.f k asW.1 asW.2 x7).bind fun aqI=>(some aqI))) else ((bW.f k vg vk x7).bind fun aqJ=>(some aqJ))
end
def aX.f (k:Nat) (a0 a1 a2:Int):Option (Int):=if a2 < 0 then (aX.j0 k a0 a1 0) else (aX.j0 k a0 a1 a2)
set_option maxHeartbeats 8000000 in
set_option maxRecDepth 100000 in
theorem aX.calls (k:Nat) (a0 a1 a2 r:Int) (w:World) (h:aX.f k a0 a1 a2=some r) :
  Calls Tryz.prog 185 #[.int .i64 a0,.int .i64 a1,.int .i64 a2] w fun e w'=>e = .returned (.int .i64 r)∧Below w.heap.size w w':=by
 have yR:=Tryz.underlying179
 have HB:=aj.mk (Below.refl w.heap.size w)
 have H:=h
 clear h
 unfold aX.f at H
 have HC4:=aj.mk H
 clear H
 go_enter Tryz.func185,Tryz.ntmps185
 go_upto_if 14 with (fail)
 go_cut [2] (fun v2 wc=>∃ (kq:Nat) (vw:Int),v2 = .int .i64 vw∧aj (aX.j0 kq a0 a1 vw=some r)∧aj (kq≤k)∧aj (Below w.heap.size w wc))
 case first =>
  have H:=HC4.out
  clear HC4
  by_cases c5:a2 < 0
  ·rw [if_pos c5] at H
   have iR:=decide_eq_true c5
   clear c5
   (first|rw [iR]|(simp only [cZ,dB];rw [iR])|skip)
   have H':=aj.mk H
   clear H
   go_wp2
   go_meet
   case rel=>exact ⟨_,(0),zT,H',⟨by first|omega|exact Nat.le_refl _⟩,⟨zB⟩⟩
  ·rw [if_neg c5] at H
   have iR:=decide_eq_false c5
   clear c5
   (first|rw [iR]|(simp only [cZ,dB];rw [iR])|skip)
   have H':=aj.mk H
   clear H
   go_wp2
   go_meet
   case rel=>exact ⟨_,(a2),zT,H',⟨by first|omega|exact Nat.le_refl _⟩,⟨zB⟩⟩
 case rest =>
  clear HC4
  obtain ⟨kq,vw,rfl,HA,HJ3,HB⟩:=hcut
  cases kq with
  | zero=>exact absurd HA.out (by simp [aX.j0])
  | succ kj3 =>
   have H:=HA.out
   clear HA
   simp only [aX.j0] at H
   by_cases c6:vw > 127
   ·rw [if_pos c6] at H
    have iJ:=decide_eq_true c6
    clear c6
    obtain rfl:=Option.some.inj H
    go_wp2
    go_ret
    exact ⟨zS,zB⟩
   ·rw [if_neg c6] at H
    have iJ:=decide_eq_false c6
    clear c6
    replace H:=zO H
    obtain ⟨ae6,A7,H⟩:=H
    try dsimp only at H
    replace H:=zO H
    obtain ⟨ae7,A8,H⟩:=H
    try dsimp only at H
    replace H:=zO H
    obtain ⟨⟨pR,sG⟩,A9,H⟩:=H
    try dsimp only at H
    by_cases c10:vw=0
    ·rw [if_pos c10] at H
     have nN:(vw == 0)=true:=beq_iff_eq.mpr c10
     have asX:(vw != 0)=false:=bne_eq_false_iff_eq.mpr c10
     clear c10
     replace H:=zO H
     obtain ⟨aqH,A11,H⟩:=H
     try dsimp only at H
     obtain rfl:=Option.some.inj H
     go_wp2_with (first|((with_reducible refine aA (f:=120) rfl ?_);refine aI (some 23) rfl rfl Tryz.func120 (by kernel_rfl) rfl #[.int .i64 a0] rfl zL ?_;(with_reducible refine (dQ.calls a0 ae6 _ A7.out).mono ?_);rintro e w' ⟨rfl,⟨nd,rfl⟩⟩;refine ⟨_,rfl,?_⟩;(try (rw [oI wc];generalize hq_:World.drewN wc _=wc;have n0_:aj (Below w.heap.size w wc):=⟨by rw [← hq_];exact zB⟩;clear HB hq_;have HB:=n0_;clear n0_)))|((with_reducible refine aA (f:=120) rfl ?_);refine aI (some 25) rfl rfl Tryz.func120 (by kernel_rfl) rfl #[.int .i64 a1] rfl zL ?_;(with_reducible refine (dQ.calls a1 ae7 _ A8.out).mono ?_);rintro e w' ⟨rfl,⟨nd,rfl⟩⟩;refine ⟨_,rfl,?_⟩;(try (rw [oI wc];generalize hq_:World.drewN wc _=wc;have n0_:aj (Below w.heap.size w wc):=⟨by rw [← hq_];exact zB⟩;clear HB hq_;have HB:=n0_;clear n0_)))|((with_reducible refine aA (f:=148) rfl ?_);refine aI (some 26) rfl rfl Tryz.func148 (by kernel_rfl) rfl #[.int .u64 ae6,.int .u64 ae7] rfl zL ?_;(with_reducible refine (dV.calls kj3 ae6 ae7 pR sG _ A9.out).mono ?_);rintro e w12 ⟨rfl,hb⟩;refine ⟨_,rfl,?_⟩;replace HB:=aj.mk (ak zB hb);(try clear hb))|((with_reducible refine bK (N:=8) rfl ?_);refine bJ zR (N:=8) zR (cs := #[.int .u64 0,.int .u64 0]) (t:=179) zG ?_;intro yS hg w13 hbox hb;obtain ⟨HB,gZ,awL,awM⟩:=zA4 (ak zB hb) hbox (zg hg zB) (zg hg zB);clear hb hbox hg;obtain ⟨_,_⟩:=zC2 gZ.out;obtain ⟨_,_⟩:=zF2 gZ.out)|((with_reducible refine aA (f:=125) rfl ?_);refine aI (some 31) rfl rfl Tryz.func125 (by kernel_rfl) rfl #[.agg #[.int .u64 pR,.int .u64 sG],.bool ((decide (a0 < 0)) != (decide (a1 < 0)))] rfl zL ?_;(with_reducible refine (bW.calls kj3 pR sG ((decide (a0 < 0)) != (decide (a1 < 0))) aqH _ A11.out).mono ?_);rintro e w15 ⟨rfl,hb⟩;refine ⟨_,rfl,?_⟩;obtain ⟨gZ,HB⟩:=zA2 (ay (g:=yS) (o := .cells #[.int .u64 pR,.int .u64 sG] 179 (0,0)) (by refine zD ?_;refine aJ (cs := #[.int .u64 pR,.int .u64 0]) ?_ 1 _ rfl;refine zD ?_;refine aJ (cs := #[.int .u64 0,.int .u64 0]) ?_ 0 _ rfl;refine zD ?_;exact gZ.out) hb) (ak zB hb);(try clear hb)))
     go_ret
     exact ⟨zS,zB⟩
    ·rw [if_neg c10] at H
     have nN:(vw == 0)=false:=beq_eq_false_iff_ne.mpr c10
     have asX:(vw != 0)=true:=bne_iff_ne.mpr c10
     have H':=aj.mk H
     clear H
     go_wp2_with (first|((with_reducible refine aA (f:=120) rfl ?_);refine aI (some 23) rfl rfl Tryz.func120 (by kernel_rfl) rfl #[.int .i64 a0] rfl zL ?_;(with_reducible refine (dQ.calls a0 ae6 _ A7.out).mono ?_);rintro e w' ⟨rfl,⟨nd,rfl⟩⟩;refine ⟨_,rfl,?_⟩;(try (rw [oI wc];generalize hq_:World.drewN wc _=wc;have n0_:aj (Below w.heap.size w wc):=⟨by rw [← hq_];exact zB⟩;clear HB hq_;have HB:=n0_;clear n0_)))|((with_reducible refine aA (f:=120) rfl ?_);refine aI (some 25) rfl rfl Tryz.func120 (by kernel_rfl) rfl #[.int .i64 a1] rfl zL ?_;(with_reducible refine (dQ.calls a1 ae7 _ A8.out).mono ?_);rintro e w' ⟨rfl,⟨nd,rfl⟩⟩;refine ⟨_,rfl,?_⟩;(try (rw [oI wc];generalize hq_:World.drewN wc _=wc;have n0_:aj (Below w.heap.size w wc):=⟨by rw [← hq_];exact zB⟩;clear HB hq_;have HB:=n0_;clear n0_)))|((with_reducible refine aA (f:=148) rfl ?_);refine aI (some 26) rfl rfl Tryz.func148 (by kernel_rfl) rfl #[.int .u64 ae6,.int .u64 ae7] rfl zL ?_;(with_reducible refine (dV.calls kj3 ae6 ae7 pR sG _ A9.out).mono ?_);rintro e w16 ⟨rfl,hb⟩;refine ⟨_,rfl,?_⟩;replace HB:=aj.mk (ak zB hb);(try clear hb))|((with_reducible refine bK (N:=8) rfl ?_);refine bJ zR (N:=8) zR (cs := #[.int .u64 0,.int .u64 0]) (t:=179) zG ?_;intro yS hg w17 hbox hb;obtain ⟨HB,gZ,awL,awM⟩:=zA4 (ak zB hb) hbox (zg hg zB) (zg hg zB);clear hb hbox hg;obtain ⟨_,_⟩:=zC2 gZ.out;obtain ⟨_,_⟩:=zF2 gZ.out)|((with_reducible refine bK (N:=9) rfl ?_);refine bJ zR (N:=9) zR (cs := #[.int .u64 0,.int .u64 0]) (t:=179) zG ?_;intro aaY hg w19 hbox hb;obtain ⟨gZ,HB,iM,aCn,aCo,uh,uj⟩:=zA7 (ay (g:=yS) (o := .cells #[.int .u64 pR,.int .u64 sG] 179 (0,0)) (by refine zD ?_;refine aJ (cs := #[.int .u64 pR,.int .u64 0]) ?_ 1 _ rfl;refine zD ?_;refine aJ (cs := #[.int .u64 0,.int .u64 0]) ?_ 0 _ rfl;refine zD ?_;exact gZ.out) hb) (ak zB hb) hbox (zg hg zB) (zg hg zB) ((by rw [hg];exact Nat.ne_of_lt (dJ (g:=yS) (o := .cells #[.int .u64 pR,.int .u64 sG] 179 (0,0)) (by refine zD ?_;refine aJ (cs := #[.int .u64 pR,.int .u64 0]) ?_ 1 _ rfl;refine zD ?_;refine aJ (cs := #[.int .u64 0,.int .u64 0]) ?_ 0 _ rfl;refine zD ?_;exact gZ.out)):yS≠aaY)) ((by rw [hg];exact Nat.ne_of_gt (dJ (g:=yS) (o := .cells #[.int .u64 pR,.int .u64 sG] 179 (0,0)) (by refine zD ?_;refine aJ (cs := #[.int .u64 pR,.int .u64 0]) ?_ 1 _ rfl;refine zD ?_;refine aJ (cs := #[.int .u64 0,.int .u64 0]) ?_ 0 _ rfl;refine zD ?_;exact gZ.out)):aaY≠yS));clear hb hbox hg;have aCp:=uj.out;have aCq:=uh.out;obtain ⟨_,_⟩:=zC2 iM.out;obtain ⟨_,_⟩:=zF2 iM.out))
     go_loopg [10] kj3 (fun kq v10 w'=>∃ (jB:Int) (kU:Int) (ku:Int),v10 = .int .i64 jB∧aj (aX.l0 kq vw ((decide (a0 < 0)) != (decide (a1 < 0))) jB pR sG kU ku=some r)∧aj (kq≤kj3)∧aj (w'.heap[yS]? = some (.cells #[.int .u64 pR,.int .u64 sG] 179 (0,0)))∧aj (w'.heap[aaY]? = some (.cells #[.int .u64 kU,.int .u64 ku] 179 (0,0)))∧aj (Below w.heap.size w w'))
     case atStart=>exact ⟨(127),(0),(0),zT,H',⟨Nat.le_refl _⟩,⟨zK gZ⟩,⟨by refine zD ?_;refine aJ (cs := #[.int .u64 0,.int .u64 0]) ?_ 1 _ rfl;refine zD ?_;refine aJ (cs := #[.int .u64 0,.int .u64 0]) ?_ 0 _ rfl;refine zD ?_;exact iM.out⟩,⟨zB⟩⟩
     case round =>
      clear H'
      obtain ⟨jB,kU,ku,rfl,HA,HK2,gZ,iM,HB⟩:=hrel
      cases gk with
      | zero=>exact absurd HA.out (by simp [aX.l0])
      | succ k2 =>
       have H:=HA.out
       clear HA
       simp only [aX.l0] at H
       by_cases c22:jB≥vw
       ·rw [if_pos c22] at H
        have awN:=decide_eq_true c22
        clear c22
        replace H:=zO H
        obtain ⟨ak7,A23,H⟩:=H
        try dsimp only at H
        replace H:=zO H
        obtain ⟨⟨aqK,auU⟩,A24,H⟩:=H
        try dsimp only at H
        have H':=aj.mk H
        clear H
        try go_wp2
        obtain ⟨gZ,iM,HB⟩:=zA3 (jO gZ.out) (jO iM.out) (bf HB.out)
        refine adr (n:=6) (S:=fun w'=>w'.cell? ⟨aaY,0,none⟩=some (.int .u64 kU)∧w'.cell? ⟨aaY,1,none⟩=some (.int .u64 ku)∧w'.cell? ⟨yS,0,none⟩=some (.int .u64 pR)∧w'.cell? ⟨yS,1,none⟩=some (.int .u64 sG)) (ds:=[5]) #[false,false,false,false,false,false] (by kernel_rfl) rfl rfl ⟨(au iM.out 0).trans rfl,(au iM.out 1).trans rfl,(au gZ.out 0).trans rfl,(au gZ.out 1).trans rfl⟩ (fun hHeld => ?_)
        generalize wr.drew=w25 at gZ iM HB hHeld ⊢
        refine yO (i:=2) (N:=some 40) (v := ?_) (a' := ?_) #[false,false,true,false,false,false] rfl rfl (by kernel_rfl) (fun _ _ _ h=>h) (Or.inl ⟨by rfl,?_⟩) ?_ ?_
        rotate_left
        ·intro w'
         go_simp
         with_reducible rfl
        rotate_left
        ·simp only [Act.put,List.setIfInBounds_toArray,List.set_cons_zero,List.set_cons_succ,cZ,dB]
         rfl
        refine zZ (i:=0) (N:=some 38) (v := ?_) (a' := ?_) #[true,false,true,false,false,false] rfl rfl (by kernel_rfl) (fun _ _ _ h=>h) (Or.inl ⟨by rfl,?_⟩) hHeld ?_ ?_
        rotate_left
        ·rintro w' ⟨s0,s1,s2,s3⟩
         go_simp
         with_reducible rfl
        rotate_left
        ·simp only [Act.put,List.setIfInBounds_toArray,List.set_cons_zero,List.set_cons_succ,cZ,dB]
         rfl
        refine zZ (i:=1) (N:=some 39) (v := ?_) (a' := ?_) #[true,true,true,false,false,false] rfl rfl (by kernel_rfl) (fun _ _ _ h=>h) (Or.inl ⟨by rfl,?_⟩) hHeld ?_ ?_
        rotate_left
        ·rintro w' ⟨s0,s1,s2,s3⟩
         go_simp
         with_reducible rfl
        rotate_left
        ·simp only [Act.put,List.setIfInBounds_toArray,List.set_cons_zero,List.set_cons_succ,cZ,dB]
         rfl
        refine ab1 (i:=3) (N:=some 41) #[true,true,true,true,false,false] rfl rfl (by kernel_rfl) (by decide) (fun K hK => ?_)
        refine aaT Tryz.func121 (by kernel_rfl) rfl #[.agg #[.int .u64 pR,.int .u64 sG],.int .i64 jB] (by rfl) rfl rfl zL ?_
        with_reducible refine (fO.calls pR sG jB ak7 _ A23.out).mono ?_
        rintro e w26 ⟨rfl,hb⟩
        refine ⟨_,rfl,?_⟩
        obtain ⟨gZ,iM,HB⟩:=zA3 (ay (zK gZ) hb) (ay (zK iM) hb) (ak zB hb)
        (try clear hb)
        (try clear hb2)
        (try clear hk)
        (try clear hi)
        refine hK.out _ _ ⟨(au iM.out 0).trans rfl,(au iM.out 1).trans rfl,(au gZ.out 0).trans rfl,(au gZ.out 1).trans rfl⟩ (fun hHeld => ?_)
        clear hK K
        refine aaS (a' := ?_) ?_ ?_
        rotate_left
        ·show Act.put _ (some 41) _=_
         simp only [Act.put,List.setIfInBounds_toArray,List.set_cons_zero,List.set_cons_succ,cZ,dB]
         rfl
        refine ab1 (i:=4) (N:=some 42) #[true,true,true,true,true,false] rfl rfl (by kernel_rfl) (by decide) (fun K hK => ?_)
        refine aaT Tryz.func119 (by kernel_rfl) rfl #[.agg #[.int .u64 kU,.int .u64 ku],.int .u64 ak7] (by rfl) rfl rfl zL ?_
        with_reducible refine (dO.calls kU ku ak7 aqK auU _ A24.out).mono ?_
        rintro e w27 ⟨rfl,hb⟩
        refine ⟨_,rfl,?_⟩
        obtain ⟨gZ,iM,HB⟩:=zA3 (ay (zK gZ) hb) (ay (zK iM) hb) (ak zB hb)
        (try clear hb)
        (try clear hb2)
        (try clear hk)
        (try clear hi)
        refine hK.out _ _ ⟨(au iM.out 0).trans rfl,(au iM.out 1).trans rfl,(au gZ.out 0).trans rfl,(au gZ.out 1).trans rfl⟩ (fun hHeld => ?_)
        clear hK K
        refine aaS (a' := ?_) ?_ ?_
        rotate_left
        ·show Act.put _ (some 42) _=_
         simp only [Act.put,List.setIfInBounds_toArray,List.set_cons_zero,List.set_cons_succ,cZ,dB]
         rfl
        refine aj3 (i:=5) (N:=none) #[true,true,true,true,true,true] rfl rfl (by kernel_rfl) (by decide) (fun K hK => ?_)
        have aDA:w27.cell? ⟨aaY,0,none⟩=some (.int .u64 kU):=(au iM.out 0).trans rfl
        have aCr:=aH iM.out 0
        have az8:=uh.out
        have az9:=uj.out
        have aDB:w27.cell? ⟨aaY,1,none⟩=some (.int .u64 ku):=(au iM.out 1).trans rfl
        have aCs:=aH iM.out 1
        have aAa:=uh.out
        have aAb:=uj.out
        refine ag8 (w1 := ?_) (by rfl) rfl ?_ ?_
        rotate_left
        ·go_simp
         rfl
        refine hK.out _ _ ?_
        clear hK K
        refine afC (by kernel_rfl) ?_
        try go_wp2
        go_roundg k2
        case measure=>have:=HJ3.out;have:=HK2.out;omega
        case rel=>exact ⟨(wrap64 (jB - 1)),(aqK),(auU),zT,H',⟨by have:=HJ3.out;have:=HK2.out;omega⟩,⟨zK gZ⟩,⟨by refine zD ?_;refine aJ (cs := #[.int .u64 aqK,.int .u64 ku]) ?_ 1 _ rfl;refine zD ?_;refine aJ (cs := #[.int .u64 kU,.int .u64 ku]) ?_ 0 _ rfl;refine zD ?_;exact iM.out⟩,⟨zB⟩⟩
       ·rw [if_neg c22] at H
        have awN:=decide_eq_false c22
        clear c22
        have H':=aj.mk H
        clear H
        go_wp2
        try simp only [Act.put,List.setIfInBounds_toArray,List.set_cons_succ,List.set_cons_zero]
        go_loopg [11,45] k2 (fun kq v11 v45 w'=>∃ (xB:Bool) (ad3:Int),v11 = .bool xB∧v45 = .int .i64 ad3∧aj (aX.l1 kq vw ((decide (a0 < 0)) != (decide (a1 < 0))) xB (wrap64 (vw - 1)) ad3 pR sG kU ku=some r)∧aj (kq≤k2)∧aj (w'.heap[yS]? = some (.cells #[.int .u64 pR,.int .u64 sG] 179 (0,0)))∧aj (w'.heap[aaY]? = some (.cells #[.int .u64 kU,.int .u64 ku] 179 (0,0)))∧aj (Below w.heap.size w w'))
        case atStart=>exact ⟨(false),(0),zT,zT,H',⟨Nat.le_refl _⟩,⟨zK gZ⟩,⟨zK iM⟩,⟨zB⟩⟩
        case round =>
         clear H'
         obtain ⟨xB,ad3,rfl,rfl,HA,HK3,gZ,iM,HB⟩:=hrel
         cases gk with
         | zero=>exact absurd HA.out (by simp [aX.l1])
         | succ k3 =>
          have H:=HA.out
          clear HA
          simp only [aX.l1] at H
          by_cases c30:ad3 < (wrap64 (vw - 1))
          ·rw [if_pos c30] at H
           have asY:=decide_eq_true c30
           clear c30
           by_cases c31:xB=true
           ·subst c31
            rw [if_pos rfl] at H;try dsimp only at H
            have H':=aj.mk H
            clear H
            go_wp2
            go_roundg k3
            case measure=>have:=HJ3.out;have:=HK2.out;have:=HK3.out;omega
            case rel=>exact ⟨(true),(wrap64 (ad3+1)),zT,zT,H',⟨by have:=HJ3.out;have:=HK2.out;have:=HK3.out;omega⟩,⟨zK gZ⟩,⟨zK iM⟩,⟨zB⟩⟩
           ·replace c31:=Bool.eq_false_iff.mpr c31
            subst c31
            rw [if_neg (show ¬ (false=true) by decide)] at H;try dsimp only at H
            replace H:=zO H
            obtain ⟨an2,A32,H⟩:=H
            try dsimp only at H
            have H':=aj.mk H
            clear H
            have awE:=uh.out
            have awF:=uj.out
            obtain ⟨_,_⟩:=zC2 gZ.out
            obtain ⟨_,_⟩:=zF2 gZ.out
            go_wp2_with (first|(go_at_call 121;(with_reducible refine (fO.calls pR sG ad3 an2 _ A32.out).mono ?_);rintro e w35 ⟨rfl,hb⟩;obtain ⟨gZ,iM,HB⟩:=zA3 (ay (zK gZ) hb) (ay (zK iM) hb) (ak zB hb);(try clear hb)))
            go_roundg k3
            case measure=>have:=HJ3.out;have:=HK2.out;have:=HK3.out;omega
            case rel=>exact ⟨((an2 == 1)),(wrap64 (ad3+1)),zT,zT,H',⟨by have:=HJ3.out;have:=HK2.out;have:=HK3.out;omega⟩,⟨zK gZ⟩,⟨zK iM⟩,⟨zB⟩⟩
          ·rw [if_neg c30] at H
           have asY:=decide_eq_false c30
           clear c30
           have aqL:=aj.mk H
           clear H
           go_upto_region 20 with (fail)
           go_cut [67] (fun v67 wc=>∃ (kq:Nat) (ahv:Bool),v67 = .bool ahv∧aj (aX.j3 kq ((decide (a0 < 0)) != (decide (a1 < 0))) ahv kU ku=some r)∧aj (kq≤k3)∧aj (wc.heap[yS]? = some (.cells #[.int .u64 pR,.int .u64 sG] 179 (0,0)))∧aj (wc.heap[aaY]? = some (.cells #[.int .u64 kU,.int .u64 ku] 179 (0,0)))∧aj (Below w.heap.size w wc))
           case first =>
            have H:=aqL.out
            clear aqL
            replace H:=zO H
            obtain ⟨ada,A37,H⟩:=H
            try dsimp only at H
            by_cases c38:ada=1
            ·rw [if_pos c38] at H
             have ad1:(ada == 1)=true:=beq_iff_eq.mpr c38
             have an0:(ada != 1)=false:=bne_eq_false_iff_eq.mpr c38
             clear c38
             (first|rw [ad1]|(simp only [cZ,dB];rw [ad1])|skip)
             by_cases c39:xB=true
             ·subst c39
              rw [if_pos rfl] at H;try dsimp only at H
              have H':=aj.mk H
              clear H
              have asI:=uh.out
              have asJ:=uj.out
              obtain ⟨_,_⟩:=zC2 gZ.out
              obtain ⟨_,_⟩:=zF2 gZ.out
              go_wp2_with (first|((with_reducible refine aA (f:=121) rfl ?_);refine aI (some 59) rfl rfl Tryz.func121 (by kernel_rfl) rfl #[.agg #[.int .u64 pR,.int .u64 sG],.int .i64 (wrap64 (vw - 1))] rfl zL ?_;(with_reducible refine (fO.calls pR sG (wrap64 (vw - 1)) ada _ A37.out).mono ?_);rintro e w42 ⟨rfl,hb⟩;refine ⟨_,rfl,?_⟩;obtain ⟨gZ,iM,HB⟩:=zA3 (ay (zK gZ) hb) (ay (zK iM) hb) (ak zB hb);(try clear hb)))
              go_meet
              case rel=>exact ⟨_,(true),zT,H',⟨by have:=HJ3.out;have:=HK2.out;have:=HK3.out;first|omega|exact Nat.le_refl _⟩,⟨zK gZ⟩,⟨zK iM⟩,⟨zB⟩⟩
             ·replace c39:=Bool.eq_false_iff.mpr c39
              subst c39
              rw [if_neg (show ¬ (false=true) by decide)] at H;try dsimp only at H
              have H':=aj.mk H
              clear H
              have aCt:=uh.out
              have aCu:=uj.out
              obtain ⟨_,_⟩:=zC2 gZ.out
              obtain ⟨_,_⟩:=zF2 gZ.out
              go_wp2_with (first|((with_reducible refine aA (f:=121) rfl ?_);refine aI (some 59) rfl rfl Tryz.func121 (by kernel_rfl) rfl #[.agg #[.int .u64 pR,.int .u64 sG],.int .i64 (wrap64 (vw - 1))] rfl zL ?_;(with_reducible refine (fO.calls pR sG (wrap64 (vw - 1)) ada _ A37.out).mono ?_);rintro e w45 ⟨rfl,hb⟩;refine ⟨_,rfl,?_⟩;obtain ⟨gZ,iM,HB⟩:=zA3 (ay (zK gZ) hb) (ay (zK iM) hb) (ak zB hb);(try clear hb)))
              go_meet
              case rel=>exact ⟨_,(!((decide (a0 < 0)) != (decide (a1 < 0)))),(by first|rfl|(simp;done)|(simp [*];done)|(generalize decide (a0 < 0)=p_;generalize decide (a1 < 0)=q_;cases p_ <;> cases q_ <;> rfl)),H',⟨by have:=HJ3.out;have:=HK2.out;have:=HK3.out;first|omega|exact Nat.le_refl _⟩,⟨zK gZ⟩,⟨zK iM⟩,⟨zB⟩⟩
            ·rw [if_neg c38] at H
             have ad1:(ada == 1)=false:=beq_eq_false_iff_ne.mpr c38
             have an0:(ada != 1)=true:=bne_iff_ne.mpr c38
             (first|rw [ad1]|(simp only [cZ,dB];rw [ad1])|skip)
             have H':=aj.mk H
             clear H
             have asK:=uh.out
             have asL:=uj.out
             obtain ⟨_,_⟩:=zC2 gZ.out
             obtain ⟨_,_⟩:=zF2 gZ.out
             go_wp2_with (first|((with_reducible refine aA (f:=121) rfl ?_);refine aI (some 59) rfl rfl Tryz.func121 (by kernel_rfl) rfl #[.agg #[.int .u64 pR,.int .u64 sG],.int .i64 (wrap64 (vw - 1))] rfl zL ?_;(with_reducible refine (fO.calls pR sG (wrap64 (vw - 1)) ada _ A37.out).mono ?_);rintro e w48 ⟨rfl,hb⟩;refine ⟨_,rfl,?_⟩;obtain ⟨gZ,iM,HB⟩:=zA3 (ay (zK gZ) hb) (ay (zK iM) hb) (ak zB hb);(try clear hb)))
             go_meet
             case rel=>exact ⟨_,(false),zT,H',⟨by have:=HJ3.out;have:=HK2.out;have:=HK3.out;first|omega|exact Nat.le_refl _⟩,⟨zK gZ⟩,⟨zK iM⟩,⟨zB⟩⟩
           case rest =>
            clear aqL
            obtain ⟨kq,ahv,rfl,HA,aDC,gZ,iM,HB⟩:=hcut
            cases kq with
            | zero=>exact absurd HA.out (by simp [aX.j3])
            | succ auV =>
             have H:=HA.out
             clear HA
             simp only [aX.j3] at H
             by_cases c49:ahv=true
             ·subst c49
              rw [if_pos rfl] at H;try dsimp only at H
              replace H:=zO H
              obtain ⟨⟨ak8,an3⟩,A50,H⟩:=H
              try dsimp only at H
              replace H:=zO H
              obtain ⟨aqI,A51,H⟩:=H
              try dsimp only at H
              obtain rfl:=Option.some.inj H
              have awJ:=uj.out
              have awK:=uh.out
              obtain ⟨_,_⟩:=zC2 iM.out
              obtain ⟨_,_⟩:=zF2 iM.out
              go_wp2_with (first|((with_reducible refine aA (f:=124) rfl ?_);refine aI (some 70) rfl rfl Tryz.func124 (by kernel_rfl) rfl #[.agg #[.int .u64 kU,.int .u64 ku],.agg #[.int .u64 0,.int .u64 1]] rfl zL ?_;(with_reducible refine (iq.calls kU ku 0 1 ak8 an3 _ A50.out).mono ?_);rintro e w54 ⟨rfl,hb⟩;refine ⟨_,rfl,?_⟩;obtain ⟨gZ,iM,HB⟩:=zA3 (ay (zK gZ) hb) (ay (zK iM) hb) (ak zB hb);(try clear hb);obtain ⟨_,_⟩:=zC2 iM.out;obtain ⟨_,_⟩:=zF2 iM.out)|((with_reducible refine aA (f:=125) rfl ?_);refine aI (some 73) rfl rfl Tryz.func125 (by kernel_rfl) rfl #[.agg #[.int .u64 ak8,.int .u64 an3],.bool ((decide (a0 < 0)) != (decide (a1 < 0)))] rfl zL ?_;(with_reducible refine (bW.calls auV ak8 an3 ((decide (a0 < 0)) != (decide (a1 < 0))) aqI _ A51.out).mono ?_);rintro e w56 ⟨rfl,hb⟩;refine ⟨_,rfl,?_⟩;obtain ⟨gZ,iM,HB⟩:=zA3 (ay (zK gZ) hb) (ay (g:=aaY) (o := .cells #[.int .u64 ak8,.int .u64 an3] 179 (0,0)) (by refine zD ?_;refine aJ (cs := #[.int .u64 ak8,.int .u64 ku]) ?_ 1 _ rfl;refine zD ?_;refine aJ (cs := #[.int .u64 kU,.int .u64 ku]) ?_ 0 _ rfl;refine zD ?_;exact iM.out) hb) (ak zB hb);(try clear hb)))
              go_ret
              exact ⟨zS,zB⟩
             ·replace c49:=Bool.eq_false_iff.mpr c49
              subst c49
              rw [if_neg (show ¬ (false=true) by decide)] at H;try dsimp only at H
              replace H:=zO H
              obtain ⟨aqJ,A57,H⟩:=H
              try dsimp only at H
              obtain rfl:=Option.some.inj H
              have awk:=uj.out
              have awl:=uh.out
              obtain ⟨_,_⟩:=zC2 iM.out
              obtain ⟨_,_⟩:=zF2 iM.out
              go_wp2_with (first|((with_reducible refine aA (f:=125) rfl ?_);refine aI (some 73) rfl rfl Tryz.func125 (by kernel_rfl) rfl #[.agg #[.int .u64 kU,.int .u64 ku],.bool ((decide (a0 < 0)) != (decide (a1 < 0)))] rfl zL ?_;(with_reducible refine (bW.calls auV kU ku ((decide (a0 < 0)) != (decide (a1 < 0))) aqJ _ A57.out).mono ?_);rintro e w60 ⟨rfl,hb⟩;refine ⟨_,rfl,?_⟩;obtain ⟨gZ,iM,HB⟩:=zA3 (ay (zK gZ) hb) (ay (zK iM) hb) (ak zB hb);(try clear hb)))
              go_ret
              exact ⟨zS,zB⟩
end Go.Proofs.YtpondkggmcmpfaaGreatDoor.QA
namespace Go.Proofs.YtpondkggmcmpfaaGreatDoor.QA
open Go.Proofs.YtpondkggmcmpfaaGreatDoor.T
open Go.RowKit Go.Proofs.YtpondkggmcmpfaaGreatDoorW.PrintWords Go.Proofs.YtpondkggmcmpfaaGreatDoorW.PrintLast Go.Proofs.YtpondkggmcmpfaaGreatDoorW.PrintMore
attribute [local go_sem] eG dX dY fF fG
set_option linter.unusedVariables false
set_option linter.unusedSimpArgs false
mutual
def dh.j0:Nat→Int→Int→Option (Int)
 | 0,_,_=>none
 | k+1,x0,x1=>(aZ.f k 10851744800547 x0 x1).bind fun ak9=>((aZ.f k ak9 x0 x1).bind fun ae8=>(dh.l0 k ae8 1099511627776 0 1099511627776 1))
def dh.l0:Nat→Int→Int→Int→Int→Int→Option (Int)
 | 0,_,_,_,_,_=>none
 | k+1,x6,x7,x8,x9,x10=>if x10≤30 then ((aZ.f k x9 x6 (wrap64 ((wrap64 ((wrap64 (2*x10))*(wrap64 ((wrap64 (2*x10))+1))))*1099511627776))).bind fun acd=>(if (Int.tmod x10 2)=1 then (dh.l0 k x6 x7 (wrap64 (x8+acd)) acd (wrap64 (x10+1))) else (dh.l0 k x6 (wrap64 (x7+acd)) x8 acd (wrap64 (x10+1))))) else (some (wrap64 (x7 - x8)))
end
def dh.f (k:Nat) (a0 a1:Int):Option (Int):=if a0 < 0 then (dh.j0 k (wrap64 (-a0)) a1) else (dh.j0 k a0 a1)
set_option maxHeartbeats 8000000 in
set_option maxRecDepth 100000 in
theorem dh.calls (k:Nat) (a0 a1 r:Int) (w:World) (h:dh.f k a0 a1=some r) :
  Calls Tryz.prog 186 #[.int .i64 a0,.int .i64 a1] w fun e w'=>e = .returned (.int .i64 r)∧Below w.heap.size w w':=by
 have HB:=aj.mk (Below.refl w.heap.size w)
 have H:=h
 clear h
 unfold dh.f at H
 have HC3:=aj.mk H
 clear H
 go_enter Tryz.func186,Tryz.ntmps186
 go_upto_if 13 with (fail)
 go_cut [0] (fun v0 wc=>∃ (kq:Nat) (agD:Int),v0 = .int .i64 agD∧aj (dh.j0 kq agD a1=some r)∧aj (kq≤k)∧aj (Below w.heap.size w wc))
 case first =>
  have H:=HC3.out
  clear HC3
  by_cases c4:a0 < 0
  ·rw [if_pos c4] at H
   have gI:=decide_eq_true c4
   clear c4
   (first|rw [gI]|(simp only [cZ,dB];rw [gI])|skip)
   have H':=aj.mk H
   clear H
   go_wp2
   go_meet
   case rel=>exact ⟨_,(wrap64 (-a0)),zT,H',⟨by first|omega|exact Nat.le_refl _⟩,⟨zB⟩⟩
  ·rw [if_neg c4] at H
   have gI:=decide_eq_false c4
   clear c4
   (first|rw [gI]|(simp only [cZ,dB];rw [gI])|skip)
   have H':=aj.mk H
   clear H
   go_wp2
   go_meet
   case rel=>exact ⟨_,(a0),zT,H',⟨by first|omega|exact Nat.le_refl _⟩,⟨zB⟩⟩
 case rest =>
  clear HC3
  obtain ⟨kq,agD,rfl,HA,HJ2,HB⟩:=hcut
  cases kq with
  | zero=>exact absurd HA.out (by simp [dh.j0])
  | succ kj2 =>
   have H:=HA.out
   clear HA
   simp only [dh.j0] at H
   replace H:=zO H
   obtain ⟨ak9,A5,H⟩:=H
   try dsimp only at H
   replace H:=zO H
   obtain ⟨ae8,A6,H⟩:=H
   try dsimp only at H
   have H':=aj.mk H
   clear H
   go_wp2_with (first|((with_reducible refine aA (f:=118) rfl ?_);refine aI (some 18) rfl rfl Tryz.func118 (by kernel_rfl) rfl #[.int .i64 10851744800547,.int .i64 agD,.int .i64 a1] rfl zL ?_;(with_reducible refine (aZ.calls kj2 10851744800547 agD a1 ak9 _ A5.out).mono ?_);rintro e w7 ⟨rfl,hb⟩;refine ⟨_,rfl,?_⟩;replace HB:=aj.mk (ak zB hb);(try clear hb))|((with_reducible refine aA (f:=118) rfl ?_);refine aI (some 22) rfl rfl Tryz.func118 (by kernel_rfl) rfl #[.int .i64 ak9,.int .i64 agD,.int .i64 a1] rfl zL ?_;(with_reducible refine (aZ.calls kj2 ak9 agD a1 ae8 _ A6.out).mono ?_);rintro e w8 ⟨rfl,hb⟩;refine ⟨_,rfl,?_⟩;replace HB:=aj.mk (ak zB hb);(try clear hb)))
   go_loopg [7,8,9,10] kj2 (fun kq v7 v8 v9 v10 w'=>∃ (fM:Int) (lK:Int) (fE:Int) (jB:Int),v7 = .int .i64 fM∧v8 = .int .i64 lK∧v9 = .int .i64 fE∧v10 = .int .i64 jB∧aj (dh.l0 kq ae8 fM lK fE jB=some r)∧aj (kq≤kj2)∧aj (Below w.heap.size w w'))
   case atStart=>exact ⟨(1099511627776),(0),(1099511627776),(1),zT,zT,zT,zT,H',⟨Nat.le_refl _⟩,⟨zB⟩⟩
   case round =>
    clear H'
    obtain ⟨fM,lK,fE,jB,rfl,rfl,rfl,rfl,HA,HK2,HB⟩:=hrel
    cases gk with
    | zero=>exact absurd HA.out (by simp [dh.l0])
    | succ k2 =>
     have H:=HA.out
     clear HA
     simp only [dh.l0] at H
     by_cases c9:jB≤30
     ·rw [if_pos c9] at H
      have sO:=decide_eq_true c9
      clear c9
      replace H:=zO H
      obtain ⟨acd,A10,H⟩:=H
      try dsimp only at H
      by_cases c11:(Int.tmod jB 2)=1
      ·rw [if_pos c11] at H
       have jf:((Int.tmod jB 2) == 1)=true:=beq_iff_eq.mpr c11
       have aag:((Int.tmod jB 2) != 1)=false:=bne_eq_false_iff_eq.mpr c11
       clear c11
       have H':=aj.mk H
       clear H
       go_wp2_with (first|((with_reducible refine aA (f:=118) rfl ?_);refine aI (some 37) rfl rfl Tryz.func118 (by kernel_rfl) rfl #[.int .i64 fE,.int .i64 ae8,.int .i64 (wrap64 ((wrap64 ((wrap64 (2*jB))*(wrap64 ((wrap64 (2*jB))+1))))*1099511627776))] rfl zL ?_;(with_reducible refine (aZ.calls k2 fE ae8 (wrap64 ((wrap64 ((wrap64 (2*jB))*(wrap64 ((wrap64 (2*jB))+1))))*1099511627776)) acd _ A10.out).mono ?_);rintro e w12 ⟨rfl,hb⟩;refine ⟨_,rfl,?_⟩;replace HB:=aj.mk (ak zB hb);(try clear hb)))
       go_roundg k2
       case measure=>have:=HJ2.out;have:=HK2.out;omega
       case rel=>exact ⟨(fM),(wrap64 (lK+acd)),(acd),(wrap64 (jB+1)),zT,zT,zT,zT,H',⟨by have:=HJ2.out;have:=HK2.out;omega⟩,⟨zB⟩⟩
      ·rw [if_neg c11] at H
       have jf:((Int.tmod jB 2) == 1)=false:=beq_eq_false_iff_ne.mpr c11
       have aag:((Int.tmod jB 2) != 1)=true:=bne_iff_ne.mpr c11
       have H':=aj.mk H
       clear H
       go_wp2_with (first|((with_reducible refine aA (f:=118) rfl ?_);refine aI (some 37) rfl rfl Tryz.func118 (by kernel_rfl) rfl #[.int .i64 fE,.int .i64 ae8,.int .i64 (wrap64 ((wrap64 ((wrap64 (2*jB))*(wrap64 ((wrap64 (2*jB))+1))))*1099511627776))] rfl zL ?_;(with_reducible refine (aZ.calls k2 fE ae8 (wrap64 ((wrap64 ((wrap64 (2*jB))*(wrap64 ((wrap64 (2*jB))+1))))*1099511627776)) acd _ A10.out).mono ?_);rintro e w13 ⟨rfl,hb⟩;refine ⟨_,rfl,?_⟩;replace HB:=aj.mk (ak zB hb);(try clear hb)))
       go_roundg k2
       case measure=>have:=HJ2.out;have:=HK2.out;omega
       case rel=>exact ⟨(wrap64 (fM+acd)),(lK),(acd),(wrap64 (jB+1)),zT,zT,zT,zT,H',⟨by have:=HJ2.out;have:=HK2.out;omega⟩,⟨zB⟩⟩
     ·rw [if_neg c9] at H
      have sO:=decide_eq_false c9
      clear c9
      obtain rfl:=Option.some.inj H
      go_wp2
      go_ret
      exact ⟨zS,zB⟩
def eP.j0:Nat→Int→Int→Bool→Option (Int)
 | 0,_,_,_=>none
 | k+1,x0,x1,x21=>if x21=true then (some 0) else ((dh.f k x0 x1).bind fun ala=>((dh.f k x0 (wrap64 (3*x1))).bind fun alb=>((aX.f k ala alb 40).bind fun alc=>((aT.f k alc 10).bind fun aqM=>(some aqM)))))
def eP.f (k:Nat) (a0 a1:Int):Option (Int):=(lH.f a0 a1).bind fun aqN=>(if aqN=true then (if a0≥(wrap64 (3*a1)) then (eP.j0 k a0 a1 true) else (eP.j0 k a0 a1 (decide (a0≤(wrap64 ((-3)*a1)))))) else (eP.j0 k a0 a1 true))
set_option maxHeartbeats 8000000 in
set_option maxRecDepth 100000 in
theorem eP.calls (k:Nat) (a0 a1 r:Int) (w:World) (h:eP.f k a0 a1=some r) :
  Calls Tryz.prog 171 #[.int .i64 a0,.int .i64 a1] w fun e w'=>e = .returned (.int .i64 r)∧Below w.heap.size w w':=by
 have HB:=aj.mk (Below.refl w.heap.size w)
 have H:=h
 clear h
 unfold eP.f at H
 have HC3:=aj.mk H
 clear H
 go_enter Tryz.func171,Tryz.ntmps171
 go_upto_region 1 with (fail)
 go_cut [21] (fun v21 wc=>∃ (kq:Nat) (akf:Bool),v21 = .bool akf∧aj (eP.j0 kq a0 a1 akf=some r)∧aj (kq≤k)∧aj (Below w.heap.size w wc))
 case first =>
  have H:=HC3.out
  clear HC3
  replace H:=zO H
  obtain ⟨aqN,A4,H⟩:=H
  try dsimp only at H
  by_cases c5:aqN=true
  ·subst c5
   rw [if_pos rfl] at H;try dsimp only at H
   by_cases c6:a0≥(wrap64 (3*a1))
   ·rw [if_pos c6] at H
    have iJ:=decide_eq_true c6
    clear c6
    (first|rw [iJ]|(simp only [cZ,dB];rw [iJ])|skip)
    have H':=aj.mk H
    clear H
    go_wp2_with (first|((with_reducible refine aA (f:=184) rfl ?_);refine aI (some 8) rfl rfl Tryz.func184 (by kernel_rfl) rfl #[.int .i64 a0,.int .i64 a1] rfl zL ?_;(with_reducible refine (lH.calls a0 a1 true _ A4.out).mono ?_);rintro e w' ⟨rfl,⟨nd,rfl⟩⟩;refine ⟨_,rfl,?_⟩))
    go_meet
    case rel=>exact ⟨_,(true),zT,H',⟨by first|omega|exact Nat.le_refl _⟩,⟨zB⟩⟩
   ·rw [if_neg c6] at H
    have iJ:=decide_eq_false c6
    clear c6
    (first|rw [iJ]|(simp only [cZ,dB];rw [iJ])|skip)
    have H':=aj.mk H
    clear H
    go_wp2_with (first|((with_reducible refine aA (f:=184) rfl ?_);refine aI (some 8) rfl rfl Tryz.func184 (by kernel_rfl) rfl #[.int .i64 a0,.int .i64 a1] rfl zL ?_;(with_reducible refine (lH.calls a0 a1 true _ A4.out).mono ?_);rintro e w' ⟨rfl,⟨nd,rfl⟩⟩;refine ⟨_,rfl,?_⟩))
    go_meet
    case rel=>exact ⟨_,(decide (a0≤(wrap64 ((-3)*a1)))),zT,H',⟨by first|omega|exact Nat.le_refl _⟩,⟨zB⟩⟩
  ·replace c5:=Bool.eq_false_iff.mpr c5
   subst c5
   rw [if_neg (show ¬ (false=true) by decide)] at H;try dsimp only at H
   have H':=aj.mk H
   clear H
   go_wp2_with (first|((with_reducible refine aA (f:=184) rfl ?_);refine aI (some 8) rfl rfl Tryz.func184 (by kernel_rfl) rfl #[.int .i64 a0,.int .i64 a1] rfl zL ?_;(with_reducible refine (lH.calls a0 a1 false _ A4.out).mono ?_);rintro e w' ⟨rfl,⟨nd,rfl⟩⟩;refine ⟨_,rfl,?_⟩))
   go_meet
   case rel=>exact ⟨_,(true),zT,H',⟨by first|omega|exact Nat.le_refl _⟩,⟨zB⟩⟩
 case rest =>
  clear HC3
  obtain ⟨kq,akf,rfl,HA,HJ2,HB⟩:=hcut
  cases kq with
  | zero=>exact absurd HA.out (by simp [eP.j0])
  | succ kj2 =>
   have H:=HA.out
   clear HA
   simp only [eP.j0] at H
   by_cases c7:akf=true
   ·subst c7
    rw [if_pos rfl] at H;try dsimp only at H
    obtain rfl:=Option.some.inj H
    go_wp2
    go_ret
    exact ⟨zS,zB⟩
   ·replace c7:=Bool.eq_false_iff.mpr c7
    subst c7
    rw [if_neg (show ¬ (false=true) by decide)] at H;try dsimp only at H
    replace H:=zO H
    obtain ⟨ala,A8,H⟩:=H
    try dsimp only at H
    replace H:=zO H
    obtain ⟨alb,A9,H⟩:=H
    try dsimp only at H
    replace H:=zO H
    obtain ⟨alc,A10,H⟩:=H
    try dsimp only at H
    replace H:=zO H
    obtain ⟨aqM,A11,H⟩:=H
    try dsimp only at H
    obtain rfl:=Option.some.inj H
    go_wp2_with (first|((with_reducible refine aA (f:=186) rfl ?_);refine aI (some 24) rfl rfl Tryz.func186 (by kernel_rfl) rfl #[.int .i64 a0,.int .i64 a1] rfl zL ?_;(with_reducible refine (dh.calls kj2 a0 a1 ala _ A8.out).mono ?_);rintro e w12 ⟨rfl,hb⟩;refine ⟨_,rfl,?_⟩;replace HB:=aj.mk (ak zB hb);(try clear hb))|((with_reducible refine aA (f:=186) rfl ?_);refine aI (some 28) rfl rfl Tryz.func186 (by kernel_rfl) rfl #[.int .i64 a0,.int .i64 (wrap64 (3*a1))] rfl zL ?_;(with_reducible refine (dh.calls kj2 a0 (wrap64 (3*a1)) alb _ A9.out).mono ?_);rintro e w13 ⟨rfl,hb⟩;refine ⟨_,rfl,?_⟩;replace HB:=aj.mk (ak zB hb);(try clear hb))|((with_reducible refine aA (f:=185) rfl ?_);refine aI (some 29) rfl rfl Tryz.func185 (by kernel_rfl) rfl #[.int .i64 ala,.int .i64 alb,.int .i64 40] rfl zL ?_;(with_reducible refine (aX.calls kj2 ala alb 40 alc _ A10.out).mono ?_);rintro e w14 ⟨rfl,hb⟩;refine ⟨_,rfl,?_⟩;replace HB:=aj.mk (ak zB hb);(try clear hb))|((with_reducible refine aA (f:=101) rfl ?_);refine aI (some 31) rfl rfl Tryz.func101 (by kernel_rfl) rfl #[.int .i64 alc,.int .i64 10] rfl zL ?_;(with_reducible refine (aT.calls kj2 alc 10 aqM _ A11.out).mono ?_);rintro e w15 ⟨rfl,hb⟩;refine ⟨_,rfl,?_⟩;replace HB:=aj.mk (ak zB hb);(try clear hb)))
    go_ret
    exact ⟨zS,zB⟩
end Go.Proofs.YtpondkggmcmpfaaGreatDoor.QA
namespace Go.Proofs.YtpondkggmcmpfaaGreatDoor.QA
open Go.Proofs.YtpondkggmcmpfaaGreatDoor.T
open Go.RowKit Go.Proofs.YtpondkggmcmpfaaGreatDoorW.PrintWords Go.Proofs.YtpondkggmcmpfaaGreatDoorW.PrintLast Go.Proofs.YtpondkggmcmpfaaGreatDoorW.PrintMore
attribute [local go_sem] eG dX dY fF fG
set_option linter.unusedVariables false
set_option linter.unusedSimpArgs false
def lW.f (k:Nat) (a0 a1 a2 a3 a4:Int):Option (Int):=if a0=0 then (if (wrap64 (a4*a2)) > (wrap64 (a3*a1)) then (if (wrap64 ((wrap64 (a4+1))*a2)) < (wrap64 ((wrap64 (a3+1))*a1)) then ((aZ.f k (wrap64 ((wrap64 ((wrap64 (a4+1))*a2)) - (wrap64 (a4*a2)))) 1073741824 a1).bind fun aqO=>(some aqO)) else ((aZ.f k (wrap64 ((wrap64 ((wrap64 (a3+1))*a1)) - (wrap64 (a4*a2)))) 1073741824 a1).bind fun aqP=>(some aqP))) else (if (wrap64 ((wrap64 (a4+1))*a2)) < (wrap64 ((wrap64 (a3+1))*a1)) then ((aZ.f k (wrap64 ((wrap64 ((wrap64 (a4+1))*a2)) - (wrap64 (a3*a1)))) 1073741824 a1).bind fun aqQ=>(some aqQ)) else ((aZ.f k (wrap64 ((wrap64 ((wrap64 (a3+1))*a1)) - (wrap64 (a3*a1)))) 1073741824 a1).bind fun aqR=>(some aqR)))) else ((gB.f a1 a2 a3 a4).bind fun akg=>(if a0=1 then ((bV.f k akg.1 akg.2).bind fun aqS=>(some aqS)) else ((eP.f k akg.1 akg.2).bind fun aqT=>(some aqT))))
set_option maxHeartbeats 8000000 in
set_option maxRecDepth 100000 in
theorem lW.calls (k:Nat) (a0 a1 a2 a3 a4 r:Int) (w:World) (h:lW.f k a0 a1 a2 a3 a4=some r) :
  Calls Tryz.prog 141 #[.int .i64 a0,.int .i64 a1,.int .i64 a2,.int .i64 a3,.int .i64 a4] w fun e w'=>e = .returned (.int .i64 r)∧Below w.heap.size w w':=by
 have HB:=aj.mk (Below.refl w.heap.size w)
 have H:=h
 clear h
 unfold lW.f at H
 by_cases c6:a0=0
 ·rw [if_pos c6] at H
  have iJ:(a0 == 0)=true:=beq_iff_eq.mpr c6
  have vS:(a0 != 0)=false:=bne_eq_false_iff_eq.mpr c6
  clear c6
  by_cases c7:(wrap64 (a4*a2)) > (wrap64 (a3*a1))
  ·rw [if_pos c7] at H
   have jI:=decide_eq_true c7
   clear c7
   by_cases c8:(wrap64 ((wrap64 (a4+1))*a2)) < (wrap64 ((wrap64 (a3+1))*a1))
   ·rw [if_pos c8] at H
    have xH:=decide_eq_true c8
    clear c8
    replace H:=zO H
    obtain ⟨aqO,A9,H⟩:=H
    try dsimp only at H
    obtain rfl:=Option.some.inj H
    go_enter Tryz.func141,Tryz.ntmps141
    go_wp2_with (first|((with_reducible refine aA (f:=118) rfl ?_);refine aI (some 46) rfl rfl Tryz.func118 (by kernel_rfl) rfl #[.int .i64 (wrap64 ((wrap64 ((wrap64 (a4+1))*a2)) - (wrap64 (a4*a2)))),.int .i64 1073741824,.int .i64 a1] rfl zL ?_;(with_reducible refine (aZ.calls k (wrap64 ((wrap64 ((wrap64 (a4+1))*a2)) - (wrap64 (a4*a2)))) 1073741824 a1 aqO _ A9.out).mono ?_);rintro e w10 ⟨rfl,hb⟩;refine ⟨_,rfl,?_⟩;replace HB:=aj.mk (ak zB hb);(try clear hb)))
    go_ret
    exact ⟨zS,zB⟩
   ·rw [if_neg c8] at H
    have xH:=decide_eq_false c8
    clear c8
    replace H:=zO H
    obtain ⟨aqP,A11,H⟩:=H
    try dsimp only at H
    obtain rfl:=Option.some.inj H
    go_enter Tryz.func141,Tryz.ntmps141
    go_wp2_with (first|((with_reducible refine aA (f:=118) rfl ?_);refine aI (some 46) rfl rfl Tryz.func118 (by kernel_rfl) rfl #[.int .i64 (wrap64 ((wrap64 ((wrap64 (a3+1))*a1)) - (wrap64 (a4*a2)))),.int .i64 1073741824,.int .i64 a1] rfl zL ?_;(with_reducible refine (aZ.calls k (wrap64 ((wrap64 ((wrap64 (a3+1))*a1)) - (wrap64 (a4*a2)))) 1073741824 a1 aqP _ A11.out).mono ?_);rintro e w12 ⟨rfl,hb⟩;refine ⟨_,rfl,?_⟩;replace HB:=aj.mk (ak zB hb);(try clear hb)))
    go_ret
    exact ⟨zS,zB⟩
  ·rw [if_neg c7] at H
   have jI:=decide_eq_false c7
   clear c7
   by_cases c13:(wrap64 ((wrap64 (a4+1))*a2)) < (wrap64 ((wrap64 (a3+1))*a1))
   ·rw [if_pos c13] at H
    have aaZ:=decide_eq_true c13
    clear c13
    replace H:=zO H
    obtain ⟨aqQ,A14,H⟩:=H
    try dsimp only at H
    obtain rfl:=Option.some.inj H
    go_enter Tryz.func141,Tryz.ntmps141
    go_wp2_with (first|((with_reducible refine aA (f:=118) rfl ?_);refine aI (some 46) rfl rfl Tryz.func118 (by kernel_rfl) rfl #[.int .i64 (wrap64 ((wrap64 ((wrap64 (a4+1))*a2)) - (wrap64 (a3*a1)))),.int .i64 1073741824,.int .i64 a1] rfl zL ?_;(with_reducible refine (aZ.calls k (wrap64 ((wrap64 ((wrap64 (a4+1))*a2)) - (wrap64 (a3*a1)))) 1073741824 a1 aqQ _ A14.out).mono ?_);rintro e w15 ⟨rfl,hb⟩;refine ⟨_,rfl,?_⟩;replace HB:=aj.mk (ak zB hb);(try clear hb)))
    go_ret
    exact ⟨zS,zB⟩
   ·rw [if_neg c13] at H
    have aaZ:=decide_eq_false c13
    clear c13
    replace H:=zO H
    obtain ⟨aqR,A16,H⟩:=H
    try dsimp only at H
    obtain rfl:=Option.some.inj H
    go_enter Tryz.func141,Tryz.ntmps141
    go_wp2_with (first|((with_reducible refine aA (f:=118) rfl ?_);refine aI (some 46) rfl rfl Tryz.func118 (by kernel_rfl) rfl #[.int .i64 (wrap64 ((wrap64 ((wrap64 (a3+1))*a1)) - (wrap64 (a3*a1)))),.int .i64 1073741824,.int .i64 a1] rfl zL ?_;(with_reducible refine (aZ.calls k (wrap64 ((wrap64 ((wrap64 (a3+1))*a1)) - (wrap64 (a3*a1)))) 1073741824 a1 aqR _ A16.out).mono ?_);rintro e w17 ⟨rfl,hb⟩;refine ⟨_,rfl,?_⟩;replace HB:=aj.mk (ak zB hb);(try clear hb)))
    go_ret
    exact ⟨zS,zB⟩
 ·rw [if_neg c6] at H
  have iJ:(a0 == 0)=false:=beq_eq_false_iff_ne.mpr c6
  have vS:(a0 != 0)=true:=bne_iff_ne.mpr c6
  replace H:=zO H
  obtain ⟨⟨aiE,aiF⟩,A18,H⟩:=H
  try dsimp only at H
  by_cases c19:a0=1
  ·rw [if_pos c19] at H
   have an4:(a0 == 1)=true:=beq_iff_eq.mpr c19
   have awO:(a0 != 1)=false:=bne_eq_false_iff_eq.mpr c19
   clear c19
   replace H:=zO H
   obtain ⟨aqS,A20,H⟩:=H
   try dsimp only at H
   obtain rfl:=Option.some.inj H
   go_enter Tryz.func141,Tryz.ntmps141
   go_wp2_with (first|((with_reducible refine aA (f:=169) rfl ?_);refine aI (some 52) rfl rfl Tryz.func169 (by kernel_rfl) rfl #[.int .i64 a1,.int .i64 a2,.int .i64 a3,.int .i64 a4] rfl zL ?_;(with_reducible refine (gB.calls a1 a2 a3 a4 aiE aiF _ A18.out).mono ?_);rintro e w' ⟨rfl,⟨nd,rfl⟩⟩;refine ⟨_,rfl,?_⟩)|((with_reducible refine aA (f:=170) rfl ?_);refine aI (some 59) rfl rfl Tryz.func170 (by kernel_rfl) rfl #[.int .i64 aiE,.int .i64 aiF] rfl zL ?_;(with_reducible refine (bV.calls k aiE aiF aqS _ A20.out).mono ?_);rintro e w21 ⟨rfl,hb⟩;refine ⟨_,rfl,?_⟩;replace HB:=aj.mk (ak zB hb);(try clear hb)))
   go_ret
   exact ⟨zS,zB⟩
  ·rw [if_neg c19] at H
   have an4:(a0 == 1)=false:=beq_eq_false_iff_ne.mpr c19
   have awO:(a0 != 1)=true:=bne_iff_ne.mpr c19
   replace H:=zO H
   obtain ⟨aqT,A22,H⟩:=H
   try dsimp only at H
   obtain rfl:=Option.some.inj H
   go_enter Tryz.func141,Tryz.ntmps141
   go_wp2_with (first|((with_reducible refine aA (f:=169) rfl ?_);refine aI (some 52) rfl rfl Tryz.func169 (by kernel_rfl) rfl #[.int .i64 a1,.int .i64 a2,.int .i64 a3,.int .i64 a4] rfl zL ?_;(with_reducible refine (gB.calls a1 a2 a3 a4 aiE aiF _ A18.out).mono ?_);rintro e w' ⟨rfl,⟨nd,rfl⟩⟩;refine ⟨_,rfl,?_⟩)|((with_reducible refine aA (f:=171) rfl ?_);refine aI (some 62) rfl rfl Tryz.func171 (by kernel_rfl) rfl #[.int .i64 aiE,.int .i64 aiF] rfl zL ?_;(with_reducible refine (eP.calls k aiE aiF aqT _ A22.out).mono ?_);rintro e w23 ⟨rfl,hb⟩;refine ⟨_,rfl,?_⟩;replace HB:=aj.mk (ak zB hb);(try clear hb)))
   go_ret
   exact ⟨zS,zB⟩
end Go.Proofs.YtpondkggmcmpfaaGreatDoor.QA
namespace Go.Proofs.YtpondkggmcmpfaaGreatDoor.QA
open Go.Proofs.YtpondkggmcmpfaaGreatDoor.T
open Go.RowKit Go.Proofs.YtpondkggmcmpfaaGreatDoorW.PrintWords Go.Proofs.YtpondkggmcmpfaaGreatDoorW.PrintLast Go.Proofs.YtpondkggmcmpfaaGreatDoorW.PrintMore
attribute [local go_sem] eG dX dY fF fG
set_option linter.unusedVariables false
set_option linter.unusedSimpArgs false
mutual
def bY.l0:Nat→Int→Int→Int→Int→Int→Option (Int × List Int)
 | 0,_,_,_,_,_=>none
 | k+1,x0,x1,x2,x3,x10=>(jm.f x0 x1 x2 x3 (wrap64 (x10 - 1))).bind fun aqU=>(if aqU=true then (bY.l0 k x0 x1 x2 x3 (wrap64 (x10 - 1))) else (bY.l1 k x0 x1 x2 x3 x10))
def bY.l1:Nat→Int→Int→Int→Int→Int→Option (Int × List Int)
 | 0,_,_,_,_,_=>none
 | k+1,x0,x1,x2,x3,x10=>(jm.f x0 x1 x2 x3 x10).bind fun aqV=>(if aqV=true then (bY.l2 k x0 x1 x2 x3 x10 x10 ([]:List Int)) else (bY.l1 k x0 x1 x2 x3 (wrap64 (x10+1))))
def bY.l2:Nat→Int→Int→Int→Int→Int→Int→List Int→Option (Int × List Int)
 | 0,_,_,_,_,_,_,_=>none
 | k+1,x0,x1,x2,x3,x10,x11,x12=>(jm.f x0 x1 x2 x3 x10).bind fun aqW=>(if aqW=true then ((lW.f k x0 x1 x2 x3 x10).bind fun aiG=>(if x12.length < 17592186044416 then (bY.l2 k x0 x1 x2 x3 (wrap64 (x10+1)) x11 (x12 ++ [aiG])) else (none))) else (some (x11,x12)))
end
def bY.f (k:Nat) (a0 a1 a2 a3:Int):Option (Int × List Int):=(lI.f a0 a1 a2 a3).bind fun aqX=>(if aqX=true then (if a2=0 then (none) else (bY.l0 k a0 a1 a2 a3 (wrap64 (Int.tdiv (wrap64 (a3*a1)) a2)))) else (some (0,([]:List Int))))
set_option maxHeartbeats 8000000 in
set_option maxRecDepth 100000 in
theorem bY.calls (k:Nat) (a0 a1 a2 a3 r1:Int) (r2:List Int) (w:World) (h:bY.f k a0 a1 a2 a3=some (r1,r2)) :
  Calls Tryz.prog 114 #[.int .i64 a0,.int .i64 a1,.int .i64 a2,.int .i64 a3] w fun e w'=>∃ v1_:Value,e = .returned (.tuple #[.int .i64 r1,v1_])∧Kd.R (Kd.int .i64) 2 w' w.heap.size (fun _=>True) v1_ r2∧Below w.heap.size w w':=by
 have HB:=aj.mk (Below.refl w.heap.size w)
 have H:=h
 clear h
 unfold bY.f at H
 replace H:=zO H
 obtain ⟨aqX,A5,H⟩:=H
 try dsimp only at H
 by_cases c6:aqX=true
 ·subst c6
  rw [if_pos rfl] at H;try dsimp only at H
  by_cases c7:a2=0
  ·rw [if_pos c7] at H
   exact absurd H (by simp)
  ·rw [if_neg c7] at H
   have jI:(a2 == 0)=false:=beq_eq_false_iff_ne.mpr c7
   have ab3:(a2 != 0)=true:=bne_iff_ne.mpr c7
   have H':=aj.mk H
   clear H
   go_enter Tryz.func114,Tryz.ntmps114
   go_wp2_with (first|((with_reducible refine aA (f:=139) rfl ?_);refine aI (some 17) rfl rfl Tryz.func139 (by kernel_rfl) rfl #[.int .i64 a0,.int .i64 a1,.int .i64 a2,.int .i64 a3] rfl zL ?_;(with_reducible refine (lI.calls a0 a1 a2 a3 true _ A5.out).mono ?_);rintro e w' ⟨rfl,⟨nd,rfl⟩⟩;refine ⟨_,rfl,?_⟩))
   go_loopg [10] k (fun kq v10 w'=>∃ (qj:Int),v10 = .int .i64 qj∧aj (bY.l0 kq a0 a1 a2 a3 qj=some (r1,r2))∧aj (kq≤k)∧aj (Below w.heap.size w w'))
   case atStart=>exact ⟨(wrap64 (Int.tdiv (wrap64 (a3*a1)) a2)),zT,H',⟨Nat.le_refl _⟩,⟨zB⟩⟩
   case round =>
    clear H'
    obtain ⟨qj,rfl,HA,HK1,HB⟩:=hrel
    cases gk with
    | zero=>exact absurd HA.out (by simp [bY.l0])
    | succ k1 =>
     have H:=HA.out
     clear HA
     simp only [bY.l0] at H
     replace H:=zO H
     obtain ⟨aqU,A8,H⟩:=H
     try dsimp only at H
     by_cases c9:aqU=true
     ·subst c9
      rw [if_pos rfl] at H;try dsimp only at H
      have H':=aj.mk H
      clear H
      go_wp2_with (first|((with_reducible refine aA (f:=140) rfl ?_);refine aI (some 30) rfl rfl Tryz.func140 (by kernel_rfl) rfl #[.int .i64 a0,.int .i64 a1,.int .i64 a2,.int .i64 a3,.int .i64 (wrap64 (qj - 1))] rfl zL ?_;(with_reducible refine (jm.calls a0 a1 a2 a3 (wrap64 (qj - 1)) true _ A8.out).mono ?_);rintro e w' ⟨rfl,⟨nd,rfl⟩⟩;refine ⟨_,rfl,?_⟩))
      go_roundg k1
      case measure=>have:=HK1.out;omega
      case rel=>exact ⟨(wrap64 (qj - 1)),zT,H',⟨by have:=HK1.out;omega⟩,⟨zB⟩⟩
     ·replace c9:=Bool.eq_false_iff.mpr c9
      subst c9
      rw [if_neg (show ¬ (false=true) by decide)] at H;try dsimp only at H
      have H':=aj.mk H
      clear H
      go_wp2_with (first|((with_reducible refine aA (f:=140) rfl ?_);refine aI (some 30) rfl rfl Tryz.func140 (by kernel_rfl) rfl #[.int .i64 a0,.int .i64 a1,.int .i64 a2,.int .i64 a3,.int .i64 (wrap64 (qj - 1))] rfl zL ?_;(with_reducible refine (jm.calls a0 a1 a2 a3 (wrap64 (qj - 1)) false _ A8.out).mono ?_);rintro e w' ⟨rfl,⟨nd,rfl⟩⟩;refine ⟨_,rfl,?_⟩))
      try simp only [Act.put,List.setIfInBounds_toArray,List.set_cons_succ,List.set_cons_zero]
      go_loopg [10] k1 (fun kq v10 w'=>∃ (jB:Int),v10 = .int .i64 jB∧aj (bY.l1 kq a0 a1 a2 a3 jB=some (r1,r2))∧aj (kq≤k1)∧aj (Below w.heap.size w w'))
      case atStart=>exact ⟨(qj),zT,H',⟨Nat.le_refl _⟩,⟨zB⟩⟩
      case round =>
       clear H'
       obtain ⟨jB,rfl,HA,HK2,HB⟩:=hrel
       cases gk with
       | zero=>exact absurd HA.out (by simp [bY.l1])
       | succ k2 =>
        have H:=HA.out
        clear HA
        simp only [bY.l1] at H
        replace H:=zO H
        obtain ⟨aqV,A10,H⟩:=H
        try dsimp only at H
        by_cases c11:aqV=true
        ·subst c11
         rw [if_pos rfl] at H;try dsimp only at H
         have H':=aj.mk H
         clear H
         go_wp2_with (first|((with_reducible refine aA (f:=140) rfl ?_);refine aI (some 38) rfl rfl Tryz.func140 (by kernel_rfl) rfl #[.int .i64 a0,.int .i64 a1,.int .i64 a2,.int .i64 a3,.int .i64 jB] rfl zL ?_;(with_reducible refine (jm.calls a0 a1 a2 a3 jB true _ A10.out).mono ?_);rintro e w' ⟨rfl,⟨nd,rfl⟩⟩;refine ⟨_,rfl,?_⟩))
         try simp only [Act.put,List.setIfInBounds_toArray,List.set_cons_succ,List.set_cons_zero]
         go_loopg [10,12] k2 (fun kq v10 v12 w'=>∃ (jZ:Int) (afN:List Int),v10 = .int .i64 jZ∧aj (bY.l2 kq a0 a1 a2 a3 jZ jB afN=some (r1,r2))∧aj (kq≤k2)∧aj (Kd.R (Kd.int .i64) 2 w' w.heap.size (fun _=>True) v12 afN)∧aj (Below w.heap.size w w'))
         case atStart=>exact ⟨(jB),(([]:List Int)),zT,H',⟨Nat.le_refl _⟩,⟨by first|exact Kd.kS _ _ _ _ _|exact Kd.pz _ _ _ _ _|exact Kd.nM _ _ _ _ _|exact Kd.pF _ _ _ _ _|exact Kd.oH _ _ _ _ _⟩,⟨zB⟩⟩
         case round =>
          clear H'
          obtain ⟨jZ,afN,rfl,HA,HK3,akh,HB⟩:=hrel
          cases gk with
          | zero=>exact absurd HA.out (by simp [bY.l2])
          | succ k3 =>
           have H:=HA.out
           clear HA
           simp only [bY.l2] at H
           replace H:=zO H
           obtain ⟨aqW,A12,H⟩:=H
           try dsimp only at H
           by_cases c13:aqW=true
           ·subst c13
            rw [if_pos rfl] at H;try dsimp only at H
            replace H:=zO H
            obtain ⟨aiG,A14,H⟩:=H
            try dsimp only at H
            by_cases c15:afN.length < 17592186044416
            ·rw [if_pos c15] at H
             have an5:=aj.mk c15
             clear c15
             obtain ⟨auW,ahw⟩:∃ y_:List Int,y_=(afN ++ [aiG]):=⟨_,rfl⟩
             replace H:(bY.l2 k3 a0 a1 a2 a3 (wrap64 (jZ+1)) jB auW)=some (r1,r2):=by first|(rw [ahw];with_reducible exact H)|(have H2_:=(Option.bind_some _ _).symm.trans H;rw [ahw];with_reducible exact H2_)|(have H2_:=(Option.bind_some _ _).symm.trans H;with_reducible exact H2_)|with_reducible exact H|(rw [ahw];exact H)|exact H
             have awP:=aj.mk ahw
             clear ahw
             have H':=aj.mk H
             clear H
             go_wp2_with (first|((with_reducible refine aA (f:=140) rfl ?_);refine aI (some 48) rfl rfl Tryz.func140 (by kernel_rfl) rfl #[.int .i64 a0,.int .i64 a1,.int .i64 a2,.int .i64 a3,.int .i64 jZ] rfl zL ?_;(with_reducible refine (jm.calls a0 a1 a2 a3 jZ true _ A12.out).mono ?_);rintro e w' ⟨rfl,⟨nd,rfl⟩⟩;refine ⟨_,rfl,?_⟩)|((with_reducible refine aA (f:=141) rfl ?_);refine aI (some 55) rfl rfl Tryz.func141 (by kernel_rfl) rfl #[.int .i64 a0,.int .i64 a1,.int .i64 a2,.int .i64 a3,.int .i64 jZ] rfl zL ?_;(with_reducible refine (lW.calls k3 a0 a1 a2 a3 jZ aiG _ A14.out).mono ?_);rintro e w16 ⟨rfl,hb⟩;refine ⟨_,rfl,?_⟩;obtain ⟨akh,HB⟩:=zA2 (Kd.ji (by (with_reducible repeat (first|apply Kd.aK|apply Kd.aQ|apply Kd.aW));exact akh.out) hb) (ak zB hb);(try clear hb))|((with_reducible refine jq (b := .append) (xs := #[.tmp 49,.tmp 56]) rfl ?_);at_builtin;refine Kd.kV (Kd.int .i64) (w0:=w) w.heap.size rfl (.tmp 49) (.tmp 56) 44 2 (.int .i64 0) 8 rfl Tryz.underlying44 wY rfl (by decide) (by omega) u12 afN aiG [.int .i64 aiG] (fun _=>True) (fun _=>False) rfl rfl ?aP (fun _ hk=>hk.elim) ?aF ?aO ?aB ?aS ?aL ?_;(case aP=>exact rfl);(case aB=>exact zB);(case aF=>exact (fun _ _=>trivial));(case aO=>exact (by (with_reducible repeat (first|apply Kd.aK|apply Kd.aQ|apply Kd.aW));exact akh.out));(case aS=>exact (bM zB));(case aL=>have:=an5.out;omega);intro aDD w17 ho hb hg hat;rw [← awP.out] at ho;obtain ⟨HB,awQ⟩:=zA2 hb ho;clear ho hb hg hat))
             go_roundg k3
             case measure=>have:=HK1.out;have:=HK2.out;have:=HK3.out;omega
             case rel=>exact ⟨(wrap64 (jZ+1)),(auW),zT,H',⟨by have:=HK1.out;have:=HK2.out;have:=HK3.out;omega⟩,⟨by (with_reducible repeat (first|apply Kd.aK|apply Kd.aQ|apply Kd.aW));exact awQ.out⟩,⟨zB⟩⟩
            ·rw [if_neg c15] at H
             exact absurd H (by simp)
           ·replace c13:=Bool.eq_false_iff.mpr c13
            subst c13
            rw [if_neg (show ¬ (false=true) by decide)] at H;try dsimp only at H
            simp only [Option.some.injEq,Prod.mk.injEq] at H
            obtain ⟨rfl,rfl⟩:=H
            go_wp2_with (first|((with_reducible refine aA (f:=140) rfl ?_);refine aI (some 48) rfl rfl Tryz.func140 (by kernel_rfl) rfl #[.int .i64 a0,.int .i64 a1,.int .i64 a2,.int .i64 a3,.int .i64 jZ] rfl zL ?_;(with_reducible refine (jm.calls a0 a1 a2 a3 jZ false _ A12.out).mono ?_);rintro e w' ⟨rfl,⟨nd,rfl⟩⟩;refine ⟨_,rfl,?_⟩))
            go_ret2
            exact ⟨_,zS,by (with_reducible repeat (first|apply Kd.aK|apply Kd.aQ|apply Kd.aW));exact akh.out,zB⟩
        ·replace c11:=Bool.eq_false_iff.mpr c11
         subst c11
         rw [if_neg (show ¬ (false=true) by decide)] at H;try dsimp only at H
         have H':=aj.mk H
         clear H
         go_wp2_with (first|((with_reducible refine aA (f:=140) rfl ?_);refine aI (some 38) rfl rfl Tryz.func140 (by kernel_rfl) rfl #[.int .i64 a0,.int .i64 a1,.int .i64 a2,.int .i64 a3,.int .i64 jB] rfl zL ?_;(with_reducible refine (jm.calls a0 a1 a2 a3 jB false _ A10.out).mono ?_);rintro e w' ⟨rfl,⟨nd,rfl⟩⟩;refine ⟨_,rfl,?_⟩))
         go_roundg k2
         case measure=>have:=HK1.out;have:=HK2.out;omega
         case rel=>exact ⟨(wrap64 (jB+1)),zT,H',⟨by have:=HK1.out;have:=HK2.out;omega⟩,⟨zB⟩⟩
 ·replace c6:=Bool.eq_false_iff.mpr c6
  subst c6
  rw [if_neg (show ¬ (false=true) by decide)] at H;try dsimp only at H
  simp only [Option.some.injEq,Prod.mk.injEq] at H
  obtain ⟨rfl,rfl⟩:=H
  go_enter Tryz.func114,Tryz.ntmps114
  go_wp2_with (first|((with_reducible refine aA (f:=139) rfl ?_);refine aI (some 17) rfl rfl Tryz.func139 (by kernel_rfl) rfl #[.int .i64 a0,.int .i64 a1,.int .i64 a2,.int .i64 a3] rfl zL ?_;(with_reducible refine (lI.calls a0 a1 a2 a3 false _ A5.out).mono ?_);rintro e w' ⟨rfl,⟨nd,rfl⟩⟩;refine ⟨_,rfl,?_⟩))
  go_ret2
  exact ⟨_,zS,by first|exact Kd.kS _ _ _ _ _|exact Kd.pz _ _ _ _ _|exact Kd.nM _ _ _ _ _|exact Kd.pF _ _ _ _ _|exact Kd.oH _ _ _ _ _,zB⟩
def iU.f (a0:Int):Option (Int):=if a0≥0 then (some a0) else (if a0 < (-9223372036854775807) then (some 9223372036854775807) else (some (wrap64 (-a0))))
set_option maxHeartbeats 8000000 in
set_option maxRecDepth 100000 in
theorem iU.calls (a0 r:Int) (w:World) (h:iU.f a0=some r) :
  Calls Tryz.prog 142 #[.int .i64 a0] w fun e w'=>e = .returned (.int .i64 r)∧dH w w':=by
 have H:=h
 clear h
 unfold iU.f at H
 by_cases c2:a0≥0
 ·rw [if_pos c2] at H
  have lS:=decide_eq_true c2
  clear c2
  obtain rfl:=Option.some.inj H
  go_enter Tryz.func142,Tryz.ntmps142
  go_wp2
  go_ret
  exact ⟨zT,zW⟩
 ·rw [if_neg c2] at H
  have lS:=decide_eq_false c2
  clear c2
  by_cases c3:a0 < (-9223372036854775807)
  ·rw [if_pos c3] at H
   have gq:=decide_eq_true c3
   clear c3
   obtain rfl:=Option.some.inj H
   go_enter Tryz.func142,Tryz.ntmps142
   go_wp2
   go_ret
   exact ⟨zT,zW⟩
  ·rw [if_neg c3] at H
   have gq:=decide_eq_false c3
   clear c3
   obtain rfl:=Option.some.inj H
   go_enter Tryz.func142,Tryz.ntmps142
   go_wp2
   go_ret
   exact ⟨zT,zW⟩
end Go.Proofs.YtpondkggmcmpfaaGreatDoor.QA
namespace Go.Proofs.YtpondkggmcmpfaaGreatDoor.QA
open Go.Proofs.YtpondkggmcmpfaaGreatDoor.T
open Go.RowKit Go.Proofs.YtpondkggmcmpfaaGreatDoorW.PrintWords Go.Proofs.YtpondkggmcmpfaaGreatDoorW.PrintLast Go.Proofs.YtpondkggmcmpfaaGreatDoorW.PrintMore
attribute [local go_sem] eG dX dY fF fG
set_option linter.unusedVariables false
set_option linter.unusedSimpArgs false
def iw.j0:Nat→Int→Int→Bool→Option (Int)
 | 0,_,_,_=>none
 | k+1,x0,x1,x12=>if x12=true then (some 9223372036854775807) else (if x1 < 0 then (if x0 < (wrap64 ((-9223372036854775808) - x1)) then (some (-9223372036854775808)) else (some (wrap64 (x0+x1)))) else (some (wrap64 (x0+x1))))
def iw.f (k:Nat) (a0 a1:Int):Option (Int):=if a1 > 0 then (iw.j0 k a0 a1 (decide (a0 > (wrap64 (9223372036854775807 - a1))))) else (iw.j0 k a0 a1 false)
set_option maxHeartbeats 8000000 in
set_option maxRecDepth 100000 in
theorem iw.calls (k:Nat) (a0 a1 r:Int) (w:World) (h:iw.f k a0 a1=some r) :
  Calls Tryz.prog 147 #[.int .i64 a0,.int .i64 a1] w fun e w'=>e = .returned (.int .i64 r)∧dH w w':=by
 have H:=h
 clear h
 unfold iw.f at H
 have HC3:=aj.mk H
 clear H
 go_enter Tryz.func147,Tryz.ntmps147
 go_upto_region 1 with (fail)
 go_cut [12] (fun v12 wc=>∃ (kq:Nat) (aki:Bool),v12 = .bool aki∧aj (iw.j0 kq a0 a1 aki=some r)∧aj (kq≤k)∧dH w wc)
 case first =>
  have H:=HC3.out
  clear HC3
  by_cases c4:a1 > 0
  ·rw [if_pos c4] at H
   have gI:=decide_eq_true c4
   clear c4
   (first|rw [gI]|(simp only [cZ,dB];rw [gI])|skip)
   have H':=aj.mk H
   clear H
   go_wp2
   go_meet
   case rel=>exact ⟨_,(decide (a0 > (wrap64 (9223372036854775807 - a1)))),zT,H',⟨by first|omega|exact Nat.le_refl _⟩,zW⟩
  ·rw [if_neg c4] at H
   have gI:=decide_eq_false c4
   clear c4
   (first|rw [gI]|(simp only [cZ,dB];rw [gI])|skip)
   have H':=aj.mk H
   clear H
   go_wp2
   go_meet
   case rel=>exact ⟨_,(false),zT,H',⟨by first|omega|exact Nat.le_refl _⟩,zW⟩
 case rest =>
  clear HC3
  obtain ⟨kq,aki,rfl,HA,HJ2,⟨mc2,rfl⟩⟩:=hcut
  cases kq with
  | zero=>exact absurd HA.out (by simp [iw.j0])
  | succ kj2 =>
   have H:=HA.out
   clear HA
   simp only [iw.j0] at H
   by_cases c5:aki=true
   ·subst c5
    rw [if_pos rfl] at H;try dsimp only at H
    obtain rfl:=Option.some.inj H
    go_wp2
    go_ret
    exact ⟨zT,zW⟩
   ·replace c5:=Bool.eq_false_iff.mpr c5
    subst c5
    rw [if_neg (show ¬ (false=true) by decide)] at H;try dsimp only at H
    by_cases c6:a1 < 0
    ·rw [if_pos c6] at H
     have iJ:=decide_eq_true c6
     clear c6
     by_cases c7:a0 < (wrap64 ((-9223372036854775808) - a1))
     ·rw [if_pos c7] at H
      have jI:=decide_eq_true c7
      clear c7
      obtain rfl:=Option.some.inj H
      go_wp2
      go_ret
      exact ⟨zT,zW⟩
     ·rw [if_neg c7] at H
      have jI:=decide_eq_false c7
      clear c7
      obtain rfl:=Option.some.inj H
      go_wp2
      go_ret
      exact ⟨zT,zW⟩
    ·rw [if_neg c6] at H
     have iJ:=decide_eq_false c6
     clear c6
     obtain rfl:=Option.some.inj H
     go_wp2
     go_ret
     exact ⟨zT,zW⟩
def fC.l0:Nat→Int→List Int→Int→Int→Option (Int)
 | 0,_,_,_,_=>none
 | k+1,x3,x6,x7,x8=>if x8 < x7 then (if 0≤x8 then (if x8 < (x6.length:Int) then ((iw.f k x3 (rd x6 x8)).bind fun an6=>(fC.l0 k an6 x6 x7 (wrap64 (x8+1)))) else (none)) else (none)) else (some x3)
def fC.f (k:Nat) (l0:List Int):Option (Int):=fC.l0 k 0 l0 (l0.length:Int) 0
set_option maxHeartbeats 8000000 in
set_option maxRecDepth 100000 in
theorem fC.calls (k:Nat) (A0:Option Addr) (c0:Nat) (l0:List Int) (r:Int) (w:World) (hr0:Kd.C (Kd.int .i64) w A0 l0.length l0) (hc0:l0.length≤c0) (h:fC.f k l0=some r) :
  Calls Tryz.prog 143 #[.slice A0 l0.length c0] w fun e w'=>e = .returned (.int .i64 r)∧dH w w':=by
 have HR0:=aj.mk hr0
 have HC0:=aj.mk hc0
 clear hr0 hc0
 have H:=h
 clear h
 unfold fC.f at H
 have H':=aj.mk H
 clear H
 go_enter Tryz.func143,Tryz.ntmps143
 go_wp2
 go_loopg [3,8] k (fun kq v3 v8 w'=>∃ (oK:Int) (bC:Int),v3 = .int .i64 oK∧v8 = .int .i64 bC∧aj (fC.l0 kq oK l0 (l0.length:Int) bC=some r)∧aj (kq≤k)∧dH w w')
 case atStart=>exact ⟨(0),(0),zT,zT,H',⟨Nat.le_refl _⟩,zW⟩
 case round =>
  clear H'
  obtain ⟨oK,bC,rfl,rfl,HA,HK1,⟨m1,rfl⟩⟩:=hrel
  cases gk with
  | zero=>exact absurd HA.out (by simp [fC.l0])
  | succ k1 =>
   have H:=HA.out
   clear HA
   simp only [fC.l0] at H
   by_cases c2:bC < (l0.length:Int)
   ·rw [if_pos c2] at H
    have lS:=decide_eq_true c2
    clear c2
    by_cases c3:0≤bC
    ·rw [if_pos c3] at H
     have gq:=decide_eq_true c3
     clear c3
     by_cases c4:bC < (l0.length:Int)
     ·rw [if_pos c4] at H
      have gI:=decide_eq_true c4
      clear c4
      replace H:=zO H
      obtain ⟨an6,A5,H⟩:=H
      try dsimp only at H
      have H':=aj.mk H
      clear H
      have aqY:0≤(bC:Int):=of_decide_eq_true (by first|(with_reducible assumption)|assumption)
      have aqZ:bC < (l0.length:Int):=of_decide_eq_true (by first|(with_reducible assumption)|assumption)
      obtain ⟨aCv,ayc,aAc⟩:=Kd.jV HR0.out bC aqY aqZ
      cases ayc
      replace aqY:=eq_true aqY
      replace aqZ:=eq_true aqZ
      go_wp2_with (first|((with_reducible refine aA (f:=147) rfl ?_);refine aI (some 14) rfl rfl Tryz.func147 (by kernel_rfl) rfl #[.int .i64 oK,.int .i64 (rd l0 bC)] rfl zL ?_;(with_reducible refine (iw.calls k1 oK (rd l0 bC) an6 _ A5.out).mono ?_);rintro e w' ⟨rfl,⟨nd,rfl⟩⟩;refine ⟨_,rfl,?_⟩))
      go_roundg k1
      case measure=>have:=HK1.out;omega
      case rel=>exact ⟨(an6),(wrap64 (bC+1)),zT,zT,H',⟨by have:=HK1.out;omega⟩,zW⟩
     ·rw [if_neg c4] at H
      exact absurd H (by simp)
    ·rw [if_neg c3] at H
     exact absurd H (by simp)
   ·rw [if_neg c2] at H
    have lS:=decide_eq_false c2
    clear c2
    obtain rfl:=Option.some.inj H
    go_wp2
    go_ret
    exact ⟨zT,zW⟩
end Go.Proofs.YtpondkggmcmpfaaGreatDoor.QA
namespace Go.Proofs.YtpondkggmcmpfaaGreatDoor.QA
open Go.Proofs.YtpondkggmcmpfaaGreatDoor.T
open Go.RowKit Go.Proofs.YtpondkggmcmpfaaGreatDoorW.PrintWords Go.Proofs.YtpondkggmcmpfaaGreatDoorW.PrintLast Go.Proofs.YtpondkggmcmpfaaGreatDoorW.PrintMore
attribute [local go_sem] eG dX dY fF fG
set_option linter.unusedVariables false
set_option linter.unusedSimpArgs false
def dZ.j0:Nat→Bool→Bool→Int→Int→Option (Int)
 | 0,_,_,_,_=>none
 | k+1,x7,x28,amU,amV=>if x28=true then ((iq.f amU amV 0 1).bind fun asZ=>((bW.f k asZ.1 asZ.2 x7).bind fun ald=>(some ald))) else ((bW.f k amU amV x7).bind fun ale=>(some ale))
def dZ.f (k:Nat) (a0 a1:Int):Option (Int):=if a1=0 then (some 0) else ((dQ.f a0).bind fun ae9=>((dQ.f a1).bind fun afa=>((fH.f k 0 ae9 afa).bind fun ahx=>(if ((decide (a0 < 0)) != (decide (a1 < 0)))=true then (dZ.j0 k ((decide (a0 < 0)) != (decide (a1 < 0))) (decide (ahx.2.2 > 0)) ahx.1 ahx.2.1) else (dZ.j0 k ((decide (a0 < 0)) != (decide (a1 < 0))) false ahx.1 ahx.2.1)))))
set_option maxHeartbeats 8000000 in
set_option maxRecDepth 100000 in
theorem dZ.calls (k:Nat) (a0 a1 r:Int) (w:World) (h:dZ.f k a0 a1=some r) :
  Calls Tryz.prog 144 #[.int .i64 a0,.int .i64 a1] w fun e w'=>e = .returned (.int .i64 r)∧Below w.heap.size w w':=by
 have yR:=Tryz.underlying179
 have HB:=aj.mk (Below.refl w.heap.size w)
 have H:=h
 clear h
 unfold dZ.f at H
 by_cases c3:a1=0
 ·rw [if_pos c3] at H
  have gq:(a1 == 0)=true:=beq_iff_eq.mpr c3
  have yD:(a1 != 0)=false:=bne_eq_false_iff_eq.mpr c3
  clear c3
  obtain rfl:=Option.some.inj H
  go_enter Tryz.func144,Tryz.ntmps144
  go_wp2
  go_ret
  exact ⟨zS,zB⟩
 ·rw [if_neg c3] at H
  have gq:(a1 == 0)=false:=beq_eq_false_iff_ne.mpr c3
  have yD:(a1 != 0)=true:=bne_iff_ne.mpr c3
  replace H:=zO H
  obtain ⟨ae9,A4,H⟩:=H
  try dsimp only at H
  replace H:=zO H
  obtain ⟨afa,A5,H⟩:=H
  try dsimp only at H
  replace H:=zO H
  obtain ⟨⟨wR,wS,aq0⟩,A6,H⟩:=H
  try dsimp only at H
  rcases Bool.eq_false_or_eq_true ((decide (a0 < 0)) != (decide (a1 < 0))) with hsv|hsv
  ·have um:((decide (a0 < 0)) != (decide (a1 < 0)))=true:=hsv
   have an7:((decide (a0 < 0)) == (decide (a1 < 0)))=false:=by simpa using hsv
   have HC7:=aj.mk H
   clear H
   go_enter Tryz.func144,Tryz.ntmps144
   go_upto_region 5 with (first|((with_reducible refine aA (f:=120) rfl ?_);refine aI (some 12) rfl rfl Tryz.func120 (by kernel_rfl) rfl #[.int .i64 a0] rfl zL ?_;(with_reducible refine (dQ.calls a0 ae9 _ A4.out).mono ?_);rintro e w' ⟨rfl,⟨nd,rfl⟩⟩;refine ⟨_,rfl,?_⟩)|((with_reducible refine aA (f:=120) rfl ?_);refine aI (some 15) rfl rfl Tryz.func120 (by kernel_rfl) rfl #[.int .i64 a1] rfl zL ?_;(with_reducible refine (dQ.calls a1 afa _ A5.out).mono ?_);rintro e w' ⟨rfl,⟨nd,rfl⟩⟩;refine ⟨_,rfl,?_⟩)|((with_reducible refine aA (f:=172) rfl ?_);refine aI (some 16) rfl rfl Tryz.func172 (by kernel_rfl) rfl #[.agg #[.int .u64 0,.int .u64 ae9],.int .u64 afa] rfl zL ?_;(with_reducible refine (fH.calls k 0 ae9 afa wR wS aq0 _ A6.out).mono ?_);rintro e w8 ⟨rfl,hb⟩;refine ⟨_,rfl,?_⟩;replace HB:=aj.mk (ak zB hb);(try clear hb))|((with_reducible refine bK (N:=5) rfl ?_);refine bJ zR (N:=5) zR (cs := #[.int .u64 0,.int .u64 0]) (t:=179) zG ?_;intro ahy hg w9 hbox hb;obtain ⟨HB,kL,awR,awS⟩:=zA4 (ak zB hb) hbox (zg hg zB) (zg hg zB);clear hb hbox hg;obtain ⟨_,_⟩:=zC2 kL.out;obtain ⟨_,_⟩:=zF2 kL.out))
   (try simp only [Act.put,List.setIfInBounds_toArray,List.set_cons_zero,List.set_cons_succ])
   go_cut [28] (fun v28 wc=>∃ (kq:Nat) (abO:Bool),v28 = .bool abO∧aj (dZ.j0 kq ((decide (a0 < 0)) != (decide (a1 < 0))) abO wR wS=some r)∧aj (kq≤k)∧aj (wc.heap[ahy]? = some (.cells #[.int .u64 wR,.int .u64 wS] 179 (0,0)))∧aj (Below w.heap.size w wc))
   case first =>
    have H:=HC7.out
    clear HC7
    by_cases c11:((decide (a0 < 0)) != (decide (a1 < 0)))=true
    ·rw [if_pos c11] at H
     have jf:((decide (a0 < 0)) != (decide (a1 < 0)))=true:=c11
     (try (have aag:decide ((decide (a0 < 0))=(decide (a1 < 0)))=false:=by simpa using c11))
     (try (have an8:((decide (a0 < 0)) == (decide (a1 < 0)))=false:=by simpa using c11))
     (try (have awT:¬ ((decide (a0 < 0))=(decide (a1 < 0))):=by simpa using c11))
     clear c11
     (first|rw [jf]|(simp only [cZ,dB];rw [jf])|skip)
     have H':=aj.mk H
     clear H
     go_wp2
     go_meet
     case rel=>exact ⟨_,(decide (aq0 > 0)),zT,H',⟨by first|omega|exact Nat.le_refl _⟩,⟨by refine zD ?_;refine aJ (cs := #[.int .u64 wR,.int .u64 0]) ?_ 1 _ rfl;refine zD ?_;refine aJ (cs := #[.int .u64 0,.int .u64 0]) ?_ 0 _ rfl;refine zD ?_;exact kL.out⟩,⟨zB⟩⟩
    ·rw [if_neg c11] at H
     have jf:((decide (a0 < 0)) != (decide (a1 < 0)))=false:=by simpa using c11
     exact absurd (um.symm.trans jf) (by decide)
   case rest =>
    clear HC7
    obtain ⟨kq,abO,rfl,HA,HJ6,kL,HB⟩:=hcut
    cases kq with
    | zero=>exact absurd HA.out (by simp [dZ.j0])
    | succ kj6 =>
     have H:=HA.out
     clear HA
     simp only [dZ.j0] at H
     by_cases c12:abO=true
     ·subst c12
      rw [if_pos rfl] at H;try dsimp only at H
      replace H:=zO H
      obtain ⟨⟨ace,ad4⟩,A13,H⟩:=H
      try dsimp only at H
      replace H:=zO H
      obtain ⟨ald,A14,H⟩:=H
      try dsimp only at H
      obtain rfl:=Option.some.inj H
      obtain ⟨_,_⟩:=zC2 kL.out
      obtain ⟨_,_⟩:=zF2 kL.out
      go_wp2_with (first|((with_reducible refine aA (f:=124) rfl ?_);refine aI (some 31) rfl rfl Tryz.func124 (by kernel_rfl) rfl #[.agg #[.int .u64 wR,.int .u64 wS],.agg #[.int .u64 0,.int .u64 1]] rfl zL ?_;(with_reducible refine (iq.calls wR wS 0 1 ace ad4 _ A13.out).mono ?_);rintro e w16 ⟨rfl,hb⟩;refine ⟨_,rfl,?_⟩;obtain ⟨kL,HB⟩:=zA2 (ay (zK kL) hb) (ak zB hb);(try clear hb);obtain ⟨_,_⟩:=zC2 kL.out;obtain ⟨_,_⟩:=zF2 kL.out)|((with_reducible refine aA (f:=125) rfl ?_);refine aI (some 34) rfl rfl Tryz.func125 (by kernel_rfl) rfl #[.agg #[.int .u64 ace,.int .u64 ad4],.bool true] rfl zL ?_;(with_reducible refine (bW.calls kj6 ace ad4 true ald _ (by have h:=A14.out;rw [um] at h;exact h)).mono ?_);rintro e w18 ⟨rfl,hb⟩;refine ⟨_,rfl,?_⟩;obtain ⟨kL,HB⟩:=zA2 (ay (g:=ahy) (o := .cells #[.int .u64 ace,.int .u64 ad4] 179 (0,0)) (by refine zD ?_;refine aJ (cs := #[.int .u64 ace,.int .u64 wS]) ?_ 1 _ rfl;refine zD ?_;refine aJ (cs := #[.int .u64 wR,.int .u64 wS]) ?_ 0 _ rfl;refine zD ?_;exact kL.out) hb) (ak zB hb);(try clear hb)))
      go_ret
      exact ⟨zS,zB⟩
     ·replace c12:=Bool.eq_false_iff.mpr c12
      subst c12
      rw [if_neg (show ¬ (false=true) by decide)] at H;try dsimp only at H
      replace H:=zO H
      obtain ⟨ale,A19,H⟩:=H
      try dsimp only at H
      obtain rfl:=Option.some.inj H
      obtain ⟨_,_⟩:=zC2 kL.out
      obtain ⟨_,_⟩:=zF2 kL.out
      go_wp2_with (first|((with_reducible refine aA (f:=125) rfl ?_);refine aI (some 34) rfl rfl Tryz.func125 (by kernel_rfl) rfl #[.agg #[.int .u64 wR,.int .u64 wS],.bool true] rfl zL ?_;(with_reducible refine (bW.calls kj6 wR wS true ale _ (by have h:=A19.out;rw [um] at h;exact h)).mono ?_);rintro e w21 ⟨rfl,hb⟩;refine ⟨_,rfl,?_⟩;obtain ⟨kL,HB⟩:=zA2 (ay (zK kL) hb) (ak zB hb);(try clear hb)))
      go_ret
      exact ⟨zS,zB⟩
  ·have um:((decide (a0 < 0)) != (decide (a1 < 0)))=false:=hsv
   have an7:((decide (a0 < 0)) == (decide (a1 < 0)))=true:=by simpa using hsv
   have HC7:=aj.mk H
   clear H
   go_enter Tryz.func144,Tryz.ntmps144
   go_upto_region 5 with (first|((with_reducible refine aA (f:=120) rfl ?_);refine aI (some 12) rfl rfl Tryz.func120 (by kernel_rfl) rfl #[.int .i64 a0] rfl zL ?_;(with_reducible refine (dQ.calls a0 ae9 _ A4.out).mono ?_);rintro e w' ⟨rfl,⟨nd,rfl⟩⟩;refine ⟨_,rfl,?_⟩)|((with_reducible refine aA (f:=120) rfl ?_);refine aI (some 15) rfl rfl Tryz.func120 (by kernel_rfl) rfl #[.int .i64 a1] rfl zL ?_;(with_reducible refine (dQ.calls a1 afa _ A5.out).mono ?_);rintro e w' ⟨rfl,⟨nd,rfl⟩⟩;refine ⟨_,rfl,?_⟩)|((with_reducible refine aA (f:=172) rfl ?_);refine aI (some 16) rfl rfl Tryz.func172 (by kernel_rfl) rfl #[.agg #[.int .u64 0,.int .u64 ae9],.int .u64 afa] rfl zL ?_;(with_reducible refine (fH.calls k 0 ae9 afa wR wS aq0 _ A6.out).mono ?_);rintro e w8 ⟨rfl,hb⟩;refine ⟨_,rfl,?_⟩;replace HB:=aj.mk (ak zB hb);(try clear hb))|((with_reducible refine bK (N:=5) rfl ?_);refine bJ zR (N:=5) zR (cs := #[.int .u64 0,.int .u64 0]) (t:=179) zG ?_;intro ahy hg w9 hbox hb;obtain ⟨HB,kL,awR,awS⟩:=zA4 (ak zB hb) hbox (zg hg zB) (zg hg zB);clear hb hbox hg;obtain ⟨_,_⟩:=zC2 kL.out;obtain ⟨_,_⟩:=zF2 kL.out))
   (try simp only [Act.put,List.setIfInBounds_toArray,List.set_cons_zero,List.set_cons_succ])
   go_cut [28] (fun v28 wc=>∃ (kq:Nat) (abO:Bool),v28 = .bool abO∧aj (dZ.j0 kq ((decide (a0 < 0)) != (decide (a1 < 0))) abO wR wS=some r)∧aj (kq≤k)∧aj (wc.heap[ahy]? = some (.cells #[.int .u64 wR,.int .u64 wS] 179 (0,0)))∧aj (Below w.heap.size w wc))
   case first =>
    have H:=HC7.out
    clear HC7
    by_cases c11:((decide (a0 < 0)) != (decide (a1 < 0)))=true
    ·rw [if_pos c11] at H
     have jf:((decide (a0 < 0)) != (decide (a1 < 0)))=true:=c11
     exact absurd (um.symm.trans jf) (by decide)
    ·rw [if_neg c11] at H
     have jf:((decide (a0 < 0)) != (decide (a1 < 0)))=false:=by simpa using c11
     (try (have aag:decide ((decide (a0 < 0))=(decide (a1 < 0)))=true:=by simpa using c11))
     (try (have an8:((decide (a0 < 0)) == (decide (a1 < 0)))=true:=by simpa using c11))
     clear c11
     (first|rw [jf]|(simp only [cZ,dB];rw [jf])|skip)
     have H':=aj.mk H
     clear H
     go_wp2
     go_meet
     case rel=>exact ⟨_,(false),zT,H',⟨by first|omega|exact Nat.le_refl _⟩,⟨by refine zD ?_;refine aJ (cs := #[.int .u64 wR,.int .u64 0]) ?_ 1 _ rfl;refine zD ?_;refine aJ (cs := #[.int .u64 0,.int .u64 0]) ?_ 0 _ rfl;refine zD ?_;exact kL.out⟩,⟨zB⟩⟩
   case rest =>
    clear HC7
    obtain ⟨kq,abO,rfl,HA,HJ6,kL,HB⟩:=hcut
    cases kq with
    | zero=>exact absurd HA.out (by simp [dZ.j0])
    | succ kj6 =>
     have H:=HA.out
     clear HA
     simp only [dZ.j0] at H
     by_cases c12:abO=true
     ·subst c12
      rw [if_pos rfl] at H;try dsimp only at H
      replace H:=zO H
      obtain ⟨⟨ace,ad4⟩,A13,H⟩:=H
      try dsimp only at H
      replace H:=zO H
      obtain ⟨ald,A14,H⟩:=H
      try dsimp only at H
      obtain rfl:=Option.some.inj H
      obtain ⟨_,_⟩:=zC2 kL.out
      obtain ⟨_,_⟩:=zF2 kL.out
      go_wp2_with (first|((with_reducible refine aA (f:=124) rfl ?_);refine aI (some 31) rfl rfl Tryz.func124 (by kernel_rfl) rfl #[.agg #[.int .u64 wR,.int .u64 wS],.agg #[.int .u64 0,.int .u64 1]] rfl zL ?_;(with_reducible refine (iq.calls wR wS 0 1 ace ad4 _ A13.out).mono ?_);rintro e w16 ⟨rfl,hb⟩;refine ⟨_,rfl,?_⟩;obtain ⟨kL,HB⟩:=zA2 (ay (zK kL) hb) (ak zB hb);(try clear hb);obtain ⟨_,_⟩:=zC2 kL.out;obtain ⟨_,_⟩:=zF2 kL.out)|((with_reducible refine aA (f:=125) rfl ?_);refine aI (some 34) rfl rfl Tryz.func125 (by kernel_rfl) rfl #[.agg #[.int .u64 ace,.int .u64 ad4],.bool false] rfl zL ?_;(with_reducible refine (bW.calls kj6 ace ad4 false ald _ (by have h:=A14.out;rw [um] at h;exact h)).mono ?_);rintro e w18 ⟨rfl,hb⟩;refine ⟨_,rfl,?_⟩;obtain ⟨kL,HB⟩:=zA2 (ay (g:=ahy) (o := .cells #[.int .u64 ace,.int .u64 ad4] 179 (0,0)) (by refine zD ?_;refine aJ (cs := #[.int .u64 ace,.int .u64 wS]) ?_ 1 _ rfl;refine zD ?_;refine aJ (cs := #[.int .u64 wR,.int .u64 wS]) ?_ 0 _ rfl;refine zD ?_;exact kL.out) hb) (ak zB hb);(try clear hb)))
      go_ret
      exact ⟨zS,zB⟩
     ·replace c12:=Bool.eq_false_iff.mpr c12
      subst c12
      rw [if_neg (show ¬ (false=true) by decide)] at H;try dsimp only at H
      replace H:=zO H
      obtain ⟨ale,A19,H⟩:=H
      try dsimp only at H
      obtain rfl:=Option.some.inj H
      obtain ⟨_,_⟩:=zC2 kL.out
      obtain ⟨_,_⟩:=zF2 kL.out
      go_wp2_with (first|((with_reducible refine aA (f:=125) rfl ?_);refine aI (some 34) rfl rfl Tryz.func125 (by kernel_rfl) rfl #[.agg #[.int .u64 wR,.int .u64 wS],.bool false] rfl zL ?_;(with_reducible refine (bW.calls kj6 wR wS false ale _ (by have h:=A19.out;rw [um] at h;exact h)).mono ?_);rintro e w21 ⟨rfl,hb⟩;refine ⟨_,rfl,?_⟩;obtain ⟨kL,HB⟩:=zA2 (ay (zK kL) hb) (ak zB hb);(try clear hb)))
      go_ret
      exact ⟨zS,zB⟩
end Go.Proofs.YtpondkggmcmpfaaGreatDoor.QA
